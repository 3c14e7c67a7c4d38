/-
  A part of the proof of: The statement LiveIntervals (quernlaw17) holds of the given program: for every function of blocks and every line that can be read as data, and laid where the program's own text lays the table math/bits.deBruijn64tab, it returns true, and its input reads as it did.
-/
import Derived.Test.YtmdfllipmnekoaaDoorw2
import Derived.Test.YtmdfllipmnekoaaDoorProg

/- The contracts of the document's own 'formed' and of the program's. -/
set_option maxRecDepth 100000
set_option linter.unusedVariables false
set_option linter.unusedSimpArgs false
open Go Go.Fw Go.Proofs
namespace Go.Proofs.Try

abbrev fv (f : Fnc) (p : Option Addr) (n c : Nat) (q : Option Addr) (m d : Nat) : List Value := [.string f.name, .slice p n c, .int .i64 f.regs, .int .i64 f.result, .slice q m d]
abbrev xv (x : Ins) (p : Option Addr) (n c : Nat) : List Value := [.int .i64 x.op, .int .i64 x.dst, .int .i64 x.imm, .slice p n c]
abbrev tv (x : Trm) (p : Option Addr) (n c : Nat) : List Value := [.int .i64 x.kind, .int .i64 x.value, .slice p n c]

theorem c40 {h : H} {f : Fnc} {p : Option Addr} {n c : Nat} {q : Option Addr} {m d : Nat} {r : Int} {R : Value → H → Prop} (k : ∀ q h', Ext h h' → (q = true ↔ RegP f r) → R (.bool q) h') :
    HC Tryd.prog 40 [.agg ⟨fv f p n c q m d⟩, .int .i64 r] h R := by
  apply hc40; unfold sh40; intro bf h1 hN
  have g := New.keep hN h1 Ext.rfl'
  simp only [Nat.zero_add, g 2 _ rfl, exI]
  refine ⟨fun h0 => k _ _ hN.ext ?_, fun h0 => k _ _ hN.ext ?_⟩ <;> simp only [RegP, decide_eq_true_eq] <;> first | omega | simp; omega

theorem c67 {h : H} {op : Int} {R : Value → H → Prop} (kk : ∀ n s ok, (ok = true ∧ OpR op n s) ∨ (ok = false ∧ ¬ (1 ≤ op ∧ op ≤ 24) ∧ ¬ (26 ≤ op ∧ op ≤ 31)) → R (.tuple ⟨[.int .i64 n, .bool s, .bool ok]⟩) h) : HC Tryd.prog 67 [.int .i64 op] h R := by
  apply hc67; unfold sh67
  repeat' (first | apply kk | refine And.intro (fun _ => ?_) (fun _ => ?_))
  all_goals (unfold OpR; simp only [reduceCtorEq, and_false, false_and, and_true, true_and, or_false, false_or]; omega)

theorem c41 {h : H} {f : Fnc} {p : Option Addr} {n c : Nat} {q : Option Addr} {m d : Nat} {x : Ins} {ap : Option Addr} {an ac : Nat} {R : Value → H → Prop} (ha : IntsAt h ap an x.args) (hn : (an : Int) < 9223372036854775807)
    (k : ∀ q h', Ext h h' → (q = true ↔ InsP f x) → R (.bool q) h') :
    HC Tryd.prog 41 [.agg ⟨fv f p n c q m d⟩, .agg ⟨xv x ap an ac⟩] h R := by
  apply hc41; unfold sh41; intro bf h1 hN1 bx h2 hN2
  have e1 := hN1.ext.trans hN2.ext
  have gx := New.keep hN2
  have gf : ∀ h', Ext h2 h' → _ := fun h' e => New.keep hN1 h' (hN2.ext.trans e)
  refine fwd an (fun v h' => Ext h2 h' ∧ ∀ r ∈ x.args.take v.toNat, RegP f r) (by omega) ⟨Ext.rfl', by simp⟩ fun v h3 v0 v1 ⟨e2, hall⟩ => ?_
  simp only [Nat.zero_add, gx _ e2 0 _ rfl, gx _ e2 1 _ rfl, gx _ e2 2 _ rfl, gx _ e2 3 _ rfl, gf _ e2 0 _ rfl, gf _ e2 1 _ rfl, gf _ e2 2 _ rfl, gf _ e2 3 _ rfl, gf _ e2 4 _ rfl, exI, exSl, exStr]
  refine ⟨fun hlt => ⟨v0, hlt, ?_⟩, fun hge => ?_⟩
  · obtain ⟨r, b', o', hr, hp, hcell⟩ := (ha.ext (e1.trans e2)).get v0 hlt
    refine onP_at hp ⟨r, hcell, c40 fun q h4 e3 hq => ⟨q, rfl, fun hq' => ?_, fun hq' => ⟨i64ok (by omega) (by omega), fwd_next v0 hlt ⟨e2.trans e3, ?_⟩⟩⟩⟩
    · refine k _ _ ((e1.trans e2).trans e3) ⟨fun h => by simp at h, fun h => ?_⟩
      have := hq.2 (h.1 r (List.mem_of_getElem? hr)); simp [this] at hq'
    · rw [show (v + 1).toNat = v.toNat + 1 by omega, take_succ_all hr]
      exact ⟨hall, hq.1 (by simpa using hq')⟩
  · have hv : v.toNat = an := by omega
    have hA : ∀ r ∈ x.args, RegP f r := by rw [hv, ← ha.len, List.take_length] at hall; exact hall
    have hl := ha.len
    have kk : ∀ q h', Ext h3 h' → (q = true ↔ InsQ f x) → R (.bool q) h' := fun q h' e => by rw [← insP_iff hA]; exact k q h' ((e1.trans e2).trans e)
    clear k
    refine ⟨fun o25 => ?_, fun n25 => c67 fun n s ok hm => ⟨_, _, _, rfl, ?_⟩⟩
    · simp only [insQ_call o25, hl] at kk
      repeat' (first | refine kk _ _ Ext.rfl' ?_ | refine c40 (fun q h' e hq => ⟨_, rfl, kk _ _ e ?_⟩) | refine And.intro (fun _ => ?_) (fun _ => ?_))
      all_goals first | (simp [*]; done) | (simp_all; done) | (simp_all; omega)
    · rcases hm with ⟨rfl, hr⟩ | ⟨rfl, h4, h5⟩
      · simp only [insQ_row hr, hl] at kk
        have hs : x.op = 28 ∨ x.op = 29 ∨ x.op = 30 → s = false := by
          intro h; unfold OpR at hr; cases s
          · rfl
          · simp only [reduceCtorEq, and_false, false_and, false_or, or_false, and_true, true_and] at hr; omega
        have h28 : (x.op = 28 ∨ x.op = 29 ∨ x.op = 30) ↔ (28 ≤ x.op ∧ x.op ≤ 30) := by omega
        simp only [h28] at kk hs
        clear hr
        simp only [Nat.zero_add, gx _ e2 0 _ rfl, gx _ e2 1 _ rfl, gx _ e2 2 _ rfl, gx _ e2 3 _ rfl, gf _ e2 0 _ rfl, gf _ e2 1 _ rfl, gf _ e2 2 _ rfl, gf _ e2 3 _ rfl, gf _ e2 4 _ rfl, exI, exSl, exStr]
        refine ⟨fun h => by simp at h, fun _ => ⟨fun hne => kk _ _ Ext.rfl' ?_, fun he => ⟨fun hs1 => c40 fun q h4 e3 hq => ⟨_, rfl, ?_⟩, fun hs0 => ?_⟩⟩⟩
        · simp [hne]
        · simp only [gx _ (e2.trans e3) 0 _ rfl, gx _ (e2.trans e3) 1 _ rfl, gx _ (e2.trans e3) 2 _ rfl, exI]
          repeat' (first | refine kk _ _ e3 ?_ | refine And.intro (fun _ => ?_) (fun _ => ?_))
          all_goals first | (simp_all; done) | (simp_all; omega)
        · repeat' (first | refine kk _ _ Ext.rfl' ?_ | refine And.intro (fun _ => ?_) (fun _ => ?_))
          all_goals first | (simp_all; done) | (simp_all; omega)
      · refine ⟨fun h => kk _ _ Ext.rfl' ?_, fun h => by simp at h⟩
        simp [iff_false_intro (insQ_none (by omega) n25 (by omega) h5)]

def TrmQ (f : Fnc) (t : Trm) : Prop := (t.kind = 1 ∧ t.value = -1 ∧ t.to.length = 1) ∨ (t.kind = 2 ∧ RegP f t.value ∧ t.to.length = 2) ∨
   (t.kind = 3 ∧ t.to.length = 0 ∧ (f.result = 0 → t.value = -1) ∧ (f.result ≠ 0 → RegP f t.value)) ∨ (t.kind = 4 ∧ RegP f t.value ∧ t.to.length = 0)
theorem trmP_iff {f : Fnc} {t : Trm} (hA : ∀ r ∈ t.to, 0 ≤ r ∧ r < f.blocks.length) : TrmP f t ↔ TrmQ f t := ⟨fun h => h.2, fun h => ⟨hA, h⟩⟩

theorem c57 {h : H} {b o : Nat} {f : Fnc} {x : Trm} {p : Option Addr} {n c : Nat} {R : Value → H → Prop} (hf : FncAt h b o f) (ha : IntsAt h p n x.to) (hn : (n : Int) < 9223372036854775807)
    (k : ∀ q h', Ext h h' → (q = true ↔ TrmP f x) → R (.bool q) h') :
    HC Tryd.prog 57 [.pointer (some ⟨b, o, none⟩), .agg ⟨tv x p n c⟩] h R := by
  apply hc57; unfold sh57; intro bx h1 hN
  have e1 := hN.ext
  have gx := New.keep hN
  have gx' : ∀ {h'}, Ext h1 h' → cell h' ⟨bx, 2, none⟩ = some (.slice p n c) := fun e => gx _ e 2 _ rfl
  refine ⟨_, _, _, hN.cell (o := 0 + 2) rfl, ?_⟩
  refine fwd n (fun v h' => Ext h1 h' ∧ ∀ r ∈ x.to.take v.toNat, 0 ≤ r ∧ r < f.blocks.length) (by omega) ⟨Ext.rfl', by simp⟩ fun v h2 v0 v1 ⟨e2, hall⟩ => ?_
  have e := e1.trans e2
  have f2 := hf.ext e
  obtain ⟨fp, fn, fc, fq, fm, fd, C⟩ := f2.cells
  have hbl := C.bs.len
  simp only [Nat.zero_add, onP_def, C.c4, C.c3, gx _ e2 0 _ rfl, gx _ e2 1 _ rfl, gx _ e2 2 _ rfl, exI, exSl]
  refine ⟨fun hlt => ⟨v0, hlt, ?_⟩, fun hge => ?_⟩
  · obtain ⟨r, b', o', hr, hp, hcell⟩ := (ha.ext e).get v0 hlt
    refine onP_at hp ⟨r, hcell, fun hr0 => ?_, fun hr0 => ⟨by simp, fun hr1 => ?_, fun hr1 => ⟨i64ok (by omega) (by omega), fwd_next v0 hlt ⟨e2, ?_⟩⟩⟩⟩
    · refine k _ _ e ⟨fun h => by simp at h, fun h => ?_⟩
      have := h.1 r (List.mem_of_getElem? hr); omega
    · refine k _ _ e ⟨fun h => by simp at h, fun h => ?_⟩
      have := h.1 r (List.mem_of_getElem? hr); omega
    · rw [show (v + 1).toNat = v.toNat + 1 by omega, take_succ_all hr]
      exact ⟨hall, by omega, by omega⟩
  · have hv : v.toNat = n := by omega
    have hA : ∀ r ∈ x.to, 0 ≤ r ∧ r < f.blocks.length := by rw [hv, ← ha.len, List.take_length] at hall; exact hall
    have hl := ha.len
    have kk : ∀ q, (q = true ↔ TrmQ f x) → R (.bool q) h2 := fun q => by rw [← trmP_iff hA]; exact k q h2 e
    clear k gx
    unfold TrmQ at kk
    simp only [hl] at kk
    have hn1 : ((n : Int) = 1 ↔ n = 1) ∧ ((n : Int) = 2 ↔ n = 2) ∧ ((n : Int) = 0 ↔ n = 0) := by omega
    obtain ⟨hn1, hn2, hn0⟩ := hn1
    simp only [hn1, hn2, hn0]
    refine ⟨fun k1 => ?_, fun k1 => ⟨fun k2 => ?_, fun k2 => ⟨fun k3 => ?_, fun k3 => ⟨fun k4 => ?_, fun k4 => ?_⟩⟩⟩⟩
    · repeat' (first | refine kk _ ?_ | refine And.intro (fun _ => ?_) (fun _ => ?_))
      all_goals simp_all
    · refine c55 f2 fun q hq => ⟨_, rfl, ?_⟩
      simp only [gx' e2, exSl]
      repeat' (first | refine kk _ ?_ | refine And.intro (fun _ => ?_) (fun _ => ?_))
      all_goals simp_all
    · refine ⟨fun n0 => ⟨by simp, fun r0 => ⟨fun v1 => kk _ ?_, fun v1 => ⟨by simp, fun r1 => c55 f2 fun q hq => ⟨_, rfl, kk _ ?_⟩, fun r1 => kk _ ?_⟩⟩, fun r0 => ⟨by simp, fun r1 => c55 f2 fun q hq => ⟨_, rfl, kk _ ?_⟩, fun r1 => kk _ ?_⟩⟩, fun n0 => kk _ ?_⟩
      all_goals simp_all
    · refine c55 f2 fun q hq => ⟨_, rfl, ?_⟩
      simp only [gx' e2, exSl]
      repeat' (first | refine kk _ ?_ | refine And.intro (fun _ => ?_) (fun _ => ?_))
      all_goals simp_all
    · refine kk _ ?_
      simp_all

theorem c42 {h : H} {f : Fnc} {p : Option Addr} {n c : Nat} {q : Option Addr} {m d : Nat} {x : Trm} {ap : Option Addr} {an ac : Nat} {R : Value → H → Prop} (hm : f.blocks.length = m) (ha : IntsAt h ap an x.to) (hn : (an : Int) < 9223372036854775807)
    (k : ∀ q h', Ext h h' → (q = true ↔ TrmP f x) → R (.bool q) h') :
    HC Tryd.prog 42 [.agg ⟨fv f p n c q m d⟩, .agg ⟨tv x ap an ac⟩] h R := by
  apply hc42; unfold sh42; intro bf h1 hN1 bx h2 hN2
  refine ⟨rfl, by omega, rfl, by omega, rfl, by omega, rfl, by omega, rfl, by omega, fun bw h3 hN3 => ?_⟩
  have e1 := (hN1.ext.trans hN2.ext).trans hN3.ext
  have gx : ∀ h', Ext h3 h' → _ := fun h' e => New.keep hN2 h' (hN3.ext.trans e)
  have gf : ∀ h', Ext h3 h' → _ := fun h' e => New.keep hN1 h' ((hN2.ext.trans hN3.ext).trans e)
  have gw := New.keep hN3
  have hl := ha.len
  have r3 := @Ext.rfl' h3
  simp only [Nat.zero_add, gx _ r3 0 _ rfl, gx _ r3 1 _ rfl, gx _ r3 2 _ rfl, exI, exSl]
  refine ⟨fun k1 => k _ _ e1 ?_, fun k1 => ⟨fun k4 => k _ _ e1 ?_, fun k4 => ⟨by omega, by omega, ?_⟩⟩⟩
  · refine ⟨fun h => by simp at h, fun h => ?_⟩
    have := h.2; omega
  · refine ⟨fun h => by simp at h, fun h => ?_⟩
    have := h.2; omega
  have hw : ∃ w : Nat, cell h3 ⟨bw, x.kind.toNat * 1, none⟩ = some (.int .i64 w) ∧ ((x.kind = 1 ∧ w = 1) ∨ (x.kind = 2 ∧ w = 2) ∨ ((x.kind = 3 ∨ x.kind = 4) ∧ w = 0)) := by
    have : x.kind = 1 ∨ x.kind = 2 ∨ x.kind = 3 ∨ x.kind = 4 := by omega
    rcases this with e | e | e | e <;> rw [e]
    · exact ⟨1, gw _ r3 1 _ rfl, by simp⟩
    · exact ⟨2, gw _ r3 2 _ rfl, by simp⟩
    · exact ⟨0, gw _ r3 3 _ rfl, by simp⟩
    · exact ⟨0, gw _ r3 4 _ rfl, by simp⟩
  obtain ⟨w, hw1, hw2⟩ := hw
  simp only [hw1, exI]
  have hnw : ((an : Int) = (w : Int)) ↔ an = w := by omega
  simp only [hnw]
  refine ⟨fun hne => k _ _ e1 ⟨fun h => by simp at h, fun h => ?_⟩, fun heq => ?_⟩
  · exfalso
    have := h.2; omega
  have heq : an = w := by omega
  refine fwd an (fun v h' => Ext h3 h' ∧ ∀ r ∈ x.to.take v.toNat, 0 ≤ r ∧ r < f.blocks.length) (by omega) ⟨Ext.rfl', by simp⟩ fun v h4 v0 v1 ⟨e2, hall⟩ => ?_
  have e := e1.trans e2
  simp only [gx _ e2 0 _ rfl, gx _ e2 1 _ rfl, gx _ e2 2 _ rfl, gf _ e2 0 _ rfl, gf _ e2 1 _ rfl, gf _ e2 2 _ rfl, gf _ e2 3 _ rfl, gf _ e2 4 _ rfl, exI, exSl, exStr]
  refine ⟨fun hlt => ⟨v0, hlt, ?_⟩, fun hge => ?_⟩
  · obtain ⟨r, b', o', hr, hp, hcell⟩ := (ha.ext e).get v0 hlt
    refine onP_at hp ⟨r, hcell, fun hr0 => ?_, fun hr0 => ⟨v0, hlt, onP_at hp ⟨r, hcell, fun hr1 => ?_, fun hr1 => ⟨i64ok (by omega) (by omega), fwd_next v0 hlt ⟨e2, ?_⟩⟩⟩⟩⟩
    · refine k _ _ e ⟨fun h => by simp at h, fun h => ?_⟩
      have := h.1 r (List.mem_of_getElem? hr); omega
    · refine k _ _ e ⟨fun h => by simp at h, fun h => ?_⟩
      have := h.1 r (List.mem_of_getElem? hr); omega
    · rw [show (v + 1).toNat = v.toNat + 1 by omega, take_succ_all hr]
      exact ⟨hall, by omega, by omega⟩
  · have hv : v.toNat = an := by omega
    have hA : ∀ r ∈ x.to, 0 ≤ r ∧ r < f.blocks.length := by rw [hv, ← ha.len, List.take_length] at hall; exact hall
    have kk : ∀ q h', Ext h4 h' → (q = true ↔ TrmQ f x) → R (.bool q) h' := fun q h' e' => by rw [← trmP_iff hA]; exact k q h' (e.trans e')
    clear k gx gw gf
    unfold TrmQ at kk
    simp only [hl] at kk
    refine ⟨fun q1 => kk _ _ Ext.rfl' ?_, fun q1 => ⟨fun q3 => ⟨fun r0 => kk _ _ Ext.rfl' ?_, fun r0 => c40 fun q h' e hq => ⟨_, rfl, kk _ _ e ?_⟩⟩, fun q3 => c40 fun q h' e hq => ⟨_, rfl, kk _ _ e ?_⟩⟩⟩
    · have : w = 1 := by omega
      simp [q1, heq, this]
    · have : w = 0 := by omega
      simp [q3, heq, this, r0]
    · have : w = 0 := by omega
      simp [q3, heq, this, r0, hq]
    · have : (x.kind = 2 ∧ w = 2) ∨ (x.kind = 4 ∧ w = 0) := by omega
      rcases this with ⟨h1, h2⟩ | ⟨h1, h2⟩ <;> simp [h1, h2, heq, hq]
end Go.Proofs.Try

/- 'formed' whole: the program's, and the document's. -/
set_option maxRecDepth 100000
set_option linter.unusedVariables false
set_option linter.unusedSimpArgs false
open Go Go.Fw Go.Proofs
namespace Go.Proofs.Try

theorem pairwise_take_succ {l : List Int} {i : Nat} {x : Int} (hx : l[i]? = some x) (h : (l.take i).Pairwise (· ≠ ·)) (h2 : ∀ y ∈ l.take i, x ≠ y) : (l.take (i + 1)).Pairwise (· ≠ ·) := by
  rw [List.take_add_one, hx, Option.toList_some, List.pairwise_append]
  refine ⟨h, List.pairwise_singleton _ _, fun a ha b hb => ?_⟩
  rw [List.mem_singleton] at hb; subst hb
  exact fun e => h2 a ha e.symm
theorem not_pairwise {l : List Int} {i j : Nat} {x : Int} (hij : j < i) (hi : l[i]? = some x) (hj : l[j]? = some x) : ¬ l.Pairwise (· ≠ ·) := by
  intro h
  rw [List.pairwise_iff_getElem] at h
  obtain ⟨hi1, hi2⟩ := List.getElem?_eq_some_iff.1 hi
  obtain ⟨hj1, hj2⟩ := List.getElem?_eq_some_iff.1 hj
  exact h j i hj1 hi1 hij (hj2.trans hi2.symm)
theorem take_get {α : Type} {l : List α} {i j : Nat} {x : α} (h : (l.take i)[j]? = some x) : l[j]? = some x ∧ j < i := by
  rw [List.getElem?_take] at h
  split at h
  · exact ⟨h, by assumption⟩
  · cases h

/-- The sizes of a function's lists are those of lists that lie in a memory. -/
def SzI (n : Nat) : Prop := (n : Int) < 9223372036854775807
def SzF (f : Fnc) : Prop := SzI f.params.length ∧ SzI f.blocks.length ∧ ∀ b ∈ f.blocks, SzI b.body.length ∧ SzI b.term.to.length ∧ ∀ x ∈ b.body, SzI x.args.length

theorem c25 {h : H} {b o : Nat} {f : Fnc} {R : Value → H → Prop} (hf : FncAt h b o f) (hz : SzF f) (k : ∀ q h', Ext h h' → (q = true ↔ FncP f) → R (.bool q) h') :
    HC Tryd.prog 25 [.pointer (some ⟨b, o, none⟩)] h R := by
  obtain ⟨fp, fn, fc, fq, fm, fd, C⟩ := hf.cells
  obtain ⟨z1, z2, z3⟩ := hz
  have hpl := C.ps.len
  have hbl := C.bs.len
  unfold SzI at z1 z2
  rw [hpl] at z1; rw [hbl] at z2
  apply hc25; unfold sh25
  have no : (¬ FncP f) → ∀ h', Ext h h' → R (.bool false) h' := fun hn h' e => k _ _ e ⟨fun h => by simp at h, fun h => absurd h hn⟩
  simp only [onP_def, C.c2, C.c1, C.c3, C.c4, exI, exSl]
  refine ⟨by simp, fun k1 => no (fun h => by have := h.1; omega) _ Ext.rfl', fun k1 => ⟨by simp, fun k2 => no (fun h => by have := h.1; omega) _ Ext.rfl', fun k2 => ⟨by simp, fun k3 => no (fun h => by have := h.1; omega) _ Ext.rfl', fun k3 => ⟨by simp, fun k4 => no (fun h => by have := h.1; omega) _ Ext.rfl', fun k4 => ⟨by simp, fun k5 => no (fun h => by have := h.1; omega) _ Ext.rfl', fun k5 => ⟨by simp, fun k6 => no (fun h => by have := h.1; omega) _ Ext.rfl', fun k6 => ⟨by simp, ?_⟩⟩⟩⟩⟩⟩⟩
  refine fwd fn (fun v h' => Ext h h' ∧ (∀ r ∈ f.params.take v.toNat, RegP f r) ∧ (f.params.take v.toNat).Pairwise (· ≠ ·)) (by omega) ⟨Ext.rfl', by simp, by simp⟩ fun v h1 v0 v1 ⟨e1, hall, hpw⟩ => ?_
  have C1 := C.ext e1
  refine ⟨fun hlt => ⟨v0, hlt, ?_⟩, fun hge => ⟨by simp, ?_⟩⟩
  · obtain ⟨r, b', o', hr, hp, hcell⟩ := C1.ps.get v0 hlt
    refine onP_at hp ⟨r, hcell, c55 C1.at_ fun q hq => ⟨q, rfl, fun hq' => ?_, fun hq' => ⟨by simp, ?_⟩⟩⟩
    · refine no (fun h => ?_) _ e1
      have := hq.2 (h.2.1 r (List.mem_of_getElem? hr)); simp [this] at hq'
    have hR := hq.1 (by simpa using hq')
    simp only [C1.c1, exSl]
    have := C.pc
    refine ⟨C.pc, v0, by omega, _, rfl, ?_⟩
    refine fwd v (fun w h' => Ext h h' ∧ ∀ y ∈ (f.params.take v.toNat).take w.toNat, r ≠ y) (by omega) ⟨e1, by simp⟩ fun w h2 w0 w1 ⟨e2, hne⟩ => ⟨fun wl => ⟨w0, by omega, ?_⟩, fun wg => ⟨i64ok (by omega) (by omega), fwd_next v0 hlt ⟨e2, ?_, ?_⟩⟩⟩
    · have C2 := C.ext e2
      obtain ⟨y, b2, o2, hy, hp2, hc2⟩ := C2.ps.get (i := w) w0 (by omega)
      have hyt : (f.params.take v.toNat)[w.toNat]? = some y := by rw [List.getElem?_take, if_pos (by omega)]; exact hy
      refine onP_at hp2 ⟨y, hc2, fun he => no (fun h => ?_) _ e2, fun hn => ⟨i64ok (by omega) (by omega), fwd_next w0 (by omega) ⟨e2, ?_⟩⟩⟩
      · exact not_pairwise (i := v.toNat) (j := w.toNat) (by omega) hr (he ▸ hy) h.2.2.1
      · rw [show (w + 1).toNat = w.toNat + 1 by omega, take_succ_all hyt]
        exact ⟨hne, hn⟩
    · rw [show (v + 1).toNat = v.toNat + 1 by omega, take_succ_all hr]
      exact ⟨hall, hR⟩
    · rw [show (v + 1).toNat = v.toNat + 1 by omega]
      refine pairwise_take_succ hr hpw ?_
      rw [show w = v by omega, List.take_take, Nat.min_self] at hne
      exact hne
  · have hv : v.toNat = fn := by omega
    rw [hv, ← hpl, List.take_length] at hall hpw
    simp only [C1.c4, exSl]
    refine fwd fm (fun v h' => Ext h h' ∧ ∀ x ∈ f.blocks.take v.toNat, BlkP f x) (by omega) ⟨e1, by simp⟩ fun u h4 u0 u1 ⟨e4, hbs⟩ => ⟨fun ul => ⟨u0, ul, ?_⟩, fun ug => ?_⟩
    · obtain ⟨x, b', o', hx, hp, vs, ⟨bp, bn, bc, tp, tn, tc, rfl, hbody, hbc, hto, htc⟩, hcell⟩ := (C.ext e4).bs.get u0 ul
      have hzx := z3 x (List.mem_of_getElem? hx)
      refine onP_at hp ⟨_, _, _, hcell 0 _ rfl, _, hcell 1 _ rfl, _, hcell 2 _ rfl, _, _, _, hcell 3 _ rfl, fun bb h5 hN => hN.st rfl rfl rfl rfl fun h6 e46 gb => ?_⟩
      have e6 := e4.trans e46
      refine ⟨_, _, _, gb _ Ext.rfl' 0 _ rfl, ?_⟩
      have hbl' := hbody.len
      refine fwd bn (fun w h' => Ext h6 h' ∧ ∀ y ∈ x.body.take w.toNat, InsP f y) (by omega) ⟨Ext.rfl', by simp⟩ fun w h7 w0 w1 ⟨e7, hins⟩ => ⟨fun wl => ⟨w0, wl, ?_⟩, fun wg => ?_⟩
      · obtain ⟨y, b2, o2, hy, hp2, vs, ⟨ap, an, ac, rfl, hargs, hac⟩, hc2⟩ := (hbody.mono (e46.trans e7) fun _ _ _ => InsD.ext (e46.trans e7)).get w0 wl
        have hzy := hzx.2.2 y (List.mem_of_getElem? hy)
        have hal := hargs.len
        unfold SzI at hzy
        refine onP_at hp2 ⟨_, hc2 0 _ rfl, _, hc2 1 _ rfl, _, hc2 2 _ rfl, _, _, _, hc2 3 _ rfl, fun bx h8 hN8 => hN8.st rfl rfl rfl rfl fun h9 e9 gi' => ?_⟩
        have gi := gi' _ Ext.rfl'
        refine ⟨_, gi 0 _ rfl, _, gi 1 _ rfl, _, gi 2 _ rfl, _, _, _, gi 3 _ rfl, ?_⟩
        refine c56 (C.at_.ext ((e6.trans e7).trans e9)) ⟨_, _, _, rfl, hargs.ext e9, hac⟩ (by omega) fun q h10 e10 hq => ⟨q, rfl, fun hq' => no (fun h => ?_) _ (((e6.trans e7).trans e9).trans e10), fun hq' => ⟨i64ok (by omega) (by have := hzx.1; unfold SzI at this; omega), fwd_next w0 wl ⟨(e7.trans e9).trans e10, ?_⟩⟩⟩
        · have := hq.2 ((h.2.2.2 x (List.mem_of_getElem? hx)).1 y (List.mem_of_getElem? hy)); simp [this] at hq'
        · rw [show (w + 1).toNat = w.toNat + 1 by omega, take_succ_all hy]
          exact ⟨hins, hq.1 (by simpa using hq')⟩
      · have hw : w.toNat = x.body.length := by omega
        rw [hw, List.take_length] at hins
        have gb' := gb _ e7
        refine ⟨_, gb' 1 _ rfl, _, gb' 2 _ rfl, _, _, _, gb' 3 _ rfl, ?_⟩
        have htl := hto.len
        have hz2 := hzx.2.1
        unfold SzI at hz2
        refine c57 (C.at_.ext (e6.trans e7)) (hto.ext (e46.trans e7)) (by omega) fun q h11 e11 hq => ⟨q, rfl, fun hq' => no (fun h => ?_) _ ((e6.trans e7).trans e11), fun hq' => ⟨i64ok (by omega) (by omega), fwd_next u0 ul ⟨(e6.trans e7).trans e11, ?_⟩⟩⟩
        · have := hq.2 (h.2.2.2 x (List.mem_of_getElem? hx)).2; simp [this] at hq'
        · rw [show (u + 1).toNat = u.toNat + 1 by omega, take_succ_all hx]
          exact ⟨hbs, hins, hq.1 (by simpa using hq')⟩
    · have hu : u.toNat = f.blocks.length := by omega
      rw [hu, List.take_length] at hbs
      exact k _ _ e4 ⟨fun _ => ⟨by omega, hall, hpw, hbs⟩, fun _ => rfl⟩

theorem c15 {h : H} {f : Fnc} {fp : Option Addr} {fn fc : Nat} {fq : Option Addr} {fm fd : Nat} {R : Value → H → Prop} (hF : FncD h (fv f fp fn fc fq fm fd) f) (hz : SzF f) (k : ∀ q h', Ext h h' → (q = true ↔ FncP f) → R (.bool q) h') :
    HC Tryd.prog 15 [.agg ⟨fv f fp fn fc fq fm fd⟩] h R := by
  obtain ⟨_, _, _, _, _, _, he, hps, hpc, hbs, hbc⟩ := hF
  cases he
  obtain ⟨z1, z2, z3⟩ := hz
  have hpl := hps.len
  have hbl := hbs.len
  unfold SzI at z1 z2
  rw [hpl] at z1; rw [hbl] at z2
  apply hc15; unfold sh15; intro bf h0 hN
  have e0 := hN.ext
  have g := hN.keep
  have no : (¬ FncP f) → ∀ h', Ext h0 h' → R (.bool false) h' := fun hn h' e => k _ _ (e0.trans e) ⟨fun h => by simp at h, fun h => absurd h hn⟩
  have r0 := @Ext.rfl' h0
  simp only [Nat.zero_add, g _ r0 1 _ rfl, g _ r0 2 _ rfl, g _ r0 3 _ rfl, g _ r0 4 _ rfl, exI, exSl]
  refine ⟨fun k1 => no (fun h => by have := h.1; omega) _ Ext.rfl', fun k1 => ⟨fun k2 => no (fun h => by have := h.1; omega) _ Ext.rfl', fun k2 => ⟨fun k3 => no (fun h => by have := h.1; omega) _ Ext.rfl', fun k3 => ⟨fun k4 => no (fun h => by have := h.1; omega) _ Ext.rfl', fun k4 => ⟨fun k5 => no (fun h => by have := h.1; omega) _ Ext.rfl', fun k5 => ⟨fun k6 => no (fun h => by have := h.1; omega) _ Ext.rfl', fun k6 => ?_⟩⟩⟩⟩⟩⟩
  refine fwd fn (fun v h' => Ext h0 h' ∧ (∀ r ∈ f.params.take v.toNat, RegP f r) ∧ (f.params.take v.toNat).Pairwise (· ≠ ·)) (by omega) ⟨Ext.rfl', by simp, by simp⟩ fun v h1 v0 v1 ⟨e1, hall, hpw⟩ => ?_
  simp only [g _ e1 0 _ rfl, g _ e1 1 _ rfl, g _ e1 2 _ rfl, g _ e1 3 _ rfl, g _ e1 4 _ rfl, exI, exSl, exStr]
  refine ⟨fun hlt => ⟨v0, hlt, ?_⟩, fun hge => ?_⟩
  · obtain ⟨r, b', o', hr, hp, hcell⟩ := (hps.ext (e0.trans e1)).get v0 hlt
    refine onP_at hp ⟨r, hcell, c40 fun q h2 e2 hq => ⟨q, rfl, fun hq' => ?_, fun hq' => ?_⟩⟩
    · refine no (fun h => ?_) _ (e1.trans e2)
      have := hq.2 (h.2.1 r (List.mem_of_getElem? hr)); simp [this] at hq'
    have hR := hq.1 (by simpa using hq')
    refine fwd v (fun w h' => Ext h0 h' ∧ ∀ y ∈ (f.params.take v.toNat).take w.toNat, r ≠ y) (by omega) ⟨e1.trans e2, by simp⟩ fun w h3 w0 w1 ⟨e3, hne⟩ => ?_
    simp only [g _ e3 1 _ rfl, exSl]
    refine ⟨fun wl => ⟨w0, by omega, ?_⟩, fun wg => ⟨i64ok (by omega) (by omega), fwd_next v0 hlt ⟨e3, ?_, ?_⟩⟩⟩
    · obtain ⟨y, b2, o2, hy, hp2, hc2⟩ := (hps.ext (e0.trans e3)).get (i := w) w0 (by omega)
      obtain ⟨r', b4, o4, hr4, hp4, hcell4⟩ := (hps.ext (e0.trans e3)).get v0 hlt
      cases hr.symm.trans hr4
      have hyt : (f.params.take v.toNat)[w.toNat]? = some y := by rw [List.getElem?_take, if_pos (by omega)]; exact hy
      refine onP_at hp2 ⟨y, hc2, v0, hlt, onP_at hp4 ⟨_, hcell4, fun he => no (fun h => ?_) _ e3, fun hn => ⟨i64ok (by omega) (by omega), fwd_next w0 (by omega) ⟨e3, ?_⟩⟩⟩⟩
      · exact not_pairwise (i := v.toNat) (j := w.toNat) (by omega) hr (he ▸ hy) h.2.2.1
      · rw [show (w + 1).toNat = w.toNat + 1 by omega, take_succ_all hyt]
        exact ⟨hne, fun e => hn e.symm⟩
    · rw [show (v + 1).toNat = v.toNat + 1 by omega, take_succ_all hr]
      exact ⟨hall, hR⟩
    · rw [show (v + 1).toNat = v.toNat + 1 by omega]
      refine pairwise_take_succ hr hpw ?_
      rw [show w = v by omega, List.take_take, Nat.min_self] at hne
      exact hne
  · have hv : v.toNat = fn := by omega
    rw [hv, ← hpl, List.take_length] at hall hpw
    refine fwd fm (fun v h' => Ext h0 h' ∧ ∀ x ∈ f.blocks.take v.toNat, BlkP f x) (by omega) ⟨e1, by simp⟩ fun u h4 u0 u1 ⟨e4, hbs'⟩ => ?_
    simp only [g _ e4 4 _ rfl, exSl]
    refine ⟨fun ul => ⟨u0, ul, ?_⟩, fun ug => ?_⟩
    · obtain ⟨x, b', o', hx, hp, vs, ⟨bp, bn, bc, tp, tn, tc, rfl, hbody, hbc, hto, htc⟩, hcell⟩ := (hbs.mono (e0.trans e4) fun _ _ _ => BlkD.ext (e0.trans e4)).get u0 ul
      have hzx := z3 x (List.mem_of_getElem? hx)
      refine onP_at hp ⟨_, _, _, hcell 0 _ rfl, _, hcell 1 _ rfl, _, hcell 2 _ rfl, _, _, _, hcell 3 _ rfl, fun bb h5 hN5 => hN5.st rfl rfl rfl rfl fun h6 e46 gb => ?_⟩
      have e6 := e4.trans e46
      have hbl' := hbody.len
      refine fwd bn (fun w h' => Ext h6 h' ∧ ∀ y ∈ x.body.take w.toNat, InsP f y) (by omega) ⟨Ext.rfl', by simp⟩ fun w h7 w0 w1 ⟨e7, hins⟩ => ?_
      refine ⟨_, _, _, gb _ e7 0 _ rfl, ?_⟩
      have gg := g _ (e6.trans e7)
      refine ⟨fun wl => ⟨_, gg 0 _ rfl, _, _, _, gg 1 _ rfl, _, gg 2 _ rfl, _, gg 3 _ rfl, _, _, _, gg 4 _ rfl, _, _, _, gb _ e7 0 _ rfl, w0, wl, ?_⟩, fun wg => ⟨_, gg 0 _ rfl, _, _, _, gg 1 _ rfl, _, gg 2 _ rfl, _, gg 3 _ rfl, _, _, _, gg 4 _ rfl, ?_⟩⟩
      · obtain ⟨y, b2, o2, hy, hp2, vs, ⟨ap, an, ac, rfl, hargs, hac⟩, hc2⟩ := (hbody.mono (e46.trans e7) fun _ _ _ => InsD.ext (e46.trans e7)).get w0 wl
        have hzy := hzx.2.2 y (List.mem_of_getElem? hy)
        have hal := hargs.len
        unfold SzI at hzy
        refine onP_at hp2 ⟨_, hc2 0 _ rfl, _, hc2 1 _ rfl, _, hc2 2 _ rfl, _, _, _, hc2 3 _ rfl, ?_⟩
        refine c41 hargs (by omega) fun q h10 e10 hq => ⟨q, rfl, fun hq' => no (fun h => ?_) _ ((e6.trans e7).trans e10), fun hq' => ⟨i64ok (by omega) (by have := hzx.1; unfold SzI at this; omega), fwd_next w0 wl ⟨e7.trans e10, ?_⟩⟩⟩
        · have := hq.2 ((h.2.2.2 x (List.mem_of_getElem? hx)).1 y (List.mem_of_getElem? hy)); simp [this] at hq'
        · rw [show (w + 1).toNat = w.toNat + 1 by omega, take_succ_all hy]
          exact ⟨hins, hq.1 (by simpa using hq')⟩
      · have hw : w.toNat = x.body.length := by omega
        rw [hw, List.take_length] at hins
        have gb' := gb _ e7
        refine ⟨_, gb' 1 _ rfl, _, gb' 2 _ rfl, _, _, _, gb' 3 _ rfl, ?_⟩
        have htl := hto.len
        have hz2 := hzx.2.1
        unfold SzI at hz2
        refine c42 hbl (hto.ext (e46.trans e7)) (by omega) fun q h11 e11 hq => ⟨q, rfl, fun hq' => no (fun h => ?_) _ ((e6.trans e7).trans e11), fun hq' => ⟨i64ok (by omega) (by omega), fwd_next u0 ul ⟨(e6.trans e7).trans e11, ?_⟩⟩⟩
        · have := hq.2 (h.2.2.2 x (List.mem_of_getElem? hx)).2; simp [this] at hq'
        · rw [show (u + 1).toNat = u.toNat + 1 by omega, take_succ_all hx]
          exact ⟨hbs', hins, hq.1 (by simpa using hq')⟩
    · have hu : u.toNat = f.blocks.length := by omega
      rw [hu, List.take_length] at hbs'
      exact k _ _ (e0.trans e4) ⟨fun _ => ⟨by omega, hall, hpw, hbs'⟩, fun _ => rfl⟩
end Go.Proofs.Try

/- The functions 85 66 45 37 38 39 11 of the seat live: their text in the framework, and what each asks. -/
set_option maxRecDepth 100000
set_option linter.unusedVariables false
set_option linter.unusedSimpArgs false
open Go Go.Fw Go.Proofs
namespace Go.Proofs.Try
/- quern/quernref17.back -/
def fl85 : FL := ⟨26, (.seq (.reg [se 3 (.box 71 (t 1))]) (.cut [] [5, 6, 7, 8, 9, 10, 11] (.seq (.reg [sv 5 (.fad 1 (t 3)), sv 6 (.ld (.int .i64) (t 5)), sv 7 (.cmp .geq (t 6) (ci 0))]) (.cond (t 7) (.reg [sv 8 (.mov (t 0)), sv 9 (.fad 1 (t 3)), sv 10 (.ld (.int .i64) (t 9)), sv 11 (.idx 1 (t 8) (t 10)), ne (.sto 1 (t 11) (cb false))]) .skip)) (.seq (.reg [sv 4 (.mov (ci 0))]) (.block 0 (.loop [(4, (.one (.int .i64)))] [4, 12, 13, 14, 15, 16, 17, 18, 19, 20, 21, 22, 23, 24, 25] (.seq (.seq (.reg [sv 12 (.mov (t 4)), sv 13 (.fad 3 (t 3)), sv 14 (.ld .slice (t 13)), sv 15 (.len (t 14)), sv 16 (.cmp .lss (t 12) (t 15))]) (.cond (t 16) .skip (.exit 0))) (.seq (.block 1 (.reg [sv 19 (.mov (t 0)), sv 20 (.fad 3 (t 3)), sv 21 (.ld .slice (t 20)), sv 22 (.mov (t 4)), sv 23 (.idx 1 (t 21) (t 22)), sv 24 (.ld (.int .i64) (t 23)), sv 25 (.idx 1 (t 19) (t 24)), ne (.sto 1 (t 25) (cb true))])) (.reg [sv 17 (.mov (t 4)), sv 18 (.ar .add true (t 17) (ci 1)), sv 4 (.mov (t 18))])))))))), []⟩
theorem ck85 : chkFL Tryd.prog 85 fl85 = true := by kernel_rfl
def sh85 (as_0 : Option Addr) (ns_0 cs_0 : Nat) (x_1 : Int) (x_1_1 : Int) (x_1_2 : Int) (ax_1 : Option Addr) (nx_1 cx_1 : Nat) (h : H) (R : Value → H → Prop) : Prop :=
 ∀ (bx_3 : Nat) (h1 : H), New h (.cells ⟨[(.int .i64 x_1), (.int .i64 x_1_1), (.int .i64 x_1_2), (.slice ax_1 nx_1 cx_1)]⟩ 71) bx_3 h1 →
 ∃ J : H → Prop, (∃ (v_6 : Int), cell h1 ⟨bx_3, (0 + 1), none⟩ = some (.int .i64 v_6) ∧
 (((0 ≤ v_6) →
 ∃ (v_10 : Int), cell h1 ⟨bx_3, (0 + 1), none⟩ = some (.int .i64 v_10) ∧
 0 ≤ v_10 ∧ v_10 < (↑ns_0 : Int) ∧
 (onP as_0 fun bv_11 ov_11 =>
 stQ 1 h1 bv_11 (ov_11 + (v_10).toNat * 1) [(.bool false)] fun h3 =>
 J h3)) ∧
 (¬ (0 ≤ v_6) →
 J h1))) ∧
 ∀ h2 : H, J h2 →
 ∃ J_1 : Int → LI, (J_1 0).1 h2 ∧
 ∀ (i_4 : Int), ∀ h4 : H, (J_1 i_4).1 h4 →
 ∃ (av_14 : Option Addr) (nv_14 cv_14 : Nat), cell h4 ⟨bx_3, (0 + 3), none⟩ = some (.slice av_14 nv_14 cv_14) ∧
 (((i_4 < (↑nv_14 : Int)) →
 ∃ (av_21 : Option Addr) (nv_21 cv_21 : Nat), cell h4 ⟨bx_3, (0 + 3), none⟩ = some (.slice av_21 nv_21 cv_21) ∧
 0 ≤ i_4 ∧ i_4 < (↑nv_21 : Int) ∧
 (onP av_21 fun bv_23 ov_23 =>
 ∃ (v_24 : Int), cell h4 ⟨bv_23, (ov_23 + (i_4).toNat * 1), none⟩ = some (.int .i64 v_24) ∧
 0 ≤ v_24 ∧ v_24 < (↑ns_0 : Int) ∧
 (onP as_0 fun bv_25 ov_25 =>
 stQ 1 h4 bv_25 (ov_25 + (v_24).toNat * 1) [(.bool true)] fun h5 =>
 InR .i64 (i_4 + 1) ∧
 (J_1 (i_4 + 1)).1 h5 ∧ (J_1 (i_4 + 1)).2 h5 < (J_1 i_4).2 h4))) ∧
 (¬ (i_4 < (↑nv_14 : Int)) →
 R (.tuple ⟨[]⟩) h4))
theorem hc85 {as_0 : Option Addr} {ns_0 cs_0 : Nat} {x_1 : Int} {x_1_1 : Int} {x_1_2 : Int} {ax_1 : Option Addr} {nx_1 cx_1 : Nat} {h : H} {R : Value → H → Prop} (x : sh85 as_0 ns_0 cs_0 x_1 x_1_1 x_1_2 ax_1 nx_1 cx_1 h R) : HC Tryd.prog 85 [(.slice as_0 ns_0 cs_0), (.agg ⟨[(.int .i64 x_1), (.int .i64 x_1_1), (.int .i64 x_1_2), (.slice ax_1 nx_1 cx_1)]⟩)] h R :=
  FL.sound mixed ck85 ⟨rfl, Eq.mp (by unfold sh85; kernel_rfl) x⟩
/- quern/quernref17.start -/
def fl66 : FL := ⟨34, (.seq (.reg [se 2 (.box 50 (t 0)), sv 4 (.mov (.const (Go.Value.slice none 0 0)))]) (.seq (.reg [sv 7 (.mov (t 1)), se 8 (.app 4 1 1 [.bool false] (.const (Go.Value.slice none 0 0)) (t 7)), sv 5 (.mov (t 8))]) (.cut [] [9, 10, 11, 12, 13, 14, 15, 16, 17] (.seq (.reg [sv 9 (.fad 1 (t 2)), sv 10 (.fad 1 (t 9)), sv 11 (.ld (.int .i64) (t 10)), sv 12 (.cmp .geq (t 11) (ci 0))]) (.cond (t 12) (.reg [sv 13 (.mov (t 5)), sv 14 (.fad 1 (t 2)), sv 15 (.fad 1 (t 14)), sv 16 (.ld (.int .i64) (t 15)), sv 17 (.idx 1 (t 13) (t 16)), ne (.sto 1 (t 17) (cb true))]) .skip)) (.seq (.seq (.reg [sv 18 (.fad 0 (t 2)), sv 19 (.ld .slice (t 18)), sv 20 (.len (t 19)), sv 21 (.ar .sub true (t 20) (ci 1)), sv 6 (.mov (t 21))]) (.block 0 (.loop [(6, (.one (.int .i64)))] [6, 22, 23, 24, 25, 26, 27, 28, 29, 30, 31, 32] (.seq (.seq (.reg [sv 22 (.mov (t 6)), sv 23 (.cmp .geq (t 22) (ci 0))]) (.cond (t 23) .skip (.exit 0))) (.seq (.block 1 (.reg [sv 26 (.mov (t 5)), sv 27 (.fad 0 (t 2)), sv 28 (.ld .slice (t 27)), sv 29 (.mov (t 6)), sv 30 (.idx 4 (t 28) (t 29)), sv 31 (.lda [(.int .i64), (.int .i64), (.int .i64), .slice] (t 30)), se 32 (.call 85 [(t 26), (t 31)] .unit)])) (.reg [sv 24 (.mov (t 6)), sv 25 (.ar .sub true (t 24) (ci 1)), sv 6 (.mov (t 25))])))))) (.seq (.reg [sv 33 (.mov (t 5)), sv 4 (.mov (t 33))]) .ret))))), [.tmp 4]⟩
theorem ck66 : chkFL Tryd.prog 66 fl66 = true := by kernel_rfl
def sh66 (ab_0 : Option Addr) (nb_0 cb_0 : Nat) (b_0 : Int) (b_0_1 : Int) (ab_0_1 : Option Addr) (nb_0_1 cb_0_1 : Nat) (abehind_1 : Option Addr) (nbehind_1 cbehind_1 : Nat) (h : H) (R : Value → H → Prop) : Prop :=
 ∀ (bb_2 : Nat) (h1 : H), New h (.cells ⟨[(.slice ab_0 nb_0 cb_0), (.int .i64 b_0), (.int .i64 b_0_1), (.slice ab_0_1 nb_0_1 cb_0_1)]⟩ 50) bb_2 h1 →
 apQ 4 1 1 [.bool false] h1 none 0 0 abehind_1 nbehind_1 fun av_8 nv_8 cv_8 h2 =>
 ∃ J : H → Prop, (∃ (v_11 : Int), cell h2 ⟨bb_2, ((0 + 1) + 1), none⟩ = some (.int .i64 v_11) ∧
 (((0 ≤ v_11) →
 ∃ (v_16 : Int), cell h2 ⟨bb_2, ((0 + 1) + 1), none⟩ = some (.int .i64 v_16) ∧
 0 ≤ v_16 ∧ v_16 < (↑nv_8 : Int) ∧
 (onP av_8 fun bv_17 ov_17 =>
 stQ 1 h2 bv_17 (ov_17 + (v_16).toNat * 1) [(.bool true)] fun h4 =>
 J h4)) ∧
 (¬ (0 ≤ v_11) →
 J h2))) ∧
 ∀ h3 : H, J h3 →
 ∃ (av_19 : Option Addr) (nv_19 cv_19 : Nat), cell h3 ⟨bb_2, (0 + 0), none⟩ = some (.slice av_19 nv_19 cv_19) ∧
 InR .i64 ((↑nv_19 : Int) - 1) ∧
 ∃ J_1 : Int → LI, (J_1 ((↑nv_19 : Int) - 1)).1 h3 ∧
 ∀ (i_6 : Int), ∀ h5 : H, (J_1 i_6).1 h5 →
 (((0 ≤ i_6) →
 ∃ (av_28 : Option Addr) (nv_28 cv_28 : Nat), cell h5 ⟨bb_2, (0 + 0), none⟩ = some (.slice av_28 nv_28 cv_28) ∧
 0 ≤ i_6 ∧ i_6 < (↑nv_28 : Int) ∧
 (onP av_28 fun bv_30 ov_30 =>
 ∃ (v_31 : Int), cell h5 ⟨bv_30, ((ov_30 + (i_6).toNat * 4) + 0), none⟩ = some (.int .i64 v_31) ∧
 ∃ (v_31_1 : Int), cell h5 ⟨bv_30, ((ov_30 + (i_6).toNat * 4) + 1), none⟩ = some (.int .i64 v_31_1) ∧
 ∃ (v_31_2 : Int), cell h5 ⟨bv_30, ((ov_30 + (i_6).toNat * 4) + 2), none⟩ = some (.int .i64 v_31_2) ∧
 ∃ (av_31 : Option Addr) (nv_31 cv_31 : Nat), cell h5 ⟨bv_30, ((ov_30 + (i_6).toNat * 4) + 3), none⟩ = some (.slice av_31 nv_31 cv_31) ∧
 HC Tryd.prog 85 [(.slice av_8 nv_8 cv_8), (.agg ⟨[(.int .i64 v_31), (.int .i64 v_31_1), (.int .i64 v_31_2), (.slice av_31 nv_31 cv_31)]⟩)] h5 fun rv_32 h6 =>
 rv_32 = (.tuple ⟨[]⟩) ∧
 InR .i64 (i_6 - 1) ∧
 (J_1 (i_6 - 1)).1 h6 ∧ (J_1 (i_6 - 1)).2 h6 < (J_1 i_6).2 h5)) ∧
 (¬ (0 ≤ i_6) →
 R (.slice av_8 nv_8 cv_8) h5))
theorem hc66 {ab_0 : Option Addr} {nb_0 cb_0 : Nat} {b_0 : Int} {b_0_1 : Int} {ab_0_1 : Option Addr} {nb_0_1 cb_0_1 : Nat} {abehind_1 : Option Addr} {nbehind_1 cbehind_1 : Nat} {h : H} {R : Value → H → Prop} (x : sh66 ab_0 nb_0 cb_0 b_0 b_0_1 ab_0_1 nb_0_1 cb_0_1 abehind_1 nbehind_1 cbehind_1 h R) : HC Tryd.prog 66 [(.agg ⟨[(.slice ab_0 nb_0 cb_0), (.int .i64 b_0), (.int .i64 b_0_1), (.slice ab_0_1 nb_0_1 cb_0_1)]⟩), (.slice abehind_1 nbehind_1 cbehind_1)] h R :=
  FL.sound mixed ck66 ⟨rfl, Eq.mp (by unfold sh66; kernel_rfl) x⟩
/- quern/quernref17.told -/
def fl45 : FL := ⟨20, (.seq (.reg [sv 2 (.mov (.const (Go.Value.slice none 0 0)))]) (.seq (.reg [sv 3 (.mov (.const (Go.Value.slice none 0 0)))]) (.seq (.seq (.reg [sv 4 (.mov (ci 0))]) (.block 0 (.loop [(3, (.one .slice)), (4, (.one (.int .i64)))] [3, 4, 5, 6, 7, 8, 9, 10, 11, 12, 13, 14, 15, 16, 17, 18] (.seq (.seq (.reg [sv 5 (.mov (t 4)), sv 6 (.mov (t 0)), sv 7 (.len (t 6)), sv 8 (.cmp .lss (t 5) (t 7))]) (.cond (t 8) .skip (.exit 0))) (.seq (.block 1 (.seq (.reg [sv 11 (.mov (t 0)), sv 12 (.mov (t 4)), sv 13 (.idx 1 (t 11) (t 12)), sv 14 (.ld .bool (t 13))]) (.cond (t 14) (.reg [sv 15 (.mov (t 3)), sv 16 (.mov (t 4)), se 17 (.bsl 3 1 [.int .i64 0] 1 [(0, 1, (t 16))]), se 18 (.app 3 1 8 [.int .i64 0] (t 15) (t 17)), sv 3 (.mov (t 18))]) .skip))) (.reg [sv 9 (.mov (t 4)), sv 10 (.ar .add true (t 9) (ci 1)), sv 4 (.mov (t 10))])))))) (.seq (.reg [sv 19 (.mov (t 3)), sv 2 (.mov (t 19))]) .ret)))), [.tmp 2]⟩
theorem ck45 : chkFL Tryd.prog 45 fl45 = true := by kernel_rfl
def sh45 (as_0 : Option Addr) (ns_0 cs_0 : Nat) (h : H) (R : Value → H → Prop) : Prop :=
 ∃ J : Option Addr → Nat → Nat → Int → LI, (J none 0 0 0).1 h ∧
 ∀ (al_3 : Option Addr) (nl_3 cl_3 : Nat), ∀ (r_4 : Int), ∀ h1 : H, (J al_3 nl_3 cl_3 r_4).1 h1 →
 (((r_4 < (↑ns_0 : Int)) →
 0 ≤ r_4 ∧ r_4 < (↑ns_0 : Int) ∧
 (onP as_0 fun bv_13 ov_13 =>
 ∃ (v_14 : Bool), cell h1 ⟨bv_13, (ov_13 + (r_4).toNat * 1), none⟩ = some (.bool v_14) ∧
 ((v_14 = true →
 1 = 1 ∧ 0 + 1 ≤ 1 ∧
 ∀ (bv_17 : Nat) (h2 : H), New h1 (.cells ⟨[(.int .i64 r_4)]⟩ 3) bv_17 h2 →
 apQ 3 1 8 [.int .i64 0] h2 al_3 nl_3 cl_3 (some ⟨bv_17, 0, none⟩) 1 fun av_18 nv_18 cv_18 h3 =>
 InR .i64 (r_4 + 1) ∧
 (J av_18 nv_18 cv_18 (r_4 + 1)).1 h3 ∧ (J av_18 nv_18 cv_18 (r_4 + 1)).2 h3 < (J al_3 nl_3 cl_3 r_4).2 h1) ∧
 (v_14 = false →
 InR .i64 (r_4 + 1) ∧
 (J al_3 nl_3 cl_3 (r_4 + 1)).1 h1 ∧ (J al_3 nl_3 cl_3 (r_4 + 1)).2 h1 < (J al_3 nl_3 cl_3 r_4).2 h1)))) ∧
 (¬ (r_4 < (↑ns_0 : Int)) →
 R (.slice al_3 nl_3 cl_3) h1))
theorem hc45 {as_0 : Option Addr} {ns_0 cs_0 : Nat} {h : H} {R : Value → H → Prop} (x : sh45 as_0 ns_0 cs_0 h R) : HC Tryd.prog 45 [(.slice as_0 ns_0 cs_0)] h R :=
  FL.sound mixed ck45 ⟨rfl, Eq.mp (by unfold sh45; kernel_rfl) x⟩
/- quern/quernref17.Sets -/
def fl37 : FL := ⟨115, (.seq (.reg [se 1 (.box 25 (t 0)), sv 2 (.mov (.const (Go.Value.slice none 0 0))), sv 3 (.mov (.const (Go.Value.slice none 0 0)))]) (.seq (.reg [sv 15 (.fad 4 (t 1)), sv 16 (.ld .slice (t 15)), sv 17 (.len (t 16)), sv 4 (.mov (t 17))]) (.seq (.reg [sv 18 (.mov (t 4)), se 19 (.mks 94 1 24 [.slice none 0 0] (t 18) (t 18)), sv 5 (.mov (t 19))]) (.seq (.reg [sv 20 (.mov (t 4)), se 21 (.mks 94 1 24 [.slice none 0 0] (t 20) (t 20)), sv 6 (.mov (t 21))]) (.seq (.seq (.reg [sv 7 (.mov (ci 0))]) (.block 0 (.loop [(7, (.one (.int .i64)))] [7, 22, 23, 24, 25, 26, 27, 28, 29, 30, 31, 32, 33, 34, 35, 36, 37, 38] (.seq (.seq (.reg [sv 22 (.mov (t 7)), sv 23 (.mov (t 4)), sv 24 (.cmp .lss (t 22) (t 23))]) (.cond (t 24) .skip (.exit 0))) (.seq (.block 1 (.seq (.reg [sv 27 (.mov (t 5)), sv 28 (.mov (t 7)), sv 29 (.fad 2 (t 1)), sv 30 (.ld (.int .i64) (t 29)), se 31 (.mks 4 1 1 [.bool false] (t 30) (t 30)), sv 32 (.idx 1 (t 27) (t 28)), ne (.sto 1 (t 32) (t 31))]) (.reg [sv 33 (.mov (t 6)), sv 34 (.mov (t 7)), sv 35 (.fad 2 (t 1)), sv 36 (.ld (.int .i64) (t 35)), se 37 (.mks 4 1 1 [.bool false] (t 36) (t 36)), sv 38 (.idx 1 (t 33) (t 34)), ne (.sto 1 (t 38) (t 37))]))) (.reg [sv 25 (.mov (t 7)), sv 26 (.ar .add true (t 25) (ci 1)), sv 7 (.mov (t 26))])))))) (.seq (.reg [sv 8 (.mov (cb true))]) (.seq (.block 2 (.loop [(8, (.one .bool))] [8, 9, 10, 11, 12, 13, 14, 39, 40, 41, 42, 43, 44, 45, 46, 47, 48, 49, 50, 51, 52, 53, 54, 55, 56, 57, 58, 59, 60, 61, 62, 63, 64, 65, 66, 67, 68, 69, 70, 71, 72, 73, 74, 75, 76, 77, 78, 79, 80, 81, 82, 83, 84, 85, 86, 87, 88, 89, 90, 91, 92, 93, 94, 95, 96, 97, 98, 99, 100, 101, 102, 103, 104, 105, 106, 107, 108, 109, 110, 111, 112] (.seq (.seq (.reg [sv 39 (.mov (t 8))]) (.cond (t 39) .skip (.exit 2))) (.block 3 (.seq (.reg [sv 8 (.mov (cb false))]) (.seq (.reg [sv 40 (.mov (t 4)), sv 41 (.ar .sub true (t 40) (ci 1)), sv 9 (.mov (t 41))]) (.block 4 (.loop [(8, (.one .bool)), (9, (.one (.int .i64)))] [8, 9, 10, 11, 12, 13, 14, 42, 43, 44, 45, 46, 47, 48, 49, 50, 51, 52, 53, 54, 55, 56, 57, 58, 59, 60, 61, 62, 63, 64, 65, 66, 67, 68, 69, 70, 71, 72, 73, 74, 75, 76, 77, 78, 79, 80, 81, 82, 83, 84, 85, 86, 87, 88, 89, 90, 91, 92, 93, 94, 95, 96, 97, 98, 99, 100, 101, 102, 103, 104, 105, 106, 107, 108, 109, 110, 111, 112] (.seq (.seq (.reg [sv 42 (.mov (t 9)), sv 43 (.cmp .geq (t 42) (ci 0))]) (.cond (t 43) .skip (.exit 4))) (.seq (.block 5 (.seq (.reg [sv 46 (.fad 4 (t 1)), sv 47 (.ld .slice (t 46)), sv 48 (.mov (t 9)), sv 49 (.idx 4 (t 47) (t 48)), sv 50 (.fad 1 (t 49)), sv 51 (.fad 2 (t 50)), sv 52 (.ld .slice (t 51)), sv 10 (.mov (t 52))]) (.seq (.seq (.reg [sv 11 (.mov (ci 0))]) (.block 6 (.loop [(11, (.one (.int .i64)))] [11, 12, 53, 54, 55, 56, 57, 58, 59, 60, 61, 62, 63, 64, 65, 66, 67, 68, 69, 70, 71, 72, 73, 74, 75, 76, 77, 78, 79, 80] (.seq (.seq (.reg [sv 53 (.mov (t 11)), sv 54 (.mov (t 10)), sv 55 (.len (t 54)), sv 56 (.cmp .lss (t 53) (t 55))]) (.cond (t 56) .skip (.exit 6))) (.seq (.block 7 (.seq (.reg [sv 12 (.mov (ci 0))]) (.block 8 (.loop [(12, (.one (.int .i64)))] [12, 59, 60, 61, 62, 63, 64, 65, 66, 67, 68, 69, 70, 71, 72, 73, 74, 75, 76, 77, 78, 79, 80] (.seq (.seq (.reg [sv 59 (.mov (t 12)), sv 60 (.fad 2 (t 1)), sv 61 (.ld (.int .i64) (t 60)), sv 62 (.cmp .lss (t 59) (t 61))]) (.cond (t 62) .skip (.exit 8))) (.seq (.block 9 (.seq (.reg [sv 65 (.mov (t 5)), sv 66 (.mov (t 10)), sv 67 (.mov (t 11)), sv 68 (.idx 1 (t 66) (t 67)), sv 69 (.ld (.int .i64) (t 68)), sv 70 (.idx 1 (t 65) (t 69)), sv 71 (.ld .slice (t 70)), sv 72 (.mov (t 12)), sv 73 (.idx 1 (t 71) (t 72)), sv 74 (.ld .bool (t 73))]) (.cond (t 74) (.reg [sv 75 (.mov (t 6)), sv 76 (.mov (t 9)), sv 77 (.idx 1 (t 75) (t 76)), sv 78 (.ld .slice (t 77)), sv 79 (.mov (t 12)), sv 80 (.idx 1 (t 78) (t 79)), ne (.sto 1 (t 80) (cb true))]) .skip))) (.reg [sv 63 (.mov (t 12)), sv 64 (.ar .add true (t 63) (ci 1)), sv 12 (.mov (t 64))]))))))) (.reg [sv 57 (.mov (t 11)), sv 58 (.ar .add true (t 57) (ci 1)), sv 11 (.mov (t 58))])))))) (.seq (.drw .eq [9] [13, 81, 82, 83, 84, 85, 86, 87, 88, 89, 90] (.takeP 0 (sv 81 (.fad 4 (t 1))) (.takeP 2 (sv 83 (.mov (t 9))) (.takeP 5 (sv 86 (.mov (t 6))) (.takeP 6 (sv 87 (.mov (t 9))) (.takeP 7 (sv 88 (.idx 1 (t 86) (t 87))) (.takeR 8 (sv 89 (.ld .slice (t 88))) (.alt 1 (sv 82 (.ld .slice (t 81))) (.takeP 3 (sv 84 (.idx 4 (t 82) (t 83))) (.takeR 4 (sv 85 (.lda [.slice, (.int .i64), (.int .i64), .slice] (t 84))) (.alt 9 (se 90 (.call 66 [(t 85), (t 89)] (.one .slice))) (.takeP 10 (sv 13 (.mov (t 90))) .done) .stop))) .stop)))))))) (.seq (.seq (.reg [sv 14 (.mov (ci 0))]) (.block 10 (.loop [(8, (.one .bool)), (14, (.one (.int .i64)))] [8, 14, 91, 92, 93, 94, 95, 96, 97, 98, 99, 100, 101, 102, 103, 104, 105, 106, 107, 108] (.seq (.seq (.reg [sv 91 (.mov (t 14)), sv 92 (.fad 2 (t 1)), sv 93 (.ld (.int .i64) (t 92)), sv 94 (.cmp .lss (t 91) (t 93))]) (.cond (t 94) .skip (.exit 10))) (.seq (.block 11 (.seq (.drw .eq [] [97, 98, 99, 100, 101, 102, 103, 104, 105, 106, 107, 108] (.takeP 0 (sv 97 (.mov (t 13))) (.takeP 1 (sv 98 (.mov (t 14))) (.takeP 2 (sv 99 (.idx 1 (t 97) (t 98))) (.takeP 4 (sv 101 (.mov (t 5))) (.takeP 5 (sv 102 (.mov (t 9))) (.takeP 6 (sv 103 (.idx 1 (t 101) (t 102))) (.takeP 8 (sv 105 (.mov (t 14))) (.takeR 3 (sv 100 (.ld .bool (t 99))) (.takeR 7 (sv 104 (.ld .slice (t 103))) (.takeP 9 (sv 106 (.idx 1 (t 104) (t 105))) (.takeR 10 (sv 107 (.ld .bool (t 106))) (.takeP 11 (sv 108 (.cmb .neq (t 100) (t 107))) .done))))))))))))) (.cond (t 108) (.reg [sv 8 (.mov (cb true))]) .skip))) (.reg [sv 95 (.mov (t 14)), sv 96 (.ar .add true (t 95) (ci 1)), sv 14 (.mov (t 96))])))))) (.reg [sv 109 (.mov (t 5)), sv 110 (.mov (t 9)), sv 111 (.mov (t 13)), sv 112 (.idx 1 (t 109) (t 110)), ne (.sto 1 (t 112) (t 111))])))))) (.reg [sv 44 (.mov (t 9)), sv 45 (.ar .sub true (t 44) (ci 1)), sv 9 (.mov (t 45))]))))))))))) (.seq (.reg [sv 113 (.mov (t 5)), sv 114 (.mov (t 6)), sv 2 (.mov (t 113)), sv 3 (.mov (t 114))]) .ret)))))))), [.tmp 2, .tmp 3]⟩
theorem ck37 : chkFL Tryd.prog 37 fl37 = true := by kernel_rfl
def sh37 (f_0 : ByteArray) (af_0 : Option Addr) (nf_0 cf_0 : Nat) (f_0_1 : Int) (f_0_2 : Int) (af_0_1 : Option Addr) (nf_0_1 cf_0_1 : Nat) (h : H) (R : Value → H → Prop) : Prop :=
 ∀ (bf_1 : Nat) (h1 : H), New h (.cells ⟨[(.string f_0), (.slice af_0 nf_0 cf_0), (.int .i64 f_0_1), (.int .i64 f_0_2), (.slice af_0_1 nf_0_1 cf_0_1)]⟩ 25) bf_1 h1 →
 ∃ (av_16 : Option Addr) (nv_16 cv_16 : Nat), cell h1 ⟨bf_1, (0 + 4), none⟩ = some (.slice av_16 nv_16 cv_16) ∧
 0 ≤ (↑nv_16 : Int) ∧ (↑nv_16 : Int) ≤ (↑nv_16 : Int) ∧ (↑nv_16 : Int) * 24 ≤ 140737488355328 ∧
 ∀ (bv_19 : Nat) (h2 : H), New h1 (.cells ⟨repV [.slice none 0 0] ((↑nv_16 : Int)).toNat⟩ 94) bv_19 h2 →
 0 ≤ (↑nv_16 : Int) ∧ (↑nv_16 : Int) ≤ (↑nv_16 : Int) ∧ (↑nv_16 : Int) * 24 ≤ 140737488355328 ∧
 ∀ (bv_21 : Nat) (h3 : H), New h2 (.cells ⟨repV [.slice none 0 0] ((↑nv_16 : Int)).toNat⟩ 94) bv_21 h3 →
 ∃ J : Int → LI, (J 0).1 h3 ∧
 ∀ (i_7 : Int), ∀ h4 : H, (J i_7).1 h4 →
 (((i_7 < (↑nv_16 : Int)) →
 ∃ (v_30 : Int), cell h4 ⟨bf_1, (0 + 2), none⟩ = some (.int .i64 v_30) ∧
 0 ≤ v_30 ∧ v_30 ≤ v_30 ∧ v_30 * 1 ≤ 140737488355328 ∧
 ∀ (bv_31 : Nat) (h5 : H), New h4 (.cells ⟨repV [.bool false] (v_30).toNat⟩ 4) bv_31 h5 →
 0 ≤ i_7 ∧ i_7 < (↑(((↑nv_16 : Int)).toNat) : Int) ∧
 stQ 1 h5 bv_19 (0 + (i_7).toNat * 1) [(.slice (some ⟨bv_31, 0, none⟩) ((v_30).toNat) ((v_30).toNat))] fun h6 =>
 ∃ (v_36 : Int), cell h6 ⟨bf_1, (0 + 2), none⟩ = some (.int .i64 v_36) ∧
 0 ≤ v_36 ∧ v_36 ≤ v_36 ∧ v_36 * 1 ≤ 140737488355328 ∧
 ∀ (bv_37 : Nat) (h7 : H), New h6 (.cells ⟨repV [.bool false] (v_36).toNat⟩ 4) bv_37 h7 →
 0 ≤ i_7 ∧ i_7 < (↑(((↑nv_16 : Int)).toNat) : Int) ∧
 stQ 1 h7 bv_21 (0 + (i_7).toNat * 1) [(.slice (some ⟨bv_37, 0, none⟩) ((v_36).toNat) ((v_36).toNat))] fun h8 =>
 InR .i64 (i_7 + 1) ∧
 (J (i_7 + 1)).1 h8 ∧ (J (i_7 + 1)).2 h8 < (J i_7).2 h4) ∧
 (¬ (i_7 < (↑nv_16 : Int)) →
 ∃ J_1 : Bool → LI, (J_1 true).1 h4 ∧
 ∀ (more_8 : Bool), ∀ h9 : H, (J_1 more_8).1 h9 →
 ((more_8 = true →
 InR .i64 ((↑nv_16 : Int) - 1) ∧
 ∃ J_2 : Bool → Int → LI, (J_2 false ((↑nv_16 : Int) - 1)).1 h9 ∧
 ∀ (more_8_1 : Bool), ∀ (i_9 : Int), ∀ h10 : H, (J_2 more_8_1 i_9).1 h10 →
 (((0 ≤ i_9) →
 ∃ (av_47 : Option Addr) (nv_47 cv_47 : Nat), cell h10 ⟨bf_1, (0 + 4), none⟩ = some (.slice av_47 nv_47 cv_47) ∧
 0 ≤ i_9 ∧ i_9 < (↑nv_47 : Int) ∧
 (onP av_47 fun bv_49 ov_49 =>
 ∃ (av_52 : Option Addr) (nv_52 cv_52 : Nat), cell h10 ⟨bv_49, (((ov_49 + (i_9).toNat * 4) + 1) + 2), none⟩ = some (.slice av_52 nv_52 cv_52) ∧
 ∃ J_3 : Int → LI, (J_3 0).1 h10 ∧
 ∀ (k_11 : Int), ∀ h11 : H, (J_3 k_11).1 h11 →
 (((k_11 < (↑nv_52 : Int)) →
 ∃ J_4 : Int → LI, (J_4 0).1 h11 ∧
 ∀ (r_12 : Int), ∀ h12 : H, (J_4 r_12).1 h12 →
 ∃ (v_61 : Int), cell h12 ⟨bf_1, (0 + 2), none⟩ = some (.int .i64 v_61) ∧
 (((r_12 < v_61) →
 0 ≤ k_11 ∧ k_11 < (↑nv_52 : Int) ∧
 (onP av_52 fun bv_68 ov_68 =>
 ∃ (v_69 : Int), cell h12 ⟨bv_68, (ov_68 + (k_11).toNat * 1), none⟩ = some (.int .i64 v_69) ∧
 0 ≤ v_69 ∧ v_69 < (↑(((↑nv_16 : Int)).toNat) : Int) ∧
 ∃ (av_71 : Option Addr) (nv_71 cv_71 : Nat), cell h12 ⟨bv_19, (0 + (v_69).toNat * 1), none⟩ = some (.slice av_71 nv_71 cv_71) ∧
 0 ≤ r_12 ∧ r_12 < (↑nv_71 : Int) ∧
 (onP av_71 fun bv_73 ov_73 =>
 ∃ (v_74 : Bool), cell h12 ⟨bv_73, (ov_73 + (r_12).toNat * 1), none⟩ = some (.bool v_74) ∧
 ((v_74 = true →
 0 ≤ i_9 ∧ i_9 < (↑(((↑nv_16 : Int)).toNat) : Int) ∧
 ∃ (av_78 : Option Addr) (nv_78 cv_78 : Nat), cell h12 ⟨bv_21, (0 + (i_9).toNat * 1), none⟩ = some (.slice av_78 nv_78 cv_78) ∧
 0 ≤ r_12 ∧ r_12 < (↑nv_78 : Int) ∧
 (onP av_78 fun bv_80 ov_80 =>
 stQ 1 h12 bv_80 (ov_80 + (r_12).toNat * 1) [(.bool true)] fun h13 =>
 InR .i64 (r_12 + 1) ∧
 (J_4 (r_12 + 1)).1 h13 ∧ (J_4 (r_12 + 1)).2 h13 < (J_4 r_12).2 h12)) ∧
 (v_74 = false →
 InR .i64 (r_12 + 1) ∧
 (J_4 (r_12 + 1)).1 h12 ∧ (J_4 (r_12 + 1)).2 h12 < (J_4 r_12).2 h12))))) ∧
 (¬ (r_12 < v_61) →
 InR .i64 (k_11 + 1) ∧
 (J_3 (k_11 + 1)).1 h12 ∧ (J_3 (k_11 + 1)).2 h12 < (J_3 k_11).2 h11))) ∧
 (¬ (k_11 < (↑nv_52 : Int)) →
 0 ≤ i_9 ∧ i_9 < (↑(((↑nv_16 : Int)).toNat) : Int) ∧
 ∃ (av_89 : Option Addr) (nv_89 cv_89 : Nat), cell h11 ⟨bv_21, (0 + (i_9).toNat * 1), none⟩ = some (.slice av_89 nv_89 cv_89) ∧
 ∃ (av_82 : Option Addr) (nv_82 cv_82 : Nat), cell h11 ⟨bf_1, (0 + 4), none⟩ = some (.slice av_82 nv_82 cv_82) ∧
 0 ≤ i_9 ∧ i_9 < (↑nv_82 : Int) ∧
 (onP av_82 fun bv_84 ov_84 =>
 ∃ (av_85 : Option Addr) (nv_85 cv_85 : Nat), cell h11 ⟨bv_84, ((ov_84 + (i_9).toNat * 4) + 0), none⟩ = some (.slice av_85 nv_85 cv_85) ∧
 ∃ (v_85 : Int), cell h11 ⟨bv_84, ((ov_84 + (i_9).toNat * 4) + 1), none⟩ = some (.int .i64 v_85) ∧
 ∃ (v_85_1 : Int), cell h11 ⟨bv_84, ((ov_84 + (i_9).toNat * 4) + 2), none⟩ = some (.int .i64 v_85_1) ∧
 ∃ (av_85_1 : Option Addr) (nv_85_1 cv_85_1 : Nat), cell h11 ⟨bv_84, ((ov_84 + (i_9).toNat * 4) + 3), none⟩ = some (.slice av_85_1 nv_85_1 cv_85_1) ∧
 HC Tryd.prog 66 [(.agg ⟨[(.slice av_85 nv_85 cv_85), (.int .i64 v_85), (.int .i64 v_85_1), (.slice av_85_1 nv_85_1 cv_85_1)]⟩), (.slice av_89 nv_89 cv_89)] h11 fun rv_90 h14 =>
 ∃ (av_90 : Option Addr) (nv_90 cv_90 : Nat), rv_90 = (.slice av_90 nv_90 cv_90) ∧
 ∃ J_5 : Bool → Int → LI, (J_5 more_8_1 0).1 h14 ∧
 ∀ (more_8_2 : Bool), ∀ (r_14 : Int), ∀ h15 : H, (J_5 more_8_2 r_14).1 h15 →
 ∃ (v_93 : Int), cell h15 ⟨bf_1, (0 + 2), none⟩ = some (.int .i64 v_93) ∧
 (((r_14 < v_93) →
 0 ≤ r_14 ∧ r_14 < (↑nv_90 : Int) ∧
 (onP av_90 fun bv_99 ov_99 =>
 0 ≤ i_9 ∧ i_9 < (↑(((↑nv_16 : Int)).toNat) : Int) ∧
 ∃ (v_100 : Bool), cell h15 ⟨bv_99, (ov_99 + (r_14).toNat * 1), none⟩ = some (.bool v_100) ∧
 ∃ (av_104 : Option Addr) (nv_104 cv_104 : Nat), cell h15 ⟨bv_19, (0 + (i_9).toNat * 1), none⟩ = some (.slice av_104 nv_104 cv_104) ∧
 0 ≤ r_14 ∧ r_14 < (↑nv_104 : Int) ∧
 (onP av_104 fun bv_106 ov_106 =>
 ∃ (v_107 : Bool), cell h15 ⟨bv_106, (ov_106 + (r_14).toNat * 1), none⟩ = some (.bool v_107) ∧
 (((¬ (v_100 = v_107)) →
 InR .i64 (r_14 + 1) ∧
 (J_5 true (r_14 + 1)).1 h15 ∧ (J_5 true (r_14 + 1)).2 h15 < (J_5 more_8_2 r_14).2 h15) ∧
 (¬ (¬ (v_100 = v_107)) →
 InR .i64 (r_14 + 1) ∧
 (J_5 more_8_2 (r_14 + 1)).1 h15 ∧ (J_5 more_8_2 (r_14 + 1)).2 h15 < (J_5 more_8_2 r_14).2 h15))))) ∧
 (¬ (r_14 < v_93) →
 0 ≤ i_9 ∧ i_9 < (↑(((↑nv_16 : Int)).toNat) : Int) ∧
 stQ 1 h15 bv_19 (0 + (i_9).toNat * 1) [(.slice av_90 nv_90 cv_90)] fun h16 =>
 InR .i64 (i_9 - 1) ∧
 (J_2 more_8_2 (i_9 - 1)).1 h16 ∧ (J_2 more_8_2 (i_9 - 1)).2 h16 < (J_2 more_8_1 i_9).2 h10))))))) ∧
 (¬ (0 ≤ i_9) →
 (J_1 more_8_1).1 h10 ∧ (J_1 more_8_1).2 h10 < (J_1 more_8).2 h9))) ∧
 (more_8 = false →
 R (.tuple ⟨[(.slice (some ⟨bv_19, 0, none⟩) (((↑nv_16 : Int)).toNat) (((↑nv_16 : Int)).toNat)), (.slice (some ⟨bv_21, 0, none⟩) (((↑nv_16 : Int)).toNat) (((↑nv_16 : Int)).toNat))]⟩) h9))))
theorem hc37 {f_0 : ByteArray} {af_0 : Option Addr} {nf_0 cf_0 : Nat} {f_0_1 : Int} {f_0_2 : Int} {af_0_1 : Option Addr} {nf_0_1 cf_0_1 : Nat} {h : H} {R : Value → H → Prop} (x : sh37 f_0 af_0 nf_0 cf_0 f_0_1 f_0_2 af_0_1 nf_0_1 cf_0_1 h R) : HC Tryd.prog 37 [(.agg ⟨[(.string f_0), (.slice af_0 nf_0 cf_0), (.int .i64 f_0_1), (.int .i64 f_0_2), (.slice af_0_1 nf_0_1 cf_0_1)]⟩)] h R :=
  FL.sound mixed ck37 ⟨rfl, Eq.mp (by unfold sh37; kernel_rfl) x⟩
/- quern/quernref17.wide -/
def fl38 : FL := ⟨37, (.seq (.reg [sv 7 (.mov (t 0)), sv 8 (.mov (t 1)), sv 9 (.idx 3 (t 7) (t 8)), sv 6 (.mov (t 9))]) (.seq (.seq (.reg [sv 10 (.mov (t 6)), sv 11 (.nck (t 10)), sv 12 (.fad 1 (t 11)), sv 13 (.ld (.int .i64) (t 12)), sv 14 (.cmp .lss (t 13) (ci 0)), sv 15 (.mov (t 14)), ⟨some 16, some (15, false), .v (.mov (t 2))⟩, ⟨some 17, some (15, false), .v (.mov (t 6))⟩, ⟨some 18, some (15, false), .v (.nck (t 17))⟩, ⟨some 19, some (15, false), .v (.fad 1 (t 18))⟩, ⟨some 20, some (15, false), .v (.ld (.int .i64) (t 19))⟩, ⟨some 21, some (15, false), .v (.cmp .lss (t 16) (t 20))⟩, sv 22 (.pick (t 15) (cb true) (t 21))]) (.cond (t 22) (.reg [sv 23 (.mov (t 6)), sv 24 (.mov (t 2)), sv 25 (.nck (t 23)), sv 26 (.fad 1 (t 25)), ne (.sto 1 (t 26) (t 24))]) .skip)) (.seq (.reg [sv 27 (.mov (t 2)), sv 28 (.mov (t 6)), sv 29 (.nck (t 28)), sv 30 (.fad 2 (t 29)), sv 31 (.ld (.int .i64) (t 30)), sv 32 (.cmp .gtr (t 27) (t 31))]) (.cond (t 32) (.reg [sv 33 (.mov (t 6)), sv 34 (.mov (t 2)), sv 35 (.nck (t 33)), sv 36 (.fad 2 (t 35)), ne (.sto 1 (t 36) (t 34))]) .skip)))), []⟩
theorem ck38 : chkFL Tryd.prog 38 fl38 = true := by kernel_rfl
def sh38 (al_0 : Option Addr) (nl_0 cl_0 : Nat) (r_1 : Int) (place_2 : Int) (h : H) (R : Value → H → Prop) : Prop :=
 0 ≤ r_1 ∧ r_1 < (↑nl_0 : Int) ∧
 (onP al_0 fun bv_9 ov_9 =>
 ((some ⟨bv_9, (ov_9 + (r_1).toNat * 3), none⟩) : Option Addr) ≠ none ∧
 ∃ (v_13 : Int), cell h ⟨bv_9, ((ov_9 + (r_1).toNat * 3) + 1), none⟩ = some (.int .i64 v_13) ∧
 (((v_13 < 0) →
 ((some ⟨bv_9, (ov_9 + (r_1).toNat * 3), none⟩) : Option Addr) ≠ none ∧
 stQ 1 h bv_9 ((ov_9 + (r_1).toNat * 3) + 1) [(.int .i64 place_2)] fun h1 =>
 ((some ⟨bv_9, (ov_9 + (r_1).toNat * 3), none⟩) : Option Addr) ≠ none ∧
 ∃ (v_31 : Int), cell h1 ⟨bv_9, ((ov_9 + (r_1).toNat * 3) + 2), none⟩ = some (.int .i64 v_31) ∧
 (((v_31 < place_2) →
 ((some ⟨bv_9, (ov_9 + (r_1).toNat * 3), none⟩) : Option Addr) ≠ none ∧
 stQ 1 h1 bv_9 ((ov_9 + (r_1).toNat * 3) + 2) [(.int .i64 place_2)] fun h2 =>
 R (.tuple ⟨[]⟩) h2) ∧
 (¬ (v_31 < place_2) →
 R (.tuple ⟨[]⟩) h1))) ∧
 (¬ (v_13 < 0) →
 ((some ⟨bv_9, (ov_9 + (r_1).toNat * 3), none⟩) : Option Addr) ≠ none ∧
 ∃ (v_20 : Int), cell h ⟨bv_9, ((ov_9 + (r_1).toNat * 3) + 1), none⟩ = some (.int .i64 v_20) ∧
 (((place_2 < v_20) →
 ((some ⟨bv_9, (ov_9 + (r_1).toNat * 3), none⟩) : Option Addr) ≠ none ∧
 stQ 1 h bv_9 ((ov_9 + (r_1).toNat * 3) + 1) [(.int .i64 place_2)] fun h3 =>
 ((some ⟨bv_9, (ov_9 + (r_1).toNat * 3), none⟩) : Option Addr) ≠ none ∧
 ∃ (v_31_1 : Int), cell h3 ⟨bv_9, ((ov_9 + (r_1).toNat * 3) + 2), none⟩ = some (.int .i64 v_31_1) ∧
 (((v_31_1 < place_2) →
 ((some ⟨bv_9, (ov_9 + (r_1).toNat * 3), none⟩) : Option Addr) ≠ none ∧
 stQ 1 h3 bv_9 ((ov_9 + (r_1).toNat * 3) + 2) [(.int .i64 place_2)] fun h4 =>
 R (.tuple ⟨[]⟩) h4) ∧
 (¬ (v_31_1 < place_2) →
 R (.tuple ⟨[]⟩) h3))) ∧
 (¬ (place_2 < v_20) →
 ((some ⟨bv_9, (ov_9 + (r_1).toNat * 3), none⟩) : Option Addr) ≠ none ∧
 ∃ (v_31_2 : Int), cell h ⟨bv_9, ((ov_9 + (r_1).toNat * 3) + 2), none⟩ = some (.int .i64 v_31_2) ∧
 (((v_31_2 < place_2) →
 ((some ⟨bv_9, (ov_9 + (r_1).toNat * 3), none⟩) : Option Addr) ≠ none ∧
 stQ 1 h bv_9 ((ov_9 + (r_1).toNat * 3) + 2) [(.int .i64 place_2)] fun h5 =>
 R (.tuple ⟨[]⟩) h5) ∧
 (¬ (v_31_2 < place_2) →
 R (.tuple ⟨[]⟩) h)))))))
theorem hc38 {al_0 : Option Addr} {nl_0 cl_0 : Nat} {r_1 : Int} {place_2 : Int} {h : H} {R : Value → H → Prop} (x : sh38 al_0 nl_0 cl_0 r_1 place_2 h R) : HC Tryd.prog 38 [(.slice al_0 nl_0 cl_0), (.int .i64 r_1), (.int .i64 place_2)] h R :=
  FL.sound mixed ck38 ⟨rfl, Eq.mp (by unfold sh38; kernel_rfl) x⟩
/- quern/quernref17.block -/
def fl39 : FL := ⟨97, (.seq (.reg [se 5 (.box 50 (t 0))]) (.seq (.seq (.reg [sv 10 (.mov (ci 0))]) (.block 0 (.loop [(10, (.one (.int .i64)))] [10, 14, 15, 16, 17, 18, 19, 20, 21, 22, 23, 24, 25, 26, 27, 28, 29, 30, 31, 32, 33, 34, 35, 36, 37, 38, 39, 40, 41, 42, 43, 44] (.seq (.seq (.reg [sv 14 (.mov (t 10)), sv 15 (.mov (t 3)), sv 16 (.len (t 15)), sv 17 (.cmp .lss (t 14) (t 16))]) (.cond (t 17) .skip (.exit 0))) (.seq (.block 1 (.seq (.seq (.reg [sv 20 (.mov (t 1)), sv 21 (.mov (t 10)), sv 22 (.idx 1 (t 20) (t 21)), sv 23 (.ld .bool (t 22))]) (.cond (t 23) (.reg [sv 24 (.mov (t 3)), sv 25 (.mov (t 10)), sv 26 (.mov (t 4)), sv 27 (.ar .add true (t 26) (ci 1)), sv 28 (.ar .mul true (ci 2) (t 27)), se 29 (.call 38 [(t 24), (t 25), (t 28)] .unit)]) .skip)) (.seq (.reg [sv 30 (.mov (t 2)), sv 31 (.mov (t 10)), sv 32 (.idx 1 (t 30) (t 31)), sv 33 (.ld .bool (t 32))]) (.cond (t 33) (.reg [sv 34 (.mov (t 3)), sv 35 (.mov (t 10)), sv 36 (.mov (t 4)), sv 37 (.fad 0 (t 5)), sv 38 (.ld .slice (t 37)), sv 39 (.len (t 38)), sv 40 (.ar .add true (t 36) (t 39)), sv 41 (.ar .add true (t 40) (ci 1)), sv 42 (.ar .mul true (ci 2) (t 41)), sv 43 (.ar .add true (t 42) (ci 1)), se 44 (.call 38 [(t 34), (t 35), (t 43)] .unit)]) .skip)))) (.reg [sv 18 (.mov (t 10)), sv 19 (.ar .add true (t 18) (ci 1)), sv 10 (.mov (t 19))])))))) (.seq (.seq (.reg [sv 11 (.mov (ci 0))]) (.block 2 (.loop [(4, (.one (.int .i64))), (11, (.one (.int .i64)))] [4, 11, 12, 13, 45, 46, 47, 48, 49, 50, 51, 52, 53, 54, 55, 56, 57, 58, 59, 60, 61, 62, 63, 64, 65, 66, 67, 68, 69, 70, 71, 72, 73, 74, 75, 76, 77, 78, 79, 80, 81, 82, 83, 84] (.seq (.seq (.reg [sv 45 (.mov (t 11)), sv 46 (.fad 0 (t 5)), sv 47 (.ld .slice (t 46)), sv 48 (.len (t 47)), sv 49 (.cmp .lss (t 45) (t 48))]) (.cond (t 49) .skip (.exit 2))) (.seq (.block 3 (.seq (.reg [sv 52 (.fad 0 (t 5)), sv 53 (.ld .slice (t 52)), sv 54 (.mov (t 11)), sv 55 (.idx 4 (t 53) (t 54)), sv 56 (.lda [(.int .i64), (.int .i64), (.int .i64), .slice] (t 55)), se 12 (.alc 71 [.int .i64 0, .int .i64 0, .int .i64 0, .slice none 0 0]), ne (.sto 4 (t 12) (t 56))]) (.seq (.reg [sv 57 (.mov (t 4)), sv 58 (.ar .add true (t 57) (ci 1)), sv 4 (.mov (t 58))]) (.seq (.seq (.reg [sv 13 (.mov (ci 0))]) (.block 4 (.loop [(13, (.one (.int .i64)))] [13, 59, 60, 61, 62, 63, 64, 65, 66, 67, 68, 69, 70, 71, 72, 73, 74] (.seq (.seq (.reg [sv 59 (.mov (t 13)), sv 60 (.fad 3 (t 12)), sv 61 (.ld .slice (t 60)), sv 62 (.len (t 61)), sv 63 (.cmp .lss (t 59) (t 62))]) (.cond (t 63) .skip (.exit 4))) (.seq (.block 5 (.reg [sv 66 (.mov (t 3)), sv 67 (.fad 3 (t 12)), sv 68 (.ld .slice (t 67)), sv 69 (.mov (t 13)), sv 70 (.idx 1 (t 68) (t 69)), sv 71 (.ld (.int .i64) (t 70)), sv 72 (.mov (t 4)), sv 73 (.ar .mul true (ci 2) (t 72)), se 74 (.call 38 [(t 66), (t 71), (t 73)] .unit)])) (.reg [sv 64 (.mov (t 13)), sv 65 (.ar .add true (t 64) (ci 1)), sv 13 (.mov (t 65))])))))) (.seq (.reg [sv 75 (.fad 1 (t 12)), sv 76 (.ld (.int .i64) (t 75)), sv 77 (.cmp .geq (t 76) (ci 0))]) (.cond (t 77) (.reg [sv 78 (.mov (t 3)), sv 79 (.fad 1 (t 12)), sv 80 (.ld (.int .i64) (t 79)), sv 81 (.mov (t 4)), sv 82 (.ar .mul true (ci 2) (t 81)), sv 83 (.ar .add true (t 82) (ci 1)), se 84 (.call 38 [(t 78), (t 80), (t 83)] .unit)]) .skip)))))) (.reg [sv 50 (.mov (t 11)), sv 51 (.ar .add true (t 50) (ci 1)), sv 11 (.mov (t 51))])))))) (.seq (.reg [sv 85 (.fad 1 (t 5)), sv 86 (.fad 1 (t 85)), sv 87 (.ld (.int .i64) (t 86)), sv 88 (.cmp .geq (t 87) (ci 0))]) (.cond (t 88) (.reg [sv 89 (.mov (t 3)), sv 90 (.fad 1 (t 5)), sv 91 (.fad 1 (t 90)), sv 92 (.ld (.int .i64) (t 91)), sv 93 (.mov (t 4)), sv 94 (.ar .add true (t 93) (ci 1)), sv 95 (.ar .mul true (ci 2) (t 94)), se 96 (.call 38 [(t 89), (t 92), (t 95)] .unit)]) .skip))))), []⟩
theorem ck39 : chkFL Tryd.prog 39 fl39 = true := by kernel_rfl
def sh39 (ab_0 : Option Addr) (nb_0 cb_0 : Nat) (b_0 : Int) (b_0_1 : Int) (ab_0_1 : Option Addr) (nb_0_1 cb_0_1 : Nat) (aahead_1 : Option Addr) (nahead_1 cahead_1 : Nat) (abehind_2 : Option Addr) (nbehind_2 cbehind_2 : Nat) (al_3 : Option Addr) (nl_3 cl_3 : Nat) (k_4 : Int) (h : H) (R : Value → H → Prop) : Prop :=
 ∀ (bb_5 : Nat) (h1 : H), New h (.cells ⟨[(.slice ab_0 nb_0 cb_0), (.int .i64 b_0), (.int .i64 b_0_1), (.slice ab_0_1 nb_0_1 cb_0_1)]⟩ 50) bb_5 h1 →
 ∃ J : Int → LI, (J 0).1 h1 ∧
 ∀ (r_10 : Int), ∀ h2 : H, (J r_10).1 h2 →
 (((r_10 < (↑nl_3 : Int)) →
 0 ≤ r_10 ∧ r_10 < (↑nahead_1 : Int) ∧
 (onP aahead_1 fun bv_22 ov_22 =>
 ∃ (v_23 : Bool), cell h2 ⟨bv_22, (ov_22 + (r_10).toNat * 1), none⟩ = some (.bool v_23) ∧
 ((v_23 = true →
 InR .i64 (k_4 + 1) ∧
 InR .i64 (2 * (k_4 + 1)) ∧
 HC Tryd.prog 38 [(.slice al_3 nl_3 cl_3), (.int .i64 r_10), (.int .i64 (2 * (k_4 + 1)))] h2 fun rv_29 h3 =>
 rv_29 = (.tuple ⟨[]⟩) ∧
 0 ≤ r_10 ∧ r_10 < (↑nbehind_2 : Int) ∧
 (onP abehind_2 fun bv_32 ov_32 =>
 ∃ (v_33 : Bool), cell h3 ⟨bv_32, (ov_32 + (r_10).toNat * 1), none⟩ = some (.bool v_33) ∧
 ((v_33 = true →
 ∃ (av_38 : Option Addr) (nv_38 cv_38 : Nat), cell h3 ⟨bb_5, (0 + 0), none⟩ = some (.slice av_38 nv_38 cv_38) ∧
 InR .i64 (k_4 + (↑nv_38 : Int)) ∧
 InR .i64 ((k_4 + (↑nv_38 : Int)) + 1) ∧
 InR .i64 (2 * ((k_4 + (↑nv_38 : Int)) + 1)) ∧
 InR .i64 ((2 * ((k_4 + (↑nv_38 : Int)) + 1)) + 1) ∧
 HC Tryd.prog 38 [(.slice al_3 nl_3 cl_3), (.int .i64 r_10), (.int .i64 ((2 * ((k_4 + (↑nv_38 : Int)) + 1)) + 1))] h3 fun rv_44 h4 =>
 rv_44 = (.tuple ⟨[]⟩) ∧
 InR .i64 (r_10 + 1) ∧
 (J (r_10 + 1)).1 h4 ∧ (J (r_10 + 1)).2 h4 < (J r_10).2 h2) ∧
 (v_33 = false →
 InR .i64 (r_10 + 1) ∧
 (J (r_10 + 1)).1 h3 ∧ (J (r_10 + 1)).2 h3 < (J r_10).2 h2)))) ∧
 (v_23 = false →
 0 ≤ r_10 ∧ r_10 < (↑nbehind_2 : Int) ∧
 (onP abehind_2 fun bv_32_1 ov_32_1 =>
 ∃ (v_33_1 : Bool), cell h2 ⟨bv_32_1, (ov_32_1 + (r_10).toNat * 1), none⟩ = some (.bool v_33_1) ∧
 ((v_33_1 = true →
 ∃ (av_38_1 : Option Addr) (nv_38_1 cv_38_1 : Nat), cell h2 ⟨bb_5, (0 + 0), none⟩ = some (.slice av_38_1 nv_38_1 cv_38_1) ∧
 InR .i64 (k_4 + (↑nv_38_1 : Int)) ∧
 InR .i64 ((k_4 + (↑nv_38_1 : Int)) + 1) ∧
 InR .i64 (2 * ((k_4 + (↑nv_38_1 : Int)) + 1)) ∧
 InR .i64 ((2 * ((k_4 + (↑nv_38_1 : Int)) + 1)) + 1) ∧
 HC Tryd.prog 38 [(.slice al_3 nl_3 cl_3), (.int .i64 r_10), (.int .i64 ((2 * ((k_4 + (↑nv_38_1 : Int)) + 1)) + 1))] h2 fun rv_44_1 h5 =>
 rv_44_1 = (.tuple ⟨[]⟩) ∧
 InR .i64 (r_10 + 1) ∧
 (J (r_10 + 1)).1 h5 ∧ (J (r_10 + 1)).2 h5 < (J r_10).2 h2) ∧
 (v_33_1 = false →
 InR .i64 (r_10 + 1) ∧
 (J (r_10 + 1)).1 h2 ∧ (J (r_10 + 1)).2 h2 < (J r_10).2 h2))))))) ∧
 (¬ (r_10 < (↑nl_3 : Int)) →
 ∃ J_1 : Int → Int → LI, (J_1 k_4 0).1 h2 ∧
 ∀ (k_4_1 : Int), ∀ (i_11 : Int), ∀ h6 : H, (J_1 k_4_1 i_11).1 h6 →
 ∃ (av_47 : Option Addr) (nv_47 cv_47 : Nat), cell h6 ⟨bb_5, (0 + 0), none⟩ = some (.slice av_47 nv_47 cv_47) ∧
 (((i_11 < (↑nv_47 : Int)) →
 ∃ (av_53 : Option Addr) (nv_53 cv_53 : Nat), cell h6 ⟨bb_5, (0 + 0), none⟩ = some (.slice av_53 nv_53 cv_53) ∧
 0 ≤ i_11 ∧ i_11 < (↑nv_53 : Int) ∧
 (onP av_53 fun bv_55 ov_55 =>
 ∃ (v_56 : Int), cell h6 ⟨bv_55, ((ov_55 + (i_11).toNat * 4) + 0), none⟩ = some (.int .i64 v_56) ∧
 ∃ (v_56_1 : Int), cell h6 ⟨bv_55, ((ov_55 + (i_11).toNat * 4) + 1), none⟩ = some (.int .i64 v_56_1) ∧
 ∃ (v_56_2 : Int), cell h6 ⟨bv_55, ((ov_55 + (i_11).toNat * 4) + 2), none⟩ = some (.int .i64 v_56_2) ∧
 ∃ (av_56 : Option Addr) (nv_56 cv_56 : Nat), cell h6 ⟨bv_55, ((ov_55 + (i_11).toNat * 4) + 3), none⟩ = some (.slice av_56 nv_56 cv_56) ∧
 ∀ (bx_12 : Nat) (h7 : H), New h6 (.cells ⟨[(.int .i64 0), (.int .i64 0), (.int .i64 0), (.slice none 0 0)]⟩ 71) bx_12 h7 →
 stQ 4 h7 bx_12 0 [(.int .i64 v_56), (.int .i64 v_56_1), (.int .i64 v_56_2), (.slice av_56 nv_56 cv_56)] fun h8 =>
 InR .i64 (k_4_1 + 1) ∧
 ∃ J_2 : Int → LI, (J_2 0).1 h8 ∧
 ∀ (j_13 : Int), ∀ h9 : H, (J_2 j_13).1 h9 →
 ∃ (av_61 : Option Addr) (nv_61 cv_61 : Nat), cell h9 ⟨bx_12, (0 + 3), none⟩ = some (.slice av_61 nv_61 cv_61) ∧
 (((j_13 < (↑nv_61 : Int)) →
 ∃ (av_68 : Option Addr) (nv_68 cv_68 : Nat), cell h9 ⟨bx_12, (0 + 3), none⟩ = some (.slice av_68 nv_68 cv_68) ∧
 0 ≤ j_13 ∧ j_13 < (↑nv_68 : Int) ∧
 (onP av_68 fun bv_70 ov_70 =>
 ∃ (v_71 : Int), cell h9 ⟨bv_70, (ov_70 + (j_13).toNat * 1), none⟩ = some (.int .i64 v_71) ∧
 InR .i64 (2 * (k_4_1 + 1)) ∧
 HC Tryd.prog 38 [(.slice al_3 nl_3 cl_3), (.int .i64 v_71), (.int .i64 (2 * (k_4_1 + 1)))] h9 fun rv_74 h10 =>
 rv_74 = (.tuple ⟨[]⟩) ∧
 InR .i64 (j_13 + 1) ∧
 (J_2 (j_13 + 1)).1 h10 ∧ (J_2 (j_13 + 1)).2 h10 < (J_2 j_13).2 h9)) ∧
 (¬ (j_13 < (↑nv_61 : Int)) →
 ∃ (v_76 : Int), cell h9 ⟨bx_12, (0 + 1), none⟩ = some (.int .i64 v_76) ∧
 (((0 ≤ v_76) →
 ∃ (v_80 : Int), cell h9 ⟨bx_12, (0 + 1), none⟩ = some (.int .i64 v_80) ∧
 InR .i64 (2 * (k_4_1 + 1)) ∧
 InR .i64 ((2 * (k_4_1 + 1)) + 1) ∧
 HC Tryd.prog 38 [(.slice al_3 nl_3 cl_3), (.int .i64 v_80), (.int .i64 ((2 * (k_4_1 + 1)) + 1))] h9 fun rv_84 h11 =>
 rv_84 = (.tuple ⟨[]⟩) ∧
 InR .i64 (i_11 + 1) ∧
 (J_1 (k_4_1 + 1) (i_11 + 1)).1 h11 ∧ (J_1 (k_4_1 + 1) (i_11 + 1)).2 h11 < (J_1 k_4_1 i_11).2 h6) ∧
 (¬ (0 ≤ v_76) →
 InR .i64 (i_11 + 1) ∧
 (J_1 (k_4_1 + 1) (i_11 + 1)).1 h9 ∧ (J_1 (k_4_1 + 1) (i_11 + 1)).2 h9 < (J_1 k_4_1 i_11).2 h6)))))) ∧
 (¬ (i_11 < (↑nv_47 : Int)) →
 ∃ (v_87 : Int), cell h6 ⟨bb_5, ((0 + 1) + 1), none⟩ = some (.int .i64 v_87) ∧
 (((0 ≤ v_87) →
 ∃ (v_92 : Int), cell h6 ⟨bb_5, ((0 + 1) + 1), none⟩ = some (.int .i64 v_92) ∧
 InR .i64 (k_4_1 + 1) ∧
 InR .i64 (2 * (k_4_1 + 1)) ∧
 HC Tryd.prog 38 [(.slice al_3 nl_3 cl_3), (.int .i64 v_92), (.int .i64 (2 * (k_4_1 + 1)))] h6 fun rv_96 h12 =>
 rv_96 = (.tuple ⟨[]⟩) ∧
 R (.tuple ⟨[]⟩) h12) ∧
 (¬ (0 ≤ v_87) →
 R (.tuple ⟨[]⟩) h6))))))
theorem hc39 {ab_0 : Option Addr} {nb_0 cb_0 : Nat} {b_0 : Int} {b_0_1 : Int} {ab_0_1 : Option Addr} {nb_0_1 cb_0_1 : Nat} {aahead_1 : Option Addr} {nahead_1 cahead_1 : Nat} {abehind_2 : Option Addr} {nbehind_2 cbehind_2 : Nat} {al_3 : Option Addr} {nl_3 cl_3 : Nat} {k_4 : Int} {h : H} {R : Value → H → Prop} (x : sh39 ab_0 nb_0 cb_0 b_0 b_0_1 ab_0_1 nb_0_1 cb_0_1 aahead_1 nahead_1 cahead_1 abehind_2 nbehind_2 cbehind_2 al_3 nl_3 cl_3 k_4 h R) : HC Tryd.prog 39 [(.agg ⟨[(.slice ab_0 nb_0 cb_0), (.int .i64 b_0), (.int .i64 b_0_1), (.slice ab_0_1 nb_0_1 cb_0_1)]⟩), (.slice aahead_1 nahead_1 cahead_1), (.slice abehind_2 nbehind_2 cbehind_2), (.slice al_3 nl_3 cl_3), (.int .i64 k_4)] h R :=
  FL.sound mixed ck39 ⟨rfl, Eq.mp (by unfold sh39; kernel_rfl) x⟩
/- quern/quernref17.Intervals -/
def fl11 : FL := ⟨161, (.seq (.reg [se 2 (.box 25 (t 0)), sv 4 (.mov (.const (Go.Value.slice none 0 0))), sv 5 (.mov (ci 0))]) (.seq (.seq (.reg [sv 20 (.lda [.str, .slice, (.int .i64), (.int .i64), .slice] (t 2)), se 21 (.call 15 [(t 20)] (.one .bool)), sv 22 (.no (t 21))]) (.cond (t 22) (.seq (.reg [sv 4 (.mov (.const (Go.Value.slice none 0 0))), sv 5 (.mov (ci 140))]) .ret) .skip)) (.seq (.seq (.reg [sv 23 (.mov (t 1)), sv 24 (.fad 4 (t 2)), sv 25 (.ld .slice (t 24)), sv 26 (.len (t 25)), se 27 (.call 36 [(t 23), (t 26)] (.one .bool)), sv 28 (.no (t 27))]) (.cond (t 28) (.seq (.reg [sv 4 (.mov (.const (Go.Value.slice none 0 0))), sv 5 (.mov (ci 170))]) .ret) .skip)) (.seq (.reg [sv 30 (.lda [.str, .slice, (.int .i64), (.int .i64), .slice] (t 2)), se 31 (.call 37 [(t 30)] (.tup [(.one .slice), (.one .slice)])), sv 29 (.mov (t 31)), sv 32 (.ext (t 29) 0), sv 33 (.ext (t 29) 1), sv 6 (.mov (t 32)), sv 7 (.mov (t 33))]) (.seq (.reg [sv 8 (.mov (.const (Go.Value.slice none 0 0)))]) (.seq (.seq (.reg [sv 9 (.mov (ci 0))]) (.block 0 (.loop [(8, (.one .slice)), (9, (.one (.int .i64)))] [8, 9, 34, 35, 36, 37, 38, 39, 40, 41, 42, 43, 44] (.seq (.seq (.reg [sv 34 (.mov (t 9)), sv 35 (.fad 2 (t 2)), sv 36 (.ld (.int .i64) (t 35)), sv 37 (.cmp .lss (t 34) (t 36))]) (.cond (t 37) .skip (.exit 0))) (.seq (.block 1 (.reg [sv 40 (.mov (t 8)), sv 41 (.mov (t 9)), sv 42 (.bld [.int .i64 0, .int .i64 0, .int .i64 0] [(0, 1, (t 41)), (1, 1, (ci (-1))), (2, 1, (ci (-1)))]), se 43 (.bsl 52 3 [.int .i64 0, .int .i64 0, .int .i64 0] 1 [(0, 3, (t 42))]), se 44 (.app 52 3 24 [.int .i64 0, .int .i64 0, .int .i64 0] (t 40) (t 43)), sv 8 (.mov (t 44))])) (.reg [sv 38 (.mov (t 9)), sv 39 (.ar .add true (t 38) (ci 1)), sv 9 (.mov (t 39))])))))) (.seq (.seq (.reg [sv 10 (.mov (ci 0))]) (.block 2 (.loop [(10, (.one (.int .i64)))] [10, 45, 46, 47, 48, 49, 50, 51, 52, 53, 54, 55, 56, 57, 58] (.seq (.seq (.reg [sv 45 (.mov (t 10)), sv 46 (.fad 1 (t 2)), sv 47 (.ld .slice (t 46)), sv 48 (.len (t 47)), sv 49 (.cmp .lss (t 45) (t 48))]) (.cond (t 49) .skip (.exit 2))) (.seq (.block 3 (.reg [sv 52 (.mov (t 8)), sv 53 (.fad 1 (t 2)), sv 54 (.ld .slice (t 53)), sv 55 (.mov (t 10)), sv 56 (.idx 1 (t 54) (t 55)), sv 57 (.ld (.int .i64) (t 56)), se 58 (.call 38 [(t 52), (t 57), (ci 0)] .unit)])) (.reg [sv 50 (.mov (t 10)), sv 51 (.ar .add true (t 50) (ci 1)), sv 10 (.mov (t 51))])))))) (.seq (.reg [sv 11 (.mov (ci 0))]) (.seq (.reg [sv 12 (.mov (ci 0))]) (.seq (.seq (.reg [sv 13 (.mov (ci 0))]) (.block 4 (.loop [(11, (.one (.int .i64))), (12, (.one (.int .i64))), (13, (.one (.int .i64)))] [11, 12, 13, 14, 59, 60, 61, 62, 63, 64, 65, 66, 67, 68, 69, 70, 71, 72, 73, 74, 75, 76, 77, 78, 79, 80, 81, 82, 83, 84, 85, 86, 87, 88, 89, 90, 91, 92, 93, 94, 95, 96, 97, 98, 99] (.seq (.seq (.reg [sv 59 (.mov (t 13)), sv 60 (.mov (t 1)), sv 61 (.len (t 60)), sv 62 (.cmp .lss (t 59) (t 61))]) (.cond (t 62) .skip (.exit 4))) (.seq (.block 5 (.seq (.drw .ext [9] [14, 65, 66, 67, 68, 69, 70, 71, 72] (.takeP 0 (sv 65 (.fad 4 (t 2))) (.takeP 2 (sv 67 (.mov (t 1))) (.takeP 3 (sv 68 (.mov (t 13))) (.takeP 4 (sv 69 (.idx 1 (t 67) (t 68))) (.takeR 1 (sv 66 (.ld .slice (t 65))) (.takeR 5 (sv 70 (.ld (.int .i64) (t 69))) (.takeP 6 (sv 71 (.idx 4 (t 66) (t 70))) (.takeR 7 (sv 72 (.lda [.slice, (.int .i64), (.int .i64), .slice] (t 71))) (.alt 8 (se 14 (.alc 50 [.slice none 0 0, .int .i64 0, .int .i64 0, .slice none 0 0])) (.alt 9 (ne (.sto 4 (t 14) (t 72))) .done .stop) .stop)))))))))) (.seq (.drw .eq [17] [73, 74, 75, 76, 77, 78, 79, 80, 81, 82, 83, 84, 85, 86, 87, 88, 89, 90] (.takeP 1 (sv 74 (.mov (t 6))) (.takeP 2 (sv 75 (.mov (t 1))) (.takeP 3 (sv 76 (.mov (t 13))) (.takeP 4 (sv 77 (.idx 1 (t 75) (t 76))) (.takeP 8 (sv 81 (.mov (t 7))) (.takeP 9 (sv 82 (.mov (t 1))) (.takeP 10 (sv 83 (.mov (t 13))) (.takeP 11 (sv 84 (.idx 1 (t 82) (t 83))) (.takeP 15 (sv 88 (.mov (t 8))) (.takeP 16 (sv 89 (.mov (t 11))) (.takeR 0 (sv 73 (.lda [.slice, (.int .i64), (.int .i64), .slice] (t 14))) (.alt 5 (sv 78 (.ld (.int .i64) (t 77))) (.takeP 6 (sv 79 (.idx 1 (t 74) (t 78))) (.takeR 7 (sv 80 (.ld .slice (t 79))) (.alt 12 (sv 85 (.ld (.int .i64) (t 84))) (.takeP 13 (sv 86 (.idx 1 (t 81) (t 85))) (.takeR 14 (sv 87 (.ld .slice (t 86))) (.alt 17 (se 90 (.call 39 [(t 73), (t 80), (t 87), (t 88), (t 89)] .unit)) .done .stop))) .stop))) (.alt 12 (sv 85 (.ld (.int .i64) (t 84))) (.takeP 13 (sv 86 (.idx 1 (t 81) (t 85))) (.takeR 14 (sv 87 (.ld .slice (t 86))) (.alt 5 (sv 78 (.ld (.int .i64) (t 77))) (.takeP 6 (sv 79 (.idx 1 (t 74) (t 78))) (.takeR 7 (sv 80 (.ld .slice (t 79))) (.alt 17 (se 90 (.call 39 [(t 73), (t 80), (t 87), (t 88), (t 89)] .unit)) .done .stop))) .stop))) .stop)))))))))))))) (.seq (.reg [sv 91 (.mov (t 11)), sv 92 (.fad 0 (t 14)), sv 93 (.ld .slice (t 92)), sv 94 (.len (t 93)), sv 95 (.ar .add true (t 94) (ci 1)), sv 96 (.ar .add true (t 91) (t 95)), sv 11 (.mov (t 96))]) (.reg [sv 97 (.mov (t 11)), sv 98 (.ar .mul true (ci 2) (t 97)), sv 99 (.ar .add true (t 98) (ci 1)), sv 12 (.mov (t 99))]))))) (.reg [sv 63 (.mov (t 13)), sv 64 (.ar .add true (t 63) (ci 1)), sv 13 (.mov (t 64))])))))) (.seq (.reg [sv 100 (.mov (t 12)), sv 101 (.ar .add true (t 100) (ci 1)), se 102 (.mks 22 1 24 [.slice none 0 0] (t 101) (t 101)), sv 15 (.mov (t 102))]) (.seq (.seq (.reg [sv 16 (.mov (ci 0))]) (.block 6 (.loop [(16, (.one (.int .i64)))] [16, 103, 104, 105, 106, 107, 108, 109, 110, 111, 112, 113, 114, 115, 116, 117, 118, 119, 120, 121, 122, 123, 124, 125, 126, 127, 128, 129, 130, 131, 132] (.seq (.seq (.reg [sv 103 (.mov (t 16)), sv 104 (.fad 2 (t 2)), sv 105 (.ld (.int .i64) (t 104)), sv 106 (.cmp .lss (t 103) (t 105))]) (.cond (t 106) .skip (.exit 6))) (.seq (.block 7 (.seq (.reg [sv 109 (.mov (t 8)), sv 110 (.mov (t 16)), sv 111 (.idx 3 (t 109) (t 110)), sv 112 (.fad 1 (t 111)), sv 113 (.ld (.int .i64) (t 112)), sv 114 (.cmp .geq (t 113) (ci 0))]) (.cond (t 114) (.drw .gen [18] [115, 116, 117, 118, 119, 120, 121, 122, 123, 124, 125, 126, 127, 128, 129, 130, 131, 132] (.takeP 0 (sv 115 (.mov (t 15))) (.takeP 1 (sv 116 (.mov (t 8))) (.takeP 2 (sv 117 (.mov (t 16))) (.takeP 3 (sv 118 (.idx 3 (t 116) (t 117))) (.takeP 4 (sv 119 (.fad 1 (t 118))) (.takeP 6 (sv 121 (.mov (t 15))) (.takeP 7 (sv 122 (.mov (t 8))) (.takeP 8 (sv 123 (.mov (t 16))) (.takeP 9 (sv 124 (.idx 3 (t 122) (t 123))) (.takeP 10 (sv 125 (.fad 1 (t 124))) (.takeP 14 (sv 129 (.mov (t 16))) (.takeR 5 (sv 120 (.ld (.int .i64) (t 119))) (.takeR 11 (sv 126 (.ld (.int .i64) (t 125))) (.takeP 12 (sv 127 (.idx 1 (t 121) (t 126))) (.takeR 13 (sv 128 (.ld .slice (t 127))) (.altS 15 (se 130 (.bsl 3 1 [.int .i64 0] 1 [(0, 1, (t 129))])) (.altS 16 (se 131 (.app 3 1 8 [.int .i64 0] (t 128) (t 130))) (.takeP 17 (sv 132 (.idx 1 (t 115) (t 120))) (.alt 18 (ne (.sto 1 (t 132) (t 131))) .done .stop)) .stop) .stop))))))))))))))))) .skip))) (.reg [sv 107 (.mov (t 16)), sv 108 (.ar .add true (t 107) (ci 1)), sv 16 (.mov (t 108))])))))) (.seq (.reg [sv 17 (.mov (.const (Go.Value.slice none 0 0)))]) (.seq (.seq (.reg [sv 18 (.mov (ci 0))]) (.block 8 (.loop [(17, (.one .slice)), (18, (.one (.int .i64)))] [17, 18, 19, 133, 134, 135, 136, 137, 138, 139, 140, 141, 142, 143, 144, 145, 146, 147, 148, 149, 150, 151, 152, 153, 154, 155, 156, 157, 158, 159] (.seq (.seq (.reg [sv 133 (.mov (t 18)), sv 134 (.mov (t 12)), sv 135 (.cmp .leq (t 133) (t 134))]) (.cond (t 135) .skip (.exit 8))) (.seq (.block 9 (.seq (.reg [sv 19 (.mov (ci 0))]) (.block 10 (.loop [(17, (.one .slice)), (19, (.one (.int .i64)))] [17, 19, 138, 139, 140, 141, 142, 143, 144, 145, 146, 147, 148, 149, 150, 151, 152, 153, 154, 155, 156, 157, 158, 159] (.seq (.seq (.reg [sv 138 (.mov (t 19)), sv 139 (.mov (t 15)), sv 140 (.mov (t 18)), sv 141 (.idx 1 (t 139) (t 140)), sv 142 (.ld .slice (t 141)), sv 143 (.len (t 142)), sv 144 (.cmp .lss (t 138) (t 143))]) (.cond (t 144) .skip (.exit 10))) (.seq (.block 11 (.reg [sv 147 (.mov (t 17)), sv 148 (.mov (t 8)), sv 149 (.mov (t 15)), sv 150 (.mov (t 18)), sv 151 (.idx 1 (t 149) (t 150)), sv 152 (.ld .slice (t 151)), sv 153 (.mov (t 19)), sv 154 (.idx 1 (t 152) (t 153)), sv 155 (.ld (.int .i64) (t 154)), sv 156 (.idx 3 (t 148) (t 155)), sv 157 (.lda [(.int .i64), (.int .i64), (.int .i64)] (t 156)), se 158 (.bsl 52 3 [.int .i64 0, .int .i64 0, .int .i64 0] 1 [(0, 3, (t 157))]), se 159 (.app 52 3 24 [.int .i64 0, .int .i64 0, .int .i64 0] (t 147) (t 158)), sv 17 (.mov (t 159))])) (.reg [sv 145 (.mov (t 19)), sv 146 (.ar .add true (t 145) (ci 1)), sv 19 (.mov (t 146))]))))))) (.reg [sv 136 (.mov (t 18)), sv 137 (.ar .add true (t 136) (ci 1)), sv 18 (.mov (t 137))])))))) (.seq (.reg [sv 160 (.mov (t 17)), sv 4 (.mov (t 160)), sv 5 (.mov (ci 0))]) .ret))))))))))))))), [.tmp 4, .tmp 5]⟩
theorem ck11 : chkFL Tryd.prog 11 fl11 = true := by kernel_rfl
def sh11 (f_0 : ByteArray) (af_0 : Option Addr) (nf_0 cf_0 : Nat) (f_0_1 : Int) (f_0_2 : Int) (af_0_1 : Option Addr) (nf_0_1 cf_0_1 : Nat) (aline_1 : Option Addr) (nline_1 cline_1 : Nat) (h : H) (R : Value → H → Prop) : Prop :=
 ∀ (bf_2 : Nat) (h1 : H), New h (.cells ⟨[(.string f_0), (.slice af_0 nf_0 cf_0), (.int .i64 f_0_1), (.int .i64 f_0_2), (.slice af_0_1 nf_0_1 cf_0_1)]⟩ 25) bf_2 h1 →
 ∃ (v_20 : ByteArray), cell h1 ⟨bf_2, (0 + 0), none⟩ = some (.string v_20) ∧
 ∃ (av_20 : Option Addr) (nv_20 cv_20 : Nat), cell h1 ⟨bf_2, (0 + 1), none⟩ = some (.slice av_20 nv_20 cv_20) ∧
 ∃ (v_20_1 : Int), cell h1 ⟨bf_2, (0 + 2), none⟩ = some (.int .i64 v_20_1) ∧
 ∃ (v_20_2 : Int), cell h1 ⟨bf_2, (0 + 3), none⟩ = some (.int .i64 v_20_2) ∧
 ∃ (av_20_1 : Option Addr) (nv_20_1 cv_20_1 : Nat), cell h1 ⟨bf_2, (0 + 4), none⟩ = some (.slice av_20_1 nv_20_1 cv_20_1) ∧
 HC Tryd.prog 15 [(.agg ⟨[(.string v_20), (.slice av_20 nv_20 cv_20), (.int .i64 v_20_1), (.int .i64 v_20_2), (.slice av_20_1 nv_20_1 cv_20_1)]⟩)] h1 fun rv_21 h2 =>
 ∃ (v_21 : Bool), rv_21 = (.bool v_21) ∧
 (((!v_21) = true →
 R (.tuple ⟨[(.slice none 0 0), (.int .i64 140)]⟩) h2) ∧
 ((!v_21) = false →
 ∃ (av_25 : Option Addr) (nv_25 cv_25 : Nat), cell h2 ⟨bf_2, (0 + 4), none⟩ = some (.slice av_25 nv_25 cv_25) ∧
 HC Tryd.prog 36 [(.slice aline_1 nline_1 cline_1), (.int .i64 (↑nv_25 : Int))] h2 fun rv_27 h3 =>
 ∃ (v_27 : Bool), rv_27 = (.bool v_27) ∧
 (((!v_27) = true →
 R (.tuple ⟨[(.slice none 0 0), (.int .i64 170)]⟩) h3) ∧
 ((!v_27) = false →
 ∃ (v_30 : ByteArray), cell h3 ⟨bf_2, (0 + 0), none⟩ = some (.string v_30) ∧
 ∃ (av_30 : Option Addr) (nv_30 cv_30 : Nat), cell h3 ⟨bf_2, (0 + 1), none⟩ = some (.slice av_30 nv_30 cv_30) ∧
 ∃ (v_30_1 : Int), cell h3 ⟨bf_2, (0 + 2), none⟩ = some (.int .i64 v_30_1) ∧
 ∃ (v_30_2 : Int), cell h3 ⟨bf_2, (0 + 3), none⟩ = some (.int .i64 v_30_2) ∧
 ∃ (av_30_1 : Option Addr) (nv_30_1 cv_30_1 : Nat), cell h3 ⟨bf_2, (0 + 4), none⟩ = some (.slice av_30_1 nv_30_1 cv_30_1) ∧
 HC Tryd.prog 37 [(.agg ⟨[(.string v_30), (.slice av_30 nv_30 cv_30), (.int .i64 v_30_1), (.int .i64 v_30_2), (.slice av_30_1 nv_30_1 cv_30_1)]⟩)] h3 fun rv_31 h4 =>
 ∃ (av_31 : Option Addr) (nv_31 cv_31 : Nat), ∃ (av_31_1 : Option Addr) (nv_31_1 cv_31_1 : Nat), rv_31 = (.tuple ⟨[(.slice av_31 nv_31 cv_31), (.slice av_31_1 nv_31_1 cv_31_1)]⟩) ∧
 ∃ J : Option Addr → Nat → Nat → Int → LI, (J none 0 0 0).1 h4 ∧
 ∀ (al_8 : Option Addr) (nl_8 cl_8 : Nat), ∀ (r_9 : Int), ∀ h5 : H, (J al_8 nl_8 cl_8 r_9).1 h5 →
 ∃ (v_36 : Int), cell h5 ⟨bf_2, (0 + 2), none⟩ = some (.int .i64 v_36) ∧
 (((r_9 < v_36) →
 1 = 1 ∧ 0 + 1 ≤ 3 ∧
 1 = 1 ∧ 1 + 1 ≤ 3 ∧
 1 = 1 ∧ 2 + 1 ≤ 3 ∧
 3 = 3 ∧ 0 + 3 ≤ 3 ∧
 ∀ (bv_43 : Nat) (h6 : H), New h5 (.cells ⟨[(.int .i64 r_9), (.int .i64 (-1)), (.int .i64 (-1))]⟩ 52) bv_43 h6 →
 apQ 52 3 24 [.int .i64 0, .int .i64 0, .int .i64 0] h6 al_8 nl_8 cl_8 (some ⟨bv_43, 0, none⟩) 1 fun av_44 nv_44 cv_44 h7 =>
 InR .i64 (r_9 + 1) ∧
 (J av_44 nv_44 cv_44 (r_9 + 1)).1 h7 ∧ (J av_44 nv_44 cv_44 (r_9 + 1)).2 h7 < (J al_8 nl_8 cl_8 r_9).2 h5) ∧
 (¬ (r_9 < v_36) →
 ∃ J_1 : Int → LI, (J_1 0).1 h5 ∧
 ∀ (i_10 : Int), ∀ h8 : H, (J_1 i_10).1 h8 →
 ∃ (av_47 : Option Addr) (nv_47 cv_47 : Nat), cell h8 ⟨bf_2, (0 + 1), none⟩ = some (.slice av_47 nv_47 cv_47) ∧
 (((i_10 < (↑nv_47 : Int)) →
 ∃ (av_54 : Option Addr) (nv_54 cv_54 : Nat), cell h8 ⟨bf_2, (0 + 1), none⟩ = some (.slice av_54 nv_54 cv_54) ∧
 0 ≤ i_10 ∧ i_10 < (↑nv_54 : Int) ∧
 (onP av_54 fun bv_56 ov_56 =>
 ∃ (v_57 : Int), cell h8 ⟨bv_56, (ov_56 + (i_10).toNat * 1), none⟩ = some (.int .i64 v_57) ∧
 HC Tryd.prog 38 [(.slice al_8 nl_8 cl_8), (.int .i64 v_57), (.int .i64 0)] h8 fun rv_58 h9 =>
 rv_58 = (.tuple ⟨[]⟩) ∧
 InR .i64 (i_10 + 1) ∧
 (J_1 (i_10 + 1)).1 h9 ∧ (J_1 (i_10 + 1)).2 h9 < (J_1 i_10).2 h8)) ∧
 (¬ (i_10 < (↑nv_47 : Int)) →
 ∃ J_2 : Int → Int → Int → LI, (J_2 0 0 0).1 h8 ∧
 ∀ (k_11 : Int), ∀ (most_12 : Int), ∀ (i_13 : Int), ∀ h10 : H, (J_2 k_11 most_12 i_13).1 h10 →
 (((i_13 < (↑nline_1 : Int)) →
 0 ≤ i_13 ∧ i_13 < (↑nline_1 : Int) ∧
 (onP aline_1 fun bv_69 ov_69 =>
 ∃ (av_66 : Option Addr) (nv_66 cv_66 : Nat), cell h10 ⟨bf_2, (0 + 4), none⟩ = some (.slice av_66 nv_66 cv_66) ∧
 ∃ (v_70 : Int), cell h10 ⟨bv_69, (ov_69 + (i_13).toNat * 1), none⟩ = some (.int .i64 v_70) ∧
 0 ≤ v_70 ∧ v_70 < (↑nv_66 : Int) ∧
 (onP av_66 fun bv_71 ov_71 =>
 ∃ (av_72 : Option Addr) (nv_72 cv_72 : Nat), cell h10 ⟨bv_71, ((ov_71 + (v_70).toNat * 4) + 0), none⟩ = some (.slice av_72 nv_72 cv_72) ∧
 ∃ (v_72 : Int), cell h10 ⟨bv_71, ((ov_71 + (v_70).toNat * 4) + 1), none⟩ = some (.int .i64 v_72) ∧
 ∃ (v_72_1 : Int), cell h10 ⟨bv_71, ((ov_71 + (v_70).toNat * 4) + 2), none⟩ = some (.int .i64 v_72_1) ∧
 ∃ (av_72_1 : Option Addr) (nv_72_1 cv_72_1 : Nat), cell h10 ⟨bv_71, ((ov_71 + (v_70).toNat * 4) + 3), none⟩ = some (.slice av_72_1 nv_72_1 cv_72_1) ∧
 ∀ (bb_14 : Nat) (h11 : H), New h10 (.cells ⟨[(.slice none 0 0), (.int .i64 0), (.int .i64 0), (.slice none 0 0)]⟩ 50) bb_14 h11 →
 stQ 4 h11 bb_14 0 [(.slice av_72 nv_72 cv_72), (.int .i64 v_72), (.int .i64 v_72_1), (.slice av_72_1 nv_72_1 cv_72_1)] fun h12 =>
 0 ≤ i_13 ∧ i_13 < (↑nline_1 : Int) ∧
 (onP aline_1 fun bv_77 ov_77 =>
 0 ≤ i_13 ∧ i_13 < (↑nline_1 : Int) ∧
 (onP aline_1 fun bv_84 ov_84 =>
 ∃ (av_73 : Option Addr) (nv_73 cv_73 : Nat), cell h12 ⟨bb_14, (0 + 0), none⟩ = some (.slice av_73 nv_73 cv_73) ∧
 ∃ (v_73 : Int), cell h12 ⟨bb_14, (0 + 1), none⟩ = some (.int .i64 v_73) ∧
 ∃ (v_73_1 : Int), cell h12 ⟨bb_14, (0 + 2), none⟩ = some (.int .i64 v_73_1) ∧
 ∃ (av_73_1 : Option Addr) (nv_73_1 cv_73_1 : Nat), cell h12 ⟨bb_14, (0 + 3), none⟩ = some (.slice av_73_1 nv_73_1 cv_73_1) ∧
 ((∃ (v_78 : Int), cell h12 ⟨bv_77, (ov_77 + (i_13).toNat * 1), none⟩ = some (.int .i64 v_78) ∧
 0 ≤ v_78 ∧ v_78 < (↑nv_31 : Int) ∧
 (onP av_31 fun bv_79 ov_79 =>
 ∃ (av_80 : Option Addr) (nv_80 cv_80 : Nat), cell h12 ⟨bv_79, (ov_79 + (v_78).toNat * 1), none⟩ = some (.slice av_80 nv_80 cv_80) ∧
 ∃ (v_85 : Int), cell h12 ⟨bv_84, (ov_84 + (i_13).toNat * 1), none⟩ = some (.int .i64 v_85) ∧
 0 ≤ v_85 ∧ v_85 < (↑nv_31_1 : Int) ∧
 (onP av_31_1 fun bv_86 ov_86 =>
 ∃ (av_87 : Option Addr) (nv_87 cv_87 : Nat), cell h12 ⟨bv_86, (ov_86 + (v_85).toNat * 1), none⟩ = some (.slice av_87 nv_87 cv_87) ∧
 HC Tryd.prog 39 [(.agg ⟨[(.slice av_73 nv_73 cv_73), (.int .i64 v_73), (.int .i64 v_73_1), (.slice av_73_1 nv_73_1 cv_73_1)]⟩), (.slice av_80 nv_80 cv_80), (.slice av_87 nv_87 cv_87), (.slice al_8 nl_8 cl_8), (.int .i64 k_11)] h12 fun rv_90 h13 =>
 rv_90 = (.tuple ⟨[]⟩) ∧
 ∃ (av_93 : Option Addr) (nv_93 cv_93 : Nat), cell h13 ⟨bb_14, (0 + 0), none⟩ = some (.slice av_93 nv_93 cv_93) ∧
 InR .i64 ((↑nv_93 : Int) + 1) ∧
 InR .i64 (k_11 + ((↑nv_93 : Int) + 1)) ∧
 InR .i64 (2 * (k_11 + ((↑nv_93 : Int) + 1))) ∧
 InR .i64 ((2 * (k_11 + ((↑nv_93 : Int) + 1))) + 1) ∧
 InR .i64 (i_13 + 1) ∧
 (J_2 (k_11 + ((↑nv_93 : Int) + 1)) ((2 * (k_11 + ((↑nv_93 : Int) + 1))) + 1) (i_13 + 1)).1 h13 ∧ (J_2 (k_11 + ((↑nv_93 : Int) + 1)) ((2 * (k_11 + ((↑nv_93 : Int) + 1))) + 1) (i_13 + 1)).2 h13 < (J_2 k_11 most_12 i_13).2 h10))) ∧
 ∃ (v_85_1 : Int), cell h12 ⟨bv_84, (ov_84 + (i_13).toNat * 1), none⟩ = some (.int .i64 v_85_1) ∧
 0 ≤ v_85_1 ∧ v_85_1 < (↑nv_31_1 : Int) ∧
 (onP av_31_1 fun bv_86_1 ov_86_1 =>
 ∃ (av_87_1 : Option Addr) (nv_87_1 cv_87_1 : Nat), cell h12 ⟨bv_86_1, (ov_86_1 + (v_85_1).toNat * 1), none⟩ = some (.slice av_87_1 nv_87_1 cv_87_1) ∧
 ∃ (v_78_1 : Int), cell h12 ⟨bv_77, (ov_77 + (i_13).toNat * 1), none⟩ = some (.int .i64 v_78_1) ∧
 0 ≤ v_78_1 ∧ v_78_1 < (↑nv_31 : Int) ∧
 (onP av_31 fun bv_79_1 ov_79_1 =>
 ∃ (av_80_1 : Option Addr) (nv_80_1 cv_80_1 : Nat), cell h12 ⟨bv_79_1, (ov_79_1 + (v_78_1).toNat * 1), none⟩ = some (.slice av_80_1 nv_80_1 cv_80_1) ∧
 HC Tryd.prog 39 [(.agg ⟨[(.slice av_73 nv_73 cv_73), (.int .i64 v_73), (.int .i64 v_73_1), (.slice av_73_1 nv_73_1 cv_73_1)]⟩), (.slice av_80_1 nv_80_1 cv_80_1), (.slice av_87_1 nv_87_1 cv_87_1), (.slice al_8 nl_8 cl_8), (.int .i64 k_11)] h12 fun rv_90_1 h14 =>
 rv_90_1 = (.tuple ⟨[]⟩) ∧
 ∃ (av_93_1 : Option Addr) (nv_93_1 cv_93_1 : Nat), cell h14 ⟨bb_14, (0 + 0), none⟩ = some (.slice av_93_1 nv_93_1 cv_93_1) ∧
 InR .i64 ((↑nv_93_1 : Int) + 1) ∧
 InR .i64 (k_11 + ((↑nv_93_1 : Int) + 1)) ∧
 InR .i64 (2 * (k_11 + ((↑nv_93_1 : Int) + 1))) ∧
 InR .i64 ((2 * (k_11 + ((↑nv_93_1 : Int) + 1))) + 1) ∧
 InR .i64 (i_13 + 1) ∧
 (J_2 (k_11 + ((↑nv_93_1 : Int) + 1)) ((2 * (k_11 + ((↑nv_93_1 : Int) + 1))) + 1) (i_13 + 1)).1 h14 ∧ (J_2 (k_11 + ((↑nv_93_1 : Int) + 1)) ((2 * (k_11 + ((↑nv_93_1 : Int) + 1))) + 1) (i_13 + 1)).2 h14 < (J_2 k_11 most_12 i_13).2 h10)))))))) ∧
 (¬ (i_13 < (↑nline_1 : Int)) →
 InR .i64 (most_12 + 1) ∧
 0 ≤ (most_12 + 1) ∧ (most_12 + 1) ≤ (most_12 + 1) ∧ (most_12 + 1) * 24 ≤ 140737488355328 ∧
 ∀ (bv_102 : Nat) (h15 : H), New h10 (.cells ⟨repV [.slice none 0 0] ((most_12 + 1)).toNat⟩ 22) bv_102 h15 →
 ∃ J_3 : Int → LI, (J_3 0).1 h15 ∧
 ∀ (r_16 : Int), ∀ h16 : H, (J_3 r_16).1 h16 →
 ∃ (v_105 : Int), cell h16 ⟨bf_2, (0 + 2), none⟩ = some (.int .i64 v_105) ∧
 (((r_16 < v_105) →
 0 ≤ r_16 ∧ r_16 < (↑nl_8 : Int) ∧
 (onP al_8 fun bv_111 ov_111 =>
 ∃ (v_113 : Int), cell h16 ⟨bv_111, ((ov_111 + (r_16).toNat * 3) + 1), none⟩ = some (.int .i64 v_113) ∧
 (((0 ≤ v_113) →
 ∃ S_2 : H → Prop, S_2 h16 ∧
 0 ≤ r_16 ∧ r_16 < (↑nl_8 : Int) ∧
 (onP al_8 fun bv_118 ov_118 =>
 0 ≤ r_16 ∧ r_16 < (↑nl_8 : Int) ∧
 (onP al_8 fun bv_124 ov_124 =>
 ∃ (v_120 : Int), cell h16 ⟨bv_118, ((ov_118 + (r_16).toNat * 3) + 1), none⟩ = some (.int .i64 v_120) ∧
 (∀ h17, S_2 h17 →
 ∃ (v_120_1 : Int), cell h17 ⟨bv_118, ((ov_118 + (r_16).toNat * 3) + 1), none⟩ = some (.int .i64 v_120_1) ∧
 Slot.v (.int .i64 v_120_1) = Slot.v (.int .i64 v_120) ∧ (Slot.v (.int .i64 v_120)).val ≠ none) ∧
 ∃ (v_126 : Int), cell h16 ⟨bv_124, ((ov_124 + (r_16).toNat * 3) + 1), none⟩ = some (.int .i64 v_126) ∧
 (∀ h18, S_2 h18 →
 ∃ (v_126_1 : Int), cell h18 ⟨bv_124, ((ov_124 + (r_16).toNat * 3) + 1), none⟩ = some (.int .i64 v_126_1) ∧
 Slot.v (.int .i64 v_126_1) = Slot.v (.int .i64 v_126) ∧ (Slot.v (.int .i64 v_126)).val ≠ none) ∧
 0 ≤ v_126 ∧ v_126 < (↑(((most_12 + 1)).toNat) : Int) ∧
 ∃ (av_128 : Option Addr) (nv_128 cv_128 : Nat), cell h16 ⟨bv_102, (0 + (v_126).toNat * 1), none⟩ = some (.slice av_128 nv_128 cv_128) ∧
 (∀ h19, S_2 h19 →
 ∃ (av_128_1 : Option Addr) (nv_128_1 cv_128_1 : Nat), cell h19 ⟨bv_102, (0 + (v_126).toNat * 1), none⟩ = some (.slice av_128_1 nv_128_1 cv_128_1) ∧
 Slot.v (.slice av_128_1 nv_128_1 cv_128_1) = Slot.v (.slice av_128 nv_128 cv_128) ∧ (Slot.v (.slice av_128 nv_128 cv_128)).val ≠ none) ∧
 1 = 1 ∧ 0 + 1 ≤ 1 ∧
 ∀ (bv_130 : Nat) (h20 : H), New h16 (.cells ⟨[(.int .i64 r_16)]⟩ 3) bv_130 h20 →
 S_2 h20 ∧
 apQ 3 1 8 [.int .i64 0] h20 av_128 nv_128 cv_128 (some ⟨bv_130, 0, none⟩) 1 fun av_131 nv_131 cv_131 h21 =>
 S_2 h21 ∧
 0 ≤ v_120 ∧ v_120 < (↑(((most_12 + 1)).toNat) : Int) ∧
 stQ 1 h21 bv_102 (0 + (v_120).toNat * 1) [(.slice av_131 nv_131 cv_131)] fun h22 =>
 InR .i64 (r_16 + 1) ∧
 (J_3 (r_16 + 1)).1 h22 ∧ (J_3 (r_16 + 1)).2 h22 < (J_3 r_16).2 h16))) ∧
 (¬ (0 ≤ v_113) →
 InR .i64 (r_16 + 1) ∧
 (J_3 (r_16 + 1)).1 h16 ∧ (J_3 (r_16 + 1)).2 h16 < (J_3 r_16).2 h16)))) ∧
 (¬ (r_16 < v_105) →
 ∃ J_4 : Option Addr → Nat → Nat → Int → LI, (J_4 none 0 0 0).1 h16 ∧
 ∀ (aout_17 : Option Addr) (nout_17 cout_17 : Nat), ∀ (p_18 : Int), ∀ h23 : H, (J_4 aout_17 nout_17 cout_17 p_18).1 h23 →
 (((p_18 ≤ most_12) →
 ∃ J_5 : Option Addr → Nat → Nat → Int → LI, (J_5 aout_17 nout_17 cout_17 0).1 h23 ∧
 ∀ (aout_17_1 : Option Addr) (nout_17_1 cout_17_1 : Nat), ∀ (i_19 : Int), ∀ h24 : H, (J_5 aout_17_1 nout_17_1 cout_17_1 i_19).1 h24 →
 0 ≤ p_18 ∧ p_18 < (↑(((most_12 + 1)).toNat) : Int) ∧
 ∃ (av_142 : Option Addr) (nv_142 cv_142 : Nat), cell h24 ⟨bv_102, (0 + (p_18).toNat * 1), none⟩ = some (.slice av_142 nv_142 cv_142) ∧
 (((i_19 < (↑nv_142 : Int)) →
 0 ≤ p_18 ∧ p_18 < (↑(((most_12 + 1)).toNat) : Int) ∧
 ∃ (av_152 : Option Addr) (nv_152 cv_152 : Nat), cell h24 ⟨bv_102, (0 + (p_18).toNat * 1), none⟩ = some (.slice av_152 nv_152 cv_152) ∧
 0 ≤ i_19 ∧ i_19 < (↑nv_152 : Int) ∧
 (onP av_152 fun bv_154 ov_154 =>
 ∃ (v_155 : Int), cell h24 ⟨bv_154, (ov_154 + (i_19).toNat * 1), none⟩ = some (.int .i64 v_155) ∧
 0 ≤ v_155 ∧ v_155 < (↑nl_8 : Int) ∧
 (onP al_8 fun bv_156 ov_156 =>
 ∃ (v_157 : Int), cell h24 ⟨bv_156, ((ov_156 + (v_155).toNat * 3) + 0), none⟩ = some (.int .i64 v_157) ∧
 ∃ (v_157_1 : Int), cell h24 ⟨bv_156, ((ov_156 + (v_155).toNat * 3) + 1), none⟩ = some (.int .i64 v_157_1) ∧
 ∃ (v_157_2 : Int), cell h24 ⟨bv_156, ((ov_156 + (v_155).toNat * 3) + 2), none⟩ = some (.int .i64 v_157_2) ∧
 3 = 3 ∧ 0 + 3 ≤ 3 ∧
 ∀ (bv_158 : Nat) (h25 : H), New h24 (.cells ⟨[(.int .i64 v_157), (.int .i64 v_157_1), (.int .i64 v_157_2)]⟩ 52) bv_158 h25 →
 apQ 52 3 24 [.int .i64 0, .int .i64 0, .int .i64 0] h25 aout_17_1 nout_17_1 cout_17_1 (some ⟨bv_158, 0, none⟩) 1 fun av_159 nv_159 cv_159 h26 =>
 InR .i64 (i_19 + 1) ∧
 (J_5 av_159 nv_159 cv_159 (i_19 + 1)).1 h26 ∧ (J_5 av_159 nv_159 cv_159 (i_19 + 1)).2 h26 < (J_5 aout_17_1 nout_17_1 cout_17_1 i_19).2 h24))) ∧
 (¬ (i_19 < (↑nv_142 : Int)) →
 InR .i64 (p_18 + 1) ∧
 (J_4 aout_17_1 nout_17_1 cout_17_1 (p_18 + 1)).1 h24 ∧ (J_4 aout_17_1 nout_17_1 cout_17_1 (p_18 + 1)).2 h24 < (J_4 aout_17 nout_17 cout_17 p_18).2 h23))) ∧
 (¬ (p_18 ≤ most_12) →
 R (.tuple ⟨[(.slice aout_17 nout_17 cout_17), (.int .i64 0)]⟩) h23))))))))))))))
theorem hc11 {f_0 : ByteArray} {af_0 : Option Addr} {nf_0 cf_0 : Nat} {f_0_1 : Int} {f_0_2 : Int} {af_0_1 : Option Addr} {nf_0_1 cf_0_1 : Nat} {aline_1 : Option Addr} {nline_1 cline_1 : Nat} {h : H} {R : Value → H → Prop} (x : sh11 f_0 af_0 nf_0 cf_0 f_0_1 f_0_2 af_0_1 nf_0_1 cf_0_1 aline_1 nline_1 cline_1 h R) : HC Tryd.prog 11 [(.agg ⟨[(.string f_0), (.slice af_0 nf_0 cf_0), (.int .i64 f_0_1), (.int .i64 f_0_2), (.slice af_0_1 nf_0_1 cf_0_1)]⟩), (.slice aline_1 nline_1 cline_1)] h R :=
  FL.sound mixed ck11 ⟨rfl, Eq.mp (by unfold sh11; kernel_rfl) x⟩
end Go.Proofs.Try

/- The document's sets of a block: back, start, told. -/
set_option maxRecDepth 100000
set_option linter.unusedVariables false
set_option linter.unusedSimpArgs false
open Go Go.Fw Go.Proofs
namespace Go.Proofs.Try

def onL (s : List Bool) (r : Int) : List Bool := s.set r.toNat true
def backL (s : List Bool) (x : Ins) : List Bool := x.args.foldl onL (if 0 ≤ x.dst then s.set x.dst.toNat false else s)
def endL (s : List Bool) (v : Int) : List Bool := if 0 ≤ v then s.set v.toNat true else s
def startL (s : List Bool) (b : Blk) : List Bool := b.body.foldr (fun x s => backL s x) (endL s b.term.value)
theorem onL_len (s : List Bool) (r : Int) : (onL s r).length = s.length := by simp [onL]
theorem foldl_onL_len : ∀ (l : List Int) (s : List Bool), (l.foldl onL s).length = s.length
  | [], s => rfl
  | r :: l, s => (foldl_onL_len l _).trans (onL_len s r)
theorem backL_len (s : List Bool) (x : Ins) : (backL s x).length = s.length := by
  unfold backL; rw [foldl_onL_len]; split <;> simp
theorem endL_len (s : List Bool) (v : Int) : (endL s v).length = s.length := by unfold endL; split <;> simp
theorem foldr_backL_len : ∀ (l : List Ins) (s : List Bool), (l.foldr (fun x s => backL s x) s).length = s.length
  | [], s => rfl
  | x :: l, s => (backL_len _ x).trans (foldr_backL_len l s)
theorem startL_len (s : List Bool) (b : Blk) : (startL s b).length = s.length := (foldr_backL_len _ _).trans (endL_len _ _)

/-- The block of a row that is one's own, if there is something in it. -/
def SB {α : Type} (b : Nat) (l : List α) : Nat → Prop := fun c => c = b ∧ l ≠ []
theorem SB_len {α β : Type} {b : Nat} {l : List α} {l' : List β} (h : l'.length = l.length) {c : Nat} : SB b l' c ↔ SB b l c := by
  unfold SB; rw [← List.length_pos_iff, ← List.length_pos_iff, h]

theorem insP_dst {f : Fnc} {x : Ins} (h : InsP f x) : x.dst = -1 ∨ RegP f x.dst := by
  rcases h.2 with h | ⟨s, _, h1, h2, _⟩
  · exact h.2.2.2
  · cases s
    · exact .inl (h2 rfl)
    · exact .inr (h1 rfl)

theorem take_fold {α β : Type} {l : List α} {i : Nat} {x : α} {g : β → α → β} {s : β} (hx : l[i]? = some x) : (l.take (i + 1)).foldl g s = g ((l.take i).foldl g s) x := by
  rw [List.take_add_one, hx, Option.toList_some, List.foldl_append]; rfl

theorem c85 {h0 h : H} {f : Fnc} {x : Ins} (hx : InsP f x) {s : List Bool} {n c b : Nat} {p : Option Addr} (hs : (s.length : Int) = f.regs) (hn : s.length = n) (hz : SzI x.args.length) (e0 : Ext h0 h) (hb : s ≠ [] → h0.size ≤ b) (w : OwnB h p b s)
    {ap : Option Addr} {an ac : Nat} (ha : IntsAt h0 ap an x.args) {R : Value → H → Prop} (k : ∀ h', Ext h0 h' → OwnB h' p b (backL s x) → Mod (SB b s) h h' → R (.tuple ⟨[]⟩) h') :
    HC Tryd.prog 85 [.slice p n c, .agg ⟨xv x ap an ac⟩] h R := by
  apply hc85; unfold sh85; intro bx h1 hN
  have hal := ha.len
  unfold SzI at hz
  have hbx : ¬ SB b s bx := fun ⟨h1, h2⟩ => by have := w.lt h2; have := hN.blk; omega
  have hS0 : ∀ c, c < h0.size → ¬ SB b s c := fun c hc ⟨h1, h2⟩ => by have := hb h2; omega
  have g : ∀ h', Mod (SB b s) h1 h' → ∀ j y, (xv x ap an ac)[j]? = some y → cell h' ⟨bx, j, none⟩ = some y := fun h' m j y hj => m.cell (hN.cell hj) hbx
  have e1 := e0.trans hN.ext
  have hd : ∀ i : Nat, (i : Int) < f.regs → i < s.length := fun i hi => by omega
  refine ⟨fun h' => OwnB h' p b (if 0 ≤ x.dst then s.set x.dst.toNat false else s) ∧ Mod (SB b s) h1 h', ?_, fun h2 ⟨w2, m2⟩ => ?_⟩
  · simp only [Nat.zero_add, g _ (Mod.refl _ _) 1 _ rfl, exI]
    refine ⟨fun d0 => ?_, fun d0 => ?_⟩
    · have hR : RegP f x.dst := by rcases insP_dst hx with h | h; omega; exact h
      unfold RegP at hR
      refine ⟨d0, by omega, OwnB.put (w.ext hN.ext) (by omega) fun h' w' m' => ⟨by rw [if_pos d0]; exact w', m'.wid fun c _ hc => ⟨hc, ?_⟩⟩⟩
      rintro rfl; simp at hs; omega
    · rw [if_neg d0]; exact ⟨w.ext hN.ext, Mod.refl _ _⟩
  · generalize hs1 : (if 0 ≤ x.dst then s.set x.dst.toNat false else s) = s1 at w2
    have hl1 : s1.length = s.length := by subst hs1; split <;> simp
    refine fwd an (fun v h' => OwnB h' p b ((x.args.take v.toNat).foldl onL s1) ∧ Mod (SB b s) h1 h') (by omega) ⟨w2, m2⟩ fun v h3 v0 v1 ⟨w3, m3⟩ => ?_
    have e3 : Ext h0 h3 := m3.ext e1 hS0
    simp only [Nat.zero_add, g _ m3 3 _ rfl, exSl]
    refine ⟨fun hlt => ⟨v0, hlt, ?_⟩, fun hge => ?_⟩
    · obtain ⟨r, b', o', hr, hp, hcell⟩ := (ha.ext e3).get v0 hlt
      have hR : RegP f r := hx.1 r (List.mem_of_getElem? hr)
      unfold RegP at hR
      have hl3 : ((x.args.take v.toNat).foldl onL s1).length = s.length := by rw [foldl_onL_len, hl1]
      refine onP_at hp ⟨r, hcell, hR.1, by omega, OwnB.put w3 (by omega) fun h' w' m' => ⟨i64ok (by omega) (by omega), fwd_next v0 hlt ⟨?_, m3.trans m' fun c _ hc => ⟨hc, ?_⟩⟩⟩⟩
      · rw [show (v + 1).toNat = v.toNat + 1 by omega, take_fold hr]; exact w'
      · rintro rfl; simp at hs; omega
    · rw [show v.toNat = x.args.length by omega, List.take_length] at w3
      refine k h3 e3 (by unfold backL; rw [hs1]; exact w3) ((hN.mod _).trans m3 fun c _ hc => hc)

theorem drop_get {α : Type} {l : List α} {i : Nat} {x : α} (h : l[i]? = some x) : l.drop i = x :: l.drop (i + 1) := by
  obtain ⟨h1, h2⟩ := List.getElem?_eq_some_iff.1 h
  rw [List.drop_eq_getElem_cons h1, h2]
theorem oneB (l : List Bool) : oneA (flat (fun x : Bool => [Value.bool x]) l) = true := by
  rw [flat1]; exact oneA_map (fun _ => rfl) l
theorem oneI (l : List Int) : oneA (flat (fun x : Int => [Value.int .i64 x]) l) = true := by
  rw [flat1]; exact oneA_map (fun _ => rfl) l

/-- A block's parts are of a function that is formed and small. -/
structure BlkOk (f : Fnc) (x : Blk) : Prop where
  ins : ∀ y ∈ x.body, InsP f y ∧ SzI y.args.length
  val : x.term.value = -1 ∨ RegP f x.term.value
  len : SzI x.body.length
theorem trmP_val {f : Fnc} {t : Trm} (h : TrmP f t) : t.value = -1 ∨ RegP f t.value := by
  rcases h.2 with h | h | h | h
  · exact .inl h.2.1
  · exact .inr h.2.1
  · by_cases hr : f.result = 0
    · exact .inl (h.2.2.1 hr)
    · exact .inr (h.2.2.2 hr)
  · exact .inr h.2.1
theorem blkOk {f : Fnc} {x : Blk} (h : BlkP f x) (hz : SzI x.body.length ∧ SzI x.term.to.length ∧ ∀ y ∈ x.body, SzI y.args.length) : BlkOk f x :=
  ⟨fun y hy => ⟨h.1 y hy, hz.2.2 y hy⟩, trmP_val h.2, hz.1⟩

theorem c66 {h : H} {f : Fnc} {x : Blk} (hx : BlkOk f x) {s : List Bool} {n c b : Nat} {p : Option Addr} (hs : (s.length : Int) = f.regs) (hr : f.regs ≤ 262144) (hn : s.length = n) (w : OwnB h p b s)
    {bp : Option Addr} {bn bc : Nat} {tp : Option Addr} {tn tc : Nat} (hd : BlkD h [.slice bp bn bc, .int .i64 x.term.kind, .int .i64 x.term.value, .slice tp tn tc] x) {R : Value → H → Prop}
    (k : ∀ p' n' c' b' h', OwnB h' p' b' (startL s x) → s.length = n' → (s ≠ [] → h.size ≤ b') → Ext h h' → R (.slice p' n' c') h') :
    HC Tryd.prog 66 [.agg ⟨[.slice bp bn bc, .int .i64 x.term.kind, .int .i64 x.term.value, .slice tp tn tc]⟩, .slice p n c] h R := by
  apply hc66; unfold sh66; intro bb h1 hN
  obtain ⟨_, _, _, _, _, _, he, hbody, hbc, hto, htc⟩ := hd
  cases he
  have hbl := hbody.len
  have hzl := hx.len
  unfold SzI at hzl
  refine app_copy (enc := fun x : Bool => [Value.bool x]) (fun _ => rfl) rfl hn (Own.rdc (enc := fun x : Bool => [Value.bool x]) (k := 1) (fun _ => rfl) (w.ext hN.ext) hn) (oneB s) (by omega) fun p' c' b' h2 w' hb' e2 hc' => ?_
  have hbb : ∀ {h'}, Mod (SB b' s) h2 h' → ∀ j y, [Value.slice bp bn bc, .int .i64 x.term.kind, .int .i64 x.term.value, .slice tp tn tc][j]? = some y → cell h' ⟨bb, j, none⟩ = some y := by
    intro h' m j y hj
    refine m.cell (hN.keep _ e2 j y hj) ?_
    rintro ⟨q1, q2⟩
    have := hb' q2; have := hN.blk; have := hN.size; simp only at q1; omega
  have hS0 : ∀ c, c < h1.size → ¬ SB b' s c := fun c hc ⟨q1, q2⟩ => by have := hb' q2; omega
  have e1 := hN.ext
  refine ⟨fun h' => OwnB h' p' b' (endL s x.term.value) ∧ Mod (SB b' s) h2 h', ?_, fun h3 ⟨w3, m3⟩ => ?_⟩
  · simp only [Nat.zero_add, Nat.reduceAdd, hbb (Mod.refl _ _) 2 _ rfl, exI]
    refine ⟨fun d0 => ?_, fun d0 => ?_⟩
    · have hR : RegP f x.term.value := by rcases hx.val with h | h; omega; exact h
      unfold RegP at hR
      refine ⟨d0, by omega, OwnB.put w' (by omega) fun h' w'' m' => ⟨by unfold endL; rw [if_pos d0]; exact w'', m'.wid fun c _ hc => ⟨hc, ?_⟩⟩⟩
      rintro rfl; simp at hs; omega
    · unfold endL; rw [if_neg d0]; exact ⟨w', Mod.refl _ _⟩
  · simp only [Nat.zero_add, hbb m3 0 _ rfl, exSl]
    refine ⟨i64ok (by omega) (by omega), ?_⟩
    refine bwd bn (fun v h' => OwnB h' p' b' ((x.body.drop (v + 1).toNat).foldr (fun x s => backL s x) (endL s x.term.value)) ∧ Mod (SB b' s) h2 h') (by omega) ⟨?_, m3⟩ fun v h4 v0 v1 ⟨w4, m4⟩ => ?_
    · rw [show (↑bn - 1 + 1 : Int).toNat = x.body.length by omega, List.drop_length]; exact w3
    have e4 : Ext h1 h4 := m4.ext e2 hS0
    simp only [hbb m4 0 _ rfl, exSl]
    refine ⟨fun hge => ⟨hge, v1, ?_⟩, fun hlt => ?_⟩
    · obtain ⟨y, b2, o2, hy, hp2, vs, ⟨ap, an, ac, rfl, hargs, hac⟩, hc2⟩ := (hbody.mono (e1.trans e4) fun _ _ _ => InsD.ext (e1.trans e4)).get hge v1
      obtain ⟨y', b3, o3, hy', hp3, vs3, ⟨ap', an', ac', rfl, hargs', hac'⟩, hc3⟩ := (hbody.mono e1 fun _ _ _ => InsD.ext e1).get hge v1
      cases hy.symm.trans hy'
      cases hp2.symm.trans hp3
      have hE := (e4.cell (hc3 3 _ rfl)).symm.trans (hc2 3 _ rfl)
      cases hE
      have hoy := hx.ins y (List.mem_of_getElem? hy)
      have hlen : ((x.body.drop (v + 1).toNat).foldr (fun x s => backL s x) (endL s x.term.value)).length = s.length := by rw [foldr_backL_len, endL_len]
      refine onP_at hp2 ⟨_, hc2 0 _ rfl, _, hc2 1 _ rfl, _, hc2 2 _ rfl, _, _, _, hc2 3 _ rfl, c85 (h0 := h1) hoy.1 (by rw [hlen]; exact hs) (by rw [hlen]; exact hn) hoy.2 e4 (fun hne => hb' ?_) w4 hargs' fun h5 e5 w5 m5 => ⟨rfl, i64ok (by omega) (by omega), bwd_next hge v1 ⟨?_, m4.trans m5 fun c _ hc => (SB_len hlen).1 hc⟩⟩⟩
      · rintro rfl; simp at hlen; exact hne hlen
      · rw [show (v - 1 + 1).toNat = v.toNat by omega, drop_get hy, show v.toNat + 1 = (v + 1).toNat by omega]; exact w5
    · have hv : v = -1 := by omega
      subst hv
      refine k _ _ _ b' _ w4 hn (fun hne => ?_) (e1.trans e4)
      have := hb' hne; have := hN.size; omega
end Go.Proofs.Try

/- Sets of registers: the least ones that are live, in plain words. -/
set_option maxRecDepth 100000
set_option linter.unusedVariables false
set_option linter.unusedSimpArgs false
open Go Go.Fw Go.Proofs
namespace Go.Proofs.Try

def bit (s : List Bool) (r : Nat) : Prop := s[r]? = some true
def leL (s t : List Bool) : Prop := s.length = t.length ∧ ∀ r, bit s r → bit t r
theorem leL.rfl' {s : List Bool} : leL s s := ⟨rfl, fun _ h => h⟩
theorem leL.trans {s t u : List Bool} (a : leL s t) (b : leL t u) : leL s u := ⟨a.1.trans b.1, fun r h => b.2 r (a.2 r h)⟩
theorem bit_set {s : List Bool} {i r : Nat} {v : Bool} : bit (s.set i v) r ↔ (r = i ∧ i < s.length ∧ v = true) ∨ (r ≠ i ∧ bit s r) := by
  unfold bit
  rw [List.getElem?_set]
  by_cases h : i = r
  · subst h
    by_cases hl : i < s.length
    · simp [hl]
    · simp [hl]
  · rw [if_neg h]
    constructor
    · exact fun x => .inr ⟨fun e => h e.symm, x⟩
    · rintro (⟨e, _⟩ | ⟨_, x⟩)
      · exact absurd e.symm h
      · exact x
theorem leL.set {s t : List Bool} (a : leL s t) (i : Nat) (v : Bool) : leL (s.set i v) (t.set i v) := by
  refine ⟨by simp [a.1], fun r h => ?_⟩
  rw [bit_set] at h ⊢
  rw [← a.1]
  exact h.imp (fun h => h) fun h => ⟨h.1, a.2 r h.2⟩
theorem leL.fold {s t : List Bool} : ∀ (l : List Int) {s t : List Bool}, leL s t → leL (l.foldl onL s) (l.foldl onL t)
  | [], _, _, a => a
  | r :: l, _, _, a => leL.fold (s := s) (t := t) l (a.set _ _)
theorem leL.back {s t : List Bool} (a : leL s t) (x : Ins) : leL (backL s x) (backL t x) := by
  unfold backL
  refine leL.fold (s := s) (t := t) _ ?_
  split
  · exact a.set _ _
  · exact a
theorem leL.end_ {s t : List Bool} (a : leL s t) (v : Int) : leL (endL s v) (endL t v) := by
  unfold endL
  split
  · exact a.set _ _
  · exact a
theorem leL.start {s t : List Bool} (a : leL s t) (x : Blk) : leL (startL s x) (startL t x) := by
  unfold startL
  have : ∀ (l : List Ins) {s t : List Bool}, leL s t → leL (l.foldr (fun x s => backL s x) s) (l.foldr (fun x s => backL s x) t) := by
    intro l
    induction l with
    | nil => exact fun a => a
    | cons y l ih => exact fun a => (ih a).back y
  exact this _ (a.end_ _)

def Pre (f : Fnc) (A B : Nat → List Bool) : Prop := ∀ i x, f.blocks[i]? = some x → (∀ t ∈ x.term.to, leL (A t.toNat) (B i)) ∧ leL (startL (B i) x) (A i)
def SzA (R n : Nat) (A : Nat → List Bool) : Prop := ∀ i < n, (A i).length = R
/-- r is live ahead of (behind) block i: it is so in each pair of sets that is closed. -/
def LA (f : Fnc) (i r : Nat) : Prop := ∀ A B, SzA f.regs.toNat f.blocks.length A → SzA f.regs.toNat f.blocks.length B → Pre f A B → bit (A i) r
def LB (f : Fnc) (i r : Nat) : Prop := ∀ A B, SzA f.regs.toNat f.blocks.length A → SzA f.regs.toNat f.blocks.length B → Pre f A B → bit (B i) r
theorem LB_of {f : Fnc} {i r : Nat} {x : Blk} {t : Int} (hx : f.blocks[i]? = some x) (ht : t ∈ x.term.to) (h : LA f t.toNat r) : LB f i r := fun A B a b p => ((p i x hx).1 t ht).2 r (h A B a b p)
theorem LA_of {f : Fnc} {i r : Nat} {x : Blk} {s : List Bool} (hx : f.blocks[i]? = some x) (hl : s.length = f.regs.toNat) (hs : ∀ r, bit s r → LB f i r) (h : bit (startL s x) r) : LA f i r := by
  intro A B a b p
  have hi : i < f.blocks.length := (List.getElem?_eq_some_iff.1 hx).1
  have : leL s (B i) := ⟨hl.trans (b i hi).symm, fun r hr => hs r hr A B a b p⟩
  exact (p i x hx).2.2 r ((this.start x).2 r h)

/-- How much is not in the sets. -/
def zer (A : Nat → List Bool) : Nat → Nat
  | 0 => 0
  | n + 1 => zer A n + (A n).count false
theorem count_le : ∀ {s t : List Bool}, leL s t → t.count false ≤ s.count false ∧ (s ≠ t → t.count false < s.count false)
  | [], [], _ => ⟨Nat.le_refl _, fun h => absurd rfl h⟩
  | a :: s, [], h => by have := h.1; simp at this
  | [], b :: t, h => by have := h.1; simp at this
  | a :: s, b :: t, h => by
    have h1 : leL s t := ⟨by have := h.1; simpa using this, fun r hr => by have := h.2 (r + 1); simpa [bit] using this (by simpa [bit] using hr)⟩
    have ih := count_le h1
    have h2 : a = true → b = true := fun e => by have := h.2 0; simpa [bit] using this (by simp [bit, e])
    have e1 : (true == false) = false := rfl
    have e2 : (false == false) = true := rfl
    cases a <;> cases b <;> simp only [List.count_cons, e1, e2, ne_eq, List.cons.injEq, if_true, Bool.false_eq_true, if_false, Nat.add_zero, true_and, false_and, reduceCtorEq, not_false_eq_true, forall_const]
    · exact ⟨by omega, fun h => by have := ih.2 h; omega⟩
    · have := ih.1; omega
    · exact absurd (h2 rfl) (by simp)
    · exact ih
def upd1 {α : Type} (A : Nat → α) (i : Nat) (s : α) : Nat → α := fun j => if j = i then s else A j
theorem upd1_same {α : Type} (A : Nat → α) (i : Nat) (s : α) : upd1 A i s i = s := by simp [upd1]
theorem upd1_ne {α : Type} (A : Nat → α) {i j : Nat} (s : α) (h : j ≠ i) : upd1 A i s j = A j := by simp [upd1, h]
theorem zer_upd {A : Nat → List Bool} {i : Nat} {s : List Bool} (h : leL (A i) s) : ∀ n, zer (upd1 A i s) n ≤ zer A n ∧ (i < n → A i ≠ s → zer (upd1 A i s) n < zer A n)
  | 0 => ⟨Nat.le_refl _, fun h => absurd h (Nat.not_lt_zero _)⟩
  | n + 1 => by
    have ih := zer_upd h n
    have hc := count_le h
    simp only [zer]
    by_cases hn : n = i
    · subst hn
      rw [upd1_same]
      exact ⟨by omega, fun _ hne => by have := hc.2 hne; omega⟩
    · rw [upd1_ne A s hn]
      exact ⟨by omega, fun hi hne => by have := ih.2 (by omega) hne; omega⟩
end Go.Proofs.Try

/- The document's sets of all blocks: what lies where. -/
set_option maxRecDepth 100000
set_option linter.unusedVariables false
set_option linter.unusedSimpArgs false
open Go Go.Fw Go.Proofs
namespace Go.Proofs.Try

theorem Own.get1 {α : Type} {g : α → Value} {h : H} {p : Option Addr} {b : Nat} {l : List α} (w : Own (fun x => [g x]) 1 h p b l) {i : Nat} {x : α} (hx : l[i]? = some x) : p = some ⟨b, 0, none⟩ ∧ cell h ⟨b, 0 + i * 1, none⟩ = some (g x) :=
  Own.cell (enc := fun x : α => [g x]) (k := 1) (fun _ => rfl) w hx (j := 0) (v := g x) rfl
theorem Own.put1 {α : Type} {g : α → Value} {h : H} {p : Option Addr} {b : Nat} {l : List α} (w : Own (fun x => [g x]) 1 h p b l) {i : Nat} (h1 : i < l.length) {x' : α} (ho : oneA [g x'] = true) {K : H → Prop} (hk : ∀ h', Own (fun x => [g x]) 1 h' p b (l.set i x') → Mod (fun c => c = b) h h' → K h') :
    stQ 1 h b (0 + i * 1) [g x'] K := by
  have hx : l[i]? = some l[i] := by simp [h1]
  obtain ⟨cs, e, h1, h2, h3⟩ := Own.store (enc := fun x : α => [g x]) (k := 1) (fun _ => rfl) Nat.one_pos w hx (j := 0) (vs := [g x']) (x' := x') (Nat.le_refl 1) rfl
  exact ⟨cs, e, h1, h2, ho, rfl, fun h' hu => hk h' (h3 h' hu).1 (h3 h' hu).2⟩
abbrev sl3 : Option Addr × Nat × Nat → Value := fun x => .slice x.1 x.2.1 x.2.2
abbrev OwnS := Own (fun x : Option Addr × Nat × Nat => [sl3 x]) 1

/-- A table of rows: the rows' own slices, each row in a block of its own. -/
structure Mx (R n m base : Nat) (h : H) (bm : Nat) (L : List (Option Addr × Nat × Nat)) (a : Nat → Nat) (A : Nat → List Bool) : Prop where
  own : OwnS h (some ⟨bm, 0, none⟩) bm L
  len : L.length = n
  row : ∀ i < m, ∃ p c, L[i]? = some (p, R, c) ∧ OwnB h p (a i) (A i) ∧ (A i).length = R ∧ (0 < R → base ≤ a i)
theorem Mx.mod {R n m base : Nat} {h h' : H} {bm : Nat} {L : List (Option Addr × Nat × Nat)} {a : Nat → Nat} {A : Nat → List Bool} (x : Mx R n m base h bm L a A) {S : Nat → Prop} (md : Mod S h h') (h1 : ¬ S bm) (h2 : ∀ i < m, 0 < R → ¬ S (a i)) : Mx R n m base h' bm L a A := by
  refine ⟨x.own.mod md h1, x.len, fun i hi => ?_⟩
  obtain ⟨p, c, q1, q2, q3, q4⟩ := x.row i hi
  refine ⟨p, c, q1, ?_, q3, q4⟩
  by_cases hR : 0 < R
  · exact q2.mod md (h2 i hi hR)
  · have : A i = [] := List.length_eq_zero_iff.1 (by omega)
    rw [this]; exact ⟨fun h => absurd rfl h, fun h => absurd rfl h⟩
theorem Mx.ext {R n m base : Nat} {h h' : H} {bm : Nat} {L : List (Option Addr × Nat × Nat)} {a : Nat → Nat} {A : Nat → List Bool} (x : Mx R n m base h bm L a A) (e : Ext h h') : Mx R n m base h' bm L a A := x.mod e.mod (fun x => x) fun _ _ _ x => x
/-- A row is put into the table. -/
theorem Mx.put {R n m base : Nat} {h : H} {bm : Nat} {L : List (Option Addr × Nat × Nat)} {a : Nat → Nat} {A : Nat → List Bool} (x : Mx R n m base h bm L a A) (hbm : bm < base) {i m' : Nat} (hi : i < n) (hm : ∀ j < m', j ≠ i → j < m) {p' : Option Addr} {c' b' : Nat} {s : List Bool} (w : OwnB h p' b' s) (hl : s.length = R) (hb : 0 < R → base ≤ b')
    {K : H → Prop} (hk : ∀ h', Mx R n m' base h' bm (L.set i (p', R, c')) (upd1 a i b') (upd1 A i s) → Mod (fun c => c = bm) h h' → K h') : stQ 1 h bm (0 + i * 1) [.slice p' R c'] K := by
  refine Own.put1 (g := sl3) (x' := (p', R, c')) x.own (by rw [x.len]; exact hi) rfl fun h' w' md => hk h' ⟨w', by rw [List.length_set]; exact x.len, fun j hj => ?_⟩ md
  by_cases hji : j = i
  · subst hji
    rw [upd1_same, upd1_same]
    refine ⟨p', c', by rw [List.getElem?_set_self (by rw [x.len]; exact hi)], ?_, hl, hb⟩
    by_cases hR : 0 < R
    · exact w.mod md (by have := hb hR; omega)
    · have : s = [] := List.length_eq_zero_iff.1 (by omega)
      rw [this]; exact ⟨fun h => absurd rfl h, fun h => absurd rfl h⟩
  · rw [upd1_ne _ _ hji, upd1_ne _ _ hji]
    obtain ⟨p, c, q1, q2, q3, q4⟩ := x.row j (hm j hj hji)
    refine ⟨p, c, by rw [List.getElem?_set_ne (fun e => hji e.symm)]; exact q1, ?_, q3, q4⟩
    by_cases hR : 0 < R
    · exact q2.mod md (by have := q4 hR; omega)
    · have : A j = [] := List.length_eq_zero_iff.1 (by omega)
      rw [this]; exact ⟨fun h => absurd rfl h, fun h => absurd rfl h⟩

/-- Both tables. -/
structure St (R n m base bA bB : Nat) (h : H) (L M : List (Option Addr × Nat × Nat)) (a b : Nat → Nat) (A B : Nat → List Bool) : Prop where
  mA : Mx R n m base h bA L a A
  mB : Mx R n m base h bB M b B
  ha : bA < base
  hb : bB < base
  ne : bA ≠ bB
  inj : 0 < R → ∀ i j, i < m → j < m → b i = b j → i = j
  dis : 0 < R → ∀ i j, i < m → j < m → a i ≠ b j
theorem St.ext {R n m base bA bB : Nat} {h h' : H} {L M : List (Option Addr × Nat × Nat)} {a b : Nat → Nat} {A B : Nat → List Bool} (x : St R n m base bA bB h L M a b A B) (e : Ext h h') : St R n m base bA bB h' L M a b A B :=
  ⟨x.mA.ext e, x.mB.ext e, x.ha, x.hb, x.ne, x.inj, x.dis⟩
theorem St.lenA {R n m base bA bB : Nat} {h : H} {L M : List (Option Addr × Nat × Nat)} {a b : Nat → Nat} {A B : Nat → List Bool} (x : St R n m base bA bB h L M a b A B) {i : Nat} (hi : i < m) : (A i).length = R := let ⟨_, _, _, _, h, _⟩ := x.mA.row i hi; h
theorem St.lenB {R n m base bA bB : Nat} {h : H} {L M : List (Option Addr × Nat × Nat)} {a b : Nat → Nat} {A B : Nat → List Bool} (x : St R n m base bA bB h L M a b A B) {i : Nat} (hi : i < m) : (B i).length = R := let ⟨_, _, _, _, h, _⟩ := x.mB.row i hi; h
/-- A register is put into a row of the second table. -/
theorem St.bit {R n base bA bB : Nat} {h : H} {L M : List (Option Addr × Nat × Nat)} {a b : Nat → Nat} {A B : Nat → List Bool} (x : St R n n base bA bB h L M a b A B) {i : Nat} (hi : i < n) {r : Int} (h0 : 0 ≤ r) (h1 : r < R) {p : Option Addr} {c : Nat} (hp : M[i]? = some (p, R, c))
    {K : H → Prop} (hk : ∀ h', St R n n base bA bB h' L M a b A (upd1 B i ((B i).set r.toNat true)) → Mod (fun c => base ≤ c) h h' → K h') : onP p fun b o => stQ 1 h b (o + r.toNat * 1) [.bool true] K := by
  obtain ⟨p2, c2, q1, q2, q3, q4⟩ := x.mB.row i hi
  cases hp.symm.trans q1
  have hR : 0 < R := by omega
  refine OwnB.put q2 (by omega) fun h' w' md => hk h' ⟨x.mA.mod md (by have := q4 hR; have := x.ha; omega) fun j hj _ => fun e => x.dis hR j i hj hi e, ⟨x.mB.own.mod md (by have := q4 hR; have := x.hb; omega), x.mB.len, fun j hj => ?_⟩, x.ha, x.hb, x.ne, x.inj, x.dis⟩ (md.wid fun c _ hc => by have := q4 hR; omega)
  by_cases hji : j = i
  · subst hji
    rw [upd1_same]
    exact ⟨p, c, q1, w', by rw [List.length_set]; exact q3, q4⟩
  · rw [upd1_ne _ _ hji]
    obtain ⟨p3, c3, r1, r2, r3, r4⟩ := x.mB.row j hj
    exact ⟨p3, c3, r1, r2.mod md (fun e => hji (x.inj hR j i hj hi e)), r3, r4⟩
/-- A row is put into the first table. -/
theorem St.rowA {R n base bA bB : Nat} {h : H} {L M : List (Option Addr × Nat × Nat)} {a b : Nat → Nat} {A B : Nat → List Bool} (x : St R n n base bA bB h L M a b A B) {i : Nat} (hi : i < n) {p' : Option Addr} {c' b' : Nat} {s : List Bool} (w : OwnB h p' b' s) (hl : s.length = R) (hb : 0 < R → base ≤ b') (hd : 0 < R → ∀ j < n, b' ≠ b j)
    {K : H → Prop} (hk : ∀ h', St R n n base bA bB h' (L.set i (p', R, c')) M (upd1 a i b') b (upd1 A i s) B → Mod (fun c => c = bA) h h' → K h') : stQ 1 h bA (0 + i * 1) [.slice p' R c'] K := by
  refine x.mA.put x.ha hi (m' := n) (fun j hj _ => hj) w hl hb fun h' m' md => hk h' ⟨m', x.mB.mod md (fun e => x.ne e.symm) fun j hj hR => ?_, x.ha, x.hb, x.ne, x.inj, fun hR j j2 hj hj2 => ?_⟩ md
  · obtain ⟨p2, c2, q1, q2, q3, q4⟩ := x.mB.row j hj
    have := q4 hR; have := x.ha; omega
  · by_cases hji : j = i
    · subst hji; rw [upd1_same]; exact hd hR j2 hj2
    · rw [upd1_ne _ _ hji]; exact x.dis hR j j2 hj hj2
theorem rep_flat {α : Type} {g : α → Value} (x : α) (n : Nat) : repV [g x] n = flat (fun x => [g x]) (List.replicate n x) := by
  rw [flat1]; unfold repV
  induction n with
  | zero => rfl
  | succ n ih => rw [List.replicate_succ, List.replicate_succ, List.flatten_cons, ih]; rfl
theorem Own.ofRep {α : Type} {g : α → Value} {h h' : H} {b : Nat} {x : α} {n : Nat} {e : TypeId} (hN : New h (.cells ⟨repV [g x] n⟩ e (0, 0)) b h') : Own (fun x => [g x]) 1 h' (some ⟨b, 0, none⟩) b (List.replicate n x) := by
  rw [rep_flat, ← List.append_nil (flat _ _)] at hN
  exact Own.new hN
end Go.Proofs.Try

/- The document's sets of all blocks: its rounds end at the least sets. -/
set_option maxRecDepth 100000
set_option linter.unusedVariables false
set_option linter.unusedSimpArgs false
open Go Go.Fw Go.Proofs
namespace Go.Proofs.Try

/-- What the tables hold is live, and no more is told ahead of a block than its own text asks. -/
structure Snd (f : Fnc) (A B : Nat → List Bool) : Prop where
  a : ∀ i < f.blocks.length, ∀ r, bit (A i) r → LA f i r
  b : ∀ i < f.blocks.length, ∀ r, bit (B i) r → LB f i r
  le : ∀ i x, f.blocks[i]? = some x → leL (A i) (startL (B i) x)
/-- Whole. -/
structure Fin (f : Fnc) (A B : Nat → List Bool) : Prop where
  a : ∀ i < f.blocks.length, ∀ r, bit (A i) r ↔ LA f i r
  b : ∀ i < f.blocks.length, ∀ r, bit (B i) r ↔ LB f i r
theorem Snd.fin {f : Fnc} {A B : Nat → List Bool} (s : Snd f A B) (ha : SzA f.regs.toNat f.blocks.length A) (hb : SzA f.regs.toNat f.blocks.length B) (p : Pre f A B) : Fin f A B :=
  ⟨fun i hi r => ⟨s.a i hi r, fun h => h A B ha hb p⟩, fun i hi r => ⟨s.b i hi r, fun h => h A B ha hb p⟩⟩

/-- What a round has done for the blocks behind i, if nothing was new. -/
structure Rnd (f : Fnc) (A0 A B : Nat → List Bool) (more : Bool) (i : Int) : Prop where
  zer : zer A f.blocks.length ≤ zer A0 f.blocks.length
  lt : more = true → Try.zer A f.blocks.length < Try.zer A0 f.blocks.length
  eq : more = false → A = A0 ∧ ∀ (j : Nat) x, f.blocks[j]? = some x → i < j → (∀ t ∈ x.term.to, leL (A t.toNat) (B j)) ∧ leL (startL (B j) x) (A j)

theorem leL_set {s t : List Bool} (h : leL s t) (i : Nat) : leL s (t.set i true) :=
  ⟨by simp [h.1], fun r hr => by
    rw [bit_set]
    by_cases e : r = i
    · subst e
      have : r < s.length := (List.getElem?_eq_some_iff.1 hr).1
      exact .inl ⟨rfl, by rw [← h.1]; exact this, rfl⟩
    · exact .inr ⟨e, h.2 r hr⟩⟩

theorem upd1_rep {α : Type} (s : α) (i : Nat) : upd1 (fun _ => s) i s = fun _ => s := by funext j; unfold upd1; split <;> rfl
theorem Mx.lt {R n m base : Nat} {h : H} {bm : Nat} {L : List (Option Addr × Nat × Nat)} {a : Nat → Nat} {A : Nat → List Bool} (x : Mx R n m base h bm L a A) {i : Nat} (hi : i < m) (hR : 0 < R) : a i < h.size := by
  obtain ⟨p, c, q1, q2, q3, q4⟩ := x.row i hi
  exact q2.lt (by rintro e; rw [e] at q3; simp at q3; omega)
theorem Mx.ge {R n m base : Nat} {h : H} {bm : Nat} {L : List (Option Addr × Nat × Nat)} {a : Nat → Nat} {A : Nat → List Bool} (x : Mx R n m base h bm L a A) {i : Nat} (hi : i < m) (hR : 0 < R) : base ≤ a i := by
  obtain ⟨p, c, q1, q2, q3, q4⟩ := x.row i hi
  exact q4 hR

theorem slc {h : H} {q : Option Addr} {b : Nat} {L : List (Option Addr × Nat × Nat)} (w : OwnS h q b L) {i : Nat} {p : Option Addr} {n c : Nat} (hL : L[i]? = some (p, n, c)) : cell h ⟨b, 0 + i * 1, none⟩ = some (.slice p n c) := (Own.get1 (g := sl3) w hL).2
structure GS where
  L : List (Option Addr × Nat × Nat)
  M : List (Option Addr × Nat × Nat)
  a : Nat → Nat
  b : Nat → Nat
  A : Nat → List Bool
  B : Nat → List Bool
theorem leL_ext {s t : List Bool} (h : s.length = t.length) (hb : ∀ r, r < s.length → s[r]? = t[r]?) : s = t := by
  apply List.ext_getElem?
  intro r
  by_cases hr : r < s.length
  · exact hb r hr
  · rw [List.getElem?_eq_none (by omega), List.getElem?_eq_none (by omega)]
theorem upd1_self {α : Type} (A : Nat → α) (i : Nat) : upd1 A i (A i) = A := by funext j; unfold upd1; split <;> simp_all

theorem c37 {h : H} {f : Fnc} {fp : Option Addr} {fn fc : Nat} {fq : Option Addr} {fm fd : Nat} {R : Value → H → Prop} (hF : FncD h (fv f fp fn fc fq fm fd) f) (hz : SzF f) (hP : FncP f) (hn : fm ≤ 1000000)
    (k : ∀ base bA bB h' L M a b A B, h.size ≤ bA → h.size ≤ bB → St f.regs.toNat fm fm base bA bB h' L M a b A B → Fin f A B → Ext h h' → R (.tuple ⟨[.slice (some ⟨bA, 0, none⟩) fm fm, .slice (some ⟨bB, 0, none⟩) fm fm]⟩) h') :
    HC Tryd.prog 37 [.agg ⟨fv f fp fn fc fq fm fd⟩] h R := by
  obtain ⟨_, _, _, _, _, _, he, hps, hpc, hbs, hbc⟩ := hF
  cases he
  have hbl := hbs.len
  have hreg : 0 ≤ f.regs ∧ f.regs ≤ 262144 := ⟨hP.1.1, hP.1.2.1⟩
  apply hc37; unfold sh37; intro bf h1 hN
  have g := hN.keep
  refine ⟨_, _, _, g _ Ext.rfl' 4 _ rfl, by omega, by omega, by omega, fun bA h2 hA => ⟨by omega, by omega, by omega, fun bB h3 hB => ?_⟩⟩
  have hRn : ((f.regs.toNat : Nat) : Int) = f.regs := by omega
  have hfm : ((fm : Int)).toNat = fm := by omega
  rw [hfm] at hA hB ⊢
  have e12 := hA.ext
  have e23 := hB.ext
  have sA := hA.blk
  have sB := hB.blk
  have sz1 := hN.size
  have sz2 := hA.size
  have sz3 := hB.size
  have e0 := hN.ext
  generalize hbase : h3.size = base
  generalize hR : f.regs.toNat = Rg at k hRn ⊢
  -- the rows are made
  refine fwd fm (fun v h' => Ext h1 h' ∧ base ≤ h'.size ∧ ∃ L M a b, St Rg fm v.toNat base bA bB h' L M a b (fun _ => List.replicate Rg false) (fun _ => List.replicate Rg false)) (by omega) ?_ fun v h4 v0 v1 ⟨e4, hs4, L, M, a, b, S4⟩ => ⟨fun hlt => ?_, fun hge => ?_⟩
  · refine ⟨e12.trans e23, by omega, _, _, fun _ => 0, fun _ => 0, ⟨⟨(Own.ofRep (g := sl3) (x := (none, 0, 0)) hA).ext e23, List.length_replicate, fun i hi => absurd hi (by simp)⟩, ⟨Own.ofRep (g := sl3) (x := (none, 0, 0)) hB, List.length_replicate, fun i hi => absurd hi (by simp)⟩, by omega, by omega, by omega, fun _ i j hi => absurd hi (by simp), fun _ i j hi => absurd hi (by simp)⟩⟩
  · refine ⟨_, g _ e4 2 _ rfl, hreg.1, by omega, by omega, fun b5 h5 hN5 => ⟨v0, by omega, ?_⟩⟩
    rw [hR] at hN5 ⊢
    have w5 := Own.ofRep (g := fun x : Bool => Value.bool x) (x := false) hN5
    have hk5 := hN5.blk
    have hz5 := hN5.size
    have S5 := S4.ext hN5.ext
    refine S5.mA.put S5.ha (i := v.toNat) (m' := (v + 1).toNat) (by omega) (fun j hj hne => by omega) w5 (by simp) (fun _ => by omega) fun h6 mA6 md6 => ?_
    have e6 : Ext h1 h6 := md6.ext (e4.trans hN5.ext) fun c hc e => by omega
    have hz6 := md6.size
    refine ⟨_, g _ e6 2 _ rfl, hreg.1, by omega, by omega, fun b7 h7 hN7 => ⟨v0, by omega, ?_⟩⟩
    rw [hR] at hN7 ⊢
    have w7 := Own.ofRep (g := fun x : Bool => Value.bool x) (x := false) hN7
    have hk7 := hN7.blk
    have hz7 := hN7.size
    have mB7 := (S5.mB.mod md6 (fun e => S5.ne e.symm) fun i hi hr => by obtain ⟨_, _, _, _, _, q⟩ := S5.mB.row i hi; have := q hr; have := S5.ha; omega).ext hN7.ext
    refine mB7.put S5.hb (i := v.toNat) (m' := (v + 1).toNat) (by omega) (fun j hj hne => by omega) w7 (by simp) (fun _ => by omega) fun h8 mB8 md8 => ?_
    have e8 : Ext h1 h8 := md8.ext (e6.trans hN7.ext) fun c hc e => by omega
    have hz8 := md8.size
    rw [upd1_rep] at mA6 mB8
    have hv : (v + 1).toNat = v.toNat + 1 := by omega
    refine ⟨i64ok (by omega) (by omega), fwd_next v0 hlt ⟨e8, by omega, _, _, _, _, ⟨(mA6.ext hN7.ext).mod md8 S5.ne fun i hi hr => by have := mA6.ge hi hr; have := S5.hb; omega, mB8, S5.ha, S5.hb, S5.ne, fun hr i j hi hj e => ?_, fun hr i j hi hj e => ?_⟩⟩⟩
    · by_cases h1 : i = v.toNat <;> by_cases h2 : j = v.toNat
      · omega
      · rw [h1, upd1_same, upd1_ne _ _ h2] at e
        have := S4.mB.lt (i := j) (by omega) hr; omega
      · rw [h2, upd1_same, upd1_ne _ _ h1] at e
        have := S4.mB.lt (i := i) (by omega) hr; omega
      · rw [upd1_ne _ _ h1, upd1_ne _ _ h2] at e
        exact S4.inj hr i j (by omega) (by omega) e
    · by_cases h1 : i = v.toNat <;> by_cases h2 : j = v.toNat
      · rw [h1, h2, upd1_same, upd1_same] at e; omega
      · rw [h1, upd1_same, upd1_ne _ _ h2] at e
        have := S4.mB.lt (i := j) (by omega) hr; omega
      · rw [h2, upd1_same, upd1_ne _ _ h1] at e
        have := S4.mA.lt (i := i) (by omega) hr; omega
      · rw [upd1_ne _ _ h1, upd1_ne _ _ h2] at e
        exact S4.dis hr i j (by omega) (by omega) e
  · rw [show v.toNat = fm by omega] at S4
    have hin : ∀ {i : Nat} {x : Blk}, f.blocks[i]? = some x → i < fm := fun hx => by have := (List.getElem?_eq_some_iff.1 hx).1; omega
    have hto : ∀ {i : Nat} {x : Blk} {t : Int}, f.blocks[i]? = some x → t ∈ x.term.to → 0 ≤ t ∧ t.toNat < fm := fun hx ht => by
      have := (hP.2.2.2 _ (List.mem_of_getElem? hx)).2.1 _ ht; omega
    have no0 : ∀ r, ¬ bit (List.replicate Rg false) r := fun r hr => by
      unfold bit at hr; rw [List.getElem?_replicate] at hr; split at hr <;> simp at hr
    have e1' : h1.size ≤ base := by omega
    refine gl1 (fun more (q : GS) h' => Ext h1 h' ∧ base ≤ h'.size ∧ St Rg fm fm base bA bB h' q.L q.M q.a q.b q.A q.B ∧ Snd f q.A q.B ∧ (more = false → Pre f q.A q.B)) (fun more q => 2 * zer q.A fm + if more then 1 else 0) ⟨⟨L, M, a, b, _, _⟩, e4, hs4, S4, ⟨fun i hi r hr => absurd hr (no0 r), fun i hi r hr => absurd hr (no0 r), fun i x hx => ⟨by rw [startL_len], fun r hr => absurd hr (no0 r)⟩⟩, by simp⟩ ?_
    rintro more ⟨L0, M0, a0, b0, A0, B0⟩ h9 ⟨e9, hs9, S9, D9, P9⟩ hms
    simp only at S9 D9 P9 hms
    refine ⟨fun hmt => ?_, fun hmf => ?_⟩
    · subst hmt
      refine ⟨i64ok (by omega) (by omega), ?_⟩
      refine ⟨fun m i => (fun h' => (-1 ≤ i ∧ i < fm ∧ Ext h1 h' ∧ base ≤ h'.size) ∧ ∃ L M a b A B, St Rg fm fm base bA bB h' L M a b A B ∧ Snd f A B ∧ Rnd f A0 A B m i, fun _ => (i + 1).toNat), ⟨⟨by omega, by omega, e9, hs9⟩, _, _, _, _, _, _, S9, D9, ⟨Nat.le_refl _, by simp, fun _ => ⟨rfl, fun j x hx hlt => by have := hin hx; omega⟩⟩⟩, ?_⟩
      rintro m i h10 ⟨⟨i0, i1, e10, hs10⟩, L1, M1, a1, b1, A1, B1, S10, D10, N10⟩
      refine ⟨fun hge => ?_, fun hneg => ?_⟩
      · refine ⟨_, _, _, g _ e10 4 _ rfl, hge, by omega, ?_⟩
        obtain ⟨x, b', o', hx, hp, vs, ⟨bp, bn, bc, tp, tn, tc, rfl, hbody, hbc2, hto2, htc⟩, hcell⟩ := (hbs.mono e0 fun _ _ _ => BlkD.ext e0).get hge i1
        have hzx := hz.2.2 x (List.mem_of_getElem? hx)
        have htl := hto2.len
        have hz2 := hzx.2.1
        unfold SzI at hz2
        have hi := hin hx
        have hi' : ((i.toNat : Nat) : Int) = i := by omega
        refine onP_at hp ⟨_, _, _, e10.cell (hcell 3 _ rfl), ?_⟩
        refine fwd tn (fun v h' => Ext h1 h' ∧ base ≤ h'.size ∧ ∃ B, St Rg fm fm base bA bB h' L1 M1 a1 b1 A1 B ∧ Snd f A1 B ∧ (∀ t ∈ x.term.to.take v.toNat, leL (A1 t.toNat) (B i.toNat)) ∧ (∀ j, j ≠ i.toNat → B j = B1 j)) (by omega) ⟨e10, hs10, B1, S10, D10, by simp, fun _ _ => rfl⟩ fun u h11 u0 u1 ⟨e11, hs11, B2, S11, D11, T11, Q11⟩ => ⟨fun ult => ?_, fun uge => ?_⟩
        · obtain ⟨y, b2, o2, hy, hp2, hc2⟩ := hto2.get u0 ult
          have hyt := hto hx (List.mem_of_getElem? hy)
          refine fwd Rg (fun r h' => Ext h1 h' ∧ base ≤ h'.size ∧ ∃ B, St Rg fm fm base bA bB h' L1 M1 a1 b1 A1 B ∧ Snd f A1 B ∧ (∀ t ∈ x.term.to.take u.toNat, leL (A1 t.toNat) (B i.toNat)) ∧ (∀ j, j ≠ i.toNat → B j = B1 j) ∧ ∀ q < r.toNat, bit (A1 y.toNat) q → bit (B i.toNat) q) (by omega) ⟨e11, hs11, B2, S11, D11, T11, Q11, fun q hq => by simp at hq⟩ fun r h12 r0 r1 ⟨e12', hs12, B3, S12, D12, T12, Q12, U12⟩ => ?_
          refine ⟨_, g _ e12' 2 _ rfl, fun rlt => ?_, fun rge => ⟨i64ok (by omega) (by omega), fwd_next u0 ult ⟨e12', hs12, B3, S12, D12, ?_, Q12⟩⟩⟩
          · refine ⟨u0, ult, onP_at hp2 ⟨_, e12'.cell hc2, hyt.1, by omega, ?_⟩⟩
            obtain ⟨pa, ca, ra1, ra2, ra3, ra4⟩ := S12.mA.row y.toNat hyt.2
            refine ⟨_, _, _, (slc S12.mA.own ra1), r0, by omega, OwnB.get ra2 (by omega) fun v hv => ⟨fun vt => ⟨hge, by omega, ?_⟩, fun vf => ⟨i64ok (by omega) (by omega), fwd_next r0 (by omega) ⟨e12', hs12, B3, S12, D12, T12, Q12, fun q hq hb => ?_⟩⟩⟩⟩
            · subst vt
              obtain ⟨pb, cb, rb1, rb2, rb3, rb4⟩ := S12.mB.row i.toNat hi
              refine ⟨_, _, _, (slc S12.mB.own rb1), r0, by omega, S12.bit hi r0 (by omega) rb1 fun h13 S13 md13 => ⟨i64ok (by omega) (by omega), fwd_next r0 (by omega) ⟨md13.ext e12' fun c hc he => by omega, Nat.le_trans hs12 md13.size, _, S13, ⟨D12.a, fun j hj q hq => ?_, fun j z hz => ?_⟩, fun t ht => ?_, fun j hj => ?_, fun q hq hb => ?_⟩⟩⟩
              · by_cases hji : j = i.toNat
                · subst hji
                  rw [upd1_same, bit_set] at hq
                  rcases hq with ⟨rfl, _, _⟩ | ⟨_, hq⟩
                  · exact LB_of hx (List.mem_of_getElem? hy) (D12.a _ (by omega) _ hv)
                  · exact D12.b _ hj _ hq
                · rw [upd1_ne _ _ hji] at hq; exact D12.b _ hj _ hq
              · by_cases hji : j = i.toNat
                · subst hji
                  rw [upd1_same]
                  exact (D12.le _ z hz).trans ((leL_set leL.rfl' _).start z)
                · rw [upd1_ne _ _ hji]; exact D12.le _ z hz
              · rw [upd1_same]; exact leL_set (T12 t ht) _
              · rw [upd1_ne _ _ hj]; exact Q12 j hj
              · rw [upd1_same, bit_set]
                by_cases hqr : q = r.toNat
                · exact .inl ⟨hqr, by omega, rfl⟩
                · exact .inr ⟨hqr, U12 q (by omega) hb⟩
            · subst vf
              by_cases hqr : q = r.toNat
              · subst hqr; unfold bit at hb; rw [hv] at hb; cases hb
              · exact U12 q (by omega) hb
          · rw [show (u + 1).toNat = u.toNat + 1 by omega, take_succ_all hy]
            refine ⟨T12, by rw [S12.lenA hyt.2, S12.lenB hi], fun q hq => U12 q ?_ hq⟩
            have hql := (List.getElem?_eq_some_iff.1 hq).1
            rw [S12.lenA hyt.2] at hql
            omega
        · rw [show u.toNat = x.term.to.length by omega, List.take_length] at T11
          refine ⟨hge, by omega, ?_⟩
          obtain ⟨pb, cb, rb1, rb2, rb3, rb4⟩ := S11.mB.row i.toNat hi
          refine ⟨_, _, _, (slc S11.mB.own rb1), _, _, _, g _ e11 4 _ rfl, hge, by omega, onP_at hp ⟨_, _, _, e11.cell (hcell 0 _ rfl), _, e11.cell (hcell 1 _ rfl), _, e11.cell (hcell 2 _ rfl), _, _, _, e11.cell (hcell 3 _ rfl), ?_⟩⟩
          refine c66 (blkOk (hP.2.2.2 x (List.mem_of_getElem? hx)) hzx) (by omega) hreg.2 rb3 rb2 ⟨_, _, _, _, _, _, rfl, hbody.mono e11 fun _ _ _ => InsD.ext e11, hbc2, hto2.ext e11, htc⟩ fun p' n' c' b2 h14 w14 hn14 hb14 e14 => ⟨_, _, _, rfl, ?_⟩
          have S14 := S11.ext e14
          generalize hs : startL (B2 i.toNat) x = s at w14
          have hsl : s.length = Rg := by rw [← hs, startL_len]; exact rb3
          have hle : leL (A1 i.toNat) s := by rw [← hs]; exact D11.le _ x hx
          obtain ⟨pa, ca, ra1, ra2, ra3, ra4⟩ := S14.mA.row i.toNat hi
          refine ⟨fun m2 r => (fun h' => h' = h14 ∧ 0 ≤ r ∧ r ≤ Rg ∧ (m2 = true → m = true ∨ A1 i.toNat ≠ s) ∧ (m2 = false → m = false ∧ ∀ q < r.toNat, (A1 i.toNat)[q]? = s[q]?), fun _ => (Rg - r).toNat), ⟨rfl, by omega, by omega, .inl, fun hm => ⟨hm, fun q hq => by simp at hq⟩⟩, ?_⟩
          rintro m2 r h15 ⟨rfl, r0, r1, mt, mf⟩
          refine ⟨_, g _ (e11.trans e14) 2 _ rfl, fun rlt => ⟨r0, by omega, ?_⟩, fun rge => ⟨hge, by omega, ?_⟩⟩
          · obtain ⟨vs, hbr⟩ : ∃ v, s[r.toNat]? = some v := ⟨s[r.toNat]'(by omega), by simp⟩
            obtain ⟨va, hba⟩ : ∃ v, (A1 i.toNat)[r.toNat]? = some v := ⟨(A1 i.toNat)[r.toNat]'(by omega), by simp⟩
            have q1 := Own.get1 (g := Value.bool) w14 hbr
            have q2 := Own.get1 (g := Value.bool) ra2 hba
            refine onP_at q1.1 ⟨hge, by omega, _, q1.2, _, _, _, slc S14.mA.own ra1, r0, by omega, onP_at q2.1 ⟨_, q2.2, fun hne => ⟨i64ok (by omega) (by omega), ⟨rfl, by omega, by omega, fun _ => .inr fun e => hne ?_, fun h => by simp at h⟩, ?_⟩, fun heq => ⟨i64ok (by omega) (by omega), ⟨rfl, by omega, by omega, mt, fun hm => ⟨(mf hm).1, fun q hq => ?_⟩⟩, ?_⟩⟩⟩
            · rw [e, hbr] at hba; exact Option.some.inj hba
            · show (Rg - (r + 1)).toNat < (Rg - r).toNat; omega
            · by_cases hqr : q = r.toNat
              · subst hqr; rw [hba, hbr]; exact congrArg some (Classical.not_not.1 fun x => heq fun e => x e.symm)
              · exact (mf hm).2 q (by omega)
            · show (Rg - (r + 1)).toNat < (Rg - r).toNat; omega
          · have hn14' : n' = Rg := by rw [← hn14]; exact rb3
            subst hn14'
            have hb2 : 0 < n' → h11.size ≤ b2 := fun hr => hb14 (by rintro e; rw [e] at rb3; simp at rb3; omega)
            have hz14 := e14.size
            refine S14.rowA hi w14 hsl (fun hr => by have := hb2 hr; omega) (fun hr j hj e => by have := S11.mB.lt hj hr; have := hb2 hr; omega) fun h16 S16 md16 => ⟨i64ok (by omega) (by omega), ⟨⟨by omega, by omega, md16.ext (e11.trans e14) fun c hc e => by omega, by have := md16.size; omega⟩, _, _, _, _, _, _, S16, ⟨fun j hj q hq => ?_, D11.b, fun j z hz => ?_⟩, ⟨?_, fun hm2 => ?_, fun hm2 => ?_⟩⟩, ?_⟩
            · by_cases hji : j = i.toNat
              · subst hji
                rw [upd1_same] at hq
                exact LA_of hx (by rw [hR]; exact rb3) (fun r hr => D11.b _ hj _ hr) (by rw [hs]; exact hq)
              · rw [upd1_ne _ _ hji] at hq; exact D11.a _ hj _ hq
            · by_cases hji : j = i.toNat
              · subst hji
                cases hx.symm.trans hz
                rw [upd1_same, hs]; exact leL.rfl'
              · rw [upd1_ne _ _ hji]; exact D11.le _ z hz
            · have := (zer_upd hle f.blocks.length).1; have := N10.zer; omega
            · have z1 := (zer_upd hle f.blocks.length).1
              have z2 := (zer_upd hle f.blocks.length).2
              have z3 := N10.zer
              rcases mt hm2 with h | h
              · have := N10.lt h; omega
              · have := z2 (by omega) h; omega
            · obtain ⟨m0, heq⟩ := mf hm2
              have hAs : A1 i.toNat = s := leL_ext (by omega) fun q hq => heq q (by omega)
              obtain ⟨hA, hcl⟩ := N10.eq m0
              rw [← hAs, upd1_self]
              refine ⟨hA, fun j z hz hlt => ?_⟩
              by_cases hji : j = i.toNat
              · subst hji
                cases hx.symm.trans hz
                exact ⟨T11, by rw [hs, hAs]; exact leL.rfl'⟩
              · have := hcl j z hz (by omega)
                rw [Q11 j hji]; exact this
            · show (i - 1 + 1).toNat < (i + 1).toNat; omega
      · have hi' : i = -1 := by omega
        subst hi'
        refine glJ_next (g := ⟨L0, M0, a0, b0, A0, B0⟩) hms (g' := ⟨L1, M1, a1, b1, A1, B1⟩) ⟨e10, hs10, S10, D10, fun hm j z hz => (N10.eq hm).2 j z hz (by omega)⟩ ?_
        have z3 := N10.zer
        rw [hbl] at z3
        cases m
        · simp; omega
        · have := N10.lt rfl; rw [hbl] at this; simp; omega
    · exact k _ _ _ _ _ _ _ _ _ _ (by omega) (by omega) S9 (D9.fin (fun i hi => by rw [hR]; exact S9.lenA (by omega)) (fun i hi => by rw [hR]; exact S9.lenB (by omega)) (P9 hmf)) (e0.trans e9)
end Go.Proofs.Try

/- Intervals: places met, the document's way. -/
set_option maxRecDepth 100000
set_option linter.unusedVariables false
set_option linter.unusedSimpArgs false
open Go Go.Fw Go.Proofs
namespace Go.Proofs.Try

structure Itv where
  reg : Int
  frm : Int
  to : Int
abbrev ive : Itv → List Value := fun x => [.int .i64 x.reg, .int .i64 x.frm, .int .i64 x.to]
abbrev OwnV := Own ive 3
theorem OwnV.cell {h : H} {p : Option Addr} {b : Nat} {l : List Itv} (w : OwnV h p b l) {i : Nat} {x : Itv} (hi : l[i]? = some x) :
    p = some ⟨b, 0, none⟩ ∧ Fw.cell h ⟨b, 0 + i * 3 + 0, none⟩ = some (.int .i64 x.reg) ∧ Fw.cell h ⟨b, 0 + i * 3 + 1, none⟩ = some (.int .i64 x.frm) ∧ Fw.cell h ⟨b, 0 + i * 3 + 2, none⟩ = some (.int .i64 x.to) :=
  ⟨(Own.cell (enc := ive) (k := 3) (fun _ => rfl) w hi (j := 0) (v := .int .i64 x.reg) rfl).1, (Own.cell (enc := ive) (k := 3) (fun _ => rfl) w hi (j := 0) (v := .int .i64 x.reg) rfl).2, (Own.cell (enc := ive) (k := 3) (fun _ => rfl) w hi (j := 1) (v := .int .i64 x.frm) rfl).2, (Own.cell (enc := ive) (k := 3) (fun _ => rfl) w hi (j := 2) (v := .int .i64 x.to) rfl).2⟩
theorem OwnV.put {h : H} {p : Option Addr} {b : Nat} {l : List Itv} (w : OwnV h p b l) {i : Nat} {x : Itv} (hi : l[i]? = some x) (x' : Itv) {j : Nat} {v : Value} (hj : j < 3) (hx : setAt (ive x) j [v] = ive x') (hv : oneA [v] = true)
    {K : H → Prop} (hk : ∀ h', OwnV h' p b (l.set i x') → Mod (fun c => c = b) h h' → K h') : stQ 1 h b (0 + i * 3 + j) [v] K := by
  obtain ⟨cs, e, h1, h2, h3⟩ := Own.store (enc := ive) (k := 3) (fun _ => rfl) (by omega) w hi (j := j) (vs := [v]) (x' := x') (by simp; omega) hx
  exact ⟨cs, e, h1, h2, hv, rfl, fun h' hu => hk h' (h3 h' hu).1 (h3 h' hu).2⟩

def wideI (x : Itv) (p : Int) : Itv := ⟨x.reg, if x.frm < 0 ∨ p < x.frm then p else x.frm, if x.to < p then p else x.to⟩
abbrev Ev := Int × Int
def meetE (l : List Itv) (e : Ev) : List Itv := match l[e.1.toNat]? with
  | some x => l.set e.1.toNat (wideI x e.2)
  | none => l
def meets (l : List Itv) (es : List Ev) : List Itv := es.foldl meetE l
theorem meetE_len (l : List Itv) (e : Ev) : (meetE l e).length = l.length := by unfold meetE; split <;> simp
theorem meets_len : ∀ (es : List Ev) (l : List Itv), (meets l es).length = l.length
  | [], l => rfl
  | e :: es, l => (meets_len es _).trans (meetE_len l e)
theorem meets_append (l : List Itv) (es fs : List Ev) : meets l (es ++ fs) = meets (meets l es) fs := by simp [meets]

theorem c38 {h : H} {p : Option Addr} {n c b : Nat} {l : List Itv} {r place : Int} (w : OwnV h p b l) (hn : l.length = n) (h0 : 0 ≤ r) (h1 : r < n) {R : Value → H → Prop} (k : ∀ h', OwnV h' p b (meets l [(r, place)]) → Mod (fun c => c = b ∧ l ≠ []) h h' → R (.tuple ⟨[]⟩) h') :
    HC Tryd.prog 38 [.slice p n c, .int .i64 r, .int .i64 place] h R := by
  obtain ⟨x, hx⟩ : ∃ x, l[r.toNat]? = some x := ⟨l[r.toNat]'(by omega), by simp⟩
  have hlen : r.toNat < l.length := by omega
  have hne : l ≠ [] := ne_nil hx
  obtain ⟨q0, q1, q2, q3⟩ := w.cell hx
  apply hc38; unfold sh38
  refine ⟨h0, by omega, onP_at q0 ⟨by simp, _, q2, ?_⟩⟩
  have fin : ∀ h', OwnV h' p b (l.set r.toNat (wideI x place)) → Mod (fun c => c = b) h h' → R (.tuple ⟨[]⟩) h' := fun h' w' m => k h' (by simp only [meets, List.foldl_cons, List.foldl_nil, meetE, hx]; exact w') (m.wid fun c _ hc => ⟨hc, hne⟩)
  have up2 : ∀ (x1 : Itv) h1, OwnV h1 p b (l.set r.toNat x1) → Mod (fun c => c = b) h h1 → x1.reg = x.reg → x1.to = x.to → x1.frm = (wideI x place).frm →
      (((some ⟨b, 0 + r.toNat * 3, none⟩ : Option Addr) ≠ none) ∧ ∃ v, cell h1 ⟨b, 0 + r.toNat * 3 + 2, none⟩ = some (.int .i64 v) ∧ ((v < place → ((some ⟨b, 0 + r.toNat * 3, none⟩ : Option Addr) ≠ none) ∧ stQ 1 h1 b (0 + r.toNat * 3 + 2) [.int .i64 place] fun h2 => R (.tuple ⟨[]⟩) h2) ∧ (¬ v < place → R (.tuple ⟨[]⟩) h1))) := by
    intro x1 h1 w1 m1 e1 e2 e3
    have hx1 : (l.set r.toNat x1)[r.toNat]? = some x1 := List.getElem?_set_self hlen
    obtain ⟨_, _, _, q3'⟩ := w1.cell hx1
    refine ⟨by simp, _, q3', fun hlt => ⟨by simp, w1.put hx1 (wideI x place) (by omega) ?_ rfl fun h2 w2 m2 => fin h2 (by rw [List.set_set] at w2; exact w2) (m1.trans m2 fun _ _ h => h)⟩, fun hnl => fin h1 ?_ m1⟩
    · show [_, _, _] = [_, _, _]
      rw [e1, e3, show (wideI x place).reg = x.reg from rfl, show (wideI x place).to = place by simp only [wideI]; rw [if_pos (by omega)]]
    · rw [show wideI x place = x1 by cases x1; cases x; simp only [wideI] at *; subst e1 e2 e3; rw [if_neg hnl]]; exact w1
  have hself : l.set r.toNat x = l := by
    apply List.ext_getElem?; intro m
    by_cases hm : r.toNat = m
    · subst hm; rw [List.getElem?_set_self hlen, hx]
    · rw [List.getElem?_set_ne hm]
  refine ⟨fun hneg => ⟨by simp, w.put hx ⟨x.reg, place, x.to⟩ (by omega) rfl rfl fun h1 w1 m1 => up2 _ h1 w1 m1 rfl rfl (by simp only [wideI]; rw [if_pos (.inl hneg)])⟩, fun hnn => ⟨by simp, _, q2, fun hlt => ⟨by simp, w.put hx ⟨x.reg, place, x.to⟩ (by omega) rfl rfl fun h1 w1 m1 => up2 _ h1 w1 m1 rfl rfl (by simp only [wideI]; rw [if_pos (.inr hlt)])⟩, fun hge => up2 x h (by rw [hself]; exact w) (Mod.refl _ _) rfl rfl (by simp only [wideI]; rw [if_neg (by omega)])⟩⟩
end Go.Proofs.Try

/- Intervals: the places of a block, the document's way. -/
set_option maxRecDepth 100000
set_option linter.unusedVariables false
set_option linter.unusedSimpArgs false
open Go Go.Fw Go.Proofs
namespace Go.Proofs.Try

def rowEv (A B : List Bool) (k len : Int) (r : Nat) : List Ev := (if A[r]? = some true then [((r : Int), 2 * (k + 1))] else []) ++ (if B[r]? = some true then [((r : Int), 2 * (k + len + 1) + 1)] else [])
def insEv (k : Int) (x : Ins) : List Ev := x.args.map (fun a => (a, 2 * (k + 1))) ++ (if 0 ≤ x.dst then [(x.dst, 2 * (k + 1) + 1)] else [])
def bodyEv : Int → List Ins → List Ev
  | _, [] => []
  | k, x :: xs => insEv k x ++ bodyEv (k + 1) xs
def termEv (k v : Int) : List Ev := if 0 ≤ v then [(v, 2 * (k + 1))] else []
def blkEv (A B : List Bool) (k : Int) (x : Blk) (R : Nat) : List Ev := (List.range R).flatMap (rowEv A B k x.body.length) ++ bodyEv k x.body ++ termEv (k + x.body.length) x.term.value
theorem bodyEv_append : ∀ (k : Int) (l m : List Ins), bodyEv k (l ++ m) = bodyEv k l ++ bodyEv (k + l.length) m
  | k, [], m => by simp [bodyEv]
  | k, x :: l, m => by
    simp only [List.cons_append, bodyEv, List.append_assoc, List.length_cons]
    rw [bodyEv_append (k + 1) l m, show k + ((l.length + 1 : Nat) : Int) = k + 1 + (l.length : Int) by omega]
theorem bodyEv_succ {k : Int} {l : List Ins} {i : Nat} {x : Ins} (hx : l[i]? = some x) : bodyEv k (l.take (i + 1)) = bodyEv k (l.take i) ++ insEv (k + i) x := by
  have hi : i < l.length := (List.getElem?_eq_some_iff.1 hx).1
  rw [List.take_add_one, hx, Option.toList_some, bodyEv_append, List.length_take, Nat.min_eq_left (by omega)]
  simp [bodyEv]
theorem range_succ_flat {α : Type} (g : Nat → List α) (n : Nat) : (List.range (n + 1)).flatMap g = (List.range n).flatMap g ++ g n := by
  rw [List.range_succ, List.flatMap_append]; simp

theorem c39 {h0 h : H} {f : Fnc} {x : Blk} (hx : BlkOk f x) {A B : List Bool} {pa pb : Option Addr} {na ca ba nb cb b2 : Nat} (wA : OwnB h0 pa ba A) (wB : OwnB h0 pb b2 B) {n : Nat} (hna : A.length = na) (hnb : B.length = nb) (hA : na = n) (hB : nb = n) (hR : (n : Int) = f.regs) (hR2 : f.regs ≤ 262144)
    {l : List Itv} {p : Option Addr} {c b : Nat} (hl : l.length = n) (e0 : Ext h0 h) (hb : l ≠ [] → h0.size ≤ b) (w : OwnV h p b l)
    {bp : Option Addr} {bn bc : Nat} {tp : Option Addr} {tn tc : Nat} (hd : BlkD h0 [.slice bp bn bc, .int .i64 x.term.kind, .int .i64 x.term.value, .slice tp tn tc] x) {kk : Int} (hk0 : 0 ≤ kk) (hk1 : kk + x.body.length ≤ 1000000000000) {R : Value → H → Prop}
    (k : ∀ h', Ext h0 h' → OwnV h' p b (meets l (blkEv A B kk x n)) → Mod (SB b l) h h' → R (.tuple ⟨[]⟩) h') :
    HC Tryd.prog 39 [.agg ⟨[.slice bp bn bc, .int .i64 x.term.kind, .int .i64 x.term.value, .slice tp tn tc]⟩, .slice pa na ca, .slice pb nb cb, .slice p n c, .int .i64 kk] h R := by
  obtain ⟨_, _, _, _, _, _, he, hbody, hbc, hto, htc⟩ := hd
  cases he
  subst hA hB
  have hbl := hbody.len
  apply hc39; unfold sh39; intro bx h1 hN
  have hbx : ¬ SB b l bx := fun ⟨q1, q2⟩ => by have := w.lt q2; have := hN.blk; omega
  have hS0 : ∀ c, c < h0.size → ¬ SB b l c := fun c hc ⟨q1, q2⟩ => by have := hb q2; omega
  have g : ∀ {h'}, Mod (SB b l) h1 h' → ∀ j y, [Value.slice bp bn bc, .int .i64 x.term.kind, .int .i64 x.term.value, .slice tp tn tc][j]? = some y → cell h' ⟨bx, j, none⟩ = some y := fun m j y hj => m.cell (hN.cell hj) hbx
  have e1 := e0.trans hN.ext
  have ex : ∀ {h'}, Mod (SB b l) h1 h' → Ext h0 h' := fun m => m.ext e1 hS0
  have wid : ∀ {es : List Ev} {h' h'' : H}, Mod (SB b l) h1 h' → Mod (fun c => c = b ∧ meets l es ≠ []) h' h'' → Mod (SB b l) h1 h'' := fun {es h' h''} m m' => m.trans m' fun c _ hc => (SB_len (meets_len es l)).1 hc
  refine fwd nb (fun v h' => OwnV h' p b (meets l ((List.range v.toNat).flatMap (rowEv A B kk x.body.length))) ∧ Mod (SB b l) h1 h') (by omega) ⟨w.ext hN.ext, Mod.refl _ _⟩ fun v h2 v0 v1 ⟨w2, m2⟩ => ⟨fun hlt => ⟨v0, by omega, ?_⟩, fun hge => ?_⟩
  · have hvn : (v + 1).toNat = v.toNat + 1 := by omega
    refine OwnB.get (wA.ext (ex m2)) (by omega) fun va hva => ⟨fun ht => ?_, fun hf => ?_⟩
    · subst ht
      refine ⟨i64ok (by omega) (by omega), i64ok (by omega) (by omega), c38 w2 (by rw [meets_len]; exact hl) v0 (by omega) fun h3 w3 m3 => ⟨rfl, v0, by omega, ?_⟩⟩
      rw [← meets_append] at w3
      have m3' := wid m2 m3
      refine OwnB.get (wB.ext (ex m3')) (by omega) fun vb hvb => ⟨fun ht => ?_, fun hf => ?_⟩
      · subst ht
        refine ⟨_, _, _, g m3' 0 _ rfl, i64ok (by omega) (by omega), i64ok (by omega) (by omega), i64ok (by omega) (by omega), i64ok (by omega) (by omega), c38 w3 (by rw [meets_len]; exact hl) v0 (by omega) fun h4 w4 m4 => ⟨rfl, i64ok (by omega) (by omega), fwd_next v0 hlt ⟨?_, wid m3' m4⟩⟩⟩
        rw [hvn, range_succ_flat, rowEv, if_pos hva, if_pos hvb, ← List.append_assoc, meets_append]
        rw [show ((v.toNat : Nat) : Int) = v by omega]; rw [← hbl] at w4; exact w4
      · subst hf
        refine ⟨i64ok (by omega) (by omega), fwd_next v0 hlt ⟨?_, m3'⟩⟩
        rw [hvn, range_succ_flat, rowEv, if_pos hva, if_neg (by rw [hvb]; simp), List.append_nil]
        rw [show ((v.toNat : Nat) : Int) = v by omega]; exact w3
    · subst hf
      refine ⟨v0, by omega, OwnB.get (wB.ext (ex m2)) (by omega) fun vb hvb => ⟨fun ht => ?_, fun hf => ?_⟩⟩
      · subst ht
        refine ⟨_, _, _, g m2 0 _ rfl, i64ok (by omega) (by omega), i64ok (by omega) (by omega), i64ok (by omega) (by omega), i64ok (by omega) (by omega), c38 w2 (by rw [meets_len]; exact hl) v0 (by omega) fun h4 w4 m4 => ⟨rfl, i64ok (by omega) (by omega), fwd_next v0 hlt ⟨?_, wid m2 m4⟩⟩⟩
        rw [hvn, range_succ_flat, rowEv, if_neg (by rw [hva]; simp), if_pos hvb, List.nil_append, meets_append]
        rw [show ((v.toNat : Nat) : Int) = v by omega]; rw [← hbl] at w4; exact w4
      · subst hf
        refine ⟨i64ok (by omega) (by omega), fwd_next v0 hlt ⟨?_, m2⟩⟩
        rw [hvn, range_succ_flat, rowEv, if_neg (by rw [hva]; simp), if_neg (by rw [hvb]; simp), List.nil_append, List.append_nil]
        exact w2
  · rw [show v.toNat = nb by omega] at w2
    generalize hev : (List.range nb).flatMap (rowEv A B kk x.body.length) = ev at w2
    refine ⟨fun k1 i => (fun h' => k1 = kk + i ∧ 0 ≤ i ∧ i ≤ bn ∧ OwnV h' p b (meets l (ev ++ bodyEv kk (x.body.take i.toNat))) ∧ Mod (SB b l) h1 h', fun _ => (bn - i).toNat), ⟨by omega, by omega, by omega, by simpa [bodyEv] using w2, m2⟩, ?_⟩
    rintro k1 i h6 ⟨rfl, i0, i1, w6, m6⟩
    simp only [Nat.zero_add, Nat.reduceAdd, g m6 0 _ rfl, g m6 2 _ rfl, exI, exSl]
    refine ⟨fun hlt => ⟨i0, hlt, ?_⟩, fun hge => ?_⟩
    · obtain ⟨y, b3, o3, hy, hp3, vs, ⟨ap, an, ac, rfl, hargs, hac⟩, hc3⟩ := hbody.get i0 hlt
      have oky := hx.ins y (List.mem_of_getElem? hy)
      have hal := hargs.len
      have hzy := oky.2
      unfold SzI at hzy
      have e6 := ex m6
      refine onP_at hp3 ⟨_, e6.cell (hc3 0 _ rfl), _, e6.cell (hc3 1 _ rfl), _, e6.cell (hc3 2 _ rfl), _, _, _, e6.cell (hc3 3 _ rfl), fun bi h7 hN7 => hN7.st rfl rfl rfl rfl fun h8 e8 gi => ⟨i64ok (by omega) (by omega), ?_⟩⟩
      have m8 : Mod (SB b l) h1 h8 := m6.trans e8.mod fun _ _ h => h.elim
      have hbi : ¬ SB b l bi := fun ⟨q1, q2⟩ => by have := w.lt q2; have := hN7.blk; have := m6.size; have := hN.size; omega
      have gy : ∀ {h'}, Mod (SB b l) h8 h' → ∀ j z, (xv y ap an ac)[j]? = some z → cell h' ⟨bi, j, none⟩ = some z := fun m j z hj => m.cell (gi _ Ext.rfl' j z hj) hbi
      refine fwd an (fun j h' => OwnV h' p b (meets l (ev ++ bodyEv kk (x.body.take i.toNat) ++ (y.args.take j.toNat).map fun a => (a, 2 * (kk + i + 1)))) ∧ Mod (SB b l) h8 h') (by omega) ⟨by simpa using w6.ext e8, Mod.refl _ _⟩ fun j h9 j0 j1 ⟨w9, m9⟩ => ?_
      have m19 : Mod (SB b l) h1 h9 := m8.trans m9 fun _ _ h => h
      simp only [Nat.zero_add, gy m9 1 _ rfl, gy m9 3 _ rfl, exI, exSl]
      refine ⟨fun jlt => ⟨j0, jlt, ?_⟩, fun jge => ?_⟩
      · obtain ⟨a, b4, o4, ha, hp4, hc4⟩ := hargs.get j0 jlt
        have hRa : RegP f a := oky.1.1 a (List.mem_of_getElem? ha)
        unfold RegP at hRa
        refine onP_at hp4 ⟨a, (ex m19).cell hc4, i64ok (by omega) (by omega), c38 w9 (by rw [meets_len]; exact hl) hRa.1 (by omega) fun h10 w10 m10 => ⟨rfl, i64ok (by omega) (by omega), fwd_next j0 jlt ⟨?_, m9.trans m10 fun c _ hc => (SB_len (meets_len _ l)).1 hc⟩⟩⟩
        rw [show (j + 1).toNat = j.toNat + 1 by omega, List.take_add_one, ha, Option.toList_some, List.map_append, ← List.append_assoc, meets_append]
        exact w10
      · rw [show j.toNat = y.args.length by omega, List.take_length] at w9
        have hin : (i + 1).toNat = i.toNat + 1 := by omega
        refine ⟨fun d0 => ?_, fun d0 => ?_⟩
        · have hRd : RegP f y.dst := by rcases insP_dst oky.1 with h | h; omega; exact h
          unfold RegP at hRd
          refine ⟨i64ok (by omega) (by omega), i64ok (by omega) (by omega), c38 w9 (by rw [meets_len]; exact hl) hRd.1 (by omega) fun h11 w11 m11 => ⟨rfl, i64ok (by omega) (by omega), ⟨by omega, by omega, by omega, ?_, wid m19 m11⟩, ?_⟩⟩
          · rw [hin, bodyEv_succ hy, insEv, if_pos d0, ← List.append_assoc, ← List.append_assoc, meets_append, show ((i.toNat : Nat) : Int) = i by omega]
            exact w11
          · show (bn - (i + 1)).toNat < (bn - i).toNat; omega
        · refine ⟨i64ok (by omega) (by omega), ⟨by omega, by omega, by omega, ?_, m19⟩, ?_⟩
          · rw [hin, bodyEv_succ hy, insEv, if_neg d0, List.append_nil, ← List.append_assoc, show ((i.toNat : Nat) : Int) = i by omega]
            exact w9
          · show (bn - (i + 1)).toNat < (bn - i).toNat; omega
    · have hib : i = bn := by omega
      subst hib
      rw [show ((bn : Int)).toNat = x.body.length by omega, List.take_length] at w6
      have hm6 : Mod (SB b l) h h6 := (hN.mod _).trans m6 fun _ _ h => h
      refine ⟨fun v0 => ?_, fun v0 => ?_⟩
      · have hRv : RegP f x.term.value := by rcases hx.val with h | h; omega; exact h
        unfold RegP at hRv
        refine ⟨i64ok (by omega) (by omega), i64ok (by omega) (by omega), c38 w6 (by rw [meets_len]; exact hl) hRv.1 (by omega) fun h12 w12 m12 => ⟨rfl, k _ (ex (wid m6 m12)) ?_ ((hN.mod _).trans (wid m6 m12) fun _ _ h => h)⟩⟩
        unfold blkEv termEv
        rw [hev, if_pos v0, meets_append, hbl]; exact w12
      · refine k _ (ex m6) ?_ hm6
        unfold blkEv termEv
        rw [hev, if_neg v0, List.append_nil]; exact w6
end Go.Proofs.Try

/- Is a list a line of blocks? The document's way. -/
set_option maxRecDepth 100000
set_option linter.unusedVariables false
set_option linter.unusedSimpArgs false
open Go Go.Fw Go.Proofs
namespace Go.Proofs.Try

def LineP (l : List Int) (n : Nat) : Prop := (∀ v ∈ l, 0 ≤ v ∧ v < n) ∧ l.Pairwise (· ≠ ·) ∧ l.length = n

theorem c36 {h : H} {p : Option Addr} {m c n : Nat} {l : List Int} (hl : IntsAt h p m l) (hm : SzI l.length) (hn : n ≤ 1000000) {R : Value → H → Prop} (k : ∀ q h', Ext h h' → (q = true ↔ LineP l n) → R (.bool q) h') :
    HC Tryd.prog 36 [.slice p m c, .int .i64 n] h R := by
  have hll := hl.len
  unfold SzI at hm
  apply hc36; unfold sh36
  refine ⟨by omega, by omega, by omega, fun b h1 hN => ?_⟩
  have hnt : ((n : Int)).toNat = n := by omega
  rw [hnt] at hN ⊢
  have w := Own.ofRep (g := Value.bool) (x := false) hN
  have hb := hN.blk
  have ex : ∀ {h'}, Mod (fun c => c = b) h1 h' → Ext h h' := fun md => md.ext hN.ext fun c hc e => by omega
  refine fwd m (fun v h' => Mod (fun c => c = b) h1 h' ∧ (∀ x ∈ l.take v.toNat, 0 ≤ x ∧ x < n) ∧ (l.take v.toNat).Pairwise (· ≠ ·) ∧ ∃ s, OwnB h' (some ⟨b, 0, none⟩) b s ∧ s.length = n ∧ ∀ j, bit s j ↔ (j < n ∧ (j : Int) ∈ l.take v.toNat)) (by omega) ⟨Mod.refl _ _, by simp, by simp, _, w, by simp, fun j => ?_⟩ fun v h2 v0 v1 ⟨m2, hA, hP, s, ws, hs, hb2⟩ => ⟨fun hlt => ?_, fun hge => ?_⟩
  · refine ⟨fun hj => ?_, fun hj => by simp at hj⟩
    unfold bit at hj; rw [List.getElem?_replicate] at hj; split at hj <;> simp at hj
  · have e2 := ex m2
    obtain ⟨x, b', o', hx, hp, hc⟩ := (hl.ext e2).get v0 (by omega)
    have hmem := List.mem_of_getElem? hx
    refine ⟨v0, by omega, onP_at hp ⟨x, hc, fun x0 => ?_, fun x0 => ⟨v0, by omega, onP_at hp ⟨x, hc, fun x1 => ?_, fun x1 => ⟨v0, by omega, onP_at hp ⟨x, hc, by omega, by omega, ?_⟩⟩⟩⟩⟩⟩
    · exact k _ _ e2 ⟨fun h => by simp at h, fun h => by have := h.1 x hmem; omega⟩
    · exact k _ _ e2 ⟨fun h => by simp at h, fun h => by have := h.1 x hmem; omega⟩
    · obtain ⟨t, ht⟩ : ∃ t, s[x.toNat]? = some t := ⟨s[x.toNat]'(by omega), by simp⟩
      refine ⟨t, (Own.get1 (g := Value.bool) ws ht).2, fun tt => ?_, fun tf => ⟨v0, by omega, onP_at hp ⟨x, hc, by omega, by omega, OwnB.put (p := some ⟨b, 0, none⟩) ws (by omega) fun h3 w3 m3 => ⟨i64ok (by omega) (by omega), fwd_next v0 hlt ⟨m2.trans m3 fun _ _ h => h, ?_, ?_, _, w3, by simp [hs], fun j => ?_⟩⟩⟩⟩⟩
      · refine k _ _ e2 ⟨fun h => by simp at h, fun h => ?_⟩
        subst tt
        obtain ⟨h3, h4⟩ := (hb2 x.toNat).1 ht
        rw [show ((x.toNat : Nat) : Int) = x by omega] at h4
        obtain ⟨i, hi⟩ := List.getElem?_of_mem h4
        obtain ⟨hi1, hi2⟩ := take_get hi
        exact absurd h.2.1 (not_pairwise hi2 hx hi1)
      · rw [show (v + 1).toNat = v.toNat + 1 by omega, take_succ_all hx]; exact ⟨hA, by omega, by omega⟩
      · rw [show (v + 1).toNat = v.toNat + 1 by omega]
        refine pairwise_take_succ hx hP fun y hy e => ?_
        subst e
        have := (hb2 x.toNat).2 ⟨by omega, by rw [show ((x.toNat : Nat) : Int) = x by omega]; exact hy⟩
        unfold bit at this; rw [ht] at this; subst tf; cases this
      · rw [bit_set, hb2, show (v + 1).toNat = v.toNat + 1 by omega, List.take_add_one, hx]
        simp only [Option.toList_some, List.mem_append, List.mem_singleton]
        constructor
        · rintro (⟨e, h3, _⟩ | ⟨_, h3, h4⟩)
          · exact ⟨by omega, .inr (by omega)⟩
          · exact ⟨h3, .inl h4⟩
        · rintro ⟨h3, h4 | h4⟩
          · by_cases e : j = x.toNat
            · exact .inl ⟨e, by omega, by trivial⟩
            · exact .inr ⟨e, h3, h4⟩
          · exact .inl ⟨by omega, by omega, by trivial⟩
  · rw [show v.toNat = l.length by omega, List.take_length] at hA hP
    refine k _ _ (ex m2) ?_
    simp only [decide_eq_true_eq]
    exact ⟨fun h => ⟨hA, hP, by omega⟩, fun h => by have := h.2.2; omega⟩
end Go.Proofs.Try

/- The document's intervals: the places along a line. -/
set_option maxRecDepth 100000
set_option linter.unusedVariables false
set_option linter.unusedSimpArgs false
open Go Go.Fw Go.Proofs
namespace Go.Proofs.Try

def blkAt (f : Fnc) (b : Int) : Blk := (f.blocks[b.toNat]?).getD ⟨[], ⟨0, 0, []⟩⟩
def lineEv (f : Fnc) (A B : Nat → List Bool) (R : Nat) : Int → List Int → List Ev
  | _, [] => []
  | k, b :: bs => blkEv (A b.toNat) (B b.toNat) k (blkAt f b) R ++ lineEv f A B R (k + (((blkAt f b).body.length : Int) + 1)) bs
def lineK (f : Fnc) : Int → List Int → Int
  | k, [] => k
  | k, b :: bs => lineK f (k + (((blkAt f b).body.length : Int) + 1)) bs
theorem lineK_append (f : Fnc) : ∀ (k : Int) (l m : List Int), lineK f k (l ++ m) = lineK f (lineK f k l) m
  | k, [], m => rfl
  | k, b :: l, m => lineK_append f _ l m
theorem lineEv_append (f : Fnc) (A B : Nat → List Bool) (R : Nat) : ∀ (k : Int) (l m : List Int), lineEv f A B R k (l ++ m) = lineEv f A B R k l ++ lineEv f A B R (lineK f k l) m
  | k, [], m => rfl
  | k, b :: l, m => by simp only [List.cons_append, lineEv, lineK, List.append_assoc]; rw [lineEv_append f A B R _ l m]
def initL (R : Nat) : List Itv := (List.range R).map fun r : Nat => ⟨(r : Int), -1, -1⟩
theorem initL_succ (R : Nat) : initL (R + 1) = initL R ++ [⟨R, -1, -1⟩] := by unfold initL; rw [List.range_succ, List.map_append]; rfl
def parEv (f : Fnc) : List Ev := f.params.map fun p => (p, 0)
/-- All places. -/
def allEv (f : Fnc) (A B : Nat → List Bool) (line : List Int) : List Ev := parEv f ++ lineEv f A B f.regs.toNat 0 line
/-- By From, then Reg: those that are met. -/
def outL (l : List Itv) (most : Int) : List Itv := (List.range (most + 1).toNat).flatMap fun p : Nat => l.filter fun x => decide (x.frm = (p : Int))

theorem New.rdc1 {h h1 : H} {cs : List Value} {e : TypeId} {fr : Nat × Nat} {b k : Nat} (n : New h (.cells ⟨cs⟩ e fr) b h1) (hk : cs.length = k) : rdc h1 (some ⟨b, 0, none⟩) (1 * k) cs := by
  refine ⟨by rw [Nat.one_mul]; exact hk, fun _ => ⟨b, 0, rfl, fun j hj => ?_⟩⟩
  rw [cell_of n.get, Nat.zero_add]

abbrev GrowI := Grow (fun x : Int => [Value.int .i64 x]) 1
/-- A table of rows of numbers that grow, each in a block of its own. -/
structure Gx (hb h : H) (bm : Nat) (T : List (Option Addr × Nat × Nat)) (rows : Nat → List Int) : Prop where
  own : OwnS h (some ⟨bm, 0, none⟩) bm T
  row : ∀ (i : Nat) p n c, T[i]? = some (p, n, c) → GrowI hb h p n c (rows i)
  dis : ∀ (i j : Nat) p n c q m d, T[i]? = some (p, n, c) → T[j]? = some (q, m, d) → i ≠ j → ∀ b, AtP p b → 0 < c → AtP q b → 0 < d → False
  lo : bm < hb.size
  hi : hb.size ≤ h.size
theorem _root_.Go.Fw.Grow.lo {α : Type} {enc : α → List Value} {k : Nat} {h0 h : H} {p : Option Addr} {n c : Nat} {l : List α} (g : Grow enc k h0 h p n c l) {b : Nat} (hp : AtP p b) (hc : 0 < c) : h0.size ≤ b ∧ b < h.size := by
  obtain ⟨b2, e, r, h1, h2, h3, h4⟩ := g.at_ hc
  obtain ⟨o, ho⟩ := hp
  rw [h2] at ho; cases ho
  exact ⟨h1, lt_of h3⟩
theorem Gx.mod {hb h h' : H} {bm : Nat} {T : List (Option Addr × Nat × Nat)} {rows : Nat → List Int} (x : Gx hb h bm T rows) (e : Ext h h') : Gx hb h' bm T rows :=
  ⟨x.own.ext e, fun i p n c hT => (x.row i p n c hT).ext e, x.dis, x.lo, Nat.le_trans x.hi e.size⟩
theorem Gx.app {hb h : H} {bm : Nat} {T : List (Option Addr × Nat × Nat)} {rows : Nat → List Int} (x : Gx hb h bm T rows) {i : Nat} {p : Option Addr} {n c : Nat} (hT : T[i]? = some (p, n, c)) {q : Option Addr} {r : Int} (hq : rdc h q (1 * 1) [.int .i64 r]) (hs : (n + 1) * 8 ≤ 140737488355328)
    {K : Option Addr → Nat → Nat → H → Prop} (hk : ∀ p' c' h7, Mod (fun b => hb.size ≤ b) h h7 → (∀ {K' : H → Prop}, (∀ h8, Gx hb h8 bm (T.set i (p', n + 1, c')) (upd1 rows i (rows i ++ [r])) → Mod (fun b => b = bm ∨ hb.size ≤ b) h h8 → K' h8) → stQ 1 h7 bm (0 + i * 1) [.slice p' (n + 1) c'] K') → K p' (n + 1) c' h7) :
    apQ 3 1 8 [.int .i64 0] h p n c q 1 K := by
  have hil : i < T.length := (List.getElem?_eq_some_iff.1 hT).1
  have g := x.row i p n c hT
  refine Grow.app (enc := fun x : Int => [Value.int .i64 x]) (k := 1) (fun _ => rfl) g x.hi rfl (m := 1) (l' := [r]) rfl hq rfl hs fun p' c' h7 G7 m7 L7 => ?_
  have m7' : Mod (fun b => hb.size ≤ b) h h7 := m7.wid fun b _ ⟨h1, h2⟩ => (g.lo h1 h2).1
  refine hk p' c' h7 m7' fun {K'} hK' => ?_
  have w7 : OwnS h7 (some ⟨bm, 0, none⟩) bm T := x.own.mod m7' (by have := x.lo; omega)
  refine Own.put1 (g := sl3) (x' := (p', n + 1, c')) w7 hil rfl fun h8 w8 m8 => hK' h8 ⟨w8, fun j q2 n2 c2 hj => ?_, fun j j2 q2 n2 c2 q3 n3 c3 hj hj2 hne b => ?_, x.lo, Nat.le_trans (Nat.le_trans x.hi m7.size) m8.size⟩ ((m7'.wid fun b _ hx => Or.inr hx).trans m8 fun b _ hx => Or.inl hx)
  · by_cases hji : j = i
    · subst hji
      rw [List.getElem?_set_self hil] at hj
      cases hj
      rw [upd1_same]
      exact G7.mod m8 fun b hb2 hc e => by have := (G7.lo hb2 hc).1; have := x.lo; omega
    · rw [List.getElem?_set_ne (fun e => hji e.symm)] at hj
      rw [upd1_ne _ _ hji]
      have gj := x.row j _ _ _ hj
      have gj7 := gj.mod m7 fun b hb2 hc ⟨h1, h2⟩ => x.dis i j _ _ _ _ _ _ hT hj (fun e => hji e.symm) b h1 h2 hb2 hc
      exact gj7.mod m8 fun b hb2 hc e => by have := (gj.lo hb2 hc).1; have := x.lo; omega
  · intro a1 a2 a3 a4
    by_cases hji : j = i <;> by_cases hji2 : j2 = i
    · omega
    · subst hji
      rw [List.getElem?_set_self hil] at hj
      rw [List.getElem?_set_ne (fun e => hji2 e.symm)] at hj2
      cases hj
      rcases L7 (by omega) b a1 with ⟨h1, h2⟩ | h1
      · exact x.dis _ _ _ _ _ _ _ _ hT hj2 hne b h1 h2 a3 a4
      · have := ((x.row _ _ _ _ hj2).lo a3 a4).2; omega
    · subst hji2
      rw [List.getElem?_set_self hil] at hj2
      rw [List.getElem?_set_ne (fun e => hji e.symm)] at hj
      cases hj2
      rcases L7 (by omega) b a3 with ⟨h1, h2⟩ | h1
      · exact x.dis _ _ _ _ _ _ _ _ hT hj (fun e => hne e.symm) b h1 h2 a1 a2
      · have := ((x.row _ _ _ _ hj).lo a1 a2).2; omega
    · rw [List.getElem?_set_ne (fun e => hji e.symm)] at hj
      rw [List.getElem?_set_ne (fun e => hji2 e.symm)] at hj2
      exact x.dis _ _ _ _ _ _ _ _ hj hj2 hne b a1 a2 a3 a4

/-- The registers below r whose interval begins at p. -/
def rowsOf (l : List Itv) (r : Nat) (p : Nat) : List Int := ((List.range r).filter fun q => (l[q]?).any fun x => decide (x.frm = (p : Int))).map fun q : Nat => (q : Int)
theorem rowsOf_succ (l : List Itv) (r p : Nat) {x : Itv} (hx : l[r]? = some x) : rowsOf l (r + 1) p = rowsOf l r p ++ (if x.frm = (p : Int) then [(r : Int)] else []) := by
  unfold rowsOf
  rw [List.range_succ, List.filter_append, List.map_append]
  congr 1
  rw [List.filter_cons, hx]
  by_cases h : x.frm = (p : Int) <;> simp [h]
theorem rowsOf_len (l : List Itv) (r p : Nat) : (rowsOf l r p).length ≤ r := by
  unfold rowsOf; rw [List.length_map]; exact Nat.le_trans (List.length_filter_le _ _) (by simp)
theorem rowsOf_get {l : List Itv} : ∀ {r : Nat}, r ≤ l.length → ∀ p : Nat, (rowsOf l r p).map (fun q => l[q.toNat]?) = ((l.take r).filter fun x => decide (x.frm = (p : Int))).map some
  | 0, _, p => by simp [rowsOf]
  | r + 1, hr, p => by
    have hx : l[r]? = some l[r] := by simp
    rw [rowsOf_succ l r p hx, List.map_append, rowsOf_get (by omega) p, List.take_add_one, hx, Option.toList_some, List.filter_append, List.map_append]
    congr 1
    by_cases h : l[r].frm = (p : Int) <;> simp [h]

theorem outL_len (l : List Itv) : ∀ m : Nat, ((List.range m).flatMap fun p : Nat => l.filter fun x => decide (x.frm = (p : Int))).length ≤ l.length := by
  have key : ∀ m : Nat, ((List.range m).flatMap fun p : Nat => l.filter fun x => decide (x.frm = (p : Int))).length = l.countP fun x => decide (0 ≤ x.frm ∧ x.frm < (m : Int)) := by
    intro m
    induction m with
    | zero => exact (List.countP_eq_zero.2 fun x _ h => by simp only [decide_eq_true_eq] at h; omega).symm
    | succ m ih =>
      rw [range_succ_flat, List.length_append, ih, ← List.countP_eq_length_filter]
      clear ih
      induction l with
      | nil => rfl
      | cons x l ih =>
        simp only [List.countP_cons]
        by_cases h1 : x.frm = (m : Int)
        · have a1 : decide (0 ≤ x.frm ∧ x.frm < (m : Int)) = false := by simp; omega
          have a2 : decide (0 ≤ x.frm ∧ x.frm < ((m + 1 : Nat) : Int)) = true := by simp; omega
          rw [a1, a2]; simp only [h1, decide_true, if_true, Bool.false_eq_true, if_false]; omega
        · by_cases h2 : 0 ≤ x.frm ∧ x.frm < (m : Int)
          · have a2 : decide (0 ≤ x.frm ∧ x.frm < ((m + 1 : Nat) : Int)) = true := by simp; omega
            rw [a2]; simp only [h1, h2, decide_true, decide_false, if_true, Bool.false_eq_true, if_false, and_self]; omega
          · have a2 : decide (0 ≤ x.frm ∧ x.frm < ((m + 1 : Nat) : Int)) = false := by simp; omega
            rw [a2]; simp only [h1, h2, decide_false, Bool.false_eq_true, if_false]; omega
  intro m; rw [key]; exact List.countP_le_length

/-- What a function may cost: its size. -/
structure SzR (f : Fnc) : Prop where
  nb : f.blocks.length ≤ 600
  bd : ∀ x ∈ f.blocks, x.body.length ≤ 300000
theorem lineK_le {f : Fnc} (hs : SzR f) : ∀ (l : List Int) (k : Int), lineK f k l ≤ k + 300001 * l.length ∧ k ≤ lineK f k l
  | [], k => by simp [lineK]
  | b :: l, k => by
    have ih := lineK_le hs l (k + (((blkAt f b).body.length : Int) + 1))
    have h1 : (blkAt f b).body.length ≤ 300000 := by
      unfold blkAt
      cases hx : f.blocks[b.toNat]? with
      | none => simp
      | some x => simpa using hs.bd x (List.mem_of_getElem? hx)
    simp only [lineK, List.length_cons]
    omega

/-! ### What intervals are -/
def Ivl (S : Int → Prop) (x : Itv) : Prop := (x.frm = -1 ∧ x.to = -1 ∧ ∀ p, ¬ S p) ∨ (S x.frm ∧ S x.to ∧ ∀ p, S p → x.frm ≤ p ∧ p ≤ x.to)
theorem Ivl.wide {S : Int → Prop} {x : Itv} (h : Ivl S x) (hp : ∀ p, S p → 0 ≤ p) {q : Int} (hq : 0 ≤ q) : Ivl (fun p => S p ∨ p = q) (wideI x q) := by
  rcases h with ⟨h1, h2, h3⟩ | ⟨h1, h2, h3⟩
  · refine .inr ?_
    simp only [wideI, h1, h2]
    rw [if_pos (.inl (by omega)), if_pos (by omega)]
    exact ⟨.inr rfl, .inr rfl, fun p hp => by rcases hp with hp | hp; exact absurd hp (h3 p); omega⟩
  · have := hp _ h1
    refine .inr ?_
    simp only [wideI]
    refine ⟨?_, ?_, fun p hp => ?_⟩
    · split
      · exact .inr rfl
      · exact .inl h1
    · split
      · exact .inr rfl
      · exact .inl h2
    · rcases hp with hp | rfl
      · have := h3 p hp
        constructor <;> split <;> omega
      · constructor <;> split <;> omega
theorem meets_ivl : ∀ (es : List Ev) (l : List Itv) (S : Nat → Int → Prop), (∀ e ∈ es, 0 ≤ e.1 ∧ 0 ≤ e.2) → (∀ (r : Nat) p, S r p → 0 ≤ p) → (∀ (r : Nat) x, l[r]? = some x → x.reg = (r : Int) ∧ Ivl (S r) x) →
    ∀ (r : Nat) x, (meets l es)[r]? = some x → x.reg = (r : Int) ∧ Ivl (fun p => S r p ∨ ((r : Int), p) ∈ es) x
  | [], l, S, _, _, hl, r, x, hx => by
    have := hl r x hx
    refine ⟨this.1, ?_⟩
    have e : (fun p => S r p ∨ ((r : Int), p) ∈ ([] : List Ev)) = S r := by funext p; simp
    rw [e]; exact this.2
  | e :: es, l, S, hes, hS, hl, r, x, hx => by
    have he := hes e (by simp)
    have ih := meets_ivl es (meetE l e) (fun r p => S r p ∨ ((r : Int), p) = e) (fun e' h => hes e' (by simp [h])) (fun r p h => by
      rcases h with h | h
      · exact hS r p h
      · have : p = e.2 := by rw [← h]
        omega) (fun r x hx => ?_) r x hx
    · refine ⟨ih.1, ?_⟩
      have e1 : (fun p => S r p ∨ ((r : Int), p) ∈ e :: es) = (fun p => (S r p ∨ ((r : Int), p) = e) ∨ ((r : Int), p) ∈ es) := by funext p; simp only [List.mem_cons, or_assoc]
      rw [e1]; exact ih.2
    · unfold meetE at hx
      split at hx
      · rename_i y hy
        by_cases hr : r = e.1.toNat
        · subst hr
          have hlt : e.1.toNat < l.length := (List.getElem?_eq_some_iff.1 hy).1
          rw [List.getElem?_set_self hlt] at hx
          cases hx
          obtain ⟨h1, h2⟩ := hl _ _ hy
          refine ⟨h1, ?_⟩
          have e2 : (fun p => S e.1.toNat p ∨ ((e.1.toNat : Int), p) = e) = (fun p => S e.1.toNat p ∨ p = e.2) := by
            funext p
            rw [show ((e.1.toNat : Nat) : Int) = e.1 by omega]
            congr 1
            exact propext ⟨fun h => by rw [← h], fun h => by rw [h]⟩
          rw [e2]
          exact h2.wide (hS _) he.2
        · rw [List.getElem?_set_ne (fun h => hr h.symm)] at hx
          obtain ⟨h1, h2⟩ := hl _ _ hx
          refine ⟨h1, ?_⟩
          have e2 : (fun p => S r p ∨ ((r : Int), p) = e) = S r := by
            funext p
            refine propext ⟨fun h => ?_, .inl⟩
            rcases h with h | h
            · exact h
            · exfalso; apply hr; rw [← h]; simp
          rw [e2]; exact h2
      · rename_i hn
        obtain ⟨h1, h2⟩ := hl _ _ hx
        refine ⟨h1, ?_⟩
        have e2 : (fun p => S r p ∨ ((r : Int), p) = e) = S r := by
          funext p
          refine propext ⟨fun h => ?_, .inl⟩
          rcases h with h | h
          · exact h
          · exfalso; rw [← h] at hn; simp only [Int.toNat_natCast] at hn; rw [hx] at hn; cases hn
        rw [e2]; exact h2
theorem initL_get {R r : Nat} {x : Itv} (hx : (initL R)[r]? = some x) : x = ⟨r, -1, -1⟩ := by
  unfold initL at hx
  rw [List.getElem?_map] at hx
  cases hr : (List.range R)[r]? with
  | none => rw [hr] at hx; cases hx
  | some q =>
    rw [hr] at hx
    have : q = r := by
      obtain ⟨h1, h2⟩ := List.getElem?_eq_some_iff.1 hr
      rw [← h2]; simp
    subst this
    exact (Option.some.inj hx).symm
/-- Each register's interval, of all that is met. -/
theorem meets_init {R : Nat} {es : List Ev} (hes : ∀ e ∈ es, 0 ≤ e.1 ∧ 0 ≤ e.2) {r : Nat} {x : Itv} (hx : (meets (initL R) es)[r]? = some x) : x.reg = (r : Int) ∧ Ivl (fun p => ((r : Int), p) ∈ es) x := by
  have := meets_ivl es (initL R) (fun _ _ => False) hes (fun _ _ h => h.elim) (fun r x hx => by rw [initL_get hx]; exact ⟨rfl, .inl ⟨rfl, rfl, fun _ h => h⟩⟩) r x hx
  simpa using this

/-! ### Where events lie -/
theorem insEv_mem {f : Fnc} {x : Ins} (h : InsP f x) {k : Int} {e : Ev} (he : e ∈ insEv k x) : RegP f e.1 ∧ 2 * (k + 1) ≤ e.2 ∧ e.2 ≤ 2 * (k + 1) + 1 := by
  unfold insEv at he
  rcases List.mem_append.1 he with he | he
  · obtain ⟨a, ha, rfl⟩ := List.mem_map.1 he
    exact ⟨h.1 a ha, Int.le_refl _, by show 2 * (k + 1) ≤ 2 * (k + 1) + 1; omega⟩
  · split at he
    · rename_i hd
      rw [List.mem_singleton] at he; subst he
      refine ⟨?_, by simp; omega, by simp⟩
      rcases insP_dst h with h | h
      · omega
      · exact h
    · cases he
theorem bodyEv_mem {f : Fnc} : ∀ {l : List Ins} {k : Int} {e : Ev}, (∀ x ∈ l, InsP f x) → e ∈ bodyEv k l → RegP f e.1 ∧ 2 * (k + 1) ≤ e.2 ∧ e.2 ≤ 2 * (k + l.length) + 1
  | [], k, e, _, he => by cases he
  | x :: l, k, e, h, he => by
    rcases List.mem_append.1 he with he | he
    · have := insEv_mem (h x (by simp)) he
      refine ⟨this.1, this.2.1, ?_⟩
      have := this.2.2
      simp only [List.length_cons]; omega
    · have := bodyEv_mem (fun y hy => h y (by simp [hy])) he
      refine ⟨this.1, by omega, ?_⟩
      have := this.2.2
      simp only [List.length_cons]; omega
theorem blkEv_mem {f : Fnc} {x : Blk} (h : ∀ y ∈ x.body, InsP f y) (hv : x.term.value = -1 ∨ RegP f x.term.value) {A B : List Bool} {k : Int} {R : Nat} (hR : (R : Int) = f.regs) {e : Ev} (he : e ∈ blkEv A B k x R) : RegP f e.1 ∧ 2 * (k + 1) ≤ e.2 ∧ e.2 ≤ 2 * (k + (x.body.length + 1)) + 1 := by
  unfold blkEv at he
  rcases List.mem_append.1 he with he | he
  · rcases List.mem_append.1 he with he | he
    · obtain ⟨r, hr, he⟩ := List.mem_flatMap.1 he
      have hr2 : r < R := List.mem_range.1 hr
      unfold rowEv at he
      rcases List.mem_append.1 he with he | he <;> split at he
      · rw [List.mem_singleton] at he; subst he; exact ⟨⟨by simp, by simp; omega⟩, by simp, by simp; omega⟩
      · cases he
      · rw [List.mem_singleton] at he; subst he; exact ⟨⟨by simp, by simp; omega⟩, by simp; omega, by simp; omega⟩
      · cases he
    · have := bodyEv_mem h he
      exact ⟨this.1, this.2.1, by omega⟩
  · unfold termEv at he
    split at he
    · rw [List.mem_singleton] at he; subst he
      rcases hv with h | h
      · omega
      · exact ⟨h, by simp; omega, by simp; omega⟩
    · cases he
theorem lineEv_mem {f : Fnc} (hs : SzR f) (hP : FncP f) {A B : Nat → List Bool} {R : Nat} (hR : (R : Int) = f.regs) : ∀ {l : List Int} {k : Int} {e : Ev}, (∀ v ∈ l, 0 ≤ v ∧ v < f.blocks.length) → 0 ≤ k → e ∈ lineEv f A B R k l → RegP f e.1 ∧ 0 ≤ e.2 ∧ e.2 ≤ 2 * lineK f k l + 1
  | [], k, e, _, _, he => by cases he
  | b :: l, k, e, h, hk, he => by
    have hle := (lineK_le hs l (k + (((blkAt f b).body.length : Int) + 1))).2
    rcases List.mem_append.1 he with he | he
    · obtain ⟨x, hx⟩ : ∃ x, f.blocks[b.toNat]? = some x := ⟨f.blocks[b.toNat]'(by have := h b (by simp); omega), by simp⟩
      have hxe : blkAt f b = x := by unfold blkAt; rw [hx]; rfl
      rw [hxe] at he
      have hb := hP.2.2.2 x (List.mem_of_getElem? hx)
      have := blkEv_mem hb.1 (trmP_val hb.2) hR he
      simp only [lineK]
      rw [hxe] at hle ⊢
      exact ⟨this.1, by omega, by omega⟩
    · have := lineEv_mem (l := l) (k := k + (((blkAt f b).body.length : Int) + 1)) hs hP hR (fun v hv => h v (by simp [hv])) (by omega) he
      exact this
theorem allEv_mem {f : Fnc} (hs : SzR f) (hP : FncP f) {A B : Nat → List Bool} {line : List Int} (hL : ∀ v ∈ line, 0 ≤ v ∧ v < f.blocks.length) {e : Ev} (he : e ∈ allEv f A B line) : RegP f e.1 ∧ 0 ≤ e.2 ∧ e.2 ≤ 2 * lineK f 0 line + 1 := by
  have hr := hP.1.1
  have hk := (lineK_le hs line 0).2
  unfold allEv at he
  rcases List.mem_append.1 he with he | he
  · obtain ⟨p, hp, rfl⟩ := List.mem_map.1 he
    exact ⟨hP.2.1 p hp, Int.le_refl _, by show (0 : Int) ≤ _; omega⟩
  · exact lineEv_mem hs hP (by omega) hL (Int.le_refl _) he

set_option maxHeartbeats 4000000 in
theorem c11 {h : H} {f : Fnc} {fp : Option Addr} {fn fc : Nat} {fq : Option Addr} {fm fd : Nat} {lp : Option Addr} {lm lc : Nat} {line : List Int} {R : Value → H → Prop} (hF : FncD h (fv f fp fn fc fq fm fd) f) (hz : SzF f) (hs : SzR f) (hl : IntsAt h lp lm line) (hzl : SzI line.length)
    (k1 : ¬ FncP f → ∀ h', Ext h h' → R (.tuple ⟨[.slice none 0 0, .int .i64 140]⟩) h')
    (k2 : FncP f → ¬ LineP line f.blocks.length → ∀ h', Ext h h' → R (.tuple ⟨[.slice none 0 0, .int .i64 170]⟩) h')
    (k3 : FncP f → LineP line f.blocks.length → ∀ A B p n c h', Fin f A B → SzA f.regs.toNat f.blocks.length A → SzA f.regs.toNat f.blocks.length B → SlAt ive 3 h' p n (outL (meets (initL f.regs.toNat) (allEv f A B line)) (2 * lineK f 0 line + 1)) → Ext h h' → R (.tuple ⟨[.slice p n c, .int .i64 0]⟩) h') :
    HC Tryd.prog 11 [.agg ⟨fv f fp fn fc fq fm fd⟩, .slice lp lm lc] h R := by
  have hF0 := hF
  obtain ⟨_, _, _, _, _, _, he, hps, hpc, hbs, hbc⟩ := hF
  cases he
  have hbl := hbs.len
  have hnb := hs.nb
  apply hc11; unfold sh11; intro bf h1 hN
  have e0 := hN.ext
  have g := hN.keep
  have r1 := @Ext.rfl' h1
  refine ⟨_, g _ r1 0 _ rfl, _, _, _, g _ r1 1 _ rfl, _, g _ r1 2 _ rfl, _, g _ r1 3 _ rfl, _, _, _, g _ r1 4 _ rfl, ?_⟩
  refine c15 (hF0.ext e0) hz fun q h2 e2 hq => ⟨q, rfl, fun hf => k1 (fun hP => ?_) _ (e0.trans e2), fun ht => ?_⟩
  · have := hq.2 hP; simp [this] at hf
  have hP := hq.1 (by simpa using ht)
  refine ⟨_, _, _, g _ e2 4 _ rfl, ?_⟩
  refine c36 (n := fm) (hl.ext (e0.trans e2)) hzl (by omega) fun q h3 e3 hq2 => ⟨q, rfl, fun hf => k2 hP (fun hL => ?_) _ ((e0.trans e2).trans e3), fun ht2 => ?_⟩
  · have := hq2.2 (hbl ▸ hL); simp [this] at hf
  have hL := hq2.1 (by simpa using ht2)
  have e13 := e2.trans e3
  refine ⟨_, g _ e13 0 _ rfl, _, _, _, g _ e13 1 _ rfl, _, g _ e13 2 _ rfl, _, g _ e13 3 _ rfl, _, _, _, g _ e13 4 _ rfl, ?_⟩
  refine c37 (hF0.ext (e0.trans e13)) hz hP (by omega) fun base bA bB h4 L M a b A B hbA hbB S4 F4 e4 => ⟨_, _, _, _, _, _, rfl, ?_⟩
  have e14 := e13.trans e4
  have hreg : 0 ≤ f.regs ∧ f.regs ≤ 262144 := ⟨hP.1.1, hP.1.2.1⟩
  have hRn : ((f.regs.toNat : Nat) : Int) = f.regs := by omega
  have hZ : SzA f.regs.toNat f.blocks.length A ∧ SzA f.regs.toNat f.blocks.length B := ⟨fun i hi => S4.lenA (by omega), fun i hi => S4.lenB (by omega)⟩
  generalize hR : f.regs.toNat = Rg at S4 hRn hZ
  -- the intervals are laid
  refine ⟨fun p n c r => (fun h' => 0 ≤ r ∧ r ≤ Rg ∧ (n : Int) = r ∧ Ext h4 h' ∧ Grow ive 3 h4 h' p n c (initL r.toNat), fun _ => (Rg - r).toNat), ⟨by omega, by omega, rfl, Ext.rfl', Grow.nil _ _ _ _ _⟩, ?_⟩
  rintro p n c r h5 ⟨r0, r1, hnr, e5, G5⟩
  refine ⟨_, g _ (e14.trans e5) 2 _ rfl, fun hlt => ⟨rfl, by omega, rfl, by omega, rfl, by omega, rfl, by omega, fun bv h6 hN6 => ?_⟩, fun hge => ?_⟩
  · refine Grow.app (enc := ive) (k := 3) (fun _ => rfl) (G5.ext hN6.ext) ((e5.trans hN6.ext).size) rfl (m := 1) (l' := [⟨r, -1, -1⟩]) rfl (New.rdc1 hN6 rfl) rfl (by omega) fun p' c' h7 G7 m7 _ => ?_
    refine ⟨i64ok (by omega) (by omega), ⟨by omega, by omega, by omega, m7.ext (e5.trans hN6.ext) fun b' hb' ⟨⟨o, ho⟩, hc0⟩ => ?_, ?_⟩, ?_⟩
    · obtain ⟨b2, _, _, q1, q2, _⟩ := G5.at_ hc0
      rw [q2] at ho; cases ho; omega
    · rw [show (r + 1).toNat = r.toNat + 1 by omega, initL_succ, show ((r.toNat : Nat) : Int) = r by omega]; exact G7
    · show (Rg - (r + 1)).toNat < (Rg - r).toNat; omega
  have hrR : r.toNat = Rg := by omega
  rw [hrR] at G5
  have hnR : Rg = n := by omega
  subst hnR
  obtain ⟨bl, w5, hbl5⟩ := G5.own
  have hlen : ∀ es, (meets (initL Rg) es).length = Rg := fun es => by rw [meets_len]; exact G5.len
  have hS0 : ∀ c, c < h4.size → ¬ SB bl (initL Rg) c := fun c hc ⟨q1, q2⟩ => by have := hbl5 q2; omega
  have ex : ∀ {h'}, Mod (SB bl (initL Rg)) h5 h' → Ext h4 h' := fun m => m.ext e5 hS0
  have wid : ∀ {es : List Ev} {h' h'' : H}, Mod (SB bl (initL Rg)) h5 h' → Mod (fun c => c = bl ∧ meets (initL Rg) es ≠ []) h' h'' → Mod (SB bl (initL Rg)) h5 h'' := fun {es h' h''} m m' => m.trans m' fun c _ hc => (SB_len (meets_len es _)).1 hc
  have hbk : ∀ es, meets (initL Rg) es ≠ [] → h4.size ≤ bl := fun es hne => hbl5 fun e => hne (List.length_eq_zero_iff.1 (by rw [meets_len, e]; rfl))
  refine fwd fn (fun v h' => OwnV h' p bl (meets (initL Rg) ((f.params.take v.toNat).map fun p => (p, 0))) ∧ Mod (SB bl (initL Rg)) h5 h') (by omega) ⟨by simpa [meets] using w5, Mod.refl _ _⟩ fun v h8 v0 v1 ⟨w8, m8⟩ => ?_
  have e8 := e14.trans (ex m8)
  refine ⟨_, _, _, g _ e8 1 _ rfl, fun hlt => ⟨_, _, _, g _ e8 1 _ rfl, v0, hlt, ?_⟩, fun hge => ?_⟩
  · obtain ⟨y, b3, o3, hy, hp3, hc3⟩ := (hps.ext (e0.trans e8)).get v0 hlt
    have hRy := hP.2.1 y (List.mem_of_getElem? hy)
    unfold RegP at hRy
    refine onP_at hp3 ⟨y, hc3, c38 w8 (hlen _) hRy.1 (by omega) fun h9 w9 m9 => ⟨rfl, i64ok (by omega) (by have := hz.1; have := hps.len; unfold SzI at *; omega), fwd_next v0 hlt ⟨?_, wid m8 m9⟩⟩⟩
    rw [show (v + 1).toNat = v.toNat + 1 by omega, List.take_add_one, hy, Option.toList_some, List.map_append, meets_append]
    exact w9
  rw [show v.toNat = f.params.length by have := hps.len; omega, List.take_length] at w8
  have hll := hl.len
  have hLn := hL.2.2
  refine ⟨fun k1 most i => (fun h' => 0 ≤ i ∧ i ≤ lm ∧ k1 = lineK f 0 (line.take i.toNat) ∧ most = (if i = 0 then 0 else 2 * k1 + 1) ∧ OwnV h' p bl (meets (initL Rg) (parEv f ++ lineEv f A B Rg 0 (line.take i.toNat))) ∧ Mod (SB bl (initL Rg)) h5 h', fun _ => (lm - i).toNat), ⟨by omega, by omega, rfl, rfl, by simpa [lineEv, parEv] using w8, m8⟩, ?_⟩
  rintro k1 most i h10 ⟨i0, i1, rfl, rfl, w10, m10⟩
  have hkb := lineK_le hs (line.take i.toNat) 0
  rw [List.length_take] at hkb
  refine ⟨fun hlt => ⟨i0, hlt, ?_⟩, fun hge => ?_⟩
  · obtain ⟨y, b3, o3, hy, hp3, hc3⟩ := hl.get i0 hlt
    have hyb := hL.1 y (List.mem_of_getElem? hy)
    have e10 := e14.trans (ex m10)
    obtain ⟨x, b', o', hx, hp, vs, ⟨bp, bn, bc, tp, tn, tc, rfl, hbody, hbc2, hto2, htc⟩, hcell⟩ := hbs.get hyb.1 hyb.2
    have hxm := List.mem_of_getElem? hx
    have hxb := hs.bd x hxm
    have hblx := hbody.len
    have hxe : blkAt f y = x := by unfold blkAt; rw [hx]; rfl
    have e010 := e0.trans e10
    refine onP_at hp3 ⟨_, _, _, g _ e10 4 _ rfl, y, e010.cell hc3, hyb.1, hyb.2, onP_at hp ⟨_, _, _, e010.cell (hcell 0 _ rfl), _, e010.cell (hcell 1 _ rfl), _, e010.cell (hcell 2 _ rfl), _, _, _, e010.cell (hcell 3 _ rfl), fun bb h11 hN11 => hN11.st rfl rfl rfl rfl fun h12 e12 gb => ⟨i0, hlt, onP_at hp3 ⟨i0, hlt, onP_at hp3 ⟨_, _, _, gb _ Ext.rfl' 0 _ rfl, _, gb _ Ext.rfl' 1 _ rfl, _, gb _ Ext.rfl' 2 _ rfl, _, _, _, gb _ Ext.rfl' 3 _ rfl, ?_⟩⟩⟩⟩⟩
    have m12 : Mod (SB bl (initL Rg)) h5 h12 := m10.trans e12.mod fun _ _ h => h.elim
    have e412 := ex m12
    obtain ⟨pa, ca, ra1, ra2, ra3, ra4⟩ := S4.mA.row y.toNat (by omega)
    obtain ⟨pb, cb, rb1, rb2, rb3, rb4⟩ := S4.mB.row y.toNat (by omega)
    have e0_12 := e010.trans e12
    have cont : ∀ h13, Ext h4 h13 → OwnV h13 p bl (meets (meets (initL Rg) (parEv f ++ lineEv f A B Rg 0 (line.take i.toNat))) (blkEv (A y.toNat) (B y.toNat) (lineK f 0 (line.take i.toNat)) x Rg)) → Mod (SB bl (meets (initL Rg) (parEv f ++ lineEv f A B Rg 0 (line.take i.toNat)))) h12 h13 →
        Value.tuple ⟨[]⟩ = .tuple ⟨[]⟩ ∧ ∃ (av : Option Addr) (nv cv : Nat), cell h13 ⟨bb, (0 + 0), none⟩ = some (.slice av nv cv) ∧ InR .i64 ((↑nv : Int) + 1) ∧ InR .i64 (lineK f 0 (line.take i.toNat) + ((↑nv : Int) + 1)) ∧ InR .i64 (2 * (lineK f 0 (line.take i.toNat) + ((↑nv : Int) + 1))) ∧ InR .i64 ((2 * (lineK f 0 (line.take i.toNat) + ((↑nv : Int) + 1))) + 1) ∧ InR .i64 (i + 1) ∧
        (0 ≤ i + 1 ∧ i + 1 ≤ lm ∧ (lineK f 0 (line.take i.toNat) + ((↑nv : Int) + 1)) = lineK f 0 (line.take (i + 1).toNat) ∧ ((2 * (lineK f 0 (line.take i.toNat) + ((↑nv : Int) + 1))) + 1) = (if i + 1 = 0 then 0 else 2 * (lineK f 0 (line.take i.toNat) + ((↑nv : Int) + 1)) + 1) ∧ OwnV h13 p bl (meets (initL Rg) (parEv f ++ lineEv f A B Rg 0 (line.take (i + 1).toNat))) ∧ Mod (SB bl (initL Rg)) h5 h13) ∧ (lm - (i + 1)).toNat < (lm - i).toNat := by
      intro h13 e13' w13 m13
      have hnb : ¬ SB bl (meets (initL Rg) (parEv f ++ lineEv f A B Rg 0 (line.take i.toNat))) bb := fun ⟨q1, q2⟩ => by have := w10.lt q2; have := hN11.blk; omega
      have hk1 : lineK f 0 (line.take (i + 1).toNat) = lineK f 0 (line.take i.toNat) + ((bn : Int) + 1) := by
        rw [show (i + 1).toNat = i.toNat + 1 by omega, List.take_add_one, hy, Option.toList_some, lineK_append]
        simp only [lineK]; rw [hxe, hblx]
      have hkb' : lineK f 0 (line.take i.toNat) ≤ 300001 * 600 := by omega
      refine ⟨rfl, _, _, _, m13.cell (gb _ Ext.rfl' 0 _ rfl) hnb, i64ok (by omega) (by omega), i64ok (by omega) (by omega), i64ok (by omega) (by omega), i64ok (by omega) (by omega), i64ok (by omega) (by omega), ⟨by omega, by omega, hk1.symm, by rw [if_neg (by omega)], ?_, m12.trans m13 fun c _ hc => (SB_len (meets_len _ _)).1 hc⟩, by omega⟩
      rw [show (i + 1).toNat = i.toNat + 1 by omega, List.take_add_one, hy, Option.toList_some, lineEv_append, ← List.append_assoc, meets_append]
      simp only [lineEv, List.append_nil]
      rw [hxe]; exact w13
    have okx := blkOk (hP.2.2.2 x hxm) (hz.2.2 x hxm)
    have hD : BlkD h4 [.slice bp bn bc, .int .i64 x.term.kind, .int .i64 x.term.value, .slice tp tn tc] x := ⟨_, _, _, _, _, _, rfl, hbody.mono (e0.trans e14) fun _ _ _ => InsD.ext (e0.trans e14), hbc2, hto2.ext (e0.trans e14), htc⟩
    have hw12 := w10.ext e12
    have cA := e412.cell (slc S4.mA.own ra1)
    have cB := e412.cell (slc S4.mB.own rb1)
    have cy := e0_12.cell hc3
    refine ⟨⟨y, cy, hyb.1, by omega, onP_at rfl ⟨_, _, _, cA, y, cy, hyb.1, by omega, onP_at rfl ⟨_, _, _, cB, ?_⟩⟩⟩, ⟨y, cy, hyb.1, by omega, onP_at rfl ⟨_, _, _, cB, y, cy, hyb.1, by omega, onP_at rfl ⟨_, _, _, cA, ?_⟩⟩⟩⟩
    · refine c39 (h0 := h4) okx ra2 rb2 ra3 rb3 rfl rfl hRn hreg.2 (hlen _) e412 (hbk _) hw12 hD (by omega) (by omega) (fun h13 e13' w13 m13 => ?_)
      exact cont h13 e13' w13 m13
    · refine c39 (h0 := h4) okx ra2 rb2 ra3 rb3 rfl rfl hRn hreg.2 (hlen _) e412 (hbk _) hw12 hD (by omega) (by omega) (fun h13 e13' w13 m13 => ?_)
      exact cont h13 e13' w13 m13
  · have hil : i = lm := by omega
    subst hil
    rw [show ((lm : Int)).toNat = line.length by omega, List.take_length] at w10 hkb ⊢
    have hne0 : ¬ ((lm : Int) = 0) := by have := hP.1.2.2.2.2.2; omega
    rw [if_neg hne0]
    generalize hK : lineK f 0 line = Kk at k3 w10 hkb ⊢
    generalize hes : meets (initL Rg) (parEv f ++ lineEv f A B Rg 0 line) = lf at w10
    have hlf : lf.length = Rg := by rw [← hes]; exact hlen _
    have hfr : ∀ x ∈ lf, x.frm ≤ 2 * Kk + 1 := by
      intro x hx
      obtain ⟨r, hr⟩ := List.getElem?_of_mem hx
      have hmem : ∀ e ∈ parEv f ++ lineEv f A B Rg 0 line, RegP f e.1 ∧ 0 ≤ e.2 ∧ e.2 ≤ 2 * Kk + 1 := fun e he => by
        have := allEv_mem hs hP (A := A) (B := B) (e := e) (line := line) (fun v hv => hbl ▸ hL.1 v hv) (by unfold allEv; rw [hR]; exact he)
        rw [hK] at this; exact this
      rw [← hes] at hr
      rcases (meets_init (fun e he => ⟨(hmem e he).1.1, (hmem e he).2.1⟩) hr).2 with ⟨h1, _⟩ | ⟨h1, _⟩
      · omega
      · exact (hmem _ h1).2.2
    refine ⟨i64ok (by omega) (by omega), by omega, by omega, by omega, fun bt h15 hN15 => ?_⟩
    have w15 := Own.ofRep (g := sl3) (x := (none, 0, 0)) hN15
    have hbt := hN15.blk
    have hz15 := hN15.size
    have e15 := (ex m10).trans hN15.ext
    have hl15 := w10.ext hN15.ext
    have hblt : lf ≠ [] → bl < h15.size := fun hne => hl15.lt hne
    have hblne : lf ≠ [] → bl ≠ bt := fun hne => by have := w10.lt hne; omega
    refine fwd Rg (fun r h' => Ext h4 h' ∧ OwnV h' p bl lf ∧ ∃ T, T.length = (2 * Kk + 1 + 1).toNat ∧ Gx h15 h' bt T (rowsOf lf r.toNat)) (by omega) ⟨e15, hl15, _, List.length_replicate, ⟨w15, fun i p n c hT => ?_, fun i j p n c q m d hT _ _ b _ hc => ?_, by omega, Nat.le_refl _⟩⟩ fun r h16 r0 r1 ⟨e16, wl, T, hT, GX⟩ => ?_
    · rw [List.getElem?_replicate] at hT; split at hT <;> cases hT
      exact Grow.nil _ _ _ _ _
    · rw [List.getElem?_replicate] at hT; split at hT <;> cases hT
      omega
    have e116 := e14.trans e16
    refine ⟨_, g _ e116 2 _ rfl, fun hlt => ⟨r0, by omega, ?_⟩, fun hge2 => ?_⟩
    · obtain ⟨x, hx⟩ : ∃ x, lf[r.toNat]? = some x := ⟨lf[r.toNat]'(by omega), by simp⟩
      obtain ⟨q0, q1, q2, q3⟩ := wl.cell hx
      have hrs : (r + 1).toNat = r.toNat + 1 := by omega
      have hfun : ∀ p : Nat, ¬ x.frm = (p : Int) → rowsOf lf (r.toNat + 1) p = rowsOf lf r.toNat p := fun p hp => by rw [rowsOf_succ _ _ _ hx, if_neg hp, List.append_nil]
      refine onP_at q0 ⟨_, q2, fun hf0 => ?_, fun hf0 => ⟨i64ok (by omega) (by omega), fwd_next r0 (by omega) ⟨e16, wl, T, hT, ?_⟩⟩⟩
      · have hxf := hfr x (List.mem_of_getElem? hx)
        obtain ⟨⟨tp, tn, tc⟩, hTx⟩ : ∃ y, T[x.frm.toNat]? = some y := ⟨T[x.frm.toNat]'(by omega), by simp⟩
        have hS : ∀ h', Fw.Mod (fun b => h15.size ≤ b) h16 h' → OwnV h' p bl lf ∧ OwnS h' (some ⟨bt, 0, none⟩) bt T := fun h' m => ⟨wl.mod m (by have := hblt (ne_nil hx); omega), GX.own.mod m (by omega)⟩
        have hgl := (GX.row _ _ _ _ hTx).len
        have hrl := rowsOf_len lf r.toNat x.frm.toNat
        refine ⟨fun h' => Fw.Mod (fun b => h15.size ≤ b) h16 h', Mod.refl _ _, r0, by omega, onP_at q0 ⟨r0, by omega, onP_at q0 ⟨_, q2, fun h17 s17 => ⟨_, ((hS h17 s17).1.cell hx).2.2.1, rfl, by simp [Slot.val]⟩, _, q2, fun h18 s18 => ⟨_, ((hS h18 s18).1.cell hx).2.2.1, rfl, by simp [Slot.val]⟩, hf0, by omega, _, _, _, slc GX.own hTx, fun h19 s19 => ⟨_, _, _, slc (hS h19 s19).2 hTx, rfl, by simp [Slot.val]⟩, rfl, by omega, fun bv h20 hN20 => ⟨hN20.mod _, ?_⟩⟩⟩⟩
        refine (GX.mod hN20.ext).app hTx (New.rdc1 hN20 rfl) (by omega) fun p' c' h21 m21 put => ⟨(hN20.mod _).trans m21 fun _ _ h => h, hf0, by omega, put fun h22 GX22 m22 => ⟨i64ok (by omega) (by omega), fwd_next r0 (by omega) ⟨?_, ?_, T.set x.frm.toNat (p', tn + 1, c'), by rw [List.length_set]; exact hT, ?_⟩⟩⟩
        · exact m22.ext (e16.trans hN20.ext) fun c hc h => by have := hN15.ext.size; have := (ex m10).size; omega
        · exact (wl.ext hN20.ext).mod m22 fun h => by have := hblt (ne_nil hx); have := hblne (ne_nil hx); omega
        · have : upd1 (rowsOf lf r.toNat) x.frm.toNat (rowsOf lf r.toNat x.frm.toNat ++ [r]) = rowsOf lf (r + 1).toNat := by
            funext j
            rw [hrs]
            by_cases hj : j = x.frm.toNat
            · subst hj
              rw [upd1_same, rowsOf_succ _ _ _ hx, if_pos (by omega), show ((r.toNat : Nat) : Int) = r by omega]
            · rw [upd1_ne _ _ hj, hfun j (by omega)]
          rw [this] at GX22; exact GX22
      · rw [show rowsOf lf (r + 1).toNat = rowsOf lf r.toNat by funext j; rw [hrs]; exact hfun j (by omega)]; exact GX
    · rw [show r.toNat = Rg by omega] at GX
      have outE : ∀ m : Nat, ((List.range m).flatMap fun p : Nat => lf.filter fun x => decide (x.frm = (p : Int))).length ≤ lf.length := outL_len lf
      refine ⟨fun po no co q => (fun h' => 0 ≤ q ∧ q ≤ 2 * Kk + 1 + 1 ∧ Ext h16 h' ∧ Grow ive 3 h16 h' po no co ((List.range q.toNat).flatMap fun p : Nat => lf.filter fun x => decide (x.frm = (p : Int))), fun _ => (2 * Kk + 2 - q).toNat), ⟨by omega, by omega, Ext.rfl', Grow.nil ive 3 h16 h16 none⟩, ?_⟩
      rintro po no co q h23 ⟨q0, q1, e23, G23⟩
      refine ⟨fun hle => ?_, fun hgt => ?_⟩
      · obtain ⟨⟨tp, tn, tc⟩, hTx⟩ : ∃ y, T[q.toNat]? = some y := ⟨T[q.toNat]'(by omega), by simp⟩
        have gr := GX.row _ _ _ _ hTx
        have hgl := gr.len
        have hget := rowsOf_get (l := lf) (r := Rg) (by omega) q.toNat
        rw [List.take_of_length_le (by omega : lf.length ≤ Rg)] at hget
        have hfl : (lf.filter fun x => decide (x.frm = (q.toNat : Int))).length = tn := by
          have := congrArg List.length hget
          simp only [List.length_map] at this; omega
        have hqs : (q + 1).toNat = q.toNat + 1 := by omega
        refine ⟨fun po no co i => (fun h' => 0 ≤ i ∧ i ≤ tn ∧ Ext h16 h' ∧ Grow ive 3 h16 h' po no co (((List.range q.toNat).flatMap fun p : Nat => lf.filter fun x => decide (x.frm = (p : Int))) ++ (lf.filter fun x => decide (x.frm = (q.toNat : Int))).take i.toNat), fun _ => (tn - i).toNat), ⟨by omega, by omega, e23, by simpa using G23⟩, ?_⟩
        rintro po1 no1 co1 i h24 ⟨i0, i1, e24, G24⟩
        refine ⟨q0, by omega, _, _, _, e24.cell (slc GX.own hTx), fun hlt => ⟨q0, by omega, _, _, _, e24.cell (slc GX.own hTx), i0, hlt, ?_⟩, fun hge3 => ⟨i64ok (by omega) (by omega), ⟨by omega, by omega, e24, ?_⟩, ?_⟩⟩
        · obtain ⟨v, b5, o5, hv, hp5, hc5⟩ := SlAt.get ((Grow.sl (enc := fun x : Int => [Value.int .i64 x]) (k := 1) (fun _ => rfl) gr).ext e24) i0 hlt
          have h1 := congrArg (fun l => l[i.toNat]?) hget
          simp only [List.getElem?_map, hv, Option.map_some] at h1
          obtain ⟨x, hxf, hxe⟩ : ∃ x, (lf.filter fun x => decide (x.frm = (q.toNat : Int)))[i.toNat]? = some x ∧ lf[v.toNat]? = some x := by
            cases hc : (lf.filter fun x => decide (x.frm = (q.toNat : Int)))[i.toNat]? with
            | none => rw [hc] at h1; cases h1
            | some x => rw [hc] at h1; exact ⟨x, rfl, by simpa using h1⟩
          have hvr : 0 ≤ v ∧ v < (Rg : Int) := by
            have hm := List.mem_of_getElem? hv
            unfold rowsOf at hm
            obtain ⟨a, ha, rfl⟩ := List.mem_map.1 hm
            have := (List.mem_filter.1 ha).1
            simp at this; omega
          obtain ⟨s0, s1, s2, s3⟩ := OwnV.cell (wl.ext e24) hxe
          refine onP_at hp5 ⟨v, hc5, hvr.1, hvr.2, onP_at s0 ⟨_, s1, _, s2, _, s3, rfl, by omega, fun bv h25 hN25 => ?_⟩⟩
          have hlen2 := G24.len
          rw [List.length_append, List.length_take] at hlen2
          have ho1 := outE (q.toNat + 1)
          rw [range_succ_flat, List.length_append] at ho1
          refine Grow.app (enc := ive) (k := 3) (fun _ => rfl) (G24.ext hN25.ext) ((e24.trans hN25.ext).size) rfl (m := 1) (l' := [x]) rfl (New.rdc1 hN25 rfl) rfl (by omega) fun p' c' h26 G26 m26 _ => ⟨i64ok (by omega) (by omega), ⟨by omega, by omega, m26.ext (e24.trans hN25.ext) fun b' hb' ⟨h1, h2⟩ => by have := ((G24.ext hN25.ext).lo h1 h2).1; omega, ?_⟩, ?_⟩
          · rw [show (i + 1).toNat = i.toNat + 1 by omega, List.take_add_one, hxf, Option.toList_some, ← List.append_assoc]; exact G26
          · show (tn - (i + 1)).toNat < (tn - i).toNat; omega
        · rw [hqs, range_succ_flat]
          rw [show i.toNat = (lf.filter fun x => decide (x.frm = (q.toNat : Int))).length by omega, List.take_length] at G24
          exact G24
        · show (2 * Kk + 2 - (q + 1)).toNat < (2 * Kk + 2 - q).toNat; omega
      · have hq : q = 2 * Kk + 1 + 1 := by omega
        subst hq
        refine k3 hP (hbl ▸ hL) A B _ _ _ _ F4 (by rw [hR]; exact hZ.1) (by rw [hR]; exact hZ.2) ?_ (e0.trans (e116.trans e23))
        have hout : outL (meets (initL Rg) (allEv f A B line)) (2 * Kk + 1) = (List.range (2 * Kk + 1 + 1).toNat).flatMap fun p : Nat => lf.filter fun x => decide (x.frm = (p : Int)) := by
          unfold outL allEv; rw [hR, hes]
        rw [hR, hout]
        exact Grow.sl (enc := ive) (k := 3) (fun _ => rfl) G23
end Go.Proofs.Try
