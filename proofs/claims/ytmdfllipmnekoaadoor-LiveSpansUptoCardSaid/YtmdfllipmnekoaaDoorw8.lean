/-
  A part of the proof of: The statement LiveIntervals (quernlaw17) holds of the given program: for every function of blocks and every line that can be read as data, and laid where the program's own text lays the table math/bits.deBruijn64tab, it returns true, and its input reads as it did.
-/
import Derived.Test.YtmdfllipmnekoaaDoorw7
import Derived.Deep.DeepHandedRow
import Derived.Lib.LaidTab
import Derived.LaidLaws
import Derived.LaidSub
import Derived.ProofKit
import Derived.Below
import Derived.SizedLaws
import Derived.ChangeArms
import Derived.ChangeSlices
import Derived.Test.YtmdfllipmnekoaaDoorRows
import Derived.Deep.DeepLaidRun
import Derived.JoinedOf
import Derived.Carry
set_option maxHeartbeats 1000000

/- live.Live: the lists of what is live ahead of and behind each block. -/
set_option maxRecDepth 100000
set_option linter.unusedVariables false
set_option linter.unusedSimpArgs false
open Go Go.Fw Go.Proofs
namespace Go.Proofs.Try

def ToldP (f : Fnc) (L : Nat → Nat → Prop) (ls : List (List Int)) : Prop := ls.length = f.blocks.length ∧ ∀ (i : Nat) l, ls[i]? = some l → l.length ≤ 320000 ∧ l.Pairwise (· < ·) ∧ ∀ r : Int, r ∈ l ↔ 0 ≤ r ∧ r < f.regs ∧ L i r.toNat
theorem listTo_pw (l : List W) (m : Nat) : (listTo l m).Pairwise (· < ·) ∧ ∀ i ∈ listTo l m, ∃ j : Nat, i = j ∧ inR l j = true := by
  unfold listTo
  refine ⟨?_, fun i hi => ?_⟩
  · rw [List.pairwise_map]
    exact ((List.pairwise_lt_range (n := m)).filter _).imp fun {a b} h => by simpa using h
  · obtain ⟨j, hj, rfl⟩ := List.mem_map.1 hi
    exact ⟨j, rfl, (List.mem_filter.1 hj).2⟩
theorem toldL_pw {f : Fnc} {P : Nat → Prop} {X names : List Int} (nm : NmOk f.regs.toNat P X names) {l : List W} {size : Nat} (hfar : ∀ j, names.length ≤ j → inR l j = false) : (toldL names l size).Pairwise (· < ·) := by
  unfold toldL
  rw [List.pairwise_map]
  obtain ⟨h1, h2⟩ := listTo_pw l (64 * size)
  refine List.Pairwise.imp_of_mem ?_ h1
  intro a b ha hb hab
  obtain ⟨i, rfl, hi⟩ := h2 a ha
  obtain ⟨j, rfl, hj⟩ := h2 b hb
  have li : i < names.length := by
    rcases Nat.lt_or_ge i names.length with h | h
    · exact h
    · rw [hfar i h] at hi; cases hi
  have lj : j < names.length := by
    rcases Nat.lt_or_ge j names.length with h | h
    · exact h
    · rw [hfar j h] at hj; cases hj
  have := List.pairwise_iff_getElem.1 nm.inc i j li lj (by omega)
  unfold nameOf
  simpa [li, lj] using this
theorem told_p {h : H} {bw fb fo : Nat} {f : Fnc} {X names : List Int} {A B : Nat → List W} {size : Nat} (fl : FlowAt h bw fb fo f X names A B size) (hP : FncP f) (hz : SzF f) :
    ToldP f (LA f) ((List.range f.blocks.length).map fun i => toldL names (A i) size) ∧ ToldP f (LB f) ((List.range f.blocks.length).map fun i => toldL names (B i) size) := by
  have hblk : ∀ x ∈ f.blocks, BlkOk f x ∧ ∀ t ∈ x.term.to, 0 ≤ t ∧ t < f.blocks.length := fun x hx => ⟨blkOk (hP.2.2.2 x hx) (hz.2.2 x hx), (hP.2.2.2 x hx).2.1⟩
  have key : ∀ (L : Nat → Nat → Prop) (C : Nat → List W), (∀ i r, L i r → Wnt f r) → (∀ i < f.blocks.length, (C i).length = size ∧ (∀ j, names.length ≤ j → inR (C i) j = false) ∧ ∀ (j : Nat) r, names[j]? = some r → (inR (C i) j = true ↔ L i r.toNat)) →
      ToldP f L ((List.range f.blocks.length).map fun i => toldL names (C i) size) := fun L C hw hC => by
    refine ⟨by simp, fun i l hl => ?_⟩
    rw [List.getElem?_map] at hl
    have hi : i < f.blocks.length := by
      rcases Nat.lt_or_ge i f.blocks.length with h | h
      · exact h
      · rw [List.getElem?_eq_none (by simpa using h)] at hl; cases hl
    rw [List.getElem?_range hi] at hl
    simp at hl; subst hl
    obtain ⟨s1, s2, s3⟩ := hC i hi
    refine ⟨Nat.le_trans (toldL_len _ _ _) (by have := fl.sz; omega), toldL_pw fl.ok s2, fun r => ?_⟩
    rw [toldL_mem fl.ok fl.le s2]
    constructor
    · rintro ⟨j, hj, h⟩
      have := fl.ok.back j r hj
      exact ⟨this.1, by omega, (s3 j r hj).1 h⟩
    · rintro ⟨r0, r1, hLA⟩
      have hX : X[r.toNat]? = some (X[r.toNat]'(by rw [fl.ok.len]; omega)) := by simp
      rcases fl.ok.idx _ _ hX with ⟨_, h2⟩ | ⟨_, _, h3⟩
      · exact absurd (hw _ _ hLA) h2
      · rw [show ((r.toNat : Nat) : Int) = r by omega] at h3
        exact ⟨_, h3, (s3 _ r h3).2 hLA⟩
  exact ⟨key _ A (fun i r h => (LA_wnt hblk).1 h) fl.sa, key _ B (fun i r h => (LA_wnt hblk).2 h) fl.sb⟩

def slv (v : Option Addr × Nat × Nat) : List Value := [.slice v.1 v.2.1 v.2.2]
theorem slv1 (v : Option Addr × Nat × Nat) : (slv v).length = 1 := rfl
def LstV (h : H) (v : Option Addr × Nat × Nat) (l : List Int) : Prop := IntsAt h v.1 v.2.1 l
theorem row_of {α β : Type} {enc : α → List Value} {k : Nat} {D : H → α → β → Prop} {D' : H → List Value → β → Prop} {h : H} {p : Option Addr} {n : Nat} {vs : List α} {xs : List β} (s : SlAt enc k h p n vs) (a : All2 (D h) vs xs) (hD : ∀ v x, D h v x → D' h (enc v) x) : RowAt D' k h p n xs := by
  have hl := s.len
  refine ⟨by rw [← a.1]; exact hl, fun h0 => ?_⟩
  obtain ⟨bb, o, hp, hc⟩ := s.at_ h0
  refine ⟨bb, o, hp, fun i x hi => ?_⟩
  obtain ⟨v, hv, dv⟩ := a.get hi
  exact ⟨enc v, hD v x dv, hc i v hv⟩
theorem own_held {h : H} {p : Option Addr} {b n k : Nat} {l : List Int} (w : OwnI h p b l) (hn : l.length = n) (hb : l ≠ [] → k ≤ b) : Held (fun x => x < k) h (fun h => IntsAt h p n l) := by
  intro h' m
  by_cases hl : l = []
  · subst hl; simp at hn; subst hn; exact SlAt.nil _ _ _ _
  · exact Own.sl (enc := fun x : Int => [Value.int .i64 x]) (k := 1) (fun _ => rfl) (w.mod m (by have := hb hl; omega)) hn

theorem _root_.Go.Fw.Grow.put2 {α : Type} {enc : α → List Value} {k : Nat} (hk : ∀ x, (enc x).length = k) {hs h : H} {p : Option Addr} {n c : Nat} {vs : List α} (G : Grow enc k hs h p n c vs) (hsz : hs.size ≤ h.size)
    {e : TypeId} {bytes : Nat} {z : List Value} {q : Option Addr} {v : α} (hz : z.length = k) (hq : Fw.rdc h q (1 * k) (enc v)) (ho : oneA (enc v) = true) (hb : (n + 1) * bytes ≤ 140737488355328) (X : Nat → Prop)
    {K : Option Addr → Nat → Nat → H → Prop} (hK : ∀ p' c' h', Grow enc k hs h' p' (n + 1) c' (vs ++ [v]) → Fw.Mod (fun b => AtP p b ∧ 0 < c) h h' →
      (∀ P, Held (fun b => X b ∨ (AtP p b ∧ 0 < c)) h P → Held (fun b => X b ∨ (AtP p' b ∧ 0 < c')) h' P) → (∀ b, AtP p' b → (AtP p b ∧ 0 < c) ∨ h.size ≤ b) → K p' (n + 1) c' h') : apQ e k bytes z h p n c q 1 K := by
  refine Grow.app hk G hsz (m := 1) (l' := [v]) hz rfl (by simpa [flat] using hq) (by simpa [flat] using ho) hb fun p' c' h' g m l => hK p' c' h' g m (fun P x => ?_) (l (by omega))
  refine x.step (m.wid fun b _ hx => .inr hx) fun b hb hx => ?_
  rcases hx with hx | hx
  · exact .inl hx
  · rcases l (by omega) b hx.1 with y | y
    · exact .inr y
    · omega

set_option maxHeartbeats 1000000 in
theorem c19 {h : H} {f : Fnc} {fp : Option Addr} {fn fc : Nat} {fq : Option Addr} {fm fd : Nat} {R : Value → H → Prop} (ht : TabAt h) (hF : FncD h (fv f fp fn fc fq fm fd) f) (hz : SzF f) (hs : SzR f)
    (k1 : ¬ FncP f → ∀ h', Ext h h' → R (.tuple ⟨[.slice none 0 0, .slice none 0 0, .int .i64 140]⟩) h')
    (k3 : FncP f → ∀ p n c q m d la lb h', Ext h h' → RowAt LstD 1 h' p n la → RowAt LstD 1 h' q m lb → ToldP f (LA f) la → ToldP f (LB f) lb → R (.tuple ⟨[.slice p n c, .slice q m d, .int .i64 0]⟩) h') :
    HC Tryd.prog 19 [.agg ⟨fv f fp fn fc fq fm fd⟩] h R := by
  have hbl : f.blocks.length = fm := by
    obtain ⟨_, _, _, _, _, _, he, hps, hpc, hbs, hbc⟩ := hF
    cases he; exact hbs.len
  have hnb := hs.nb
  apply hc19; unfold sh19; intro bf h1 hN1
  have e1 := hN1.ext
  have hf1 : FncAt h1 bf 0 f := ⟨_, hF.ext e1, fun j v hj => by rw [Nat.zero_add]; exact hN1.keep _ Ext.rfl' j v hj⟩
  refine c25 hf1 hz fun q h2 e2 hq => ⟨q, rfl, fun hqn => ?_, fun hqy => ?_⟩
  · exact k1 (fun hP => by have := hq.2 hP; rw [this] at hqn; simp at hqn) h2 (e1.trans e2)
  have hP : FncP f := hq.1 (by simpa using hqy)
  refine c29 (hf1.ext e2) hP hz hs fun h3 bw X names A B size e3 fl => ⟨_, rfl, ?_⟩
  have e13 := e2.trans e3
  have e03 := e1.trans e13
  refine ⟨_, _, _, hN1.keep _ e13 4 _ rfl, ?_⟩
  obtain ⟨ap, an, ac, a1, a2⟩ := fl.ah
  obtain ⟨bp, bn, bc, b1, b2⟩ := fl.be
  obtain ⟨np, nn, nc, n1, n2⟩ := fl.nm
  obtain ⟨TPa, TPb⟩ := told_p fl hP hz
  have hsz := fl.sz
  have al := a2.len
  have bl := b2.len
  have nl := n2.len
  simp only [List.length_map, List.length_range] at al bl
  generalize hla : ((List.range f.blocks.length).map fun i => toldL names (A i) size) = la at TPa
  generalize hlb : ((List.range f.blocks.length).map fun i => toldL names (B i) size) = lb at TPb
  refine ⟨fun pa na ca pb nb cb i => (fun hh => 0 ≤ i ∧ i ≤ fm ∧ Ext h3 hh ∧ na = i.toNat ∧ nb = i.toNat ∧ ∃ va vb, Grow slv 1 h3 hh pa na ca va ∧ Grow slv 1 h3 hh pb nb cb vb ∧ (∀ b, AtP pa b → 0 < ca → AtP pb b → 0 < cb → False) ∧
      Held (fun b => (AtP pa b ∧ 0 < ca) ∨ (AtP pb b ∧ 0 < cb)) hh (fun h => All2 (LstV h) va (la.take i.toNat) ∧ All2 (LstV h) vb (lb.take i.toNat)), fun _ => ((fm : Int) - i).toNat),
    ⟨by omega, by omega, Ext.rfl', rfl, rfl, [], [], Grow.nil _ _ _ _ _, Grow.nil _ _ _ _ _, fun b _ h => by omega, fun h' m => ⟨All2.nil _, All2.nil _⟩⟩, ?_⟩
  rintro pa na ca pb nb cb i h4 ⟨i0, i1, e4, rfl, rfl, va, vb, Ga, Gb, hdis, HH⟩
  have s4 := e4.size
  refine ⟨fun hlt => ⟨by simp, ?_⟩, fun hge => ?_⟩
  · have iN : i.toNat < f.blocks.length := by omega
    obtain ⟨wa, oa, ba, hwa, hpa, _, ⟨p1, n1', c1, q1, rfl, wA, hlA⟩, hca⟩ := a2.get i0 (by omega)
    obtain rfl : wa = A i.toNat := by rw [List.getElem?_map, List.getElem?_range iN] at hwa; simpa using hwa.symm
    obtain ⟨wb, ob, bb, hwb, hpb, _, ⟨p2, n2', c2, q2, rfl, wB, hlB⟩, hcb⟩ := b2.get i0 (by omega)
    obtain rfl : wb = B i.toNat := by rw [List.getElem?_map, List.getElem?_range iN] at hwb; simpa using hwb.symm
    obtain ⟨sa1, sa2, sa3⟩ := fl.sa _ iN
    obtain ⟨sb1, sb2, sb3⟩ := fl.sb _ iN
    obtain rfl : size = n1' := by omega
    obtain rfl : size = n2' := by omega
    refine ⟨_, _, _, e4.cell a1, i0, by omega, onP_at hpa ⟨_, _, _, e4.cell (hca 0 _ rfl), ?_⟩⟩
    refine c48 (ht.ext (e03.trans e4)) (wA.ext e4) hlA (by omega) (e4.cell n1) (n2.ext e4) (fun j hj => ?_) fun p1' m1 d1 r1 h5 w1 hl1 hb1 e5 => ⟨_, _, _, rfl, rfl, by omega, fun bv h6 hN6 => ?_⟩
    · rcases Nat.lt_or_ge j names.length with h | h
      · omega
      · rw [sa2 j h] at hj; cases hj
    have e46 := e5.trans hN6.ext
    have s46 := e46.size
    have hla_i : la[i.toNat]? = some (toldL names (A i.toNat) size) := by rw [← hla, List.getElem?_map, List.getElem?_range iN]; rfl
    have hlb_i : lb[i.toNat]? = some (toldL names (B i.toNat) size) := by rw [← hlb, List.getElem?_map, List.getElem?_range iN]; rfl
    have hH1 := own_held w1 hl1 hb1
    refine Grow.put2 slv1 (v := (p1', m1, d1)) (Ga.ext e46) (by omega) rfl (rdc_new hN6 rfl) rfl (by omega) (fun b => AtP pb b ∧ 0 < cb) fun pa' ca' h7 Ga7 m7 tr7 L7 => ⟨by simp, ?_⟩
    have HH6 : Held (fun b => (AtP pb b ∧ 0 < cb) ∨ (AtP pa b ∧ 0 < ca)) h6 _ := HH.ext e46 fun b _ hx => hx.symm
    have hH6 : Held (fun b => (AtP pb b ∧ 0 < cb) ∨ (AtP pa b ∧ 0 < ca)) h6 _ := hH1.ext hN6.ext fun b _ hx => by
      rcases hx with hx | hx
      · have := (Gb.lo hx.1 hx.2).2; omega
      · have := (Ga.lo hx.1 hx.2).2; omega
    have HH7 := (tr7 _ HH6).and (tr7 _ hH6)
    have e7 : Ext h3 h7 := m7.ext (e4.trans e46) fun b hb hx => by have := (Ga.lo hx.1 hx.2).1; omega
    have s7 := m7.size
    have Gb7 : Grow slv 1 h3 h7 pb i.toNat cb vb := (Gb.ext e46).mod m7 fun b hb hc hx => hdis b hx.1 hx.2 hb hc
    have dis7 : ∀ b, AtP pa' b → 0 < ca' → AtP pb b → 0 < cb → False := fun b h1 h2 h3 h4 => by
      rcases L7 b h1 with h | h
      · exact hdis b h.1 h.2 h3 h4
      · have := (Gb.lo h3 h4).2; omega
    refine onP_at rfl ⟨_, _, _, e7.cell b1, i0, by omega, onP_at hpb ⟨_, _, _, e7.cell (hcb 0 _ rfl), ?_⟩⟩
    refine c48 (ht.ext (e03.trans e7)) (wB.ext e7) hlB (by omega) (e7.cell n1) (n2.ext e7) (fun j hj => ?_) fun p2' m2 d2 r2 h8 w2 hl2 hb2 e8 => ⟨_, _, _, rfl, rfl, by omega, fun bv2 h9 hN9 => ?_⟩
    · rcases Nat.lt_or_ge j names.length with h | h
      · omega
      · rw [sb2 j h] at hj; cases hj
    have e79 := e8.trans hN9.ext
    have s79 := e79.size
    have hH2 := own_held w2 hl2 hb2
    refine Grow.put2 slv1 (v := (p2', m2, d2)) (Gb7.ext e79) (by omega) rfl (rdc_new hN9 rfl) rfl (by omega) (fun b => AtP pa' b ∧ 0 < ca') fun pb' cb' h10 Gb10 m10 tr10 L10 => ⟨i64ok (by omega) (by omega), ?_, ?_⟩
    · have HH9 : Held (fun b => (AtP pa' b ∧ 0 < ca') ∨ (AtP pb b ∧ 0 < cb)) h9 _ := HH7.ext e79 fun b _ hx => hx.symm
      have hH9 : Held (fun b => (AtP pa' b ∧ 0 < ca') ∨ (AtP pb b ∧ 0 < cb)) h9 _ := hH2.ext hN9.ext fun b _ hx => by
        rcases hx with hx | hx
        · have := (Ga7.lo hx.1 hx.2).2; omega
        · have := (Gb7.lo hx.1 hx.2).2; omega
      have HH10 := (tr10 _ HH9).and (tr10 _ hH9)
      refine ⟨by omega, by omega, m10.ext (e7.trans e79) fun b hb hx => by have := (Gb7.lo hx.1 hx.2).1; omega, by omega, by omega, va ++ [(p1', m1, d1)], vb ++ [(p2', m2, d2)], ?_, ?_, fun b h1 h2 h3 h4 => ?_, ?_⟩
      · exact (Ga7.ext e79).mod m10 fun b hb hc hx => dis7 b hb hc hx.1 hx.2
      · exact Gb10
      · rcases L10 b h3 with h | h
        · exact dis7 b h1 h2 h.1 h.2
        · have := (Ga7.lo h1 h2).2; omega
      · rw [show (i + 1).toNat = i.toNat + 1 by omega, List.take_add_one, List.take_add_one, hla_i, hlb_i]
        exact HH10.imp fun h ⟨⟨⟨u1, u2⟩, u3⟩, u4⟩ => ⟨u1.snoc u3, u2.snoc u4⟩
    · show ((fm : Int) - (i + 1)).toNat < ((fm : Int) - i).toNat
      omega
  · have hin : i.toNat = fm := by omega
    obtain ⟨A1, B1⟩ := HH.now
    have t1 : la.take i.toNat = la := List.take_of_length_le (by rw [TPa.1]; omega)
    have t2 : lb.take i.toNat = lb := List.take_of_length_le (by rw [TPb.1]; omega)
    rw [t1] at A1; rw [t2] at B1
    exact k3 hP _ _ _ _ _ _ la lb h4 (e03.trans e4) (row_of (Ga.sl slv1) A1 fun v x hv => ⟨_, _, _, rfl, hv⟩) (row_of (Gb.sl slv1) B1 fun v x hv => ⟨_, _, _, rfl, hv⟩) TPa TPb
end Go.Proofs.Try

/- alive: the law's own example. -/
set_option maxRecDepth 100000
set_option linter.unusedVariables false
set_option linter.unusedSimpArgs false
open Go Go.Fw Go.Proofs
namespace Go.Proofs.Try

def alX0 : Blk := ⟨[⟨1, 1, 7, []⟩], ⟨1, -1, [1]⟩⟩
def alX1 : Blk := ⟨[⟨26, -1, 0, [1]⟩], ⟨3, -1, []⟩⟩
def alF : Fnc := ⟨⟨#[102]⟩, [], 2, 0, [alX0, alX1]⟩
def alA : Nat → List Bool := fun i => if i = 0 then [false, false] else [false, true]
def alB : Nat → List Bool := fun i => if i = 0 then [false, true] else [false, false]
theorem al_P : FncP alF := by
  refine ⟨⟨by decide, by decide, by decide, by decide, by decide, by decide⟩, by simp [alF], by simp [alF], fun b hb => ?_⟩
  simp only [alF, List.mem_cons, List.not_mem_nil, or_false] at hb
  rcases hb with rfl | rfl
  · refine ⟨fun x hx => ?_, ?_, ?_⟩
    · simp only [alX0, List.mem_cons, List.not_mem_nil, or_false] at hx
      subst hx
      exact ⟨by simp, .inr ⟨true, .inl ⟨.inl rfl, rfl, rfl⟩, fun _ => ⟨by decide, by decide⟩, by simp, by simp, by simp⟩⟩
    · simp [alX0, alF]
    · left; simp [alX0]
  · refine ⟨fun x hx => ?_, ?_, ?_⟩
    · simp only [alX1, List.mem_cons, List.not_mem_nil, or_false] at hx
      subst hx
      refine ⟨fun r hr => ?_, .inr ⟨false, ?_, by simp, by simp, by simp, by simp⟩⟩
      · simp at hr; subst hr; exact ⟨by decide, by decide⟩
      · unfold OpR; simp
    · simp [alX1]
    · right; right; left; simp [alX1, alF]
theorem al_zF : SzF alF := by
  refine ⟨by simp [SzI, alF], by simp [SzI, alF], fun b hb => ?_⟩
  simp only [alF, List.mem_cons, List.not_mem_nil, or_false] at hb
  rcases hb with rfl | rfl <;> simp [SzI, alX0, alX1]
theorem al_zR : SzR alF := ⟨by simp [alF], fun b hb => by
  simp only [alF, List.mem_cons, List.not_mem_nil, or_false] at hb
  rcases hb with rfl | rfl <;> simp [alX0, alX1]⟩
theorem al_L : LineP [0, 1] alF.blocks.length := ⟨by simp [alF], by simp, rfl⟩
theorem bit2 {a b : Bool} {r : Nat} : bit [a, b] r ↔ (r = 0 ∧ a = true) ∨ (r = 1 ∧ b = true) := by
  unfold bit
  match r with
  | 0 => simp
  | 1 => simp
  | r + 2 => simp
theorem al_LA1 : LA alF 1 1 := LA_of (x := alX1) (s := [false, false]) rfl rfl (fun r h => by rw [bit2] at h; simp at h) (by show bit [false, true] 1; rw [bit2]; simp)
theorem al_LB0 : LB alF 0 1 := LB_of (x := alX0) (t := 1) rfl (by simp [alX0]) al_LA1
theorem al_sz : SzA alF.regs.toNat alF.blocks.length alA ∧ SzA alF.regs.toNat alF.blocks.length alB := ⟨fun i hi => by unfold alA; split <;> rfl, fun i hi => by unfold alB; split <;> rfl⟩
theorem al_pre : Pre alF alA alB := by
  intro i x hx
  match i, hx with
  | 0, hx =>
    obtain rfl : alX0 = x := by simpa [alF] using hx
    refine ⟨fun t ht => ?_, ?_⟩
    · simp [alX0] at ht; subst ht; exact leL.rfl'
    · exact leL.rfl'
  | 1, hx =>
    obtain rfl : alX1 = x := by simpa [alF] using hx
    exact ⟨fun t ht => by simp [alX1] at ht, leL.rfl'⟩
  | i + 2, hx => simp [alF] at hx
theorem al_fin : Fin alF alA alB := by
  refine ⟨fun i hi r => ⟨fun h => ?_, fun h => h _ _ al_sz.1 al_sz.2 al_pre⟩, fun i hi r => ⟨fun h => ?_, fun h => h _ _ al_sz.1 al_sz.2 al_pre⟩⟩
  · match i, hi with
    | 0, _ => have h : bit [false, false] r := h; rw [bit2] at h; simp at h
    | 1, _ =>
      have h : bit [false, true] r := h
      rw [bit2] at h; simp at h; subst h; exact al_LA1
    | i + 2, hi => simp [alF] at hi; omega
  · match i, hi with
    | 0, _ =>
      have h : bit [false, true] r := h
      rw [bit2] at h; simp at h; subst h; exact al_LB0
    | 1, _ => have h : bit [false, false] r := h; rw [bit2] at h; simp at h
    | i + 2, hi => simp [alF] at hi; omega
theorem al_out : outL (meets (initL alF.regs.toNat) (allEv alF alA alB [0, 1])) (2 * lineK alF 0 [0, 1] + 1) = [⟨1, 3, 6⟩] := by rfl
theorem pw_nil {l : List Int} (h : ∀ r : Int, r ∈ l ↔ False) : l = [] := by
  cases l with
  | nil => rfl
  | cons a l => exact ((h a).1 (by simp)).elim
theorem pw_one {l : List Int} {x : Int} (hp : l.Pairwise (· < ·)) (h : ∀ r : Int, r ∈ l ↔ r = x) : l = [x] := by
  match l, hp, h with
  | [], _, h => exact absurd ((h x).2 rfl) (by simp)
  | [a], _, h => rw [(h a).1 (by simp)]
  | a :: b :: l, hp, h =>
    have h1 := (h a).1 (by simp)
    have h2 := (h b).1 (by simp)
    have := (List.pairwise_cons.1 hp).1 b (by simp)
    omega
theorem told2 {f : Fnc} {L : Nat → Nat → Prop} {ls : List (List Int)} (t : ToldP f L ls) (h2 : f.blocks.length = 2) : ∃ a b, ls = [a, b] := by
  have := t.1
  match ls, this with
  | [a, b], _ => exact ⟨a, b, rfl⟩
  | [], h => simp [h2] at h
  | [a], h => simp [h2] at h
  | a :: b :: c :: l, h => simp [h2] at h
theorem al_la {ls : List (List Int)} (t : ToldP alF (LA alF) ls) : ls = [[], [1]] := by
  obtain ⟨a, b, rfl⟩ := told2 t rfl
  obtain ⟨_, a1, a2⟩ := t.2 0 a rfl
  obtain ⟨_, b1, b2⟩ := t.2 1 b rfl
  rw [pw_nil (l := a) fun r => ?_, pw_one (x := 1) b1 fun r => ?_]
  · rw [b2 r]
    constructor
    · rintro ⟨r0, r1, h⟩
      have h : bit [false, true] r.toNat := (al_fin.a 1 (by simp [alF]) _).2 h
      rw [bit2] at h; simp at h; omega
    · rintro rfl; exact ⟨by decide, by decide, al_LA1⟩
  · rw [a2 r]
    refine ⟨fun ⟨r0, r1, h⟩ => ?_, False.elim⟩
    have h : bit [false, false] r.toNat := (al_fin.a 0 (by simp [alF]) _).2 h
    rw [bit2] at h; simp at h
theorem al_lb {ls : List (List Int)} (t : ToldP alF (LB alF) ls) : ls = [[1], []] := by
  obtain ⟨a, b, rfl⟩ := told2 t rfl
  obtain ⟨_, a1, a2⟩ := t.2 0 a rfl
  obtain ⟨_, b1, b2⟩ := t.2 1 b rfl
  rw [pw_nil (l := b) fun r => ?_, pw_one (x := 1) a1 fun r => ?_]
  · rw [a2 r]
    constructor
    · rintro ⟨r0, r1, h⟩
      have h : bit [false, true] r.toNat := (al_fin.b 0 (by simp [alF]) _).2 h
      rw [bit2] at h; simp at h; omega
    · rintro rfl; exact ⟨by decide, by decide, al_LB0⟩
  · rw [b2 r]
    refine ⟨fun ⟨r0, r1, h⟩ => ?_, False.elim⟩
    have h : bit [false, false] r.toNat := (al_fin.b 1 (by simp [alF]) _).2 h
    rw [bit2] at h; simp at h

theorem row_new2 {α : Type} {D : H → List Value → α → Prop} {h h' : H} {b k : Nat} {v1 v2 cs : List Value} {e : TypeId} {fr : Nat × Nat} {x1 x2 : α} (hN : New h (.cells ⟨cs⟩ e fr) b h') (hcs : cs = v1 ++ v2) (l1 : v1.length = k) (l2 : v2.length = k) (d1 : D h' v1 x1) (d2 : D h' v2 x2) : RowAt D k h' (some ⟨b, 0, none⟩) 2 [x1, x2] := by
  subst hcs
  refine ⟨rfl, fun _ => ⟨b, 0, rfl, fun i y hi => ?_⟩⟩
  match i, hi with
  | 0, hi =>
    simp at hi; subst hi
    exact ⟨v1, d1, fun j v hj => by rw [Nat.zero_mul, Nat.zero_add]; exact hN.cell (by rw [List.getElem?_append_left (List.getElem?_eq_some_iff.1 hj).1]; exact hj)⟩
  | 1, hi =>
    simp at hi; subst hi
    exact ⟨v2, d2, fun j v hj => by rw [Nat.one_mul, Nat.zero_add]; exact hN.cell (by rw [List.getElem?_append_right (by omega), show k + j - v1.length = j by omega]; exact hj)⟩
  | i + 2, hi => simp at hi
theorem ints_new {h h' : H} {b : Nat} {l : List Int} {cs : List Value} {e : TypeId} {fr : Nat × Nat} (hN : New h (.cells ⟨cs⟩ e fr) b h') (hcs : cs = l.map vi) {n : Nat} (hn : l.length = n) : IntsAt h' (some ⟨b, 0, none⟩) n l := by
  subst hcs; subst hn
  refine ⟨rfl, fun _ => ⟨b, 0, rfl, fun i x hi j v hj => ?_⟩⟩
  match j, hj with
  | 0, hj =>
    simp at hj; subst hj
    refine hN.cell ?_
    rw [Nat.zero_add, Nat.mul_one, Nat.add_zero, List.getElem?_map, hi]; rfl
  | j + 1, hj => simp at hj

set_option maxHeartbeats 1000000 in
theorem c6 {h : H} (ht : TabAt h) {R : Value → H → Prop} (k : ∀ h', Ext h h' → R (.bool true) h') : HC Tryd.prog 6 [] h R := by
  apply hc6; unfold sh6
  refine ⟨rfl, by omega, rfl, by omega, rfl, by omega, rfl, by omega, fun b8 h1 N1 => ⟨rfl, by omega, fun b9 h2 N2 => ⟨rfl, by omega, rfl, by omega, rfl, by omega, rfl, by omega, rfl, by omega, rfl, by omega, fun b12 h3 N3 => ⟨rfl, by omega, rfl, by omega, rfl, by omega, rfl, by omega, fun b14 h4 N4 =>
    ⟨rfl, by omega, rfl, by omega, rfl, by omega, rfl, by omega, rfl, by omega, rfl, by omega, fun b17 h5 N5 => ⟨rfl, by omega, rfl, by omega, rfl, by omega, fun bf h6 N6 => st_new N6 rfl (by simp) rfl rfl fun h7 hb7 e57 => ?_⟩⟩⟩⟩⟩⟩
  have e45 := N5.ext
  have e35 := N4.ext.trans e45
  have e25 := N3.ext.trans e35
  have e15 := N2.ext.trans e25
  have e05 := N1.ext.trans e15
  have i1 : RowAt InsD 4 h5 (some ⟨b8, 0, none⟩) 1 [⟨1, 1, 7, []⟩] := (row_new N1 ⟨none, 0, 0, rfl, SlAt.nil _ _ _ _, by omega⟩).mono e15 fun _ _ _ => InsD.ext e15
  have i2 : RowAt InsD 4 h5 (some ⟨b14, 0, none⟩) 1 [⟨26, -1, 0, [1]⟩] := (row_new N4 ⟨some ⟨b12, 0, none⟩, 1, 1, rfl, (ints_new (l := [1]) N3 rfl rfl).ext N4.ext, by omega⟩).mono e45 fun _ _ _ => InsD.ext e45
  have bs : RowAt BlkD 4 h5 (some ⟨b17, 0, none⟩) 2 [alX0, alX1] := row_new2 (v1 := [.slice (some ⟨b8, 0, none⟩) 1 1, .int .i64 1, .int .i64 (-1), .slice (some ⟨b9, 0, none⟩) 1 1]) (v2 := [.slice (some ⟨b14, 0, none⟩) 1 1, .int .i64 3, .int .i64 (-1), .slice none 0 0]) N5 rfl rfl rfl
    ⟨_, _, _, _, _, _, rfl, i1, by omega, (ints_new (l := [1]) N2 rfl rfl).ext e25, by omega⟩ ⟨_, _, _, _, _, _, rfl, i2, by omega, SlAt.nil _ _ _ _, by omega⟩
  have F7 : FncD h7 (fv alF none 0 0 (some ⟨b17, 0, none⟩) 2 2) alF := FncD.ext e57 ⟨_, _, _, _, _, _, rfl, SlAt.nil _ _ _ _, by omega, bs, by omega⟩
  have e07 := e05.trans e57
  have g : ∀ h', Ext h7 h' → ∀ j y, (fv alF none 0 0 (some ⟨b17, 0, none⟩) 2 2)[j]? = some y → cell h' ⟨bf, 0 + j, none⟩ = some y := fun h' e j y hj => e.cell (bcell hb7 (by rw [Nat.zero_add]; exact hj))
  refine ⟨_, g _ Ext.rfl' 0 _ rfl, _, _, _, g _ Ext.rfl' 1 _ rfl, _, g _ Ext.rfl' 2 _ rfl, _, g _ Ext.rfl' 3 _ rfl, _, _, _, g _ Ext.rfl' 4 _ rfl, ?_⟩
  refine c19 (f := alF) (ht.ext e07) F7 al_zF al_zR (fun hn => absurd al_P hn) fun _ p n c q m d la lb h8 e8 ra rb ta tb => ?_
  obtain rfl := al_la ta
  obtain rfl := al_lb tb
  refine ⟨_, _, _, _, _, _, _, rfl, _, g _ e8 0 _ rfl, _, _, _, g _ e8 1 _ rfl, _, g _ e8 2 _ rfl, _, g _ e8 3 _ rfl, _, _, _, g _ e8 4 _ rfl, rfl, by omega, rfl, by omega, fun b27 h9 N9 => ?_⟩
  have e79 := e8.trans N9.ext
  refine c10 (f := alF) (line := [0, 1]) (ht.ext (e07.trans e79)) (F7.ext e79) al_zF al_zR (ints_new N9 rfl rfl) (by omega) (fun hn => absurd al_P hn) (fun _ hn => absurd al_L hn) fun _ _ p10 n10 c10 b10 S h10 w10 hn10 hb10 hS e10 => ?_
  have hS := (hS _ _ al_fin).trans al_out
  subst hS
  refine ⟨_, _, _, _, rfl, fun _ => ⟨fun _ => ⟨rfl, by omega, fun b39 h11 N11 => ⟨rfl, by omega, rfl, by omega, fun b40 h12 N12 => ?_⟩⟩, fun hn => absurd rfl hn⟩, fun hn => absurd rfl hn⟩
  have e8_12 := ((N9.ext.trans e10).trans N11.ext).trans N12.ext
  refine c20 (ra.mono e8_12 fun _ _ _ => LstD.ext e8_12) (row_new2 (v1 := [.slice none 0 0]) (v2 := [.slice (some ⟨b39, 0, none⟩) 1 1]) N12 rfl rfl rfl ⟨_, _, _, rfl, SlAt.nil _ _ _ _⟩ ⟨_, _, _, rfl, (ints_new (l := [1]) N11 rfl rfl).ext N12.ext⟩) (by rw [← ra.len]; simp) (fun x hx => by simp at hx; rcases hx with rfl | rfl <;> simp) ⟨_, rfl, fun _ => ⟨rfl, by omega, fun b45 h14 N14 => ⟨rfl, by omega, rfl, by omega, fun b46 h15 N15 => ?_⟩⟩, fun hn => by simp at hn⟩
  have e8_15 := (e8_12.trans N14.ext).trans N15.ext
  refine c20 (rb.mono e8_15 fun _ _ _ => LstD.ext e8_15) (row_new2 (v1 := [.slice (some ⟨b45, 0, none⟩) 1 1]) (v2 := [.slice none 0 0]) N15 rfl rfl rfl ⟨_, _, _, rfl, (ints_new (l := [1]) N14 rfl rfl).ext N15.ext⟩ ⟨_, _, _, rfl, SlAt.nil _ _ _ _⟩) (by rw [← rb.len]; simp) (fun x hx => by simp at hx; rcases hx with rfl | rfl <;> simp) ⟨_, rfl, fun _ => ⟨rfl, by omega, rfl, by omega, rfl, by omega, rfl, by omega, fun b52 h17 N17 => ?_⟩, fun hn => by simp at hn⟩
  have e10_17 := (((N11.ext.trans N12.ext).trans N14.ext).trans N15.ext).trans N17.ext
  refine c12 (l := [⟨1, 3, 6⟩]) (Own.sl (enc := ive) (k := 3) (fun _ => rfl) (w10.ext e10_17) hn10) ?_ (by rw [← hn10]; simp) ⟨_, rfl, k _ ((((e07.trans e79).trans e10)).trans e10_17)⟩
  exact SlAt.of_block (enc := ive) (k := 3) (fun _ => rfl) (rest := []) (l := [⟨1, 3, 6⟩]) N17.get
end Go.Proofs.Try

/- The law LiveIntervals, over heaps. -/
set_option maxRecDepth 100000
set_option linter.unusedVariables false
set_option linter.unusedSimpArgs false
open Go Go.Fw Go.Proofs
namespace Go.Proofs.Try

/-- What Intervals answers. -/
def Res (f : Fnc) (line : List Int) (g : Int) (S : List Itv) : Prop :=
  (¬ FncP f ∧ g = 140 ∧ S = []) ∨ (FncP f ∧ ¬ LineP line f.blocks.length ∧ g = 170 ∧ S = []) ∨
  (FncP f ∧ LineP line f.blocks.length ∧ g = 0 ∧ ∀ A B, Fin f A B → S = outL (meets (initL f.regs.toNat) (allEv f A B line)) (2 * lineK f 0 line + 1))
def Res1 (f : Fnc) (line : List Int) (g : Int) (S : List Itv) : Prop :=
  (¬ FncP f ∧ g = 140 ∧ S = []) ∨ (FncP f ∧ ¬ LineP line f.blocks.length ∧ g = 170 ∧ S = []) ∨
  (FncP f ∧ LineP line f.blocks.length ∧ g = 0 ∧ ∃ A B, Fin f A B ∧ S = outL (meets (initL f.regs.toNat) (allEv f A B line)) (2 * lineK f 0 line + 1))
theorem Res.same {f : Fnc} {line : List Int} {g g' : Int} {S S' : List Itv} (x : Res f line g S) (y : Res1 f line g' S') : g = g' ∧ S = S' := by
  rcases x with ⟨a, rfl, rfl⟩ | ⟨a, b, rfl, rfl⟩ | ⟨a, b, rfl, c⟩ <;> rcases y with ⟨a', rfl, rfl⟩ | ⟨a', b', rfl, rfl⟩ | ⟨a', b', rfl, A, B, c', rfl⟩
  · exact ⟨rfl, rfl⟩
  · exact absurd a' a
  · exact absurd a' a
  · exact absurd a a'
  · exact ⟨rfl, rfl⟩
  · exact absurd b' b
  · exact absurd a a'
  · exact absurd b b'
  · exact ⟨rfl, c A B c'⟩
theorem Res1.len {f : Fnc} {line : List Int} {g : Int} {S : List Itv} (y : Res1 f line g S) : S.length ≤ 262144 := by
  rcases y with ⟨a', rfl, rfl⟩ | ⟨a', b', rfl, rfl⟩ | ⟨a', b', rfl, A, B, c', rfl⟩
  · simp
  · simp
  · unfold outL
    refine Nat.le_trans (outL_len _ _) ?_
    rw [meets_len]
    unfold initL
    have := a'.1.2.1
    have := a'.1.1
    simp; omega
theorem c10r {h : H} {f : Fnc} {fp : Option Addr} {fn fc : Nat} {fq : Option Addr} {fm fd : Nat} {lp : Option Addr} {lm lc : Nat} {line : List Int} {R : Value → H → Prop} (ht : TabAt h) (hF : FncD h (fv f fp fn fc fq fm fd) f) (hz : SzF f) (hs : SzR f) (hl : IntsAt h lp lm line) (hzl : lm * 8 ≤ 140737488355328)
    (k : ∀ g S p n c h', Res f line g S → SlAt ive 3 h' p n S → Ext h h' → R (.tuple ⟨[.slice p n c, .int .i64 g]⟩) h') : HC Tryd.prog 10 [.agg ⟨fv f fp fn fc fq fm fd⟩, .slice lp lm lc] h R :=
  c10 ht hF hz hs hl hzl (fun hn h' e => k _ [] _ _ _ h' (.inl ⟨hn, rfl, rfl⟩) (SlAt.nil _ _ _ _) e) (fun hp hn h' e => k _ [] _ _ _ h' (.inr (.inl ⟨hp, hn, rfl, rfl⟩)) (SlAt.nil _ _ _ _) e)
    fun hp hL p n c b S h' w hn _ hS e => k _ S _ _ _ h' (.inr (.inr ⟨hp, hL, rfl, hS⟩)) (Own.sl (enc := ive) (k := 3) (fun _ => rfl) w hn) e
theorem c11r {h : H} {f : Fnc} {fp : Option Addr} {fn fc : Nat} {fq : Option Addr} {fm fd : Nat} {lp : Option Addr} {lm lc : Nat} {line : List Int} {R : Value → H → Prop} (hF : FncD h (fv f fp fn fc fq fm fd) f) (hz : SzF f) (hs : SzR f) (hl : IntsAt h lp lm line) (hzl : SzI line.length)
    (k : ∀ g S p n c h', Res1 f line g S → SlAt ive 3 h' p n S → Ext h h' → R (.tuple ⟨[.slice p n c, .int .i64 g]⟩) h') : HC Tryd.prog 11 [.agg ⟨fv f fp fn fc fq fm fd⟩, .slice lp lm lc] h R :=
  c11 hF hz hs hl hzl (fun hn h' e => k _ [] _ _ _ h' (.inl ⟨hn, rfl, rfl⟩) (SlAt.nil _ _ _ _) e) (fun hp hn h' e => k _ [] _ _ _ h' (.inr (.inl ⟨hp, hn, rfl, rfl⟩)) (SlAt.nil _ _ _ _) e)
    fun hp hL A B p n c h' hfin _ _ w e => k _ _ _ _ _ h' (.inr (.inr ⟨hp, hL, rfl, A, B, hfin, rfl⟩)) w e
theorem Small.sz {f : Fnc} (s : Small f) : SzF f ∧ SzR f ∧ SzL f := by
  obtain ⟨a, b, c⟩ := s
  refine ⟨⟨by unfold SzI; omega, by unfold SzI; omega, fun x hx => ?_⟩, ⟨a, fun x hx => (c x hx).2.1⟩, by omega, by omega, fun x hx => ?_⟩
  · obtain ⟨d, e, g⟩ := c x hx
    exact ⟨by unfold SzI; omega, by unfold SzI; omega, fun y hy => by have := g y hy; unfold SzI; omega⟩
  · obtain ⟨d, e, g⟩ := c x hx
    exact ⟨by omega, by omega, fun y hy => by have := g y hy; omega⟩

set_option maxHeartbeats 1000000 in
theorem c3 {h : H} {f : Fnc} {fp : Option Addr} {fn fc : Nat} {fq : Option Addr} {fm fd : Nat} {lp : Option Addr} {lm lc : Nat} {line : List Int} {R : Value → H → Prop} (ht : TabAt h) (hF : FncD h (fv f fp fn fc fq fm fd) f) (hq : SzQ f) (hnm : (f.name.size : Int) ≤ 9223372036854775807) (hl : IntsAt h lp lm line) (hzl : (lm + 2) * 8 ≤ 140737488355328)
    (k : ∀ h', Ext h h' → R (.bool true) h') : HC Tryd.prog 3 [.agg ⟨fv f fp fn fc fq fm fd⟩, .slice lp lm lc] h R := by
  have hll := hl.len
  apply hc3; unfold sh3; intro bf h1 hN1
  have e1 := hN1.ext
  have g := hN1.keep
  refine c6 (ht.ext e1) fun h2 e12 => ⟨_, rfl, ?_⟩
  have e2 := e1.trans e12
  refine ⟨_, g _ e12 (0 + 0) _ rfl, _, _, _, g _ e12 (0 + 1) _ rfl, _, g _ e12 (0 + 2) _ rfl, _, g _ e12 (0 + 3) _ rfl, _, _, _, g _ e12 (0 + 4) _ rfl, ?_⟩
  refine c7 (hF.ext e2) hq hnm fun q h3 e23 hqs => ⟨q, rfl, fun hn => by simp at hn, fun _ => ⟨fun _ => k h3 (e2.trans e23), fun hqt => ?_⟩⟩
  have hS := hqs (by simpa using hqt)
  obtain ⟨z1, z2, z3⟩ := hS.sz
  have e13 := e12.trans e23
  have e3 := e2.trans e23
  refine ⟨_, g _ e13 (0 + 0) _ rfl, _, _, _, g _ e13 (0 + 1) _ rfl, _, g _ e13 (0 + 2) _ rfl, _, g _ e13 (0 + 3) _ rfl, _, _, _, g _ e13 (0 + 4) _ rfl, ?_⟩
  refine c8 (hF.ext e3) z3 fun b p' c' h4 e34 hb hM => ⟨_, rfl, ?_⟩
  have e4 := e3.trans e34
  have e14 := e13.trans e34
  refine c9 (hl.ext e4) hzl fun p2 c2 h5 e45 hR => ⟨_, _, _, rfl, by simp, ?_⟩
  have e5 := e4.trans e45
  have e15 := e14.trans e45
  have hM5 := hM.ext e45
  obtain ⟨v, b2, o2, hv, hp2, hcells⟩ := MRow.get hM5 (i := 0) (by omega) (by omega) (y := f) rfl
  have hvd := hv.d
  have hvf : fenc v = fv f v.p v.n v.c v.q v.m v.d := by
    obtain ⟨g1, g2, g3, g4, g5⟩ := hv
    unfold fenc fv; rw [g1, g3, g4]
  rw [hvf] at hvd hcells
  refine onP_at rfl ⟨_, _, _, e45.cell (bcell (o := (0 + 0) + 0) hb rfl), by omega, by omega, onP_at hp2 ⟨_, hcells 0 _ rfl, _, _, _, hcells 1 _ rfl, _, hcells 2 _ rfl, _, hcells 3 _ rfl, _, _, _, hcells 4 _ rfl, ?_⟩⟩
  refine c10r (ht.ext e5) hvd z1 z2 hR.now.ints (by omega) fun ga S pa na ca h6 hres1 hs1 e56 => ⟨_, _, _, _, rfl, ?_⟩
  have e6 := e5.trans e56
  have e16 := e15.trans e56
  refine ⟨_, g _ e16 (0 + 0) _ rfl, _, _, _, g _ e16 (0 + 1) _ rfl, _, g _ e16 (0 + 2) _ rfl, _, g _ e16 (0 + 3) _ rfl, _, _, _, g _ e16 (0 + 4) _ rfl, ?_⟩
  refine c11r (hF.ext e6) z1 z2 (hl.ext e6) (by unfold SzI; omega) fun gb S' pb nb cb h7 hres2 hs2 e67 => ⟨_, _, _, _, rfl, ?_⟩
  obtain ⟨hg, hSS⟩ := hres1.same hres2
  subst hg; subst hSS
  have hSl := hres2.len
  have e57 := e56.trans e67
  have e7 := e6.trans e67
  refine ⟨fun _ => c12 (hs1.ext e67) hs2 (by rw [← hs1.len]; omega) ⟨_, rfl, fun _ => ?_, fun hn => by simp at hn⟩, fun hn => absurd rfl hn⟩
  have e17 := e16.trans e67
  refine ⟨_, g _ e17 (0 + 0) _ rfl, _, _, _, g _ e17 (0 + 1) _ rfl, _, g _ e17 (0 + 2) _ rfl, _, g _ e17 (0 + 3) _ rfl, _, _, _, g _ e17 (0 + 4) _ rfl, rfl, by omega, fun bv h9 hN9 => ⟨rfl, by omega, ?_⟩⟩
  have e59 := e57.trans hN9.ext
  have e9 := e7.trans hN9.ext
  refine c13 (fs := [f]) ((e45.trans e59).cell (bcell (o := 0) hb rfl)) (hM5.ext e59) (row_new hN9 (hF.ext e9)) (by omega) (fun x hx => by simp at hx; subst hx; exact z3) fun h10 e910 => ⟨_, rfl, fun _ => ?_, fun hn => by simp at hn⟩
  exact c14 (hR.now.ext (e59.trans e910)) (hl.ext (e9.trans e910)) hzl ⟨_, rfl, k _ (e9.trans e910)⟩
end Go.Proofs.Try

/- From the input as it is read to where it lies: slices, structs, functions of blocks. -/
set_option maxRecDepth 100000
set_option linter.unusedVariables false
set_option linter.unusedSimpArgs false
open Go Go.Fw Go.Proofs
namespace Go.Proofs.Try

section
variable {K : Type} {enc : TypeId × Value → K} {P : Program} {W : World} {sp : Nat → Bool} {b : Bool}
def Fits (P : Program) (t : TypeId) (d : DataW K) : Prop := ∀ n ∈ d.weights P t, n ≤ reachBytes
theorem fits_of {t : TypeId} {d : DataW K} (h : (d.weights P t).all (· ≤ reachBytes) = true) : Fits P t d := fun n hn => by simpa using List.all_eq_true.1 h n hn
theorem weights_all {e : TypeId} : ∀ {l : List (DataW K)} {d : DataW K}, d ∈ l → ∀ n ∈ d.weights P e, n ∈ DataW.weightsAll P e l
  | x :: l, d, hd, n, hn => by
    simp only [DataW.weightsAll, List.mem_append]
    rcases List.mem_cons.1 hd with rfl | hd
    · exact .inl hn
    · exact .inr (weights_all hd n hn)
theorem cells_get {base : Nat} {a : Addr} {n : Nat} {cs : List Value} (h : W.cells? base a n = some cs) : cs.length = n ∧ ∀ j v, cs[j]? = some v → W.cell? (a.add j) = some v := by
  unfold World.cells? at h
  split at h
  · have hl := Lib.mapM_length h
    refine ⟨by simpa using hl, fun j v hj => ?_⟩
    have hjn : j < n := by have := (List.getElem?_eq_some_iff.1 hj).1; simp at hl; omega
    obtain ⟨v', h1, h2⟩ := Lib.mapM_at h j j (by simp [hjn])
    rw [hj] at h1; cases h1; exact h2
  · cases h
theorem spot_none {a : Addr} {v : Value} (h : W.cell? a = some v) : a.spot = none := by
  unfold World.cell? at h
  split at h
  · split at h
    · cases h
    · rename_i hs
      cases hx : a.spot with
      | none => rfl
      | some _ => rw [hx] at hs; simp at hs
  · cases h
theorem choose_list {α β : Type} : ∀ (l : List α) {R : Nat → α → β → Prop}, (∀ (i : Nat) x, l[i]? = some x → ∃ y, R i x y) → ∃ ys : List β, ys.length = l.length ∧ ∀ (i : Nat) x y, l[i]? = some x → ys[i]? = some y → R i x y
  | [], R, h => ⟨[], rfl, fun i x y hx => by simp at hx⟩
  | a :: l, R, h => by
    obtain ⟨y, hy⟩ := h 0 a rfl
    obtain ⟨ys, h1, h2⟩ := choose_list l (R := fun i => R (i + 1)) fun i x hx => h (i + 1) x (by simpa using hx)
    refine ⟨y :: ys, by simp [h1], fun i x z hx hz => ?_⟩
    cases i with
    | zero => simp at hx hz; subst hx; subst hz; exact hy
    | succ i => exact h2 i x z (by simpa using hx) (by simpa using hz)
theorem open_sl {α : Type} {D : H → List Value → α → Prop} {Q : α → Prop} {t e : TypeId} {k : Nat} (ht : P.underlying t = some (.slice e)) (hk : P.cellsOf e = k) (h0 : 0 < k)
    (el : ∀ fuel cs x, cs.length = k → DataW.trod enc P W 0 sp b fuel e cs = some x → Fits P e x.1 → ∃ y, D W.heap cs y ∧ Q y)
    {fuel : Nat} {cs : List Value} {x : DataW K × List MemPlace} (h : DataW.trod enc P W 0 sp b fuel t cs = some x) (hw : Fits P t x.1) :
    ∃ p n c xs, cs = [.slice p n c] ∧ n ≤ c ∧ RowAt D k W.heap p n xs ∧ n * P.bytesOf e ≤ reachBytes ∧ ∀ y ∈ xs, Q y := by
  rcases DataW.trod_slice ht h with ⟨rfl, rfl⟩ | ⟨a, len, cap, elems, rest, n, _, rfl, rfl, hb, hl, hm, hlen, hel, _, _⟩
  · exact ⟨none, 0, 0, [], rfl, Nat.le_refl _, RowAt.nil _ _ _ _, by simp, by simp⟩
  · have hwl : ((elems.map (·.1)).length + (rest.map (·.1)).length) * P.bytesOf e ≤ reachBytes := hw _ (by simp [DataW.weights, ht])
    have key : ∀ (i : Nat) z, elems[i]? = some z → ∃ y, (∃ cs', (∀ j v, cs'[j]? = some v → W.cell? ((a.add (i * k)).add j) = some v) ∧ cs'.length = k ∧ D W.heap cs' y) ∧ Q y := fun i z hz => by
      have hi : i < len := by rw [← hlen]; exact (List.getElem?_eq_some_iff.1 hz).1
      have h1 := (hel i hi).trans hz
      obtain ⟨cs', hcs, htr⟩ := Option.bind_eq_some_iff.1 h1
      rw [hk] at hcs
      obtain ⟨l1, l2⟩ := cells_get hcs
      have hmem : z.1 ∈ elems.map (·.1) := List.mem_map.2 ⟨z, List.mem_of_getElem? hz, rfl⟩
      obtain ⟨y, d1, d2⟩ := el n cs' z l1 htr fun m hm' => hw m (by simp only [DataW.weights, ht, List.mem_cons, List.mem_append]; exact .inr (.inl (weights_all hmem m hm')))
      exact ⟨y, ⟨cs', l2, l1, d1⟩, d2⟩
    obtain ⟨xs, hxl, hxs⟩ := choose_list elems key
    refine ⟨some a, len, cap, xs, rfl, hl, ⟨by rw [hxl, hlen], fun hpos => ?_⟩, ?_, fun y hy => ?_⟩
    · have hsp : a.spot = none := by
        obtain ⟨y, hy⟩ : ∃ y, xs[0]? = some y := ⟨xs[0]'(by omega), by simp⟩
        obtain ⟨z, hz⟩ : ∃ z, elems[0]? = some z := ⟨elems[0]'(by omega), by simp⟩
        obtain ⟨⟨cs', l2, l1, _⟩, _⟩ := hxs 0 z y hz hy
        obtain ⟨v, hv⟩ : ∃ v, cs'[0]? = some v := ⟨cs'[0]'(by omega), by simp⟩
        have := spot_none (l2 0 v hv)
        simpa [Addr.add] using this
      obtain ⟨ab, ao, asp⟩ := a
      simp only at hsp; subst hsp
      refine ⟨ab, ao, rfl, fun i y hy => ?_⟩
      obtain ⟨z, hz⟩ : ∃ z, elems[i]? = some z := ⟨elems[i]'(by have := (List.getElem?_eq_some_iff.1 hy).1; omega), by simp⟩
      obtain ⟨⟨cs', l2, l1, d⟩, _⟩ := hxs i z y hz hy
      refine ⟨cs', d, fun j v hj => ?_⟩
      have := l2 j v hj
      have e1 : ((⟨ab, ao, none⟩ : Addr).add (i * k)).add j = ⟨ab, ao + i * k + j, none⟩ := by
        unfold Addr.add
        split <;> split <;> simp_all
      rw [e1] at this
      exact this
    · refine Nat.le_trans (Nat.mul_le_mul_right _ ?_) hwl
      simp; omega
    · obtain ⟨i, hi, rfl⟩ := List.mem_iff_getElem.1 hy
      obtain ⟨z, hz⟩ : ∃ z, elems[i]? = some z := ⟨elems[i]'(by omega), by simp⟩
      exact (hxs i z _ hz (by simp)).2
theorem open_nums {t e : TypeId} (ht : P.underlying t = some (.slice e)) (he : P.underlying e = some (.int .i64)) (hc : P.cellsOf e = 1) (hb : P.bytesOf e = 8)
    {fuel : Nat} {cs : List Value} {x : DataW K × List MemPlace} (h : DataW.trod enc P W 0 sp b fuel t cs = some x) (hw : Fits P t x.1) :
    ∃ p n c l, cs = [.slice p n c] ∧ n ≤ c ∧ IntsAt W.heap p n l ∧ n * 8 ≤ reachBytes := by
  obtain ⟨p, n, c, l, h1, h2, h3, h4, _⟩ := open_sl (α := Int) (D := fun _ cs y => cs = [vi y]) (Q := fun _ => True) ht hc (by omega) (fun fuel cs x hcs hx _ => by
    obtain ⟨m, rfl, _, _⟩ := DataW.trod_int he hx
    exact ⟨m, rfl, trivial⟩) h hw
  rw [hb] at h4
  refine ⟨p, n, c, l, h1, h2, ⟨h3.len, fun hn => ?_⟩, h4⟩
  obtain ⟨bb, o, hp, hcc⟩ := h3.at_ hn
  refine ⟨bb, o, hp, fun i x hi j v hj => ?_⟩
  obtain ⟨vs, rfl, hv⟩ := hcc i x hi
  exact hv j v hj
end
end Go.Proofs.Try

/- The row of LiveIntervals. -/
set_option maxRecDepth 100000
set_option linter.unusedVariables false
set_option linter.unusedSimpArgs false
open Go Go.Fw Go.Proofs
namespace Go.Proofs.Try

section
variable {K : Type} {enc : TypeId × Value → K} {W : World} {sp : Nat → Bool} {b : Bool}
theorem open_part {P : Program} {t : TypeId} {fs : Array Field} (ht : P.underlying t = some (.struct fs)) {fuel : Nat} {cs : List Value} {x : DataW K × List MemPlace} (h : DataW.trod enc P W 0 sp b fuel t cs = some x) (hw : Fits P t x.1) :
    cs.length = P.cellsOf t ∧ ∀ (i : Nat) (ft : TypeId) (off k : Nat), (fs[i]?).map (fun f => (f.type, f.offset)) = some (ft, off) → P.cellsOf ft = k → ∃ n z, DataW.trod enc P W 0 sp b n ft ((cs.drop off).take k) = some z ∧ Fits P ft z.1 := by
  obtain ⟨xs, n, rfl, rfl, hl, hxl, hx⟩ := DataW.trod_struct ht h
  refine ⟨hl, fun i ft off k hf0 hk => ?_⟩
  obtain ⟨f, hf, he⟩ := Option.map_eq_some_iff.1 hf0
  clear hf0
  cases he
  subst hk
  have hi : i < xs.length := by rw [hxl]; exact (Array.getElem?_eq_some_iff.1 hf).1
  refine ⟨n, xs[i], by rw [hx i f hf]; simp, fun m hm => hw m ?_⟩
  simp only [DataW.weights, ht]
  exact DataW.weights_mem_each (j := i) (t := f.type) (d := xs[i].1) (by simp [hf]) (by simp [hi]) m hm
theorem c3_1 : Tryd.prog.cellsOf 3 = 1 := by kernel_rfl
theorem c9_1 : Tryd.prog.cellsOf 9 = 1 := by kernel_rfl
theorem c22_1 : Tryd.prog.cellsOf 22 = 1 := by kernel_rfl
theorem c23_1 : Tryd.prog.cellsOf 23 = 1 := by kernel_rfl
theorem c46_1 : Tryd.prog.cellsOf 46 = 1 := by kernel_rfl
theorem c48_3 : Tryd.prog.cellsOf 48 = 3 := by kernel_rfl
theorem c25_5 : Tryd.prog.cellsOf 25 = 5 := by kernel_rfl
theorem c50_4 : Tryd.prog.cellsOf 50 = 4 := by kernel_rfl
theorem c71_4 : Tryd.prog.cellsOf 71 = 4 := by kernel_rfl
theorem b3_8 : Tryd.prog.bytesOf 3 = 8 := by kernel_rfl
theorem b50_64 : Tryd.prog.bytesOf 50 = 64 := by kernel_rfl
theorem b71_48 : Tryd.prog.bytesOf 71 = 48 := by kernel_rfl
theorem open_ins {fuel : Nat} {cs : List Value} {x : DataW K × List MemPlace} (h : DataW.trod enc Tryd.prog W 0 sp b fuel 71 cs = some x) (hw : Fits Tryd.prog 71 x.1) : ∃ y, InsD W.heap cs y ∧ S44 y.args.length := by
  obtain ⟨hl, hp⟩ := open_part Tryd.underlying71 h hw
  rw [c71_4] at hl
  match cs, hl with
  | [v0, v1, v2, v3], _ =>
    obtain ⟨_, z0, h0, _⟩ := hp 0 3 0 _ rfl c3_1
    obtain ⟨_, z1, h1, _⟩ := hp 1 3 1 _ rfl c3_1
    obtain ⟨_, z2, h2, _⟩ := hp 2 3 2 _ rfl c3_1
    obtain ⟨_, z3, h3, w3⟩ := hp 3 22 3 _ rfl c22_1
    obtain ⟨n0, e0, _⟩ := DataW.trod_int Tryd.underlying3 h0
    obtain ⟨n1, e1, _⟩ := DataW.trod_int Tryd.underlying3 h1
    obtain ⟨n2, e2, _⟩ := DataW.trod_int Tryd.underlying3 h2
    obtain ⟨p, n, c, l, e3, hnc, hi, hb⟩ := open_nums Tryd.underlying22 Tryd.underlying3 c3_1 b3_8 h3 w3
    simp only [List.drop_zero, List.drop_succ_cons, List.take_succ_cons, List.take_zero, List.cons.injEq, and_true] at e0 e1 e2 e3
    subst e0; subst e1; subst e2; subst e3
    exact ⟨⟨n0, n1, n2, l⟩, ⟨p, n, c, rfl, hi, hnc⟩, by have := hi.len; unfold S44 reachBytes at *; simp only at *; omega⟩
theorem open_blk {fuel : Nat} {cs : List Value} {x : DataW K × List MemPlace} (h : DataW.trod enc Tryd.prog W 0 sp b fuel 50 cs = some x) (hw : Fits Tryd.prog 50 x.1) : ∃ y, BlkD W.heap cs y ∧ S44 y.term.to.length ∧ S44 y.body.length ∧ ∀ z ∈ y.body, S44 z.args.length := by
  obtain ⟨hl, hp⟩ := open_part Tryd.underlying50 h hw
  rw [c50_4] at hl
  match cs, hl with
  | [v0, v1, v2, v3], _ =>
    obtain ⟨_, z0, h0, w0⟩ := hp 0 46 0 _ rfl c46_1
    obtain ⟨_, z1, h1, w1⟩ := hp 1 48 1 _ rfl c48_3
    obtain ⟨p, n, c, xs, e0, hnc, hr, hb, hq⟩ := open_sl (D := InsD) (Q := fun y => S44 y.args.length) Tryd.underlying46 c71_4 (by omega) (fun fuel cs x _ hx hf => open_ins hx hf) h0 w0
    obtain ⟨_, hp1⟩ := open_part Tryd.underlying48 h1 w1
    obtain ⟨_, y0, g0, _⟩ := hp1 0 3 0 _ rfl c3_1
    obtain ⟨_, y1, g1, _⟩ := hp1 1 3 1 _ rfl c3_1
    obtain ⟨_, y2, g2, u2⟩ := hp1 2 22 2 _ rfl c22_1
    obtain ⟨n0, e1, _⟩ := DataW.trod_int Tryd.underlying3 g0
    obtain ⟨n1, e2, _⟩ := DataW.trod_int Tryd.underlying3 g1
    obtain ⟨q, m, d, l, e3, hmd, hi, hb2⟩ := open_nums Tryd.underlying22 Tryd.underlying3 c3_1 b3_8 g2 u2
    simp only [List.drop_zero, List.drop_succ_cons, List.take_succ_cons, List.take_zero, List.take_nil, List.cons.injEq, and_true] at e0 e1 e2 e3
    subst e0; subst e1; subst e2; subst e3
    rw [b71_48] at hb
    refine ⟨⟨xs, ⟨n0, n1, l⟩⟩, ⟨p, n, c, q, m, d, rfl, hr, hnc, hi, hmd⟩, ?_, ?_, hq⟩
    · have := hi.len; unfold S44 reachBytes at *; simp only at *; omega
    · have := hr.len; unfold S44 reachBytes at *; simp only at *; omega
theorem open_fnc {fuel : Nat} {cs : List Value} {x : DataW K × List MemPlace} (h : DataW.trod enc Tryd.prog W 0 sp b fuel 25 cs = some x) (hw : Fits Tryd.prog 25 x.1) :
    ∃ f fp fn fc fq fm fd, cs = fv f fp fn fc fq fm fd ∧ FncD W.heap (fv f fp fn fc fq fm fd) f ∧ SzQ f ∧ (f.name.size : Int) ≤ 9223372036854775807 := by
  obtain ⟨hl, hp⟩ := open_part Tryd.underlying25 h hw
  rw [c25_5] at hl
  match cs, hl with
  | [v0, v1, v2, v3, v4], _ =>
    obtain ⟨_, z0, h0, _⟩ := hp 0 9 0 _ rfl c9_1
    obtain ⟨_, z1, h1, w1⟩ := hp 1 22 1 _ rfl c22_1
    obtain ⟨_, z2, h2, _⟩ := hp 2 3 2 _ rfl c3_1
    obtain ⟨_, z3, h3, _⟩ := hp 3 3 3 _ rfl c3_1
    obtain ⟨_, z4, h4, w4⟩ := hp 4 23 4 _ rfl c23_1
    obtain ⟨s, e0, _, hs⟩ := DataW.trod_string Tryd.underlying9 h0
    obtain ⟨p, n, c, l, e1, hnc, hi, hb⟩ := open_nums Tryd.underlying22 Tryd.underlying3 c3_1 b3_8 h1 w1
    obtain ⟨n2, e2, _⟩ := DataW.trod_int Tryd.underlying3 h2
    obtain ⟨n3, e3, _⟩ := DataW.trod_int Tryd.underlying3 h3
    obtain ⟨q, m, d, xs, e4, hmd, hr, hb4, hq⟩ := open_sl (D := BlkD) (Q := fun y => S44 y.term.to.length ∧ S44 y.body.length ∧ ∀ z ∈ y.body, S44 z.args.length) Tryd.underlying23 c50_4 (by omega) (fun fuel cs x _ hx hf => open_blk hx hf) h4 w4
    simp only [List.drop_zero, List.drop_succ_cons, List.take_succ_cons, List.take_zero, List.take_nil, List.cons.injEq, and_true] at e0 e1 e2 e3 e4
    subst e0; subst e1; subst e2; subst e3; subst e4
    rw [b50_64] at hb4
    refine ⟨⟨s, l, n2, n3, xs⟩, p, n, c, q, m, d, rfl, ⟨p, n, c, q, m, d, rfl, hi, hnc, hr, hmd⟩, ⟨?_, ?_, fun y hy => ⟨(hq y hy).1, (hq y hy).2.1, (hq y hy).2.2⟩⟩, ?_⟩
    · have := hi.len; unfold S44 reachBytes at *; simp only at *; omega
    · have := hr.len; unfold S44 reachBytes at *; simp only at *; omega
    · unfold maxLen at hs; simp only; omega
end

/-! ### The table -/
theorem tab_at {W : World} (h : laidMetH Tryd.prog YtmdfllipmnekoaaDoor.Rows.liveIntervalsRow.laid W) : TabAt W.heap := by
  have h' : laidMet Tryd.prog [("math/bits.deBruijn64tab", Lib.tabData .u8 tabL)] W := h
  have t := Lib.tabIs_of_head (show Tryd.prog.globalNamed "math/bits.deBruijn64tab" = some 0 by kernel_rfl) (show (Tryd.prog.globals[0]?).map (·.type) = some 154 by kernel_rfl) Tryd.underlying154 Tryd.underlying5 (by kernel_rfl) (by kernel_rfl) h'
  intro i n hn
  have hi := (List.getElem?_eq_some_iff.1 hn).1
  have := t.cell (show Tryd.prog.globalNamed "math/bits.deBruijn64tab" = some 0 by kernel_rfl) i hi
  have e : tabL.getD i 0 = n := by simp [List.getD, hn]
  rw [e] at this
  exact this
end Go.Proofs.Try

/- The row of LiveIntervals, proved. -/
set_option maxRecDepth 100000
set_option linter.unusedVariables false
set_option linter.unusedSimpArgs false
open Go Go.Fw Go.Proofs
namespace Go.Proofs.Try
open Go.ChangeShapes Go.WideShapes Go.ChangeAt Go.RowKit
namespace Li
open YtmdfllipmnekoaaDoor

theorem own : ownKnob Tryd.prog.godebug = none := by kernel_rfl
theorem laidOut : laidOutB Tryd.prog = true := by kernel_rfl
noncomputable def laidWorld (os : Os) : World :=
  let w0 := World.holding Tryd.prog os ⟨#[], #[], []⟩
  { w0 with heap := w0.heap.modify 0 fun
      | .cells _ t frozen => .cells (tabL.map fun z => Value.int .u8 z).toArray t frozen
      | o => o }
theorem laid_met (os : Os) (args : Array Value) : laidMet Tryd.prog Rows.liveIntervalsRow.laid ((laidWorld os).forCall (fun _ _ => 0) ⟨#[], args, []⟩).memory :=
  laidMet_of_run3 8 (by kernel_rfl) (by kernel_rfl) (by kernel_rfl)
theorem frame {W w' : World} (e : Fw.Ext W.heap w'.heap) (ho : w'.os = W.os) (hu : w'.output = W.output) : Below W.heap.size W { w' with tape := W.tape } :=
  ⟨ho, rfl, hu, e.size, fun k hk => by
    have h1 : W.heap[k]? = some W.heap[k] := by simp [hk]
    rw [h1]; exact e k _ h1⟩
theorem okWide_agg {P : Program} {W : World} {r : Reach} {base : Nat} {t : TypeId} {fs : Array Field} {v : Value} (ht : P.underlying t = some (.struct fs)) (h : Value.okWide P W r base t v) : ∃ cs, v = .agg cs := by
  unfold Value.okWide at h
  rw [ht] at h
  obtain ⟨cs, hc, _⟩ := h
  exact ⟨cs, hc⟩
theorem trodAll_tape {K : Type} {enc : TypeId × Value → K} {P : Program} {W' : World} {tp : Tape} {sp : Nat → Bool} {t : TypeId} {v : Value} {d : DataW K} {p : List MemPlace} (h : DataW.Trod enc P { W' with tape := tp } 0 sp true t v d p) : DataW.Trod enc P W' 0 sp true t v d p := by
  obtain ⟨fuel, hf⟩ := h
  exact ⟨fuel, by rw [← hf]; exact (DataW.trod_heap (w := { W' with tape := tp }) (w' := W') rfl _ _ _).symm⟩

theorem kept_tape {W W' : World} {tp : Tape} {may : MemPlace → Prop} (h : W.keptBut { W' with tape := tp } may) : W.keptBut W' may := by
  unfold World.keptBut at *
  exact h

theorem lifted (os : Os) (started : os.Started) (K : Type) (enc : TypeId × Value → K) :
    ReturnsInHanded {} Tryd.checked os 3 .any ((OpenSpec.ofChange Rows.liveIntervalsSpec).preRow enc Tryd.prog Tryd.f3 Rows.liveIntervalsRow.domain false Rows.liveIntervalsRow.laid) (Rows.liveIntervalsSpec.post enc Tryd.prog Tryd.f3 false true false false) := by
  refine returnsInHanded_of_row (C := Tryd.checked) (s := OpenSpec.ofChange Rows.liveIntervalsSpec) (F := fun _ _ _ => 0) own started (by kernel_rfl) Tryd.func3
    (witness_row_at (enc := enc) (C := Tryd.checked) false (laidWorld os) #[.agg #[.string ByteArray.empty, .slice none 0 0, .int .i64 0, .int .i64 0, .slice none 0 0], .slice none 0 0] rfl (by kernel_rfl) (by kernel_rfl) (by kernel_rfl)
      (OpenSpec.preRow_of_B rfl 8 (by kernel_rfl) (by kernel_rfl) (laid_met os _))) ?_
  intro W base args ds gs before hval0 hW _ _ hsz0 hL _ _
  have hval : ∀ (j : Nat) t v, Tryd.f3.params[j]? = some t → args[j]? = some v → Value.okWide Tryd.prog W .any base t v := hval0
  have hsz : (DataW.weightsEach Tryd.prog (Tryd.f3.params.toList ++ Rows.liveIntervalsSpec.plain.varTypes Tryd.prog) (ds ++ gs)).all (· ≤ reachBytes) = true := hsz0
  have hW' := hW
  obtain ⟨p, q, hA0, hV, rfl, hfz, hnd⟩ := hW
  have hA : DataW.TrodAll enc Tryd.prog W 0 (fun _ => true) true Tryd.f3.params.toList args.toList ds p := hA0
  rw [Tryd.params3] at hA hval hsz
  obtain ⟨v0, v1, d0, d1, p0, p1, rfl, rfl, rfl, h0, h1⟩ := trodAll_two hA
  obtain ⟨rfl, rfl⟩ := trodVars_none hV
  obtain ⟨cs, rfl⟩ := okWide_agg Tryd.underlying25 (hval 0 25 v0 rfl rfl)
  obtain ⟨a1, n1, c1, rfl⟩ := okWide_slice Tryd.underlying22 (hval 1 22 v1 rfl rfl)
  have k0 := h0
  have k1 := h1
  have lt0 : ∀ x ∈ p0, x.block < W.heap.size := by obtain ⟨m, hm⟩ := k0; exact DataW.trod_lt m _ _ _ hm
  have lt1 : ∀ x ∈ p1, x.block < W.heap.size := by obtain ⟨m, hm⟩ := k1; exact DataW.trod_lt m _ _ _ hm
  have fits0 : Fits Tryd.prog 25 d0 := fun n hn => by simpa using List.all_eq_true.1 hsz _ (DataW.weights_mem_each (j := 0) (t := 25) (d := d0) rfl rfl n hn)
  have fits1 : Fits Tryd.prog 22 d1 := fun n hn => by simpa using List.all_eq_true.1 hsz _ (DataW.weights_mem_each (j := 1) (t := 22) (d := d1) rfl rfl n hn)
  obtain ⟨fuel0, hf0⟩ := h0
  obtain ⟨fuel1, hf1⟩ := h1
  obtain ⟨f, fp, fn, fc, fq, fm, fd, hcs, hF, hSz, hnm⟩ := open_fnc hf0 fits0
  obtain ⟨lp, lm, lc, line, hls, _, hline, hlb⟩ := open_nums Tryd.underlying22 Tryd.underlying3 c3_1 b3_8 hf1 fits1
  have hcs' : cs = ⟨fv f fp fn fc fq fm fd⟩ := by
    have : cs.toList = fv f fp fn fc fq fm fd := by simpa [Value.cells] using hcs
    cases cs; simpa using this
  subst hcs'
  simp only [Value.cells, List.cons.injEq, and_true, Value.slice.injEq] at hls
  obtain ⟨rfl, rfl, rfl⟩ := hls
  have hz : (n1 + 2) * 8 ≤ 140737488355328 := by unfold reachBytes at hlb; omega
  have main : HC Tryd.prog 3 [.agg ⟨fv f fp fn fc fq fm fd⟩, .slice a1 n1 c1] W.heap fun v h' => v = .bool true ∧ Fw.Ext W.heap h' :=
    c3 (tab_at hL) hF hSz hnm hline hz fun h' e => ⟨rfl, e⟩
  refine (main W rfl).mono fun e W' ⟨v, he, ⟨hv, hx⟩, ho, hu⟩ => ?_
  subst he; subst hv
  have bel := frame hx ho hu
  exact ⟨_, rfl, _, _, _, [], p0 ++ p1, [], hW', trodAll_mk1 (shut_bool Tryd.underlying4 _),
    trodAll_mk2 (trodAll_tape (Below.trod laidOut (by kernel_rfl) (of_decide_eq_true (by kernel_rfl)) k0 bel lt0)) (trodAll_tape (Below.trod laidOut (by kernel_rfl) (of_decide_eq_true (by kernel_rfl)) k1 bel lt1)), rfl, kept_tape (bel.frame _), fun h => by cases h⟩

theorem holds : Rows.LiveIntervalsSaid :=
  OpenClaim.holds_of_wide 3 Tryd.f3 rfl rfl rfl rfl rfl rfl rfl ⟨rfl, rfl, rfl, rfl, rfl⟩ rfl rfl rfl rfl rfl (by kernel_rfl) Tryd.func3 (by kernel_rfl)
    (of_decide_eq_true (by kernel_rfl)) (by unfold Func.isWrapper; first | (rw [if_pos (by decide +kernel)]; kernel_rfl) | (rw [if_neg (by decide +kernel)]; exact ⟨rfl, rfl⟩))
    (fun os started K enc _ => by rw [OpenClaim.pre_eq_preRow]; exact lifted os started K enc)
end Li
end Go.Proofs.Try
