/-
  A part of the proof of: The statement LiveIntervals (quernlaw17) holds of the given program: for every function of blocks and every line that can be read as data, and laid where the program's own text lays the table math/bits.deBruijn64tab, it returns true, and its input reads as it did.
-/
import Derived.Test.YtmdfllipmnekoaaDoorw5
import Derived.Shelf.Slices.In.SortAlone
import Derived.Shelf.Slices.In.SortNone
import Derived.Sort.EveryDepth
import Derived.Test.YtmdfllipmnekoaaDoorProg
set_option maxHeartbeats 1000000

/- Sorting: merging in place. -/
set_option maxRecDepth 100000
set_option linter.unusedVariables false
set_option linter.unusedSimpArgs false
open Go Go.Fw Go.Proofs
namespace Go.Proofs.Try

theorem sh1 {n : Int} (h : 0 ≤ n) : shF .shr .u64 n 1 = n / 2 := by
  unfold shF
  simp only [IntKind.bits]
  rw [show (2 : Int) ^ (min (1 : Int).toNat 64) = 2 by rfl, Int.fdiv_eq_ediv_of_nonneg _ (by omega)]
theorem rotS_triv {l : List Itv} {s m e : Nat} (h1 : s ≤ m) (h2 : m ≤ e) (h3 : e ≤ l.length) (h : s = m ∨ m = e) : rotS l s m e = l := by
  symm
  refine rotS_eq h1 h2 h3 fun q => ?_
  congr 1
  unfold rho
  repeat' split
  all_goals omega
theorem srt_join {L : List Itv} {a c b : Nat} (h1 : a ≤ c) (h2 : c ≤ b) (s1 : Srt (seg L a c)) (s2 : Srt (seg L c b)) (h : ∀ x ∈ seg L a c, ∀ y ∈ seg L c b, x.frm ≤ y.frm) : Srt (seg L a b) := by
  rw [srt_seg] at s1 s2 ⊢
  intro i j x y q1 q2 q3 hi hj
  rcases Nat.lt_or_ge j c with c1 | c1
  · exact s1 i j x y q1 q2 c1 hi hj
  · rcases Nat.lt_or_ge i c with c2 | c2
    · exact h x (seg_mem.2 ⟨i, q1, c2, hi⟩) y (seg_mem.2 ⟨j, c1, q3, hj⟩)
    · exact s2 i j x y c2 q2 q3 hi hj
structure Mrg (l L : List Itv) (a s mid e b : Nat) : Prop where
  len : L.length = l.length
  s1 : Srt (seg L a s)
  s2 : Srt (seg L s mid)
  s3 : Srt (seg L mid e)
  s4 : Srt (seg L e b)
  le : ∀ x ∈ seg L a mid, ∀ y ∈ seg L mid b, x.frm ≤ y.frm
  st : Stb (seg L a b) (seg l a b)
  lo : ∀ q < a, L[q]? = l[q]?
  hi : ∀ q, b ≤ q → L[q]? = l[q]?
theorem merge_fin {l : List Itv} {a s m e b mid : Nat} (h1 : a ≤ s) (h2 : s ≤ m) (h3 : m ≤ e) (h4 : e ≤ b) (h5 : b ≤ l.length) (hm : mid = s + (e - m)) (so1 : Srt (seg l a m)) (so2 : Srt (seg l m b)) (strict : ∀ x ∈ seg l s m, ∀ y ∈ seg l m e, y.frm < x.frm) (weak : ∀ x ∈ seg l a s, ∀ y ∈ seg l e b, x.frm ≤ y.frm) :
    Mrg l (rotS l s m e) a s mid e b := by
  subst hm
  have g := rotS_get (l := l) h2 h3 (Nat.le_trans h4 h5)
  have so1' := srt_seg.1 so1
  have so2' := srt_seg.1 so2
  have r1 : ∀ q, q < s → rho s m e q = q := fun q hq => by unfold rho; rw [if_pos hq]
  have r2 : ∀ q, s ≤ q → q < s + (e - m) → rho s m e q = q + (m - s) := fun q hq1 hq2 => by unfold rho; rw [if_neg (by omega), if_pos hq2]
  have r3 : ∀ q, s + (e - m) ≤ q → q < e → rho s m e q = q - (e - m) := fun q hq1 hq2 => by unfold rho; rw [if_neg (by omega), if_neg (by omega), if_pos hq2]
  have r4 : ∀ q, e ≤ q → rho s m e q = q := fun q hq => by unfold rho; rw [if_neg (by omega), if_neg (by omega), if_neg (by omega)]
  refine ⟨rotS_len h2 h3 (Nat.le_trans h4 h5), ?_, ?_, ?_, ?_, fun x hx y hy => ?_, ?_, fun q hq => by rw [g, r1 q (by omega)], fun q hq => by rw [g, r4 q (by omega)]⟩
  · rw [srt_seg]; intro i j x y q1 q2 q3 hi hj
    rw [g, r1 _ (by omega)] at hi hj
    exact so1' i j x y q1 q2 (by omega) hi hj
  · rw [srt_seg]; intro i j x y q1 q2 q3 hi hj
    rw [g, r2 _ (by omega) (by omega)] at hi hj
    exact so2' _ _ x y (by omega) (by omega) (by omega) hi hj
  · rw [srt_seg]; intro i j x y q1 q2 q3 hi hj
    rw [g, r3 _ (by omega) (by omega)] at hi hj
    exact so1' _ _ x y (by omega) (by omega) (by omega) hi hj
  · rw [srt_seg]; intro i j x y q1 q2 q3 hi hj
    rw [g, r4 _ (by omega)] at hi hj
    exact so2' _ _ x y (by omega) (by omega) (by omega) hi hj
  · obtain ⟨i, i1, i2, hi⟩ := seg_mem.1 hx
    obtain ⟨j, j1, j2, hj⟩ := seg_mem.1 hy
    rw [g] at hi hj
    rcases Nat.lt_or_ge i s with c1 | c1
    · rw [r1 _ c1] at hi
      rcases Nat.lt_or_ge j e with c2 | c2
      · rw [r3 _ j1 c2] at hj
        exact so1' i _ x y i1 (by omega) (by omega) hi hj
      · rw [r4 _ c2] at hj
        exact weak x (seg_mem.2 ⟨i, i1, c1, hi⟩) y (seg_mem.2 ⟨j, c2, j2, hj⟩)
    · rw [r2 _ c1 i2] at hi
      rcases Nat.lt_or_ge j e with c2 | c2
      · rw [r3 _ j1 c2] at hj
        have := strict y (seg_mem.2 ⟨_, by omega, by omega, hj⟩) x (seg_mem.2 ⟨_, by omega, by omega, hi⟩)
        omega
      · rw [r4 _ c2] at hj
        exact so2' _ j x y (by omega) (by omega) (by omega) hi hj
  · have e1 : seg (rotS l s m e) a b = seg l a s ++ (seg l m e ++ seg l s m) ++ seg l e b := by
      apply List.ext_getElem?
      intro q
      have n1 := seg_len (l := l) (a := a) (b := s) (by omega)
      have n2 := seg_len (l := l) (a := m) (b := e) (by omega)
      have n3 := seg_len (l := l) (a := s) (b := m) (by omega)
      have n23 : (seg l m e ++ seg l s m).length = e - s := by rw [List.length_append, n2, n3]; omega
      rw [seg_get, g]
      by_cases c1 : a + q < s
      · rw [if_pos (by omega), r1 _ c1, List.append_assoc, List.getElem?_append_left (by omega), seg_get, if_pos c1]
      · rw [List.append_assoc, List.getElem?_append_right (by omega), n1]
        by_cases c2 : a + q < e
        · rw [List.getElem?_append_left (by omega), if_pos (by omega)]
          by_cases c3 : a + q < s + (e - m)
          · rw [r2 _ (by omega) c3, List.getElem?_append_left (by omega), seg_get, if_pos (by omega)]; congr 1; omega
          · rw [r3 _ (by omega) c2, List.getElem?_append_right (by omega), n2, seg_get, if_pos (by omega)]; congr 1; omega
        · rw [r4 _ (by omega), List.getElem?_append_right (by omega), n23, seg_get]
          rw [show e + (q - (s - a) - (e - s)) = a + q by omega]
    have e2 : seg l a b = seg l a s ++ seg l s e ++ seg l e b := by
      apply List.ext_getElem?
      intro q
      have n1 := seg_len (l := l) (a := a) (b := s) (by omega)
      have n2 := seg_len (l := l) (a := s) (b := e) (by omega)
      rw [seg_get]
      by_cases c1 : a + q < s
      · rw [if_pos (by omega), List.append_assoc, List.getElem?_append_left (by omega), seg_get, if_pos c1]
      · rw [List.append_assoc, List.getElem?_append_right (by omega), n1]
        by_cases c2 : a + q < e
        · rw [List.getElem?_append_left (by omega), if_pos (by omega), seg_get, if_pos (by omega)]; congr 1; omega
        · rw [List.getElem?_append_right (by omega), n2, seg_get]
          rw [show e + (q - (s - a) - (e - s)) = a + q by omega]
    rw [e1, e2]
    exact ((Stb.refl _).app (Stb.rot h2 h3 strict)).app (Stb.refl _)
/-- Both halves are merged. -/
theorem merge_done {l L S1 S2 : List Itv} {a s mid e b : Nat} (h1 : a ≤ mid) (h2 : mid ≤ b) (h3 : b ≤ l.length) (M : Mrg l L a s mid e b) (st1 : Stb S1 (seg L a mid)) (so1 : Srt S1) (st2 : Stb S2 (seg (putS L a S1 mid) mid b)) (so2 : Srt S2) :
    putS (putS L a S1 mid) mid S2 b = putS l a (S1 ++ S2) b ∧ Stb (S1 ++ S2) (seg l a b) ∧ Srt (S1 ++ S2) := by
  have n1 : S1.length = mid - a := by rw [st1.len, seg_len (by have := M.len; omega)]
  have hL := M.len
  have p1 := putS_len (l := L) h1 (by omega) n1
  have n2 : S2.length = b - mid := by rw [st2.len, seg_len (by omega)]
  have g1 := putS_get (l := L) h1 (by omega) n1
  have es : seg (putS L a S1 mid) mid b = seg L mid b := by
    apply List.ext_getElem?
    intro q
    rw [seg_get, seg_get]
    by_cases c : mid + q < b
    · rw [if_pos c, if_pos c, g1, if_neg (show ¬ mid + q < a by omega), if_neg (show ¬ mid + q < mid by omega)]
    · rw [if_neg c, if_neg c]
  rw [es] at st2
  have ej : seg L a b = seg L a mid ++ seg L mid b := by
    apply List.ext_getElem?
    intro q
    have n := seg_len (l := L) (a := a) (b := mid) (by omega)
    rw [seg_get]
    by_cases c : a + q < mid
    · rw [if_pos (by omega), List.getElem?_append_left (by omega), seg_get, if_pos c]
    · rw [List.getElem?_append_right (by omega), n, seg_get, show mid + (q - (mid - a)) = a + q by omega]
  refine ⟨?_, ?_, ?_⟩
  · apply List.ext_getElem?
    intro q
    rw [putS_get h2 (by omega) n2, g1, putS_get (by omega) h3 (by rw [List.length_append]; omega)]
    by_cases c1 : q < a
    · rw [if_pos (by omega), if_pos c1, if_pos c1, M.lo q c1]
    · rw [if_neg c1, if_neg c1]
      by_cases c2 : q < mid
      · rw [if_pos c2, if_pos c2, if_pos (by omega), List.getElem?_append_left (by omega)]
      · rw [if_neg c2, if_neg c2]
        by_cases c3 : q < b
        · rw [if_pos c3, if_pos c3, List.getElem?_append_right (by omega)]; congr 1; omega
        · rw [if_neg c3, if_neg c3, M.hi q (by omega)]
  · refine (st1.app st2).trans ?_
    rw [← ej]; exact M.st
  · unfold Srt
    rw [List.pairwise_append]
    exact ⟨so1, so2, fun x hx y hy => M.le x (st1.mem.1 hx) y (st2.mem.1 hy)⟩
theorem putS_of {l L : List Itv} {a b : Nat} (h1 : a ≤ b) (h2 : b ≤ l.length) (hL : L.length = l.length) (lo : ∀ q < a, L[q]? = l[q]?) (hi : ∀ q, b ≤ q → L[q]? = l[q]?) : L = putS l a (seg L a b) b := by
  apply List.ext_getElem?
  intro q
  rw [putS_get h1 h2 (seg_len (by omega))]
  by_cases c1 : q < a
  · rw [if_pos c1, lo q c1]
  · rw [if_neg c1]
    by_cases c2 : q < b
    · rw [if_pos c2, seg_get, if_pos (by omega)]; congr 1; omega
    · rw [if_neg c2, hi q (by omega)]

/-- What a call of the merging owes. -/
def Owes (p : Option Addr) (bl : Nat) (l : List Itv) (a b : Int) (h : H) (R : Value → H → Prop) : Prop :=
  ∀ h' S, OwnV h' p bl (putS l a.toNat S b.toNat) → Stb S (seg l a.toNat b.toNat) → Srt S → Mod (fun c => c = bl) h h' → R (.tuple ⟨[]⟩) h'
theorem Nng.put {l S : List Itv} {a b : Nat} (h : Nng l) (s : Stb S (seg l a b)) : Nng (putS l a S b) := fun x hx => h x (mem_putS s hx)
def BLo (l : List Itv) (mid m s s0 : Int) : Prop := s = s0 ∨ ∃ x y, l[(s - 1).toNat]? = some x ∧ l[(mid + m - s).toNat]? = some y ∧ x.frm ≤ y.frm
def BHi (l : List Itv) (mid m r r0 : Int) : Prop := r = r0 ∨ ∃ x y, l[r.toNat]? = some x ∧ l[(mid + m - 1 - r).toNat]? = some y ∧ y.frm < x.frm
set_option maxHeartbeats 4000000 in
theorem c84 {p : Option Addr} {n c bl : Nat} (hz : n ≤ 1000000) : ∀ (N : Nat) {h : H} {l : List Itv} {a m b : Int} (w : OwnV h p bl l) (hn : l.length = n) (ng : Nng l) (hN : (b - a).toNat ≤ N) (a0 : 0 ≤ a) (ham : a < m) (hmb : m < b) (hb : b ≤ n) (so1 : Srt (seg l a.toNat m.toNat)) (so2 : Srt (seg l m.toNat b.toNat)) {R : Value → H → Prop}
    (k : Owes p bl l a b h R), HC Tryd.prog 84 [.slice p n c, .int .i64 a, .int .i64 m, .int .i64 b, .func (.func 35) ⟨[]⟩ ⟨[]⟩] h R := by
  intro N
  induction N with
  | zero => intro h l a m b w hn ng hN a0 ham hmb hb; omega
  | succ N ih =>
    intro h l a m b w hn ng hN a0 ham hmb hb so1 so2 R k
    have cmpc : ∀ {h' : H} {i j : Int} {x y : Itv} {RR : Value → H → Prop}, l[i.toNat]? = some x → l[j.toNat]? = some y → (∀ h'' d, (d < 0 ↔ x.frm < y.frm) → Ext h' h'' → RR (.int .i64 d) h'') → HC Tryd.prog 35 [.agg ⟨[.int .i64 x.reg, .int .i64 x.frm, .int .i64 x.to]⟩, .agg ⟨[.int .i64 y.reg, .int .i64 y.frm, .int .i64 y.to]⟩] h' RR :=
      fun hx hy kk => c35 (ng _ (List.mem_of_getElem? hx)) (ng _ (List.mem_of_getElem? hy)) kk
    have at_ : ∀ (i : Int), 0 ≤ i → i < n → ∃ x, l[i.toNat]? = some x := fun i i0 i1 => ⟨l[i.toNat]'(by omega), by simp⟩
    have q1 := srt_seg.1 so1
    have q2 := srt_seg.1 so2
    apply hc84; unfold sh84
    refine ⟨i64ok (by omega) (by omega), fun e1 => ?_, fun ne1 => ⟨i64ok (by omega) (by omega), fun e2 => ?_, fun ne2 => ?_⟩⟩
    · obtain ⟨x, hx⟩ := at_ a a0 (by omega)
      refine ⟨fun i j => (fun h' => m ≤ i ∧ i ≤ j ∧ j ≤ b ∧ (∀ q y, m.toNat ≤ q → q < i.toNat → l[q]? = some y → y.frm < x.frm) ∧ (∀ q y, j.toNat ≤ q → q < b.toNat → l[q]? = some y → x.frm ≤ y.frm) ∧ Ext h h', fun _ => (j - i).toNat), ⟨by omega, by omega, by omega, fun q y h1 h2 => by omega, fun q y h1 h2 => by omega, Ext.rfl'⟩, ?_⟩
      rintro i j h1 ⟨i0, ij, jb, hlo, hhi, e1'⟩
      refine ⟨fun ilt => ?_, fun ige => ?_⟩
      · have hs : 0 ≤ i + j := by omega
        simp only [sh1 hs]
        obtain ⟨y, hy⟩ := at_ ((i + j) / 2) (by omega) (by omega)
        have w1 : OwnV h1 p bl l := w.ext e1'
        obtain ⟨p1, y0, y1, y2⟩ := w1.cell hy
        obtain ⟨_, x0, x1, x2⟩ := w1.cell hx
        refine ⟨i64ok (by omega) (by omega), u64ok (by omega) (by omega), by omega, i64ok (by omega) (by omega), by omega, by omega, onP_at p1 ⟨by omega, by omega, onP_at p1 ⟨_, y0, _, y1, _, y2, _, x0, _, x1, _, x2, by kernel_rfl, cmpc hy hx fun h2 d hd e2 => ⟨d, rfl, fun dn => ⟨i64ok (by omega) (by omega), ⟨by omega, by omega, by omega, fun q z h1 h2 hz => ?_, hhi, e1'.trans e2⟩, by show (j - ((i + j) / 2 + 1)).toNat < (j - i).toNat; omega⟩, fun dn => ⟨⟨by omega, by omega, by omega, hlo, fun q z h1 h2 hz => ?_, e1'.trans e2⟩, by show ((i + j) / 2 - i).toNat < (j - i).toNat; omega⟩⟩⟩⟩⟩
        · have hlt := hd.1 dn
          rcases Nat.lt_or_ge q ((i + j) / 2).toNat with c | c
          · have := q2 q _ z y h1 c (by omega) hz hy; omega
          · have : q = ((i + j) / 2).toNat := by omega
            subst this; rw [hy] at hz; cases hz; exact hlt
        · have hnl : ¬ y.frm < x.frm := fun h => dn (hd.2 h)
          rcases Nat.lt_or_ge ((i + j) / 2).toNat q with c | c
          · have := q2 _ q y z (by omega) c (by omega) hy hz; omega
          · have : q = ((i + j) / 2).toNat := by omega
            subst this; rw [hy] at hz; cases hz; omega
      · obtain rfl : i = j := by omega
        refine ⟨fun kk => (fun h' => a ≤ kk ∧ kk ≤ max a (i - 1) ∧ ∃ L, OwnV h' p bl L ∧ L.length = l.length ∧ (∀ q, L[q]? = l[rho a.toNat (a.toNat + 1) (kk.toNat + 1) q]?) ∧ Fw.Mod (fun c => c = bl) h h', fun _ => (i - kk).toNat), ⟨by omega, by omega, l, w.ext e1', rfl, fun q => ?_, e1'.mod.wid fun _ _ h => h.elim⟩, ?_⟩
        · congr 1; unfold rho; repeat' split
          all_goals omega
        rintro kk h2 ⟨k0, k1, L, wL, hL, hq, m2⟩
        refine ⟨i64ok (by omega) (by omega), fun klt => ?_, fun kge => ?_⟩
        · obtain ⟨u, hu⟩ : ∃ u, L[kk.toNat]? = some u := ⟨L[kk.toNat]'(by omega), by simp⟩
          obtain ⟨v, hv⟩ : ∃ v, L[(kk + 1).toNat]? = some v := ⟨L[(kk + 1).toNat]'(by omega), by simp⟩
          obtain ⟨p1, u0, u1, u2⟩ := wL.cell hu
          obtain ⟨_, v0, v1, v2⟩ := wL.cell hv
          refine ⟨i64ok (by omega) (by omega), i64ok (by omega) (by omega), by omega, by omega, onP_at p1 ⟨by omega, by omega, onP_at p1 ⟨_, v0, _, v1, _, v2, _, u0, _, u1, _, u2, by omega, by omega, onP_at p1 (wL.whole hu v fun h4 w4 m4 => ⟨by omega, by omega, onP_at p1 ?_⟩)⟩⟩⟩
          have hv4 : (L.set kk.toNat v)[(kk + 1).toNat]? = some v := by rw [List.getElem?_set_ne (by omega)]; exact hv
          refine w4.whole hv4 u fun h5 w5 m5 => ⟨i64ok (by omega) (by omega), ⟨by omega, by omega, _, w5, by rw [List.length_set, List.length_set]; exact hL, fun q => ?_, (m2.trans m4 fun _ _ h => h).trans m5 fun _ _ h => h⟩, by show (i - (kk + 1)).toNat < (i - kk).toNat; omega⟩
          rw [swap_get hu hv, hq]
          congr 1
          unfold rho swp
          repeat' split
          all_goals omega
        · have hke : kk = max a (i - 1) := by omega
          have hre : L = rotS l a.toNat m.toNat i.toNat := rotS_eq (by omega) (by omega) (by omega) fun q => by
            rw [hq]; congr 1; unfold rho
            repeat' split
            all_goals omega
          have M := merge_fin (l := l) (a := a.toNat) (s := a.toNat) (m := m.toNat) (e := i.toNat) (b := b.toNat) (mid := a.toNat + (i.toNat - m.toNat)) (Nat.le_refl _) (by omega) (by omega) (by omega) (by omega) rfl so1 so2 (fun u hu v hv => by
            obtain ⟨q, a1, a2, a3⟩ := seg_mem.1 hu
            obtain ⟨r, b1, b2, b3⟩ := seg_mem.1 hv
            have : q = a.toNat := by omega
            subst this; rw [hx] at a3; cases a3
            exact hlo r v b1 b2 b3) (fun u hu => by obtain ⟨q, a1, a2, a3⟩ := seg_mem.1 hu; omega)
          rw [← hre] at M
          have s34 : Srt (seg L (a.toNat + (i.toNat - m.toNat)) b.toNat) := srt_join (c := i.toNat) (by omega) (by omega) M.s3 M.s4 fun u hu v hv => by
            obtain ⟨q, a1, a2, a3⟩ := seg_mem.1 hu
            obtain ⟨r, b1, b2, b3⟩ := seg_mem.1 hv
            have : q = i.toNat - 1 := by omega
            subst this
            rw [hq, show rho a.toNat (a.toNat + 1) (kk.toNat + 1) (i.toNat - 1) = a.toNat by unfold rho; (repeat' split) <;> omega, hx] at a3
            cases a3
            rw [hq, show rho a.toNat (a.toNat + 1) (kk.toNat + 1) r = r by unfold rho; (repeat' split) <;> omega] at b3
            exact hhi r v b1 b2 b3
          have so := srt_join (by omega) (by omega) M.s2 s34 M.le
          refine k h2 (seg L a.toNat b.toNat) ?_ M.st so m2
          rw [← putS_of (by omega) (by omega) M.len M.lo M.hi]; exact wL
    · obtain ⟨x, hx⟩ := at_ m (by omega) (by omega)
      have hbm : b.toNat = m.toNat + 1 := by omega
      refine ⟨fun i j => (fun h' => a ≤ i ∧ i ≤ j ∧ j ≤ m ∧ (∀ q y, a.toNat ≤ q → q < i.toNat → l[q]? = some y → y.frm ≤ x.frm) ∧ (∀ q y, j.toNat ≤ q → q < m.toNat → l[q]? = some y → x.frm < y.frm) ∧ Ext h h', fun _ => (j - i).toNat), ⟨by omega, by omega, by omega, fun q y h1 h2 => by omega, fun q y h1 h2 => by omega, Ext.rfl'⟩, ?_⟩
      rintro i j h1 ⟨i0, ij, jb, hlo, hhi, e1'⟩
      refine ⟨fun ilt => ?_, fun ige => ?_⟩
      · have hs : 0 ≤ i + j := by omega
        simp only [sh1 hs]
        obtain ⟨y, hy⟩ := at_ ((i + j) / 2) (by omega) (by omega)
        have w1 : OwnV h1 p bl l := w.ext e1'
        obtain ⟨p1, y0, y1, y2⟩ := w1.cell hy
        obtain ⟨_, x0, x1, x2⟩ := w1.cell hx
        refine ⟨i64ok (by omega) (by omega), u64ok (by omega) (by omega), by omega, i64ok (by omega) (by omega), by omega, by omega, onP_at p1 ⟨by omega, by omega, onP_at p1 ⟨_, x0, _, x1, _, x2, _, y0, _, y1, _, y2, by kernel_rfl, cmpc hx hy fun h2 d hd e2 => ⟨d, rfl, fun dn => ⟨i64ok (by omega) (by omega), ⟨by omega, by omega, by omega, fun q z h1 h2 hz => ?_, hhi, e1'.trans e2⟩, by show (j - ((i + j) / 2 + 1)).toNat < (j - i).toNat; omega⟩, fun dn => ⟨⟨by omega, by omega, by omega, hlo, fun q z h1 h2 hz => ?_, e1'.trans e2⟩, by show ((i + j) / 2 - i).toNat < (j - i).toNat; omega⟩⟩⟩⟩⟩
        · have hlt : ¬ x.frm < y.frm := fun h => dn (hd.2 h)
          rcases Nat.lt_or_ge q ((i + j) / 2).toNat with c | c
          · have := q1 q _ z y h1 c (by omega) hz hy; omega
          · have : q = ((i + j) / 2).toNat := by omega
            subst this; rw [hy] at hz; cases hz; omega
        · have hnl : x.frm < y.frm := hd.1 (Classical.not_not.1 dn)
          rcases Nat.lt_or_ge ((i + j) / 2).toNat q with c | c
          · have := q1 _ q y z (by omega) c (by omega) hy hz; omega
          · have : q = ((i + j) / 2).toNat := by omega
            subst this; rw [hy] at hz; cases hz; omega
      · obtain rfl : i = j := by omega
        refine ⟨fun kk => (fun h' => i ≤ kk ∧ kk ≤ m ∧ ∃ L, OwnV h' p bl L ∧ L.length = l.length ∧ (∀ q, L[q]? = l[rho kk.toNat m.toNat (m.toNat + 1) q]?) ∧ Fw.Mod (fun c => c = bl) h h', fun _ => (kk - i).toNat), ⟨by omega, by omega, l, w.ext e1', rfl, fun q => ?_, e1'.mod.wid fun _ _ h => h.elim⟩, ?_⟩
        · congr 1; unfold rho; repeat' split
          all_goals omega
        rintro kk h2 ⟨k0, k1, L, wL, hL, hq, m2⟩
        refine ⟨fun klt => ?_, fun kge => ?_⟩
        · obtain ⟨u, hu⟩ : ∃ u, L[kk.toNat]? = some u := ⟨L[kk.toNat]'(by omega), by simp⟩
          obtain ⟨v, hv⟩ : ∃ v, L[(kk - 1).toNat]? = some v := ⟨L[(kk - 1).toNat]'(by omega), by simp⟩
          obtain ⟨p1, u0, u1, u2⟩ := wL.cell hu
          obtain ⟨_, v0, v1, v2⟩ := wL.cell hv
          refine ⟨i64ok (by omega) (by omega), i64ok (by omega) (by omega), by omega, by omega, onP_at p1 ⟨by omega, by omega, onP_at p1 ⟨_, v0, _, v1, _, v2, _, u0, _, u1, _, u2, by omega, by omega, onP_at p1 (wL.whole hu v fun h4 w4 m4 => ⟨by omega, by omega, onP_at p1 ?_⟩)⟩⟩⟩
          have hv4 : (L.set kk.toNat v)[(kk - 1).toNat]? = some v := by rw [List.getElem?_set_ne (by omega)]; exact hv
          refine w4.whole hv4 u fun h5 w5 m5 => ⟨i64ok (by omega) (by omega), ⟨by omega, by omega, _, w5, by rw [List.length_set, List.length_set]; exact hL, fun q => ?_, (m2.trans m4 fun _ _ h => h).trans m5 fun _ _ h => h⟩, by show (kk - 1 - i).toNat < (kk - i).toNat; omega⟩
          rw [swap_get hu hv, hq]
          congr 1
          unfold rho swp
          repeat' split
          all_goals omega
        · obtain rfl : kk = i := by omega
          have hre : L = rotS l kk.toNat m.toNat b.toNat := rotS_eq (by omega) (by omega) (by omega) fun q => by rw [hq, hbm]
          have M := merge_fin (l := l) (a := a.toNat) (s := kk.toNat) (m := m.toNat) (e := b.toNat) (b := b.toNat) (mid := kk.toNat + (b.toNat - m.toNat)) (by omega) (by omega) (by omega) (by omega) (by omega) rfl so1 so2 (fun u hu v hv => by
            obtain ⟨q, a1, a2, a3⟩ := seg_mem.1 hu
            obtain ⟨r, b1, b2, b3⟩ := seg_mem.1 hv
            have : r = m.toNat := by omega
            subst this; rw [hx] at b3; cases b3
            exact hhi q u a1 a2 a3) (fun u hu v hv => by obtain ⟨q, a1, a2, a3⟩ := seg_mem.1 hv; omega)
          rw [← hre] at M
          have s12 : Srt (seg L a.toNat (kk.toNat + (b.toNat - m.toNat))) := srt_join (c := kk.toNat) (by omega) (by omega) M.s1 M.s2 fun u hu v hv => by
            obtain ⟨q, a1, a2, a3⟩ := seg_mem.1 hu
            obtain ⟨r, b1, b2, b3⟩ := seg_mem.1 hv
            rw [hq, show rho kk.toNat m.toNat (m.toNat + 1) r = m.toNat by unfold rho; (repeat' split) <;> omega, hx] at b3
            cases b3
            rw [hq, show rho kk.toNat m.toNat (m.toNat + 1) q = q by unfold rho; (repeat' split) <;> omega] at a3
            exact hlo q u a1 a2 a3
          have s34 := srt_join (L := L) (a := kk.toNat + (b.toNat - m.toNat)) (c := b.toNat) (b := b.toNat) (by omega) (Nat.le_refl _) M.s3 M.s4 fun u hu v hv => by obtain ⟨q, a1, a2, a3⟩ := seg_mem.1 hv; omega
          have so := srt_join (by omega) (by omega) s12 s34 M.le
          refine k h2 (seg L a.toNat b.toNat) ?_ M.st so m2
          rw [← putS_of (by omega) (by omega) M.len M.lo M.hi]; exact wL
    · have hab : 0 ≤ a + b := by omega
      simp only [sh1 hab]
      refine ⟨fun mid h' => mid = (a + b) / 2 ∧ h = h', ⟨i64ok (by omega) (by omega), u64ok (by omega) (by omega), by omega, i64ok (by omega) (by omega), rfl, rfl⟩, ?_⟩
      rintro mid _ ⟨hmid, rfl⟩
      refine ⟨i64ok (by omega) (by omega), fun s r h' => h = h' ∧ ((mid < m ∧ s = mid + m - b ∧ r = mid) ∨ (m ≤ mid ∧ s = a ∧ r = m)), ⟨fun hlt => ⟨i64ok (by omega) (by omega), rfl, .inl ⟨hlt, rfl, rfl⟩⟩, fun hge => ⟨rfl, .inr ⟨by omega, rfl, rfl⟩⟩⟩, ?_⟩
      rintro s0 r0 _ ⟨rfl, hsr⟩
      refine ⟨i64ok (by omega) (by omega), fun s r => (fun h' => s0 ≤ s ∧ s ≤ r ∧ r ≤ r0 ∧ BLo l mid m s s0 ∧ BHi l mid m r r0 ∧ Ext h h', fun _ => (r - s).toNat), ⟨by omega, by omega, by omega, .inl rfl, .inl rfl, Ext.rfl'⟩, ?_⟩
      rintro s r h13 ⟨s1, s2, s3, hlo, hhi, e13⟩
      refine ⟨fun slt => ?_, fun sge => ?_⟩
      · have hs : 0 ≤ s + r := by omega
        simp only [sh1 hs]
        obtain ⟨y, hy⟩ := at_ ((mid + m) - 1 - (s + r) / 2) (by omega) (by omega)
        obtain ⟨x, hx⟩ := at_ ((s + r) / 2) (by omega) (by omega)
        have w1 : OwnV h13 p bl l := w.ext e13
        obtain ⟨p1, y0, y1, y2⟩ := w1.cell hy
        obtain ⟨_, x0, x1, x2⟩ := w1.cell hx
        refine ⟨i64ok (by omega) (by omega), u64ok (by omega) (by omega), by omega, i64ok (by omega) (by omega), i64ok (by omega) (by omega), by omega, by omega, onP_at p1 ⟨by omega, by omega, onP_at p1 ⟨_, y0, _, y1, _, y2, _, x0, _, x1, _, x2, by kernel_rfl, cmpc hy hx fun h2 d hd e2 => ⟨d, rfl, fun dn => ⟨i64ok (by omega) (by omega), ⟨by omega, by omega, by omega, .inr ⟨x, y, ?_, ?_, ?_⟩, hhi, e13.trans e2⟩, by show (r - ((s + r) / 2 + 1)).toNat < (r - s).toNat; omega⟩, fun dn => ⟨⟨by omega, by omega, by omega, hlo, .inr ⟨x, y, hx, hy, hd.1 (Classical.not_not.1 dn)⟩, e13.trans e2⟩, by show ((s + r) / 2 - s).toNat < (r - s).toNat; omega⟩⟩⟩⟩⟩
        · rw [show ((s + r) / 2 + 1 - 1).toNat = ((s + r) / 2).toNat by omega]; exact hx
        · rw [show (mid + m - ((s + r) / 2 + 1)).toNat = (mid + m - 1 - (s + r) / 2).toNat by omega]; exact hy
        · have : ¬ y.frm < x.frm := fun h => dn (hd.2 h)
          omega
      · obtain rfl : r = s := by omega
        have he1 : m ≤ mid + m - r := by omega
        have he2 : mid + m - r ≤ b := by omega
        have hr1 : a ≤ r := by omega
        have hr2 : r ≤ m := by omega
        have hr3 : r ≤ mid := by omega
        have hem : mid.toNat = r.toNat + ((mid + m - r).toNat - m.toNat) := by omega
        have M := merge_fin (l := l) (a := a.toNat) (s := r.toNat) (m := m.toNat) (e := (mid + m - r).toNat) (b := b.toNat) (mid := mid.toNat) (by omega) (by omega) (by omega) (by omega) (by omega) hem so1 so2 (fun u hu v hv => by
          obtain ⟨q, a1, a2, a3⟩ := seg_mem.1 hu
          obtain ⟨t, b1, b2, b3⟩ := seg_mem.1 hv
          rcases hhi with e | ⟨x, y, hx, hy, hxy⟩
          · omega
          · have h1 : x.frm ≤ u.frm := by
              rcases Nat.lt_or_ge r.toNat q with c | c
              · exact q1 _ q x u (by omega) c a2 hx a3
              · have : q = r.toNat := by omega
                subst this; rw [hx] at a3; cases a3; omega
            have h2 : v.frm ≤ y.frm := by
              rcases Nat.lt_or_ge t (mid + m - 1 - r).toNat with c | c
              · exact q2 t _ v y b1 c (by omega) b3 hy
              · have : t = (mid + m - 1 - r).toNat := by omega
                subst this; rw [hy] at b3; cases b3; omega
            omega) (fun u hu v hv => by
          obtain ⟨q, a1, a2, a3⟩ := seg_mem.1 hu
          obtain ⟨t, b1, b2, b3⟩ := seg_mem.1 hv
          rcases hlo with e | ⟨x, y, hx, hy, hxy⟩
          · omega
          · have h1 : u.frm ≤ x.frm := by
              rcases Nat.lt_or_ge q (r - 1).toNat with c | c
              · exact q1 q _ u x a1 c (by omega) a3 hx
              · have : q = (r - 1).toNat := by omega
                subst this; rw [hx] at a3; cases a3; omega
            have h2 : y.frm ≤ v.frm := by
              rcases Nat.lt_or_ge (mid + m - r).toNat t with c | c
              · exact q2 _ t y v (by omega) c b2 hy b3
              · have : t = (mid + m - r).toNat := by omega
                subst this; rw [hy] at b3; cases b3; omega
            omega)
        clear hlo hhi
        generalize hLd : rotS l r.toNat m.toNat (mid + m - r).toNat = L at M
        have hLl := M.len
        have ngL : Nng L := by
          have := ng.put M.st
          rw [← putS_of (by omega) (by omega) M.len M.lo M.hi] at this; exact this
        refine ⟨i64ok (by omega) (by omega), fun h' => OwnV h' p bl L ∧ Fw.Mod (fun c => c = bl) h h', ⟨fun c1 => ⟨fun c2 => ?_, fun c2 => ⟨?_, e13.mod.wid fun _ _ h => h.elim⟩⟩, fun c1 => ⟨?_, e13.mod.wid fun _ _ h => h.elim⟩⟩, ?_⟩
        · refine c99 (w.ext e13) hn hz (by omega) c1 c2 (by omega) fun h16 w16 m16 => ⟨rfl, ?_, (e13.mod.wid (S' := fun c => c = bl) fun _ _ h => h.elim).trans m16 fun _ _ h => h⟩
          rw [hLd] at w16; exact w16
        · rw [← hLd, rotS_triv (by omega) (by omega) (by omega) (.inr (by omega))]; exact w.ext e13
        · rw [← hLd, rotS_triv (by omega) (by omega) (by omega) (.inl (by omega))]; exact w.ext e13
        rintro h15 ⟨w15, m15⟩
        refine ⟨fun h' => ∃ S1, OwnV h' p bl (putS L a.toNat S1 mid.toNat) ∧ Stb S1 (seg L a.toNat mid.toNat) ∧ Srt S1 ∧ Fw.Mod (fun c => c = bl) h h', ⟨fun c1 => ⟨fun c2 => ?_, fun c2 => ⟨seg L a.toNat mid.toNat, by rw [putS_self (by omega)]; exact w15, Stb.refl _, ?_, m15⟩⟩, fun c1 => ⟨seg L a.toNat mid.toNat, by rw [putS_self (by omega)]; exact w15, Stb.refl _, ?_, m15⟩⟩, ?_⟩
        · exact ih w15 (by omega) ngL (by omega) a0 c1 c2 (by omega) M.s1 M.s2 fun h18 S1 w18 st18 so18 m18 => ⟨rfl, S1, w18, st18, so18, m15.trans m18 fun _ _ h => h⟩
        · rw [show mid.toNat = r.toNat by omega]; exact M.s1
        · rw [show a.toNat = r.toNat by omega]; exact M.s2
        rintro h17 ⟨S1, w17, st1, so1', m17⟩
        have n1 : S1.length = mid.toNat - a.toNat := by rw [st1.len, seg_len (by omega)]
        have n1' := putS_len (l := L) (a := a.toNat) (b := mid.toNat) (by omega) (by omega) n1
        have es : ∀ x y, mid.toNat ≤ x → seg (putS L a.toNat S1 mid.toNat) x y = seg L x y := fun x y hx => by
          apply List.ext_getElem?
          intro q
          rw [seg_get, seg_get]
          by_cases c : x + q < y
          · rw [if_pos c, if_pos c, putS_get (by omega) (by omega) n1, if_neg (show ¬ x + q < a.toNat by omega), if_neg (show ¬ x + q < mid.toNat by omega)]
          · rw [if_neg c, if_neg c]
        have fin : ∀ h19 S2, OwnV h19 p bl (putS (putS L a.toNat S1 mid.toNat) mid.toNat S2 b.toNat) → Stb S2 (seg (putS L a.toNat S1 mid.toNat) mid.toNat b.toNat) → Srt S2 → Fw.Mod (fun c => c = bl) h h19 → R (.tuple ⟨[]⟩) h19 := fun h19 S2 w19 st2 so2' m19 => by
          obtain ⟨f1, f2, f3⟩ := merge_done (by omega) (by omega) (by omega) M st1 so1' st2 so2'
          rw [f1] at w19
          exact k h19 _ w19 f2 f3 m19
        have self2 : OwnV h17 p bl (putS (putS L a.toNat S1 mid.toNat) mid.toNat (seg (putS L a.toNat S1 mid.toNat) mid.toNat b.toNat) b.toNat) := by rw [putS_self (by omega)]; exact w17
        refine ⟨fun c1 => ⟨fun c2 => ?_, fun c2 => fin h17 _ self2 (Stb.refl _) ?_ m17⟩, fun c1 => fin h17 _ self2 (Stb.refl _) ?_ m17⟩
        · exact ih w17 (by omega) (ngL.put st1) (by omega) (by omega) c1 c2 (by omega) (by rw [es _ _ (Nat.le_refl _)]; exact M.s3) (by rw [es _ _ (by omega)]; exact M.s4) fun h19 S2 w19 st19 so19 m19 => ⟨rfl, fin h19 S2 w19 st19 so19 (m17.trans m19 fun _ _ h => h)⟩
        · rw [es _ _ (Nat.le_refl _), show b.toNat = (mid + m - r).toNat by omega]; exact M.s3
        · rw [es _ _ (Nat.le_refl _), show mid.toNat = (mid + m - r).toNat by omega]; exact M.s4
end Go.Proofs.Try

/- Sorting: the stable sort; deleting. -/
set_option maxRecDepth 100000
set_option linter.unusedVariables false
set_option linter.unusedSimpArgs false
open Go Go.Fw Go.Proofs
namespace Go.Proofs.Try

theorem seg_put_lo {l S : List Itv} {a b x y : Nat} (h1 : a ≤ b) (h2 : b ≤ l.length) (hS : S.length = b - a) (hy : y ≤ a) : seg (putS l a S b) x y = seg l x y := by
  apply List.ext_getElem?
  intro q
  rw [seg_get, seg_get]
  by_cases c : x + q < y
  · rw [if_pos c, if_pos c, putS_get h1 h2 hS, if_pos (show x + q < a by omega)]
  · rw [if_neg c, if_neg c]
theorem seg_put_hi {l S : List Itv} {a b x y : Nat} (h1 : a ≤ b) (h2 : b ≤ l.length) (hS : S.length = b - a) (hx : b ≤ x) : seg (putS l a S b) x y = seg l x y := by
  apply List.ext_getElem?
  intro q
  rw [seg_get, seg_get]
  by_cases c : x + q < y
  · rw [if_pos c, if_pos c, putS_get h1 h2 hS, if_neg (show ¬ x + q < a by omega), if_neg (show ¬ x + q < b by omega)]
  · rw [if_neg c, if_neg c]
theorem seg_put_at {l S : List Itv} {a b : Nat} (h1 : a ≤ b) (h2 : b ≤ l.length) (hS : S.length = b - a) : seg (putS l a S b) a b = S := by
  apply List.ext_getElem?
  intro q
  rw [seg_get]
  by_cases c : a + q < b
  · rw [if_pos c, putS_get h1 h2 hS, if_neg (show ¬ a + q < a by omega), if_pos c]; congr 1; omega
  · rw [if_neg c, List.getElem?_eq_none (by omega)]
theorem seg_over {l : List Itv} {a x y : Nat} (hx : l.length ≤ x) (hy : l.length ≤ y) : seg l a x = seg l a y := by
  unfold seg; rw [List.take_of_length_le hx, List.take_of_length_le hy]
/-- Runs of bs are sorted, from s on those that begin at lo or behind. -/
def Runs (bs : Nat) (L : List Itv) (P : Nat → Prop) : Prop := ∀ s, bs ∣ s → P s → Srt (seg L s (s + bs))
theorem srt_short {l : List Itv} {a b : Nat} (h : l.length ≤ a + 1 ∨ b ≤ a + 1) : Srt (seg l a b) := by
  rw [srt_seg]
  intro i j x y h1 h2 h3 hi hj
  have := (List.getElem?_eq_some_iff.1 hj).1
  omega
theorem seg_all {l : List Itv} {b : Nat} (h : l.length ≤ b) : seg l 0 b = l := by unfold seg; rw [List.take_of_length_le h]; rfl

set_option maxHeartbeats 1000000 in
theorem c65 {h : H} {p : Option Addr} {n c bl : Nat} {l : List Itv} (w : OwnV h p bl l) (hn : l.length = n) (hz : n ≤ 1000000) (ng : Nng l) {R : Value → H → Prop}
    (k : ∀ h' S, OwnV h' p bl S → Stb S l → Srt S → Mod (fun c => c = bl) h h' → R (.tuple ⟨[]⟩) h') :
    HC Tryd.prog 65 [.slice p n c, .int .i64 n, .func (.func 35) ⟨[]⟩ ⟨[]⟩] h R := by
  have pk : ∀ {L : List Itv} {h1 : H} {a b : Nat} {S : List Itv}, a ≤ b → b ≤ L.length → Stb S (seg L a b) → S.length = b - a := fun h1 h2 st => by rw [st.len, seg_len h2]
  have ngs : ∀ {L : List Itv}, Stb L l → Nng L := fun st x hx => ng x (st.mem.1 hx)
  apply hc65; unfold sh65
  refine ⟨fun a b => (fun h' => 0 ≤ a ∧ a ≤ n ∧ b = a + 20 ∧ 20 ∣ a.toNat ∧ ∃ L, OwnV h' p bl L ∧ Stb L l ∧ Runs 20 L (fun s => s < a.toNat) ∧ Fw.Mod (fun c => c = bl) h h', fun _ => (n - a).toNat), ⟨by omega, by omega, by omega, by simp, l, w, Stb.refl _, fun s _ hs => by simp at hs, Mod.refl _ _⟩, ?_⟩
  rintro a b h1 ⟨a0, a1, rfl, dv, L, wL, stL, ru, m1⟩
  have hLl : L.length = n := by rw [stL.len]; exact hn
  refine ⟨fun ble => ?_, fun bgt => ?_⟩
  · refine c83 wL hLl hz (ngs stL) a0 (by omega) ble fun h2 S w2 st so m2 => ⟨rfl, i64ok (by omega) (by omega), ⟨by omega, by omega, by omega, ?_, _, w2, (Stb.put (by omega) st).trans stL, fun s ds hs => ?_, m1.trans m2 fun _ _ h => h⟩, by show (n - (a + 20)).toNat < (n - a).toNat; omega⟩
    · rw [show (a + 20).toNat = a.toNat + 20 by omega]; exact Nat.dvd_add dv (Nat.dvd_refl _)
    · have hSl := pk (h1 := h2) (L := L) (by omega) (by omega) st
      rcases Nat.lt_or_ge s a.toNat with c | c
      · have : s + 20 ≤ a.toNat := by omega
        rw [seg_put_lo (by omega) (by omega) hSl this]; exact ru s ds c
      · have : s = a.toNat := by omega
        subst this
        have e : a.toNat + 20 = (a + 20).toNat := by omega
        rw [e, seg_put_at (by omega) (by omega) hSl]; exact so
  · refine c83 wL hLl hz (ngs stL) a0 a1 (Int.le_refl _) fun h2 S w2 st so m2 => ⟨rfl, ?_⟩
    rw [Int.toNat_natCast] at w2 st
    have hSl := pk (h1 := h2) (L := L) (by omega) (by omega) st
    have hpl := putS_len (l := L) (a := a.toNat) (b := n) (by omega) (by omega) hSl
    have ru2 : Runs 20 (putS L a.toNat S n) (fun _ => True) := fun s ds _ => by
      rcases Nat.lt_or_ge s a.toNat with c | c
      · have : s + 20 ≤ a.toNat := by omega
        rw [seg_put_lo (by omega) (by omega) hSl this]; exact ru s ds c
      · by_cases e : s = a.toNat
        · subst e
          rw [seg_over (y := n) (by omega) (by omega), seg_put_at (by omega) (by omega) hSl]; exact so
        · exact srt_short (.inl (by omega))
    refine ⟨fun bs => (fun h' => 20 ≤ bs ∧ bs ≤ 2000000 ∧ ∃ L, OwnV h' p bl L ∧ Stb L l ∧ Runs bs.toNat L (fun _ => True) ∧ Fw.Mod (fun c => c = bl) h h', fun _ => (n - bs).toNat), ⟨by omega, by omega, _, w2, (Stb.put (by omega) st).trans stL, ru2, m1.trans m2 fun _ _ h => h⟩, ?_⟩
    clear ru2 hpl hSl
    rintro bs h4 ⟨b0, b1, L4, w4, st4, ru4, m4⟩
    have hL4 : L4.length = n := by rw [st4.len]; exact hn
    refine ⟨fun blt => ⟨i64ok (by omega) (by omega), ?_⟩, fun bge => ?_⟩
    · refine ⟨fun a b => (fun h' => 0 ≤ a ∧ a ≤ n ∧ b = a + 2 * bs ∧ (2 * bs.toNat) ∣ a.toNat ∧ ∃ L, OwnV h' p bl L ∧ Stb L l ∧ Runs (2 * bs.toNat) L (fun s => s < a.toNat) ∧ Runs bs.toNat L (fun s => a.toNat ≤ s) ∧ Fw.Mod (fun c => c = bl) h h', fun _ => (n - a).toNat), ⟨by omega, by omega, by omega, by simp, L4, w4, st4, fun s _ hs => by simp at hs, fun s ds _ => ru4 s ds trivial, m4⟩, ?_⟩
      rintro a b h5 ⟨a0, a1, rfl, dv, L, wL, stL, ru1, ru2, m5⟩
      have hLl : L.length = n := by rw [stL.len]; exact hn
      have dvb : bs.toNat ∣ a.toNat := Nat.dvd_trans (Nat.dvd_mul_left _ _) dv
      have hb2 : (a + 2 * bs).toNat = a.toNat + 2 * bs.toNat := by omega
      have hbm : (a + bs).toNat = a.toNat + bs.toNat := by omega
      have sA : Srt (seg L a.toNat (a + bs).toNat) := by rw [hbm]; exact ru2 _ dvb (Nat.le_refl _)
      have sB : Srt (seg L (a + bs).toNat (a + 2 * bs).toNat) := by
        rw [hb2, hbm, show a.toNat + 2 * bs.toNat = a.toNat + bs.toNat + bs.toNat by omega]
        exact ru2 _ (Nat.dvd_add dvb (Nat.dvd_refl _)) (by omega)
      -- runs that end at or before another begins
      have lt2 : ∀ s, (2 * bs.toNat) ∣ s → s < a.toNat → s + 2 * bs.toNat ≤ a.toNat := fun s ds hs => by
        have h1 := Nat.dvd_sub dv ds
        have h2 := Nat.le_of_dvd (by omega) h1
        omega
      have eq2 : ∀ s, (2 * bs.toNat) ∣ s → a.toNat ≤ s → s < a.toNat + 2 * bs.toNat → s = a.toNat := fun s ds h1 h2 => by
        have h3 := Nat.dvd_sub ds dv
        have h4 := Nat.eq_zero_of_dvd_of_lt h3 (by omega)
        omega
      refine ⟨fun ble => ⟨i64ok (by omega) (by omega), ?_⟩, fun bgt => ⟨i64ok (by omega) (by omega), fun mlt => ?_, fun mge => ?_⟩⟩
      · refine c84 hz _ wL hLl (ngs stL) (Nat.le_refl _) a0 (by omega) (by omega) ble sA sB fun h6 S w6 st6 so6 m6 => ⟨rfl, i64ok (by omega) (by omega), i64ok (by omega) (by omega), ⟨by omega, by omega, by omega, ?_, _, w6, (Stb.put (by omega) st6).trans stL, fun s ds hs => ?_, fun s ds hs => ?_, m5.trans m6 fun _ _ h => h⟩, by show (n - (a + 2 * bs)).toNat < (n - a).toNat; omega⟩
        · rw [hb2]; exact Nat.dvd_add dv (Nat.dvd_refl _)
        · have hSl := pk (h1 := h6) (L := L) (by omega) (by omega) st6
          rcases Nat.lt_or_ge s a.toNat with c | c
          · rw [seg_put_lo (by omega) (by omega) hSl (lt2 s ds c)]; exact ru1 s ds c
          · have := eq2 s ds c (by omega)
            subst this
            have e : a.toNat + 2 * bs.toNat = (a + 2 * bs).toNat := hb2.symm
            rw [e, seg_put_at (by omega) (by omega) hSl]; exact so6
        · have hSl := pk (h1 := h6) (L := L) (by omega) (by omega) st6
          rw [seg_put_hi (by omega) (by omega) hSl hs]; exact ru2 s ds (by omega)
      · have sB' : Srt (seg L (a + bs).toNat (n : Int).toNat) := by
          rw [Int.toNat_natCast, seg_over (y := (a + 2 * bs).toNat) (by omega) (by omega)]; exact sB
        refine c84 hz _ wL hLl (ngs stL) (Nat.le_refl _) a0 (by omega) mlt (Int.le_refl _) sA sB' fun h7 S w7 st7 so7 m7 => ⟨rfl, i64ok (by omega) (by omega), ⟨by omega, by omega, _, w7, (Stb.put (by omega) st7).trans stL, fun s ds _ => ?_, m5.trans m7 fun _ _ h => h⟩, by show (n - bs * 2).toNat < (n - bs).toNat; omega⟩
        rw [Int.toNat_natCast] at st7 ⊢
        have hSl := pk (h1 := h7) (L := L) (by omega) (by omega) st7
        have e2 : (bs * 2).toNat = 2 * bs.toNat := by omega
        have hpl := putS_len (l := L) (a := a.toNat) (b := n) (by omega) (by omega) hSl
        rw [e2] at ds ⊢
        rcases Nat.lt_or_ge s a.toNat with c | c
        · rw [seg_put_lo (by omega) (by omega) hSl (lt2 s ds c)]; exact ru1 s ds c
        · rcases Nat.lt_or_ge s (a.toNat + 2 * bs.toNat) with c2 | c2
          · have := eq2 s ds c c2
            subst this
            rw [seg_over (y := n) (by omega) (by omega), seg_put_at (by omega) (by omega) hSl]; exact so7
          · exact srt_short (.inl (by omega))
      · refine ⟨i64ok (by omega) (by omega), ⟨by omega, by omega, L, wL, stL, fun s ds _ => ?_, m5⟩, by show (n - bs * 2).toNat < (n - bs).toNat; omega⟩
        have e2 : (bs * 2).toNat = 2 * bs.toNat := by omega
        rw [e2] at ds ⊢
        rcases Nat.lt_or_ge s a.toNat with c | c
        · exact ru1 s ds c
        · rcases Nat.lt_or_ge s (a.toNat + 2 * bs.toNat) with c2 | c2
          · have := eq2 s ds c c2
            subst this
            rw [seg_over (y := (a + bs).toNat) (by omega) (by omega)]; exact sA
          · exact srt_short (.inl (by omega))
    · have := ru4 0 (Nat.dvd_zero _) trivial
      rw [Nat.zero_add, seg_all (by omega)] at this
      exact k h4 L4 w4 st4 this m4
theorem c34 {h : H} {p : Option Addr} {n c bl : Nat} {l : List Itv} (w : OwnV h p bl l) (hn : l.length = n) (hz : n ≤ 1000000) (ng : Nng l) {R : Value → H → Prop}
    (k : ∀ h' S, OwnV h' p bl S → Stb S l → Srt S → Mod (fun c => c = bl) h h' → R (.tuple ⟨[]⟩) h') :
    HC Tryd.prog 34 [.slice p n c, .func (.func 35) ⟨[]⟩ ⟨[]⟩] h R := by
  apply hc34; unfold sh34
  exact c65 w hn hz ng fun h' S w' st so m => ⟨rfl, k h' S w' st so m⟩

/-! ### Deleting -/
theorem c33 {h : H} {x : Itv} {R : Value → H → Prop} (k : ∀ h' q, (q = true ↔ x.reg < 0) → Ext h h' → R (.bool q) h') : HC Tryd.prog 33 [.agg ⟨[.int .i64 x.reg, .int .i64 x.frm, .int .i64 x.to]⟩] h R := by
  apply hc33; unfold sh33; intro b1 h1 hN1
  exact ⟨_, hN1.keep _ Ext.rfl' 0 _ rfl, k _ _ (by simp) hN1.ext⟩
theorem c64 {h : H} {p : Option Addr} {n c bl : Nat} {l : List Itv} (w : OwnV h p bl l) (hn : l.length = n) (hz : n ≤ 1000000) {R : Value → H → Prop}
    (k : ∀ h' (i : Int), ((i = -1 ∧ ∀ x ∈ l, 0 ≤ x.reg) ∨ (0 ≤ i ∧ i < n ∧ (∀ x ∈ l.take i.toNat, 0 ≤ x.reg) ∧ ∃ x, l[i.toNat]? = some x ∧ x.reg < 0)) → Ext h h' → R (.int .i64 i) h') : HC Tryd.prog 64 [.slice p n c, .func (.func 33) ⟨[]⟩ ⟨[]⟩] h R := by
  apply hc64; unfold sh64
  refine fwd n (fun v h' => (∀ x ∈ l.take v.toNat, 0 ≤ x.reg) ∧ Ext h h') (by omega) ⟨fun x hx => by simp at hx, Ext.rfl'⟩ fun v h1 v0 v1 ⟨hv, e1⟩ => ⟨fun vlt => ?_, fun vge => ?_⟩
  · obtain ⟨x, hx⟩ : ∃ x, l[v.toNat]? = some x := ⟨l[v.toNat]'(by omega), by simp⟩
    have w1 : OwnV h1 p bl l := w.ext e1
    obtain ⟨p1, x0, x1, x2⟩ := w1.cell hx
    refine ⟨v0, vlt, onP_at p1 ⟨_, x0, _, x1, _, x2, by kernel_rfl, c33 fun h2 q hq e2 => ⟨q, rfl, fun ht => k h2 v (.inr ⟨v0, vlt, hv, x, hx, hq.1 ht⟩) (e1.trans e2), fun hf => ⟨i64ok (by omega) (by omega), fwd_next v0 vlt ⟨?_, e1.trans e2⟩⟩⟩⟩⟩
    rw [show (v + 1).toNat = v.toNat + 1 by omega, take_succ_all hx]
    refine ⟨hv, ?_⟩
    rcases Int.lt_or_le x.reg 0 with h | h
    · rw [hq.2 h] at hf; cases hf
    · exact h
  · rw [show v.toNat = l.length by omega, List.take_length] at hv
    exact k h1 (-1) (.inl ⟨rfl, hv⟩) e1
def keepL (l : List Itv) : List Itv := l.filter fun x => decide (0 ≤ x.reg)
theorem addr_add (b o k : Nat) : (⟨b, o, none⟩ : Addr).add k = ⟨b, o + k, none⟩ := by
  unfold Addr.add; split
  · rename_i h; rw [h]; rfl
  · rfl
theorem keepL_succ {l : List Itv} {j : Nat} {x : Itv} (hx : l[j]? = some x) : keepL (l.take (j + 1)) = keepL (l.take j) ++ (if 0 ≤ x.reg then [x] else []) := by
  unfold keepL
  rw [List.take_add_one, hx, List.filter_append]
  simp only [Option.toList_some, List.filter_cons, List.filter_nil, decide_eq_true_eq]
theorem keepL_all {l : List Itv} (h : ∀ x ∈ l, 0 ≤ x.reg) : keepL l = l := by
  unfold keepL; rw [List.filter_eq_self]; intro x hx; simpa using h x hx
theorem Own.cut {h : H} {p : Option Addr} {b : Nat} {L : List Itv} (w : OwnV h p b L) (i : Nat) : OwnV h p b (L.take i) := by
  by_cases hL : L = []
  · subst hL; rw [List.take_nil]; exact w
  · obtain ⟨e, r, hb⟩ := w.blk hL
    refine ⟨fun _ => w.ptr hL, fun _ => ⟨e, flat ive (L.drop i) ++ r, ?_⟩⟩
    rw [← List.append_assoc, ← flat_append, List.take_append_drop]; exact hb
theorem c32 {h : H} {p : Option Addr} {n c bl : Nat} {l : List Itv} (w : OwnV h p bl l) (hn : l.length = n) (hc : n ≤ c) (hz : n ≤ 1000000) {R : Value → H → Prop}
    (k : ∀ h', OwnV h' p bl (keepL l) → Mod (fun q => q = bl) h h' → R (.slice p (keepL l).length c) h') : HC Tryd.prog 32 [.slice p n c, .func (.func 33) ⟨[]⟩ ⟨[]⟩] h R := by
  apply hc32; unfold sh32
  refine c64 w hn hz fun h1 i hi e1 => ⟨i, rfl, fun hm => ?_, fun hm => ?_⟩
  · rcases hi with ⟨_, hall⟩ | ⟨h0, _⟩
    · rw [keepL_all hall, hn] at k
      exact k h1 (w.ext e1) (e1.mod.wid fun _ _ h => h.elim)
    · omega
  · rcases hi with ⟨h, _⟩ | ⟨i0, i1, hlo, x0, hx0, hneg⟩
    · exact absurd h hm
    · have hkeep0 : keepL (l.take i.toNat) = l.take i.toNat := keepL_all hlo
      refine ⟨i64ok (by omega) (by omega), fun a j => (fun h' => 0 ≤ a ∧ a < j ∧ j ≤ n ∧ ∃ L, OwnV h' p bl L ∧ L.length = n ∧ L.take a.toNat = keepL (l.take j.toNat) ∧ (∀ q, j.toNat ≤ q → L[q]? = l[q]?) ∧ Mod (fun q => q = bl) h h', fun _ => (n - j).toNat), ⟨i0, by omega, by omega, l, w.ext e1, hn, ?_, fun q _ => rfl, e1.mod.wid fun _ _ h => h.elim⟩, ?_⟩
      · rw [show (i + 1).toNat = i.toNat + 1 by omega, keepL_succ hx0, if_neg (by omega), List.append_nil, hkeep0]
      rintro a j h2 ⟨a0, aj, jn, L, wL, hL, htk, hrest, m2⟩
      refine ⟨fun jlt => ?_, fun jge => ?_⟩
      · obtain ⟨x, hx⟩ : ∃ x, l[j.toNat]? = some x := ⟨l[j.toNat]'(by omega), by simp⟩
        have hxL : L[j.toNat]? = some x := by rw [hrest _ (Nat.le_refl _)]; exact hx
        obtain ⟨y, hy⟩ : ∃ y, L[a.toNat]? = some y := ⟨L[a.toNat]'(by omega), by simp⟩
        obtain ⟨p1, x0, x1, x2⟩ := wL.cell hxL
        have hjs : (j + 1).toNat = j.toNat + 1 := by omega
        refine ⟨by omega, jlt, onP_at p1 ⟨_, x0, _, x1, _, x2, fun bv h3 hN3 => hN3.st rfl rfl rfl rfl fun h4 e4 g4 => ⟨_, g4 _ Ext.rfl' 0 _ rfl, _, g4 _ Ext.rfl' 1 _ rfl, _, g4 _ Ext.rfl' 2 _ rfl, by kernel_rfl, c33 fun h5 q hq e5 => ⟨q, rfl, fun hk => ?_, fun hk => ?_⟩⟩⟩⟩
        · have w5 : OwnV h5 p bl L := wL.ext (e4.trans e5)
          have m5 : Mod (fun q => q = bl) h h5 := m2.trans ((e4.trans e5).mod.wid (S' := fun q => q = bl) fun _ _ h => h.elim) fun _ _ h => h
          have hpos : 0 ≤ x.reg := by
            rcases Int.lt_or_le x.reg 0 with h | h
            · rw [hq.2 h] at hk; cases hk
            · exact h
          refine ⟨_, g4 _ e5 0 _ rfl, _, g4 _ e5 1 _ rfl, _, g4 _ e5 2 _ rfl, a0, by omega, onP_at p1 (w5.whole hy x fun h6 w6 m6 => ⟨i64ok (by omega) (by omega), i64ok (by omega) (by omega), ⟨by omega, by omega, by omega, _, w6, by rw [List.length_set]; exact hL, ?_, fun q hq => ?_, m5.trans m6 fun _ _ h => h⟩, by show (n - (j + 1)).toNat < (n - j).toNat; omega⟩)⟩
          · rw [show (a + 1).toNat = a.toNat + 1 by omega, hjs, keepL_succ hx, if_pos hpos, ← htk, List.take_add_one, List.getElem?_set_self (by omega), List.take_set_of_le (by omega)]; rfl
          · rw [List.getElem?_set_ne (by omega)]; exact hrest q (by omega)
        · refine ⟨i64ok (by omega) (by omega), ⟨by omega, by omega, by omega, L, wL.ext (e4.trans e5), hL, ?_, fun q hq => hrest q (by omega), m2.trans ((e4.trans e5).mod.wid (S' := fun q => q = bl) fun _ _ h => h.elim) fun _ _ h => h⟩, by show (n - (j + 1)).toNat < (n - j).toNat; omega⟩
          have hneg : x.reg < 0 := hq.1 (by simpa using hk)
          rw [hjs, keepL_succ hx, if_neg (by omega), List.append_nil]; exact htk
      · have hj : j.toNat = l.length := by omega
        rw [hj, List.take_length] at htk
        have hkl : (keepL l).length = a.toNat := by rw [← htk, List.length_take]; omega
        have ec : ((c : Int) - 0).toNat = c := by omega
        have ea : (a - 0).toNat = a.toNat := by omega
        have hne : L ≠ [] := by rintro rfl; simp at hL; omega
        have hp := wL.ptr hne
        have hac : a < (c : Int) := by omega
        rw [hkl] at k
        simp only [ec, ea]
        refine ⟨hc, a0, by omega, some ⟨bl, 0 + a.toNat * 3, none⟩, ⟨fun h => by omega, fun _ => by rw [hp, Option.map_some, addr_add]⟩, fun h0 => by omega, fun h0 => ?_⟩
        obtain ⟨e, r, hb⟩ := wL.blk hne
        have fl : (flat ive L).length = n * 3 := by rw [flat_len (k := 3) (fun _ => rfl), hL]
        have fl1 : (flat ive (L.take a.toNat)).length = a.toNat * 3 := by rw [flat_len (k := 3) (fun _ => rfl), List.length_take]; congr 1; omega
        refine onP_at rfl ⟨_, _, hb, by rw [List.length_append, fl]; omega, fun h7 hu => ⟨hc, a0, by omega, p, rfl, k h7 ?_ (m2.trans (hu.mod (S := fun q => q = bl) rfl) fun _ _ h => h)⟩⟩
        rw [← htk]
        have e0 : flat ive L ++ r = flat ive (L.take a.toNat) ++ (flat ive (L.drop a.toNat) ++ r) := by rw [← List.append_assoc, ← flat_append, List.take_append_drop]
        have hlen : (repV [.int .i64 0, .int .i64 0, .int .i64 0] (((n : Int) - a).toNat)).length ≤ (flat ive (L.drop a.toNat) ++ r).length := by
          rw [List.length_append, flat_len (k := 3) (fun _ => rfl), repV_length, List.length_drop]; simp; omega
        refine ⟨fun _ => hp, fun _ => ⟨e, setAt (flat ive (L.drop a.toNat) ++ r) 0 (repV [.int .i64 0, .int .i64 0, .int .i64 0] (((n : Int) - a).toNat)), ?_⟩⟩
        rw [hu.get hb, e0, Nat.zero_add, ← fl1, setAt_tail hlen]
end Go.Proofs.Try

/- slices.Sorted over slices.Values: the walks, but for the sort; slices.Compact. -/
set_option maxRecDepth 100000
set_option linter.unusedVariables false
set_option linter.unusedSimpArgs false
open Go Go.Fw Go.Proofs
namespace Go.Proofs.Try

theorem c60 {lp bf : Nat} {hB h : H} {p : Option Addr} {n c : Nat} {l : List Int} (hn : (n : Int) < 9223372036854775807) (hb : IntsAt hB p n l) (Inv : Int → H → Prop) (hI : ∀ i h', Inv i h' → cell h' ⟨bf, 0, none⟩ = some (.slice p n c) ∧ Ext hB h') (h0 : Inv 0 h)
    (st : ∀ (i : Int) h' x, 0 ≤ i → i < n → Inv i h' → l[i.toNat]? = some x → HY Tryd.prog lp [.int .i64 x] h' fun v h2 => v = .bool true ∧ Inv (i + 1) h2) {R : Value → H → Prop} (fin : ∀ h', Inv n h' → R (.tuple ⟨[]⟩) h') :
    HC Tryd.prog 60 [.func (.yield lp) ⟨[]⟩ ⟨[]⟩, .pointer (some ⟨bf, 0, none⟩)] h R := by
  apply hc60; unfold sh60
  refine ⟨_, _, _, (hI _ _ h0).1, ?_⟩
  refine fwd n Inv (by omega) h0 fun i h1 i0 i1 hi => ⟨fun lt => ?_, fun ge => ?_⟩
  · obtain ⟨g1, g2⟩ := hI _ _ hi
    obtain ⟨x, b', o', hx, hp, hc⟩ := hb.get i0 lt
    refine ⟨i0, lt, onP_at hp ⟨x, g2.cell hc, (st i h1 x i0 lt hi hx).mono ?_⟩⟩
    rintro v h2 ⟨rfl, h3⟩
    exact ⟨true, rfl, fun h => by simp at h, fun _ => ⟨i64ok (by omega) (by omega), fwd_next i0 lt h3⟩⟩
  · have : i = n := by omega
    subst this
    exact fin h1 hi
theorem c75 {bv : Nat} {h : H} {p : Option Addr} {n c : Nat} {l : List Int} (hc0 : cell h ⟨bv, 0, none⟩ = some (.slice p n c)) (hr : IntsAt h p n l) (hs : n * 8 ≤ 140737488355328) {R : Value → H → Prop}
    (k : ∀ h' p' n' c', GrowI h h' p' n' c' l → Ext h h' → R (.slice p' n' c') h') :
    HC Tryd.prog 75 [.slice none 0 0, .func (.func 60) ⟨[]⟩ ⟨[.pointer (some ⟨bv, 0, none⟩)]⟩] h R := by
  have hln := hr.len
  apply hc75; unfold sh75; intro bs h1 hN1
  refine ⟨by kernel_rfl, fun D lp h2 h3 rec hN2 hN3 hy => ?_⟩
  have b1 := hN1.blk; have s1 := hN1.size; have b2 := hN2.blk; have s2 := hN2.size; have b3 := hN3.blk; have s3 := hN3.size
  have e3 : Ext h h3 := (hN1.ext.trans hN2.ext).trans hN3.ext
  let T : Nat → Prop := fun q => q = bs ∨ q = lp ∨ h3.size ≤ q
  have hTe : ∀ {h'}, Fw.Mod T h3 h' → Ext h h' := fun m => m.ext e3 fun q hq hx => by rcases hx with h | h | h <;> omega
  refine c60 (by omega) hr (fun i h' => h'[lp]? = some (.loop rec) ∧ h'[D]? = some (.deferred (some [])) ∧ Fw.Mod T h3 h' ∧ ∃ p' n' c', h'[bs]? = some (.cells ⟨[.slice p' n' c']⟩ 22 (0, 0)) ∧ GrowI h3 h' p' n' c' (l.take i.toNat)) (fun i h' ⟨_, _, m, _⟩ => ⟨(hTe m).cell hc0, hTe m⟩) ⟨hN3.get, hN3.ext _ _ hN2.get, Mod.refl _ _, none, 0, 0, hN3.ext _ _ (hN2.ext _ _ hN1.get), Grow.nil _ _ _ _ _⟩ ?_ fun h7 ⟨gl, gD, m7, p', n', c', gb, g7⟩ => ⟨gl, fun h8 u8 => ?_⟩
  · intro i h4 x i0 i1 ⟨gl, gD, m4, p', n', c', gb, g4⟩ hx
    have hs4 := m4.size
    have hgl := g4.len
    rw [List.length_take] at hgl
    refine hy x h4 _ ⟨gl, rfl, gl, fun h5 u5 => ?_⟩
    have gb5 : h5[bs]? = some (.cells ⟨[.slice p' n' c']⟩ 22 (0, 0)) := by rw [u5.other (by omega)]; exact gb
    have hs5 := u5.size
    refine ⟨_, _, _, by rw [cell_of gb5]; rfl, rfl, by omega, fun bx h9 hN9 => ?_⟩
    have b9 := hN9.blk; have s9 := hN9.size
    have m5 : Fw.Mod T h3 h5 := m4.trans (u5.mod (S := T) (.inr (.inl rfl))) fun _ _ h => h
    have g5 : GrowI h3 h5 p' n' c' (l.take i.toNat) := g4.mod (u5.mod (S := fun q => q = lp) rfl) fun b hb hc e => by have := (g4.lo hb hc).1; omega
    refine Grow.app (enc := fun x : Int => [Value.int .i64 x]) (k := 1) (fun _ => rfl) (g5.ext hN9.ext) (by omega) rfl (m := 1) (l' := [x]) rfl (New.rdc1 hN9 rfl) rfl (by omega) fun p'' c'' h10 g10 m10 L10 => ?_
    have gb10 : h10[bs]? = some (.cells ⟨[.slice p' n' c']⟩ 22 (0, 0)) := m10.get (hN9.ext _ _ gb5) fun ⟨q1, q2⟩ => by have := (g5.lo q1 q2).1; omega
    have s10 := m10.size
    refine ⟨_, _, gb10, by simp, rfl, rfl, fun h11 u11 => ?_⟩
    have gl5 : h5[lp]? = some (.loop { rec with state := .busy }) := u5.get gl
    have gl10 : h10[lp]? = some (.loop { rec with state := .busy }) := m10.get (hN9.ext _ _ gl5) fun ⟨q1, q2⟩ => by have := (g5.lo q1 q2).1; omega
    have gl11 : h11[lp]? = some (.loop { rec with state := .busy }) := by rw [u11.other (by omega)]; exact gl10
    refine ⟨gl11, fun h12 u12 => ⟨rfl, u12.get gl11, ?_, ?_, p'', n' + 1, c'', ?_, ?_⟩⟩
    · rw [u12.other (by omega), u11.other (by omega)]
      refine m10.get (hN9.ext _ _ ?_) fun ⟨q1, q2⟩ => by have := (g5.lo q1 q2).1; omega
      rw [u5.other (by omega)]; exact gD
    · exact (((m5.trans (hN9.mod T) fun _ _ h => h).trans (m10.wid (S' := T) fun q _ ⟨q1, q2⟩ => .inr (.inr (g5.lo q1 q2).1)) fun _ _ h => h).trans (u11.mod (S := T) (.inl rfl)) fun _ _ h => h).trans (u12.mod (S := T) (.inr (.inl rfl))) fun _ _ h => h
    · rw [u12.other (by omega)]; exact u11.get gb10
    · have g11 : GrowI h3 h11 p'' (n' + 1) c'' (l.take i.toNat ++ [x]) := g10.mod (u11.mod (S := fun q => q = bs) rfl) fun b hb hc e => by have := (g10.lo hb hc).1; omega
      rw [show (i + 1).toNat = i.toNat + 1 by omega, List.take_add_one, hx]
      exact g11.mod (u12.mod (S := fun q => q = lp) rfl) fun b hb hc e => by have := (g10.lo hb hc).1; omega
  · have gb8 : h8[bs]? = some (.cells ⟨[.slice p' n' c']⟩ 22 (0, 0)) := by rw [u8.other (by omega)]; exact gb
    have gD8 : h8[D]? = some (.deferred (some [])) := by rw [u8.other (by omega)]; exact gD
    refine ⟨_, _, _, by rw [cell_of gb8]; rfl, gD8, fun h12 u12 => ?_⟩
    rw [Int.toNat_natCast, ← hln, List.take_length] at g7
    have g8 : GrowI h3 h8 p' n' c' l := g7.mod (u8.mod (S := fun q => q = lp) rfl) fun b hb hc e => by have := (g7.lo hb hc).1; omega
    have g12 : GrowI h3 h12 p' n' c' l := g8.mod (u12.mod (S := fun q => q = D) rfl) fun b hb hc e => by have := (g8.lo hb hc).1; omega
    refine k h12 p' n' c' (g12.base e3.size) ?_
    exact ((hTe m7).mod.trans ((u8.mod (S := fun q => q = lp ∨ q = D) (.inl rfl)).trans (u12.mod (S := fun q => q = lp ∨ q = D) (.inr rfl)) fun _ _ h => h) fun q hq hx => by rcases hx with h | h <;> omega).ext0
theorem c58 {bv : Nat} {h : H} {p : Option Addr} {n c : Nat} {l : List Int} (hc0 : cell h ⟨bv, 0, none⟩ = some (.slice p n c)) (hr : IntsAt h p n l) (hs : n * 8 ≤ 140737488355328) {R : Value → H → Prop}
    (k : ∀ h' p' n' c', GrowI h h' p' n' c' l → Ext h h' → R (.slice p' n' c') h') :
    HC Tryd.prog 58 [.func (.func 60) ⟨[]⟩ ⟨[.pointer (some ⟨bv, 0, none⟩)]⟩] h R := by
  apply hc58; unfold sh58
  exact c75 hc0 hr hs fun h' p' n' c' g e => ⟨_, _, _, rfl, k h' p' n' c' g e⟩

/-! ### Compact -/
def NoAdj (L : List Int) : Prop := ∀ (i : Nat) x y, L[i]? = some x → L[i + 1]? = some y → x ≠ y
theorem c28 {h : H} {p : Option Addr} {n c bl : Nat} {l : List Int} (w : OwnI h p bl l) (hn : l.length = n) (hc : n ≤ c) (hz : (n : Int) < 9223372036854775000) {R : Value → H → Prop}
    (k : ∀ h' (m : Nat), (m = n ↔ NoAdj l) → Mod (SB bl l) h h' → R (.slice p m c) h') : HC Tryd.prog 28 [.slice p n c] h R := by
  apply hc28; unfold sh28
  have at_ : ∀ {h' : H} {L : List Int} (i : Int), OwnI h' p bl L → L.length = n → 0 ≤ i → i < n → ∃ x, L[i.toNat]? = some x ∧ p = some ⟨bl, 0, none⟩ ∧ cell h' ⟨bl, i.toNat, none⟩ = some (.int .i64 x) := fun {h'} {L} i w' hL i0 i1 => by
    have hx : L[i.toNat]? = some (L[i.toNat]'(by omega)) := by simp
    have := Own.cell (enc := fun x : Int => [Value.int .i64 x]) (k := 1) (fun _ => rfl) w' hx (j := 0) rfl
    refine ⟨_, hx, this.1, ?_⟩
    have h2 := this.2
    rw [Nat.zero_add, Nat.mul_one, Nat.add_zero] at h2
    exact h2
  refine ⟨fun h2 => ?_, fun h2 => ?_⟩
  · refine k h n ⟨fun _ i x y hx hy => ?_, fun _ => rfl⟩ (Mod.refl _ _)
    have := (List.getElem?_eq_some_iff.1 hy).1; omega
  · refine ⟨fun i => (fun h' => 1 ≤ i ∧ i ≤ n ∧ (∀ (q : Nat) x y, q + 1 < i.toNat → l[q]? = some x → l[q + 1]? = some y → x ≠ y) ∧ h = h', fun _ => (n - i).toNat), ⟨by omega, by omega, fun q x y hq => by simp at hq, rfl⟩, ?_⟩
    rintro i _ ⟨i0, i1, hne, rfl⟩
    refine ⟨fun ilt => ?_, fun ige => ?_⟩
    · obtain ⟨x, hx, hp, cx⟩ := at_ i w hn (by omega) ilt
      obtain ⟨y, hy, _, cy⟩ := at_ (i - 1) w hn (by omega) (by omega)
      refine ⟨by omega, ilt, onP_at hp ⟨i64ok (by omega) (by omega), by omega, by omega, onP_at hp ⟨x, by rw [Nat.zero_add, Nat.mul_one]; exact cx, y, by rw [Nat.zero_add, Nat.mul_one]; exact cy, fun heq => ?_, fun hneq => ⟨i64ok (by omega) (by omega), ⟨by omega, by omega, fun q u v hq hu hv => ?_, rfl⟩, by show (n - (i + 1)).toNat < (n - i).toNat; omega⟩⟩⟩⟩
      · have hnot : ¬ NoAdj l := fun hA => hA (i - 1).toNat y x hy (by rw [show (i - 1).toNat + 1 = i.toNat by omega]; exact hx) heq.symm
        have hq : p.map (fun x => x.add (i.toNat * 1)) = some ⟨bl, i.toNat, none⟩ := by rw [hp, Option.map_some, addr_add, Nat.mul_one, Nat.zero_add]
        refine ⟨hc, by omega, by omega, some ⟨bl, i.toNat, none⟩, ⟨fun h => by omega, fun _ => hq.symm⟩, ?_⟩
        have ns : ((n : Int) - i).toNat = n - i.toNat := by omega
        simp only [ns]
        refine ⟨fun a b => (fun h' => i ≤ a ∧ 1 ≤ b ∧ b ≤ n - i ∧ a ≤ i + b - 1 ∧ ∃ L, OwnI h' p bl L ∧ L.length = n ∧ Mod (fun q => q = bl) h h', fun _ => (n - b).toNat), ⟨by omega, by omega, by omega, by omega, l, w, hn, Mod.refl _ _⟩, ?_⟩
        rintro a b h2 ⟨a0, b0, b1, ab, L, wL, hL, m2⟩
        refine ⟨fun blt => ?_, fun bge => ?_⟩
        · obtain ⟨u, hu, _, cu⟩ := at_ (i + b) wL hL (by omega) (by omega)
          obtain ⟨v, hv, _, cv⟩ := at_ (i + (b - 1)) wL hL (by omega) (by omega)
          have eu : i.toNat + b.toNat * 1 = (i + b).toNat := by omega
          have ev : i.toNat + (b - 1).toNat * 1 = (i + (b - 1)).toNat := by omega
          refine ⟨by omega, blt, onP_at rfl ⟨i64ok (by omega) (by omega), by omega, by omega, onP_at rfl ⟨u, by rw [eu]; exact cu, v, by rw [ev]; exact cv, fun hne => ⟨by omega, blt, onP_at rfl ⟨u, by rw [eu]; exact cu, by omega, by omega, OwnI.put wL (by omega) fun h3 w3 m3 => ⟨i64ok (by omega) (by omega), i64ok (by omega) (by omega), ⟨by omega, by omega, by omega, by omega, _, w3, by rw [List.length_set]; exact hL, m2.trans m3 fun _ _ h => h⟩, by show (n - (b + 1)).toNat < (n - b).toNat; omega⟩⟩⟩, fun hne => ⟨i64ok (by omega) (by omega), ⟨by omega, by omega, by omega, by omega, L, wL, hL, m2⟩, by show (n - (b + 1)).toNat < (n - b).toNat; omega⟩⟩⟩⟩
        · have ec : ((c : Int) - 0).toNat = c := by omega
          have ea : (a - 0).toNat = a.toNat := by omega
          simp only [ec, ea]
          have han : a < n := by omega
          have hq2 : p.map (fun x => x.add (a.toNat * 1)) = some ⟨bl, a.toNat, none⟩ := by rw [hp, Option.map_some, addr_add, Nat.mul_one, Nat.zero_add]
          have kk : ∀ h', Mod (fun q => q = bl) h h' → R (.slice p a.toNat c) h' := fun h' m => k h' a.toNat ⟨fun h => by omega, fun h => absurd h hnot⟩ (m.wid fun _ _ e => ⟨e, by rintro rfl; simp at hn; omega⟩)
          refine ⟨hc, by omega, by omega, some ⟨bl, a.toNat, none⟩, ⟨fun h => by omega, fun _ => hq2.symm⟩, fun h0 => by omega, fun h0 => ?_⟩
          have hne : L ≠ [] := by rintro rfl; simp at hL; omega
          obtain ⟨e, r, hb⟩ := wL.blk hne
          have fl : (flat (fun x : Int => [Value.int .i64 x]) L).length = n := by rw [flat_len (k := 1) (fun _ => rfl), hL, Nat.mul_one]
          refine onP_at rfl ⟨_, _, hb, by rw [List.length_append, fl]; omega, fun h7 hu => ⟨hc, by omega, by omega, p, rfl, kk h7 (m2.trans (hu.mod (S := fun q => q = bl) rfl) fun _ _ h => h)⟩⟩
      · rcases Nat.lt_or_ge (q + 1) i.toNat with h | h
        · exact hne q u v h hu hv
        · have e1 : q = (i - 1).toNat := by omega
          have e2 : q + 1 = i.toNat := by omega
          rw [e2, hx] at hv; cases hv
          rw [e1, hy] at hu; cases hu
          exact fun h => hneq h.symm
    · refine k h n ⟨fun _ q x y hx hy => hne q x y ?_ hx hy, fun _ => rfl⟩ (Mod.refl _ _)
      have := (List.getElem?_eq_some_iff.1 hy).1; omega
end Go.Proofs.Try

/- slices.Sort at []int, by the shelf's contract: its laying at this translation, in plain words; the contract over the heap alone. -/
set_option maxRecDepth 100000
set_option linter.unusedVariables false
set_option linter.unusedSimpArgs false
namespace Go.Proofs
open Go.Shelf
def Tryd.laysSort_ren : Go.Shelf.Ren := ⟨fun | 189 => 59 | 125 => 77 | 257 => 76 | 128 => 96 | 129 => 97 | 294 => 87 | 295 => 88 | 296 => 89 | 297 => 90 | 298 => 91 | 299 => 92 | 216 => 93 | 300 => 94 | 301 => 95 | 328 => 100 | 329 => 101 | 330 => 102 | 331 => 103 | 332 => 104 | 215 => 105 | 343 => 107 | n => n, fun | 28 => 22 | 3 => 3 | 46 => 133 | 0 => 0 | 51 => 152 | 53 => 138 | 4 => 4 | 183 => 145 | 182 => 144 | 131 => 128 | 5 => 5 | 9 => 9 | 218 => 155 | 222 => 159 | 228 => 161 | 229 => 53 | n => n, fun | n => n⟩
theorem Tryd.laysSort : Go.Proofs.Lays.n189 Tryd.prog Tryd.laysSort_ren := {
  mixed := by kernel_rfl
  f125 := Tryd.func77.trans (congrArg some (by kernel_rfl))
  f128 := Tryd.func96.trans (congrArg some (by kernel_rfl))
  f129 := Tryd.func97.trans (congrArg some (by kernel_rfl))
  f189 := Tryd.func59.trans (congrArg some (by kernel_rfl))
  f215 := Tryd.func105.trans (congrArg some (by kernel_rfl))
  f216 := Tryd.func93.trans (congrArg some (by kernel_rfl))
  f257 := Tryd.func76.trans (congrArg some (by kernel_rfl))
  f294 := Tryd.func87.trans (congrArg some (by kernel_rfl))
  f295 := Tryd.func88.trans (congrArg some (by kernel_rfl))
  f296 := Tryd.func89.trans (congrArg some (by kernel_rfl))
  f297 := Tryd.func90.trans (congrArg some (by kernel_rfl))
  f298 := Tryd.func91.trans (congrArg some (by kernel_rfl))
  f299 := Tryd.func92.trans (congrArg some (by kernel_rfl))
  f300 := Tryd.func94.trans (congrArg some (by kernel_rfl))
  f301 := Tryd.func95.trans (congrArg some (by kernel_rfl))
  f328 := Tryd.func100.trans (congrArg some (by kernel_rfl))
  f329 := Tryd.func101.trans (congrArg some (by kernel_rfl))
  f330 := Tryd.func102.trans (congrArg some (by kernel_rfl))
  f331 := Tryd.func103.trans (congrArg some (by kernel_rfl))
  f332 := Tryd.func104.trans (congrArg some (by kernel_rfl))
  f343 := Tryd.func107.trans (congrArg some (by kernel_rfl))
  t0 := Tryd.underlying0
  a0 := Tryd.isAgg0
  z0 := Tryd.sizeOf0
  v0 := Tryd.zeroValue0
  t3 := Tryd.underlying3
  a3 := Tryd.isAgg3
  z3 := Tryd.sizeOf3
  v3 := Tryd.zeroValue3
  t4 := Tryd.underlying4
  a4 := Tryd.isAgg4
  z4 := Tryd.sizeOf4
  v4 := Tryd.zeroValue4
  t5 := Tryd.underlying5
  a5 := Tryd.isAgg5
  z5 := Tryd.sizeOf5
  v5 := Tryd.zeroValue5
  t9 := Tryd.underlying9
  a9 := Tryd.isAgg9
  z9 := Tryd.sizeOf9
  v9 := Tryd.zeroValue9
  t28 := Tryd.underlying22
  a28 := Tryd.isAgg22
  z28 := Tryd.sizeOf22
  v28 := Tryd.zeroValue22
  t46 := Tryd.underlying133
  a46 := Tryd.isAgg133
  z46 := Tryd.sizeOf133
  v46 := Tryd.zeroValue133
  t51 := Tryd.underlying152
  a51 := Tryd.isAgg152
  z51 := Tryd.sizeOf152
  v51 := Tryd.zeroValue152
  t53 := Tryd.underlying138
  a53 := Tryd.isAgg138
  z53 := Tryd.sizeOf138
  v53 := Tryd.zeroValue138
  t131 := Tryd.underlying128
  a131 := Tryd.isAgg128
  z131 := Tryd.sizeOf128
  v131 := Tryd.zeroValue128
  t182 := Tryd.underlying144
  a182 := Tryd.isAgg144
  z182 := Tryd.sizeOf144
  v182 := Tryd.zeroValue144
  t183 := Tryd.underlying145
  a183 := Tryd.isAgg145
  z183 := Tryd.sizeOf145
  v183 := Tryd.zeroValue145
  t218 := Tryd.underlying155
  a218 := Tryd.isAgg155
  z218 := Tryd.sizeOf155
  v218 := Tryd.zeroValue155
  t222 := Tryd.underlying159
  a222 := Tryd.isAgg159
  z222 := Tryd.sizeOf159
  v222 := Tryd.zeroValue159
  t228 := Tryd.underlying161
  a228 := Tryd.isAgg161
  z228 := Tryd.sizeOf161
  v228 := Tryd.zeroValue161
  t229 := Tryd.underlying53
  a229 := Tryd.isAgg53
  z229 := Tryd.sizeOf53
  v229 := Tryd.zeroValue53 }
end Go.Proofs
open Go Go.Fw Go.Proofs
namespace Go.Proofs.Try
open Go.Sort

theorem putCells_eq {l s : List Int} {r : List Value} (hl : s.length = l.length) : putCells (Value.int .i64) 0 s.toArray ⟨flat (fun x : Int => [Value.int .i64 x]) l ++ r⟩ = ⟨flat (fun x : Int => [Value.int .i64 x]) s ++ r⟩ := by
  rw [flat1, flat1]
  unfold putCells
  apply Array.ext_getElem?
  intro k
  rw [Array.getElem?_mapIdx]
  simp only [List.getElem?_toArray, List.size_toArray, Nat.zero_le, true_and, Nat.zero_add, Nat.sub_zero]
  by_cases hk : k < l.length
  · rw [List.getElem?_append_left (by rw [List.length_map]; exact hk), List.getElem?_append_left (by rw [List.length_map]; omega), List.getElem?_map, List.getElem?_map]
    have h1 : l[k]? = some l[k] := by simp [hk]
    have h2 : s[k]? = some (s[k]'(by omega)) := by simp
    rw [h1, h2]
    simp [hl, hk]
  · rw [List.getElem?_append_right (by rw [List.length_map]; omega), List.getElem?_append_right (by rw [List.length_map]; omega), List.length_map, List.length_map, hl]
    cases r[k - l.length]? with
    | none => rfl
    | some v => simp [hl, hk]

theorem c59 {h : H} {p : Option Addr} {n c bl : Nat} {l : List Int} (w : OwnI h p bl l) (hn : l.length = n) (hz : n < 4611686018427387904) {R : Value → H → Prop}
    (k : ∀ h', OwnI h' p bl (l.mergeSort fun x y => decide (x ≤ y)) → Mod (SB bl l) h h' → R (.tuple ⟨[]⟩) h') : HC Tryd.prog 59 [.slice p n c] h R := by
  intro W hW
  subst hW
  by_cases h0 : l = []
  · subst h0
    have : n = 0 := by simpa using hn.symm
    subst this
    refine (calls_of_every_depth fun D => AnyS.slices_Sort_int_none_alone Tryd.laysSort D p c W).mono ?_
    rintro e w' ⟨rfl, rfl⟩
    exact ⟨_, rfl, k _ (by simpa using w) (Mod.refl _ _), rfl, rfl⟩
  · obtain ⟨e, r, hb⟩ := w.blk h0
    have hp := w.ptr h0
    have hH : Holds (Value.int .i64) W bl 0 l.toArray := fun j hj => by
      rw [List.size_toArray] at hj
      refine ⟨?_, by rw [frz_w]; unfold frz; simp [hb]⟩
      rw [cell_w, cell_of hb, flat1, Nat.zero_add, List.getElem?_append_left (by rw [List.length_map]; exact hj), List.getElem?_map]
      simp [hj]
    subst hp
    have key := fun D => AnyS.slices_Sort_int_alone Tryd.laysSort D bl 0 c l W hH (lt_of hb) (by omega)
    simp only [hn] at key
    refine (calls_of_every_depth key).mono ?_
    · rintro _ w' ⟨rfl, m, os, rfl⟩
      have hlen : (l.mergeSort fun x y => decide (x ≤ y)).length = l.length := List.length_mergeSort _
      refine ⟨_, rfl, k _ ⟨fun _ => rfl, fun _ => ⟨e, r, ?_⟩⟩ ⟨?_, fun q hq hne => ?_⟩, rfl, rfl⟩
      · show (Array.modify W.heap bl _ ++ os)[bl]? = _
        rw [Array.getElem?_append_left (by rw [Array.size_modify]; exact lt_of hb), Array.getElem?_modify, if_pos rfl, hb]
        simp only [Option.map_some, onCells]
        rw [putCells_eq hlen]
      · show W.heap.size ≤ (Array.modify W.heap bl _ ++ os).size
        rw [Array.size_append, Array.size_modify]; omega
      · show (Array.modify W.heap bl _ ++ os)[q]? = _
        rw [Array.getElem?_append_left (by rw [Array.size_modify]; exact hq), Array.getElem?_modify, if_neg (fun e => hne ⟨e.symm, h0⟩)]
end Go.Proofs.Try

/- live.Intervals, plain: what is met, kept and sorted is what the document tells. -/
set_option maxRecDepth 100000
set_option linter.unusedVariables false
set_option linter.unusedSimpArgs false
open Go Go.Fw Go.Proofs
namespace Go.Proofs.Try

def initM (R : Nat) : List Itv := List.replicate R ⟨-1, 0, 0⟩
def Mvl (S : Int → Prop) (r : Int) (x : Itv) : Prop := (x.reg = -1 ∧ ∀ p, ¬ S p) ∨ (x.reg = r ∧ S x.frm ∧ S x.to ∧ ∀ p, S p → x.frm ≤ p ∧ p ≤ x.to)
theorem Mvl.meet {S : Int → Prop} {r : Int} {x : Itv} (hr : 0 ≤ r) (h : Mvl S r x) (q : Int) : Mvl (fun p => S p ∨ p = q) r (meetI x r q) := by
  unfold meetI
  rcases h with ⟨h1, h2⟩ | ⟨h1, h2, h3, h4⟩
  · rw [if_pos (by omega)]
    refine .inr ⟨rfl, .inr rfl, .inr rfl, fun p hp => ?_⟩
    rcases hp with hp | hp
    · exact absurd hp (h2 p)
    · subst hp; exact ⟨Int.le_refl _, Int.le_refl _⟩
  · rw [if_neg (by omega)]
    refine .inr ⟨h1, ?_, ?_, fun p hp => ?_⟩
    · show S (if _ then _ else _) ∨ (if _ then _ else _) = q
      split
      · exact .inr rfl
      · exact .inl h2
    · show S (if _ then _ else _) ∨ (if _ then _ else _) = q
      split
      · exact .inr rfl
      · exact .inl h3
    · show (if _ then _ else _) ≤ p ∧ p ≤ (if _ then _ else _)
      rcases hp with hp | hp
      · have := h4 p hp; split <;> split <;> omega
      · subst hp; split <;> split <;> omega
theorem Mvl.iff {S T : Int → Prop} {r : Int} {x : Itv} (h : Mvl S r x) (e : ∀ p, S p ↔ T p) : Mvl T r x := by
  have : S = T := funext fun p => propext (e p)
  rw [← this]; exact h
theorem mts_init {R : Nat} : ∀ (es : List Ev) (l : List Itv) (T : Nat → Int → Prop), (∀ e ∈ es, 0 ≤ e.1) → (∀ (r : Nat) x, l[r]? = some x → Mvl (T r) r x) → ∀ (r : Nat) x, (mts l es)[r]? = some x → Mvl (fun p => T r p ∨ ((r : Int), p) ∈ es) r x
  | [], l, T, _, h, r, x, hx => (h r x hx).iff fun p => by simp
  | e :: es, l, T, he, h, r, x, hx => by
    have e0 := he e (by simp)
    have ih := mts_init (R := R) es (mtE l e) (fun r p => T r p ∨ ((r : Int) = e.1 ∧ p = e.2)) (fun e' he' => he e' (by simp [he'])) ?_ r x hx
    · refine ih.iff fun p => ?_
      rw [List.mem_cons, or_assoc]
      have : ((r : Int) = e.1 ∧ p = e.2) ↔ ((r : Int), p) = e := by
        constructor
        · rintro ⟨a, b⟩; rw [a, b]
        · rintro rfl; exact ⟨rfl, rfl⟩
      rw [this]
    · intro r y hy
      unfold mtE at hy
      split at hy
      · rename_i z hz
        by_cases er : r = e.1.toNat
        · subst er
          rw [List.getElem?_set_self (by exact (List.getElem?_eq_some_iff.1 hz).1)] at hy
          cases hy
          have ee : ((e.1.toNat : Nat) : Int) = e.1 := by omega
          have := (h _ z hz).meet (by omega) e.2
          rw [ee] at this ⊢
          exact this.iff fun p => by simp
        · rw [List.getElem?_set_ne (fun h => er h.symm)] at hy
          refine (h r y hy).iff fun p => ⟨.inl, fun hp => hp.elim id fun ⟨h1, _⟩ => ?_⟩
          omega
      · rename_i hz
        refine (h r y hy).iff fun p => ⟨.inl, fun hp => hp.elim id fun ⟨h1, _⟩ => ?_⟩
        have : r = e.1.toNat := by omega
        subst this; rw [hz] at hy; cases hy
theorem mts_init0 {R : Nat} {es : List Ev} (hes : ∀ e ∈ es, 0 ≤ e.1) {r : Nat} {x : Itv} (hx : (mts (initM R) es)[r]? = some x) : Mvl (fun p => ((r : Int), p) ∈ es) r x := by
  refine (mts_init (R := R) es (initM R) (fun _ _ => False) hes (fun r y hy => ?_) r x hx).iff fun p => by simp
  unfold initM at hy
  rw [List.getElem?_replicate] at hy
  split at hy <;> cases hy
  exact .inl ⟨rfl, fun p h => h⟩

/-! ### Sorted by what they begin with -/
theorem srt_cons {x : Itv} {l : List Itv} (h : Srt (x :: l)) : Srt l ∧ ∀ y ∈ l, x.frm ≤ y.frm := by
  unfold Srt at h ⊢; rw [List.pairwise_cons] at h; exact ⟨h.2, h.1⟩
theorem filter_lt : ∀ {l : List Itv} (m : Int), Srt l → l.filter (fun x => decide (x.frm < m + 1)) = l.filter (fun x => decide (x.frm < m)) ++ l.filter (fun x => decide (x.frm = m))
  | [], m, _ => rfl
  | x :: l, m, h => by
    obtain ⟨h1, h2⟩ := srt_cons h
    have ih := filter_lt m h1
    rcases Int.lt_trichotomy x.frm m with c | c | c
    · rw [List.filter_cons_of_pos (by simp; omega), List.filter_cons_of_pos (by simp; omega), List.filter_cons_of_neg (by simp; omega), ih]; rfl
    · have e : l.filter (fun x => decide (x.frm < m)) = [] := by
        rw [List.filter_eq_nil_iff]; intro y hy; have := h2 y hy; simp; omega
      rw [List.filter_cons_of_pos (by simp; omega), List.filter_cons_of_neg (by simp; omega), List.filter_cons_of_pos (by simp; omega), ih, e]; rfl
    · have e : ∀ (q : Itv → Bool), (∀ y, q y = true → y.frm < m + 1) → (x :: l).filter q = [] := fun q hq => by
        rw [List.filter_eq_nil_iff]; intro y hy hqy
        have := hq y hqy
        rcases List.mem_cons.1 hy with rfl | hy
        · omega
        · have := h2 y hy; omega
      rw [e _ (fun y hy => by simpa using hy), e _ (fun y hy => by simp at hy; omega), e _ (fun y hy => by simp at hy; omega)]; rfl
theorem flat_sorted {S : List Itv} (so : Srt S) (h0 : ∀ x ∈ S, 0 ≤ x.frm) : ∀ m : Nat, ((List.range m).flatMap fun p : Nat => S.filter fun x => decide (x.frm = (p : Int))) = S.filter fun x => decide (x.frm < (m : Int))
  | 0 => by
    symm; rw [List.range_zero, List.flatMap_nil, List.filter_eq_nil_iff]; intro x hx; have := h0 x hx; simp; omega
  | m + 1 => by
    rw [range_succ_flat, flat_sorted so h0 m]
    have := filter_lt (l := S) (m : Int) so
    rw [← this]; rfl
/-- What is kept of the one row is what is met of the other. -/
theorem keep_eq : ∀ {M L : List Itv}, M.length = L.length → (∀ (r : Nat) x y, M[r]? = some x → L[r]? = some y → (x.reg < 0 ∧ y.frm < 0) ∨ (0 ≤ x.reg ∧ x = y ∧ 0 ≤ y.frm)) → keepL M = L.filter fun x => decide (0 ≤ x.frm)
  | [], [], _, _ => rfl
  | [], _ :: _, h, _ => by simp at h
  | _ :: _, [], h, _ => by simp at h
  | x :: M, y :: L, h, hp => by
    have ih := keep_eq (M := M) (L := L) (by simpa using h) fun r u v hu hv => hp (r + 1) u v (by simpa using hu) (by simpa using hv)
    unfold keepL at ih ⊢
    rcases hp 0 x y rfl rfl with ⟨h1, h2⟩ | ⟨h1, rfl, h2⟩
    · rw [List.filter_cons_of_neg (by simp; omega), List.filter_cons_of_neg (by simp; omega), ih]
    · rw [List.filter_cons_of_pos (by simp; omega), List.filter_cons_of_pos (by simp; omega), ih]
/-- **The rows that are sorted are the document's.** -/
theorem intervals_eq {R : Nat} {es es2 : List Ev} (hes : ∀ e ∈ es, 0 ≤ e.1 ∧ 0 ≤ e.2) (hse : ∀ e, e ∈ es ↔ e ∈ es2) {most : Int} (hmost : ∀ e ∈ es, e.2 ≤ most) {S : List Itv} (st : Stb S (keepL (mts (initM R) es2))) (so : Srt S) : S = outL (meets (initL R) es) most := by
  have hes2 : ∀ e ∈ es2, 0 ≤ e.1 := fun e he => (hes e ((hse e).2 he)).1
  have hM : (mts (initM R) es2).length = R := by rw [mts_len]; simp [initM]
  have hL : (meets (initL R) es).length = R := by rw [meets_len]; simp [initL]
  have prop : ∀ (r : Nat) x y, (mts (initM R) es2)[r]? = some x → (meets (initL R) es)[r]? = some y → (x.reg < 0 ∧ y.frm < 0) ∨ (0 ≤ x.reg ∧ x = y ∧ 0 ≤ y.frm) := by
    intro r x y hx hy
    have a := mts_init0 hes2 hx
    obtain ⟨b1, b2⟩ := meets_init hes hy
    rcases a with ⟨a1, a2⟩ | ⟨a1, a2, a3, a4⟩
    · rcases b2 with ⟨c1, _, _⟩ | ⟨c1, _, _⟩
      · exact .inl ⟨by omega, by omega⟩
      · exact absurd ((hse _).1 c1) (a2 _)
    · rcases b2 with ⟨_, _, c3⟩ | ⟨c1, c2, c3⟩
      · exact absurd ((hse _).2 a2) (c3 _)
      · have d1 := a4 _ ((hse _).1 c1)
        have d2 := a4 _ ((hse _).1 c2)
        have d3 := c3 _ ((hse _).2 a2)
        have d4 := c3 _ ((hse _).2 a3)
        have d5 := (hes _ c1).2
        refine .inr ⟨by omega, ?_, d5⟩
        cases x; cases y
        simp only [Itv.mk.injEq] at *
        omega
  have hk := keep_eq (by omega) prop
  rw [hk] at st
  have hb : ∀ x ∈ S, 0 ≤ x.frm ∧ x.frm ≤ most := fun x hx => by
    have h1 := st.mem.1 hx
    rw [List.mem_filter] at h1
    have h0 : 0 ≤ x.frm := by simpa using h1.2
    obtain ⟨r, hr⟩ := List.getElem?_of_mem h1.1
    obtain ⟨b1, b2⟩ := meets_init hes hr
    rcases b2 with ⟨c1, _, _⟩ | ⟨c1, _, _⟩
    · omega
    · exact ⟨h0, hmost _ c1⟩
  have hf := flat_sorted so (fun x hx => (hb x hx).1) (most + 1).toNat
  have hall : S.filter (fun x => decide (x.frm < (((most + 1).toNat : Nat) : Int))) = S := by
    rw [List.filter_eq_self]; intro x hx; have := hb x hx; simp; omega
  rw [hall] at hf
  unfold outL
  rw [← hf]
  have fe : ∀ p : Nat, S.filter (fun x => decide (x.frm = (p : Int))) = (meets (initL R) es).filter fun x => decide (x.frm = (p : Int)) := fun p => by
    rw [st.flt, List.filter_filter]
    apply List.filter_congr
    intro x _
    by_cases h : x.frm = (p : Int)
    · simp [h]
    · simp [h]
  have : (fun p : Nat => S.filter fun x => decide (x.frm = (p : Int))) = fun p : Nat => (meets (initL R) es).filter fun x => decide (x.frm = (p : Int)) := funext fe
  rw [this]

/-! ### The places -/
def lineEv2 (f : Fnc) (TA TB : Nat → List Int) : Int → List Int → List Ev
  | _, [] => []
  | k, b :: bs => blkEv2 (TA b.toNat) (TB b.toNat) k (blkAt f b) ++ lineEv2 f TA TB (k + (((blkAt f b).body.length : Int) + 1)) bs
theorem lineEv2_append (f : Fnc) (A B : Nat → List Int) : ∀ (k : Int) (l m : List Int), lineEv2 f A B k (l ++ m) = lineEv2 f A B k l ++ lineEv2 f A B (lineK f k l) m
  | k, [], m => rfl
  | k, b :: l, m => by simp only [List.cons_append, lineEv2, lineK, List.append_assoc]; rw [lineEv2_append f A B _ l m]
theorem blk_same {A B : List Bool} {ta tb : List Int} {R : Nat} {k : Int} {x : Blk} (hA : ∀ r : Int, r ∈ ta ↔ 0 ≤ r ∧ r < R ∧ bit A r.toNat) (hB : ∀ r : Int, r ∈ tb ↔ 0 ≤ r ∧ r < R ∧ bit B r.toNat) (e : Ev) : e ∈ blkEv A B k x R ↔ e ∈ blkEv2 ta tb k x := by
  unfold blkEv blkEv2
  simp only [List.mem_append, List.mem_flatMap, List.mem_range, rowEv, List.mem_map]
  constructor
  · rintro ((⟨r, hr, h | h⟩ | h) | h)
    · split at h
      · rename_i hb
        rw [List.mem_singleton] at h; subst h
        exact .inl (.inl (.inl ⟨(r : Int), (hA _).2 ⟨by omega, by omega, by rw [Int.toNat_natCast]; exact hb⟩, rfl⟩))
      · simp at h
    · split at h
      · rename_i hb
        rw [List.mem_singleton] at h; subst h
        exact .inr ⟨(r : Int), (hB _).2 ⟨by omega, by omega, by rw [Int.toNat_natCast]; exact hb⟩, rfl⟩
      · simp at h
    · exact .inl (.inl (.inr h))
    · exact .inl (.inr h)
  · rintro (((⟨r, hr, rfl⟩ | h) | h) | ⟨r, hr, rfl⟩)
    · obtain ⟨h1, h2, h3⟩ := (hA r).1 hr
      refine .inl (.inl ⟨r.toNat, by omega, .inl ?_⟩)
      unfold bit at h3
      rw [if_pos h3, List.mem_singleton, show ((r.toNat : Nat) : Int) = r by omega]
    · exact .inl (.inr h)
    · exact .inr h
    · obtain ⟨h1, h2, h3⟩ := (hB r).1 hr
      refine .inl (.inl ⟨r.toNat, by omega, .inr ?_⟩)
      unfold bit at h3
      rw [if_pos h3, List.mem_singleton, show ((r.toNat : Nat) : Int) = r by omega]
theorem line_same {f : Fnc} {A B : Nat → List Bool} {TA TB : Nat → List Int} {R : Nat} (hA : ∀ i < f.blocks.length, ∀ r : Int, r ∈ TA i ↔ 0 ≤ r ∧ r < R ∧ bit (A i) r.toNat) (hB : ∀ i < f.blocks.length, ∀ r : Int, r ∈ TB i ↔ 0 ≤ r ∧ r < R ∧ bit (B i) r.toNat) :
    ∀ (l : List Int) (k : Int), (∀ v ∈ l, 0 ≤ v ∧ v < f.blocks.length) → ∀ e, e ∈ lineEv f A B R k l ↔ e ∈ lineEv2 f TA TB k l
  | [], k, _, e => Iff.rfl
  | b :: l, k, h, e => by
    have hb := h b (by simp)
    simp only [lineEv, lineEv2, List.mem_append]
    rw [blk_same (hA b.toNat (by omega)) (hB b.toNat (by omega)), line_same hA hB l _ fun v hv => h v (by simp [hv])]
end Go.Proofs.Try

/- The functions 10 of the seat live: their text in the framework, and what each asks. -/
set_option maxRecDepth 100000
set_option linter.unusedVariables false
set_option linter.unusedSimpArgs false
open Go Go.Fw Go.Proofs
namespace Go.Proofs.Try
/- quern/live.Intervals -/
def fl10 : FL := ⟨105, (.seq (.reg [se 2 (.box 25 (t 0)), sv 4 (.mov (.const (Go.Value.slice none 0 0))), sv 5 (.mov (ci 0))]) (.seq (.seq (.reg [se 16 (.call 25 [(t 2)] (.one .bool)), sv 17 (.no (t 16))]) (.cond (t 17) (.seq (.reg [sv 4 (.mov (.const (Go.Value.slice none 0 0))), sv 5 (.mov (ci 140))]) .ret) .skip)) (.seq (.seq (.reg [sv 18 (.mov (t 1)), se 19 (.call 27 [(t 18)] (.one .any)), se 20 (.call 26 [(t 19)] (.one .slice)), sv 6 (.mov (t 20))]) (.seq (.reg [sv 21 (.mov (t 1)), sv 22 (.len (t 21)), sv 23 (.fad 4 (t 2)), sv 24 (.ld .slice (t 23)), sv 25 (.len (t 24)), sv 26 (.cmp .neq (t 22) (t 25)), sv 27 (.mov (t 26)), ⟨some 28, some (27, false), .v (.mov (t 6))⟩, ⟨some 29, some (27, false), .v (.idx 1 (t 28) (ci 0))⟩, ⟨some 30, some (27, false), .v (.ld (.int .i64) (t 29))⟩, ⟨some 31, some (27, false), .v (.cmp .neq (t 30) (ci 0))⟩, sv 32 (.pick (t 27) (cb true) (t 31)), sv 33 (.mov (t 32)), ⟨some 34, some (33, false), .v (.mov (t 6))⟩, ⟨some 35, some (33, false), .v (.mov (t 1))⟩, ⟨some 36, some (33, false), .v (.len (t 35))⟩, ⟨some 37, some (33, false), .v (.ar .sub true (t 36) (ci 1))⟩, ⟨some 38, some (33, false), .v (.idx 1 (t 34) (t 37))⟩, ⟨some 39, some (33, false), .v (.ld (.int .i64) (t 38))⟩, ⟨some 40, some (33, false), .v (.mov (t 1))⟩, ⟨some 41, some (33, false), .v (.len (t 40))⟩, ⟨some 42, some (33, false), .v (.ar .sub true (t 41) (ci 1))⟩, ⟨some 43, some (33, false), .v (.cmp .neq (t 39) (t 42))⟩, sv 44 (.pick (t 33) (cb true) (t 43)), sv 45 (.mov (t 44)), ⟨some 46, some (45, false), .v (.mov (t 6))⟩, ⟨some 47, some (45, false), .e (.call 28 [(t 46)] (.one .slice))⟩, ⟨some 48, some (45, false), .v (.len (t 47))⟩, ⟨some 49, some (45, false), .v (.mov (t 1))⟩, ⟨some 50, some (45, false), .v (.len (t 49))⟩, ⟨some 51, some (45, false), .v (.cmp .neq (t 48) (t 50))⟩, sv 52 (.pick (t 45) (cb true) (t 51))]) (.cond (t 52) (.seq (.reg [sv 4 (.mov (.const (Go.Value.slice none 0 0))), sv 5 (.mov (ci 170))]) .ret) .skip))) (.seq (.reg [se 53 (.call 29 [(t 2)] (.one .ptr)), sv 7 (.mov (t 53))]) (.seq (.reg [sv 54 (.fad 2 (t 2)), sv 55 (.ld (.int .i64) (t 54)), se 56 (.mks 52 3 24 [.int .i64 0, .int .i64 0, .int .i64 0] (t 55) (t 55)), sv 8 (.mov (t 56))]) (.seq (.seq (.reg [sv 57 (.mov (t 8)), sv 58 (.len (t 57)), sv 59 (.mov (ci 0))]) (.block 0 (.loop [(59, (.one (.int .i64)))] [9, 59, 60, 61, 62, 63, 64, 65, 66] (.seq (.reg [sv 60 (.cmp .lss (t 59) (t 58))]) (.seq (.cond (t 60) .skip (.exit 0)) (.seq (.block 1 (.seq (.reg [sv 61 (.mov (t 59)), sv 9 (.mov (t 61))]) (.reg [sv 62 (.mov (t 8)), sv 63 (.mov (t 9)), sv 64 (.idx 3 (t 62) (t 63)), sv 65 (.fad 0 (t 64)), ne (.sto 1 (t 65) (ci (-1)))]))) (.reg [sv 66 (.ar .add true (t 59) (ci 1)), sv 59 (.mov (t 66))]))))))) (.seq (.seq (.reg [sv 67 (.fad 1 (t 2)), sv 68 (.ld .slice (t 67)), sv 69 (.len (t 68)), sv 70 (.mov (ci 0))]) (.block 2 (.loop [(70, (.one (.int .i64)))] [11, 70, 71, 72, 73, 74, 75, 76, 77] (.seq (.reg [sv 71 (.cmp .lss (t 70) (t 69))]) (.seq (.cond (t 71) .skip (.exit 2)) (.seq (.block 3 (.seq (.reg [sv 72 (.idx 1 (t 68) (t 70)), sv 73 (.ld (.int .i64) (t 72)), sv 11 (.mov (t 73))]) (.reg [sv 74 (.mov (t 8)), sv 75 (.mov (t 11)), se 76 (.call 30 [(t 74), (t 75), (ci 0)] .unit)]))) (.reg [sv 77 (.ar .add true (t 70) (ci 1)), sv 70 (.mov (t 77))]))))))) (.seq (.reg [sv 12 (.mov (ci 0))]) (.seq (.seq (.reg [sv 78 (.mov (t 1)), sv 79 (.len (t 78)), sv 80 (.mov (ci 0))]) (.block 4 (.loop [(12, (.one (.int .i64))), (80, (.one (.int .i64)))] [12, 14, 80, 81, 82, 83, 84, 85, 86, 87, 88, 89, 90, 91, 92, 93, 94, 95, 96, 97, 98, 99] (.seq (.reg [sv 81 (.cmp .lss (t 80) (t 79))]) (.seq (.cond (t 81) .skip (.exit 4)) (.seq (.block 5 (.seq (.reg [sv 82 (.idx 1 (t 78) (t 80)), sv 83 (.ld (.int .i64) (t 82)), sv 14 (.mov (t 83))]) (.seq (.reg [sv 84 (.mov (t 8)), sv 85 (.mov (t 7)), sv 86 (.mov (t 14)), sv 87 (.mov (t 12)), se 88 (.call 31 [(t 84), (t 85), (t 86), (t 87)] .unit)]) (.reg [sv 89 (.mov (t 12)), sv 90 (.fad 4 (t 2)), sv 91 (.ld .slice (t 90)), sv 92 (.mov (t 14)), sv 93 (.idx 4 (t 91) (t 92)), sv 94 (.fad 0 (t 93)), sv 95 (.ld .slice (t 94)), sv 96 (.len (t 95)), sv 97 (.ar .add true (t 96) (ci 1)), sv 98 (.ar .add true (t 89) (t 97)), sv 12 (.mov (t 98))])))) (.reg [sv 99 (.ar .add true (t 80) (ci 1)), sv 80 (.mov (t 99))]))))))) (.seq (.reg [sv 100 (.mov (t 8)), se 101 (.call 32 [(t 100), (.func 33)] (.one .slice)), sv 15 (.mov (t 101))]) (.seq (.reg [sv 102 (.mov (t 15)), se 103 (.call 34 [(t 102), (.func 35)] .unit)]) (.seq (.reg [sv 104 (.mov (t 15)), sv 4 (.mov (t 104)), sv 5 (.mov (ci 0))]) .ret)))))))))))), [.tmp 4, .tmp 5]⟩
theorem ck10 : chkFL Tryd.prog 10 fl10 = true := by kernel_rfl
def sh10 (f_0 : ByteArray) (af_0 : Option Addr) (nf_0 cf_0 : Nat) (f_0_1 : Int) (f_0_2 : Int) (af_0_1 : Option Addr) (nf_0_1 cf_0_1 : Nat) (aline_1 : Option Addr) (nline_1 cline_1 : Nat) (h : H) (R : Value → H → Prop) : Prop :=
 ∀ (bf_2 : Nat) (h1 : H), New h (.cells ⟨[(.string f_0), (.slice af_0 nf_0 cf_0), (.int .i64 f_0_1), (.int .i64 f_0_2), (.slice af_0_1 nf_0_1 cf_0_1)]⟩ 25) bf_2 h1 →
 HC Tryd.prog 25 [(.pointer (some ⟨bf_2, 0, none⟩))] h1 fun rv_16 h2 =>
 ∃ (v_16 : Bool), rv_16 = (.bool v_16) ∧
 (((!v_16) = true →
 R (.tuple ⟨[(.slice none 0 0), (.int .i64 140)]⟩) h2) ∧
 ((!v_16) = false →
 HC Tryd.prog 27 [(.slice aline_1 nline_1 cline_1)] h2 fun rv_19 h3 =>
 ∃ (v_19 : Value), rv_19 = v_19 ∧
 HC Tryd.prog 26 [v_19] h3 fun rv_20 h4 =>
 ∃ (av_20 : Option Addr) (nv_20 cv_20 : Nat), rv_20 = (.slice av_20 nv_20 cv_20) ∧
 ∃ (av_24 : Option Addr) (nv_24 cv_24 : Nat), cell h4 ⟨bf_2, (0 + 4), none⟩ = some (.slice av_24 nv_24 cv_24) ∧
 (((¬ (↑nline_1 : Int) = (↑nv_24 : Int)) →
 R (.tuple ⟨[(.slice none 0 0), (.int .i64 170)]⟩) h4) ∧
 (¬ (¬ (↑nline_1 : Int) = (↑nv_24 : Int)) →
 0 ≤ (0 : Int) ∧ 0 < (↑nv_20 : Int) ∧
 (onP av_20 fun bv_29 ov_29 =>
 ∃ (v_30 : Int), cell h4 ⟨bv_29, (ov_29 + ((0 : Int)).toNat * 1), none⟩ = some (.int .i64 v_30) ∧
 (((¬ v_30 = 0) →
 R (.tuple ⟨[(.slice none 0 0), (.int .i64 170)]⟩) h4) ∧
 (¬ (¬ v_30 = 0) →
 InR .i64 ((↑nline_1 : Int) - 1) ∧
 0 ≤ ((↑nline_1 : Int) - 1) ∧ ((↑nline_1 : Int) - 1) < (↑nv_20 : Int) ∧
 (onP av_20 fun bv_38 ov_38 =>
 ∃ (v_39 : Int), cell h4 ⟨bv_38, (ov_38 + (((↑nline_1 : Int) - 1)).toNat * 1), none⟩ = some (.int .i64 v_39) ∧
 InR .i64 ((↑nline_1 : Int) - 1) ∧
 (((¬ v_39 = ((↑nline_1 : Int) - 1)) →
 R (.tuple ⟨[(.slice none 0 0), (.int .i64 170)]⟩) h4) ∧
 (¬ (¬ v_39 = ((↑nline_1 : Int) - 1)) →
 HC Tryd.prog 28 [(.slice av_20 nv_20 cv_20)] h4 fun rv_47 h5 =>
 ∃ (av_47 : Option Addr) (nv_47 cv_47 : Nat), rv_47 = (.slice av_47 nv_47 cv_47) ∧
 (((¬ (↑nv_47 : Int) = (↑nline_1 : Int)) →
 R (.tuple ⟨[(.slice none 0 0), (.int .i64 170)]⟩) h5) ∧
 (¬ (¬ (↑nv_47 : Int) = (↑nline_1 : Int)) →
 HC Tryd.prog 29 [(.pointer (some ⟨bf_2, 0, none⟩))] h5 fun rv_53 h6 =>
 ∃ (pv_53 : Option Addr), rv_53 = (.pointer pv_53) ∧
 ∃ (v_55 : Int), cell h6 ⟨bf_2, (0 + 2), none⟩ = some (.int .i64 v_55) ∧
 0 ≤ v_55 ∧ v_55 ≤ v_55 ∧ v_55 * 24 ≤ 140737488355328 ∧
 ∀ (bv_56 : Nat) (h7 : H), New h6 (.cells ⟨repV [.int .i64 0, .int .i64 0, .int .i64 0] (v_55).toNat⟩ 52) bv_56 h7 →
 ∃ J : Int → LI, (J 0).1 h7 ∧
 ∀ (v_59 : Int), ∀ h8 : H, (J v_59).1 h8 →
 (((v_59 < (↑((v_55).toNat) : Int)) →
 0 ≤ v_59 ∧ v_59 < (↑((v_55).toNat) : Int) ∧
 stQ 1 h8 bv_56 ((0 + (v_59).toNat * 3) + 0) [(.int .i64 (-1))] fun h9 =>
 InR .i64 (v_59 + 1) ∧
 (J (v_59 + 1)).1 h9 ∧ (J (v_59 + 1)).2 h9 < (J v_59).2 h8) ∧
 (¬ (v_59 < (↑((v_55).toNat) : Int)) →
 ∃ (av_68 : Option Addr) (nv_68 cv_68 : Nat), cell h8 ⟨bf_2, (0 + 1), none⟩ = some (.slice av_68 nv_68 cv_68) ∧
 ∃ J_1 : Int → LI, (J_1 0).1 h8 ∧
 ∀ (v_70 : Int), ∀ h10 : H, (J_1 v_70).1 h10 →
 (((v_70 < (↑nv_68 : Int)) →
 0 ≤ v_70 ∧ v_70 < (↑nv_68 : Int) ∧
 (onP av_68 fun bv_72 ov_72 =>
 ∃ (v_73 : Int), cell h10 ⟨bv_72, (ov_72 + (v_70).toNat * 1), none⟩ = some (.int .i64 v_73) ∧
 HC Tryd.prog 30 [(.slice (some ⟨bv_56, 0, none⟩) ((v_55).toNat) ((v_55).toNat)), (.int .i64 v_73), (.int .i64 0)] h10 fun rv_76 h11 =>
 rv_76 = (.tuple ⟨[]⟩) ∧
 InR .i64 (v_70 + 1) ∧
 (J_1 (v_70 + 1)).1 h11 ∧ (J_1 (v_70 + 1)).2 h11 < (J_1 v_70).2 h10)) ∧
 (¬ (v_70 < (↑nv_68 : Int)) →
 ∃ J_2 : Int → Int → LI, (J_2 0 0).1 h10 ∧
 ∀ (k_12 : Int), ∀ (v_80 : Int), ∀ h12 : H, (J_2 k_12 v_80).1 h12 →
 (((v_80 < (↑nline_1 : Int)) →
 0 ≤ v_80 ∧ v_80 < (↑nline_1 : Int) ∧
 (onP aline_1 fun bv_82 ov_82 =>
 ∃ (v_83 : Int), cell h12 ⟨bv_82, (ov_82 + (v_80).toNat * 1), none⟩ = some (.int .i64 v_83) ∧
 HC Tryd.prog 31 [(.slice (some ⟨bv_56, 0, none⟩) ((v_55).toNat) ((v_55).toNat)), (.pointer pv_53), (.int .i64 v_83), (.int .i64 k_12)] h12 fun rv_88 h13 =>
 rv_88 = (.tuple ⟨[]⟩) ∧
 ∃ (av_91 : Option Addr) (nv_91 cv_91 : Nat), cell h13 ⟨bf_2, (0 + 4), none⟩ = some (.slice av_91 nv_91 cv_91) ∧
 0 ≤ v_83 ∧ v_83 < (↑nv_91 : Int) ∧
 (onP av_91 fun bv_93 ov_93 =>
 ∃ (av_95 : Option Addr) (nv_95 cv_95 : Nat), cell h13 ⟨bv_93, ((ov_93 + (v_83).toNat * 4) + 0), none⟩ = some (.slice av_95 nv_95 cv_95) ∧
 InR .i64 ((↑nv_95 : Int) + 1) ∧
 InR .i64 (k_12 + ((↑nv_95 : Int) + 1)) ∧
 InR .i64 (v_80 + 1) ∧
 (J_2 (k_12 + ((↑nv_95 : Int) + 1)) (v_80 + 1)).1 h13 ∧ (J_2 (k_12 + ((↑nv_95 : Int) + 1)) (v_80 + 1)).2 h13 < (J_2 k_12 v_80).2 h12))) ∧
 (¬ (v_80 < (↑nline_1 : Int)) →
 HC Tryd.prog 32 [(.slice (some ⟨bv_56, 0, none⟩) ((v_55).toNat) ((v_55).toNat)), (.func (.func 33) ⟨[]⟩ ⟨[]⟩)] h12 fun rv_101 h14 =>
 ∃ (av_101 : Option Addr) (nv_101 cv_101 : Nat), rv_101 = (.slice av_101 nv_101 cv_101) ∧
 HC Tryd.prog 34 [(.slice av_101 nv_101 cv_101), (.func (.func 35) ⟨[]⟩ ⟨[]⟩)] h14 fun rv_103 h15 =>
 rv_103 = (.tuple ⟨[]⟩) ∧
 R (.tuple ⟨[(.slice av_101 nv_101 cv_101), (.int .i64 0)]⟩) h15))))))))))))))))))
theorem hc10 {f_0 : ByteArray} {af_0 : Option Addr} {nf_0 cf_0 : Nat} {f_0_1 : Int} {f_0_2 : Int} {af_0_1 : Option Addr} {nf_0_1 cf_0_1 : Nat} {aline_1 : Option Addr} {nline_1 cline_1 : Nat} {h : H} {R : Value → H → Prop} (x : sh10 f_0 af_0 nf_0 cf_0 f_0_1 f_0_2 af_0_1 nf_0_1 cf_0_1 aline_1 nline_1 cline_1 h R) : HC Tryd.prog 10 [(.agg ⟨[(.string f_0), (.slice af_0 nf_0 cf_0), (.int .i64 f_0_1), (.int .i64 f_0_2), (.slice af_0_1 nf_0_1 cf_0_1)]⟩), (.slice aline_1 nline_1 cline_1)] h R :=
  FL.sound mixed ck10 ⟨rfl, Eq.mp (by unfold sh10; kernel_rfl) x⟩
end Go.Proofs.Try

/- live.Intervals: the walk. -/
set_option maxRecDepth 100000
set_option linter.unusedVariables false
set_option linter.unusedSimpArgs false
open Go Go.Fw Go.Proofs
namespace Go.Proofs.Try

abbrev srtI (l : List Int) : List Int := l.mergeSort fun x y => decide (x ≤ y)
theorem srtI_pw (l : List Int) : (srtI l).Pairwise (· ≤ ·) := by
  have := List.pairwise_mergeSort (le := fun x y : Int => decide (x ≤ y)) (fun a b c h1 h2 => by simp at *; omega) (fun a b => by simp; omega) l
  simpa using this
theorem strict_of {l : List Int} (h : l.Pairwise (· ≤ ·)) (hn : NoAdj l) : l.Pairwise (· < ·) := by
  rw [List.pairwise_iff_getElem] at h ⊢
  intro i j h1 h2 hij
  have a1 : l[i] < l[i + 1]'(by omega) := by
    have x1 := h i (i + 1) h1 (by omega) (by omega)
    have x2 := hn i l[i] (l[i + 1]'(by omega)) (by simp) (by simp)
    omega
  rcases Nat.lt_or_ge (i + 1) j with c | c
  · have := h (i + 1) j (by omega) h2 c; omega
  · have : j = i + 1 := by omega
    subst this; exact a1
theorem inc_ge : ∀ {l : List Int} {n : Nat}, l.Pairwise (· < ·) → (∀ x ∈ l, x < n) → ∀ (i : Nat) (x : Int), l[i]? = some x → x + l.length ≤ n + i := by
  intro l n hp hb i
  -- downward from the end
  have key : ∀ (d i : Nat) (x : Int), i + d + 1 = l.length → l[i]? = some x → x + d + 1 ≤ n := by
    intro d
    induction d with
    | zero => intro i x hi hx; have := hb x (List.mem_of_getElem? hx); omega
    | succ d ih =>
      intro i x hi hx
      have h1 : l[i + 1]? = some (l[i + 1]'(by omega)) := by simp
      have h2 := ih (i + 1) _ (by omega) h1
      obtain ⟨h3, h4⟩ := List.getElem?_eq_some_iff.1 hx
      have h5 := List.pairwise_iff_getElem.1 hp i (i + 1) h3 (by omega) (by omega)
      rw [h4] at h5
      omega
  intro x hx
  have hlt := (List.getElem?_eq_some_iff.1 hx).1
  have := key (l.length - 1 - i) i x (by omega) hx
  omega
/-- A line, by its numbers in their order. -/
theorem line_iff {l : List Int} {n : Nat} (hl : l.length = n) (hn : 0 < n) : LineP l n ↔ ((srtI l)[0]? = some 0 ∧ (srtI l)[n - 1]? = some ((n : Int) - 1) ∧ NoAdj (srtI l)) := by
  have hp : (srtI l).Perm l := List.mergeSort_perm l _
  have hlen : (srtI l).length = n := by rw [hp.length_eq]; exact hl
  constructor
  · rintro ⟨h1, h2, h3⟩
    have hne : (srtI l).Pairwise (· ≠ ·) := (hp.pairwise_iff (fun h => Ne.symm h)).2 h2
    have hna : NoAdj (srtI l) := fun i x y hx hy => by
      obtain ⟨a1, rfl⟩ := List.getElem?_eq_some_iff.1 hx
      obtain ⟨a2, rfl⟩ := List.getElem?_eq_some_iff.1 hy
      exact List.pairwise_iff_getElem.1 hne i (i + 1) a1 a2 (by omega)
    have hs := strict_of (srtI_pw l) hna
    have hb : ∀ x ∈ srtI l, 0 ≤ x ∧ x < n := fun x hx => h1 x (hp.mem_iff.1 hx)
    have at_ : ∀ i < n, (srtI l)[i]? = some (i : Int) := fun i hi => by
      have hx : (srtI l)[i]? = some ((srtI l)[i]'(by omega)) := by simp
      have a1 := inc_le hs (fun x hx => (hb x hx).1) i _ hx
      have a2 := inc_ge hs (fun x hx => (hb x hx).2) i _ hx
      rw [hx]; congr 1; omega
    exact ⟨at_ 0 hn, by rw [at_ (n - 1) (by omega)]; congr 1; omega, hna⟩
  · rintro ⟨h1, h2, hna⟩
    have hs := strict_of (srtI_pw l) hna
    have hb : ∀ x ∈ srtI l, 0 ≤ x ∧ x < n := fun x hx => by
      obtain ⟨i, hi⟩ := List.getElem?_of_mem hx
      have hlt := (List.getElem?_eq_some_iff.1 hi).1
      have hle := List.pairwise_iff_getElem.1 (srtI_pw l)
      obtain ⟨a0, e0⟩ := List.getElem?_eq_some_iff.1 h1
      obtain ⟨a1, e1⟩ := List.getElem?_eq_some_iff.1 h2
      obtain ⟨_, ei⟩ := List.getElem?_eq_some_iff.1 hi
      have c1 : (0 : Int) ≤ x := by
        rcases Nat.eq_zero_or_pos i with e | e
        · subst e; omega
        · have := hle 0 i a0 hlt e; omega
      have c2 : x ≤ (n : Int) - 1 := by
        rcases Nat.lt_or_ge i (n - 1) with e | e
        · have := hle i (n - 1) hlt a1 e; omega
        · have : i = n - 1 := by omega
          subst this; omega
      omega
    refine ⟨fun v hv => hb v (hp.mem_iff.2 hv), ?_, hl⟩
    refine (hp.pairwise_iff (fun h => Ne.symm h)).1 (hs.imp fun h => by omega)
theorem rep3 (x : Itv) (n : Nat) : repV (ive x) n = flat ive (List.replicate n x) := by
  unfold repV flat
  induction n with
  | zero => rfl
  | succ n ih => rw [List.replicate_succ, List.flatten_cons, List.replicate_succ, List.flatMap_cons, ih]
theorem lineK_take {f : Fnc} {l : List Int} {v : Nat} {b : Int} (hb : l[v]? = some b) : lineK f 0 (l.take (v + 1)) = lineK f 0 (l.take v) + (((blkAt f b).body.length : Int) + 1) := by
  rw [List.take_add_one, hb, lineK_append]; rfl
theorem lineEv2_take {f : Fnc} {TA TB : Nat → List Int} {l : List Int} {v : Nat} {b : Int} (hb : l[v]? = some b) : lineEv2 f TA TB 0 (l.take (v + 1)) = lineEv2 f TA TB 0 (l.take v) ++ blkEv2 (TA b.toNat) (TB b.toNat) (lineK f 0 (l.take v)) (blkAt f b) := by
  rw [List.take_add_one, hb, lineEv2_append]; simp [lineEv2]

set_option maxHeartbeats 4000000 in
theorem c10 {h : H} {f : Fnc} {fp : Option Addr} {fn fc : Nat} {fq : Option Addr} {fm fd : Nat} {lp : Option Addr} {lm lc : Nat} {line : List Int} {R : Value → H → Prop} (ht : TabAt h) (hF : FncD h (fv f fp fn fc fq fm fd) f) (hz : SzF f) (hs : SzR f) (hl : IntsAt h lp lm line) (hzl : lm * 8 ≤ 140737488355328)
    (k1 : ¬ FncP f → ∀ h', Ext h h' → R (.tuple ⟨[.slice none 0 0, .int .i64 140]⟩) h')
    (k2 : FncP f → ¬ LineP line f.blocks.length → ∀ h', Ext h h' → R (.tuple ⟨[.slice none 0 0, .int .i64 170]⟩) h')
    (k3 : FncP f → LineP line f.blocks.length → ∀ p n c b S h', OwnV h' p b S → S.length = n → (S ≠ [] → h.size ≤ b) → (∀ A B, Fin f A B → S = outL (meets (initL f.regs.toNat) (allEv f A B line)) (2 * lineK f 0 line + 1)) → Ext h h' → R (.tuple ⟨[.slice p n c, .int .i64 0]⟩) h') :
    HC Tryd.prog 10 [.agg ⟨fv f fp fn fc fq fm fd⟩, .slice lp lm lc] h R := by
  have hln := hl.len
  apply hc10; unfold sh10; intro bf h1 hN1
  have e1 := hN1.ext
  have b1 := hN1.blk
  have s1 := hN1.size
  have hf1 : FncAt h1 bf 0 f := ⟨_, hF.ext e1, fun j v hj => by rw [Nat.zero_add]; exact hN1.keep _ Ext.rfl' j v hj⟩
  refine c25 hf1 hz fun q h2 e2 hq => ⟨q, rfl, fun hqn => ?_, fun hqy => ?_⟩
  · exact k1 (fun hP => by have := hq.2 hP; rw [this] at hqn; simp at hqn) h2 (e1.trans e2)
  have hP : FncP f := hq.1 (by simpa using hqy)
  have hreg : 0 ≤ f.regs ∧ f.regs ≤ 262144 := ⟨hP.1.1, hP.1.2.1⟩
  have hnb0 : f.blocks.length ≠ 0 := hP.1.2.2.2.2.2
  have hnb := hs.nb
  apply hc27; unfold sh27; intro bs h3 hN3
  have b3 := hN3.blk
  have s3 := hN3.size
  have e3 : Ext h h3 := (e1.trans e2).trans hN3.ext
  have s2 := e2.size
  refine ⟨_, rfl, ?_⟩
  apply hc26; unfold sh26
  refine c58 (hN3.keep _ Ext.rfl' 0 _ rfl) (hl.ext e3) hzl fun h4 p' n' c' g4 e4 => ⟨_, _, _, rfl, ?_⟩
  obtain ⟨bo, wo, hbo⟩ := g4.own
  have hln' := g4.len
  have hle' := g4.le
  refine c59 wo hln' (by omega) fun h5 w5 m5 => ⟨rfl, _, _, _, rfl, ?_⟩
  have hperm : (srtI line).Perm line := List.mergeSort_perm line _
  have hlS : (srtI line).length = n' := by rw [hperm.length_eq]; exact hln'
  have s4 := e4.size
  have e5 : Ext h h5 := m5.ext (e3.trans e4) fun c hc ⟨q1, q2⟩ => by have := hbo q2; have := e3.size; omega
  have e15 : Ext h1 h5 := m5.ext ((e2.trans hN3.ext).trans e4) fun c hc ⟨q1, q2⟩ => by have := hbo q2; omega
  have hf5 := hf1.ext e15
  obtain ⟨p5, n5, c5, q5, m5', d5, C5⟩ := hf5.cells
  have hbl5 := C5.bs.len
  refine ⟨_, _, _, C5.c4, fun hne => ?_, fun heq => ?_⟩
  · exact k2 hP (fun hL => hne (by have := hL.2.2; omega)) h5 e5
  have hlm : lm = m5' := by omega
  have hlnb : line.length = f.blocks.length := by omega
  have hiff := line_iff hlnb (by omega)
  have n0 : 0 < n' := by omega
  obtain ⟨z0, hz0⟩ : ∃ z, (srtI line)[0]? = some z := ⟨(srtI line)[0]'(by omega), by simp⟩
  obtain ⟨z1, hz1⟩ : ∃ z, (srtI line)[f.blocks.length - 1]? = some z := ⟨(srtI line)[f.blocks.length - 1]'(by omega), by simp⟩
  have z0c := Own.cell (enc := fun x : Int => [Value.int .i64 x]) (k := 1) (fun _ => rfl) w5 hz0 (j := 0) rfl
  have z1c := Own.cell (enc := fun x : Int => [Value.int .i64 x]) (k := 1) (fun _ => rfl) w5 hz1 (j := 0) rfl
  refine ⟨by omega, by omega, onP_at z0c.1 ⟨z0, z0c.2, fun hne => ?_, fun h00 => ⟨i64ok (by omega) (by omega), by omega, by omega, onP_at z1c.1 ⟨z1, ?_, i64ok (by omega) (by omega), fun hne => ?_, fun h11 => ?_⟩⟩⟩⟩
  · exact k2 hP (fun hL => by have := (hiff.1 hL).1; rw [hz0] at this; cases this; exact hne rfl) h5 e5
  · rw [show ((lm : Int) - 1).toNat = f.blocks.length - 1 by omega]; exact z1c.2
  · exact k2 hP (fun hL => by have := (hiff.1 hL).2.1; rw [hz1] at this; cases this; exact hne (by omega)) h5 e5
  refine c28 w5 hlS hle' (by omega) fun h6 m hm m6 => ⟨_, _, _, rfl, fun hne => ?_, fun hmm => ?_⟩
  · refine k2 hP (fun hL => hne ?_) h6 (m6.ext e5 fun c hc ⟨q1, q2⟩ => ?_)
    · have := hm.2 (hiff.1 hL).2.2; omega
    · have : line ≠ [] := by rintro rfl; simp at hlnb; omega
      have := hbo this; have := e3.size; omega
  have hL : LineP line f.blocks.length := hiff.2 ⟨by rw [hz0]; congr 1; omega, by rw [hz1]; congr 1; omega, hm.1 (by omega)⟩
  have hlne : line ≠ [] := by rintro rfl; simp at hlnb; omega
  have hbo' := hbo hlne
  have e6 : Ext h h6 := m6.ext e5 fun c hc ⟨q1, q2⟩ => by have := e3.size; omega
  have e16 : Ext h1 h6 := m6.ext e15 fun c hc ⟨q1, q2⟩ => by omega
  clear z0c z1c hz0 hz1 m6 m5 w5 wo g4
  refine c29 (hf1.ext e16) hP hz hs fun h7 bw X names A0 B0 size e67 fl => ⟨_, rfl, ?_⟩
  have e7 := e6.trans e67
  have e17 := e16.trans e67
  have hf7 := hf1.ext e17
  obtain ⟨p7, n7, c7, q7, m7, d7, C7⟩ := hf7.cells
  have hbl7 := C7.bs.len
  have hpl7 := C7.ps.len
  have hp8 : f.params.length ≤ 8 := hP.1.2.2.1
  refine ⟨_, C7.c2, hreg.1, by omega, by omega, fun bv h8 hN8 => ?_⟩
  have b8 := hN8.blk
  have s8 := hN8.size
  obtain ⟨Rg, hRg⟩ : ∃ Rg : Nat, Rg = f.regs.toNat := ⟨_, rfl⟩
  rw [← hRg] at hN8 ⊢
  have hRi : (Rg : Int) = f.regs := by omega
  have w8 : OwnV h8 (some ⟨bv, 0, none⟩) bv (List.replicate Rg ⟨0, 0, 0⟩) := by
    have : New h7 (.cells ⟨flat ive (List.replicate Rg ⟨0, 0, 0⟩) ++ []⟩ 52) bv h8 := by rw [List.append_nil, ← rep3]; exact hN8
    exact Own.new this
  have e78 : Ext h7 h8 := hN8.ext
  let S8 : Nat → Prop := fun q => q = bv
  have hx : ∀ {h'}, Fw.Mod S8 h8 h' → Ext h7 h' := fun m => m.ext e78 fun c hc (e : c = bv) => by omega
  refine fwd Rg (fun v h' => Fw.Mod S8 h8 h' ∧ OwnV h' (some ⟨bv, 0, none⟩) bv (List.replicate v.toNat ⟨-1, 0, 0⟩ ++ List.replicate (Rg - v.toNat) ⟨0, 0, 0⟩)) (by omega) ⟨Mod.refl _ _, by simpa using w8⟩ fun v h9 v0 v1 ⟨m9, w9⟩ => ⟨fun vlt => ⟨v0, vlt, ?_⟩, fun vge => ?_⟩
  · have hx9 : (List.replicate v.toNat (⟨-1, 0, 0⟩ : Itv) ++ List.replicate (Rg - v.toNat) ⟨0, 0, 0⟩)[v.toNat]? = some ⟨0, 0, 0⟩ := by
      rw [List.getElem?_append_right (by simp), List.length_replicate, List.getElem?_replicate, if_pos (by omega)]
    refine OwnV.put w9 hx9 ⟨-1, 0, 0⟩ (j := 0) (by omega) rfl rfl fun h10 w10 m10 => ⟨i64ok (by omega) (by omega), fwd_next v0 vlt ⟨m9.trans m10 fun _ _ h => h, ?_⟩⟩
    have : (List.replicate v.toNat (⟨-1, 0, 0⟩ : Itv) ++ List.replicate (Rg - v.toNat) (⟨0, 0, 0⟩ : Itv)).set v.toNat (⟨-1, 0, 0⟩ : Itv) = List.replicate (v + 1).toNat (⟨-1, 0, 0⟩ : Itv) ++ List.replicate (Rg - (v + 1).toNat) ⟨0, 0, 0⟩ := by
      have hv1 : (v + 1).toNat = v.toNat + 1 := by omega
      obtain ⟨d, hd⟩ : ∃ d, Rg - v.toNat = d + 1 := ⟨Rg - v.toNat - 1, by omega⟩
      rw [hd, show Rg - (v + 1).toNat = d by omega, hv1, List.set_append_right _ _ (by simp), List.length_replicate, Nat.sub_self, List.replicate_succ, List.set_cons_zero, List.replicate_succ', List.append_assoc]; rfl
    rw [this] at w10; exact w10
  have hv : v.toNat = Rg := by omega
  rw [hv, Nat.sub_self, List.replicate_zero, List.append_nil] at w9
  have w9' : OwnV h9 (some ⟨bv, 0, none⟩) bv (mts (initM Rg) []) := w9
  refine ⟨_, _, _, (hx m9).cell C7.c1, ?_⟩
  have lenM : ∀ es, (mts (initM Rg) es).length = Rg := fun es => by rw [mts_len]; simp [initM]
  refine fwd n7 (fun u h' => Fw.Mod S8 h8 h' ∧ OwnV h' (some ⟨bv, 0, none⟩) bv (mts (initM Rg) ((f.params.take u.toNat).map fun r => (r, 0)))) (by omega) ⟨m9, by simpa using w9'⟩ fun u h10 u0 u1 ⟨m10, w10⟩ => ⟨fun ult => ⟨u0, ult, ?_⟩, fun uge => ?_⟩
  · obtain ⟨r, b4, o4, hr, hp4, hc4⟩ := C7.ps.get u0 ult
    have hRr := hP.2.1 r (List.mem_of_getElem? hr)
    unfold RegP at hRr
    refine onP_at hp4 ⟨r, (hx m10).cell hc4, c30 w10 (lenM _) hRr.1 (by omega) fun h11 w11 m11 => ⟨rfl, i64ok (by omega) (by omega), fwd_next u0 ult ⟨m10.trans (m11.wid (S' := S8) fun _ _ h => h.1) fun _ _ h => h, ?_⟩⟩⟩
    rw [← mts_append] at w11
    rw [show (u + 1).toNat = u.toNat + 1 by omega, map_take_succ hr]; exact w11
  rw [show u.toNat = f.params.length by omega, List.take_length] at w10
  have w10' : OwnV h10 (some ⟨bv, 0, none⟩) bv (mts (initM Rg) (parEv f)) := w10
  let TA : Nat → List Int := fun i => toldL names (A0 i) size
  let TB : Nat → List Int := fun i => toldL names (B0 i) size
  refine ⟨fun kk u => (fun h' => 0 ≤ u ∧ u ≤ lm ∧ kk = lineK f 0 (line.take u.toNat) ∧ Fw.Mod S8 h8 h' ∧ OwnV h' (some ⟨bv, 0, none⟩) bv (mts (initM Rg) (parEv f ++ lineEv2 f TA TB 0 (line.take u.toNat))), fun _ => (lm - u).toNat), ⟨by omega, by omega, by simp [lineK], m10, by simpa [lineEv2] using w10'⟩, ?_⟩
  rintro kk u h12 ⟨u0, u1, rfl, m12, w12⟩
  have hkb := lineK_le hs (line.take u.toNat) 0
  have htl : (line.take u.toNat).length ≤ 600 := by rw [List.length_take]; omega
  refine ⟨fun ult => ⟨u0, ult, ?_⟩, fun uge => ?_⟩
  · obtain ⟨b, b4, o4, hb, hp4, hc4⟩ := hl.get u0 ult
    have hbr := hL.1 b (List.mem_of_getElem? hb)
    obtain ⟨x, hxx⟩ : ∃ x, f.blocks[b.toNat]? = some x := ⟨f.blocks[b.toNat]'(by omega), by simp⟩
    have hxat : blkAt f b = x := by unfold blkAt; rw [hxx]; rfl
    have hbx := hs.bd x (List.mem_of_getElem? hxx)
    refine onP_at hp4 ⟨b, (e7.trans (hx m12)).cell hc4, ?_⟩
    refine c31 (ht.ext e7) hf7 fl (hx m12) hP hz hs hbr.1 hxx (by omega) (by omega) w12 (lenM _) hRg (fun _ => by omega) fun h13 w13 m13 => ⟨rfl, ?_⟩
    have m13' : Fw.Mod S8 h8 h13 := m12.trans (m13.wid (S' := S8) fun _ _ h => h.1) fun _ _ h => h
    obtain ⟨x', b5, o5, hx5, hp5, _, ⟨bp, bn, bc, tp, tn, tc, rfl, hbody, hbc, hto, htc⟩, hcell⟩ := C7.bs.get hbr.1 (by omega)
    obtain rfl : x = x' := by rw [hxx] at hx5; cases hx5; rfl
    have hbln := hbody.len
    have hk1 : lineK f 0 (line.take (u + 1).toNat) = lineK f 0 (line.take u.toNat) + ((bn : Int) + 1) := by rw [show (u + 1).toNat = u.toNat + 1 by omega, lineK_take hb, hxat, hbln]
    refine ⟨_, _, _, (hx m13').cell C7.c4, hbr.1, by omega, onP_at hp5 ⟨_, _, _, (hx m13').cell (hcell 0 _ rfl), i64ok (by omega) (by omega), i64ok (by omega) (by omega), i64ok (by omega) (by omega), ⟨by omega, by omega, hk1.symm, m13', ?_⟩, by show (lm - (u + 1)).toNat < (lm - u).toNat; omega⟩⟩
    rw [← mts_append, List.append_assoc] at w13
    rw [show (u + 1).toNat = u.toNat + 1 by omega, lineEv2_take hb, hxat]; exact w13
  rw [show u.toNat = line.length by omega, List.take_length] at w12
  have hTA : ∀ i < f.blocks.length, ∀ r : Int, r ∈ TA i ↔ 0 ≤ r ∧ r < Rg ∧ LA f i r.toNat := fun i hi r => by
    obtain ⟨s1, s2, s3⟩ := fl.sa i hi
    rw [toldL_mem fl.ok (by rw [← s1]; rw [s1]; exact fl.le) s2]
    constructor
    · rintro ⟨j, hj, h⟩
      have := fl.ok.back j r hj
      exact ⟨this.1, by omega, (s3 j r hj).1 h⟩
    · rintro ⟨r0, r1, hLA⟩
      have hblk : ∀ x ∈ f.blocks, BlkOk f x ∧ ∀ t ∈ x.term.to, 0 ≤ t ∧ t < f.blocks.length := fun x hx => ⟨blkOk (hP.2.2.2 x hx) (hz.2.2 x hx), (hP.2.2.2 x hx).2.1⟩
      have hw := (LA_wnt hblk).1 hLA
      have hX : X[r.toNat]? = some (X[r.toNat]'(by rw [fl.ok.len]; omega)) := by simp
      rcases fl.ok.idx _ _ hX with ⟨_, h2⟩ | ⟨_, _, h3⟩
      · exact absurd hw h2
      · rw [show ((r.toNat : Nat) : Int) = r by omega] at h3
        exact ⟨_, h3, (s3 _ r h3).2 hLA⟩
  have hTB : ∀ i < f.blocks.length, ∀ r : Int, r ∈ TB i ↔ 0 ≤ r ∧ r < Rg ∧ LB f i r.toNat := fun i hi r => by
    obtain ⟨s1, s2, s3⟩ := fl.sb i hi
    rw [toldL_mem fl.ok (by rw [← s1]; rw [s1]; exact fl.le) s2]
    constructor
    · rintro ⟨j, hj, h⟩
      have := fl.ok.back j r hj
      exact ⟨this.1, by omega, (s3 j r hj).1 h⟩
    · rintro ⟨r0, r1, hLB⟩
      have hblk : ∀ x ∈ f.blocks, BlkOk f x ∧ ∀ t ∈ x.term.to, 0 ≤ t ∧ t < f.blocks.length := fun x hx => ⟨blkOk (hP.2.2.2 x hx) (hz.2.2 x hx), (hP.2.2.2 x hx).2.1⟩
      have hw := (LA_wnt hblk).2 hLB
      have hX : X[r.toNat]? = some (X[r.toNat]'(by rw [fl.ok.len]; omega)) := by simp
      rcases fl.ok.idx _ _ hX with ⟨_, h2⟩ | ⟨_, _, h3⟩
      · exact absurd hw h2
      · rw [show ((r.toNat : Nat) : Int) = r by omega] at h3
        exact ⟨_, h3, (s3 _ r h3).2 hLB⟩
  have same : ∀ A B : Nat → List Bool, (∀ i < f.blocks.length, ∀ r < Rg, bit (A i) r ↔ LA f i r) → (∀ i < f.blocks.length, ∀ r < Rg, bit (B i) r ↔ LB f i r) → ∀ e, e ∈ allEv f A B line ↔ e ∈ parEv f ++ lineEv2 f TA TB 0 line := fun A B hA hB e => by
    unfold allEv
    rw [List.mem_append, List.mem_append, ← hRg, line_same (fun i hi r => (hTA i hi r).trans ?_) (fun i hi r => (hTB i hi r).trans ?_) line 0 hL.1]
    · constructor
      · rintro ⟨a, b, c⟩; exact ⟨a, b, (hA i hi _ (by omega)).2 c⟩
      · rintro ⟨a, b, c⟩; exact ⟨a, b, (hA i hi _ (by omega)).1 c⟩
    · constructor
      · rintro ⟨a, b, c⟩; exact ⟨a, b, (hB i hi _ (by omega)).2 c⟩
      · rintro ⟨a, b, c⟩; exact ⟨a, b, (hB i hi _ (by omega)).1 c⟩
  have bd : ∀ x ∈ mts (initM Rg) (parEv f ++ lineEv2 f TA TB 0 line), 0 ≤ x.reg → 0 ≤ x.frm ∧ x.frm ≤ 9000000000000 := fun x hx h0 => by
    let SA : Nat → List Bool := fun i => (List.range Rg).map fun r => @decide (LA f i r) (Classical.propDecidable _)
    let SB' : Nat → List Bool := fun i => (List.range Rg).map fun r => @decide (LB f i r) (Classical.propDecidable _)
    have hS := same SA SB' (fun i _ r hr => by unfold bit; rw [List.getElem?_map, List.getElem?_range hr]; simp) (fun i _ r hr => by unfold bit; rw [List.getElem?_map, List.getElem?_range hr]; simp)
    obtain ⟨r, hr⟩ := List.getElem?_of_mem hx
    have hm := mts_init0 (fun e he => by have := allEv_mem hs hP hL.1 ((hS e).2 he); exact this.1.1) hr
    rcases hm with ⟨h1, _⟩ | ⟨_, h2, _⟩
    · omega
    · have := allEv_mem hs hP hL.1 ((hS _).2 h2)
      have hk := (lineK_le hs line 0).1
      have h3 := this.2
      simp only at h3
      omega
  have lenA := lenM (parEv f ++ lineEv2 f TA TB 0 line)
  refine c32 w12 lenA (Nat.le_refl _) (by omega) fun h14 w14 m14 => ⟨_, _, _, rfl, ?_⟩
  have hkl : (keepL (mts (initM Rg) (parEv f ++ lineEv2 f TA TB 0 line))).length ≤ Rg := by have := List.length_filter_le (fun x : Itv => decide (0 ≤ x.reg)) (mts (initM Rg) (parEv f ++ lineEv2 f TA TB 0 line)); unfold keepL; omega
  refine c34 w14 rfl (by omega) (fun x hx => ?_) fun h15 S w15 st so m15 => ⟨rfl, ?_⟩
  · unfold keepL at hx
    rw [List.mem_filter] at hx
    exact bd x hx.1 (by simpa using hx.2)
  have m1415 : Fw.Mod S8 h8 h15 := (m12.trans m14 fun _ _ h => h).trans m15 fun _ _ h => h
  refine k3 hP hL _ _ _ bv S h15 w15 st.len (fun _ => by have := e7.size; omega) (fun A B hfin => ?_) (e7.trans (hx m1415))
  have hA := same A B (fun i hi r _ => hfin.a i hi r) (fun i hi r _ => hfin.b i hi r)
  rw [← hRg]
  exact intervals_eq (fun e he => by have := allEv_mem hs hP hL.1 he; exact ⟨this.1.1, this.2.1⟩) hA (fun e he => (allEv_mem hs hP hL.1 he).2.2) st so
end Go.Proofs.Try
