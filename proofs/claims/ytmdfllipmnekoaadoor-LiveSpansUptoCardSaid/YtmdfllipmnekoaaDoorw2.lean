/-
  A part of the proof of: The statement LiveIntervals (quernlaw17) holds of the given program: for every function of blocks and every line that can be read as data, and laid where the program's own text lays the table math/bits.deBruijn64tab, it returns true, and its input reads as it did.
-/
import Derived.Test.YtmdfllipmnekoaaDoorw1
import Derived.KernelRfl
import Derived.RangeFuncRecord
import Derived.Test.YtmdfllipmnekoaaDoorProg

/- Code: what it is reckoned to, and the law. -/
set_option linter.unusedVariables false
set_option linter.unusedSimpArgs false
namespace Go.Fw
variable {P : Program}

/-! ### Functions of the values of some slots -/
def LF : Leaf → Type → Type
  | .int _, R => Int → R
  | .bool, R => Bool → R
  | .str, R => ByteArray → R
  | .slice, R => Option Addr → Nat → Nat → R
  | .ptr, R => Option Addr → R
  | .map, R => Option Nat → R
  | .any, R => Value → R
def AF : List Leaf → Type → Type
  | [], R => R
  | l :: ls, R => LF l (AF ls R)
def TF : VT → Type → Type
  | .one l, R => LF l R
  | .agg ls, R => AF ls R
def CT : List (Nat × VT) → Type → Type
  | [], R => R
  | (_, t) :: ws, R => TF t (CT ws R)
def LF.app {R : Type} : (l : Leaf) → LF l R → Value → (R → Prop) → Prop
  | .int k, g, .int j n, K => (match kq k j with | true => K (g n) | false => False)
  | .bool, g, .bool b, K => K (g b)
  | .str, g, .string s, K => K (g s)
  | .slice, g, .slice a n c, K => K (g a n c)
  | .ptr, g, .pointer a, K => K (g a)
  | .map, g, .map r, K => K (g r)
  | .any, g, v, K => K (g v)
  | _, _, _, _ => False
def AF.app {R : Type} : (ls : List Leaf) → AF ls R → List Value → (R → Prop) → Prop
  | [], g, [], K => K g
  | l :: ls, g, v :: vs, K => LF.app l g v fun g' => AF.app ls g' vs K
  | _, _, _, _ => False
def TF.app {R : Type} : (t : VT) → TF t R → Value → (R → Prop) → Prop
  | .one l, g, v, K => LF.app l g v K
  | .agg ls, g, .agg ⟨vs⟩, K => AF.app ls g vs K
  | .agg _, _, _, _ => False
def CT.app {R : Type} : (ws : List (Nat × VT)) → CT ws R → Fr → (R → Prop) → Prop
  | [], g, _, K => K g
  | (t, vt) :: ws, g, f, K => match (f.get t).val with
    | some v => TF.app vt g v fun g' => CT.app ws g' f K
    | none => False
def LF.all {R : Type} : (l : Leaf) → LF l R → (Value → R → Prop) → Prop
  | .int k, g, B => ∀ n : Int, B (.int k n) (g n)
  | .bool, g, B => ∀ b : Bool, B (.bool b) (g b)
  | .str, g, B => ∀ s : ByteArray, B (.string s) (g s)
  | .slice, g, B => ∀ (a : Option Addr) (n c : Nat), B (.slice a n c) (g a n c)
  | .ptr, g, B => ∀ a : Option Addr, B (.pointer a) (g a)
  | .map, g, B => ∀ r : Option Nat, B (.map r) (g r)
  | .any, g, B => ∀ v : Value, B v (g v)
def AF.all {R : Type} : (ls : List Leaf) → AF ls R → (List Value → R → Prop) → Prop
  | [], g, B => B [] g
  | l :: ls, g, B => LF.all l g fun v g' => AF.all ls g' fun vs r => B (v :: vs) r
def TF.all {R : Type} : (t : VT) → TF t R → (Value → R → Prop) → Prop
  | .one l, g, B => LF.all l g B
  | .agg ls, g, B => AF.all ls g fun vs r => B (.agg ⟨vs⟩) r
def CT.all {R : Type} : (ws : List (Nat × VT)) → CT ws R → Fr → (Fr → R → Prop) → Prop
  | [], g, f, B => B f g
  | (t, vt) :: ws, g, f, B => TF.all vt g fun v g' => CT.all ws g' (f.set t (.v v)) B

theorem LF.link {R : Type} {l : Leaf} {g : LF l R} {v : Value} {K : R → Prop} {B : Value → R → Prop} (h : LF.app l g v K) (hB : LF.all l g B) : ∃ r, K r ∧ B v r := by
  cases l <;> cases v <;> simp only [LF.app] at h <;> simp only [LF.all] at hB <;> first
    | exact ⟨_, h, hB _⟩
    | exact ⟨_, h, hB _ _ _⟩
    | exact h.elim
    | skip
  split at h
  · rename_i hk; obtain rfl := kq_eq hk; exact ⟨_, h, hB _⟩
  · exact h.elim
theorem AF.link {R : Type} : ∀ {ls : List Leaf} {g : AF ls R} {vs : List Value} {K : R → Prop} {B : List Value → R → Prop}, AF.app ls g vs K → AF.all ls g B → ∃ r, K r ∧ B vs r
  | [], g, [], K, B, h, hB => ⟨g, h, hB⟩
  | l :: ls, g, v :: vs, K, B, h, hB => by
    obtain ⟨g', h1, h2⟩ := LF.link h hB
    exact AF.link (B := fun vs r => B (v :: vs) r) h1 h2
  | [], _, _ :: _, _, _, h, _ => h.elim
  | _ :: _, _, [], _, _, h, _ => h.elim
theorem TF.link {R : Type} {t : VT} {g : TF t R} {v : Value} {K : R → Prop} {B : Value → R → Prop} (h : TF.app t g v K) (hB : TF.all t g B) : ∃ r, K r ∧ B v r := by
  cases t with
  | one l => exact LF.link h hB
  | agg ls =>
    cases v <;> first | exact h.elim | skip
    rename_i cells
    cases cells
    exact AF.link (B := fun vs r => B (.agg ⟨vs⟩) r) h hB
theorem CT.link {R : Type} {a : Act} {f : Fr} (hs : Sim f a) : ∀ {ws : List (Nat × VT)} {g : CT ws R} {f0 : Fr} {K : R → Prop} {B : Fr → R → Prop}, Sim f0 a → CT.app ws g f K → CT.all ws g f0 B → ∃ r f1, Sim f1 a ∧ K r ∧ B f1 r
  | [], g, f0, K, B, h0, h, hB => ⟨g, f0, h0, h, hB⟩
  | (t, vt) :: ws, g, f0, K, B, h0, h, hB => by
    simp only [CT.app] at h
    split at h
    · rename_i v hv
      obtain ⟨g', h1, h2⟩ := TF.link h hB
      refine CT.link hs ?_ h1 h2
      refine ⟨by simp [Fr.set, lset_length, h0.size], h0.defs, ?_⟩
      intro i x hx
      simp only [Fr.set, Fr.get, lget_lset] at hx
      split at hx
      · rename_i e; rw [e.1]; simp [Slot.val] at hx; rw [← hx]; exact hs.vals t v hv
      · exact h0.vals i x hx
    · exact h.elim

/-! ### Code -/
inductive IL where
  | skip
  | reg (ss : List St)
  | drw (md : Md) (cold ws : List Nat) (t : DT)
  | seq (a b : IL)
  | cut (ws : List (Nat × VT)) (kill : List Nat) (a b : IL)
  | cond (c : Operand) (a b : IL)
  | block (id : Nat) (a : IL)
  | loop (ws : List (Nat × VT)) (kill : List Nat) (a : IL)
  | exit (id : Nat)
  | ret

abbrev Ks := List (Nat × (Fr → H → Prop))
def exitK : Ks → Nat → Fr → H → Prop
  | [], _, _, _ => False
  | (i, K) :: ks, j, f, h => match j == i with | true => K f h | false => exitK ks j f h
abbrev LI := (H → Prop) × (H → Nat)

def IL.den (P : Program) : IL → Fr → H → (Fr → H → Prop) → Ks → (Fr → H → Prop) → Prop
  | .skip, f, h, K, _, _ => K f h
  | .reg ss, f, h, K, _, _ => dens P ss f h K
  | .drw md _ _ t, f, h, K, _, _ => (match md with
    | .gen => ∃ S : H → Prop, S h ∧ t.den P .gen h S f h K
    | .eq => t.den P .eq h (fun _ => True) f h K
    | .ext => t.den P .ext h (fun _ => True) f h K)
  | .seq a b, f, h, K, ks, rt => a.den P f h (fun f' h' => b.den P f' h' K ks rt) ks rt
  | .cut ws kill a b, f, h, K, ks, rt => ∃ J : CT ws (H → Prop), a.den P f h (fun f' h' => CT.app ws J f' fun p => p h') ks rt ∧
      CT.all ws J (f.kill kill) fun f' p => ∀ h', p h' → b.den P f' h' K ks rt
  | .cond c a b, f, h, K, ks, rt => (match c with
    | .tmp t => gd f t fun f' x => match x with | true => a.den P f' h K ks rt | false => b.den P f' h K ks rt
    | _ => False)
  | .block id a, f, h, K, ks, rt => a.den P f h K ((id, K) :: ks) rt
  | .loop ws kill a, f, h, K, ks, rt => ∃ J : CT ws LI, CT.app ws J f (fun p => p.1 h) ∧
      CT.all ws J (f.kill kill) fun f' p => ∀ h', p.1 h' → a.den P f' h' (fun f'' h'' => CT.app ws J f'' fun q => q.1 h'' ∧ q.2 h'' < p.2 h') ks rt
  | .exit id, f, h, _, ks, _ => exitK ks id f h
  | .ret, f, h, _, _, rt => rt f h

def IL.writes : IL → List Nat
  | .skip | .exit _ | .ret => []
  | .reg ss => dsts ss
  | .drw _ _ ws _ => ws
  | .seq a b | .cut _ _ a b | .cond _ a b => a.writes ++ b.writes
  | .block _ a | .loop _ _ a => a.writes
def subq (l m : List Nat) : Bool := l.all fun x => m.contains x
theorem subq_mem {l m : List Nat} (h : subq l m = true) {x : Nat} (hx : x ∈ l) : x ∈ m := by
  simp only [subq, List.all_eq_true] at h
  simpa using h x hx
def dstOk (ws : List Nat) : List Oper → Bool
  | [] => true
  | o :: os => (match o.dst with | some d => ws.contains d | none => true) && dstOk ws os
def chkIL (P : Program) : Code → IL → Bool
  | .skip, .skip => true
  | .region _ ops false, .reg ss => chkSts P ops ops.toList ss
  | .region _ ops true, .drw md cold ws t => dstOk ws ops.toList && chkDT P ops md cold t (Array.replicate ops.size false) true ops.size
  | .seq x y, .seq a b => chkIL P x a && chkIL P y b
  | .seq x y, .cut _ kill a b => chkIL P x a && chkIL P y b && subq a.writes kill
  | .cond c x y, .cond c' a b => oeq c c' && chkIL P x a && chkIL P y b
  | .block id x, .block id' a => id == id' && chkIL P x a
  | .loop x, .loop _ kill a => chkIL P x a && subq a.writes kill
  | .exit id, .exit id' => id == id'
  | .ret, .ret => true
  | _, _ => false

def Post (K : Fr → H → Prop) (ks : Ks) (rt : Fr → H → Prop) (W : List Nat) (a : Act) (w : World) (e : Exit) (a' : Act) (w' : World) : Prop :=
  Agr W a a' ∧ w'.os = w.os ∧ w'.output = w.output ∧ ∃ f', Sim f' a' ∧ (match e with
    | .normal => K f' w'.heap
    | .exit id => exitK ks id f' w'.heap
    | .ret => rt f' w'.heap
    | _ => False)

theorem kill_get (f : Fr) : ∀ (ks : List Nat) (i : Nat) (x : Value), ((f.kill ks).get i).val = some x → i ∉ ks ∧ (f.get i).val = some x := by
  intro ks
  induction ks generalizing f with
  | nil => intro i x h; exact ⟨by simp, h⟩
  | cons t ts ih =>
    intro i x h
    obtain ⟨h1, h2⟩ := ih (f.set t .non) i x h
    simp only [Fr.set, Fr.get, lget_lset] at h2
    split at h2
    · cases h2
    · rename_i hne
      refine ⟨?_, h2⟩
      simp only [List.mem_cons, not_or]
      refine ⟨fun e => ?_, h1⟩
      subst e
      -- the slot lies beyond the frame: nothing is known of it
      have hlt : ¬ i < f.s.length := fun x => hne ⟨rfl, x⟩
      have : ∀ (l : List Slot) (i : Nat), ¬ i < l.length → lget l i = .non := by
        intro l
        induction l with
        | nil => intro i _; rfl
        | cons y l ih => intro i hi; cases i with
          | zero => simp at hi
          | succ i => exact ih i (by simpa using hi)
      rw [this _ _ hlt] at h2
      cases h2
theorem kill_len (f : Fr) (ks : List Nat) : (f.kill ks).s.length = f.s.length ∧ (f.kill ks).ds = f.ds := by
  induction ks generalizing f with
  | nil => exact ⟨rfl, rfl⟩
  | cons t ts ih => obtain ⟨h1, h2⟩ := ih (f.set t .non); exact ⟨h1.trans (lset_length _ _ _), h2⟩
theorem Sim.agr {f : Fr} {a a' : Act} {W ks : List Nat} (hs : Sim f a) (ha : Agr W a a') (hsub : ∀ x, x ∈ W → x ∈ ks) : Sim (f.kill ks) a' := by
  obtain ⟨h1, h2⟩ := kill_len f ks
  refine ⟨by rw [h1, hs.size, ha.1.1], by rw [h2, ha.1.2, hs.defs], ?_⟩
  intro i x hx
  obtain ⟨g1, g2⟩ := kill_get f ks i x hx
  rw [ha.2 i (fun h => g1 (hsub i h))]
  exact hs.vals i x g2

open Classical in
theorem wpIn_loop_rel {F : Fence} {n : Nat} {c : Code} {Q : Exit → Act → World → Prop} (I : Nat → Act → World → Prop) {a : Act} {w : World} {m : Nat} (h0 : I m a w)
    (round : ∀ m a w, I m a w → c.wpIn F n P (Exit.then (fun a' w' => ∃ m', m' < m ∧ I m' a' w') Q) a w) : (Code.loop c).wpIn F n P Q a w := by
  have least : ∀ a w, (∃ m, I m a w) → ∃ m, I m a w ∧ ∀ k, I k a w → m ≤ k := by
    intro a w ⟨m, hm⟩
    induction m using Nat.strongRecOn with
    | _ m ih =>
      by_cases hk : ∃ k, k < m ∧ I k a w
      · obtain ⟨k, hlt, hk⟩ := hk; exact ih k hlt hk
      · exact ⟨m, hm, fun k hk' => Nat.le_of_not_lt fun hlt => hk ⟨k, hlt, hk'⟩⟩
  let μ : Act → World → Nat := fun a w => if h : ∃ m, I m a w then Classical.choose (least a w h) else 0
  have hμ : ∀ a w, (h : ∃ m, I m a w) → I (μ a w) a w ∧ ∀ k, I k a w → μ a w ≤ k := by
    intro a w h
    simp only [μ, dif_pos h]
    exact Classical.choose_spec (least a w h)
  refine wpIn_loop (fun a w => ∃ m, I m a w) μ ⟨m, h0⟩ ?_
  intro a w hI
  obtain ⟨h1, h2⟩ := hμ a w hI
  refine wpIn_mono (round _ a w h1) ?_
  intro e a' w' hq
  cases e <;> first | exact hq | skip
  obtain ⟨m', hlt, hm'⟩ := hq
  exact ⟨⟨m', hm'⟩, Nat.lt_of_le_of_lt ((hμ a' w' ⟨m', hm'⟩).2 m' hm') hlt⟩
end Go.Fw

/- Code: the law; a function's contract from its code. -/
set_option linter.unusedVariables false
set_option linter.unusedSimpArgs false
namespace Go.Fw
variable {P : Program}

theorem LF.app_ex {R : Type} {l : Leaf} {g : LF l R} {v : Value} {K : R → Prop} (h : LF.app l g v K) : ∃ r, LF.app l g v (fun q => q = r) ∧ K r := by
  cases l <;> cases v <;> simp only [LF.app] at h ⊢ <;> first
    | exact ⟨_, rfl, h⟩
    | exact h.elim
    | skip
  split at h
  · exact ⟨_, rfl, h⟩
  · exact h.elim
theorem LF.app_mono {R : Type} {l : Leaf} {g : LF l R} {v : Value} {K K' : R → Prop} (h : LF.app l g v K) (hk : ∀ r, K r → K' r) : LF.app l g v K' := by
  cases l <;> cases v <;> simp only [LF.app] at h ⊢ <;> first
    | exact hk _ h
    | exact h.elim
    | skip
  split at h
  · exact hk _ h
  · exact h.elim
theorem AF.app_ex {R : Type} : ∀ {ls : List Leaf} {g : AF ls R} {vs : List Value} {K : R → Prop}, AF.app ls g vs K → ∃ r, AF.app ls g vs (fun q => q = r) ∧ K r
  | [], g, [], K, h => ⟨g, rfl, h⟩
  | l :: ls, g, v :: vs, K, h => by
    obtain ⟨g', h1, h2⟩ := LF.app_ex h
    obtain ⟨r, h3, h4⟩ := AF.app_ex h2
    exact ⟨r, LF.app_mono h1 (by rintro _ rfl; exact h3), h4⟩
  | [], _, _ :: _, _, h => h.elim
  | _ :: _, _, [], _, h => h.elim
theorem AF.app_mono {R : Type} : ∀ {ls : List Leaf} {g : AF ls R} {vs : List Value} {K K' : R → Prop}, AF.app ls g vs K → (∀ r, K r → K' r) → AF.app ls g vs K'
  | [], g, [], K, K', h, hk => hk _ h
  | l :: ls, g, v :: vs, K, K', h, hk => LF.app_mono (l := l) h fun g' h' => AF.app_mono h' hk
  | [], _, _ :: _, _, _, h, _ => h.elim
  | _ :: _, _, [], _, _, h, _ => h.elim
theorem TF.app_ex {R : Type} {t : VT} {g : TF t R} {v : Value} {K : R → Prop} (h : TF.app t g v K) : ∃ r, TF.app t g v (fun q => q = r) ∧ K r := by
  cases t with
  | one l => exact LF.app_ex h
  | agg ls =>
    cases v <;> first | exact h.elim | skip
    rename_i cells; cases cells
    exact AF.app_ex (ls := ls) h
theorem TF.app_mono {R : Type} {t : VT} {g : TF t R} {v : Value} {K K' : R → Prop} (h : TF.app t g v K) (hk : ∀ r, K r → K' r) : TF.app t g v K' := by
  cases t with
  | one l => exact LF.app_mono (l := l) h hk
  | agg ls =>
    cases v <;> first | exact h.elim | skip
    rename_i cells; cases cells
    exact AF.app_mono (ls := ls) h hk
theorem CT.app_ex {R : Type} {f : Fr} : ∀ {ws : List (Nat × VT)} {g : CT ws R} {K : R → Prop}, CT.app ws g f K → ∃ r, CT.app ws g f (fun q => q = r) ∧ K r
  | [], g, K, h => ⟨g, rfl, h⟩
  | (t, vt) :: ws, g, K, h => by
    simp only [CT.app] at h ⊢
    split at h
    · rename_i v hv
      obtain ⟨g', h1, h2⟩ := TF.app_ex h
      obtain ⟨r, h3, h4⟩ := CT.app_ex h2
      exact ⟨r, TF.app_mono h1 (by rintro _ rfl; exact h3), h4⟩
    · exact h.elim

theorem Post.tr {K : Fr → H → Prop} {ks : Ks} {rt : Fr → H → Prop} {W W' : List Nat} {a a' a2 : Act} {w w' w2 : World} {e : Exit} (h1 : Agr W a a') (h2 : w'.os = w.os) (h3 : w'.output = w.output) (h : Post K ks rt W' a' w' e a2 w2) :
    Post K ks rt (W ++ W') a w e a2 w2 :=
  ⟨h1.trans h.1, h.2.1.trans h2, h.2.2.1.trans h3, h.2.2.2⟩
theorem Post.wid {K K' : Fr → H → Prop} {ks : Ks} {rt : Fr → H → Prop} {W W' : List Nat} {a a' : Act} {w w' : World} {e : Exit} (h : Post K ks rt W a w e a' w') (hs : ∀ x, x ∈ W → x ∈ W') (hn : e ≠ .normal) :
    Post K' ks rt W' a w e a' w' := by
  obtain ⟨h1, h2, h3, f', h4, h5⟩ := h
  refine ⟨h1.mono hs, h2, h3, f', h4, ?_⟩
  cases e <;> first | exact absurd rfl hn | exact h5

theorem dstOk_spec {ws : List Nat} : ∀ {os : List Oper}, dstOk ws os = true → ∀ (i : Nat) (o : Oper), os[i]? = some o → ∀ d, o.dst = some d → d ∈ ws
  | [], _, i, o, h, _, _ => by simp at h
  | o' :: os, hk, i, o, h, d, hd => by
    simp only [dstOk, Bool.and_eq_true] at hk
    cases i with
    | zero => simp at h; subst h; rw [hd] at hk; simpa using hk.1
    | succ i => exact dstOk_spec hk.2 i o (by simpa using h) d hd

theorem IL.sound (hm : P.follows .mixedOrders = true) {r : Option Nat} : ∀ (il : IL) (c : Code) (f : Fr) (a : Act) (w : World) (K : Fr → H → Prop) (ks : Ks) (rt : Fr → H → Prop), chkIL P c il = true → Sim f a →
    il.den P f w.heap K ks rt → c.wpIn (FW r) 0 P (Post K ks rt il.writes a w) a w := by
  intro il
  induction il with
  | skip =>
    intro c f a w K ks rt hc hs hd
    cases c <;> first | (simp [chkIL] at hc; done) | skip
    exact wpIn_skip ⟨Agr.refl _ _, rfl, rfl, f, hs, hd⟩
  | reg ss =>
    intro c f a w K ks rt hc hs hd
    unfold chkIL at hc
    split at hc <;> first | contradiction | skip
    rename_i e1 e2 e3 e4 e5 e6
    cases e6
    refine wpIn_region ?_
    have hl := chkSts_length hc
    rw [List.range_eq_range', ← Array.length_toList, hl]
    exact dens_sound ss _ 0 (fun j => by simp) hc hs hd fun f' a' w' h1 h2 h3 h4 h5 => ⟨h5, h3, h4, f', h1, h2⟩
  | drw md cold ws t =>
    intro c f a w K ks rt hc hs hd
    unfold chkIL at hc
    split at hc <;> first | contradiction | skip
    rename_i e1 e2 e3 ops e5 e6 e7 e8 e9
    cases e9
    simp only [Bool.and_eq_true] at hc
    obtain ⟨hc1, hc2⟩ := hc
    refine wpIn_region_any hm ?_
    have hW : ∀ (i : Nat) (o : Oper), ops[i]? = some o → ∀ d, o.dst = some d → d ∈ ws := fun i o ho d hd => dstOk_spec hc1 i o (by simpa using ho) d hd
    have fin : ∀ (h0 : H) (S : H → Prop), (live cold (Array.replicate ops.size false) = true → Sof md h0 S w.heap) → t.den P md h0 S f w.heap K →
        wpAnyIn (FW r) 0 P .any ops (Post K ks rt ws a w) ops.size (Array.replicate ops.size false) a { w with drawn := w.drawn + 1 } := by
      intro h0 S hS hden
      have := DT.sound (Q := fun a' w' => Post K ks rt ws a w .normal a' w') (a0 := a) (w0 := w) (W := ws) (K := K) (h0 := h0) (S := S) hW
        (fun f' a' w' h1 h2 h3 h4 h5 => ⟨h5, h3, h4, f', h1, h2⟩) t ops.size (Array.replicate ops.size false) true f a { w with drawn := w.drawn + 1 } (by simp) hc2 hs hS rfl rfl (Agr.refl _ _) hden
      exact WAny.wp (fun a w h => h) _ _ _ _ this
    simp only [IL.den] at hd
    cases md with
    | eq => exact fin _ _ (fun _ => rfl) hd
    | ext => exact fin _ _ (fun _ => Ext.refl _) hd
    | gen => obtain ⟨S, h1, h2⟩ := hd; exact fin w.heap S (fun _ => h1) h2
  | seq x y ih1 ih2 =>
    intro c f a w K ks rt hc hs hd
    unfold chkIL at hc
    split at hc <;> first | contradiction | skip
    rename_i e1 e2 e3 e4 e5 e6 e7
    cases e7
    simp only [Bool.and_eq_true] at hc
    refine wpIn_seq (wpIn_mono (ih1 _ f a w _ ks rt hc.1 hs hd) ?_)
    intro e a' w' hp
    by_cases he : e = .normal
    · subst he
      obtain ⟨h1, h2, h3, f', h4, h5⟩ := hp
      exact wpIn_mono (ih2 _ f' a' w' K ks rt hc.2 h4 h5) fun e2 a2 w2 hp2 => Post.tr h1 h2 h3 hp2
    · have := Post.wid (K' := K) (W' := IL.writes (x.seq y)) hp (by intro z hz; exact List.mem_append_left _ hz) he
      cases e <;> first | exact absurd rfl he | exact this
  | cut ws kill x y ih1 ih2 =>
    intro c f a w K ks rt hc hs hd
    unfold chkIL at hc
    split at hc <;> first | contradiction | skip
    rename_i e1 e2 e3 e4 e5 e6 e7 e8 e9
    cases e9
    simp only [Bool.and_eq_true] at hc
    obtain ⟨⟨hc1, hc2⟩, hc3⟩ := hc
    obtain ⟨J, hd1, hd2⟩ := hd
    refine wpIn_seq (wpIn_mono (ih1 _ f a w _ ks rt hc1 hs hd1) ?_)
    intro e a' w' hp
    by_cases he : e = .normal
    · subst he
      obtain ⟨h1, h2, h3, f', h4, h5⟩ := hp
      obtain ⟨p, f1, g1, g2, g3⟩ := CT.link h4 (hs.agr h1 (fun x hx => subq_mem hc3 hx)) h5 hd2
      exact wpIn_mono (ih2 _ f1 a' w' K ks rt hc2 g1 (g3 _ g2)) fun e2 a2 w2 hp2 => Post.tr h1 h2 h3 hp2
    · have := Post.wid (K' := K) (W' := IL.writes (.cut ws kill x y)) hp (by intro z hz; exact List.mem_append_left _ hz) he
      cases e <;> first | exact absurd rfl he | exact this
  | cond c' x y ih1 ih2 =>
    intro c f a w K ks rt hc hs hd
    unfold chkIL at hc
    split at hc <;> first | contradiction | skip
    rename_i e1 e2 e3 e4 e5 e6 e7 e8 e9
    cases e9
    simp only [Bool.and_eq_true] at hc
    obtain ⟨⟨hc1, hc2⟩, hc3⟩ := hc
    obtain rfl := oeq_eq hc1
    simp only [IL.den] at hd
    split at hd
    · rename_i t
      obtain ⟨f', b, h1, h2, h3⟩ := gd_sound hs hd
      cases b
      · exact wpIn_cond_false h3 (wpIn_mono (ih2 _ f' a w K ks rt hc3 h1 h2) fun e a' w' hp => ⟨hp.1.mono (by intro z hz; exact List.mem_append_right _ hz), hp.2⟩)
      · exact wpIn_cond_true h3 (wpIn_mono (ih1 _ f' a w K ks rt hc2 h1 h2) fun e a' w' hp => ⟨hp.1.mono (by intro z hz; exact List.mem_append_left _ hz), hp.2⟩)
    · exact hd.elim
  | block id x ih =>
    intro c f a w K ks rt hc hs hd
    unfold chkIL at hc
    split at hc <;> first | contradiction | skip
    rename_i e1 e2 e3 e4 e5 e6 e7
    cases e7
    simp only [Bool.and_eq_true, beq_iff_eq] at hc
    obtain ⟨rfl, hc⟩ := hc
    refine wpIn_block (wpIn_mono (ih _ f a w K _ rt hc hs hd) ?_)
    rintro e a' w' ⟨h1, h2, h3, f', h4, h5⟩
    cases e with
    | exit id' =>
      simp only [exitK] at h5
      simp only [Exit.inBlock]
      split
      · rename_i e; subst e; simp at h5; exact ⟨h1, h2, h3, f', h4, h5⟩
      · rename_i e
        rw [beq_eq_false_iff_ne.2 e] at h5
        exact ⟨h1, h2, h3, f', h4, h5⟩
    | normal => exact ⟨h1, h2, h3, f', h4, h5⟩
    | ret => exact ⟨h1, h2, h3, f', h4, h5⟩
    | goto l => exact h5.elim
    | panic ch => exact h5.elim
    | outgrown => exact h5.elim
  | loop ws kill x ih =>
    intro c f a w K ks rt hc hs hd
    unfold chkIL at hc
    split at hc <;> first | contradiction | skip
    rename_i e1 e2 e3 e4 e5 e6 e7
    cases e7
    simp only [Bool.and_eq_true] at hc
    obtain ⟨hc, hc3⟩ := hc
    obtain ⟨J, hd1, hd2⟩ := hd
    obtain ⟨r0, q1, q2⟩ := CT.app_ex hd1
    refine wpIn_loop_rel (fun m a' w' => Agr x.writes a a' ∧ w'.os = w.os ∧ w'.output = w.output ∧ ∃ f' r, Sim f' a' ∧ CT.app ws J f' (fun q => q = r) ∧ r.1 w'.heap ∧ r.2 w'.heap = m)
      (m := r0.2 w.heap) ⟨Agr.refl _ _, rfl, rfl, f, r0, hs, q1, q2, rfl⟩ ?_
    rintro m a' w' ⟨h1, h2, h3, f', r, h4, h5, h6, rfl⟩
    obtain ⟨p, f1, g1, rfl, g3⟩ := CT.link h4 (hs.agr h1 (fun x hx => subq_mem hc3 hx)) h5 hd2
    refine wpIn_mono (ih _ f1 a' w' _ ks rt hc g1 (g3 _ h6)) ?_
    intro e a2 w2 hp
    have hag : Agr x.writes a a2 := (h1.trans hp.1).mono (by simp)
    by_cases he : e = .normal
    · subst he
      obtain ⟨k1, k2, k3, f2, k4, k5⟩ := hp
      obtain ⟨r2, l1, l2, l3⟩ := CT.app_ex k5
      exact ⟨_, l3, hag, k2.trans h2, k3.trans h3, f2, r2, k4, l1, l2, rfl⟩
    · have := Post.wid (K' := K) (W' := x.writes) hp (by intro z hz; exact hz) he
      have : Post K ks rt x.writes a w e a2 w2 := ⟨hag, this.2.1.trans h2, this.2.2.1.trans h3, this.2.2.2⟩
      cases e <;> first | exact absurd rfl he | exact this
  | exit i =>
    intro c f a w K ks rt hc hs hd
    cases c <;> first | (simp [chkIL] at hc; done) | skip
    simp only [chkIL, beq_iff_eq] at hc
    subst hc
    exact wpIn_exit ⟨Agr.refl _ _, rfl, rfl, f, hs, hd⟩
  | ret =>
    intro c f a w K ks rt hc hs hd
    cases c <;> first | (simp [chkIL] at hc; done) | skip
    exact wpIn_ret ⟨Agr.refl _ _, rfl, rfl, f, hs, hd⟩

/-- The results of a function, out of its slots and cells. -/
inductive RV where
  | tmp (t : Nat)
  | cell (a : Nat) (l : Leaf)
  | cella (a : Nat) (ls : List Leaf)
def resK (f : Fr) (h : H) : List RV → (List Value → Prop) → Prop
  | [], K => K []
  | .tmp t :: rs, K => match (f.get t).val with
    | some v => resK f h rs fun vs => K (v :: vs)
    | none => False
  | .cell a l :: rs, K => match (f.get a).val with
    | some (.pointer p) => onP p fun b o => l.ex fun v => cell h ⟨b, o, none⟩ = some v ∧ resK f h rs fun vs => K (v :: vs)
    | _ => False
  | .cella a ls :: rs, K => match (f.get a).val with
    | some (.pointer p) => onP p fun b o => lds h b o ls fun us => resK f h rs fun vs => K (.agg ⟨us⟩ :: vs)
    | _ => False
def packV : List Value → Value
  | [v] => v
  | vs => .tuple ⟨vs⟩
def chkRV (P : Program) : List ResultVar → List RV → Bool
  | [], [] => true
  | .tmp t :: rs, .tmp t' :: qs => t == t' && chkRV P rs qs
  | .cell a t :: rs, .cell a' _ :: qs => a == a' && scalarD (desc P t) && chkRV P rs qs
  | .cell a t :: rs, .cella a' ls :: qs => a == a' && aggD (desc P t) && sizeD P t == some ls.length && chkRV P rs qs
  | _, _ => false
def resS (tmps : Array Value) : ResultVar → Sem Value
  | .tmp t => pure (tmps.getD t undef)
  | .cell x t => do loadVar t (← asAddr (tmps.getD x undef))
theorem resK_run {f : Fr} {a : Act} (hs : Sim f a) {w : World} : ∀ {rs : List ResultVar} {qs : List RV} {K : List Value → Prop}, chkRV P rs qs = true → resK f w.heap qs K →
    ∃ vs, K vs ∧ (rs.mapM (resS a.tmps)).run P w = .ok vs w
  | [], [], K, _, hk => ⟨[], hk, by simp⟩
  | .tmp t :: rs, .tmp t' :: qs, K, hc, hk => by
    simp only [chkRV, Bool.and_eq_true, beq_iff_eq] at hc
    obtain ⟨rfl, hc⟩ := hc
    simp only [resK] at hk
    split at hk
    · rename_i v hv
      obtain ⟨vs, h1, h2⟩ := resK_run hs hc hk
      refine ⟨v :: vs, h1, ?_⟩
      rw [List.mapM_cons]
      simp only [resS, Sem.run_bind, Sem.run_pure, Result.andThen_ok, hs.vals _ _ hv]
      rw [h2]; rfl
    · exact hk.elim
  | .cell x t :: rs, .cell x' l :: qs, K, hc, hk => by
    simp only [chkRV, Bool.and_eq_true, beq_iff_eq] at hc
    obtain ⟨⟨rfl, hc1⟩, hc⟩ := hc
    simp only [resK] at hk
    split at hk
    · rename_i p hv
      obtain ⟨b, o, rfl, hk⟩ := onP_ex hk
      obtain ⟨v, hcl, hk⟩ := Leaf.ex_some hk
      obtain ⟨vs, h1, h2⟩ := resK_run hs hc hk
      refine ⟨v :: vs, h1, ?_⟩
      have hhead : (resS a.tmps (.cell x t)).run P w = .ok v w := by
        unfold resS; simp only; rw [hs.vals _ _ hv]; simp [asAddr, loadVar, run_agg0 hc1, cell_w, hcl]
      rw [List.mapM_cons, Sem.run_bind, hhead]
      simp only [Result.andThen_ok]
      rw [Sem.run_bind, h2]; rfl
    · exact hk.elim
  | .cell x t :: rs, .cella x' ls :: qs, K, hc, hk => by
    simp only [chkRV, Bool.and_eq_true, beq_iff_eq] at hc
    obtain ⟨⟨⟨rfl, hc1⟩, hc2⟩, hc⟩ := hc
    simp only [resK] at hk
    split at hk
    · rename_i p hv
      obtain ⟨b, o, rfl, hk⟩ := onP_ex hk
      obtain ⟨us, hk, hn, hrun⟩ := lds_run (P := P) (o := o) (i := 0) (acc := #[]) hk
      obtain ⟨vs, h1, h2⟩ := resK_run hs hc hk
      refine ⟨.agg ⟨us⟩ :: vs, h1, ?_⟩
      have hhead : (resS a.tmps (.cell x t)).run P w = .ok (.agg ⟨us⟩) w := by
        have := hrun w (Ext.refl _)
        unfold resS; simp only; rw [hs.vals _ _ hv]; simp [asAddr, loadVar, run_agg1 hc1, run_size hc2, loadCells, this]
      rw [List.mapM_cons, Sem.run_bind, hhead]
      simp only [Result.andThen_ok]
      rw [Sem.run_bind, h2]; rfl
    · exact hk.elim
  | [], _ :: _, _, hc, _ => by cases ‹RV› <;> cases hc
  | .tmp _ :: _, [], _, hc, _ => by cases hc
  | .cell _ _ :: _, [], _, hc, _ => by cases hc
  | .tmp _ :: _, .cell _ _ :: _, _, hc, _ => by cases hc
  | .tmp _ :: _, .cella _ _ :: _, _, hc, _ => by cases hc
  | .cell _ _ :: _, .tmp _ :: _, _, hc, _ => by cases hc

/-- A function as it is reckoned. -/
structure FL where
  n : Nat
  il : IL
  res : List RV
def slots : List Value → Nat → List Slot
  | _, 0 => []
  | [], n + 1 => .non :: slots [] n
  | v :: vs, n + 1 => .v v :: slots vs n
def chkFL (P : Program) (g : FuncId) (x : FL) : Bool := match P.funcs[g]? with
  | some fn => fn.ntmps == x.n && (match fn.body with | some c => chkIL P c x.il | none => false) && chkRV P fn.results.toList x.res
  | none => false
def lenLe : List Value → Nat → Bool
  | [], _ => true
  | _ :: vs, n + 1 => lenLe vs n
  | _ :: _, 0 => false
theorem lenLe_le : ∀ {vs : List Value} {n : Nat}, lenLe vs n = true → vs.length ≤ n
  | [], _, _ => by simp
  | _ :: vs, n + 1, h => by have := lenLe_le (vs := vs) (n := n) h; simp; omega
  | _ :: _, 0, h => by cases h
def FL.den (P : Program) (x : FL) (args : List Value) (h : H) (R : Value → H → Prop) : Prop :=
  lenLe args x.n = true ∧ x.il.den P ⟨slots args x.n, []⟩ h (fun f' h' => resK f' h' x.res fun vs => R (packV vs) h') [] (fun f' h' => resK f' h' x.res fun vs => R (packV vs) h')

theorem slots_len : ∀ (args : List Value) (n : Nat), (slots args n).length = n
  | _, 0 => by unfold slots; rfl
  | [], n + 1 => by unfold slots; simp [slots_len [] n]
  | v :: vs, n + 1 => by unfold slots; simp [slots_len vs n]
theorem slots_get : ∀ (args : List Value) (n i : Nat) (x : Value), (lget (slots args n) i).val = some x → args[i]? = some x
  | _, 0, i, x, h => by unfold slots at h; simp [lget, Slot.val] at h
  | [], n + 1, 0, x, h => by unfold slots at h; simp [lget, Slot.val] at h
  | [], n + 1, i + 1, x, h => by unfold slots at h; have := slots_get [] n i x h; simp at this
  | v :: vs, n + 1, 0, x, h => by unfold slots at h; simp [lget, Slot.val] at h; simp [h]
  | v :: vs, n + 1, i + 1, x, h => by unfold slots at h; simpa using slots_get vs n i x h

/-- **A function's contract, from what it is reckoned to.** -/
theorem FL.sound (hm : P.follows .mixedOrders = true) {g : FuncId} {x : FL} (hc : chkFL P g x = true) {args : List Value} {h : H} {R : Value → H → Prop} (hd : x.den P args h R) : HC P g args h R := by
  intro w hw
  subst hw
  unfold chkFL at hc
  split at hc
  · rename_i fn hfn
    simp only [Bool.and_eq_true, beq_iff_eq] at hc
    obtain ⟨⟨hn, hc⟩, hres⟩ := hc
    split at hc
    · rename_i c hb
      obtain ⟨hlen, hd⟩ := hd
      have hlen := lenLe_le hlen
      have hs : Sim ⟨slots args x.n, []⟩ { tmps := ⟨args⟩ ++ Array.replicate (fn.ntmps - args.length) undef, defers := [] } := by
        refine ⟨by simp [slots_len, hn]; omega, rfl, ?_⟩
        intro i v hv
        have h1 := slots_get args x.n i v hv
        obtain ⟨hlt, _⟩ := List.getElem?_eq_some_iff.1 h1
        rw [Array.getD_eq_getD_getElem?, Array.getElem?_append_left (by simpa using hlt)]
        simp [h1]
      have := IL.sound hm (r := none) x.il c _ _ w _ _ _ hc hs hd
      refine callsIn_FW.1 (callsIn_of_wp (F := FW none) (n := 0) hfn hb trivial (wpIn_mono this ?_))
      rintro e a' w' ⟨h1, h2, h3, f', h4, h5⟩
      have hdef : a'.defers = [] := h1.1.2
      have fin : resK f' w'.heap x.res (fun vs => R (packV vs) w'.heap) → ∃ v, (results fn a'.tmps).run P w' = .ok v w' ∧ R v w'.heap := by
        intro hk
        obtain ⟨vs, k1, k2⟩ := resK_run h4 hres hk
        refine ⟨packV vs, ?_, k1⟩
        have e : results fn a'.tmps = (do let vs ← fn.results.mapM (resS a'.tmps); pure (if h : vs.size = 1 then vs[0] else .tuple vs)) := rfl
        rw [e, Array.mapM_eq_mapM_toList]
        simp only [Sem.run_bind, Sem.run_map]
        rw [k2]
        simp only [Result.andThen_ok]
        cases vs with
        | nil => rfl
        | cons v vs => cases vs <;> rfl
      cases e with
      | normal => obtain ⟨v, k1, k2⟩ := fin h5; exact ⟨hdef, v, k1, v, rfl, k2, h2, h3⟩
      | ret => obtain ⟨v, k1, k2⟩ := fin h5; exact ⟨hdef, v, k1, v, rfl, k2, h2, h3⟩
      | exit id => exact h5.elim
      | goto l => exact h5.elim
      | panic ch => exact h5.elim
      | outgrown => exact h5.elim
    · cases hc
  · cases hc
end Go.Fw

/- Short names for operands and steps. -/
set_option linter.unusedVariables false
namespace Go.Fw
abbrev t (n : Nat) : Operand := .tmp n
abbrev ci (n : Int) : Operand := .const (.int .i64 n)
abbrev cb (b : Bool) : Operand := .const (.bool b)
abbrev sv (d : Nat) (o : VOp) : St := ⟨some d, none, .v o⟩
abbrev se (d : Nat) (o : EOp) : St := ⟨some d, none, .e o⟩
abbrev nv (o : VOp) : St := ⟨none, none, .v o⟩
abbrev ne (o : EOp) : St := ⟨none, none, .e o⟩
end Go.Fw

/- Heaps: what lies where, and what a call leaves as it was. -/
set_option linter.unusedVariables false
set_option linter.unusedSimpArgs false
namespace Go.Fw

theorem cell_of {h : H} {b o : Nat} {cs : List Value} {e : TypeId} {fr : Nat × Nat} (hb : h[b]? = some (.cells ⟨cs⟩ e fr)) : cell h ⟨b, o, none⟩ = cs[o]? := by simp [cell, hb]
theorem lt_of {h : H} {b : Nat} {o : Obj} (hb : h[b]? = some o) : b < h.size := (Array.getElem?_eq_some_iff.1 hb).1
theorem cell_lt {h : H} {a : Addr} {v : Value} (hc : cell h a = some v) : a.block < h.size := by
  unfold cell at hc
  cases hb : h[a.block]? with
  | none => rw [hb] at hc; cases hc
  | some o => exact lt_of hb

/-- Beside the blocks of S all is as it was. -/
structure Mod (S : Nat → Prop) (h h' : H) : Prop where
  size : h.size ≤ h'.size
  same : ∀ b, b < h.size → ¬ S b → h'[b]? = h[b]?
def none' : Nat → Prop := fun _ => False
theorem Mod.refl (S : Nat → Prop) (h : H) : Mod S h h := ⟨Nat.le_refl _, fun _ _ _ => rfl⟩
theorem Mod.trans {S S' : Nat → Prop} {h h1 h2 : H} (x : Mod S h h1) (y : Mod S' h1 h2) (hs : ∀ b, b < h.size → S' b → S b) : Mod S h h2 :=
  ⟨Nat.le_trans x.size y.size, fun b hb hn => (y.same b (Nat.lt_of_lt_of_le hb x.size) (fun h => hn (hs b hb h))).trans (x.same b hb hn)⟩
theorem Mod.wid {S S' : Nat → Prop} {h h1 : H} (x : Mod S h h1) (hs : ∀ b, b < h.size → S b → S' b) : Mod S' h h1 := ⟨x.size, fun b hb hn => x.same b hb (fun h => hn (hs b hb h))⟩
theorem Mod.get {S : Nat → Prop} {h h' : H} (m : Mod S h h') {b : Nat} {o : Obj} (hb : h[b]? = some o) (hn : ¬ S b) : h'[b]? = some o := by rw [m.same b (lt_of hb) hn, hb]
theorem Mod.cell {S : Nat → Prop} {h h' : H} (m : Mod S h h') {a : Addr} {v : Value} (hc : Fw.cell h a = some v) (hn : ¬ S a.block) : Fw.cell h' a = some v := by
  have := m.same a.block (cell_lt hc) hn
  unfold Fw.cell at *
  rw [this]; exact hc
theorem Mod.ext {S : Nat → Prop} {h0 h h' : H} (e : Ext h0 h) (m : Mod S h h') (hs : ∀ b, b < h0.size → ¬ S b) : Ext h0 h' := fun b o hb => m.get (e b o hb) (hs b (lt_of hb))
theorem Mod.ext0 {h h' : H} (m : Mod none' h h') : Ext h h' := fun b o hb => m.get hb (fun x => x)
theorem Ext.mod {h h' : H} (e : Ext h h') : Mod none' h h' := by
  refine ⟨?_, fun b hb _ => ?_⟩
  · rcases Nat.lt_or_ge h'.size h.size with hlt | hge
    · have h1 : h[h'.size]? = some h[h'.size] := by simp [hlt]
      have := lt_of (e _ _ h1)
      omega
    · exact hge
  · have h1 : h[b]? = some h[b] := by simp [hb]
    rw [h1, e _ _ h1]
theorem Ext.size {h h' : H} (e : Ext h h') : h.size ≤ h'.size := e.mod.size

theorem New.get {h h' : H} {o : Obj} {b : Nat} (n : New h o b h') : h'[b]? = some o := by rw [n.eq, n.blk]; simp
theorem New.size {h h' : H} {o : Obj} {b : Nat} (n : New h o b h') : h'.size = h.size + 1 := by rw [n.eq]; simp
theorem New.mod {h h' : H} {o : Obj} {b : Nat} (n : New h o b h') (S : Nat → Prop) : Mod S h h' := (n.ext.mod).wid fun _ _ x => x.elim
theorem Up.mod {h h' : H} {o : Obj} {b : Nat} (u : Up h b o h') {S : Nat → Prop} (hs : S b) : Mod S h h' := by
  rw [u.eq]
  refine ⟨by rw [upd_size]; exact Nat.le_refl _, fun c hc hn => ?_⟩
  rw [upd_get, if_neg]
  rintro ⟨rfl, _⟩
  exact hn hs
theorem Up.get {h h' : H} {o o' : Obj} {b : Nat} (u : Up h b o h') (hb : h[b]? = some o') : h'[b]? = some o := by rw [u.eq, upd_get, if_pos ⟨rfl, lt_of hb⟩]
theorem Up.size {h h' : H} {o : Obj} {b : Nat} (u : Up h b o h') : h'.size = h.size := by rw [u.eq, upd_size]
theorem Up.other {h h' : H} {o : Obj} {b c : Nat} (u : Up h b o h') (hc : c ≠ b) : h'[c]? = h[c]? := by rw [u.eq, upd_get, if_neg (fun x => hc x.1)]

theorem i64ok {n : Int} (h1 : -9223372036854775808 ≤ n) (h2 : n ≤ 9223372036854775807) : InR .i64 n := ⟨h1, h2⟩
theorem u64ok {n : Int} (h1 : 0 ≤ n) (h2 : n ≤ 18446744073709551615) : InR .u64 n := ⟨h1, h2⟩

/-! ### Rows of like elements -/
def vi (n : Int) : Value := .int .i64 n
def vb (b : Bool) : Value := .bool b
/-- The slice (p, n, _) reads as the list l; an element takes k cells. -/
structure SlAt {α : Type} (enc : α → List Value) (k : Nat) (h : H) (p : Option Addr) (n : Nat) (l : List α) : Prop where
  len : l.length = n
  at_ : 0 < n → ∃ b o, p = some ⟨b, o, none⟩ ∧ ∀ i x, l[i]? = some x → ∀ j v, (enc x)[j]? = some v → cell h ⟨b, o + i * k + j, none⟩ = some v
theorem SlAt.ext {α : Type} {enc : α → List Value} {k : Nat} {h h' : H} {p : Option Addr} {n : Nat} {l : List α} (s : SlAt enc k h p n l) (e : Ext h h') : SlAt enc k h' p n l :=
  ⟨s.len, fun hn => let ⟨b, o, hp, hc⟩ := s.at_ hn; ⟨b, o, hp, fun i x hi j v hj => e.cell (hc i x hi j v hj)⟩⟩
theorem SlAt.nil {α : Type} (enc : α → List Value) (k : Nat) (h : H) (p : Option Addr) : SlAt enc k h p 0 [] := ⟨rfl, fun h => absurd h (Nat.lt_irrefl 0)⟩
abbrev IntsAt := SlAt (fun n : Int => [vi n]) 1
theorem IntsAt.rdc {h : H} {p : Option Addr} {n : Nat} {l : List Int} (s : IntsAt h p n l) : rdc h p (n * 1) (l.map vi) := by
  refine ⟨by simp [s.len], fun hn => ?_⟩
  obtain ⟨b, o, hp, hc⟩ := s.at_ (by omega)
  refine ⟨b, o, hp, fun j hj => ?_⟩
  have hlt : j < l.length := by rw [s.len]; omega
  have := hc j l[j] (by simp [hlt]) 0 (vi l[j]) rfl
  simpa [hlt] using this
theorem oneA_map {α : Type} {f : α → Value} (hf : ∀ x, (f x).oneCell' = true) (l : List α) : oneA (l.map f) = true := by simp [oneA, hf]

def flat {α : Type} (enc : α → List Value) (l : List α) : List Value := l.flatMap enc
theorem flat_len {α : Type} {enc : α → List Value} {k : Nat} (hk : ∀ x, (enc x).length = k) (l : List α) : (flat enc l).length = l.length * k := by
  induction l with
  | nil => simp [flat]
  | cons x l ih => simp only [flat, List.flatMap_cons, List.length_append, hk, List.length_cons] at *; rw [ih, Nat.succ_mul, Nat.add_comm]
theorem flat_get {α : Type} {enc : α → List Value} {k : Nat} (hk : ∀ x, (enc x).length = k) : ∀ (l : List α) (i j : Nat), j < k → (flat enc l)[i * k + j]? = (l[i]?).bind fun x => (enc x)[j]?
  | [], i, j, hj => by simp [flat]
  | x :: l, 0, j, hj => by
    simp only [flat, List.flatMap_cons, Nat.zero_mul, Nat.zero_add, List.getElem?_cons_zero, Option.bind_some]
    rw [List.getElem?_append_left (by rw [hk]; exact hj)]
  | x :: l, i + 1, j, hj => by
    have ih := flat_get hk l i j hj
    simp only [flat, List.flatMap_cons, List.getElem?_cons_succ] at *
    rw [List.getElem?_append_right (by rw [hk, Nat.succ_mul]; omega), hk]
    rw [show (i + 1) * k + j - k = i * k + j by rw [Nat.succ_mul]; omega]
    exact ih
theorem flat_set {α : Type} {enc : α → List Value} {k : Nat} (hk : ∀ x, (enc x).length = k) (h0 : 0 < k) (l : List α) (i : Nat) (x : α) (hi : i < l.length) : setAt (flat enc l) (i * k) (enc x) = flat enc (l.set i x) := by
  have hl : (flat enc l).length = l.length * k := flat_len hk l
  have hle : i * k + k ≤ l.length * k := by rw [← Nat.succ_mul]; exact Nat.mul_le_mul_right k hi
  apply List.ext_getElem?
  intro m
  rw [setAt_get _ _ _ _ (by rw [hk, hl]; exact hle), hk]
  have hm : m = m / k * k + m % k := by rw [Nat.mul_comm]; exact (Nat.div_add_mod m k).symm
  have hr : m % k < k := Nat.mod_lt _ h0
  generalize m / k = q at hm
  generalize m % k = r at hm hr
  subst hm
  rw [flat_get hk _ _ _ hr, flat_get hk _ _ _ hr]
  by_cases hq : q = i
  · subst hq
    rw [if_pos (by omega), List.getElem?_set_self hi]
    simp only [Option.bind_some]
    congr 1; omega
  · rw [List.getElem?_set_ne (fun e => hq e.symm), if_neg]
    rintro ⟨h1, h2⟩
    rcases Nat.lt_or_ge q i with hlt | hge
    · have : (q + 1) * k ≤ i * k := Nat.mul_le_mul_right k hlt
      rw [Nat.succ_mul] at this; omega
    · have : (i + 1) * k ≤ q * k := Nat.mul_le_mul_right k (by omega)
      rw [Nat.succ_mul] at this; omega
theorem flat1 {α : Type} {f : α → Value} (l : List α) : flat (fun x => [f x]) l = l.map f := by
  induction l with
  | nil => rfl
  | cons x l ih => simp only [flat, List.flatMap_cons, List.map_cons] at *; rw [ih]; rfl
/-- A row whole in a block of its own, with room behind it. -/
theorem SlAt.of_block {α : Type} {enc : α → List Value} {k : Nat} (hk : ∀ x, (enc x).length = k) {h : H} {b : Nat} {l : List α} {rest : List Value} {e : TypeId} {fr : Nat × Nat} (hb : h[b]? = some (.cells ⟨flat enc l ++ rest⟩ e fr)) :
    SlAt enc k h (some ⟨b, 0, none⟩) l.length l := by
  refine ⟨rfl, fun _ => ⟨b, 0, rfl, fun i x hi j v hj => ?_⟩⟩
  rw [cell_of hb]
  have hjk : j < k := by rw [← hk x]; exact (List.getElem?_eq_some_iff.1 hj).1
  have hil : i < l.length := (List.getElem?_eq_some_iff.1 hi).1
  have h1 := flat_get hk l i j hjk
  rw [hi] at h1
  simp only [Option.bind_some, hj] at h1
  rw [Nat.zero_add, List.getElem?_append_left]
  · exact h1
  · exact (List.getElem?_eq_some_iff.1 h1).1
end Go.Fw

/- Rows of parts that reach further, loops that go on, and one step of reading. -/
set_option linter.unusedVariables false
set_option linter.unusedSimpArgs false
namespace Go.Fw

/-! ### Append and copy, what they ask -/
def apQ (e : TypeId) (size bytes : Nat) (z : List Value) (h : H) (p : Option Addr) (n c : Nat) (q : Option Addr) (m : Nat) (K : Option Addr → Nat → Nat → H → Prop) : Prop :=
  (n + m) * bytes ≤ 140737488355328 ∧ ∃ vs, rdc h q (m * size) vs ∧ oneA vs = true ∧
    (n + m ≤ c → (m = 0 → K p n c h) ∧ (0 < m → onP p fun b o => ∃ cs e', h[b]? = some (.cells ⟨cs⟩ e' (0, 0)) ∧ o + (n + m) * size ≤ cs.length ∧
      ∀ h', Up h b (.cells ⟨setAt cs (o + n * size) vs⟩ e' (0, 0)) h' → K p (n + m) c h')) ∧
    (c < n + m → ∃ os, rdc h p (n * size) os ∧ ∀ nc b h', n + m ≤ nc → New h (.cells ⟨os ++ vs ++ repV z (nc - (n + m))⟩ e) b h' → K (some ⟨b, 0, none⟩) (n + m) nc h')
def cpQ (size : Nat) (h : H) (p : Option Addr) (n : Nat) (q : Option Addr) (m : Nat) (K : Int → H → Prop) : Prop :=
  ∃ vs, rdc h q (min m n * size) vs ∧ oneA vs = true ∧ (min m n = 0 → K 0 h) ∧ (0 < min m n → onP p fun b o => ∃ cs e', h[b]? = some (.cells ⟨cs⟩ e' (0, 0)) ∧ o + min m n * size ≤ cs.length ∧
    ∀ h', Up h b (.cells ⟨setAt cs o vs⟩ e' (0, 0)) h' → K (min m n : Nat) h')

def stQ (n : Nat) (h : H) (b o : Nat) (vs : List Value) (K : H → Prop) : Prop :=
  ∃ cs e, h[b]? = some (.cells ⟨cs⟩ e (0, 0)) ∧ o + n ≤ cs.length ∧ oneA vs = true ∧ vs.length = n ∧ ∀ h', Up h b (.cells ⟨setAt cs o vs⟩ e (0, 0)) h' → K h'

/-! ### Rows -/
/-- The slice (p, n, _) reads as the list l, part for part by D; a part takes k cells. -/
structure RowAt {α : Type} (D : H → List Value → α → Prop) (k : Nat) (h : H) (p : Option Addr) (n : Nat) (l : List α) : Prop where
  len : l.length = n
  at_ : 0 < n → ∃ b o, p = some ⟨b, o, none⟩ ∧ ∀ i x, l[i]? = some x → ∃ vs, D h vs x ∧ ∀ j v, vs[j]? = some v → cell h ⟨b, o + i * k + j, none⟩ = some v
theorem RowAt.mono {α : Type} {D : H → List Value → α → Prop} {k : Nat} {h h' : H} {p : Option Addr} {n : Nat} {l : List α} (s : RowAt D k h p n l) (e : Ext h h') (hD : ∀ vs x, x ∈ l → D h vs x → D h' vs x) : RowAt D k h' p n l :=
  ⟨s.len, fun hn => let ⟨b, o, hp, hc⟩ := s.at_ hn; ⟨b, o, hp, fun i x hi => let ⟨vs, hd, hv⟩ := hc i x hi; ⟨vs, hD vs x (List.mem_of_getElem? hi) hd, fun j v hj => e.cell (hv j v hj)⟩⟩⟩
theorem RowAt.nil {α : Type} (D : H → List Value → α → Prop) (k : Nat) (h : H) (p : Option Addr) : RowAt D k h p 0 [] := ⟨rfl, fun h => absurd h (Nat.lt_irrefl 0)⟩
/-- A place of a row is there, and what stands there. -/
theorem RowAt.get {α : Type} {D : H → List Value → α → Prop} {k : Nat} {h : H} {p : Option Addr} {n : Nat} {l : List α} (s : RowAt D k h p n l) {i : Int} (h0 : 0 ≤ i) (h1 : i < n) :
    ∃ x b o, l[i.toNat]? = some x ∧ p = some ⟨b, o, none⟩ ∧ ∃ vs, D h vs x ∧ ∀ j v, vs[j]? = some v → cell h ⟨b, o + i.toNat * k + j, none⟩ = some v := by
  have hlt : i.toNat < l.length := by rw [s.len]; omega
  obtain ⟨b, o, hp, hc⟩ := s.at_ (by omega)
  have hx : l[i.toNat]? = some l[i.toNat] := by simp [hlt]
  exact ⟨_, b, o, hx, hp, hc _ _ hx⟩
theorem SlAt.get {h : H} {p : Option Addr} {n : Nat} {l : List Int} (s : IntsAt h p n l) {i : Int} (h0 : 0 ≤ i) (h1 : i < n) :
    ∃ x b o, l[i.toNat]? = some x ∧ p = some ⟨b, o, none⟩ ∧ cell h ⟨b, o + i.toNat * 1, none⟩ = some (.int .i64 x) := by
  have hlt : i.toNat < l.length := by rw [s.len]; omega
  obtain ⟨b, o, hp, hc⟩ := s.at_ (by omega)
  have hx : l[i.toNat]? = some l[i.toNat] := by simp [hlt]
  exact ⟨_, b, o, hx, hp, hc _ _ hx 0 _ rfl⟩

/-! ### Loops -/
def fwdJ (n : Int) (Inv : Int → H → Prop) : Int → LI := fun v => (fun h => 0 ≤ v ∧ v ≤ n ∧ Inv v h, fun _ => (n - v).toNat)
theorem fwd (n : Int) (Inv : Int → H → Prop) {h : H} {K : (Int → LI) → Int → H → Prop} (hn : 0 ≤ n) (h0 : Inv 0 h) (st : ∀ v h', 0 ≤ v → v ≤ n → Inv v h' → K (fwdJ n Inv) v h') :
    ∃ J : Int → LI, (J 0).1 h ∧ ∀ v h', (J v).1 h' → K J v h' :=
  ⟨fwdJ n Inv, ⟨Int.le_refl 0, hn, h0⟩, fun v h' x => st v h' x.1 x.2.1 x.2.2⟩
theorem fwd_next {n : Int} {Inv : Int → H → Prop} {v : Int} {h h' : H} (h0 : 0 ≤ v) (h1 : v < n) (hi : Inv (v + 1) h') : (fwdJ n Inv (v + 1)).1 h' ∧ (fwdJ n Inv (v + 1)).2 h' < (fwdJ n Inv v).2 h :=
  ⟨⟨by omega, by omega, hi⟩, by show (n - (v + 1)).toNat < (n - v).toNat; omega⟩

def bwdJ (n : Int) (Inv : Int → H → Prop) : Int → LI := fun v => (fun h => -1 ≤ v ∧ v < n ∧ Inv v h, fun _ => (v + 1).toNat)
theorem bwd (n : Int) (Inv : Int → H → Prop) {h : H} {K : (Int → LI) → Int → H → Prop} (hn : 0 ≤ n) (h0 : Inv (n - 1) h) (st : ∀ v h', -1 ≤ v → v < n → Inv v h' → K (bwdJ n Inv) v h') :
    ∃ J : Int → LI, (J (n - 1)).1 h ∧ ∀ v h', (J v).1 h' → K J v h' :=
  ⟨bwdJ n Inv, ⟨by omega, by omega, h0⟩, fun v h' x => st v h' x.1 x.2.1 x.2.2⟩
theorem bwd_next {n : Int} {Inv : Int → H → Prop} {v : Int} {h h' : H} (h0 : 0 ≤ v) (h1 : v < n) (hi : Inv (v - 1) h') : (bwdJ n Inv (v - 1)).1 h' ∧ (bwdJ n Inv (v - 1)).2 h' < (bwdJ n Inv v).2 h :=
  ⟨⟨by omega, by omega, hi⟩, by show (v - 1 + 1).toNat < (v + 1).toNat; omega⟩

/-! ### One step of reading -/
theorem rd_int {o : Option Value} {k : IntKind} {n : Int} {K : Int → Prop} (hc : o = some (.int k n)) (hk : K n) : ∃ v, o = some (.int k v) ∧ K v := ⟨n, hc, hk⟩
theorem rd_bool {o : Option Value} {n : Bool} {K : Bool → Prop} (hc : o = some (.bool n)) (hk : K n) : ∃ v, o = some (.bool v) ∧ K v := ⟨n, hc, hk⟩
theorem rd_slice {o : Option Value} {p : Option Addr} {n c : Nat} {K : Option Addr → Nat → Nat → Prop} (hc : o = some (.slice p n c)) (hk : K p n c) : ∃ p n c, o = some (.slice p n c) ∧ K p n c := ⟨p, n, c, hc, hk⟩
theorem onP_at {p : Option Addr} {b o : Nat} {K : Nat → Nat → Prop} (hp : p = some ⟨b, o, none⟩) (hk : K b o) : onP p K := by subst hp; exact hk
theorem New.cell {h h' : H} {cs : List Value} {e : TypeId} {fr : Nat × Nat} {b o : Nat} {v : Value} (n : New h (.cells ⟨cs⟩ e fr) b h') (hv : cs[o]? = some v) : Fw.cell h' ⟨b, o, none⟩ = some v := by rw [cell_of n.get]; exact hv
theorem Ext.rfl' {h : H} : Ext h h := fun _ _ x => x

theorem exI {k : IntKind} {n : Int} {K : Int → Prop} : (∃ v, some (Value.int k n) = some (.int k v) ∧ K v) ↔ K n := ⟨fun ⟨_, h, x⟩ => by cases h; exact x, fun x => ⟨n, rfl, x⟩⟩
theorem exB {n : Bool} {K : Bool → Prop} : (∃ v, some (Value.bool n) = some (.bool v) ∧ K v) ↔ K n := ⟨fun ⟨_, h, x⟩ => by cases h; exact x, fun x => ⟨n, rfl, x⟩⟩
theorem exStr {n : ByteArray} {K : ByteArray → Prop} : (∃ v, some (Value.string n) = some (.string v) ∧ K v) ↔ K n := ⟨fun ⟨_, h, x⟩ => by cases h; exact x, fun x => ⟨n, rfl, x⟩⟩
theorem exPtr {n : Option Addr} {K : Option Addr → Prop} : (∃ v, some (Value.pointer n) = some (.pointer v) ∧ K v) ↔ K n := ⟨fun ⟨_, h, x⟩ => by cases h; exact x, fun x => ⟨n, rfl, x⟩⟩
theorem exSl {p : Option Addr} {n c : Nat} {K : Option Addr → Nat → Nat → Prop} : (∃ p' n' c', some (Value.slice p n c) = some (.slice p' n' c') ∧ K p' n' c') ↔ K p n c :=
  ⟨fun ⟨_, _, _, h, x⟩ => by cases h; exact x, fun x => ⟨p, n, c, rfl, x⟩⟩
theorem exBl {n : Bool} {K : Bool → Prop} : (∃ v, Value.bool n = .bool v ∧ K v) ↔ K n := ⟨fun ⟨_, h, x⟩ => by cases h; exact x, fun x => ⟨n, rfl, x⟩⟩

theorem New.keep {h h1 : H} {cs : List Value} {e : TypeId} {fr : Nat × Nat} {b : Nat} (n : New h (.cells ⟨cs⟩ e fr) b h1) : ∀ h', Ext h1 h' → ∀ j y, cs[j]? = some y → Fw.cell h' ⟨b, j, none⟩ = some y :=
  fun h' e j y hj => e.cell (New.cell n hj)
theorem New.upExt {h h1 h2 : H} {o o' : Obj} {b : Nat} (n : New h o b h1) (u : Up h1 b o' h2) : Ext h h2 :=
  Mod.ext n.ext (u.mod (S := fun c => c = b) rfl) fun c hc he => by have := n.blk; omega
theorem New.upKeep {h h1 h2 : H} {o : Obj} {cs : List Value} {e : TypeId} {fr : Nat × Nat} {b : Nat} (n : New h o b h1) (u : Up h1 b (.cells ⟨cs⟩ e fr) h2) : ∀ h', Ext h2 h' → ∀ j y, cs[j]? = some y → Fw.cell h' ⟨b, j, none⟩ = some y :=
  fun h' e j y hj => e.cell (by rw [cell_of (u.get n.get)]; exact hj)

/-- A new block, written over whole. -/
theorem New.st {h h1 : H} {cs vs : List Value} {e : TypeId} {b n : Nat} {K : H → Prop} (hN : New h (.cells ⟨cs⟩ e (0, 0)) b h1) (hl : cs.length = vs.length) (ho : oneA vs = true) (hn : vs.length = n) (hs : setAt cs 0 vs = vs)
    (hK : ∀ h2, Ext h h2 → (∀ h', Ext h2 h' → ∀ j y, vs[j]? = some y → Fw.cell h' ⟨b, j, none⟩ = some y) → K h2) : stQ n h1 b 0 vs K :=
  ⟨cs, e, hN.get, by omega, ho, hn, fun h2 hU => hK h2 (hN.upExt hU) (by rw [hs] at hU; exact hN.upKeep hU)⟩
end Go.Fw

/- Rows that are one's own: read, written, lengthened. -/
set_option linter.unusedVariables false
set_option linter.unusedSimpArgs false
namespace Go.Fw

theorem flat_sub {α : Type} {enc : α → List Value} {k : Nat} (hk : ∀ x, (enc x).length = k) (h0 : 0 < k) {l : List α} {i j : Nat} {x x' : α} {vs : List Value} (hi : l[i]? = some x) (hj : j + vs.length ≤ k) (hx : setAt (enc x) j vs = enc x') :
    setAt (flat enc l) (i * k + j) vs = flat enc (l.set i x') := by
  have hl : (flat enc l).length = l.length * k := flat_len hk l
  have hil : i < l.length := (List.getElem?_eq_some_iff.1 hi).1
  have hle : i * k + k ≤ l.length * k := by rw [← Nat.succ_mul]; exact Nat.mul_le_mul_right k hil
  apply List.ext_getElem?
  intro m
  rw [setAt_get _ _ _ _ (by rw [hl]; omega)]
  have hm : m = m / k * k + m % k := by rw [Nat.mul_comm]; exact (Nat.div_add_mod m k).symm
  have hr : m % k < k := Nat.mod_lt _ h0
  generalize m / k = q at hm
  generalize m % k = r at hm hr
  subst hm
  rw [flat_get hk _ _ _ hr, flat_get hk _ _ _ hr]
  by_cases hq : q = i
  · subst hq
    rw [List.getElem?_set_self hil, hi]
    simp only [Option.bind_some]
    rw [← hx, setAt_get _ _ _ _ (by rw [hk]; exact hj)]
    by_cases hc : j ≤ r ∧ r < j + vs.length
    · rw [if_pos hc, if_pos (by omega)]; congr 1; omega
    · rw [if_neg hc, if_neg (by omega)]
  · rw [List.getElem?_set_ne (fun e => hq e.symm), if_neg]
    rintro ⟨h1, h2⟩
    rcases Nat.lt_or_ge q i with hlt | hge
    · have : (q + 1) * k ≤ i * k := Nat.mul_le_mul_right k hlt
      rw [Nat.succ_mul] at this; omega
    · have : (i + 1) * k ≤ q * k := Nat.mul_le_mul_right k (by omega)
      rw [Nat.succ_mul] at this; omega
theorem setAt_append {A B vs : List Value} {o : Nat} (h : o + vs.length ≤ A.length) : setAt (A ++ B) o vs = setAt A o vs ++ B := by
  apply List.ext_getElem?
  intro m
  rw [setAt_get _ _ _ _ (by simp; omega)]
  have hl := setAt_length A o vs
  by_cases hm : m < A.length
  · rw [List.getElem?_append_left hm, List.getElem?_append_left (by rw [hl]; exact hm), setAt_get _ _ _ _ h]
  · rw [List.getElem?_append_right (Nat.le_of_not_lt hm), List.getElem?_append_right (by rw [hl]; omega), if_neg (by omega), hl]
theorem setAt_tail {A B vs : List Value} (h : vs.length ≤ B.length) : setAt (A ++ B) A.length vs = A ++ setAt B 0 vs := by
  apply List.ext_getElem?
  intro m
  rw [setAt_get _ _ _ _ (by simp; omega)]
  by_cases hm : m < A.length
  · rw [List.getElem?_append_left hm, List.getElem?_append_left hm, if_neg (by omega)]
  · rw [List.getElem?_append_right (by omega), List.getElem?_append_right (by omega), setAt_get _ _ _ _ (by omega)]
    by_cases hc : m < A.length + vs.length
    · rw [if_pos ⟨by omega, hc⟩, if_pos ⟨by omega, by omega⟩]; rfl
    · rw [if_neg (by omega), if_neg (by omega)]
theorem setAt_zero {B vs : List Value} (h : vs.length ≤ B.length) : setAt B 0 vs = vs ++ B.drop vs.length := by
  apply List.ext_getElem?
  intro m
  rw [setAt_get _ _ _ _ (by omega)]
  by_cases hc : m < vs.length
  · rw [if_pos ⟨by omega, by omega⟩, List.getElem?_append_left hc]; rfl
  · rw [if_neg (by omega), List.getElem?_append_right (by omega), List.getElem?_drop]; congr 1; omega

/-- A row that lies whole, from its first cell on, in the block b. -/
structure Own {α : Type} (enc : α → List Value) (k : Nat) (h : H) (p : Option Addr) (b : Nat) (l : List α) : Prop where
  ptr : l ≠ [] → p = some ⟨b, 0, none⟩
  blk : l ≠ [] → ∃ e rest, h[b]? = some (.cells ⟨flat enc l ++ rest⟩ e (0, 0))
theorem Own.mod {α : Type} {enc : α → List Value} {k : Nat} {h h' : H} {p : Option Addr} {b : Nat} {l : List α} (w : Own enc k h p b l) {S : Nat → Prop} (m : Mod S h h') (hn : ¬ S b) : Own enc k h' p b l :=
  ⟨w.ptr, fun hl => let ⟨e, r, hb⟩ := w.blk hl; ⟨e, r, m.get hb hn⟩⟩
theorem Own.ext {α : Type} {enc : α → List Value} {k : Nat} {h h' : H} {p : Option Addr} {b : Nat} {l : List α} (w : Own enc k h p b l) (m : Ext h h') : Own enc k h' p b l := w.mod m.mod fun x => x
theorem Own.lt {α : Type} {enc : α → List Value} {k : Nat} {h : H} {p : Option Addr} {b : Nat} {l : List α} (w : Own enc k h p b l) (hl : l ≠ []) : b < h.size := let ⟨_, _, hb⟩ := w.blk hl; lt_of hb
theorem Own.new {α : Type} {enc : α → List Value} {k : Nat} {h h' : H} {b : Nat} {l : List α} {rest : List Value} {e : TypeId} (n : New h (.cells ⟨flat enc l ++ rest⟩ e (0, 0)) b h') : Own enc k h' (some ⟨b, 0, none⟩) b l := ⟨fun _ => rfl, fun _ => ⟨e, rest, n.get⟩⟩
theorem ne_nil {α : Type} {l : List α} {i : Nat} {x : α} (hi : l[i]? = some x) : l ≠ [] := by rintro rfl; simp at hi
theorem Own.cell {α : Type} {enc : α → List Value} {k : Nat} (hk : ∀ x, (enc x).length = k) {h : H} {p : Option Addr} {b : Nat} {l : List α} (w : Own enc k h p b l) {i : Nat} {x : α} (hi : l[i]? = some x) {j : Nat} {v : Value} (hj : (enc x)[j]? = some v) :
    p = some ⟨b, 0, none⟩ ∧ Fw.cell h ⟨b, 0 + i * k + j, none⟩ = some v := by
  refine ⟨w.ptr (ne_nil hi), ?_⟩
  obtain ⟨e, r, hb⟩ := w.blk (ne_nil hi)
  rw [cell_of hb]
  have hjk : j < k := by rw [← hk x]; exact (List.getElem?_eq_some_iff.1 hj).1
  have h1 := flat_get hk l i j hjk
  rw [hi] at h1
  simp only [Option.bind_some, hj] at h1
  rw [Nat.zero_add, List.getElem?_append_left]
  · exact h1
  · exact (List.getElem?_eq_some_iff.1 h1).1
theorem Own.sl {α : Type} {enc : α → List Value} {k : Nat} (hk : ∀ x, (enc x).length = k) {h : H} {p : Option Addr} {b : Nat} {l : List α} (w : Own enc k h p b l) {n : Nat} (hn : l.length = n) : SlAt enc k h p n l := by
  refine ⟨hn, fun h0 => ?_⟩
  have hne : l ≠ [] := by rintro rfl; simp at hn; omega
  exact ⟨b, 0, w.ptr hne, fun i x hi j v hj => (w.cell hk hi hj).2⟩
theorem Own.rdc {α : Type} {enc : α → List Value} {k : Nat} (hk : ∀ x, (enc x).length = k) {h : H} {p : Option Addr} {b : Nat} {l : List α} (w : Own enc k h p b l) {n : Nat} (hn : l.length = n) : Fw.rdc h p (n * k) (flat enc l) := by
  refine ⟨by rw [flat_len hk, hn], fun h0 => ?_⟩
  have hne : l ≠ [] := by rintro rfl; simp at hn; subst hn; simp at h0
  obtain ⟨e, r, hb⟩ := w.blk hne
  refine ⟨b, 0, w.ptr hne, fun j hj => ?_⟩
  rw [cell_of hb, Nat.zero_add, List.getElem?_append_left (by rw [flat_len hk, hn]; exact hj)]

/-- Writing into a part of a row. -/
theorem Own.store {α : Type} {enc : α → List Value} {k : Nat} (hk : ∀ x, (enc x).length = k) (hk0 : 0 < k) {h : H} {p : Option Addr} {b : Nat} {l : List α} (w : Own enc k h p b l) {i : Nat} {x x' : α} (hi : l[i]? = some x) {j : Nat} {vs : List Value} (hj : j + vs.length ≤ k) (hx : setAt (enc x) j vs = enc x') :
    ∃ cs e, h[b]? = some (.cells ⟨cs⟩ e (0, 0)) ∧ 0 + i * k + j + vs.length ≤ cs.length ∧ ∀ h', Up h b (.cells ⟨setAt cs (0 + i * k + j) vs⟩ e (0, 0)) h' → Own enc k h' p b (l.set i x') ∧ Mod (fun c => c = b) h h' := by
  obtain ⟨e, r, hb⟩ := w.blk (ne_nil hi)
  have hil : i < l.length := (List.getElem?_eq_some_iff.1 hi).1
  have hle : i * k + k ≤ l.length * k := by rw [← Nat.succ_mul]; exact Nat.mul_le_mul_right k hil
  have hbd : i * k + j + vs.length ≤ (flat enc l).length := by rw [flat_len hk]; omega
  refine ⟨_, _, hb, by rw [List.length_append, Nat.zero_add]; omega, fun h' hu => ⟨⟨fun _ => w.ptr (ne_nil hi), fun _ => ⟨e, r, ?_⟩⟩, hu.mod rfl⟩⟩
  rw [hu.get hb, Nat.zero_add, setAt_append hbd, flat_sub hk hk0 hi hj hx]

/-! ### Rows of one cell each -/
abbrev OwnB := Own (fun x : Bool => [Value.bool x]) 1
abbrev OwnI := Own (fun x : Int => [Value.int .i64 x]) 1
theorem get_ex {α : Type} {l : List α} {n : Nat} (hn : l.length = n) {i : Int} (h0 : 0 ≤ i) (h1 : i < n) : ∃ x, l[i.toNat]? = some x := ⟨l[i.toNat]'(by omega), by simp⟩
theorem OwnB.get {h : H} {p : Option Addr} {b : Nat} {l : List Bool} (w : OwnB h p b l) {i : Int} (h1 : i.toNat < l.length) {K : Bool → Prop} (hk : ∀ x, l[i.toNat]? = some x → K x) :
    onP p fun b o => ∃ v, Fw.cell h ⟨b, o + i.toNat * 1, none⟩ = some (.bool v) ∧ K v := by
  have hx : l[i.toNat]? = some l[i.toNat] := by simp [h1]
  have := Own.cell (enc := fun x : Bool => [Value.bool x]) (k := 1) (fun _ => rfl) w hx (j := 0) (v := .bool l[i.toNat]) rfl
  exact onP_at this.1 ⟨_, this.2, hk _ hx⟩
theorem OwnB.put {h : H} {p : Option Addr} {b : Nat} {l : List Bool} (w : OwnB h p b l) {i : Int} (h1 : i.toNat < l.length) {x' : Bool} {K : H → Prop} (hk : ∀ h', OwnB h' p b (l.set i.toNat x') → Mod (fun c => c = b) h h' → K h') :
    onP p fun b o => stQ 1 h b (o + i.toNat * 1) [.bool x'] K := by
  have hx : l[i.toNat]? = some l[i.toNat] := by simp [h1]
  obtain ⟨cs, e, h1, h2, h3⟩ := Own.store (enc := fun x : Bool => [Value.bool x]) (k := 1) (fun _ => rfl) Nat.one_pos w hx (j := 0) (vs := [.bool x']) (x' := x') (Nat.le_refl 1) rfl
  exact onP_at (w.ptr (ne_nil hx)) ⟨cs, e, h1, h2, rfl, rfl, fun h' hu => hk h' (h3 h' hu).1 (h3 h' hu).2⟩
theorem OwnI.get {h : H} {p : Option Addr} {b : Nat} {l : List Int} (w : OwnI h p b l) {i : Int} (h1 : i.toNat < l.length) {K : Int → Prop} (hk : ∀ x, l[i.toNat]? = some x → K x) :
    onP p fun b o => ∃ v, Fw.cell h ⟨b, o + i.toNat * 1, none⟩ = some (.int .i64 v) ∧ K v := by
  have hx : l[i.toNat]? = some l[i.toNat] := by simp [h1]
  have := Own.cell (enc := fun x : Int => [Value.int .i64 x]) (k := 1) (fun _ => rfl) w hx (j := 0) (v := .int .i64 l[i.toNat]) rfl
  exact onP_at this.1 ⟨_, this.2, hk _ hx⟩
theorem OwnI.put {h : H} {p : Option Addr} {b : Nat} {l : List Int} (w : OwnI h p b l) {i : Int} (h1 : i.toNat < l.length) {x' : Int} {K : H → Prop} (hk : ∀ h', OwnI h' p b (l.set i.toNat x') → Mod (fun c => c = b) h h' → K h') :
    onP p fun b o => stQ 1 h b (o + i.toNat * 1) [.int .i64 x'] K := by
  have hx : l[i.toNat]? = some l[i.toNat] := by simp [h1]
  obtain ⟨cs, e, h1, h2, h3⟩ := Own.store (enc := fun x : Int => [Value.int .i64 x]) (k := 1) (fun _ => rfl) Nat.one_pos w hx (j := 0) (vs := [.int .i64 x']) (x' := x') (Nat.le_refl 1) rfl
  exact onP_at (w.ptr (ne_nil hx)) ⟨cs, e, h1, h2, rfl, rfl, fun h' hu => hk h' (h3 h' hu).1 (h3 h' hu).2⟩

/-! ### Rows that grow -/
/-- A row that began after the heap h0, with its room. -/
structure Grow {α : Type} (enc : α → List Value) (k : Nat) (h0 h : H) (p : Option Addr) (n c : Nat) (l : List α) : Prop where
  len : l.length = n
  le : n ≤ c
  at_ : 0 < c → ∃ b e rest, h0.size ≤ b ∧ p = some ⟨b, 0, none⟩ ∧ h[b]? = some (.cells ⟨flat enc l ++ rest⟩ e (0, 0)) ∧ rest.length = (c - n) * k
theorem Grow.nil {α : Type} (enc : α → List Value) (k : Nat) (h0 h : H) (p : Option Addr) : Grow enc k h0 h p 0 0 [] := ⟨rfl, Nat.le_refl _, fun h => absurd h (Nat.lt_irrefl 0)⟩
/-- Where it lies. -/
def AtP (p : Option Addr) (b : Nat) : Prop := ∃ o, p = some ⟨b, o, none⟩
theorem Grow.mod {α : Type} {enc : α → List Value} {k : Nat} {h0 h h' : H} {p : Option Addr} {n c : Nat} {l : List α} (g : Grow enc k h0 h p n c l) {S : Nat → Prop} (m : Mod S h h') (hn : ∀ b, AtP p b → 0 < c → ¬ S b) : Grow enc k h0 h' p n c l :=
  ⟨g.len, g.le, fun hc => let ⟨b, e, r, h1, h2, h3, h4⟩ := g.at_ hc; ⟨b, e, r, h1, h2, m.get h3 (hn b ⟨_, h2⟩ hc), h4⟩⟩
theorem Grow.ext {α : Type} {enc : α → List Value} {k : Nat} {h0 h h' : H} {p : Option Addr} {n c : Nat} {l : List α} (g : Grow enc k h0 h p n c l) (m : Ext h h') : Grow enc k h0 h' p n c l := g.mod m.mod fun _ _ _ x => x
theorem Grow.base {α : Type} {enc : α → List Value} {k : Nat} {h0 h1 h : H} {p : Option Addr} {n c : Nat} {l : List α} (g : Grow enc k h1 h p n c l) (m : h0.size ≤ h1.size) : Grow enc k h0 h p n c l :=
  ⟨g.len, g.le, fun hc => let ⟨b, e, r, h1, h2⟩ := g.at_ hc; ⟨b, e, r, Nat.le_trans m h1, h2⟩⟩
theorem Grow.sl {α : Type} {enc : α → List Value} {k : Nat} (hk : ∀ x, (enc x).length = k) {h0 h : H} {p : Option Addr} {n c : Nat} {l : List α} (g : Grow enc k h0 h p n c l) : SlAt enc k h p n l := by
  refine ⟨g.len, fun hn => ?_⟩
  obtain ⟨b, e, r, h1, h2, h3, h4⟩ := g.at_ (by have := g.le; omega)
  have w : Own enc k h p b l := ⟨fun _ => h2, fun _ => ⟨e, r, h3⟩⟩
  exact ⟨b, 0, h2, fun i x hi j v hj => (w.cell hk hi hj).2⟩
theorem flat_append {α : Type} {enc : α → List Value} (l m : List α) : flat enc (l ++ m) = flat enc l ++ flat enc m := by simp [flat]
theorem Grow.rdc {α : Type} {enc : α → List Value} {k : Nat} (hk : ∀ x, (enc x).length = k) {h0 h : H} {p : Option Addr} {n c : Nat} {l : List α} (g : Grow enc k h0 h p n c l) : Fw.rdc h p (n * k) (flat enc l) := by
  refine ⟨by rw [flat_len hk, g.len], fun h0 => ?_⟩
  have hn : n ≠ 0 := by rintro rfl; simp at h0
  obtain ⟨b, e, r, h1, h2, h3, h4⟩ := g.at_ (by have := g.le; omega)
  refine ⟨b, 0, h2, fun j hj => ?_⟩
  rw [cell_of h3, Nat.zero_add, List.getElem?_append_left (by rw [flat_len hk, g.len]; exact hj)]
/-- A row is put behind another. -/
theorem Grow.app {α : Type} {enc : α → List Value} {k : Nat} (hk : ∀ x, (enc x).length = k) {h0 h : H} {p : Option Addr} {n c : Nat} {l : List α} (g : Grow enc k h0 h p n c l) (hs0 : h0.size ≤ h.size)
    {e : TypeId} {bytes : Nat} {z : List Value} {q : Option Addr} {m : Nat} {l' : List α} (hz : z.length = k) (hm : l'.length = m) (hq : Fw.rdc h q (m * k) (flat enc l')) (ho : oneA (flat enc l') = true) (hs : (n + m) * bytes ≤ 140737488355328)
    {K : Option Addr → Nat → Nat → H → Prop} (hK : ∀ p' c' h', Grow enc k h0 h' p' (n + m) c' (l ++ l') → Mod (fun b => AtP p b ∧ 0 < c) h h' → (0 < n + m → ∀ b, AtP p' b → (AtP p b ∧ 0 < c) ∨ h.size ≤ b) → K p' (n + m) c' h') :
    apQ e k bytes z h p n c q m K := by
  refine ⟨hs, _, hq, ho, fun hle => ⟨fun h1 => ?_, fun h1 => ?_⟩, fun hlt => ?_⟩
  · subst h1
    have : l' = [] := List.length_eq_zero_iff.1 hm
    subst this
    have := hK p c h (by simpa using g) (Mod.refl _ _) (fun h2 b hb => .inl ⟨hb, by omega⟩)
    simpa using this
  · obtain ⟨b, ty, r, h2, h3, h4, h5⟩ := g.at_ (by omega)
    have hfl : (flat enc l).length = n * k := by rw [flat_len hk, g.len]
    have hfl' : (flat enc l').length = m * k := by rw [flat_len hk, hm]
    have hmk : m * k ≤ (c - n) * k := Nat.mul_le_mul_right k (by omega)
    refine onP_at h3 ⟨_, _, h4, ?_, fun h' hu => ?_⟩
    · rw [List.length_append, hfl, h5, Nat.zero_add, Nat.add_mul]; omega
    · rw [Nat.zero_add, ← hfl, setAt_tail (by rw [hfl', h5]; exact hmk), setAt_zero (by rw [hfl', h5]; exact hmk), ← List.append_assoc, ← flat_append] at hu
      refine hK _ _ _ ⟨by rw [List.length_append, g.len, hm], hle, fun _ => ⟨b, ty, _, h2, h3, hu.get h4, ?_⟩⟩ (hu.mod ⟨⟨0, h3⟩, by omega⟩) (fun _ b hb => .inl ⟨hb, by omega⟩)
      rw [List.length_drop, hfl', h5, ← Nat.sub_mul]; congr 1; omega
  · refine ⟨_, g.rdc hk, fun nc b h' hnc hN => ?_⟩
    rw [← flat_append] at hN
    refine hK _ _ _ ⟨by rw [List.length_append, g.len, hm], hnc, fun _ => ⟨b, e, _, by have := hN.blk; omega, rfl, hN.get, ?_⟩⟩ (hN.mod _) (fun _ b' hb => .inr ?_)
    · rw [repV_length, hz]
    · obtain ⟨o, ho⟩ := hb
      cases ho
      have := hN.blk
      omega

theorem Grow.own {α : Type} {enc : α → List Value} {k : Nat} {h0 h : H} {p : Option Addr} {n c : Nat} {l : List α} (g : Grow enc k h0 h p n c l) : ∃ b, Own enc k h p b l ∧ (l ≠ [] → h0.size ≤ b) := by
  by_cases hc : 0 < c
  · obtain ⟨b, e, r, h1, h2, h3, h4⟩ := g.at_ hc
    exact ⟨b, ⟨fun _ => h2, fun _ => ⟨e, r, h3⟩⟩, fun _ => h1⟩
  · have : l = [] := List.length_eq_zero_iff.1 (by have := g.le; have := g.len; omega)
    subst this
    exact ⟨0, ⟨fun h => absurd rfl h, fun h => absurd rfl h⟩, fun h => absurd rfl h⟩
/-- A copy of a row. -/
theorem app_copy {α : Type} {enc : α → List Value} {k : Nat} (hk : ∀ x, (enc x).length = k) {h : H} {e : TypeId} {bytes : Nat} {z : List Value} {q : Option Addr} {m : Nat} {l : List α} (hz : z.length = k) (hm : l.length = m) (hq : Fw.rdc h q (m * k) (flat enc l)) (ho : oneA (flat enc l) = true) (hs : m * bytes ≤ 140737488355328)
    {K : Option Addr → Nat → Nat → H → Prop} (hK : ∀ p' c' b h', Own enc k h' p' b l → (l ≠ [] → h.size ≤ b) → Ext h h' → m ≤ c' → K p' m c' h') : apQ e k bytes z h none 0 0 q m K := by
  refine Grow.app hk (Grow.nil enc k h h none) (Nat.le_refl _) hz hm hq ho (by rw [Nat.zero_add]; exact hs) fun p' c' h' g m' _ => ?_
  rw [Nat.zero_add] at g ⊢
  obtain ⟨b, w, hb⟩ := g.own
  exact hK p' c' b h' w hb (m'.ext (fun _ _ x => x) fun c _ hc => absurd hc.2 (Nat.lt_irrefl 0)) g.le

/-! ### Loops whose measure hangs on what the heap alone does not tell -/
theorem exists_min {p : Nat → Prop} (h : ∃ m, p m) : ∃ m, p m ∧ ∀ k, p k → m ≤ k := by
  obtain ⟨m, hm⟩ := h
  induction m using Nat.strongRecOn with
  | _ m ih =>
    by_cases hx : ∃ k, k < m ∧ p k
    · obtain ⟨k, hk, hp⟩ := hx; exact ih k hk hp
    · exact ⟨m, hm, fun k hk => Nat.le_of_not_lt fun hl => hx ⟨k, hl, hk⟩⟩
open Classical in
noncomputable def leastN (p : Nat → Prop) : Nat := if h : ∃ m, p m then Classical.choose (exists_min h) else 0
theorem leastN_spec {p : Nat → Prop} (h : ∃ m, p m) : p (leastN p) ∧ ∀ k, p k → leastN p ≤ k := by
  unfold leastN; rw [dif_pos h]; exact Classical.choose_spec (exists_min h)
noncomputable def glJ {T G : Type} (Inv : T → G → H → Prop) (ms : T → G → Nat) : T → LI := fun v => (fun h => ∃ g, Inv v g h, fun h => leastN fun m => ∃ g, Inv v g h ∧ ms v g = m)
theorem glJ_get {T G : Type} {Inv : T → G → H → Prop} {ms : T → G → Nat} {v : T} {h : H} (hi : (glJ Inv ms v).1 h) : ∃ g, Inv v g h ∧ (glJ Inv ms v).2 h = ms v g := by
  obtain ⟨g, hg⟩ := hi
  obtain ⟨⟨g', h1, h2⟩, _⟩ := leastN_spec (p := fun m => ∃ g, Inv v g h ∧ ms v g = m) ⟨_, g, hg, rfl⟩
  exact ⟨g', h1, h2.symm⟩
theorem glJ_next {T G : Type} {Inv : T → G → H → Prop} {ms : T → G → Nat} {v v' : T} {h h' : H} {g g' : G} (hm : (glJ Inv ms v).2 h = ms v g) (hi : Inv v' g' h') (hl : ms v' g' < ms v g) : (glJ Inv ms v').1 h' ∧ (glJ Inv ms v').2 h' < (glJ Inv ms v).2 h := by
  refine ⟨⟨g', hi⟩, ?_⟩
  rw [hm]
  exact Nat.lt_of_le_of_lt ((leastN_spec (p := fun m => ∃ g, Inv v' g h' ∧ ms v' g = m) ⟨_, g', hi, rfl⟩).2 _ ⟨g', hi, rfl⟩) hl
theorem gl1 {T G : Type} (Inv : T → G → H → Prop) (ms : T → G → Nat) {v0 : T} {h : H} {K : (T → LI) → T → H → Prop} (h0 : ∃ g, Inv v0 g h) (st : ∀ v g h', Inv v g h' → (glJ Inv ms v).2 h' = ms v g → K (glJ Inv ms) v h') :
    ∃ J : T → LI, (J v0).1 h ∧ ∀ v h', (J v).1 h' → K J v h' := ⟨glJ Inv ms, h0, fun v h' hi => let ⟨g, h1, h2⟩ := glJ_get hi; st v g h' h1 h2⟩
end Go.Fw

/- Functions that hold a range over a function at the top of their bodies. -/
set_option linter.unusedVariables false
set_option linter.unusedSimpArgs false
namespace Go.Fw
variable {P : Program}

inductive TL where
  | il (x : IL)
  | seq (a b : TL)
  | cut (ws : List (Nat × VT)) (kill : List Nat) (a : IL) (b : TL)
  | blk (l : Nat) (a : TL)
  | rng (g : Operand) (ps : List Nat) (ts : List VT) (asgn body : IL)

/-- The frame of a round: that at entry, with the parameters put in. -/
def putAll : List (Nat × Value) → Fr → Fr
  | [], f => f
  | (t, v) :: l, f => putAll l (f.put (some t) (.v v))
def rndDen (P : Program) (f : Fr) (l : Nat) (rec : Loop) (ps : List Nat) (asgn body : IL) (args : List Value) (h : H) (R : Value → H → Prop) : Prop :=
  h[l]? = some (.loop rec) ∧ args.length = ps.length ∧
    asgn.den P (putAll (ps.zip args) { f with ds := [] }) h (fun f1 h1 => h1[l]? = some (.loop rec) ∧ ∀ h2, Up h1 l (.loop { rec with state := .busy }) h2 →
      body.den P f1 h2 (fun _ h3 => h3[l]? = some (.loop { rec with state := .busy }) ∧ ∀ h4, Up h3 l (.loop rec) h4 → R (.bool true) h4) [] (fun _ _ => False)) [] (fun _ _ => False)
def Leaf.all : Leaf → (Value → Prop) → Prop
  | .int k, K => ∀ n : Int, K (.int k n)
  | .bool, K => ∀ b : Bool, K (.bool b)
  | .str, K => ∀ s : ByteArray, K (.string s)
  | .slice, K => ∀ (a : Option Addr) (n c : Nat), K (.slice a n c)
  | .ptr, K => ∀ a : Option Addr, K (.pointer a)
  | .map, K => ∀ r : Option Nat, K (.map r)
  | .any, K => ∀ v : Value, K v
def alls : List Leaf → (List Value → Prop) → Prop
  | [], K => K []
  | l :: ls, K => l.all fun v => alls ls fun vs => K (v :: vs)
def VT.all : VT → (Value → Prop) → Prop
  | .one l, K => l.all K
  | .agg ls, K => alls ls fun vs => K (.agg ⟨vs⟩)
def allv : List VT → (List Value → Prop) → Prop
  | [], K => K []
  | t :: ts, K => t.all fun v => allv ts fun vs => K (v :: vs)
theorem Leaf.all_of {l : Leaf} {K : Value → Prop} (h : ∀ v, K v) : l.all K := by cases l <;> simp only [Leaf.all] <;> intros <;> exact h _
theorem alls_of : ∀ {ls : List Leaf} {K : List Value → Prop}, (∀ vs, K vs) → alls ls K
  | [], K, h => h []
  | l :: ls, K, h => Leaf.all_of fun v => alls_of fun vs => h _
theorem VT.all_of {t : VT} {K : Value → Prop} (h : ∀ v, K v) : t.all K := by
  cases t with
  | one l => exact Leaf.all_of h
  | agg ls => exact alls_of fun vs => h _
theorem allv_of : ∀ {ts : List VT} {K : List Value → Prop}, (∀ vs, K vs) → allv ts K
  | [], K, h => h []
  | t :: ts, K, h => VT.all_of fun v => allv_of fun vs => h _
def TL.den (P : Program) : TL → Fr → H → (Fr → H → Prop) → Ks → (Fr → H → Prop) → Prop
  | .il x, f, h, K, ks, rt => x.den P f h K ks rt
  | .seq a b, f, h, K, ks, rt => a.den P f h (fun f' h' => b.den P f' h' K ks rt) ks rt
  | .cut ws kill a b, f, h, K, ks, rt => ∃ J : CT ws (H → Prop), a.den P f h (fun f' h' => CT.app ws J f' fun p => p h') ks rt ∧
      CT.all ws J (f.kill kill) fun f' p => ∀ h', p h' → b.den P f' h' K ks rt
  | .blk l a, f, h, K, ks, rt => a.den P f h K ((l, K) :: ks) rt
  | .rng g ps ts asgn body, f, h, K, ks, rt => match f.ov g with
    | some (.func (.func gf) ⟨fi⟩ ⟨ca⟩) => fnOk P gf = true ∧ ∀ (D l : Nat) (h1 h2 : H) (rec : Loop), New h (.deferred (some [])) D h1 → New h1 (.loop rec) l h2 →
        (allv ts fun args => ∀ h' R, rndDen P f l rec ps asgn body args h' R → HY P l args h' R) →
        HC P gf (fi ++ [.func (.yield l) ⟨[]⟩ ⟨[]⟩] ++ ca) h2 fun _ h3 => h3[l]? = some (.loop rec) ∧ ∀ h4, Up h3 l (.loop { rec with state := .exhausted }) h4 → K { f with ds := D :: f.ds } h4
    | _ => False

def chkTL (P : Program) : Code → TL → Bool
  | c, .il x => chkIL P c x
  | .seq c d, .seq a b => chkTL P c a && chkTL P d b
  | .seq c d, .cut _ kill a b => chkIL P c a && chkTL P d b && subq a.writes kill
  | .block l c, .blk l' a => l == l' && chkTL P c a
  | .rangeFunc g ps asgn body, .rng g' ps' _ a b => oeq g g' && ps.toList == ps' && chkIL P asgn a && chkIL P body b
  | _, _ => false

def TPost (K : Fr → H → Prop) (ks : Ks) (rt : Fr → H → Prop) (w : World) (e : Exit) (a' : Act) (w' : World) : Prop :=
  w'.os = w.os ∧ w'.output = w.output ∧ ∃ f', Sim f' a' ∧ (match e with
    | .normal => K f' w'.heap
    | .exit id => exitK ks id f' w'.heap
    | .ret => rt f' w'.heap
    | _ => False)
theorem Post.t {K : Fr → H → Prop} {ks : Ks} {rt : Fr → H → Prop} {W : List Nat} {a a' : Act} {w w' : World} {e : Exit} (h : Post K ks rt W a w e a' w') : TPost K ks rt w e a' w' := ⟨h.2.1, h.2.2.1, h.2.2.2⟩

theorem putAll_ds : ∀ (l : List (Nat × Value)) (f : Fr), (putAll l f).ds = f.ds
  | [], f => rfl
  | (t, v) :: l, f => (putAll_ds l _).trans rfl
theorem putAll_sim : ∀ (l : List (Nat × Value)) (f : Fr) (a : Act), Sim f a → Sim (putAll l f) { a with tmps := l.foldl (fun tmps (t, v) => tmps.setIfInBounds t v) a.tmps }
  | [], f, a, h => h
  | (t, v) :: l, f, a, h => putAll_sim l _ _ (h.put (some t) (agrees_v v))

theorem TL.sound (hm : P.follows .mixedOrders = true) : ∀ (x : TL) (c : Code) (f : Fr) (a : Act) (w : World) (K : Fr → H → Prop) (ks : Ks) (rt : Fr → H → Prop), chkTL P c x = true → Sim f a →
    x.den P f w.heap K ks rt → c.wpIn (FW none) 0 P (TPost K ks rt w) a w := by
  intro x
  induction x with
  | il y =>
    intro c f a w K ks rt hc hs hd
    have hc' : chkIL P c y = true := by unfold chkTL at hc; exact hc
    exact wpIn_mono (IL.sound hm (r := none) y c f a w K ks rt hc' hs hd) fun e a' w' hp => hp.t
  | seq y z ih1 ih2 =>
    intro c f a w K ks rt hc hs hd
    cases c <;> first | (simp [chkTL] at hc; done) | skip
    simp only [chkTL, Bool.and_eq_true] at hc
    refine wpIn_seq (wpIn_mono (ih1 _ f a w _ ks rt hc.1 hs hd) ?_)
    intro e a' w' hp
    cases e with
    | normal =>
      obtain ⟨h2, h3, f', h4, h5⟩ := hp
      refine wpIn_mono (ih2 _ f' a' w' K ks rt hc.2 h4 h5) fun e2 a2 w2 hp2 => ⟨hp2.1.trans h2, hp2.2.1.trans h3, hp2.2.2⟩
    | exit id => exact hp
    | ret => exact hp
    | goto l => exact hp
    | panic ch => exact hp
    | outgrown => exact hp
  | cut ws kill y z ih2 =>
    intro c f a w K ks rt hc hs hd
    cases c <;> first | (simp [chkTL] at hc; done) | skip
    simp only [chkTL, Bool.and_eq_true] at hc
    obtain ⟨⟨hc1, hc2⟩, hc3⟩ := hc
    obtain ⟨J, hd1, hd2⟩ := hd
    refine wpIn_seq (wpIn_mono (IL.sound hm (r := none) y _ f a w _ ks rt hc1 hs hd1) ?_)
    intro e a' w' hp
    cases e with
    | normal =>
      obtain ⟨h1, h2, h3, f', h4, h5⟩ := hp
      obtain ⟨p, f1, g1, g2, g3⟩ := CT.link h4 (hs.agr h1 (fun x hx => subq_mem hc3 hx)) h5 hd2
      exact wpIn_mono (ih2 _ f1 a' w' K ks rt hc2 g1 (g3 _ g2)) fun e2 a2 w2 hp2 => ⟨hp2.1.trans h2, hp2.2.1.trans h3, hp2.2.2⟩
    | exit id => exact hp.t
    | ret => exact hp.t
    | goto l => exact hp.2.2.2.elim fun _ h => h.2.elim
    | panic ch => exact hp.2.2.2.elim fun _ h => h.2.elim
    | outgrown => exact hp.2.2.2.elim fun _ h => h.2.elim
  | blk l y ih =>
    intro c f a w K ks rt hc hs hd
    cases c <;> first | (simp [chkTL] at hc; done) | skip
    simp only [chkTL, Bool.and_eq_true, beq_iff_eq] at hc
    obtain ⟨rfl, hc⟩ := hc
    refine wpIn_block (wpIn_mono (ih _ f a w K _ rt hc hs hd) ?_)
    rintro e a' w' ⟨h2, h3, f', h4, h5⟩
    cases e with
    | exit id' =>
      simp only [exitK] at h5
      simp only [Exit.inBlock]
      split
      · rename_i e; subst e; simp at h5; exact ⟨h2, h3, f', h4, h5⟩
      · rename_i e
        rw [beq_eq_false_iff_ne.2 e] at h5
        exact ⟨h2, h3, f', h4, h5⟩
    | normal => exact ⟨h2, h3, f', h4, h5⟩
    | ret => exact ⟨h2, h3, f', h4, h5⟩
    | goto l => exact h5.elim
    | panic ch => exact h5.elim
    | outgrown => exact h5.elim
  | rng g ps ts asgn body =>
    intro c f a w K ks rt hc hs hd
    cases c <;> first | (simp [chkTL] at hc; done) | skip
    rename_i g0 ps0 asgn0 body0
    simp only [chkTL, Bool.and_eq_true, beq_iff_eq] at hc
    obtain ⟨⟨⟨hg, hps⟩, hca⟩, hcb⟩ := hc
    obtain rfl := oeq_eq hg
    simp only [TL.den] at hd
    split at hd
    · rename_i gf fi ca hx
      obtain ⟨hf, hd⟩ := hd
      refine wpIn_rangeFunc fun fn _ => ?_
      let rec' : Loop := { state := .ready, pending := none, fn := fn, tmps := a.tmps, params := ps0, assign := asgn0, body := body0, defers := w.heap.size }
      let w1 : World := (w.alloc (.deferred (some []))).alloc (.loop rec')
      have hn1 : New w.heap (.deferred (some [])) w.heap.size (w.alloc (.deferred (some []))).heap := ⟨rfl, rfl⟩
      have hsz : (w.alloc (.deferred (some []))).heap.size = w.heap.size + 1 := hn1.size
      have hn2 : New (w.alloc (.deferred (some []))).heap (.loop rec') (w.heap.size + 1) w1.heap := ⟨hsz.symm, rfl⟩
      refine ⟨w.heap.size + 1, [mark w.heap.size], w1, { target := .fn (.func gf) ca.toArray, args := fi.toArray ++ #[.func (.yield (w.heap.size + 1)) #[] #[]] }, w1, gf, fi.toArray ++ #[.func (.yield (w.heap.size + 1)) #[] #[]] ++ ca.toArray, w1, ?_, ?_, fun _ _ => trivial, ?_, (fun h => by cases h), ?_⟩
      · exact run_enterLoop_outer fn a.tmps ps0 asgn0 body0
      · have hcv : ∀ v, a.eval (.const v) = v := fun _ => rfl
        simp [resolve, Deferred.ofValue, hs.ev hx, hcv]
      · simp [invoke, callFunc_enter hf]
      · refine callsIn_FW.2 ?_
        have hcall := hd w.heap.size (w.heap.size + 1) _ _ rec' hn1 hn2 ?_ w1 rfl
        · have e : (fi.toArray ++ #[.func (.yield (w.heap.size + 1)) #[] #[]] ++ ca.toArray : Array Value) = ⟨fi ++ [.func (.yield (w.heap.size + 1)) ⟨[]⟩ ⟨[]⟩] ++ ca⟩ := by apply Array.ext'; simp
          rw [e]
          refine Calls.mono hcall ?_
          rintro _ w3 ⟨v, rfl, ⟨h3, h4⟩, h5, h6⟩
          refine ⟨none, w3.putObj (w.heap.size + 1) (.loop { rec' with state := .exhausted }), run_endLoop h3 (by simp [rec']), ?_⟩
          exact ⟨h5, h6, { f with ds := w.heap.size :: f.ds }, ⟨hs.size, by simp [hs.defs], hs.vals⟩, h4 _ ⟨rfl⟩⟩
        · refine allv_of fun args h' R ⟨q1, q2, q3⟩ w' hw' => ?_
          subst hw'
          have hargs : (⟨args⟩ : Array Value).size = rec'.params.size := by
            show args.length = ps0.size
            rw [q2, ← hps]; simp
          refine ⟨_, run_yield q1 hargs, ?_⟩
          show RoundIn (FW none) 0 P (w.heap.size + 1) fn _ asgn0 body0 w' _
          have hsim : Sim (putAll (ps.zip args) { f with ds := [] }) { tmps := (rec'.params.zip (⟨args⟩ : Array Value)).foldl (fun tmps (t, a) => tmps.setIfInBounds t a) rec'.tmps, defers := [] } := by
            have h0 : Sim { f with ds := [] } { tmps := a.tmps, defers := [] } := ⟨hs.size, rfl, hs.vals⟩
            have := putAll_sim (ps.zip args) _ _ h0
            have e : (rec'.params.zip (⟨args⟩ : Array Value)).foldl (fun tmps (t, a) => tmps.setIfInBounds t a) rec'.tmps = (ps.zip args).foldl (fun tmps (t, v) => tmps.setIfInBounds t v) a.tmps := by
              rw [← hps, ← Array.foldl_toList, Array.toList_zip]
            rw [e]; exact this
          refine roundIn_of_wpIn trivial ?_
          have h1 := IL.sound hm (r := some (w.heap.size + 1)) asgn asgn0 _ _ w' _ [] (fun _ _ => False) hca hsim q3
          refine wpIn_mono h1 ?_
          rintro e a1 w1' ⟨k1, k2, k3, f1, k4, k5⟩
          cases e with
          | normal =>
            obtain ⟨k5, k6⟩ := k5
            refine ⟨_, run_beginRound k5 rfl, ?_⟩
            have h2 := IL.sound hm (r := some (w.heap.size + 1)) body body0 f1 a1 (w1'.putObj (w.heap.size + 1) (.loop { rec' with state := .busy })) _ [] (fun _ _ => False) hcb k4 (k6 _ ⟨rfl⟩)
            refine wpIn_mono h2 ?_
            rintro e a2 w2' ⟨j1, j2, j3, f2, j4, j5⟩
            cases e with
            | normal =>
              obtain ⟨j5, j6⟩ := j5
              exact ⟨_, _, run_endRound none j5, _, rfl, j6 _ ⟨rfl⟩, j2.trans k2, j3.trans k3⟩
            | exit id => exact j5.elim
            | ret => exact j5.elim
            | goto l => exact j5.elim
            | panic ch => exact j5.elim
            | outgrown => exact j5.elim
          | exit id => exact k5.elim
          | ret => exact k5.elim
          | goto l => exact k5.elim
          | panic ch => exact k5.elim
          | outgrown => exact k5.elim
    · exact hd.elim

/-- The marks of the loops that are done: their blocks are shut as the function leaves. -/
def shutK : List Nat → H → (H → Prop) → Prop
  | [], h, K => K h
  | d :: ds, h, K => h[d]? = some (.deferred (some [])) ∧ ∀ h', Up h d (.deferred none) h' → shutK ds h' K
structure TFL where
  n : Nat
  tl : TL
  res : List RV
def chkTFL (P : Program) (g : FuncId) (x : TFL) : Bool := match P.funcs[g]? with
  | some fn => fn.ntmps == x.n && (match fn.body with | some c => chkTL P c x.tl | none => false) && chkRV P fn.results.toList x.res
  | none => false
def TFL.den (P : Program) (x : TFL) (args : List Value) (h : H) (R : Value → H → Prop) : Prop :=
  lenLe args x.n = true ∧ x.tl.den P ⟨slots args x.n, []⟩ h (fun f' h' => shutK f'.ds h' fun h'' => resK f' h'' x.res fun vs => R (packV vs) h'') [] (fun f' h' => shutK f'.ds h' fun h'' => resK f' h'' x.res fun vs => R (packV vs) h'')
theorem leaves_shut {fn : Func} {tmps : Array Value} {R : Ending → World → Prop} : ∀ (ds : List Nat) (w : World) (K : H → Prop), shutK ds w.heap K →
    (∀ w' : World, w'.os = w.os → w'.output = w.output → K w'.heap → ∃ v, (results fn tmps).run P w' = .ok v w' ∧ R (.returned v) w') → LeavesInM (FW none) 0 P fn tmps R (ds.map mark) .returning w
  | [], w, K, h, hk => hk w rfl rfl h
  | d :: ds, w, K, ⟨h1, h2⟩, hk => ⟨by simp, .inl ⟨d, _, rfl, run_takeDeferred h1, leaves_shut ds (w.putObj d (.deferred none)) K (h2 _ ⟨rfl⟩) fun w' e1 e2 hK => hk w' (e1.trans rfl) (e2.trans rfl) hK⟩⟩
/-- **A function's contract, from what it is reckoned to, where it holds a range over a function.** -/
theorem TFL.sound (hm : P.follows .mixedOrders = true) {g : FuncId} {x : TFL} (hc : chkTFL P g x = true) {args : List Value} {h : H} {R : Value → H → Prop} (hd : x.den P args h R) : HC P g args h R := by
  intro w hw
  subst hw
  unfold chkTFL at hc
  split at hc
  · rename_i fn hfn
    simp only [Bool.and_eq_true, beq_iff_eq] at hc
    obtain ⟨⟨hn, hc⟩, hres⟩ := hc
    split at hc
    · rename_i c hb
      obtain ⟨hlen, hd⟩ := hd
      have hlen := lenLe_le hlen
      have hs : Sim ⟨slots args x.n, []⟩ { tmps := ⟨args⟩ ++ Array.replicate (fn.ntmps - args.length) undef, defers := [] } := by
        refine ⟨by simp [slots_len, hn]; omega, rfl, ?_⟩
        intro i v hv
        have h1 := slots_get args x.n i v hv
        obtain ⟨hlt, _⟩ := List.getElem?_eq_some_iff.1 h1
        rw [Array.getD_eq_getD_getElem?, Array.getElem?_append_left (by simpa using hlt)]
        simp [h1]
      have := TL.sound hm x.tl c _ _ w _ _ _ hc hs hd
      refine callsIn_FW.1 (callsIn_of_wp_marks (F := FW none) (n := 0) hfn hb trivial (wpIn_mono this ?_))
      rintro e a' w' ⟨h2, h3, f', h4, h5⟩
      have fin : shutK f'.ds w'.heap (fun h'' => resK f' h'' x.res (fun vs => R (packV vs) h'')) →
          LeavesInM (FW none) 0 P fn a'.tmps (fun e w2 => ∃ v, e = .returned v ∧ R v w2.heap ∧ w2.os = w.os ∧ w2.output = w.output) a'.defers .returning w' := by
        intro hk
        rw [h4.defs]
        refine leaves_shut _ _ _ hk fun w2 e1 e2 hk => ?_
        obtain ⟨vs, k1, k2⟩ := resK_run h4 hres hk
        refine ⟨packV vs, ?_, packV vs, rfl, k1, e1.trans h2, e2.trans h3⟩
        have e : results fn a'.tmps = (do let vs ← fn.results.mapM (resS a'.tmps); pure (if h : vs.size = 1 then vs[0] else .tuple vs)) := rfl
        rw [e, Array.mapM_eq_mapM_toList]
        simp only [Sem.run_bind, Sem.run_map]
        rw [k2]
        simp only [Result.andThen_ok]
        cases vs with
        | nil => rfl
        | cons v vs => cases vs <;> rfl
      cases e with
      | normal => exact fin h5
      | ret => exact fin h5
      | exit id => exact h5.elim
      | goto l => exact h5.elim
      | panic ch => exact h5.elim
      | outgrown => exact h5.elim
    · cases hc
  · cases hc
end Go.Fw

/- The functions 55 74 56 57 25 40 41 42 67 15 36 of the seat live: their text in the framework, and what each asks. -/
set_option maxRecDepth 100000
set_option linter.unusedVariables false
set_option linter.unusedSimpArgs false
open Go Go.Fw Go.Proofs
namespace Go.Proofs.Try
theorem mixed : Tryd.prog.follows .mixedOrders = true := by kernel_rfl
/- quern/live.register -/
def fl55 : FL := ⟨15, (.seq (.reg [sv 4 (.mov (cb false))]) (.seq (.reg [sv 5 (.mov (t 1)), sv 6 (.cmp .geq (t 5) (ci 0)), sv 7 (.mov (t 6)), ⟨some 8, some (7, true), .v (.mov (t 1))⟩, ⟨some 9, some (7, true), .v (.mov (t 0))⟩, ⟨some 10, some (7, true), .v (.nck (t 9))⟩, ⟨some 11, some (7, true), .v (.fad 2 (t 10))⟩, ⟨some 12, some (7, true), .v (.ld (.int .i64) (t 11))⟩, ⟨some 13, some (7, true), .v (.cmp .lss (t 8) (t 12))⟩, sv 14 (.pick (t 7) (t 13) (cb false)), sv 4 (.mov (t 14))]) .ret)), [.tmp 4]⟩
theorem ck55 : chkFL Tryd.prog 55 fl55 = true := by kernel_rfl
def sh55 (pf_0 : Option Addr) (r_1 : Int) (h : H) (R : Value → H → Prop) : Prop :=
 (((0 ≤ r_1) →
 (pf_0 : Option Addr) ≠ none ∧
 (onP pf_0 fun bv_11 ov_11 =>
 ∃ (v_12 : Int), cell h ⟨bv_11, (ov_11 + 2), none⟩ = some (.int .i64 v_12) ∧
 R (.bool (decide (r_1 < v_12))) h)) ∧
 (¬ (0 ≤ r_1) →
 R (.bool false) h))
theorem hc55 {pf_0 : Option Addr} {r_1 : Int} {h : H} {R : Value → H → Prop} (x : sh55 pf_0 r_1 h R) : HC Tryd.prog 55 [(.pointer pf_0), (.int .i64 r_1)] h R :=
  FL.sound mixed ck55 ⟨rfl, Eq.mp (by unfold sh55; kernel_rfl) x⟩
/- quern/live.operands -/
def fl74 : FL := ⟨31, (.seq (.reg [sv 2 (.mov (ci 0)), sv 3 (.mov (cb false))]) (.seq (.seq (.reg [sv 4 (.mov (t 0))]) (.block 0 (.seq (.reg [sv 6 (.cmp .eql (t 4) (ci 24)), sv 5 (.mov (t 6))]) (.cond (t 5) (.seq (.reg [sv 2 (.mov (ci 0)), sv 3 (.mov (cb true))]) .ret) (.seq (.seq (.reg [sv 8 (.cmp .eql (t 4) (ci 17)), sv 7 (.mov (t 8))]) (.cond (t 7) .skip (.seq (.reg [sv 9 (.cmp .eql (t 4) (ci 18)), sv 7 (.mov (t 9))]) (.cond (t 7) .skip (.seq (.reg [sv 10 (.cmp .eql (t 4) (ci 19)), sv 7 (.mov (t 10))]) (.cond (t 7) .skip (.seq (.reg [sv 11 (.cmp .eql (t 4) (ci 20)), sv 7 (.mov (t 11))]) (.cond (t 7) .skip (.seq (.reg [sv 12 (.cmp .eql (t 4) (ci 23)), sv 7 (.mov (t 12))]) (.cond (t 7) .skip (.reg [sv 13 (.cmp .eql (t 4) (ci 31)), sv 7 (.mov (t 13))]))))))))))) (.cond (t 7) (.seq (.reg [sv 2 (.mov (ci 1)), sv 3 (.mov (cb true))]) .ret) (.seq (.seq (.reg [sv 15 (.cmp .eql (t 4) (ci 26)), sv 14 (.mov (t 15))]) (.cond (t 14) .skip (.seq (.reg [sv 16 (.cmp .eql (t 4) (ci 27)), sv 14 (.mov (t 16))]) (.cond (t 14) .skip (.seq (.reg [sv 17 (.cmp .eql (t 4) (ci 28)), sv 14 (.mov (t 17))]) (.cond (t 14) .skip (.reg [sv 18 (.cmp .eql (t 4) (ci 29)), sv 14 (.mov (t 18))]))))))) (.cond (t 14) (.seq (.reg [sv 2 (.mov (ci 1)), sv 3 (.mov (cb false))]) .ret) (.seq (.reg [sv 20 (.cmp .eql (t 4) (ci 30)), sv 19 (.mov (t 20))]) (.cond (t 19) (.seq (.reg [sv 2 (.mov (ci 2)), sv 3 (.mov (cb false))]) .ret) (.seq (.reg [sv 22 (.cmp .eql (t 4) (ci 21)), sv 21 (.mov (t 22))]) (.cond (t 21) (.seq (.reg [sv 2 (.mov (ci 2)), sv 3 (.mov (cb true))]) .ret) (.seq (.reg [sv 24 (.cmp .eql (t 4) (ci 22)), sv 23 (.mov (t 24))]) (.cond (t 23) (.seq (.reg [sv 2 (.mov (ci 3)), sv 3 (.mov (cb false))]) .ret) .skip)))))))))))))) (.seq (.seq (.reg [sv 25 (.mov (t 0)), sv 26 (.cmp .geq (t 25) (ci 2)), sv 27 (.mov (t 26)), ⟨some 28, some (27, true), .v (.mov (t 0))⟩, ⟨some 29, some (27, true), .v (.cmp .leq (t 28) (ci 16))⟩, sv 30 (.pick (t 27) (t 29) (cb false))]) (.cond (t 30) (.seq (.reg [sv 2 (.mov (ci 2)), sv 3 (.mov (cb true))]) .ret) .skip)) (.seq (.reg [sv 2 (.mov (ci (-1))), sv 3 (.mov (cb false))]) .ret)))), [.tmp 2, .tmp 3]⟩
theorem ck74 : chkFL Tryd.prog 74 fl74 = true := by kernel_rfl
def sh74 (op_0 : Int) (h : H) (R : Value → H → Prop) : Prop :=
 (((op_0 = 24) →
 R (.tuple ⟨[(.int .i64 0), (.bool true)]⟩) h) ∧
 (¬ (op_0 = 24) →
 (((op_0 = 17) →
 R (.tuple ⟨[(.int .i64 1), (.bool true)]⟩) h) ∧
 (¬ (op_0 = 17) →
 (((op_0 = 18) →
 R (.tuple ⟨[(.int .i64 1), (.bool true)]⟩) h) ∧
 (¬ (op_0 = 18) →
 (((op_0 = 19) →
 R (.tuple ⟨[(.int .i64 1), (.bool true)]⟩) h) ∧
 (¬ (op_0 = 19) →
 (((op_0 = 20) →
 R (.tuple ⟨[(.int .i64 1), (.bool true)]⟩) h) ∧
 (¬ (op_0 = 20) →
 (((op_0 = 23) →
 R (.tuple ⟨[(.int .i64 1), (.bool true)]⟩) h) ∧
 (¬ (op_0 = 23) →
 (((op_0 = 31) →
 R (.tuple ⟨[(.int .i64 1), (.bool true)]⟩) h) ∧
 (¬ (op_0 = 31) →
 (((op_0 = 26) →
 R (.tuple ⟨[(.int .i64 1), (.bool false)]⟩) h) ∧
 (¬ (op_0 = 26) →
 (((op_0 = 27) →
 R (.tuple ⟨[(.int .i64 1), (.bool false)]⟩) h) ∧
 (¬ (op_0 = 27) →
 (((op_0 = 28) →
 R (.tuple ⟨[(.int .i64 1), (.bool false)]⟩) h) ∧
 (¬ (op_0 = 28) →
 (((op_0 = 29) →
 R (.tuple ⟨[(.int .i64 1), (.bool false)]⟩) h) ∧
 (¬ (op_0 = 29) →
 (((op_0 = 30) →
 R (.tuple ⟨[(.int .i64 2), (.bool false)]⟩) h) ∧
 (¬ (op_0 = 30) →
 (((op_0 = 21) →
 R (.tuple ⟨[(.int .i64 2), (.bool true)]⟩) h) ∧
 (¬ (op_0 = 21) →
 (((op_0 = 22) →
 R (.tuple ⟨[(.int .i64 3), (.bool false)]⟩) h) ∧
 (¬ (op_0 = 22) →
 (((2 ≤ op_0) →
 (((op_0 ≤ 16) →
 R (.tuple ⟨[(.int .i64 2), (.bool true)]⟩) h) ∧
 (¬ (op_0 ≤ 16) →
 R (.tuple ⟨[(.int .i64 (-1)), (.bool false)]⟩) h))) ∧
 (¬ (2 ≤ op_0) →
 R (.tuple ⟨[(.int .i64 (-1)), (.bool false)]⟩) h))))))))))))))))))))))))))))))
theorem hc74 {op_0 : Int} {h : H} {R : Value → H → Prop} (x : sh74 op_0 h R) : HC Tryd.prog 74 [(.int .i64 op_0)] h R :=
  FL.sound mixed ck74 ⟨rfl, Eq.mp (by unfold sh74; kernel_rfl) x⟩
/- quern/live.formedIns -/
def fl56 : FL := ⟨109, (.seq (.reg [se 3 (.box 71 (t 1)), sv 4 (.mov (cb false))]) (.seq (.seq (.reg [sv 9 (.fad 3 (t 3)), sv 10 (.ld .slice (t 9)), sv 11 (.len (t 10)), sv 12 (.mov (ci 0))]) (.block 0 (.loop [(12, (.one (.int .i64)))] [4, 6, 12, 13, 14, 15, 16, 17, 18, 19, 20] (.seq (.reg [sv 13 (.cmp .lss (t 12) (t 11))]) (.seq (.cond (t 13) .skip (.exit 0)) (.seq (.block 1 (.seq (.reg [sv 14 (.idx 1 (t 10) (t 12)), sv 15 (.ld (.int .i64) (t 14)), sv 6 (.mov (t 15))]) (.seq (.reg [sv 16 (.mov (t 0)), sv 17 (.mov (t 6)), se 18 (.call 55 [(t 16), (t 17)] (.one .bool)), sv 19 (.no (t 18))]) (.cond (t 19) (.seq (.reg [sv 4 (.mov (cb false))]) .ret) .skip)))) (.reg [sv 20 (.ar .add true (t 12) (ci 1)), sv 12 (.mov (t 20))]))))))) (.seq (.reg [sv 22 (.fad 0 (t 3)), sv 23 (.ld (.int .i64) (t 22)), se 24 (.call 74 [(t 23)] (.tup [(.one (.int .i64)), (.one .bool)])), sv 21 (.mov (t 24)), sv 25 (.ext (t 21) 0), sv 26 (.ext (t 21) 1), sv 7 (.mov (t 25)), sv 8 (.mov (t 26))]) (.seq (.seq (.reg [sv 27 (.fad 0 (t 3)), sv 28 (.ld (.int .i64) (t 27))]) (.block 2 (.seq (.reg [sv 30 (.cmp .eql (t 28) (ci 1)), sv 29 (.mov (t 30))]) (.cond (t 29) (.seq (.reg [sv 31 (.fad 3 (t 3)), sv 32 (.ld .slice (t 31)), sv 33 (.len (t 32)), sv 34 (.cmp .eql (t 33) (ci 0)), sv 35 (.mov (t 34)), ⟨some 36, some (35, true), .v (.mov (t 0))⟩, ⟨some 37, some (35, true), .v (.fad 1 (t 3))⟩, ⟨some 38, some (35, true), .v (.ld (.int .i64) (t 37))⟩, ⟨some 39, some (35, true), .e (.call 55 [(t 36), (t 38)] (.one .bool))⟩, sv 40 (.pick (t 35) (t 39) (cb false)), sv 4 (.mov (t 40))]) .ret) (.seq (.reg [sv 42 (.cmp .eql (t 28) (ci 25)), sv 41 (.mov (t 42))]) (.cond (t 41) (.seq (.reg [sv 43 (.fad 2 (t 3)), sv 44 (.ld (.int .i64) (t 43)), sv 45 (.cmp .geq (t 44) (ci 0)), sv 46 (.mov (t 45)), ⟨some 47, some (46, true), .v (.fad 3 (t 3))⟩, ⟨some 48, some (46, true), .v (.ld .slice (t 47))⟩, ⟨some 49, some (46, true), .v (.len (t 48))⟩, ⟨some 50, some (46, true), .v (.cmp .leq (t 49) (ci 8))⟩, sv 51 (.pick (t 46) (t 50) (cb false)), sv 52 (.mov (t 51)), ⟨some 53, some (52, true), .v (.fad 1 (t 3))⟩, ⟨some 54, some (52, true), .v (.ld (.int .i64) (t 53))⟩, ⟨some 55, some (52, true), .v (.cmp .eql (t 54) (ci (-1)))⟩, ⟨some 56, some (52, true), .v (.mov (t 55))⟩, ⟨some 57, some (56, false), .v (.mov (t 0))⟩, ⟨some 58, some (56, false), .v (.fad 1 (t 3))⟩, ⟨some 59, some (56, false), .v (.ld (.int .i64) (t 58))⟩, ⟨some 60, some (56, false), .e (.call 55 [(t 57), (t 59)] (.one .bool))⟩, ⟨some 61, some (52, true), .v (.pick (t 56) (cb true) (t 60))⟩, sv 62 (.pick (t 52) (t 61) (cb false)), sv 4 (.mov (t 62))]) .ret) (.seq (.seq (.reg [sv 64 (.cmp .eql (t 28) (ci 28)), sv 63 (.mov (t 64))]) (.cond (t 63) .skip (.seq (.reg [sv 65 (.cmp .eql (t 28) (ci 29)), sv 63 (.mov (t 65))]) (.cond (t 63) .skip (.reg [sv 66 (.cmp .eql (t 28) (ci 30)), sv 63 (.mov (t 66))]))))) (.cond (t 63) (.seq (.reg [sv 67 (.fad 3 (t 3)), sv 68 (.ld .slice (t 67)), sv 69 (.len (t 68)), sv 70 (.mov (t 7)), sv 71 (.cmp .eql (t 69) (t 70)), sv 72 (.mov (t 71)), ⟨some 73, some (72, true), .v (.fad 1 (t 3))⟩, ⟨some 74, some (72, true), .v (.ld (.int .i64) (t 73))⟩, ⟨some 75, some (72, true), .v (.cmp .eql (t 74) (ci (-1)))⟩, sv 76 (.pick (t 72) (t 75) (cb false)), sv 77 (.mov (t 76)), ⟨some 78, some (77, true), .v (.fad 2 (t 3))⟩, ⟨some 79, some (77, true), .v (.ld (.int .i64) (t 78))⟩, ⟨some 80, some (77, true), .v (.cmp .geq (t 79) (ci 1))⟩, sv 81 (.pick (t 77) (t 80) (cb false)), sv 82 (.mov (t 81)), ⟨some 83, some (82, true), .v (.fad 2 (t 3))⟩, ⟨some 84, some (82, true), .v (.ld (.int .i64) (t 83))⟩, ⟨some 85, some (82, true), .v (.cmp .leq (t 84) (ci 5))⟩, sv 86 (.pick (t 82) (t 85) (cb false)), sv 4 (.mov (t 86))]) .ret) .skip)))))))) (.seq (.seq (.reg [sv 87 (.mov (t 7)), sv 88 (.cmp .lss (t 87) (ci 0)), sv 89 (.mov (t 88)), ⟨some 90, some (89, false), .v (.fad 3 (t 3))⟩, ⟨some 91, some (89, false), .v (.ld .slice (t 90))⟩, ⟨some 92, some (89, false), .v (.len (t 91))⟩, ⟨some 93, some (89, false), .v (.mov (t 7))⟩, ⟨some 94, some (89, false), .v (.cmp .neq (t 92) (t 93))⟩, sv 95 (.pick (t 89) (cb true) (t 94)), sv 96 (.mov (t 95)), ⟨some 97, some (96, false), .v (.fad 2 (t 3))⟩, ⟨some 98, some (96, false), .v (.ld (.int .i64) (t 97))⟩, ⟨some 99, some (96, false), .v (.cmp .neq (t 98) (ci 0))⟩, sv 100 (.pick (t 96) (cb true) (t 99))]) (.cond (t 100) (.seq (.reg [sv 4 (.mov (cb false))]) .ret) .skip)) (.seq (.seq (.reg [sv 101 (.mov (t 8))]) (.cond (t 101) (.seq (.reg [sv 102 (.mov (t 0)), sv 103 (.fad 1 (t 3)), sv 104 (.ld (.int .i64) (t 103)), se 105 (.call 55 [(t 102), (t 104)] (.one .bool)), sv 4 (.mov (t 105))]) .ret) .skip)) (.seq (.reg [sv 106 (.fad 1 (t 3)), sv 107 (.ld (.int .i64) (t 106)), sv 108 (.cmp .eql (t 107) (ci (-1))), sv 4 (.mov (t 108))]) .ret))))))), [.tmp 4]⟩
theorem ck56 : chkFL Tryd.prog 56 fl56 = true := by kernel_rfl
def sh56 (pf_0 : Option Addr) (x_1 : Int) (x_1_1 : Int) (x_1_2 : Int) (ax_1 : Option Addr) (nx_1 cx_1 : Nat) (h : H) (R : Value → H → Prop) : Prop :=
 ∀ (bx_3 : Nat) (h1 : H), New h (.cells ⟨[(.int .i64 x_1), (.int .i64 x_1_1), (.int .i64 x_1_2), (.slice ax_1 nx_1 cx_1)]⟩ 71) bx_3 h1 →
 ∃ (av_10 : Option Addr) (nv_10 cv_10 : Nat), cell h1 ⟨bx_3, (0 + 3), none⟩ = some (.slice av_10 nv_10 cv_10) ∧
 ∃ J : Int → LI, (J 0).1 h1 ∧
 ∀ (v_12 : Int), ∀ h2 : H, (J v_12).1 h2 →
 (((v_12 < (↑nv_10 : Int)) →
 0 ≤ v_12 ∧ v_12 < (↑nv_10 : Int) ∧
 (onP av_10 fun bv_14 ov_14 =>
 ∃ (v_15 : Int), cell h2 ⟨bv_14, (ov_14 + (v_12).toNat * 1), none⟩ = some (.int .i64 v_15) ∧
 HC Tryd.prog 55 [(.pointer pf_0), (.int .i64 v_15)] h2 fun rv_18 h3 =>
 ∃ (v_18 : Bool), rv_18 = (.bool v_18) ∧
 (((!v_18) = true →
 R (.bool false) h3) ∧
 ((!v_18) = false →
 InR .i64 (v_12 + 1) ∧
 (J (v_12 + 1)).1 h3 ∧ (J (v_12 + 1)).2 h3 < (J v_12).2 h2)))) ∧
 (¬ (v_12 < (↑nv_10 : Int)) →
 ∃ (v_23 : Int), cell h2 ⟨bx_3, (0 + 0), none⟩ = some (.int .i64 v_23) ∧
 HC Tryd.prog 74 [(.int .i64 v_23)] h2 fun rv_24 h4 =>
 ∃ (v_24 : Int), ∃ (v_24_1 : Bool), rv_24 = (.tuple ⟨[(.int .i64 v_24), (.bool v_24_1)]⟩) ∧
 ∃ (v_28 : Int), cell h4 ⟨bx_3, (0 + 0), none⟩ = some (.int .i64 v_28) ∧
 (((v_28 = 1) →
 ∃ (av_32 : Option Addr) (nv_32 cv_32 : Nat), cell h4 ⟨bx_3, (0 + 3), none⟩ = some (.slice av_32 nv_32 cv_32) ∧
 ((((↑nv_32 : Int) = 0) →
 ∃ (v_38 : Int), cell h4 ⟨bx_3, (0 + 1), none⟩ = some (.int .i64 v_38) ∧
 HC Tryd.prog 55 [(.pointer pf_0), (.int .i64 v_38)] h4 fun rv_39 h5 =>
 ∃ (v_39 : Bool), rv_39 = (.bool v_39) ∧
 R (.bool v_39) h5) ∧
 (¬ ((↑nv_32 : Int) = 0) →
 R (.bool false) h4))) ∧
 (¬ (v_28 = 1) →
 (((v_28 = 25) →
 ∃ (v_44 : Int), cell h4 ⟨bx_3, (0 + 2), none⟩ = some (.int .i64 v_44) ∧
 (((0 ≤ v_44) →
 ∃ (av_48 : Option Addr) (nv_48 cv_48 : Nat), cell h4 ⟨bx_3, (0 + 3), none⟩ = some (.slice av_48 nv_48 cv_48) ∧
 ((((↑nv_48 : Int) ≤ 8) →
 ∃ (v_54 : Int), cell h4 ⟨bx_3, (0 + 1), none⟩ = some (.int .i64 v_54) ∧
 (((v_54 = (-1)) →
 R (.bool true) h4) ∧
 (¬ (v_54 = (-1)) →
 ∃ (v_59 : Int), cell h4 ⟨bx_3, (0 + 1), none⟩ = some (.int .i64 v_59) ∧
 HC Tryd.prog 55 [(.pointer pf_0), (.int .i64 v_59)] h4 fun rv_60 h6 =>
 ∃ (v_60 : Bool), rv_60 = (.bool v_60) ∧
 R (.bool v_60) h6))) ∧
 (¬ ((↑nv_48 : Int) ≤ 8) →
 R (.bool false) h4))) ∧
 (¬ (0 ≤ v_44) →
 R (.bool false) h4))) ∧
 (¬ (v_28 = 25) →
 (((v_28 = 28) →
 ∃ (av_68 : Option Addr) (nv_68 cv_68 : Nat), cell h4 ⟨bx_3, (0 + 3), none⟩ = some (.slice av_68 nv_68 cv_68) ∧
 ((((↑nv_68 : Int) = v_24) →
 ∃ (v_74 : Int), cell h4 ⟨bx_3, (0 + 1), none⟩ = some (.int .i64 v_74) ∧
 (((v_74 = (-1)) →
 ∃ (v_79 : Int), cell h4 ⟨bx_3, (0 + 2), none⟩ = some (.int .i64 v_79) ∧
 (((1 ≤ v_79) →
 ∃ (v_84 : Int), cell h4 ⟨bx_3, (0 + 2), none⟩ = some (.int .i64 v_84) ∧
 R (.bool (decide (v_84 ≤ 5))) h4) ∧
 (¬ (1 ≤ v_79) →
 R (.bool false) h4))) ∧
 (¬ (v_74 = (-1)) →
 R (.bool false) h4))) ∧
 (¬ ((↑nv_68 : Int) = v_24) →
 R (.bool false) h4))) ∧
 (¬ (v_28 = 28) →
 (((v_28 = 29) →
 ∃ (av_68_1 : Option Addr) (nv_68_1 cv_68_1 : Nat), cell h4 ⟨bx_3, (0 + 3), none⟩ = some (.slice av_68_1 nv_68_1 cv_68_1) ∧
 ((((↑nv_68_1 : Int) = v_24) →
 ∃ (v_74_1 : Int), cell h4 ⟨bx_3, (0 + 1), none⟩ = some (.int .i64 v_74_1) ∧
 (((v_74_1 = (-1)) →
 ∃ (v_79_1 : Int), cell h4 ⟨bx_3, (0 + 2), none⟩ = some (.int .i64 v_79_1) ∧
 (((1 ≤ v_79_1) →
 ∃ (v_84_1 : Int), cell h4 ⟨bx_3, (0 + 2), none⟩ = some (.int .i64 v_84_1) ∧
 R (.bool (decide (v_84_1 ≤ 5))) h4) ∧
 (¬ (1 ≤ v_79_1) →
 R (.bool false) h4))) ∧
 (¬ (v_74_1 = (-1)) →
 R (.bool false) h4))) ∧
 (¬ ((↑nv_68_1 : Int) = v_24) →
 R (.bool false) h4))) ∧
 (¬ (v_28 = 29) →
 (((v_28 = 30) →
 ∃ (av_68_2 : Option Addr) (nv_68_2 cv_68_2 : Nat), cell h4 ⟨bx_3, (0 + 3), none⟩ = some (.slice av_68_2 nv_68_2 cv_68_2) ∧
 ((((↑nv_68_2 : Int) = v_24) →
 ∃ (v_74_2 : Int), cell h4 ⟨bx_3, (0 + 1), none⟩ = some (.int .i64 v_74_2) ∧
 (((v_74_2 = (-1)) →
 ∃ (v_79_2 : Int), cell h4 ⟨bx_3, (0 + 2), none⟩ = some (.int .i64 v_79_2) ∧
 (((1 ≤ v_79_2) →
 ∃ (v_84_2 : Int), cell h4 ⟨bx_3, (0 + 2), none⟩ = some (.int .i64 v_84_2) ∧
 R (.bool (decide (v_84_2 ≤ 5))) h4) ∧
 (¬ (1 ≤ v_79_2) →
 R (.bool false) h4))) ∧
 (¬ (v_74_2 = (-1)) →
 R (.bool false) h4))) ∧
 (¬ ((↑nv_68_2 : Int) = v_24) →
 R (.bool false) h4))) ∧
 (¬ (v_28 = 30) →
 (((v_24 < 0) →
 R (.bool false) h4) ∧
 (¬ (v_24 < 0) →
 ∃ (av_91 : Option Addr) (nv_91 cv_91 : Nat), cell h4 ⟨bx_3, (0 + 3), none⟩ = some (.slice av_91 nv_91 cv_91) ∧
 (((¬ (↑nv_91 : Int) = v_24) →
 R (.bool false) h4) ∧
 (¬ (¬ (↑nv_91 : Int) = v_24) →
 ∃ (v_98 : Int), cell h4 ⟨bx_3, (0 + 2), none⟩ = some (.int .i64 v_98) ∧
 (((¬ v_98 = 0) →
 R (.bool false) h4) ∧
 (¬ (¬ v_98 = 0) →
 ((v_24_1 = true →
 ∃ (v_104 : Int), cell h4 ⟨bx_3, (0 + 1), none⟩ = some (.int .i64 v_104) ∧
 HC Tryd.prog 55 [(.pointer pf_0), (.int .i64 v_104)] h4 fun rv_105 h7 =>
 ∃ (v_105 : Bool), rv_105 = (.bool v_105) ∧
 R (.bool v_105) h7) ∧
 (v_24_1 = false →
 ∃ (v_107 : Int), cell h4 ⟨bx_3, (0 + 1), none⟩ = some (.int .i64 v_107) ∧
 R (.bool (decide (v_107 = (-1)))) h4))))))))))))))))))))
theorem hc56 {pf_0 : Option Addr} {x_1 : Int} {x_1_1 : Int} {x_1_2 : Int} {ax_1 : Option Addr} {nx_1 cx_1 : Nat} {h : H} {R : Value → H → Prop} (x : sh56 pf_0 x_1 x_1_1 x_1_2 ax_1 nx_1 cx_1 h R) : HC Tryd.prog 56 [(.pointer pf_0), (.agg ⟨[(.int .i64 x_1), (.int .i64 x_1_1), (.int .i64 x_1_2), (.slice ax_1 nx_1 cx_1)]⟩)] h R :=
  FL.sound mixed ck56 ⟨rfl, Eq.mp (by unfold sh56; kernel_rfl) x⟩
/- quern/live.formedTerm -/
def fl57 : FL := ⟨97, (.seq (.reg [se 3 (.box 48 (t 1)), sv 4 (.mov (cb false))]) (.seq (.seq (.reg [sv 7 (.fad 2 (t 3)), sv 8 (.ld .slice (t 7)), sv 9 (.len (t 8)), sv 10 (.mov (ci 0))]) (.block 0 (.loop [(10, (.one (.int .i64)))] [4, 6, 10, 11, 12, 13, 14, 15, 16, 17, 18, 19, 20, 21, 22, 23, 24, 25] (.seq (.reg [sv 11 (.cmp .lss (t 10) (t 9))]) (.seq (.cond (t 11) .skip (.exit 0)) (.seq (.block 1 (.seq (.reg [sv 12 (.idx 1 (t 8) (t 10)), sv 13 (.ld (.int .i64) (t 12)), sv 6 (.mov (t 13))]) (.seq (.reg [sv 14 (.mov (t 6)), sv 15 (.cmp .lss (t 14) (ci 0)), sv 16 (.mov (t 15)), ⟨some 17, some (16, false), .v (.mov (t 6))⟩, ⟨some 18, some (16, false), .v (.mov (t 0))⟩, ⟨some 19, some (16, false), .v (.nck (t 18))⟩, ⟨some 20, some (16, false), .v (.fad 4 (t 19))⟩, ⟨some 21, some (16, false), .v (.ld .slice (t 20))⟩, ⟨some 22, some (16, false), .v (.len (t 21))⟩, ⟨some 23, some (16, false), .v (.cmp .geq (t 17) (t 22))⟩, sv 24 (.pick (t 16) (cb true) (t 23))]) (.cond (t 24) (.seq (.reg [sv 4 (.mov (cb false))]) .ret) .skip)))) (.reg [sv 25 (.ar .add true (t 10) (ci 1)), sv 10 (.mov (t 25))]))))))) (.seq (.seq (.reg [sv 26 (.fad 0 (t 3)), sv 27 (.ld (.int .i64) (t 26))]) (.block 2 (.seq (.reg [sv 29 (.cmp .eql (t 27) (ci 1)), sv 28 (.mov (t 29))]) (.cond (t 28) (.seq (.reg [sv 30 (.fad 1 (t 3)), sv 31 (.ld (.int .i64) (t 30)), sv 32 (.cmp .eql (t 31) (ci (-1))), sv 33 (.mov (t 32)), ⟨some 34, some (33, true), .v (.fad 2 (t 3))⟩, ⟨some 35, some (33, true), .v (.ld .slice (t 34))⟩, ⟨some 36, some (33, true), .v (.len (t 35))⟩, ⟨some 37, some (33, true), .v (.cmp .eql (t 36) (ci 1))⟩, sv 38 (.pick (t 33) (t 37) (cb false)), sv 4 (.mov (t 38))]) .ret) (.seq (.reg [sv 40 (.cmp .eql (t 27) (ci 2)), sv 39 (.mov (t 40))]) (.cond (t 39) (.seq (.reg [sv 41 (.mov (t 0)), sv 42 (.fad 1 (t 3)), sv 43 (.ld (.int .i64) (t 42)), se 44 (.call 55 [(t 41), (t 43)] (.one .bool)), sv 45 (.mov (t 44)), ⟨some 46, some (45, true), .v (.fad 2 (t 3))⟩, ⟨some 47, some (45, true), .v (.ld .slice (t 46))⟩, ⟨some 48, some (45, true), .v (.len (t 47))⟩, ⟨some 49, some (45, true), .v (.cmp .eql (t 48) (ci 2))⟩, sv 50 (.pick (t 45) (t 49) (cb false)), sv 4 (.mov (t 50))]) .ret) (.seq (.reg [sv 52 (.cmp .eql (t 27) (ci 3)), sv 51 (.mov (t 52))]) (.cond (t 51) (.seq (.reg [sv 53 (.fad 2 (t 3)), sv 54 (.ld .slice (t 53)), sv 55 (.len (t 54)), sv 56 (.cmp .eql (t 55) (ci 0)), sv 57 (.mov (t 56)), ⟨some 58, some (57, true), .v (.mov (t 0))⟩, ⟨some 59, some (57, true), .v (.nck (t 58))⟩, ⟨some 60, some (57, true), .v (.fad 3 (t 59))⟩, ⟨some 61, some (57, true), .v (.ld (.int .i64) (t 60))⟩, ⟨some 62, some (57, true), .v (.cmp .eql (t 61) (ci 0))⟩, ⟨some 63, some (57, true), .v (.mov (t 62))⟩, ⟨some 64, some (63, true), .v (.fad 1 (t 3))⟩, ⟨some 65, some (63, true), .v (.ld (.int .i64) (t 64))⟩, ⟨some 66, some (63, true), .v (.cmp .eql (t 65) (ci (-1)))⟩, ⟨some 67, some (57, true), .v (.pick (t 63) (t 66) (cb false))⟩, ⟨some 68, some (57, true), .v (.mov (t 67))⟩, ⟨some 69, some (68, false), .v (.mov (t 0))⟩, ⟨some 70, some (68, false), .v (.nck (t 69))⟩, ⟨some 71, some (68, false), .v (.fad 3 (t 70))⟩, ⟨some 72, some (68, false), .v (.ld (.int .i64) (t 71))⟩, ⟨some 73, some (68, false), .v (.cmp .neq (t 72) (ci 0))⟩, ⟨some 74, some (68, false), .v (.mov (t 73))⟩, ⟨some 75, some (74, true), .v (.mov (t 0))⟩, ⟨some 76, some (74, true), .v (.fad 1 (t 3))⟩, ⟨some 77, some (74, true), .v (.ld (.int .i64) (t 76))⟩, ⟨some 78, some (74, true), .e (.call 55 [(t 75), (t 77)] (.one .bool))⟩, ⟨some 79, some (68, false), .v (.pick (t 74) (t 78) (cb false))⟩, ⟨some 80, some (57, true), .v (.pick (t 68) (cb true) (t 79))⟩, sv 81 (.pick (t 57) (t 80) (cb false)), sv 4 (.mov (t 81))]) .ret) .skip)))))))) (.seq (.reg [sv 82 (.fad 0 (t 3)), sv 83 (.ld (.int .i64) (t 82)), sv 84 (.cmp .eql (t 83) (ci 4)), sv 85 (.mov (t 84)), ⟨some 86, some (85, true), .v (.mov (t 0))⟩, ⟨some 87, some (85, true), .v (.fad 1 (t 3))⟩, ⟨some 88, some (85, true), .v (.ld (.int .i64) (t 87))⟩, ⟨some 89, some (85, true), .e (.call 55 [(t 86), (t 88)] (.one .bool))⟩, sv 90 (.pick (t 85) (t 89) (cb false)), sv 91 (.mov (t 90)), ⟨some 92, some (91, true), .v (.fad 2 (t 3))⟩, ⟨some 93, some (91, true), .v (.ld .slice (t 92))⟩, ⟨some 94, some (91, true), .v (.len (t 93))⟩, ⟨some 95, some (91, true), .v (.cmp .eql (t 94) (ci 0))⟩, sv 96 (.pick (t 91) (t 95) (cb false)), sv 4 (.mov (t 96))]) .ret)))), [.tmp 4]⟩
theorem ck57 : chkFL Tryd.prog 57 fl57 = true := by kernel_rfl
def sh57 (pf_0 : Option Addr) (t_1 : Int) (t_1_1 : Int) (at_1 : Option Addr) (nt_1 ct_1 : Nat) (h : H) (R : Value → H → Prop) : Prop :=
 ∀ (bt_3 : Nat) (h1 : H), New h (.cells ⟨[(.int .i64 t_1), (.int .i64 t_1_1), (.slice at_1 nt_1 ct_1)]⟩ 48) bt_3 h1 →
 ∃ (av_8 : Option Addr) (nv_8 cv_8 : Nat), cell h1 ⟨bt_3, (0 + 2), none⟩ = some (.slice av_8 nv_8 cv_8) ∧
 ∃ J : Int → LI, (J 0).1 h1 ∧
 ∀ (v_10 : Int), ∀ h2 : H, (J v_10).1 h2 →
 (((v_10 < (↑nv_8 : Int)) →
 0 ≤ v_10 ∧ v_10 < (↑nv_8 : Int) ∧
 (onP av_8 fun bv_12 ov_12 =>
 ∃ (v_13 : Int), cell h2 ⟨bv_12, (ov_12 + (v_10).toNat * 1), none⟩ = some (.int .i64 v_13) ∧
 (((v_13 < 0) →
 R (.bool false) h2) ∧
 (¬ (v_13 < 0) →
 (pf_0 : Option Addr) ≠ none ∧
 (onP pf_0 fun bv_20 ov_20 =>
 ∃ (av_21 : Option Addr) (nv_21 cv_21 : Nat), cell h2 ⟨bv_20, (ov_20 + 4), none⟩ = some (.slice av_21 nv_21 cv_21) ∧
 ((((↑nv_21 : Int) ≤ v_13) →
 R (.bool false) h2) ∧
 (¬ ((↑nv_21 : Int) ≤ v_13) →
 InR .i64 (v_10 + 1) ∧
 (J (v_10 + 1)).1 h2 ∧ (J (v_10 + 1)).2 h2 < (J v_10).2 h2))))))) ∧
 (¬ (v_10 < (↑nv_8 : Int)) →
 ∃ (v_27 : Int), cell h2 ⟨bt_3, (0 + 0), none⟩ = some (.int .i64 v_27) ∧
 (((v_27 = 1) →
 ∃ (v_31 : Int), cell h2 ⟨bt_3, (0 + 1), none⟩ = some (.int .i64 v_31) ∧
 (((v_31 = (-1)) →
 ∃ (av_35 : Option Addr) (nv_35 cv_35 : Nat), cell h2 ⟨bt_3, (0 + 2), none⟩ = some (.slice av_35 nv_35 cv_35) ∧
 R (.bool (decide ((↑nv_35 : Int) = 1))) h2) ∧
 (¬ (v_31 = (-1)) →
 R (.bool false) h2))) ∧
 (¬ (v_27 = 1) →
 (((v_27 = 2) →
 ∃ (v_43 : Int), cell h2 ⟨bt_3, (0 + 1), none⟩ = some (.int .i64 v_43) ∧
 HC Tryd.prog 55 [(.pointer pf_0), (.int .i64 v_43)] h2 fun rv_44 h3 =>
 ∃ (v_44 : Bool), rv_44 = (.bool v_44) ∧
 ((v_44 = true →
 ∃ (av_47 : Option Addr) (nv_47 cv_47 : Nat), cell h3 ⟨bt_3, (0 + 2), none⟩ = some (.slice av_47 nv_47 cv_47) ∧
 R (.bool (decide ((↑nv_47 : Int) = 2))) h3) ∧
 (v_44 = false →
 R (.bool false) h3))) ∧
 (¬ (v_27 = 2) →
 (((v_27 = 3) →
 ∃ (av_54 : Option Addr) (nv_54 cv_54 : Nat), cell h2 ⟨bt_3, (0 + 2), none⟩ = some (.slice av_54 nv_54 cv_54) ∧
 ((((↑nv_54 : Int) = 0) →
 (pf_0 : Option Addr) ≠ none ∧
 (onP pf_0 fun bv_60 ov_60 =>
 ∃ (v_61 : Int), cell h2 ⟨bv_60, (ov_60 + 3), none⟩ = some (.int .i64 v_61) ∧
 (((v_61 = 0) →
 ∃ (v_65 : Int), cell h2 ⟨bt_3, (0 + 1), none⟩ = some (.int .i64 v_65) ∧
 (((v_65 = (-1)) →
 R (.bool true) h2) ∧
 (¬ (v_65 = (-1)) →
 (pf_0 : Option Addr) ≠ none ∧
 (onP pf_0 fun bv_71 ov_71 =>
 ∃ (v_72 : Int), cell h2 ⟨bv_71, (ov_71 + 3), none⟩ = some (.int .i64 v_72) ∧
 (((¬ v_72 = 0) →
 ∃ (v_77 : Int), cell h2 ⟨bt_3, (0 + 1), none⟩ = some (.int .i64 v_77) ∧
 HC Tryd.prog 55 [(.pointer pf_0), (.int .i64 v_77)] h2 fun rv_78 h4 =>
 ∃ (v_78 : Bool), rv_78 = (.bool v_78) ∧
 R (.bool v_78) h4) ∧
 (¬ (¬ v_72 = 0) →
 R (.bool false) h2)))))) ∧
 (¬ (v_61 = 0) →
 (pf_0 : Option Addr) ≠ none ∧
 (onP pf_0 fun bv_71_1 ov_71_1 =>
 ∃ (v_72_1 : Int), cell h2 ⟨bv_71_1, (ov_71_1 + 3), none⟩ = some (.int .i64 v_72_1) ∧
 (((¬ v_72_1 = 0) →
 ∃ (v_77_1 : Int), cell h2 ⟨bt_3, (0 + 1), none⟩ = some (.int .i64 v_77_1) ∧
 HC Tryd.prog 55 [(.pointer pf_0), (.int .i64 v_77_1)] h2 fun rv_78_1 h5 =>
 ∃ (v_78_1 : Bool), rv_78_1 = (.bool v_78_1) ∧
 R (.bool v_78_1) h5) ∧
 (¬ (¬ v_72_1 = 0) →
 R (.bool false) h2))))))) ∧
 (¬ ((↑nv_54 : Int) = 0) →
 R (.bool false) h2))) ∧
 (¬ (v_27 = 3) →
 ∃ (v_83 : Int), cell h2 ⟨bt_3, (0 + 0), none⟩ = some (.int .i64 v_83) ∧
 (((v_83 = 4) →
 ∃ (v_88 : Int), cell h2 ⟨bt_3, (0 + 1), none⟩ = some (.int .i64 v_88) ∧
 HC Tryd.prog 55 [(.pointer pf_0), (.int .i64 v_88)] h2 fun rv_89 h6 =>
 ∃ (v_89 : Bool), rv_89 = (.bool v_89) ∧
 ((v_89 = true →
 ∃ (av_93 : Option Addr) (nv_93 cv_93 : Nat), cell h6 ⟨bt_3, (0 + 2), none⟩ = some (.slice av_93 nv_93 cv_93) ∧
 R (.bool (decide ((↑nv_93 : Int) = 0))) h6) ∧
 (v_89 = false →
 R (.bool false) h6))) ∧
 (¬ (v_83 = 4) →
 R (.bool false) h2))))))))))
theorem hc57 {pf_0 : Option Addr} {t_1 : Int} {t_1_1 : Int} {at_1 : Option Addr} {nt_1 ct_1 : Nat} {h : H} {R : Value → H → Prop} (x : sh57 pf_0 t_1 t_1_1 at_1 nt_1 ct_1 h R) : HC Tryd.prog 57 [(.pointer pf_0), (.agg ⟨[(.int .i64 t_1), (.int .i64 t_1_1), (.slice at_1 nt_1 ct_1)]⟩)] h R :=
  FL.sound mixed ck57 ⟨rfl, Eq.mp (by unfold sh57; kernel_rfl) x⟩
/- quern/live.formed -/
def fl25 : FL := ⟨110, (.seq (.reg [sv 2 (.mov (cb false))]) (.seq (.seq (.reg [sv 11 (.mov (t 0)), sv 12 (.nck (t 11)), sv 13 (.fad 2 (t 12)), sv 14 (.ld (.int .i64) (t 13)), sv 15 (.cmp .lss (t 14) (ci 0)), sv 16 (.mov (t 15)), ⟨some 17, some (16, false), .v (.mov (t 0))⟩, ⟨some 18, some (16, false), .v (.nck (t 17))⟩, ⟨some 19, some (16, false), .v (.fad 2 (t 18))⟩, ⟨some 20, some (16, false), .v (.ld (.int .i64) (t 19))⟩, ⟨some 21, some (16, false), .v (.cmp .gtr (t 20) (ci 262144))⟩, sv 22 (.pick (t 16) (cb true) (t 21)), sv 23 (.mov (t 22)), ⟨some 24, some (23, false), .v (.mov (t 0))⟩, ⟨some 25, some (23, false), .v (.nck (t 24))⟩, ⟨some 26, some (23, false), .v (.fad 1 (t 25))⟩, ⟨some 27, some (23, false), .v (.ld .slice (t 26))⟩, ⟨some 28, some (23, false), .v (.len (t 27))⟩, ⟨some 29, some (23, false), .v (.cmp .gtr (t 28) (ci 8))⟩, sv 30 (.pick (t 23) (cb true) (t 29)), sv 31 (.mov (t 30)), ⟨some 32, some (31, false), .v (.mov (t 0))⟩, ⟨some 33, some (31, false), .v (.nck (t 32))⟩, ⟨some 34, some (31, false), .v (.fad 3 (t 33))⟩, ⟨some 35, some (31, false), .v (.ld (.int .i64) (t 34))⟩, ⟨some 36, some (31, false), .v (.cmp .lss (t 35) (ci 0))⟩, sv 37 (.pick (t 31) (cb true) (t 36)), sv 38 (.mov (t 37)), ⟨some 39, some (38, false), .v (.mov (t 0))⟩, ⟨some 40, some (38, false), .v (.nck (t 39))⟩, ⟨some 41, some (38, false), .v (.fad 3 (t 40))⟩, ⟨some 42, some (38, false), .v (.ld (.int .i64) (t 41))⟩, ⟨some 43, some (38, false), .v (.cmp .gtr (t 42) (ci 3))⟩, sv 44 (.pick (t 38) (cb true) (t 43)), sv 45 (.mov (t 44)), ⟨some 46, some (45, false), .v (.mov (t 0))⟩, ⟨some 47, some (45, false), .v (.nck (t 46))⟩, ⟨some 48, some (45, false), .v (.fad 4 (t 47))⟩, ⟨some 49, some (45, false), .v (.ld .slice (t 48))⟩, ⟨some 50, some (45, false), .v (.len (t 49))⟩, ⟨some 51, some (45, false), .v (.cmp .eql (t 50) (ci 0))⟩, sv 52 (.pick (t 45) (cb true) (t 51))]) (.cond (t 52) (.seq (.reg [sv 2 (.mov (cb false))]) .ret) .skip)) (.seq (.seq (.reg [sv 53 (.mov (t 0)), sv 54 (.nck (t 53)), sv 55 (.fad 1 (t 54)), sv 56 (.ld .slice (t 55)), sv 57 (.len (t 56)), sv 58 (.mov (ci 0))]) (.block 0 (.loop [(58, (.one (.int .i64)))] [2, 3, 4, 6, 58, 59, 60, 61, 62, 63, 64, 65, 66, 67, 68, 69, 70, 71, 72, 73, 74, 75, 76, 77, 78, 79, 80, 81, 82] (.seq (.reg [sv 59 (.cmp .lss (t 58) (t 57))]) (.seq (.cond (t 59) .skip (.exit 0)) (.seq (.block 1 (.seq (.reg [sv 60 (.mov (t 58)), sv 61 (.idx 1 (t 56) (t 58)), sv 62 (.ld (.int .i64) (t 61)), sv 3 (.mov (t 60)), sv 4 (.mov (t 62))]) (.seq (.seq (.reg [sv 63 (.mov (t 0)), sv 64 (.mov (t 4)), se 65 (.call 55 [(t 63), (t 64)] (.one .bool)), sv 66 (.no (t 65))]) (.cond (t 66) (.seq (.reg [sv 2 (.mov (cb false))]) .ret) .skip)) (.seq (.reg [sv 67 (.mov (t 0)), sv 68 (.nck (t 67)), sv 69 (.fad 1 (t 68)), sv 70 (.ld .slice (t 69)), sv 71 (.mov (t 3)), sv 72 (.slc 1 (t 70) none (some (t 71))), sv 73 (.len (t 72)), sv 74 (.mov (ci 0))]) (.block 2 (.loop [(74, (.one (.int .i64)))] [2, 6, 74, 75, 76, 77, 78, 79, 80, 81] (.seq (.reg [sv 75 (.cmp .lss (t 74) (t 73))]) (.seq (.cond (t 75) .skip (.exit 2)) (.seq (.block 3 (.seq (.reg [sv 76 (.idx 1 (t 72) (t 74)), sv 77 (.ld (.int .i64) (t 76)), sv 6 (.mov (t 77))]) (.seq (.reg [sv 78 (.mov (t 4)), sv 79 (.mov (t 6)), sv 80 (.cmp .eql (t 78) (t 79))]) (.cond (t 80) (.seq (.reg [sv 2 (.mov (cb false))]) .ret) .skip)))) (.reg [sv 81 (.ar .add true (t 74) (ci 1)), sv 74 (.mov (t 81))])))))))))) (.reg [sv 82 (.ar .add true (t 58) (ci 1)), sv 58 (.mov (t 82))]))))))) (.seq (.seq (.reg [sv 83 (.mov (t 0)), sv 84 (.nck (t 83)), sv 85 (.fad 4 (t 84)), sv 86 (.ld .slice (t 85)), sv 87 (.len (t 86)), sv 88 (.mov (ci 0))]) (.block 4 (.loop [(88, (.one (.int .i64)))] [2, 8, 10, 88, 89, 90, 91, 92, 93, 94, 95, 96, 97, 98, 99, 100, 101, 102, 103, 104, 105, 106, 107, 108, 109] (.seq (.reg [sv 89 (.cmp .lss (t 88) (t 87))]) (.seq (.cond (t 89) .skip (.exit 4)) (.seq (.block 5 (.seq (.reg [sv 90 (.idx 4 (t 86) (t 88)), sv 91 (.lda [.slice, (.int .i64), (.int .i64), .slice] (t 90)), se 8 (.alc 50 [.slice none 0 0, .int .i64 0, .int .i64 0, .slice none 0 0]), ne (.sto 4 (t 8) (t 91))]) (.seq (.seq (.reg [sv 92 (.fad 0 (t 8)), sv 93 (.ld .slice (t 92)), sv 94 (.len (t 93)), sv 95 (.mov (ci 0))]) (.block 6 (.loop [(95, (.one (.int .i64)))] [2, 10, 95, 96, 97, 98, 99, 100, 101, 102, 103] (.seq (.reg [sv 96 (.cmp .lss (t 95) (t 94))]) (.seq (.cond (t 96) .skip (.exit 6)) (.seq (.block 7 (.seq (.reg [sv 97 (.idx 4 (t 93) (t 95)), sv 98 (.lda [(.int .i64), (.int .i64), (.int .i64), .slice] (t 97)), se 10 (.alc 71 [.int .i64 0, .int .i64 0, .int .i64 0, .slice none 0 0]), ne (.sto 4 (t 10) (t 98))]) (.seq (.reg [sv 99 (.mov (t 0)), sv 100 (.lda [(.int .i64), (.int .i64), (.int .i64), .slice] (t 10)), se 101 (.call 56 [(t 99), (t 100)] (.one .bool)), sv 102 (.no (t 101))]) (.cond (t 102) (.seq (.reg [sv 2 (.mov (cb false))]) .ret) .skip)))) (.reg [sv 103 (.ar .add true (t 95) (ci 1)), sv 95 (.mov (t 103))]))))))) (.seq (.reg [sv 104 (.mov (t 0)), sv 105 (.fad 1 (t 8)), sv 106 (.lda [(.int .i64), (.int .i64), .slice] (t 105)), se 107 (.call 57 [(t 104), (t 106)] (.one .bool)), sv 108 (.no (t 107))]) (.cond (t 108) (.seq (.reg [sv 2 (.mov (cb false))]) .ret) .skip))))) (.reg [sv 109 (.ar .add true (t 88) (ci 1)), sv 88 (.mov (t 109))]))))))) (.seq (.reg [sv 2 (.mov (cb true))]) .ret))))), [.tmp 2]⟩
theorem ck25 : chkFL Tryd.prog 25 fl25 = true := by kernel_rfl
def sh25 (pf_0 : Option Addr) (h : H) (R : Value → H → Prop) : Prop :=
 (pf_0 : Option Addr) ≠ none ∧
 (onP pf_0 fun bv_13 ov_13 =>
 ∃ (v_14 : Int), cell h ⟨bv_13, (ov_13 + 2), none⟩ = some (.int .i64 v_14) ∧
 (((v_14 < 0) →
 R (.bool false) h) ∧
 (¬ (v_14 < 0) →
 (pf_0 : Option Addr) ≠ none ∧
 (onP pf_0 fun bv_19 ov_19 =>
 ∃ (v_20 : Int), cell h ⟨bv_19, (ov_19 + 2), none⟩ = some (.int .i64 v_20) ∧
 (((262144 < v_20) →
 R (.bool false) h) ∧
 (¬ (262144 < v_20) →
 (pf_0 : Option Addr) ≠ none ∧
 (onP pf_0 fun bv_26 ov_26 =>
 ∃ (av_27 : Option Addr) (nv_27 cv_27 : Nat), cell h ⟨bv_26, (ov_26 + 1), none⟩ = some (.slice av_27 nv_27 cv_27) ∧
 (((8 < (↑nv_27 : Int)) →
 R (.bool false) h) ∧
 (¬ (8 < (↑nv_27 : Int)) →
 (pf_0 : Option Addr) ≠ none ∧
 (onP pf_0 fun bv_34 ov_34 =>
 ∃ (v_35 : Int), cell h ⟨bv_34, (ov_34 + 3), none⟩ = some (.int .i64 v_35) ∧
 (((v_35 < 0) →
 R (.bool false) h) ∧
 (¬ (v_35 < 0) →
 (pf_0 : Option Addr) ≠ none ∧
 (onP pf_0 fun bv_41 ov_41 =>
 ∃ (v_42 : Int), cell h ⟨bv_41, (ov_41 + 3), none⟩ = some (.int .i64 v_42) ∧
 (((3 < v_42) →
 R (.bool false) h) ∧
 (¬ (3 < v_42) →
 (pf_0 : Option Addr) ≠ none ∧
 (onP pf_0 fun bv_48 ov_48 =>
 ∃ (av_49 : Option Addr) (nv_49 cv_49 : Nat), cell h ⟨bv_48, (ov_48 + 4), none⟩ = some (.slice av_49 nv_49 cv_49) ∧
 ((((↑nv_49 : Int) = 0) →
 R (.bool false) h) ∧
 (¬ ((↑nv_49 : Int) = 0) →
 (pf_0 : Option Addr) ≠ none ∧
 (onP pf_0 fun bv_55 ov_55 =>
 ∃ (av_56 : Option Addr) (nv_56 cv_56 : Nat), cell h ⟨bv_55, (ov_55 + 1), none⟩ = some (.slice av_56 nv_56 cv_56) ∧
 ∃ J : Int → LI, (J 0).1 h ∧
 ∀ (v_58 : Int), ∀ h1 : H, (J v_58).1 h1 →
 (((v_58 < (↑nv_56 : Int)) →
 0 ≤ v_58 ∧ v_58 < (↑nv_56 : Int) ∧
 (onP av_56 fun bv_61 ov_61 =>
 ∃ (v_62 : Int), cell h1 ⟨bv_61, (ov_61 + (v_58).toNat * 1), none⟩ = some (.int .i64 v_62) ∧
 HC Tryd.prog 55 [(.pointer pf_0), (.int .i64 v_62)] h1 fun rv_65 h2 =>
 ∃ (v_65 : Bool), rv_65 = (.bool v_65) ∧
 (((!v_65) = true →
 R (.bool false) h2) ∧
 ((!v_65) = false →
 (pf_0 : Option Addr) ≠ none ∧
 (onP pf_0 fun bv_69 ov_69 =>
 ∃ (av_70 : Option Addr) (nv_70 cv_70 : Nat), cell h2 ⟨bv_69, (ov_69 + 1), none⟩ = some (.slice av_70 nv_70 cv_70) ∧
 nv_70 ≤ cv_70 ∧ 0 ≤ v_58 ∧ v_58 ≤ (↑cv_70 : Int) ∧ 
 ∃ qv_72 : Option Addr, qv_72 = av_70 ∧
 ∃ J_1 : Int → LI, (J_1 0).1 h2 ∧
 ∀ (v_74 : Int), ∀ h3 : H, (J_1 v_74).1 h3 →
 (((v_74 < (↑((v_58 - 0).toNat) : Int)) →
 0 ≤ v_74 ∧ v_74 < (↑((v_58 - 0).toNat) : Int) ∧
 (onP qv_72 fun bv_76 ov_76 =>
 ∃ (v_77 : Int), cell h3 ⟨bv_76, (ov_76 + (v_74).toNat * 1), none⟩ = some (.int .i64 v_77) ∧
 (((v_62 = v_77) →
 R (.bool false) h3) ∧
 (¬ (v_62 = v_77) →
 InR .i64 (v_74 + 1) ∧
 (J_1 (v_74 + 1)).1 h3 ∧ (J_1 (v_74 + 1)).2 h3 < (J_1 v_74).2 h3)))) ∧
 (¬ (v_74 < (↑((v_58 - 0).toNat) : Int)) →
 InR .i64 (v_58 + 1) ∧
 (J (v_58 + 1)).1 h3 ∧ (J (v_58 + 1)).2 h3 < (J v_58).2 h1))))))) ∧
 (¬ (v_58 < (↑nv_56 : Int)) →
 (pf_0 : Option Addr) ≠ none ∧
 (onP pf_0 fun bv_85 ov_85 =>
 ∃ (av_86 : Option Addr) (nv_86 cv_86 : Nat), cell h1 ⟨bv_85, (ov_85 + 4), none⟩ = some (.slice av_86 nv_86 cv_86) ∧
 ∃ J_2 : Int → LI, (J_2 0).1 h1 ∧
 ∀ (v_88 : Int), ∀ h4 : H, (J_2 v_88).1 h4 →
 (((v_88 < (↑nv_86 : Int)) →
 0 ≤ v_88 ∧ v_88 < (↑nv_86 : Int) ∧
 (onP av_86 fun bv_90 ov_90 =>
 ∃ (av_91 : Option Addr) (nv_91 cv_91 : Nat), cell h4 ⟨bv_90, ((ov_90 + (v_88).toNat * 4) + 0), none⟩ = some (.slice av_91 nv_91 cv_91) ∧
 ∃ (v_91 : Int), cell h4 ⟨bv_90, ((ov_90 + (v_88).toNat * 4) + 1), none⟩ = some (.int .i64 v_91) ∧
 ∃ (v_91_1 : Int), cell h4 ⟨bv_90, ((ov_90 + (v_88).toNat * 4) + 2), none⟩ = some (.int .i64 v_91_1) ∧
 ∃ (av_91_1 : Option Addr) (nv_91_1 cv_91_1 : Nat), cell h4 ⟨bv_90, ((ov_90 + (v_88).toNat * 4) + 3), none⟩ = some (.slice av_91_1 nv_91_1 cv_91_1) ∧
 ∀ (bb_8 : Nat) (h5 : H), New h4 (.cells ⟨[(.slice none 0 0), (.int .i64 0), (.int .i64 0), (.slice none 0 0)]⟩ 50) bb_8 h5 →
 stQ 4 h5 bb_8 0 [(.slice av_91 nv_91 cv_91), (.int .i64 v_91), (.int .i64 v_91_1), (.slice av_91_1 nv_91_1 cv_91_1)] fun h6 =>
 ∃ (av_93 : Option Addr) (nv_93 cv_93 : Nat), cell h6 ⟨bb_8, (0 + 0), none⟩ = some (.slice av_93 nv_93 cv_93) ∧
 ∃ J_3 : Int → LI, (J_3 0).1 h6 ∧
 ∀ (v_95 : Int), ∀ h7 : H, (J_3 v_95).1 h7 →
 (((v_95 < (↑nv_93 : Int)) →
 0 ≤ v_95 ∧ v_95 < (↑nv_93 : Int) ∧
 (onP av_93 fun bv_97 ov_97 =>
 ∃ (v_98 : Int), cell h7 ⟨bv_97, ((ov_97 + (v_95).toNat * 4) + 0), none⟩ = some (.int .i64 v_98) ∧
 ∃ (v_98_1 : Int), cell h7 ⟨bv_97, ((ov_97 + (v_95).toNat * 4) + 1), none⟩ = some (.int .i64 v_98_1) ∧
 ∃ (v_98_2 : Int), cell h7 ⟨bv_97, ((ov_97 + (v_95).toNat * 4) + 2), none⟩ = some (.int .i64 v_98_2) ∧
 ∃ (av_98 : Option Addr) (nv_98 cv_98 : Nat), cell h7 ⟨bv_97, ((ov_97 + (v_95).toNat * 4) + 3), none⟩ = some (.slice av_98 nv_98 cv_98) ∧
 ∀ (bx_10 : Nat) (h8 : H), New h7 (.cells ⟨[(.int .i64 0), (.int .i64 0), (.int .i64 0), (.slice none 0 0)]⟩ 71) bx_10 h8 →
 stQ 4 h8 bx_10 0 [(.int .i64 v_98), (.int .i64 v_98_1), (.int .i64 v_98_2), (.slice av_98 nv_98 cv_98)] fun h9 =>
 ∃ (v_100 : Int), cell h9 ⟨bx_10, (0 + 0), none⟩ = some (.int .i64 v_100) ∧
 ∃ (v_100_1 : Int), cell h9 ⟨bx_10, (0 + 1), none⟩ = some (.int .i64 v_100_1) ∧
 ∃ (v_100_2 : Int), cell h9 ⟨bx_10, (0 + 2), none⟩ = some (.int .i64 v_100_2) ∧
 ∃ (av_100 : Option Addr) (nv_100 cv_100 : Nat), cell h9 ⟨bx_10, (0 + 3), none⟩ = some (.slice av_100 nv_100 cv_100) ∧
 HC Tryd.prog 56 [(.pointer pf_0), (.agg ⟨[(.int .i64 v_100), (.int .i64 v_100_1), (.int .i64 v_100_2), (.slice av_100 nv_100 cv_100)]⟩)] h9 fun rv_101 h10 =>
 ∃ (v_101 : Bool), rv_101 = (.bool v_101) ∧
 (((!v_101) = true →
 R (.bool false) h10) ∧
 ((!v_101) = false →
 InR .i64 (v_95 + 1) ∧
 (J_3 (v_95 + 1)).1 h10 ∧ (J_3 (v_95 + 1)).2 h10 < (J_3 v_95).2 h7)))) ∧
 (¬ (v_95 < (↑nv_93 : Int)) →
 ∃ (v_106 : Int), cell h7 ⟨bb_8, ((0 + 1) + 0), none⟩ = some (.int .i64 v_106) ∧
 ∃ (v_106_1 : Int), cell h7 ⟨bb_8, ((0 + 1) + 1), none⟩ = some (.int .i64 v_106_1) ∧
 ∃ (av_106 : Option Addr) (nv_106 cv_106 : Nat), cell h7 ⟨bb_8, ((0 + 1) + 2), none⟩ = some (.slice av_106 nv_106 cv_106) ∧
 HC Tryd.prog 57 [(.pointer pf_0), (.agg ⟨[(.int .i64 v_106), (.int .i64 v_106_1), (.slice av_106 nv_106 cv_106)]⟩)] h7 fun rv_107 h11 =>
 ∃ (v_107 : Bool), rv_107 = (.bool v_107) ∧
 (((!v_107) = true →
 R (.bool false) h11) ∧
 ((!v_107) = false →
 InR .i64 (v_88 + 1) ∧
 (J_2 (v_88 + 1)).1 h11 ∧ (J_2 (v_88 + 1)).2 h11 < (J_2 v_88).2 h4)))))) ∧
 (¬ (v_88 < (↑nv_86 : Int)) →
 R (.bool true) h4))))))))))))))))))))))))
theorem hc25 {pf_0 : Option Addr} {h : H} {R : Value → H → Prop} (x : sh25 pf_0 h R) : HC Tryd.prog 25 [(.pointer pf_0)] h R :=
  FL.sound mixed ck25 ⟨rfl, Eq.mp (by unfold sh25; kernel_rfl) x⟩
/- quern/quernref14.register -/
def fl40 : FL := ⟨13, (.seq (.reg [se 2 (.box 25 (t 0)), sv 4 (.mov (cb false))]) (.seq (.reg [sv 5 (.mov (t 1)), sv 6 (.cmp .geq (t 5) (ci 0)), sv 7 (.mov (t 6)), ⟨some 8, some (7, true), .v (.mov (t 1))⟩, ⟨some 9, some (7, true), .v (.fad 2 (t 2))⟩, ⟨some 10, some (7, true), .v (.ld (.int .i64) (t 9))⟩, ⟨some 11, some (7, true), .v (.cmp .lss (t 8) (t 10))⟩, sv 12 (.pick (t 7) (t 11) (cb false)), sv 4 (.mov (t 12))]) .ret)), [.tmp 4]⟩
theorem ck40 : chkFL Tryd.prog 40 fl40 = true := by kernel_rfl
def sh40 (f_0 : ByteArray) (af_0 : Option Addr) (nf_0 cf_0 : Nat) (f_0_1 : Int) (f_0_2 : Int) (af_0_1 : Option Addr) (nf_0_1 cf_0_1 : Nat) (r_1 : Int) (h : H) (R : Value → H → Prop) : Prop :=
 ∀ (bf_2 : Nat) (h1 : H), New h (.cells ⟨[(.string f_0), (.slice af_0 nf_0 cf_0), (.int .i64 f_0_1), (.int .i64 f_0_2), (.slice af_0_1 nf_0_1 cf_0_1)]⟩ 25) bf_2 h1 →
 (((0 ≤ r_1) →
 ∃ (v_10 : Int), cell h1 ⟨bf_2, (0 + 2), none⟩ = some (.int .i64 v_10) ∧
 R (.bool (decide (r_1 < v_10))) h1) ∧
 (¬ (0 ≤ r_1) →
 R (.bool false) h1))
theorem hc40 {f_0 : ByteArray} {af_0 : Option Addr} {nf_0 cf_0 : Nat} {f_0_1 : Int} {f_0_2 : Int} {af_0_1 : Option Addr} {nf_0_1 cf_0_1 : Nat} {r_1 : Int} {h : H} {R : Value → H → Prop} (x : sh40 f_0 af_0 nf_0 cf_0 f_0_1 f_0_2 af_0_1 nf_0_1 cf_0_1 r_1 h R) : HC Tryd.prog 40 [(.agg ⟨[(.string f_0), (.slice af_0 nf_0 cf_0), (.int .i64 f_0_1), (.int .i64 f_0_2), (.slice af_0_1 nf_0_1 cf_0_1)]⟩), (.int .i64 r_1)] h R :=
  FL.sound mixed ck40 ⟨rfl, Eq.mp (by unfold sh40; kernel_rfl) x⟩
/- quern/quernref14.formedIns -/
def fl41 : FL := ⟨106, (.seq (.reg [se 2 (.box 25 (t 0)), se 3 (.box 71 (t 1)), sv 4 (.mov (cb false))]) (.seq (.seq (.reg [sv 5 (.mov (ci 0))]) (.block 0 (.loop [(5, (.one (.int .i64)))] [4, 5, 9, 10, 11, 12, 13, 14, 15, 16, 17, 18, 19, 20, 21, 22, 23] (.seq (.seq (.reg [sv 9 (.mov (t 5)), sv 10 (.fad 3 (t 3)), sv 11 (.ld .slice (t 10)), sv 12 (.len (t 11)), sv 13 (.cmp .lss (t 9) (t 12))]) (.cond (t 13) .skip (.exit 0))) (.seq (.block 1 (.seq (.drw .eq [6] [16, 17, 18, 19, 20, 21, 22, 23] (.takeP 1 (sv 17 (.fad 3 (t 3))) (.takeP 3 (sv 19 (.mov (t 5))) (.takeR 0 (sv 16 (.lda [.str, .slice, (.int .i64), (.int .i64), .slice] (t 2))) (.alt 2 (sv 18 (.ld .slice (t 17))) (.takeP 4 (sv 20 (.idx 1 (t 18) (t 19))) (.takeR 5 (sv 21 (.ld (.int .i64) (t 20))) (.alt 6 (se 22 (.call 40 [(t 16), (t 21)] (.one .bool))) (.takeP 7 (sv 23 (.no (t 22))) .done) .stop))) .stop))))) (.cond (t 23) (.seq (.reg [sv 4 (.mov (cb false))]) .ret) .skip))) (.reg [sv 14 (.mov (t 5)), sv 15 (.ar .add true (t 14) (ci 1)), sv 5 (.mov (t 15))])))))) (.seq (.seq (.reg [sv 24 (.fad 0 (t 3)), sv 25 (.ld (.int .i64) (t 24)), sv 26 (.cmp .eql (t 25) (ci 25))]) (.cond (t 26) (.seq (.reg [sv 27 (.fad 2 (t 3)), sv 28 (.ld (.int .i64) (t 27)), sv 29 (.cmp .geq (t 28) (ci 0)), sv 30 (.mov (t 29)), ⟨some 31, some (30, true), .v (.fad 3 (t 3))⟩, ⟨some 32, some (30, true), .v (.ld .slice (t 31))⟩, ⟨some 33, some (30, true), .v (.len (t 32))⟩, ⟨some 34, some (30, true), .v (.cmp .leq (t 33) (ci 8))⟩, sv 35 (.pick (t 30) (t 34) (cb false)), sv 36 (.mov (t 35)), ⟨some 37, some (36, true), .v (.fad 1 (t 3))⟩, ⟨some 38, some (36, true), .v (.ld (.int .i64) (t 37))⟩, ⟨some 39, some (36, true), .v (.cmp .eql (t 38) (ci (-1)))⟩, ⟨some 40, some (36, true), .v (.mov (t 39))⟩, ⟨some 41, some (40, false), .v (.lda [.str, .slice, (.int .i64), (.int .i64), .slice] (t 2))⟩, ⟨some 42, some (40, false), .v (.fad 1 (t 3))⟩, ⟨some 43, some (40, false), .v (.ld (.int .i64) (t 42))⟩, ⟨some 44, some (40, false), .e (.call 40 [(t 41), (t 43)] (.one .bool))⟩, ⟨some 45, some (36, true), .v (.pick (t 40) (cb true) (t 44))⟩, sv 46 (.pick (t 36) (t 45) (cb false)), sv 4 (.mov (t 46))]) .ret) .skip)) (.seq (.reg [sv 48 (.fad 0 (t 3)), sv 49 (.ld (.int .i64) (t 48)), se 50 (.call 67 [(t 49)] (.tup [(.one (.int .i64)), (.one .bool), (.one .bool)])), sv 47 (.mov (t 50)), sv 51 (.ext (t 47) 0), sv 52 (.ext (t 47) 1), sv 53 (.ext (t 47) 2), sv 6 (.mov (t 51)), sv 7 (.mov (t 52)), sv 8 (.mov (t 53))]) (.seq (.seq (.reg [sv 54 (.mov (t 8)), sv 55 (.no (t 54)), sv 56 (.mov (t 55)), ⟨some 57, some (56, false), .v (.fad 3 (t 3))⟩, ⟨some 58, some (56, false), .v (.ld .slice (t 57))⟩, ⟨some 59, some (56, false), .v (.len (t 58))⟩, ⟨some 60, some (56, false), .v (.mov (t 6))⟩, ⟨some 61, some (56, false), .v (.cmp .neq (t 59) (t 60))⟩, sv 62 (.pick (t 56) (cb true) (t 61)), sv 63 (.mov (t 62)), ⟨some 64, some (63, false), .v (.mov (t 7))⟩, ⟨some 65, some (63, false), .v (.mov (t 64))⟩, ⟨some 66, some (65, true), .v (.lda [.str, .slice, (.int .i64), (.int .i64), .slice] (t 2))⟩, ⟨some 67, some (65, true), .v (.fad 1 (t 3))⟩, ⟨some 68, some (65, true), .v (.ld (.int .i64) (t 67))⟩, ⟨some 69, some (65, true), .e (.call 40 [(t 66), (t 68)] (.one .bool))⟩, ⟨some 70, some (65, true), .v (.no (t 69))⟩, ⟨some 71, some (63, false), .v (.pick (t 65) (t 70) (cb false))⟩, sv 72 (.pick (t 63) (cb true) (t 71)), sv 73 (.mov (t 72)), ⟨some 74, some (73, false), .v (.mov (t 7))⟩, ⟨some 75, some (73, false), .v (.no (t 74))⟩, ⟨some 76, some (73, false), .v (.mov (t 75))⟩, ⟨some 77, some (76, true), .v (.fad 1 (t 3))⟩, ⟨some 78, some (76, true), .v (.ld (.int .i64) (t 77))⟩, ⟨some 79, some (76, true), .v (.cmp .neq (t 78) (ci (-1)))⟩, ⟨some 80, some (73, false), .v (.pick (t 76) (t 79) (cb false))⟩, sv 81 (.pick (t 73) (cb true) (t 80))]) (.cond (t 81) (.seq (.reg [sv 4 (.mov (cb false))]) .ret) .skip)) (.seq (.seq (.reg [sv 82 (.fad 0 (t 3)), sv 83 (.ld (.int .i64) (t 82)), sv 84 (.cmp .geq (t 83) (ci 28)), sv 85 (.mov (t 84)), ⟨some 86, some (85, true), .v (.fad 0 (t 3))⟩, ⟨some 87, some (85, true), .v (.ld (.int .i64) (t 86))⟩, ⟨some 88, some (85, true), .v (.cmp .leq (t 87) (ci 30))⟩, sv 89 (.pick (t 85) (t 88) (cb false))]) (.cond (t 89) (.seq (.reg [sv 90 (.fad 2 (t 3)), sv 91 (.ld (.int .i64) (t 90)), sv 92 (.cmp .geq (t 91) (ci 1)), sv 93 (.mov (t 92)), ⟨some 94, some (93, true), .v (.fad 2 (t 3))⟩, ⟨some 95, some (93, true), .v (.ld (.int .i64) (t 94))⟩, ⟨some 96, some (93, true), .v (.cmp .leq (t 95) (ci 5))⟩, sv 97 (.pick (t 93) (t 96) (cb false)), sv 4 (.mov (t 97))]) .ret) .skip)) (.seq (.reg [sv 98 (.fad 0 (t 3)), sv 99 (.ld (.int .i64) (t 98)), sv 100 (.cmp .eql (t 99) (ci 1)), sv 101 (.mov (t 100)), ⟨some 102, some (101, false), .v (.fad 2 (t 3))⟩, ⟨some 103, some (101, false), .v (.ld (.int .i64) (t 102))⟩, ⟨some 104, some (101, false), .v (.cmp .eql (t 103) (ci 0))⟩, sv 105 (.pick (t 101) (cb true) (t 104)), sv 4 (.mov (t 105))]) .ret))))))), [.tmp 4]⟩
theorem ck41 : chkFL Tryd.prog 41 fl41 = true := by kernel_rfl
def sh41 (f_0 : ByteArray) (af_0 : Option Addr) (nf_0 cf_0 : Nat) (f_0_1 : Int) (f_0_2 : Int) (af_0_1 : Option Addr) (nf_0_1 cf_0_1 : Nat) (x_1 : Int) (x_1_1 : Int) (x_1_2 : Int) (ax_1 : Option Addr) (nx_1 cx_1 : Nat) (h : H) (R : Value → H → Prop) : Prop :=
 ∀ (bf_2 : Nat) (h1 : H), New h (.cells ⟨[(.string f_0), (.slice af_0 nf_0 cf_0), (.int .i64 f_0_1), (.int .i64 f_0_2), (.slice af_0_1 nf_0_1 cf_0_1)]⟩ 25) bf_2 h1 →
 ∀ (bx_3 : Nat) (h2 : H), New h1 (.cells ⟨[(.int .i64 x_1), (.int .i64 x_1_1), (.int .i64 x_1_2), (.slice ax_1 nx_1 cx_1)]⟩ 71) bx_3 h2 →
 ∃ J : Int → LI, (J 0).1 h2 ∧
 ∀ (i_5 : Int), ∀ h3 : H, (J i_5).1 h3 →
 ∃ (av_11 : Option Addr) (nv_11 cv_11 : Nat), cell h3 ⟨bx_3, (0 + 3), none⟩ = some (.slice av_11 nv_11 cv_11) ∧
 (((i_5 < (↑nv_11 : Int)) →
 ∃ (v_16 : ByteArray), cell h3 ⟨bf_2, (0 + 0), none⟩ = some (.string v_16) ∧
 ∃ (av_16 : Option Addr) (nv_16 cv_16 : Nat), cell h3 ⟨bf_2, (0 + 1), none⟩ = some (.slice av_16 nv_16 cv_16) ∧
 ∃ (v_16_1 : Int), cell h3 ⟨bf_2, (0 + 2), none⟩ = some (.int .i64 v_16_1) ∧
 ∃ (v_16_2 : Int), cell h3 ⟨bf_2, (0 + 3), none⟩ = some (.int .i64 v_16_2) ∧
 ∃ (av_16_1 : Option Addr) (nv_16_1 cv_16_1 : Nat), cell h3 ⟨bf_2, (0 + 4), none⟩ = some (.slice av_16_1 nv_16_1 cv_16_1) ∧
 ∃ (av_18 : Option Addr) (nv_18 cv_18 : Nat), cell h3 ⟨bx_3, (0 + 3), none⟩ = some (.slice av_18 nv_18 cv_18) ∧
 0 ≤ i_5 ∧ i_5 < (↑nv_18 : Int) ∧
 (onP av_18 fun bv_20 ov_20 =>
 ∃ (v_21 : Int), cell h3 ⟨bv_20, (ov_20 + (i_5).toNat * 1), none⟩ = some (.int .i64 v_21) ∧
 HC Tryd.prog 40 [(.agg ⟨[(.string v_16), (.slice av_16 nv_16 cv_16), (.int .i64 v_16_1), (.int .i64 v_16_2), (.slice av_16_1 nv_16_1 cv_16_1)]⟩), (.int .i64 v_21)] h3 fun rv_22 h4 =>
 ∃ (v_22 : Bool), rv_22 = (.bool v_22) ∧
 (((!v_22) = true →
 R (.bool false) h4) ∧
 ((!v_22) = false →
 InR .i64 (i_5 + 1) ∧
 (J (i_5 + 1)).1 h4 ∧ (J (i_5 + 1)).2 h4 < (J i_5).2 h3)))) ∧
 (¬ (i_5 < (↑nv_11 : Int)) →
 ∃ (v_25 : Int), cell h3 ⟨bx_3, (0 + 0), none⟩ = some (.int .i64 v_25) ∧
 (((v_25 = 25) →
 ∃ (v_28 : Int), cell h3 ⟨bx_3, (0 + 2), none⟩ = some (.int .i64 v_28) ∧
 (((0 ≤ v_28) →
 ∃ (av_32 : Option Addr) (nv_32 cv_32 : Nat), cell h3 ⟨bx_3, (0 + 3), none⟩ = some (.slice av_32 nv_32 cv_32) ∧
 ((((↑nv_32 : Int) ≤ 8) →
 ∃ (v_38 : Int), cell h3 ⟨bx_3, (0 + 1), none⟩ = some (.int .i64 v_38) ∧
 (((v_38 = (-1)) →
 R (.bool true) h3) ∧
 (¬ (v_38 = (-1)) →
 ∃ (v_41 : ByteArray), cell h3 ⟨bf_2, (0 + 0), none⟩ = some (.string v_41) ∧
 ∃ (av_41 : Option Addr) (nv_41 cv_41 : Nat), cell h3 ⟨bf_2, (0 + 1), none⟩ = some (.slice av_41 nv_41 cv_41) ∧
 ∃ (v_41_1 : Int), cell h3 ⟨bf_2, (0 + 2), none⟩ = some (.int .i64 v_41_1) ∧
 ∃ (v_41_2 : Int), cell h3 ⟨bf_2, (0 + 3), none⟩ = some (.int .i64 v_41_2) ∧
 ∃ (av_41_1 : Option Addr) (nv_41_1 cv_41_1 : Nat), cell h3 ⟨bf_2, (0 + 4), none⟩ = some (.slice av_41_1 nv_41_1 cv_41_1) ∧
 ∃ (v_43 : Int), cell h3 ⟨bx_3, (0 + 1), none⟩ = some (.int .i64 v_43) ∧
 HC Tryd.prog 40 [(.agg ⟨[(.string v_41), (.slice av_41 nv_41 cv_41), (.int .i64 v_41_1), (.int .i64 v_41_2), (.slice av_41_1 nv_41_1 cv_41_1)]⟩), (.int .i64 v_43)] h3 fun rv_44 h5 =>
 ∃ (v_44 : Bool), rv_44 = (.bool v_44) ∧
 R (.bool v_44) h5))) ∧
 (¬ ((↑nv_32 : Int) ≤ 8) →
 R (.bool false) h3))) ∧
 (¬ (0 ≤ v_28) →
 R (.bool false) h3))) ∧
 (¬ (v_25 = 25) →
 ∃ (v_49 : Int), cell h3 ⟨bx_3, (0 + 0), none⟩ = some (.int .i64 v_49) ∧
 HC Tryd.prog 67 [(.int .i64 v_49)] h3 fun rv_50 h6 =>
 ∃ (v_50 : Int), ∃ (v_50_1 : Bool), ∃ (v_50_2 : Bool), rv_50 = (.tuple ⟨[(.int .i64 v_50), (.bool v_50_1), (.bool v_50_2)]⟩) ∧
 (((!v_50_2) = true →
 R (.bool false) h6) ∧
 ((!v_50_2) = false →
 ∃ (av_58 : Option Addr) (nv_58 cv_58 : Nat), cell h6 ⟨bx_3, (0 + 3), none⟩ = some (.slice av_58 nv_58 cv_58) ∧
 (((¬ (↑nv_58 : Int) = v_50) →
 R (.bool false) h6) ∧
 (¬ (¬ (↑nv_58 : Int) = v_50) →
 ((v_50_1 = true →
 ∃ (v_66 : ByteArray), cell h6 ⟨bf_2, (0 + 0), none⟩ = some (.string v_66) ∧
 ∃ (av_66 : Option Addr) (nv_66 cv_66 : Nat), cell h6 ⟨bf_2, (0 + 1), none⟩ = some (.slice av_66 nv_66 cv_66) ∧
 ∃ (v_66_1 : Int), cell h6 ⟨bf_2, (0 + 2), none⟩ = some (.int .i64 v_66_1) ∧
 ∃ (v_66_2 : Int), cell h6 ⟨bf_2, (0 + 3), none⟩ = some (.int .i64 v_66_2) ∧
 ∃ (av_66_1 : Option Addr) (nv_66_1 cv_66_1 : Nat), cell h6 ⟨bf_2, (0 + 4), none⟩ = some (.slice av_66_1 nv_66_1 cv_66_1) ∧
 ∃ (v_68 : Int), cell h6 ⟨bx_3, (0 + 1), none⟩ = some (.int .i64 v_68) ∧
 HC Tryd.prog 40 [(.agg ⟨[(.string v_66), (.slice av_66 nv_66 cv_66), (.int .i64 v_66_1), (.int .i64 v_66_2), (.slice av_66_1 nv_66_1 cv_66_1)]⟩), (.int .i64 v_68)] h6 fun rv_69 h7 =>
 ∃ (v_69 : Bool), rv_69 = (.bool v_69) ∧
 (((!v_69) = true →
 R (.bool false) h7) ∧
 ((!v_69) = false →
 (((!v_50_1) = true →
 ∃ (v_78 : Int), cell h7 ⟨bx_3, (0 + 1), none⟩ = some (.int .i64 v_78) ∧
 (((¬ v_78 = (-1)) →
 R (.bool false) h7) ∧
 (¬ (¬ v_78 = (-1)) →
 ∃ (v_83 : Int), cell h7 ⟨bx_3, (0 + 0), none⟩ = some (.int .i64 v_83) ∧
 (((28 ≤ v_83) →
 ∃ (v_87 : Int), cell h7 ⟨bx_3, (0 + 0), none⟩ = some (.int .i64 v_87) ∧
 (((v_87 ≤ 30) →
 ∃ (v_91 : Int), cell h7 ⟨bx_3, (0 + 2), none⟩ = some (.int .i64 v_91) ∧
 (((1 ≤ v_91) →
 ∃ (v_95 : Int), cell h7 ⟨bx_3, (0 + 2), none⟩ = some (.int .i64 v_95) ∧
 R (.bool (decide (v_95 ≤ 5))) h7) ∧
 (¬ (1 ≤ v_91) →
 R (.bool false) h7))) ∧
 (¬ (v_87 ≤ 30) →
 ∃ (v_99 : Int), cell h7 ⟨bx_3, (0 + 0), none⟩ = some (.int .i64 v_99) ∧
 (((v_99 = 1) →
 R (.bool true) h7) ∧
 (¬ (v_99 = 1) →
 ∃ (v_103 : Int), cell h7 ⟨bx_3, (0 + 2), none⟩ = some (.int .i64 v_103) ∧
 R (.bool (decide (v_103 = 0))) h7))))) ∧
 (¬ (28 ≤ v_83) →
 ∃ (v_99_1 : Int), cell h7 ⟨bx_3, (0 + 0), none⟩ = some (.int .i64 v_99_1) ∧
 (((v_99_1 = 1) →
 R (.bool true) h7) ∧
 (¬ (v_99_1 = 1) →
 ∃ (v_103_1 : Int), cell h7 ⟨bx_3, (0 + 2), none⟩ = some (.int .i64 v_103_1) ∧
 R (.bool (decide (v_103_1 = 0))) h7))))))) ∧
 ((!v_50_1) = false →
 ∃ (v_83_1 : Int), cell h7 ⟨bx_3, (0 + 0), none⟩ = some (.int .i64 v_83_1) ∧
 (((28 ≤ v_83_1) →
 ∃ (v_87_1 : Int), cell h7 ⟨bx_3, (0 + 0), none⟩ = some (.int .i64 v_87_1) ∧
 (((v_87_1 ≤ 30) →
 ∃ (v_91_1 : Int), cell h7 ⟨bx_3, (0 + 2), none⟩ = some (.int .i64 v_91_1) ∧
 (((1 ≤ v_91_1) →
 ∃ (v_95_1 : Int), cell h7 ⟨bx_3, (0 + 2), none⟩ = some (.int .i64 v_95_1) ∧
 R (.bool (decide (v_95_1 ≤ 5))) h7) ∧
 (¬ (1 ≤ v_91_1) →
 R (.bool false) h7))) ∧
 (¬ (v_87_1 ≤ 30) →
 ∃ (v_99_2 : Int), cell h7 ⟨bx_3, (0 + 0), none⟩ = some (.int .i64 v_99_2) ∧
 (((v_99_2 = 1) →
 R (.bool true) h7) ∧
 (¬ (v_99_2 = 1) →
 ∃ (v_103_2 : Int), cell h7 ⟨bx_3, (0 + 2), none⟩ = some (.int .i64 v_103_2) ∧
 R (.bool (decide (v_103_2 = 0))) h7))))) ∧
 (¬ (28 ≤ v_83_1) →
 ∃ (v_99_3 : Int), cell h7 ⟨bx_3, (0 + 0), none⟩ = some (.int .i64 v_99_3) ∧
 (((v_99_3 = 1) →
 R (.bool true) h7) ∧
 (¬ (v_99_3 = 1) →
 ∃ (v_103_3 : Int), cell h7 ⟨bx_3, (0 + 2), none⟩ = some (.int .i64 v_103_3) ∧
 R (.bool (decide (v_103_3 = 0))) h7))))))))) ∧
 (v_50_1 = false →
 (((!v_50_1) = true →
 ∃ (v_78_1 : Int), cell h6 ⟨bx_3, (0 + 1), none⟩ = some (.int .i64 v_78_1) ∧
 (((¬ v_78_1 = (-1)) →
 R (.bool false) h6) ∧
 (¬ (¬ v_78_1 = (-1)) →
 ∃ (v_83_2 : Int), cell h6 ⟨bx_3, (0 + 0), none⟩ = some (.int .i64 v_83_2) ∧
 (((28 ≤ v_83_2) →
 ∃ (v_87_2 : Int), cell h6 ⟨bx_3, (0 + 0), none⟩ = some (.int .i64 v_87_2) ∧
 (((v_87_2 ≤ 30) →
 ∃ (v_91_2 : Int), cell h6 ⟨bx_3, (0 + 2), none⟩ = some (.int .i64 v_91_2) ∧
 (((1 ≤ v_91_2) →
 ∃ (v_95_2 : Int), cell h6 ⟨bx_3, (0 + 2), none⟩ = some (.int .i64 v_95_2) ∧
 R (.bool (decide (v_95_2 ≤ 5))) h6) ∧
 (¬ (1 ≤ v_91_2) →
 R (.bool false) h6))) ∧
 (¬ (v_87_2 ≤ 30) →
 ∃ (v_99_4 : Int), cell h6 ⟨bx_3, (0 + 0), none⟩ = some (.int .i64 v_99_4) ∧
 (((v_99_4 = 1) →
 R (.bool true) h6) ∧
 (¬ (v_99_4 = 1) →
 ∃ (v_103_4 : Int), cell h6 ⟨bx_3, (0 + 2), none⟩ = some (.int .i64 v_103_4) ∧
 R (.bool (decide (v_103_4 = 0))) h6))))) ∧
 (¬ (28 ≤ v_83_2) →
 ∃ (v_99_5 : Int), cell h6 ⟨bx_3, (0 + 0), none⟩ = some (.int .i64 v_99_5) ∧
 (((v_99_5 = 1) →
 R (.bool true) h6) ∧
 (¬ (v_99_5 = 1) →
 ∃ (v_103_5 : Int), cell h6 ⟨bx_3, (0 + 2), none⟩ = some (.int .i64 v_103_5) ∧
 R (.bool (decide (v_103_5 = 0))) h6))))))) ∧
 ((!v_50_1) = false →
 ∃ (v_83_3 : Int), cell h6 ⟨bx_3, (0 + 0), none⟩ = some (.int .i64 v_83_3) ∧
 (((28 ≤ v_83_3) →
 ∃ (v_87_3 : Int), cell h6 ⟨bx_3, (0 + 0), none⟩ = some (.int .i64 v_87_3) ∧
 (((v_87_3 ≤ 30) →
 ∃ (v_91_3 : Int), cell h6 ⟨bx_3, (0 + 2), none⟩ = some (.int .i64 v_91_3) ∧
 (((1 ≤ v_91_3) →
 ∃ (v_95_3 : Int), cell h6 ⟨bx_3, (0 + 2), none⟩ = some (.int .i64 v_95_3) ∧
 R (.bool (decide (v_95_3 ≤ 5))) h6) ∧
 (¬ (1 ≤ v_91_3) →
 R (.bool false) h6))) ∧
 (¬ (v_87_3 ≤ 30) →
 ∃ (v_99_6 : Int), cell h6 ⟨bx_3, (0 + 0), none⟩ = some (.int .i64 v_99_6) ∧
 (((v_99_6 = 1) →
 R (.bool true) h6) ∧
 (¬ (v_99_6 = 1) →
 ∃ (v_103_6 : Int), cell h6 ⟨bx_3, (0 + 2), none⟩ = some (.int .i64 v_103_6) ∧
 R (.bool (decide (v_103_6 = 0))) h6))))) ∧
 (¬ (28 ≤ v_83_3) →
 ∃ (v_99_7 : Int), cell h6 ⟨bx_3, (0 + 0), none⟩ = some (.int .i64 v_99_7) ∧
 (((v_99_7 = 1) →
 R (.bool true) h6) ∧
 (¬ (v_99_7 = 1) →
 ∃ (v_103_7 : Int), cell h6 ⟨bx_3, (0 + 2), none⟩ = some (.int .i64 v_103_7) ∧
 R (.bool (decide (v_103_7 = 0))) h6))))))))))))))))
theorem hc41 {f_0 : ByteArray} {af_0 : Option Addr} {nf_0 cf_0 : Nat} {f_0_1 : Int} {f_0_2 : Int} {af_0_1 : Option Addr} {nf_0_1 cf_0_1 : Nat} {x_1 : Int} {x_1_1 : Int} {x_1_2 : Int} {ax_1 : Option Addr} {nx_1 cx_1 : Nat} {h : H} {R : Value → H → Prop} (x : sh41 f_0 af_0 nf_0 cf_0 f_0_1 f_0_2 af_0_1 nf_0_1 cf_0_1 x_1 x_1_1 x_1_2 ax_1 nx_1 cx_1 h R) : HC Tryd.prog 41 [(.agg ⟨[(.string f_0), (.slice af_0 nf_0 cf_0), (.int .i64 f_0_1), (.int .i64 f_0_2), (.slice af_0_1 nf_0_1 cf_0_1)]⟩), (.agg ⟨[(.int .i64 x_1), (.int .i64 x_1_1), (.int .i64 x_1_2), (.slice ax_1 nx_1 cx_1)]⟩)] h R :=
  FL.sound mixed ck41 ⟨rfl, Eq.mp (by unfold sh41; kernel_rfl) x⟩
/- quern/quernref14.formedTerm -/
def fl42 : FL := ⟨71, (.seq (.reg [se 2 (.box 25 (t 0)), se 3 (.box 48 (t 1)), sv 4 (.mov (cb false))]) (.seq (.reg [se 7 (.bsl 3 1 [.int .i64 0] 5 [(0, 1, (ci 0)), (1, 1, (ci 1)), (2, 1, (ci 2)), (3, 1, (ci 0)), (4, 1, (ci 0))]), sv 5 (.mov (t 7))]) (.seq (.seq (.drw .eq [] [8, 9, 10, 11, 12, 13, 14, 15, 16, 17, 18, 19, 20, 21, 22, 23, 24, 25, 26] (.takeP 0 (sv 8 (.fad 0 (t 3))) (.takeR 1 (sv 9 (.ld (.int .i64) (t 8))) (.takeP 2 (sv 10 (.cmp .lss (t 9) (ci 1))) (.takeP 3 (sv 11 (.mov (t 10))) (.takeP 4 (⟨some 12, some (11, false), .v (.fad 0 (t 3))⟩) (.takeR 5 (⟨some 13, some (11, false), .v (.ld (.int .i64) (t 12))⟩) (.takeP 6 (⟨some 14, some (11, false), .v (.cmp .gtr (t 13) (ci 4))⟩) (.takeP 7 (sv 15 (.pick (t 11) (cb true) (t 14))) (.takeP 8 (sv 16 (.mov (t 15))) (.takeP 9 (⟨some 17, some (16, false), .v (.fad 2 (t 3))⟩) (.takeP 12 (⟨some 20, some (16, false), .v (.mov (t 5))⟩) (.takeP 13 (⟨some 21, some (16, false), .v (.fad 0 (t 3))⟩) (.takeR 10 (⟨some 18, some (16, false), .v (.ld .slice (t 17))⟩) (.takeP 11 (⟨some 19, some (16, false), .v (.len (t 18))⟩) (.takeR 14 (⟨some 22, some (16, false), .v (.ld (.int .i64) (t 21))⟩) (.takeP 15 (⟨some 23, some (16, false), .v (.idx 1 (t 20) (t 22))⟩) (.takeR 16 (⟨some 24, some (16, false), .v (.ld (.int .i64) (t 23))⟩) (.takeP 17 (⟨some 25, some (16, false), .v (.cmp .neq (t 19) (t 24))⟩) (.takeP 18 (sv 26 (.pick (t 16) (cb true) (t 25))) .done)))))))))))))))))))) (.cond (t 26) (.seq (.reg [sv 4 (.mov (cb false))]) .ret) .skip)) (.seq (.seq (.reg [sv 6 (.mov (ci 0))]) (.block 0 (.loop [(6, (.one (.int .i64)))] [4, 6, 27, 28, 29, 30, 31, 32, 33, 34, 35, 36, 37, 38, 39, 40, 41, 42, 43, 44, 45, 46, 47, 48, 49, 50] (.seq (.seq (.reg [sv 27 (.mov (t 6)), sv 28 (.fad 2 (t 3)), sv 29 (.ld .slice (t 28)), sv 30 (.len (t 29)), sv 31 (.cmp .lss (t 27) (t 30))]) (.cond (t 31) .skip (.exit 0))) (.seq (.block 1 (.seq (.drw .eq [] [34, 35, 36, 37, 38, 39, 40, 41, 42, 43, 44, 45, 46, 47, 48, 49, 50] (.takeP 0 (sv 34 (.fad 2 (t 3))) (.takeP 2 (sv 36 (.mov (t 6))) (.takeR 1 (sv 35 (.ld .slice (t 34))) (.takeP 3 (sv 37 (.idx 1 (t 35) (t 36))) (.takeR 4 (sv 38 (.ld (.int .i64) (t 37))) (.takeP 5 (sv 39 (.cmp .lss (t 38) (ci 0))) (.takeP 6 (sv 40 (.mov (t 39))) (.takeP 7 (⟨some 41, some (40, false), .v (.fad 2 (t 3))⟩) (.takeP 9 (⟨some 43, some (40, false), .v (.mov (t 6))⟩) (.takeP 12 (⟨some 46, some (40, false), .v (.fad 4 (t 2))⟩) (.takeR 8 (⟨some 42, some (40, false), .v (.ld .slice (t 41))⟩) (.takeP 10 (⟨some 44, some (40, false), .v (.idx 1 (t 42) (t 43))⟩) (.takeR 11 (⟨some 45, some (40, false), .v (.ld (.int .i64) (t 44))⟩) (.takeR 13 (⟨some 47, some (40, false), .v (.ld .slice (t 46))⟩) (.takeP 14 (⟨some 48, some (40, false), .v (.len (t 47))⟩) (.takeP 15 (⟨some 49, some (40, false), .v (.cmp .geq (t 45) (t 48))⟩) (.takeP 16 (sv 50 (.pick (t 40) (cb true) (t 49))) .done)))))))))))))))))) (.cond (t 50) (.seq (.reg [sv 4 (.mov (cb false))]) .ret) .skip))) (.reg [sv 32 (.mov (t 6)), sv 33 (.ar .add true (t 32) (ci 1)), sv 6 (.mov (t 33))])))))) (.seq (.seq (.reg [sv 51 (.fad 0 (t 3)), sv 52 (.ld (.int .i64) (t 51)), sv 53 (.cmp .eql (t 52) (ci 1)), sv 54 (.mov (t 53)), ⟨some 55, some (54, false), .v (.fad 0 (t 3))⟩, ⟨some 56, some (54, false), .v (.ld (.int .i64) (t 55))⟩, ⟨some 57, some (54, false), .v (.cmp .eql (t 56) (ci 3))⟩, ⟨some 58, some (54, false), .v (.mov (t 57))⟩, ⟨some 59, some (58, true), .v (.fad 3 (t 2))⟩, ⟨some 60, some (58, true), .v (.ld (.int .i64) (t 59))⟩, ⟨some 61, some (58, true), .v (.cmp .eql (t 60) (ci 0))⟩, ⟨some 62, some (54, false), .v (.pick (t 58) (t 61) (cb false))⟩, sv 63 (.pick (t 54) (cb true) (t 62))]) (.cond (t 63) (.seq (.reg [sv 64 (.fad 1 (t 3)), sv 65 (.ld (.int .i64) (t 64)), sv 66 (.cmp .eql (t 65) (ci (-1))), sv 4 (.mov (t 66))]) .ret) .skip)) (.seq (.reg [sv 67 (.lda [.str, .slice, (.int .i64), (.int .i64), .slice] (t 2)), sv 68 (.fad 1 (t 3)), sv 69 (.ld (.int .i64) (t 68)), se 70 (.call 40 [(t 67), (t 69)] (.one .bool)), sv 4 (.mov (t 70))]) .ret)))))), [.tmp 4]⟩
theorem ck42 : chkFL Tryd.prog 42 fl42 = true := by kernel_rfl
def sh42 (f_0 : ByteArray) (af_0 : Option Addr) (nf_0 cf_0 : Nat) (f_0_1 : Int) (f_0_2 : Int) (af_0_1 : Option Addr) (nf_0_1 cf_0_1 : Nat) (t_1 : Int) (t_1_1 : Int) (at_1 : Option Addr) (nt_1 ct_1 : Nat) (h : H) (R : Value → H → Prop) : Prop :=
 ∀ (bf_2 : Nat) (h1 : H), New h (.cells ⟨[(.string f_0), (.slice af_0 nf_0 cf_0), (.int .i64 f_0_1), (.int .i64 f_0_2), (.slice af_0_1 nf_0_1 cf_0_1)]⟩ 25) bf_2 h1 →
 ∀ (bt_3 : Nat) (h2 : H), New h1 (.cells ⟨[(.int .i64 t_1), (.int .i64 t_1_1), (.slice at_1 nt_1 ct_1)]⟩ 48) bt_3 h2 →
 1 = 1 ∧ 0 + 1 ≤ 5 ∧
 1 = 1 ∧ 1 + 1 ≤ 5 ∧
 1 = 1 ∧ 2 + 1 ≤ 5 ∧
 1 = 1 ∧ 3 + 1 ≤ 5 ∧
 1 = 1 ∧ 4 + 1 ≤ 5 ∧
 ∀ (bv_7 : Nat) (h3 : H), New h2 (.cells ⟨[(.int .i64 0), (.int .i64 1), (.int .i64 2), (.int .i64 0), (.int .i64 0)]⟩ 3) bv_7 h3 →
 ∃ (v_9 : Int), cell h3 ⟨bt_3, (0 + 0), none⟩ = some (.int .i64 v_9) ∧
 (((v_9 < 1) →
 R (.bool false) h3) ∧
 (¬ (v_9 < 1) →
 ∃ (v_13 : Int), cell h3 ⟨bt_3, (0 + 0), none⟩ = some (.int .i64 v_13) ∧
 (((4 < v_13) →
 R (.bool false) h3) ∧
 (¬ (4 < v_13) →
 ∃ (av_18 : Option Addr) (nv_18 cv_18 : Nat), cell h3 ⟨bt_3, (0 + 2), none⟩ = some (.slice av_18 nv_18 cv_18) ∧
 ∃ (v_22 : Int), cell h3 ⟨bt_3, (0 + 0), none⟩ = some (.int .i64 v_22) ∧
 0 ≤ v_22 ∧ v_22 < (5 : Int) ∧
 ∃ (v_24 : Int), cell h3 ⟨bv_7, (0 + (v_22).toNat * 1), none⟩ = some (.int .i64 v_24) ∧
 (((¬ (↑nv_18 : Int) = v_24) →
 R (.bool false) h3) ∧
 (¬ (¬ (↑nv_18 : Int) = v_24) →
 ∃ J : Int → LI, (J 0).1 h3 ∧
 ∀ (i_6 : Int), ∀ h4 : H, (J i_6).1 h4 →
 ∃ (av_29 : Option Addr) (nv_29 cv_29 : Nat), cell h4 ⟨bt_3, (0 + 2), none⟩ = some (.slice av_29 nv_29 cv_29) ∧
 (((i_6 < (↑nv_29 : Int)) →
 ∃ (av_35 : Option Addr) (nv_35 cv_35 : Nat), cell h4 ⟨bt_3, (0 + 2), none⟩ = some (.slice av_35 nv_35 cv_35) ∧
 0 ≤ i_6 ∧ i_6 < (↑nv_35 : Int) ∧
 (onP av_35 fun bv_37 ov_37 =>
 ∃ (v_38 : Int), cell h4 ⟨bv_37, (ov_37 + (i_6).toNat * 1), none⟩ = some (.int .i64 v_38) ∧
 (((v_38 < 0) →
 R (.bool false) h4) ∧
 (¬ (v_38 < 0) →
 ∃ (av_42 : Option Addr) (nv_42 cv_42 : Nat), cell h4 ⟨bt_3, (0 + 2), none⟩ = some (.slice av_42 nv_42 cv_42) ∧
 0 ≤ i_6 ∧ i_6 < (↑nv_42 : Int) ∧
 (onP av_42 fun bv_44 ov_44 =>
 ∃ (v_45 : Int), cell h4 ⟨bv_44, (ov_44 + (i_6).toNat * 1), none⟩ = some (.int .i64 v_45) ∧
 ∃ (av_47 : Option Addr) (nv_47 cv_47 : Nat), cell h4 ⟨bf_2, (0 + 4), none⟩ = some (.slice av_47 nv_47 cv_47) ∧
 ((((↑nv_47 : Int) ≤ v_45) →
 R (.bool false) h4) ∧
 (¬ ((↑nv_47 : Int) ≤ v_45) →
 InR .i64 (i_6 + 1) ∧
 (J (i_6 + 1)).1 h4 ∧ (J (i_6 + 1)).2 h4 < (J i_6).2 h4))))))) ∧
 (¬ (i_6 < (↑nv_29 : Int)) →
 ∃ (v_52 : Int), cell h4 ⟨bt_3, (0 + 0), none⟩ = some (.int .i64 v_52) ∧
 (((v_52 = 1) →
 ∃ (v_65 : Int), cell h4 ⟨bt_3, (0 + 1), none⟩ = some (.int .i64 v_65) ∧
 R (.bool (decide (v_65 = (-1)))) h4) ∧
 (¬ (v_52 = 1) →
 ∃ (v_56 : Int), cell h4 ⟨bt_3, (0 + 0), none⟩ = some (.int .i64 v_56) ∧
 (((v_56 = 3) →
 ∃ (v_60 : Int), cell h4 ⟨bf_2, (0 + 3), none⟩ = some (.int .i64 v_60) ∧
 (((v_60 = 0) →
 ∃ (v_65_1 : Int), cell h4 ⟨bt_3, (0 + 1), none⟩ = some (.int .i64 v_65_1) ∧
 R (.bool (decide (v_65_1 = (-1)))) h4) ∧
 (¬ (v_60 = 0) →
 ∃ (v_67 : ByteArray), cell h4 ⟨bf_2, (0 + 0), none⟩ = some (.string v_67) ∧
 ∃ (av_67 : Option Addr) (nv_67 cv_67 : Nat), cell h4 ⟨bf_2, (0 + 1), none⟩ = some (.slice av_67 nv_67 cv_67) ∧
 ∃ (v_67_1 : Int), cell h4 ⟨bf_2, (0 + 2), none⟩ = some (.int .i64 v_67_1) ∧
 ∃ (v_67_2 : Int), cell h4 ⟨bf_2, (0 + 3), none⟩ = some (.int .i64 v_67_2) ∧
 ∃ (av_67_1 : Option Addr) (nv_67_1 cv_67_1 : Nat), cell h4 ⟨bf_2, (0 + 4), none⟩ = some (.slice av_67_1 nv_67_1 cv_67_1) ∧
 ∃ (v_69 : Int), cell h4 ⟨bt_3, (0 + 1), none⟩ = some (.int .i64 v_69) ∧
 HC Tryd.prog 40 [(.agg ⟨[(.string v_67), (.slice av_67 nv_67 cv_67), (.int .i64 v_67_1), (.int .i64 v_67_2), (.slice av_67_1 nv_67_1 cv_67_1)]⟩), (.int .i64 v_69)] h4 fun rv_70 h5 =>
 ∃ (v_70 : Bool), rv_70 = (.bool v_70) ∧
 R (.bool v_70) h5))) ∧
 (¬ (v_56 = 3) →
 ∃ (v_67_3 : ByteArray), cell h4 ⟨bf_2, (0 + 0), none⟩ = some (.string v_67_3) ∧
 ∃ (av_67_2 : Option Addr) (nv_67_2 cv_67_2 : Nat), cell h4 ⟨bf_2, (0 + 1), none⟩ = some (.slice av_67_2 nv_67_2 cv_67_2) ∧
 ∃ (v_67_4 : Int), cell h4 ⟨bf_2, (0 + 2), none⟩ = some (.int .i64 v_67_4) ∧
 ∃ (v_67_5 : Int), cell h4 ⟨bf_2, (0 + 3), none⟩ = some (.int .i64 v_67_5) ∧
 ∃ (av_67_3 : Option Addr) (nv_67_3 cv_67_3 : Nat), cell h4 ⟨bf_2, (0 + 4), none⟩ = some (.slice av_67_3 nv_67_3 cv_67_3) ∧
 ∃ (v_69_1 : Int), cell h4 ⟨bt_3, (0 + 1), none⟩ = some (.int .i64 v_69_1) ∧
 HC Tryd.prog 40 [(.agg ⟨[(.string v_67_3), (.slice av_67_2 nv_67_2 cv_67_2), (.int .i64 v_67_4), (.int .i64 v_67_5), (.slice av_67_3 nv_67_3 cv_67_3)]⟩), (.int .i64 v_69_1)] h4 fun rv_70_1 h6 =>
 ∃ (v_70_1 : Bool), rv_70_1 = (.bool v_70_1) ∧
 R (.bool v_70_1) h6))))))))))))
theorem hc42 {f_0 : ByteArray} {af_0 : Option Addr} {nf_0 cf_0 : Nat} {f_0_1 : Int} {f_0_2 : Int} {af_0_1 : Option Addr} {nf_0_1 cf_0_1 : Nat} {t_1 : Int} {t_1_1 : Int} {at_1 : Option Addr} {nt_1 ct_1 : Nat} {h : H} {R : Value → H → Prop} (x : sh42 f_0 af_0 nf_0 cf_0 f_0_1 f_0_2 af_0_1 nf_0_1 cf_0_1 t_1 t_1_1 at_1 nt_1 ct_1 h R) : HC Tryd.prog 42 [(.agg ⟨[(.string f_0), (.slice af_0 nf_0 cf_0), (.int .i64 f_0_1), (.int .i64 f_0_2), (.slice af_0_1 nf_0_1 cf_0_1)]⟩), (.agg ⟨[(.int .i64 t_1), (.int .i64 t_1_1), (.slice at_1 nt_1 ct_1)]⟩)] h R :=
  FL.sound mixed ck42 ⟨rfl, Eq.mp (by unfold sh42; kernel_rfl) x⟩
/- quern/quernref14.Row -/
def fl67 : FL := ⟨43, (.seq (.reg [sv 2 (.mov (ci 0)), sv 3 (.mov (cb false)), sv 4 (.mov (cb false))]) (.seq (.block 0 (.seq (.seq (.reg [sv 6 (.mov (t 0)), sv 7 (.cmp .eql (t 6) (ci 1)), sv 5 (.mov (t 7))]) (.cond (t 5) .skip (.reg [sv 8 (.mov (t 0)), sv 9 (.cmp .eql (t 8) (ci 24)), sv 5 (.mov (t 9))]))) (.cond (t 5) (.seq (.reg [sv 2 (.mov (ci 0)), sv 3 (.mov (cb true)), sv 4 (.mov (cb true))]) .ret) (.seq (.seq (.reg [sv 11 (.mov (t 0)), sv 12 (.cmp .geq (t 11) (ci 2)), sv 13 (.mov (t 12)), ⟨some 14, some (13, true), .v (.mov (t 0))⟩, ⟨some 15, some (13, true), .v (.cmp .leq (t 14) (ci 16))⟩, sv 16 (.pick (t 13) (t 15) (cb false)), sv 10 (.mov (t 16))]) (.cond (t 10) .skip (.reg [sv 17 (.mov (t 0)), sv 18 (.cmp .eql (t 17) (ci 21)), sv 10 (.mov (t 18))]))) (.cond (t 10) (.seq (.reg [sv 2 (.mov (ci 2)), sv 3 (.mov (cb true)), sv 4 (.mov (cb true))]) .ret) (.seq (.seq (.reg [sv 20 (.mov (t 0)), sv 21 (.cmp .geq (t 20) (ci 17)), sv 22 (.mov (t 21)), ⟨some 23, some (22, true), .v (.mov (t 0))⟩, ⟨some 24, some (22, true), .v (.cmp .leq (t 23) (ci 20))⟩, sv 25 (.pick (t 22) (t 24) (cb false)), sv 19 (.mov (t 25))]) (.cond (t 19) .skip (.seq (.reg [sv 26 (.mov (t 0)), sv 27 (.cmp .eql (t 26) (ci 23)), sv 19 (.mov (t 27))]) (.cond (t 19) .skip (.reg [sv 28 (.mov (t 0)), sv 29 (.cmp .eql (t 28) (ci 31)), sv 19 (.mov (t 29))]))))) (.cond (t 19) (.seq (.reg [sv 2 (.mov (ci 1)), sv 3 (.mov (cb true)), sv 4 (.mov (cb true))]) .ret) (.seq (.reg [sv 31 (.mov (t 0)), sv 32 (.cmp .eql (t 31) (ci 22)), sv 30 (.mov (t 32))]) (.cond (t 30) (.seq (.reg [sv 2 (.mov (ci 3)), sv 3 (.mov (cb false)), sv 4 (.mov (cb true))]) .ret) (.seq (.reg [sv 34 (.mov (t 0)), sv 35 (.cmp .geq (t 34) (ci 26)), sv 36 (.mov (t 35)), ⟨some 37, some (36, true), .v (.mov (t 0))⟩, ⟨some 38, some (36, true), .v (.cmp .leq (t 37) (ci 29))⟩, sv 39 (.pick (t 36) (t 38) (cb false)), sv 33 (.mov (t 39))]) (.cond (t 33) (.seq (.reg [sv 2 (.mov (ci 1)), sv 3 (.mov (cb false)), sv 4 (.mov (cb true))]) .ret) (.seq (.reg [sv 41 (.mov (t 0)), sv 42 (.cmp .eql (t 41) (ci 30)), sv 40 (.mov (t 42))]) (.cond (t 40) (.seq (.reg [sv 2 (.mov (ci 2)), sv 3 (.mov (cb false)), sv 4 (.mov (cb true))]) .ret) .skip))))))))))))) (.seq (.reg [sv 2 (.mov (ci 0)), sv 3 (.mov (cb false)), sv 4 (.mov (cb false))]) .ret))), [.tmp 2, .tmp 3, .tmp 4]⟩
theorem ck67 : chkFL Tryd.prog 67 fl67 = true := by kernel_rfl
def sh67 (op_0 : Int) (h : H) (R : Value → H → Prop) : Prop :=
 (((op_0 = 1) →
 R (.tuple ⟨[(.int .i64 0), (.bool true), (.bool true)]⟩) h) ∧
 (¬ (op_0 = 1) →
 (((op_0 = 24) →
 R (.tuple ⟨[(.int .i64 0), (.bool true), (.bool true)]⟩) h) ∧
 (¬ (op_0 = 24) →
 (((2 ≤ op_0) →
 (((op_0 ≤ 16) →
 R (.tuple ⟨[(.int .i64 2), (.bool true), (.bool true)]⟩) h) ∧
 (¬ (op_0 ≤ 16) →
 (((op_0 = 21) →
 R (.tuple ⟨[(.int .i64 2), (.bool true), (.bool true)]⟩) h) ∧
 (¬ (op_0 = 21) →
 (((17 ≤ op_0) →
 (((op_0 ≤ 20) →
 R (.tuple ⟨[(.int .i64 1), (.bool true), (.bool true)]⟩) h) ∧
 (¬ (op_0 ≤ 20) →
 (((op_0 = 23) →
 R (.tuple ⟨[(.int .i64 1), (.bool true), (.bool true)]⟩) h) ∧
 (¬ (op_0 = 23) →
 (((op_0 = 31) →
 R (.tuple ⟨[(.int .i64 1), (.bool true), (.bool true)]⟩) h) ∧
 (¬ (op_0 = 31) →
 (((op_0 = 22) →
 R (.tuple ⟨[(.int .i64 3), (.bool false), (.bool true)]⟩) h) ∧
 (¬ (op_0 = 22) →
 (((26 ≤ op_0) →
 (((op_0 ≤ 29) →
 R (.tuple ⟨[(.int .i64 1), (.bool false), (.bool true)]⟩) h) ∧
 (¬ (op_0 ≤ 29) →
 (((op_0 = 30) →
 R (.tuple ⟨[(.int .i64 2), (.bool false), (.bool true)]⟩) h) ∧
 (¬ (op_0 = 30) →
 R (.tuple ⟨[(.int .i64 0), (.bool false), (.bool false)]⟩) h))))) ∧
 (¬ (26 ≤ op_0) →
 (((op_0 = 30) →
 R (.tuple ⟨[(.int .i64 2), (.bool false), (.bool true)]⟩) h) ∧
 (¬ (op_0 = 30) →
 R (.tuple ⟨[(.int .i64 0), (.bool false), (.bool false)]⟩) h))))))))))))) ∧
 (¬ (17 ≤ op_0) →
 (((op_0 = 23) →
 R (.tuple ⟨[(.int .i64 1), (.bool true), (.bool true)]⟩) h) ∧
 (¬ (op_0 = 23) →
 (((op_0 = 31) →
 R (.tuple ⟨[(.int .i64 1), (.bool true), (.bool true)]⟩) h) ∧
 (¬ (op_0 = 31) →
 (((op_0 = 22) →
 R (.tuple ⟨[(.int .i64 3), (.bool false), (.bool true)]⟩) h) ∧
 (¬ (op_0 = 22) →
 (((26 ≤ op_0) →
 (((op_0 ≤ 29) →
 R (.tuple ⟨[(.int .i64 1), (.bool false), (.bool true)]⟩) h) ∧
 (¬ (op_0 ≤ 29) →
 (((op_0 = 30) →
 R (.tuple ⟨[(.int .i64 2), (.bool false), (.bool true)]⟩) h) ∧
 (¬ (op_0 = 30) →
 R (.tuple ⟨[(.int .i64 0), (.bool false), (.bool false)]⟩) h))))) ∧
 (¬ (26 ≤ op_0) →
 (((op_0 = 30) →
 R (.tuple ⟨[(.int .i64 2), (.bool false), (.bool true)]⟩) h) ∧
 (¬ (op_0 = 30) →
 R (.tuple ⟨[(.int .i64 0), (.bool false), (.bool false)]⟩) h))))))))))))))))) ∧
 (¬ (2 ≤ op_0) →
 (((op_0 = 21) →
 R (.tuple ⟨[(.int .i64 2), (.bool true), (.bool true)]⟩) h) ∧
 (¬ (op_0 = 21) →
 (((17 ≤ op_0) →
 (((op_0 ≤ 20) →
 R (.tuple ⟨[(.int .i64 1), (.bool true), (.bool true)]⟩) h) ∧
 (¬ (op_0 ≤ 20) →
 (((op_0 = 23) →
 R (.tuple ⟨[(.int .i64 1), (.bool true), (.bool true)]⟩) h) ∧
 (¬ (op_0 = 23) →
 (((op_0 = 31) →
 R (.tuple ⟨[(.int .i64 1), (.bool true), (.bool true)]⟩) h) ∧
 (¬ (op_0 = 31) →
 (((op_0 = 22) →
 R (.tuple ⟨[(.int .i64 3), (.bool false), (.bool true)]⟩) h) ∧
 (¬ (op_0 = 22) →
 (((26 ≤ op_0) →
 (((op_0 ≤ 29) →
 R (.tuple ⟨[(.int .i64 1), (.bool false), (.bool true)]⟩) h) ∧
 (¬ (op_0 ≤ 29) →
 (((op_0 = 30) →
 R (.tuple ⟨[(.int .i64 2), (.bool false), (.bool true)]⟩) h) ∧
 (¬ (op_0 = 30) →
 R (.tuple ⟨[(.int .i64 0), (.bool false), (.bool false)]⟩) h))))) ∧
 (¬ (26 ≤ op_0) →
 (((op_0 = 30) →
 R (.tuple ⟨[(.int .i64 2), (.bool false), (.bool true)]⟩) h) ∧
 (¬ (op_0 = 30) →
 R (.tuple ⟨[(.int .i64 0), (.bool false), (.bool false)]⟩) h))))))))))))) ∧
 (¬ (17 ≤ op_0) →
 (((op_0 = 23) →
 R (.tuple ⟨[(.int .i64 1), (.bool true), (.bool true)]⟩) h) ∧
 (¬ (op_0 = 23) →
 (((op_0 = 31) →
 R (.tuple ⟨[(.int .i64 1), (.bool true), (.bool true)]⟩) h) ∧
 (¬ (op_0 = 31) →
 (((op_0 = 22) →
 R (.tuple ⟨[(.int .i64 3), (.bool false), (.bool true)]⟩) h) ∧
 (¬ (op_0 = 22) →
 (((26 ≤ op_0) →
 (((op_0 ≤ 29) →
 R (.tuple ⟨[(.int .i64 1), (.bool false), (.bool true)]⟩) h) ∧
 (¬ (op_0 ≤ 29) →
 (((op_0 = 30) →
 R (.tuple ⟨[(.int .i64 2), (.bool false), (.bool true)]⟩) h) ∧
 (¬ (op_0 = 30) →
 R (.tuple ⟨[(.int .i64 0), (.bool false), (.bool false)]⟩) h))))) ∧
 (¬ (26 ≤ op_0) →
 (((op_0 = 30) →
 R (.tuple ⟨[(.int .i64 2), (.bool false), (.bool true)]⟩) h) ∧
 (¬ (op_0 = 30) →
 R (.tuple ⟨[(.int .i64 0), (.bool false), (.bool false)]⟩) h))))))))))))))))))))
theorem hc67 {op_0 : Int} {h : H} {R : Value → H → Prop} (x : sh67 op_0 h R) : HC Tryd.prog 67 [(.int .i64 op_0)] h R :=
  FL.sound mixed ck67 ⟨rfl, Eq.mp (by unfold sh67; kernel_rfl) x⟩
/- quern/quernref14.Formed -/
def fl15 : FL := ⟨101, (.seq (.reg [se 1 (.box 25 (t 0)), sv 2 (.mov (cb false))]) (.seq (.seq (.reg [sv 8 (.fad 2 (t 1)), sv 9 (.ld (.int .i64) (t 8)), sv 10 (.cmp .lss (t 9) (ci 0)), sv 11 (.mov (t 10)), ⟨some 12, some (11, false), .v (.fad 2 (t 1))⟩, ⟨some 13, some (11, false), .v (.ld (.int .i64) (t 12))⟩, ⟨some 14, some (11, false), .v (.cmp .gtr (t 13) (ci 262144))⟩, sv 15 (.pick (t 11) (cb true) (t 14)), sv 16 (.mov (t 15)), ⟨some 17, some (16, false), .v (.fad 1 (t 1))⟩, ⟨some 18, some (16, false), .v (.ld .slice (t 17))⟩, ⟨some 19, some (16, false), .v (.len (t 18))⟩, ⟨some 20, some (16, false), .v (.cmp .gtr (t 19) (ci 8))⟩, sv 21 (.pick (t 16) (cb true) (t 20)), sv 22 (.mov (t 21)), ⟨some 23, some (22, false), .v (.fad 3 (t 1))⟩, ⟨some 24, some (22, false), .v (.ld (.int .i64) (t 23))⟩, ⟨some 25, some (22, false), .v (.cmp .lss (t 24) (ci 0))⟩, sv 26 (.pick (t 22) (cb true) (t 25)), sv 27 (.mov (t 26)), ⟨some 28, some (27, false), .v (.fad 3 (t 1))⟩, ⟨some 29, some (27, false), .v (.ld (.int .i64) (t 28))⟩, ⟨some 30, some (27, false), .v (.cmp .gtr (t 29) (ci 3))⟩, sv 31 (.pick (t 27) (cb true) (t 30)), sv 32 (.mov (t 31)), ⟨some 33, some (32, false), .v (.fad 4 (t 1))⟩, ⟨some 34, some (32, false), .v (.ld .slice (t 33))⟩, ⟨some 35, some (32, false), .v (.len (t 34))⟩, ⟨some 36, some (32, false), .v (.cmp .eql (t 35) (ci 0))⟩, sv 37 (.pick (t 32) (cb true) (t 36))]) (.cond (t 37) (.seq (.reg [sv 2 (.mov (cb false))]) .ret) .skip)) (.seq (.seq (.reg [sv 3 (.mov (ci 0))]) (.block 0 (.loop [(3, (.one (.int .i64)))] [2, 3, 4, 38, 39, 40, 41, 42, 43, 44, 45, 46, 47, 48, 49, 50, 51, 52, 53, 54, 55, 56, 57, 58, 59, 60, 61, 62, 63, 64, 65, 66, 67, 68] (.seq (.seq (.reg [sv 38 (.mov (t 3)), sv 39 (.fad 1 (t 1)), sv 40 (.ld .slice (t 39)), sv 41 (.len (t 40)), sv 42 (.cmp .lss (t 38) (t 41))]) (.cond (t 42) .skip (.exit 0))) (.seq (.block 1 (.seq (.seq (.drw .eq [6] [45, 46, 47, 48, 49, 50, 51, 52] (.takeP 1 (sv 46 (.fad 1 (t 1))) (.takeP 3 (sv 48 (.mov (t 3))) (.takeR 0 (sv 45 (.lda [.str, .slice, (.int .i64), (.int .i64), .slice] (t 1))) (.alt 2 (sv 47 (.ld .slice (t 46))) (.takeP 4 (sv 49 (.idx 1 (t 47) (t 48))) (.takeR 5 (sv 50 (.ld (.int .i64) (t 49))) (.alt 6 (se 51 (.call 40 [(t 45), (t 50)] (.one .bool))) (.takeP 7 (sv 52 (.no (t 51))) .done) .stop))) .stop))))) (.cond (t 52) (.seq (.reg [sv 2 (.mov (cb false))]) .ret) .skip)) (.seq (.reg [sv 4 (.mov (ci 0))]) (.block 2 (.loop [(4, (.one (.int .i64)))] [2, 4, 53, 54, 55, 56, 57, 58, 59, 60, 61, 62, 63, 64, 65, 66, 67, 68] (.seq (.seq (.reg [sv 53 (.mov (t 4)), sv 54 (.mov (t 3)), sv 55 (.cmp .lss (t 53) (t 54))]) (.cond (t 55) .skip (.exit 2))) (.seq (.block 3 (.seq (.drw .eq [] [58, 59, 60, 61, 62, 63, 64, 65, 66, 67, 68] (.takeP 0 (sv 58 (.fad 1 (t 1))) (.takeP 2 (sv 60 (.mov (t 4))) (.takeP 5 (sv 63 (.fad 1 (t 1))) (.takeP 7 (sv 65 (.mov (t 3))) (.takeR 1 (sv 59 (.ld .slice (t 58))) (.takeP 3 (sv 61 (.idx 1 (t 59) (t 60))) (.takeR 4 (sv 62 (.ld (.int .i64) (t 61))) (.takeR 6 (sv 64 (.ld .slice (t 63))) (.takeP 8 (sv 66 (.idx 1 (t 64) (t 65))) (.takeR 9 (sv 67 (.ld (.int .i64) (t 66))) (.takeP 10 (sv 68 (.cmp .eql (t 62) (t 67))) .done)))))))))))) (.cond (t 68) (.seq (.reg [sv 2 (.mov (cb false))]) .ret) .skip))) (.reg [sv 56 (.mov (t 4)), sv 57 (.ar .add true (t 56) (ci 1)), sv 4 (.mov (t 57))])))))))) (.reg [sv 43 (.mov (t 3)), sv 44 (.ar .add true (t 43) (ci 1)), sv 3 (.mov (t 44))])))))) (.seq (.seq (.reg [sv 5 (.mov (ci 0))]) (.block 4 (.loop [(5, (.one (.int .i64)))] [2, 5, 6, 7, 69, 70, 71, 72, 73, 74, 75, 76, 77, 78, 79, 80, 81, 82, 83, 84, 85, 86, 87, 88, 89, 90, 91, 92, 93, 94, 95, 96, 97, 98, 99, 100] (.seq (.seq (.reg [sv 69 (.mov (t 5)), sv 70 (.fad 4 (t 1)), sv 71 (.ld .slice (t 70)), sv 72 (.len (t 71)), sv 73 (.cmp .lss (t 69) (t 72))]) (.cond (t 73) .skip (.exit 4))) (.seq (.block 5 (.seq (.reg [sv 76 (.fad 4 (t 1)), sv 77 (.ld .slice (t 76)), sv 78 (.mov (t 5)), sv 79 (.idx 4 (t 77) (t 78)), sv 80 (.lda [.slice, (.int .i64), (.int .i64), .slice] (t 79)), se 6 (.alc 50 [.slice none 0 0, .int .i64 0, .int .i64 0, .slice none 0 0]), ne (.sto 4 (t 6) (t 80))]) (.seq (.seq (.reg [sv 7 (.mov (ci 0))]) (.block 6 (.loop [(7, (.one (.int .i64)))] [2, 7, 81, 82, 83, 84, 85, 86, 87, 88, 89, 90, 91, 92, 93, 94, 95] (.seq (.seq (.reg [sv 81 (.mov (t 7)), sv 82 (.fad 0 (t 6)), sv 83 (.ld .slice (t 82)), sv 84 (.len (t 83)), sv 85 (.cmp .lss (t 81) (t 84))]) (.cond (t 85) .skip (.exit 6))) (.seq (.block 7 (.seq (.drw .eq [6] [88, 89, 90, 91, 92, 93, 94, 95] (.takeP 1 (sv 89 (.fad 0 (t 6))) (.takeP 3 (sv 91 (.mov (t 7))) (.takeR 0 (sv 88 (.lda [.str, .slice, (.int .i64), (.int .i64), .slice] (t 1))) (.alt 2 (sv 90 (.ld .slice (t 89))) (.takeP 4 (sv 92 (.idx 4 (t 90) (t 91))) (.takeR 5 (sv 93 (.lda [(.int .i64), (.int .i64), (.int .i64), .slice] (t 92))) (.alt 6 (se 94 (.call 41 [(t 88), (t 93)] (.one .bool))) (.takeP 7 (sv 95 (.no (t 94))) .done) .stop))) .stop))))) (.cond (t 95) (.seq (.reg [sv 2 (.mov (cb false))]) .ret) .skip))) (.reg [sv 86 (.mov (t 7)), sv 87 (.ar .add true (t 86) (ci 1)), sv 7 (.mov (t 87))])))))) (.seq (.reg [sv 96 (.lda [.str, .slice, (.int .i64), (.int .i64), .slice] (t 1)), sv 97 (.fad 1 (t 6)), sv 98 (.lda [(.int .i64), (.int .i64), .slice] (t 97)), se 99 (.call 42 [(t 96), (t 98)] (.one .bool)), sv 100 (.no (t 99))]) (.cond (t 100) (.seq (.reg [sv 2 (.mov (cb false))]) .ret) .skip))))) (.reg [sv 74 (.mov (t 5)), sv 75 (.ar .add true (t 74) (ci 1)), sv 5 (.mov (t 75))])))))) (.seq (.reg [sv 2 (.mov (cb true))]) .ret))))), [.tmp 2]⟩
theorem ck15 : chkFL Tryd.prog 15 fl15 = true := by kernel_rfl
def sh15 (f_0 : ByteArray) (af_0 : Option Addr) (nf_0 cf_0 : Nat) (f_0_1 : Int) (f_0_2 : Int) (af_0_1 : Option Addr) (nf_0_1 cf_0_1 : Nat) (h : H) (R : Value → H → Prop) : Prop :=
 ∀ (bf_1 : Nat) (h1 : H), New h (.cells ⟨[(.string f_0), (.slice af_0 nf_0 cf_0), (.int .i64 f_0_1), (.int .i64 f_0_2), (.slice af_0_1 nf_0_1 cf_0_1)]⟩ 25) bf_1 h1 →
 ∃ (v_9 : Int), cell h1 ⟨bf_1, (0 + 2), none⟩ = some (.int .i64 v_9) ∧
 (((v_9 < 0) →
 R (.bool false) h1) ∧
 (¬ (v_9 < 0) →
 ∃ (v_13 : Int), cell h1 ⟨bf_1, (0 + 2), none⟩ = some (.int .i64 v_13) ∧
 (((262144 < v_13) →
 R (.bool false) h1) ∧
 (¬ (262144 < v_13) →
 ∃ (av_18 : Option Addr) (nv_18 cv_18 : Nat), cell h1 ⟨bf_1, (0 + 1), none⟩ = some (.slice av_18 nv_18 cv_18) ∧
 (((8 < (↑nv_18 : Int)) →
 R (.bool false) h1) ∧
 (¬ (8 < (↑nv_18 : Int)) →
 ∃ (v_24 : Int), cell h1 ⟨bf_1, (0 + 3), none⟩ = some (.int .i64 v_24) ∧
 (((v_24 < 0) →
 R (.bool false) h1) ∧
 (¬ (v_24 < 0) →
 ∃ (v_29 : Int), cell h1 ⟨bf_1, (0 + 3), none⟩ = some (.int .i64 v_29) ∧
 (((3 < v_29) →
 R (.bool false) h1) ∧
 (¬ (3 < v_29) →
 ∃ (av_34 : Option Addr) (nv_34 cv_34 : Nat), cell h1 ⟨bf_1, (0 + 4), none⟩ = some (.slice av_34 nv_34 cv_34) ∧
 ((((↑nv_34 : Int) = 0) →
 R (.bool false) h1) ∧
 (¬ ((↑nv_34 : Int) = 0) →
 ∃ J : Int → LI, (J 0).1 h1 ∧
 ∀ (i_3 : Int), ∀ h2 : H, (J i_3).1 h2 →
 ∃ (av_40 : Option Addr) (nv_40 cv_40 : Nat), cell h2 ⟨bf_1, (0 + 1), none⟩ = some (.slice av_40 nv_40 cv_40) ∧
 (((i_3 < (↑nv_40 : Int)) →
 ∃ (v_45 : ByteArray), cell h2 ⟨bf_1, (0 + 0), none⟩ = some (.string v_45) ∧
 ∃ (av_45 : Option Addr) (nv_45 cv_45 : Nat), cell h2 ⟨bf_1, (0 + 1), none⟩ = some (.slice av_45 nv_45 cv_45) ∧
 ∃ (v_45_1 : Int), cell h2 ⟨bf_1, (0 + 2), none⟩ = some (.int .i64 v_45_1) ∧
 ∃ (v_45_2 : Int), cell h2 ⟨bf_1, (0 + 3), none⟩ = some (.int .i64 v_45_2) ∧
 ∃ (av_45_1 : Option Addr) (nv_45_1 cv_45_1 : Nat), cell h2 ⟨bf_1, (0 + 4), none⟩ = some (.slice av_45_1 nv_45_1 cv_45_1) ∧
 ∃ (av_47 : Option Addr) (nv_47 cv_47 : Nat), cell h2 ⟨bf_1, (0 + 1), none⟩ = some (.slice av_47 nv_47 cv_47) ∧
 0 ≤ i_3 ∧ i_3 < (↑nv_47 : Int) ∧
 (onP av_47 fun bv_49 ov_49 =>
 ∃ (v_50 : Int), cell h2 ⟨bv_49, (ov_49 + (i_3).toNat * 1), none⟩ = some (.int .i64 v_50) ∧
 HC Tryd.prog 40 [(.agg ⟨[(.string v_45), (.slice av_45 nv_45 cv_45), (.int .i64 v_45_1), (.int .i64 v_45_2), (.slice av_45_1 nv_45_1 cv_45_1)]⟩), (.int .i64 v_50)] h2 fun rv_51 h3 =>
 ∃ (v_51 : Bool), rv_51 = (.bool v_51) ∧
 (((!v_51) = true →
 R (.bool false) h3) ∧
 ((!v_51) = false →
 ∃ J_1 : Int → LI, (J_1 0).1 h3 ∧
 ∀ (k_4 : Int), ∀ h4 : H, (J_1 k_4).1 h4 →
 (((k_4 < i_3) →
 ∃ (av_59 : Option Addr) (nv_59 cv_59 : Nat), cell h4 ⟨bf_1, (0 + 1), none⟩ = some (.slice av_59 nv_59 cv_59) ∧
 0 ≤ k_4 ∧ k_4 < (↑nv_59 : Int) ∧
 (onP av_59 fun bv_61 ov_61 =>
 ∃ (v_62 : Int), cell h4 ⟨bv_61, (ov_61 + (k_4).toNat * 1), none⟩ = some (.int .i64 v_62) ∧
 ∃ (av_64 : Option Addr) (nv_64 cv_64 : Nat), cell h4 ⟨bf_1, (0 + 1), none⟩ = some (.slice av_64 nv_64 cv_64) ∧
 0 ≤ i_3 ∧ i_3 < (↑nv_64 : Int) ∧
 (onP av_64 fun bv_66 ov_66 =>
 ∃ (v_67 : Int), cell h4 ⟨bv_66, (ov_66 + (i_3).toNat * 1), none⟩ = some (.int .i64 v_67) ∧
 (((v_62 = v_67) →
 R (.bool false) h4) ∧
 (¬ (v_62 = v_67) →
 InR .i64 (k_4 + 1) ∧
 (J_1 (k_4 + 1)).1 h4 ∧ (J_1 (k_4 + 1)).2 h4 < (J_1 k_4).2 h4))))) ∧
 (¬ (k_4 < i_3) →
 InR .i64 (i_3 + 1) ∧
 (J (i_3 + 1)).1 h4 ∧ (J (i_3 + 1)).2 h4 < (J i_3).2 h2)))))) ∧
 (¬ (i_3 < (↑nv_40 : Int)) →
 ∃ J_2 : Int → LI, (J_2 0).1 h2 ∧
 ∀ (i_5 : Int), ∀ h5 : H, (J_2 i_5).1 h5 →
 ∃ (av_71 : Option Addr) (nv_71 cv_71 : Nat), cell h5 ⟨bf_1, (0 + 4), none⟩ = some (.slice av_71 nv_71 cv_71) ∧
 (((i_5 < (↑nv_71 : Int)) →
 ∃ (av_77 : Option Addr) (nv_77 cv_77 : Nat), cell h5 ⟨bf_1, (0 + 4), none⟩ = some (.slice av_77 nv_77 cv_77) ∧
 0 ≤ i_5 ∧ i_5 < (↑nv_77 : Int) ∧
 (onP av_77 fun bv_79 ov_79 =>
 ∃ (av_80 : Option Addr) (nv_80 cv_80 : Nat), cell h5 ⟨bv_79, ((ov_79 + (i_5).toNat * 4) + 0), none⟩ = some (.slice av_80 nv_80 cv_80) ∧
 ∃ (v_80 : Int), cell h5 ⟨bv_79, ((ov_79 + (i_5).toNat * 4) + 1), none⟩ = some (.int .i64 v_80) ∧
 ∃ (v_80_1 : Int), cell h5 ⟨bv_79, ((ov_79 + (i_5).toNat * 4) + 2), none⟩ = some (.int .i64 v_80_1) ∧
 ∃ (av_80_1 : Option Addr) (nv_80_1 cv_80_1 : Nat), cell h5 ⟨bv_79, ((ov_79 + (i_5).toNat * 4) + 3), none⟩ = some (.slice av_80_1 nv_80_1 cv_80_1) ∧
 ∀ (bb_6 : Nat) (h6 : H), New h5 (.cells ⟨[(.slice none 0 0), (.int .i64 0), (.int .i64 0), (.slice none 0 0)]⟩ 50) bb_6 h6 →
 stQ 4 h6 bb_6 0 [(.slice av_80 nv_80 cv_80), (.int .i64 v_80), (.int .i64 v_80_1), (.slice av_80_1 nv_80_1 cv_80_1)] fun h7 =>
 ∃ J_3 : Int → LI, (J_3 0).1 h7 ∧
 ∀ (k_7 : Int), ∀ h8 : H, (J_3 k_7).1 h8 →
 ∃ (av_83 : Option Addr) (nv_83 cv_83 : Nat), cell h8 ⟨bb_6, (0 + 0), none⟩ = some (.slice av_83 nv_83 cv_83) ∧
 (((k_7 < (↑nv_83 : Int)) →
 ∃ (v_88 : ByteArray), cell h8 ⟨bf_1, (0 + 0), none⟩ = some (.string v_88) ∧
 ∃ (av_88 : Option Addr) (nv_88 cv_88 : Nat), cell h8 ⟨bf_1, (0 + 1), none⟩ = some (.slice av_88 nv_88 cv_88) ∧
 ∃ (v_88_1 : Int), cell h8 ⟨bf_1, (0 + 2), none⟩ = some (.int .i64 v_88_1) ∧
 ∃ (v_88_2 : Int), cell h8 ⟨bf_1, (0 + 3), none⟩ = some (.int .i64 v_88_2) ∧
 ∃ (av_88_1 : Option Addr) (nv_88_1 cv_88_1 : Nat), cell h8 ⟨bf_1, (0 + 4), none⟩ = some (.slice av_88_1 nv_88_1 cv_88_1) ∧
 ∃ (av_90 : Option Addr) (nv_90 cv_90 : Nat), cell h8 ⟨bb_6, (0 + 0), none⟩ = some (.slice av_90 nv_90 cv_90) ∧
 0 ≤ k_7 ∧ k_7 < (↑nv_90 : Int) ∧
 (onP av_90 fun bv_92 ov_92 =>
 ∃ (v_93 : Int), cell h8 ⟨bv_92, ((ov_92 + (k_7).toNat * 4) + 0), none⟩ = some (.int .i64 v_93) ∧
 ∃ (v_93_1 : Int), cell h8 ⟨bv_92, ((ov_92 + (k_7).toNat * 4) + 1), none⟩ = some (.int .i64 v_93_1) ∧
 ∃ (v_93_2 : Int), cell h8 ⟨bv_92, ((ov_92 + (k_7).toNat * 4) + 2), none⟩ = some (.int .i64 v_93_2) ∧
 ∃ (av_93 : Option Addr) (nv_93 cv_93 : Nat), cell h8 ⟨bv_92, ((ov_92 + (k_7).toNat * 4) + 3), none⟩ = some (.slice av_93 nv_93 cv_93) ∧
 HC Tryd.prog 41 [(.agg ⟨[(.string v_88), (.slice av_88 nv_88 cv_88), (.int .i64 v_88_1), (.int .i64 v_88_2), (.slice av_88_1 nv_88_1 cv_88_1)]⟩), (.agg ⟨[(.int .i64 v_93), (.int .i64 v_93_1), (.int .i64 v_93_2), (.slice av_93 nv_93 cv_93)]⟩)] h8 fun rv_94 h9 =>
 ∃ (v_94 : Bool), rv_94 = (.bool v_94) ∧
 (((!v_94) = true →
 R (.bool false) h9) ∧
 ((!v_94) = false →
 InR .i64 (k_7 + 1) ∧
 (J_3 (k_7 + 1)).1 h9 ∧ (J_3 (k_7 + 1)).2 h9 < (J_3 k_7).2 h8)))) ∧
 (¬ (k_7 < (↑nv_83 : Int)) →
 ∃ (v_96 : ByteArray), cell h8 ⟨bf_1, (0 + 0), none⟩ = some (.string v_96) ∧
 ∃ (av_96 : Option Addr) (nv_96 cv_96 : Nat), cell h8 ⟨bf_1, (0 + 1), none⟩ = some (.slice av_96 nv_96 cv_96) ∧
 ∃ (v_96_1 : Int), cell h8 ⟨bf_1, (0 + 2), none⟩ = some (.int .i64 v_96_1) ∧
 ∃ (v_96_2 : Int), cell h8 ⟨bf_1, (0 + 3), none⟩ = some (.int .i64 v_96_2) ∧
 ∃ (av_96_1 : Option Addr) (nv_96_1 cv_96_1 : Nat), cell h8 ⟨bf_1, (0 + 4), none⟩ = some (.slice av_96_1 nv_96_1 cv_96_1) ∧
 ∃ (v_98 : Int), cell h8 ⟨bb_6, ((0 + 1) + 0), none⟩ = some (.int .i64 v_98) ∧
 ∃ (v_98_1 : Int), cell h8 ⟨bb_6, ((0 + 1) + 1), none⟩ = some (.int .i64 v_98_1) ∧
 ∃ (av_98 : Option Addr) (nv_98 cv_98 : Nat), cell h8 ⟨bb_6, ((0 + 1) + 2), none⟩ = some (.slice av_98 nv_98 cv_98) ∧
 HC Tryd.prog 42 [(.agg ⟨[(.string v_96), (.slice av_96 nv_96 cv_96), (.int .i64 v_96_1), (.int .i64 v_96_2), (.slice av_96_1 nv_96_1 cv_96_1)]⟩), (.agg ⟨[(.int .i64 v_98), (.int .i64 v_98_1), (.slice av_98 nv_98 cv_98)]⟩)] h8 fun rv_99 h10 =>
 ∃ (v_99 : Bool), rv_99 = (.bool v_99) ∧
 (((!v_99) = true →
 R (.bool false) h10) ∧
 ((!v_99) = false →
 InR .i64 (i_5 + 1) ∧
 (J_2 (i_5 + 1)).1 h10 ∧ (J_2 (i_5 + 1)).2 h10 < (J_2 i_5).2 h5)))))) ∧
 (¬ (i_5 < (↑nv_71 : Int)) →
 R (.bool true) h5))))))))))))))))
theorem hc15 {f_0 : ByteArray} {af_0 : Option Addr} {nf_0 cf_0 : Nat} {f_0_1 : Int} {f_0_2 : Int} {af_0_1 : Option Addr} {nf_0_1 cf_0_1 : Nat} {h : H} {R : Value → H → Prop} (x : sh15 f_0 af_0 nf_0 cf_0 f_0_1 f_0_2 af_0_1 nf_0_1 cf_0_1 h R) : HC Tryd.prog 15 [(.agg ⟨[(.string f_0), (.slice af_0 nf_0 cf_0), (.int .i64 f_0_1), (.int .i64 f_0_2), (.slice af_0_1 nf_0_1 cf_0_1)]⟩)] h R :=
  FL.sound mixed ck15 ⟨rfl, Eq.mp (by unfold sh15; kernel_rfl) x⟩
/- quern/quernref17.isLine -/
def fl36 : FL := ⟨47, (.seq (.reg [sv 4 (.mov (cb false))]) (.seq (.reg [sv 7 (.mov (t 1)), se 8 (.mks 4 1 1 [.bool false] (t 7) (t 7)), sv 5 (.mov (t 8))]) (.seq (.seq (.reg [sv 6 (.mov (ci 0))]) (.block 0 (.loop [(6, (.one (.int .i64)))] [4, 6, 9, 10, 11, 12, 13, 14, 15, 16, 17, 18, 19, 20, 21, 22, 23, 24, 25, 26, 27, 28, 29, 30, 31, 32, 33, 34, 35, 36, 37, 38, 39, 40, 41, 42] (.seq (.seq (.reg [sv 9 (.mov (t 6)), sv 10 (.mov (t 0)), sv 11 (.len (t 10)), sv 12 (.cmp .lss (t 9) (t 11))]) (.cond (t 12) .skip (.exit 0))) (.seq (.block 1 (.seq (.seq (.reg [sv 15 (.mov (t 0)), sv 16 (.mov (t 6)), sv 17 (.idx 1 (t 15) (t 16)), sv 18 (.ld (.int .i64) (t 17)), sv 19 (.cmp .lss (t 18) (ci 0)), sv 20 (.mov (t 19)), ⟨some 21, some (20, false), .v (.mov (t 0))⟩, ⟨some 22, some (20, false), .v (.mov (t 6))⟩, ⟨some 23, some (20, false), .v (.idx 1 (t 21) (t 22))⟩, ⟨some 24, some (20, false), .v (.ld (.int .i64) (t 23))⟩, ⟨some 25, some (20, false), .v (.mov (t 1))⟩, ⟨some 26, some (20, false), .v (.cmp .geq (t 24) (t 25))⟩, sv 27 (.pick (t 20) (cb true) (t 26)), sv 28 (.mov (t 27)), ⟨some 29, some (28, false), .v (.mov (t 5))⟩, ⟨some 30, some (28, false), .v (.mov (t 0))⟩, ⟨some 31, some (28, false), .v (.mov (t 6))⟩, ⟨some 32, some (28, false), .v (.idx 1 (t 30) (t 31))⟩, ⟨some 33, some (28, false), .v (.ld (.int .i64) (t 32))⟩, ⟨some 34, some (28, false), .v (.idx 1 (t 29) (t 33))⟩, ⟨some 35, some (28, false), .v (.ld .bool (t 34))⟩, sv 36 (.pick (t 28) (cb true) (t 35))]) (.cond (t 36) (.seq (.reg [sv 4 (.mov (cb false))]) .ret) .skip)) (.reg [sv 37 (.mov (t 5)), sv 38 (.mov (t 0)), sv 39 (.mov (t 6)), sv 40 (.idx 1 (t 38) (t 39)), sv 41 (.ld (.int .i64) (t 40)), sv 42 (.idx 1 (t 37) (t 41)), ne (.sto 1 (t 42) (cb true))]))) (.reg [sv 13 (.mov (t 6)), sv 14 (.ar .add true (t 13) (ci 1)), sv 6 (.mov (t 14))])))))) (.seq (.reg [sv 43 (.mov (t 0)), sv 44 (.len (t 43)), sv 45 (.mov (t 1)), sv 46 (.cmp .eql (t 44) (t 45)), sv 4 (.mov (t 46))]) .ret)))), [.tmp 4]⟩
theorem ck36 : chkFL Tryd.prog 36 fl36 = true := by kernel_rfl
def sh36 (aline_0 : Option Addr) (nline_0 cline_0 : Nat) (n_1 : Int) (h : H) (R : Value → H → Prop) : Prop :=
 0 ≤ n_1 ∧ n_1 ≤ n_1 ∧ n_1 * 1 ≤ 140737488355328 ∧
 ∀ (bv_8 : Nat) (h1 : H), New h (.cells ⟨repV [.bool false] (n_1).toNat⟩ 4) bv_8 h1 →
 ∃ J : Int → LI, (J 0).1 h1 ∧
 ∀ (i_6 : Int), ∀ h2 : H, (J i_6).1 h2 →
 (((i_6 < (↑nline_0 : Int)) →
 0 ≤ i_6 ∧ i_6 < (↑nline_0 : Int) ∧
 (onP aline_0 fun bv_17 ov_17 =>
 ∃ (v_18 : Int), cell h2 ⟨bv_17, (ov_17 + (i_6).toNat * 1), none⟩ = some (.int .i64 v_18) ∧
 (((v_18 < 0) →
 R (.bool false) h2) ∧
 (¬ (v_18 < 0) →
 0 ≤ i_6 ∧ i_6 < (↑nline_0 : Int) ∧
 (onP aline_0 fun bv_23 ov_23 =>
 ∃ (v_24 : Int), cell h2 ⟨bv_23, (ov_23 + (i_6).toNat * 1), none⟩ = some (.int .i64 v_24) ∧
 (((n_1 ≤ v_24) →
 R (.bool false) h2) ∧
 (¬ (n_1 ≤ v_24) →
 0 ≤ i_6 ∧ i_6 < (↑nline_0 : Int) ∧
 (onP aline_0 fun bv_32 ov_32 =>
 ∃ (v_33 : Int), cell h2 ⟨bv_32, (ov_32 + (i_6).toNat * 1), none⟩ = some (.int .i64 v_33) ∧
 0 ≤ v_33 ∧ v_33 < (↑((n_1).toNat) : Int) ∧
 ∃ (v_35 : Bool), cell h2 ⟨bv_8, (0 + (v_33).toNat * 1), none⟩ = some (.bool v_35) ∧
 ((v_35 = true →
 R (.bool false) h2) ∧
 (v_35 = false →
 0 ≤ i_6 ∧ i_6 < (↑nline_0 : Int) ∧
 (onP aline_0 fun bv_40 ov_40 =>
 ∃ (v_41 : Int), cell h2 ⟨bv_40, (ov_40 + (i_6).toNat * 1), none⟩ = some (.int .i64 v_41) ∧
 0 ≤ v_41 ∧ v_41 < (↑((n_1).toNat) : Int) ∧
 stQ 1 h2 bv_8 (0 + (v_41).toNat * 1) [(.bool true)] fun h3 =>
 InR .i64 (i_6 + 1) ∧
 (J (i_6 + 1)).1 h3 ∧ (J (i_6 + 1)).2 h3 < (J i_6).2 h2))))))))))) ∧
 (¬ (i_6 < (↑nline_0 : Int)) →
 R (.bool (decide ((↑nline_0 : Int) = n_1))) h2))
theorem hc36 {aline_0 : Option Addr} {nline_0 cline_0 : Nat} {n_1 : Int} {h : H} {R : Value → H → Prop} (x : sh36 aline_0 nline_0 cline_0 n_1 h R) : HC Tryd.prog 36 [(.slice aline_0 nline_0 cline_0), (.int .i64 n_1)] h R :=
  FL.sound mixed ck36 ⟨rfl, Eq.mp (by unfold sh36; kernel_rfl) x⟩
end Go.Proofs.Try

/- Functions of blocks as lists, where they lie in a heap, and the contracts of the parts of 'formed'. -/
set_option maxRecDepth 100000
set_option linter.unusedVariables false
set_option linter.unusedSimpArgs false
open Go Go.Fw Go.Proofs
namespace Go.Proofs.Try

structure Ins where
  op : Int
  dst : Int
  imm : Int
  args : List Int
structure Trm where
  kind : Int
  value : Int
  to : List Int
structure Blk where
  body : List Ins
  term : Trm
structure Fnc where
  name : ByteArray
  params : List Int
  regs : Int
  result : Int
  blocks : List Blk

def InsD (h : H) (vs : List Value) (x : Ins) : Prop := ∃ p n c, vs = [.int .i64 x.op, .int .i64 x.dst, .int .i64 x.imm, .slice p n c] ∧ IntsAt h p n x.args ∧ n ≤ c
def BlkD (h : H) (vs : List Value) (x : Blk) : Prop := ∃ p n c q m d, vs = [.slice p n c, .int .i64 x.term.kind, .int .i64 x.term.value, .slice q m d] ∧ RowAt InsD 4 h p n x.body ∧ n ≤ c ∧ IntsAt h q m x.term.to ∧ m ≤ d
def FncD (h : H) (vs : List Value) (x : Fnc) : Prop := ∃ p n c q m d, vs = [.string x.name, .slice p n c, .int .i64 x.regs, .int .i64 x.result, .slice q m d] ∧ IntsAt h p n x.params ∧ n ≤ c ∧ RowAt BlkD 4 h q m x.blocks ∧ m ≤ d
theorem InsD.ext {h h' : H} (e : Ext h h') {vs : List Value} {x : Ins} : InsD h vs x → InsD h' vs x := fun ⟨p, n, c, a, b, d⟩ => ⟨p, n, c, a, b.ext e, d⟩
theorem BlkD.ext {h h' : H} (e : Ext h h') {vs : List Value} {x : Blk} : BlkD h vs x → BlkD h' vs x :=
  fun ⟨p, n, c, q, m, d, a, b, k, g, i⟩ => ⟨p, n, c, q, m, d, a, b.mono e fun _ _ _ => InsD.ext e, k, g.ext e, i⟩
theorem FncD.ext {h h' : H} (e : Ext h h') {vs : List Value} {x : Fnc} : FncD h vs x → FncD h' vs x :=
  fun ⟨p, n, c, q, m, d, a, b, k, g, i⟩ => ⟨p, n, c, q, m, d, a, b.ext e, k, g.mono e fun _ _ _ => BlkD.ext e, i⟩
/-- A function lies in five cells. -/
def FncAt (h : H) (b o : Nat) (x : Fnc) : Prop := ∃ vs, FncD h vs x ∧ ∀ j v, vs[j]? = some v → cell h ⟨b, o + j, none⟩ = some v
theorem FncAt.ext {h h' : H} (e : Ext h h') {b o : Nat} {x : Fnc} : FncAt h b o x → FncAt h' b o x := fun ⟨vs, d, c⟩ => ⟨vs, d.ext e, fun j v hj => e.cell (c j v hj)⟩
/-- The cells of a function, one by one. -/
structure FncC (h : H) (b o : Nat) (x : Fnc) (p : Option Addr) (n c : Nat) (q : Option Addr) (m d : Nat) : Prop where
  c0 : cell h ⟨b, o + 0, none⟩ = some (.string x.name)
  c1 : cell h ⟨b, o + 1, none⟩ = some (.slice p n c)
  c2 : cell h ⟨b, o + 2, none⟩ = some (.int .i64 x.regs)
  c3 : cell h ⟨b, o + 3, none⟩ = some (.int .i64 x.result)
  c4 : cell h ⟨b, o + 4, none⟩ = some (.slice q m d)
  ps : IntsAt h p n x.params
  pc : n ≤ c
  bs : RowAt BlkD 4 h q m x.blocks
  bc : m ≤ d
theorem FncAt.cells {h : H} {b o : Nat} {x : Fnc} (a : FncAt h b o x) : ∃ p n c q m d, FncC h b o x p n c q m d := by
  obtain ⟨vs, ⟨p, n, c, q, m, d, rfl, h1, h2, h3, h4⟩, hc⟩ := a
  exact ⟨p, n, c, q, m, d, hc 0 _ rfl, hc 1 _ rfl, hc 2 _ rfl, hc 3 _ rfl, hc 4 _ rfl, h1, h2, h3, h4⟩
theorem FncC.ext {h h' : H} {b o : Nat} {x : Fnc} {p : Option Addr} {n c : Nat} {q : Option Addr} {m d : Nat} (a : FncC h b o x p n c q m d) (e : Ext h h') : FncC h' b o x p n c q m d :=
  ⟨e.cell a.c0, e.cell a.c1, e.cell a.c2, e.cell a.c3, e.cell a.c4, a.ps.ext e, a.pc, a.bs.mono e fun _ _ _ => BlkD.ext e, a.bc⟩
theorem FncC.at_ {h : H} {b o : Nat} {x : Fnc} {p : Option Addr} {n c : Nat} {q : Option Addr} {m d : Nat} (a : FncC h b o x p n c q m d) : FncAt h b o x := by
  refine ⟨_, ⟨p, n, c, q, m, d, rfl, a.ps, a.pc, a.bs, a.bc⟩, fun j v hj => ?_⟩
  match j, hj with
  | 0, hj => cases hj; exact a.c0
  | 1, hj => cases hj; exact a.c1
  | 2, hj => cases hj; exact a.c2
  | 3, hj => cases hj; exact a.c3
  | 4, hj => cases hj; exact a.c4

def RegP (f : Fnc) (r : Int) : Prop := 0 ≤ r ∧ r < f.regs
/-- The rows of the table of operations. -/
def OpR (op n : Int) (s : Bool) : Prop :=
  ((op = 1 ∨ op = 24) ∧ n = 0 ∧ s = true) ∨ ((2 ≤ op ∧ op ≤ 16 ∨ op = 21) ∧ n = 2 ∧ s = true) ∨ ((17 ≤ op ∧ op ≤ 20 ∨ op = 23 ∨ op = 31) ∧ n = 1 ∧ s = true)
  ∨ (op = 22 ∧ n = 3 ∧ s = false) ∨ (26 ≤ op ∧ op ≤ 29 ∧ n = 1 ∧ s = false) ∨ (op = 30 ∧ n = 2 ∧ s = false)
def InsP (f : Fnc) (x : Ins) : Prop := (∀ r ∈ x.args, RegP f r) ∧
  ((x.op = 25 ∧ 0 ≤ x.imm ∧ (x.args.length : Int) ≤ 8 ∧ (x.dst = -1 ∨ RegP f x.dst)) ∨
   ∃ s, OpR x.op x.args.length s ∧ (s = true → RegP f x.dst) ∧ (s = false → x.dst = -1) ∧ (x.op = 28 ∨ x.op = 29 ∨ x.op = 30 → 1 ≤ x.imm ∧ x.imm ≤ 5) ∧ (¬ x.op = 1 ∧ ¬ (x.op = 28 ∨ x.op = 29 ∨ x.op = 30) → x.imm = 0))
def TrmP (f : Fnc) (t : Trm) : Prop := (∀ r ∈ t.to, 0 ≤ r ∧ r < f.blocks.length) ∧
  ((t.kind = 1 ∧ t.value = -1 ∧ t.to.length = 1) ∨ (t.kind = 2 ∧ RegP f t.value ∧ t.to.length = 2) ∨
   (t.kind = 3 ∧ t.to.length = 0 ∧ (f.result = 0 → t.value = -1) ∧ (f.result ≠ 0 → RegP f t.value)) ∨ (t.kind = 4 ∧ RegP f t.value ∧ t.to.length = 0))
def BlkP (f : Fnc) (b : Blk) : Prop := (∀ x ∈ b.body, InsP f x) ∧ TrmP f b.term
def FncP (f : Fnc) : Prop := (0 ≤ f.regs ∧ f.regs ≤ 262144 ∧ f.params.length ≤ 8 ∧ 0 ≤ f.result ∧ f.result ≤ 3 ∧ f.blocks.length ≠ 0) ∧
  (∀ p ∈ f.params, RegP f p) ∧ f.params.Pairwise (· ≠ ·) ∧ ∀ b ∈ f.blocks, BlkP f b

theorem take_succ_all {α : Type} {l : List α} {i : Nat} {x : α} {Q : α → Prop} (hx : l[i]? = some x) : (∀ y ∈ l.take (i + 1), Q y) ↔ (∀ y ∈ l.take i, Q y) ∧ Q x := by
  rw [List.take_add_one, hx]; simp only [List.mem_append, Option.toList_some, List.mem_singleton]
  refine ⟨fun h => ⟨fun y hy => h y (.inl hy), h x (.inr rfl)⟩, fun ⟨h1, h2⟩ y hy => ?_⟩
  rcases hy with hy | rfl
  · exact h1 y hy
  · exact h2

theorem c55 {h : H} {b o : Nat} {f : Fnc} {r : Int} {R : Value → H → Prop} (hf : FncAt h b o f) (k : ∀ q, (q = true ↔ RegP f r) → R (.bool q) h) :
    HC Tryd.prog 55 [.pointer (some ⟨b, o, none⟩), .int .i64 r] h R := by
  obtain ⟨p, n, c, q, m, d, C⟩ := hf.cells
  apply hc55; unfold sh55; simp only [onP_def]
  refine ⟨fun h0 => ⟨by simp, ⟨_, C.c2, k _ ?_⟩⟩, fun h0 => k _ ?_⟩ <;> simp only [RegP, decide_eq_true_eq] <;> first | omega | simp; omega
theorem c74 {h : H} {op : Int} {R : Value → H → Prop} (kk : ∀ n s, ((OpR op n s ∧ op ≠ 1) ∨ (n = -1 ∧ s = false ∧ ¬ (2 ≤ op ∧ op ≤ 24) ∧ ¬ (26 ≤ op ∧ op ≤ 31))) → R (.tuple ⟨[.int .i64 n, .bool s]⟩) h) : HC Tryd.prog 74 [.int .i64 op] h R := by
  apply hc74; unfold sh74
  repeat' (first | apply kk | refine And.intro (fun _ => ?_) (fun _ => ?_))
  all_goals (unfold OpR; simp only [reduceCtorEq, and_false, and_true, true_and, or_false, false_or]; omega)

theorem OpR.uniq {op m m' : Int} {s s' : Bool} (h : OpR op m s) (h' : OpR op m' s') : m = m' ∧ s = s' := by
  unfold OpR at *
  cases s <;> cases s' <;> simp only [reduceCtorEq, and_false, false_and, false_or, or_false, and_true, true_and] at * <;> omega
def InsQ (f : Fnc) (x : Ins) : Prop := ((x.op = 25 ∧ 0 ≤ x.imm ∧ (x.args.length : Int) ≤ 8 ∧ (x.dst = -1 ∨ RegP f x.dst)) ∨
   ∃ s, OpR x.op x.args.length s ∧ (s = true → RegP f x.dst) ∧ (s = false → x.dst = -1) ∧ (x.op = 28 ∨ x.op = 29 ∨ x.op = 30 → 1 ≤ x.imm ∧ x.imm ≤ 5) ∧ (¬ x.op = 1 ∧ ¬ (x.op = 28 ∨ x.op = 29 ∨ x.op = 30) → x.imm = 0))
theorem insP_iff {f : Fnc} {x : Ins} (hA : ∀ r ∈ x.args, RegP f r) : InsP f x ↔ InsQ f x := ⟨fun h => h.2, fun h => ⟨hA, h⟩⟩
theorem insQ_row {f : Fnc} {x : Ins} {m : Int} {s : Bool} (hr : OpR x.op m s) : InsQ f x ↔ ((x.args.length : Int) = m ∧ (s = true → RegP f x.dst) ∧ (s = false → x.dst = -1) ∧ (x.op = 28 ∨ x.op = 29 ∨ x.op = 30 → 1 ≤ x.imm ∧ x.imm ≤ 5) ∧ (¬ x.op = 1 ∧ ¬ (x.op = 28 ∨ x.op = 29 ∨ x.op = 30) → x.imm = 0)) := by
  constructor
  · rintro (h | ⟨s', h1, h2⟩)
    · exfalso; unfold OpR at hr; omega
    · obtain ⟨rfl, rfl⟩ := h1.uniq hr; exact ⟨rfl, h2⟩
  · rintro ⟨h1, h2⟩; exact .inr ⟨s, h1 ▸ hr, h2⟩
theorem insQ_call {f : Fnc} {x : Ins} (ho : x.op = 25) : InsQ f x ↔ (0 ≤ x.imm ∧ (x.args.length : Int) ≤ 8 ∧ (x.dst = -1 ∨ RegP f x.dst)) := by
  constructor
  · rintro (h | ⟨s', h1, h2⟩)
    · exact h.2
    · exfalso; unfold OpR at h1; omega
  · intro h; exact .inl ⟨ho, h⟩
theorem insQ_none {f : Fnc} {x : Ins} (h1 : ¬ x.op = 1) (h25 : ¬ x.op = 25) (h2 : ¬ (2 ≤ x.op ∧ x.op ≤ 24)) (h3 : ¬ (26 ≤ x.op ∧ x.op ≤ 31)) : ¬ InsQ f x := by
  rintro (h | ⟨s', h4, _⟩)
  · exact h25 h.1
  · unfold OpR at h4; omega
/-- A whole row of numbers, looked through. -/
theorem c56 {h : H} {b o : Nat} {f : Fnc} {x : Ins} {p : Option Addr} {n c : Nat} {R : Value → H → Prop} (hf : FncAt h b o f) (hi : InsD h [.int .i64 x.op, .int .i64 x.dst, .int .i64 x.imm, .slice p n c] x) (hn : (n : Int) < 9223372036854775807)
    (k : ∀ q h', Ext h h' → (q = true ↔ InsP f x) → R (.bool q) h') :
    HC Tryd.prog 56 [.pointer (some ⟨b, o, none⟩), .agg ⟨[.int .i64 x.op, .int .i64 x.dst, .int .i64 x.imm, .slice p n c]⟩] h R := by
  obtain ⟨p', n', c', he, ha, hle⟩ := hi
  obtain ⟨rfl, rfl, rfl⟩ : p = p' ∧ n = n' ∧ c = c' := by simpa using he
  apply hc56; unfold sh56; intro bx h1 hN
  have e1 := hN.ext
  refine ⟨_, _, _, hN.cell (o := 0 + 3) rfl, ?_⟩
  refine fwd n (fun v h' => Ext h1 h' ∧ ∀ r ∈ x.args.take v.toNat, RegP f r) (by omega) ⟨Ext.rfl', by simp⟩ fun v h2 v0 v1 ⟨e2, hall⟩ => ⟨fun hlt => ⟨v0, hlt, ?_⟩, fun hge => ?_⟩
  · obtain ⟨r, b', o', hr, hp, hcell⟩ := (ha.ext (e1.trans e2)).get v0 hlt
    refine onP_at hp ⟨r, hcell, c55 (hf.ext (e1.trans e2)) fun q hq => ⟨q, rfl, fun hq' => ?_, fun hq' => ⟨i64ok (by omega) (by omega), fwd_next v0 hlt ⟨e2, ?_⟩⟩⟩⟩
    · refine k _ _ (e1.trans e2) ⟨fun h => by simp at h, fun h => ?_⟩
      have := hq.2 (h.1 r (List.mem_of_getElem? hr)); simp [this] at hq'
    · rw [show (v + 1).toNat = v.toNat + 1 by omega, take_succ_all hr]
      exact ⟨hall, hq.1 (by simpa using hq')⟩
  · have hv : v.toNat = n := by omega
    have hA : ∀ r ∈ x.args, RegP f r := by rw [hv, ← ha.len, List.take_length] at hall; exact hall
    have hl := ha.len
    have g : ∀ j y, [Value.int .i64 x.op, .int .i64 x.dst, .int .i64 x.imm, .slice p n c][j]? = some y → cell h2 ⟨bx, j, none⟩ = some y := fun j y hj => e2.cell (hN.cell hj)
    have kk : ∀ q, (q = true ↔ InsP f x) → R (.bool q) h2 := fun q => k q h2 (e1.trans e2)
    have hi' := insP_iff hA
    clear k
    refine ⟨_, g 0 _ rfl, c74 fun m s hm => ⟨_, _, rfl, ?_⟩⟩
    simp only [Nat.zero_add, g 0 _ rfl, g 1 _ rfl, g 2 _ rfl, g 3 _ rfl, exI, exSl]
    simp only [hi'] at kk
    have f2 := hf.ext (e1.trans e2)
    refine ⟨fun o1 => ?_, fun n1 => ⟨fun o25 => ?_, fun n25 => ?_⟩⟩
    · have hr : OpR x.op 0 true := by unfold OpR; simp [o1]
      simp only [insQ_row hr, hl, o1] at kk
      refine ⟨fun h0 => c55 f2 fun q hq => ⟨_, rfl, kk _ ?_⟩, fun h0 => kk _ ?_⟩ <;> first | (simp [*]; done) | (simp_all; done)
    · simp only [insQ_call o25, hl] at kk
      repeat' (first | refine kk _ ?_ | refine c55 f2 (fun q hq => ⟨_, rfl, kk _ ?_⟩) | refine And.intro (fun _ => ?_) (fun _ => ?_))
      all_goals first | (simp [*]; done) | (simp_all; done) | (simp_all; omega)
    · rcases hm with ⟨hr, _⟩ | ⟨rfl, rfl, h2, h3⟩
      · simp only [insQ_row hr, hl] at kk
        have h0 : ¬ m < 0 := by unfold OpR at hr; omega
        have hs : x.op = 28 ∨ x.op = 29 ∨ x.op = 30 → s = false := by
          intro h; unfold OpR at hr; cases s
          · rfl
          · simp only [reduceCtorEq, and_false, false_and, false_or, or_false, and_true, true_and] at hr; omega
        repeat' (first | refine kk _ ?_ | refine c55 f2 (fun q hq => ⟨_, rfl, kk _ ?_⟩) | refine And.intro (fun _ => ?_) (fun _ => ?_))
        all_goals first | (simp_all; done) | (simp_all; omega)
      · simp only [iff_false_intro (insQ_none n1 n25 h2 h3)] at kk
        have h0 : ¬ (n : Int) = -1 := by omega
        repeat' (first | refine kk _ ?_ | refine c55 f2 (fun q hq => ⟨_, rfl, kk _ ?_⟩) | refine And.intro (fun _ => ?_) (fun _ => ?_))
        all_goals first | (exfalso; omega) | simp_all
end Go.Proofs.Try
