/-
  A part of the proof of: The statement LiveIntervals (quernlaw17) holds of the given program: for every function of blocks and every line that can be read as data, and laid where the program's own text lays the table math/bits.deBruijn64tab, it returns true, and its input reads as it did.
-/
import Derived.Test.YtmdfllipmnekoaaDoorw3
import Derived.Test.YtmdfllipmnekoaaDoorProg

/- The functions 80 82 63 68 48 30 61 78 79 86 of the seat live: their text in the framework, and what each asks. -/
set_option maxRecDepth 100000
set_option linter.unusedVariables false
set_option linter.unusedSimpArgs false
open Go Go.Fw Go.Proofs
namespace Go.Proofs.Try
/- (quern/live.row).put -/
def fl80 : FL := ⟨14, (.drw .eq [10] [4, 5, 6, 7, 8, 9, 10, 11, 12, 13] (.takeP 0 (sv 4 (.mov (t 0))) (.takeP 1 (sv 5 (.mov (t 1))) (.takeP 2 (sv 6 (.sh .shr (t 5) (.const (Go.Value.int Go.IntKind.u64 6)))) (.takeP 3 (sv 7 (.idx 1 (t 4) (t 6))) (.takeP 5 (sv 9 (.mov (t 1))) (.takeP 6 (sv 10 (.bt .and (t 9) (ci 63))) (.takeP 7 (sv 11 (.sh .shl (.const (Go.Value.int Go.IntKind.u64 1)) (t 10))) (.takeR 4 (sv 8 (.ld (.int .u64) (t 7))) (.takeP 8 (sv 12 (.bt .or (t 8) (t 11))) (.takeP 9 (sv 13 (.idx 1 (t 4) (t 6))) (.alt 10 (ne (.sto 1 (t 13) (t 12))) .done .stop)))))))))))), []⟩
theorem ck80 : chkFL Tryd.prog 80 fl80 = true := by kernel_rfl
def sh80 (ar_0 : Option Addr) (nr_0 cr_0 : Nat) (n_1 : Int) (h : H) (R : Value → H → Prop) : Prop :=
 0 ≤ (6 : Int) ∧
 0 ≤ (shF .shr .i64 n_1 6) ∧ (shF .shr .i64 n_1 6) < (↑nr_0 : Int) ∧
 (onP ar_0 fun bv_7 ov_7 =>
 0 ≤ (bitsF .and .i64 n_1 63) ∧
 ∃ (v_8 : Int), cell h ⟨bv_7, (ov_7 + ((shF .shr .i64 n_1 6)).toNat * 1), none⟩ = some (.int .u64 v_8) ∧
 0 ≤ (shF .shr .i64 n_1 6) ∧ (shF .shr .i64 n_1 6) < (↑nr_0 : Int) ∧
 (onP ar_0 fun bv_13 ov_13 =>
 stQ 1 h bv_13 (ov_13 + ((shF .shr .i64 n_1 6)).toNat * 1) [(.int .u64 (bitsF .or .u64 v_8 (shF .shl .u64 1 (bitsF .and .i64 n_1 63))))] fun h1 =>
 R (.tuple ⟨[]⟩) h1))
theorem hc80 {ar_0 : Option Addr} {nr_0 cr_0 : Nat} {n_1 : Int} {h : H} {R : Value → H → Prop} (x : sh80 ar_0 nr_0 cr_0 n_1 h R) : HC Tryd.prog 80 [(.slice ar_0 nr_0 cr_0), (.int .i64 n_1)] h R :=
  FL.sound mixed ck80 ⟨rfl, Eq.mp (by unfold sh80; kernel_rfl) x⟩
/- (quern/live.row).drop -/
def fl82 : FL := ⟨14, (.drw .eq [10] [4, 5, 6, 7, 8, 9, 10, 11, 12, 13] (.takeP 0 (sv 4 (.mov (t 0))) (.takeP 1 (sv 5 (.mov (t 1))) (.takeP 2 (sv 6 (.sh .shr (t 5) (.const (Go.Value.int Go.IntKind.u64 6)))) (.takeP 3 (sv 7 (.idx 1 (t 4) (t 6))) (.takeP 5 (sv 9 (.mov (t 1))) (.takeP 6 (sv 10 (.bt .and (t 9) (ci 63))) (.takeP 7 (sv 11 (.sh .shl (.const (Go.Value.int Go.IntKind.u64 1)) (t 10))) (.takeR 4 (sv 8 (.ld (.int .u64) (t 7))) (.takeP 8 (sv 12 (.bt .andNot (t 8) (t 11))) (.takeP 9 (sv 13 (.idx 1 (t 4) (t 6))) (.alt 10 (ne (.sto 1 (t 13) (t 12))) .done .stop)))))))))))), []⟩
theorem ck82 : chkFL Tryd.prog 82 fl82 = true := by kernel_rfl
def sh82 (ar_0 : Option Addr) (nr_0 cr_0 : Nat) (n_1 : Int) (h : H) (R : Value → H → Prop) : Prop :=
 0 ≤ (6 : Int) ∧
 0 ≤ (shF .shr .i64 n_1 6) ∧ (shF .shr .i64 n_1 6) < (↑nr_0 : Int) ∧
 (onP ar_0 fun bv_7 ov_7 =>
 0 ≤ (bitsF .and .i64 n_1 63) ∧
 ∃ (v_8 : Int), cell h ⟨bv_7, (ov_7 + ((shF .shr .i64 n_1 6)).toNat * 1), none⟩ = some (.int .u64 v_8) ∧
 0 ≤ (shF .shr .i64 n_1 6) ∧ (shF .shr .i64 n_1 6) < (↑nr_0 : Int) ∧
 (onP ar_0 fun bv_13 ov_13 =>
 stQ 1 h bv_13 (ov_13 + ((shF .shr .i64 n_1 6)).toNat * 1) [(.int .u64 (bitsF .andNot .u64 v_8 (shF .shl .u64 1 (bitsF .and .i64 n_1 63))))] fun h1 =>
 R (.tuple ⟨[]⟩) h1))
theorem hc82 {ar_0 : Option Addr} {nr_0 cr_0 : Nat} {n_1 : Int} {h : H} {R : Value → H → Prop} (x : sh82 ar_0 nr_0 cr_0 n_1 h R) : HC Tryd.prog 82 [(.slice ar_0 nr_0 cr_0), (.int .i64 n_1)] h R :=
  FL.sound mixed ck82 ⟨rfl, Eq.mp (by unfold sh82; kernel_rfl) x⟩
/- (quern/live.row).join -/
def fl63 : FL := ⟨34, (.seq (.reg [sv 4 (.mov (cb false))]) (.seq (.reg [sv 5 (.mov (cb false))]) (.seq (.seq (.reg [sv 8 (.mov (t 1)), sv 9 (.len (t 8)), sv 10 (.mov (ci 0))]) (.block 0 (.loop [(5, (.one .bool)), (10, (.one (.int .i64)))] [5, 6, 7, 10, 11, 12, 13, 14, 15, 16, 17, 18, 19, 20, 21, 22, 23, 24, 25, 26, 27, 28, 29, 30, 31, 32] (.seq (.reg [sv 11 (.cmp .lss (t 10) (t 9))]) (.seq (.cond (t 11) .skip (.exit 0)) (.seq (.block 1 (.seq (.reg [sv 12 (.mov (t 10)), sv 13 (.idx 1 (t 8) (t 10)), sv 14 (.ld (.int .u64) (t 13)), sv 6 (.mov (t 12)), sv 7 (.mov (t 14))]) (.seq (.reg [sv 15 (.mov (t 5)), sv 16 (.mov (t 15)), ⟨some 17, some (16, false), .v (.mov (t 7))⟩, ⟨some 18, some (16, false), .v (.mov (t 0))⟩, ⟨some 19, some (16, false), .v (.mov (t 6))⟩, ⟨some 20, some (16, false), .v (.idx 1 (t 18) (t 19))⟩, ⟨some 21, some (16, false), .v (.ld (.int .u64) (t 20))⟩, ⟨some 22, some (16, false), .v (.bt .andNot (t 17) (t 21))⟩, ⟨some 23, some (16, false), .v (.cmp .neq (t 22) (.const (Go.Value.int Go.IntKind.u64 0)))⟩, sv 24 (.pick (t 16) (cb true) (t 23)), sv 5 (.mov (t 24))]) (.reg [sv 25 (.mov (t 0)), sv 26 (.mov (t 6)), sv 27 (.idx 1 (t 25) (t 26)), sv 28 (.ld (.int .u64) (t 27)), sv 29 (.mov (t 7)), sv 30 (.bt .or (t 28) (t 29)), sv 31 (.idx 1 (t 25) (t 26)), ne (.sto 1 (t 31) (t 30))])))) (.reg [sv 32 (.ar .add true (t 10) (ci 1)), sv 10 (.mov (t 32))]))))))) (.seq (.reg [sv 33 (.mov (t 5)), sv 4 (.mov (t 33))]) .ret)))), [.tmp 4]⟩
theorem ck63 : chkFL Tryd.prog 63 fl63 = true := by kernel_rfl
def sh63 (ar_0 : Option Addr) (nr_0 cr_0 : Nat) (ao_1 : Option Addr) (no_1 co_1 : Nat) (h : H) (R : Value → H → Prop) : Prop :=
 ∃ J : Bool → Int → LI, (J false 0).1 h ∧
 ∀ (more_5 : Bool), ∀ (v_10 : Int), ∀ h1 : H, (J more_5 v_10).1 h1 →
 (((v_10 < (↑no_1 : Int)) →
 0 ≤ v_10 ∧ v_10 < (↑no_1 : Int) ∧
 (onP ao_1 fun bv_13 ov_13 =>
 ∃ (v_14 : Int), cell h1 ⟨bv_13, (ov_13 + (v_10).toNat * 1), none⟩ = some (.int .u64 v_14) ∧
 ((more_5 = true →
 0 ≤ v_10 ∧ v_10 < (↑nr_0 : Int) ∧
 (onP ar_0 fun bv_27 ov_27 =>
 ∃ (v_28 : Int), cell h1 ⟨bv_27, (ov_27 + (v_10).toNat * 1), none⟩ = some (.int .u64 v_28) ∧
 0 ≤ v_10 ∧ v_10 < (↑nr_0 : Int) ∧
 (onP ar_0 fun bv_31 ov_31 =>
 stQ 1 h1 bv_31 (ov_31 + (v_10).toNat * 1) [(.int .u64 (bitsF .or .u64 v_28 v_14))] fun h2 =>
 InR .i64 (v_10 + 1) ∧
 (J true (v_10 + 1)).1 h2 ∧ (J true (v_10 + 1)).2 h2 < (J more_5 v_10).2 h1))) ∧
 (more_5 = false →
 0 ≤ v_10 ∧ v_10 < (↑nr_0 : Int) ∧
 (onP ar_0 fun bv_20 ov_20 =>
 ∃ (v_21 : Int), cell h1 ⟨bv_20, (ov_20 + (v_10).toNat * 1), none⟩ = some (.int .u64 v_21) ∧
 0 ≤ v_10 ∧ v_10 < (↑nr_0 : Int) ∧
 (onP ar_0 fun bv_27_1 ov_27_1 =>
 ∃ (v_28_1 : Int), cell h1 ⟨bv_27_1, (ov_27_1 + (v_10).toNat * 1), none⟩ = some (.int .u64 v_28_1) ∧
 0 ≤ v_10 ∧ v_10 < (↑nr_0 : Int) ∧
 (onP ar_0 fun bv_31_1 ov_31_1 =>
 stQ 1 h1 bv_31_1 (ov_31_1 + (v_10).toNat * 1) [(.int .u64 (bitsF .or .u64 v_28_1 v_14))] fun h3 =>
 InR .i64 (v_10 + 1) ∧
 (J (decide (¬ (bitsF .andNot .u64 v_14 v_21) = 0)) (v_10 + 1)).1 h3 ∧ (J (decide (¬ (bitsF .andNot .u64 v_14 v_21) = 0)) (v_10 + 1)).2 h3 < (J more_5 v_10).2 h1))))))) ∧
 (¬ (v_10 < (↑no_1 : Int)) →
 R (.bool more_5) h1))
theorem hc63 {ar_0 : Option Addr} {nr_0 cr_0 : Nat} {ao_1 : Option Addr} {no_1 co_1 : Nat} {h : H} {R : Value → H → Prop} (x : sh63 ar_0 nr_0 cr_0 ao_1 no_1 co_1 h R) : HC Tryd.prog 63 [(.slice ar_0 nr_0 cr_0), (.slice ao_1 no_1 co_1)] h R :=
  FL.sound mixed ck63 ⟨rfl, Eq.mp (by unfold sh63; kernel_rfl) x⟩
/- (quern/live.row).list -/
def fl68 : FL := ⟨29, (.seq (.reg [sv 2 (.mov (.const (Go.Value.slice none 0 0)))]) (.seq (.reg [sv 3 (.mov (.const (Go.Value.slice none 0 0)))]) (.seq (.seq (.reg [sv 6 (.mov (t 0)), sv 7 (.len (t 6)), sv 8 (.mov (ci 0))]) (.block 0 (.loop [(3, (.one .slice)), (8, (.one (.int .i64)))] [3, 4, 5, 8, 9, 10, 11, 12, 13, 14, 15, 16, 17, 18, 19, 20, 21, 22, 23, 24, 25, 26, 27] (.seq (.reg [sv 9 (.cmp .lss (t 8) (t 7))]) (.seq (.cond (t 9) .skip (.exit 0)) (.seq (.block 1 (.seq (.reg [sv 10 (.mov (t 8)), sv 11 (.idx 1 (t 6) (t 8)), sv 12 (.ld (.int .u64) (t 11)), sv 4 (.mov (t 10)), sv 5 (.mov (t 12))]) (.block 2 (.loop [(3, (.one .slice)), (5, (.one (.int .u64)))] [3, 5, 13, 14, 15, 16, 17, 18, 19, 20, 21, 22, 23, 24, 25, 26] (.seq (.seq (.reg [sv 13 (.mov (t 5)), sv 14 (.cmp .neq (t 13) (.const (Go.Value.int Go.IntKind.u64 0)))]) (.cond (t 14) .skip (.exit 2))) (.seq (.block 3 (.reg [sv 19 (.mov (t 3)), sv 20 (.mov (t 4)), sv 21 (.ar .mul true (ci 64) (t 20)), sv 22 (.mov (t 5)), se 23 (.call 86 [(t 22)] (.one (.int .i64))), sv 24 (.ar .add true (t 21) (t 23)), se 25 (.bsl 3 1 [.int .i64 0] 1 [(0, 1, (t 24))]), se 26 (.app 3 1 8 [.int .i64 0] (t 19) (t 25)), sv 3 (.mov (t 26))])) (.reg [sv 15 (.mov (t 5)), sv 16 (.mov (t 5)), sv 17 (.ar .sub false (t 16) (.const (Go.Value.int Go.IntKind.u64 1))), sv 18 (.bt .and (t 15) (t 17)), sv 5 (.mov (t 18))]))))))) (.reg [sv 27 (.ar .add true (t 8) (ci 1)), sv 8 (.mov (t 27))]))))))) (.seq (.reg [sv 28 (.mov (t 3)), sv 2 (.mov (t 28))]) .ret)))), [.tmp 2]⟩
theorem ck68 : chkFL Tryd.prog 68 fl68 = true := by kernel_rfl
def sh68 (ar_0 : Option Addr) (nr_0 cr_0 : Nat) (h : H) (R : Value → H → Prop) : Prop :=
 ∃ J : Option Addr → Nat → Nat → Int → LI, (J none 0 0 0).1 h ∧
 ∀ (aout_3 : Option Addr) (nout_3 cout_3 : Nat), ∀ (v_8 : Int), ∀ h1 : H, (J aout_3 nout_3 cout_3 v_8).1 h1 →
 (((v_8 < (↑nr_0 : Int)) →
 0 ≤ v_8 ∧ v_8 < (↑nr_0 : Int) ∧
 (onP ar_0 fun bv_11 ov_11 =>
 ∃ (v_12 : Int), cell h1 ⟨bv_11, (ov_11 + (v_8).toNat * 1), none⟩ = some (.int .u64 v_12) ∧
 ∃ J_1 : Option Addr → Nat → Nat → Int → LI, (J_1 aout_3 nout_3 cout_3 v_12).1 h1 ∧
 ∀ (aout_3_1 : Option Addr) (nout_3_1 cout_3_1 : Nat), ∀ (w_5 : Int), ∀ h2 : H, (J_1 aout_3_1 nout_3_1 cout_3_1 w_5).1 h2 →
 (((¬ w_5 = 0) →
 InR .i64 (64 * v_8) ∧
 HC Tryd.prog 86 [(.int .u64 w_5)] h2 fun rv_23 h3 =>
 ∃ (v_23 : Int), rv_23 = (.int .i64 v_23) ∧
 InR .i64 ((64 * v_8) + v_23) ∧
 1 = 1 ∧ 0 + 1 ≤ 1 ∧
 ∀ (bv_25 : Nat) (h4 : H), New h3 (.cells ⟨[(.int .i64 ((64 * v_8) + v_23))]⟩ 3) bv_25 h4 →
 apQ 3 1 8 [.int .i64 0] h4 aout_3_1 nout_3_1 cout_3_1 (some ⟨bv_25, 0, none⟩) 1 fun av_26 nv_26 cv_26 h5 =>
 (J_1 av_26 nv_26 cv_26 (bitsF .and .u64 w_5 (IntKind.wrap .u64 (w_5 - 1)))).1 h5 ∧ (J_1 av_26 nv_26 cv_26 (bitsF .and .u64 w_5 (IntKind.wrap .u64 (w_5 - 1)))).2 h5 < (J_1 aout_3_1 nout_3_1 cout_3_1 w_5).2 h2) ∧
 (¬ (¬ w_5 = 0) →
 InR .i64 (v_8 + 1) ∧
 (J aout_3_1 nout_3_1 cout_3_1 (v_8 + 1)).1 h2 ∧ (J aout_3_1 nout_3_1 cout_3_1 (v_8 + 1)).2 h2 < (J aout_3 nout_3 cout_3 v_8).2 h1)))) ∧
 (¬ (v_8 < (↑nr_0 : Int)) →
 R (.slice aout_3 nout_3 cout_3) h1))
theorem hc68 {ar_0 : Option Addr} {nr_0 cr_0 : Nat} {h : H} {R : Value → H → Prop} (x : sh68 ar_0 nr_0 cr_0 h R) : HC Tryd.prog 68 [(.slice ar_0 nr_0 cr_0)] h R :=
  FL.sound mixed ck68 ⟨rfl, Eq.mp (by unfold sh68; kernel_rfl) x⟩
/- (*quern/live.flow).told -/
def fl48 : FL := ⟨29, (.seq (.reg [sv 4 (.mov (.const (Go.Value.slice none 0 0)))]) (.seq (.reg [sv 8 (.mov (t 1)), se 9 (.call 68 [(t 8)] (.one .slice)), sv 5 (.mov (t 9))]) (.seq (.seq (.reg [sv 10 (.mov (t 5)), sv 11 (.len (t 10)), sv 12 (.mov (ci 0))]) (.block 0 (.loop [(12, (.one (.int .i64)))] [6, 7, 12, 13, 14, 15, 16, 17, 18, 19, 20, 21, 22, 23, 24, 25, 26, 27] (.seq (.reg [sv 13 (.cmp .lss (t 12) (t 11))]) (.seq (.cond (t 13) .skip (.exit 0)) (.seq (.block 1 (.seq (.reg [sv 14 (.mov (t 12)), sv 15 (.idx 1 (t 10) (t 12)), sv 16 (.ld (.int .i64) (t 15)), sv 6 (.mov (t 14)), sv 7 (.mov (t 16))]) (.reg [sv 17 (.mov (t 5)), sv 18 (.mov (t 6)), sv 19 (.mov (t 0)), sv 20 (.nck (t 19)), sv 21 (.fad 2 (t 20)), sv 22 (.ld .slice (t 21)), sv 23 (.mov (t 7)), sv 24 (.idx 1 (t 22) (t 23)), sv 25 (.ld (.int .i64) (t 24)), sv 26 (.idx 1 (t 17) (t 18)), ne (.sto 1 (t 26) (t 25))]))) (.reg [sv 27 (.ar .add true (t 12) (ci 1)), sv 12 (.mov (t 27))]))))))) (.seq (.reg [sv 28 (.mov (t 5)), sv 4 (.mov (t 28))]) .ret)))), [.tmp 4]⟩
theorem ck48 : chkFL Tryd.prog 48 fl48 = true := by kernel_rfl
def sh48 (pw_0 : Option Addr) (ar_1 : Option Addr) (nr_1 cr_1 : Nat) (h : H) (R : Value → H → Prop) : Prop :=
 HC Tryd.prog 68 [(.slice ar_1 nr_1 cr_1)] h fun rv_9 h1 =>
 ∃ (av_9 : Option Addr) (nv_9 cv_9 : Nat), rv_9 = (.slice av_9 nv_9 cv_9) ∧
 ∃ J : Int → LI, (J 0).1 h1 ∧
 ∀ (v_12 : Int), ∀ h2 : H, (J v_12).1 h2 →
 (((v_12 < (↑nv_9 : Int)) →
 0 ≤ v_12 ∧ v_12 < (↑nv_9 : Int) ∧
 (onP av_9 fun bv_15 ov_15 =>
 ∃ (v_16 : Int), cell h2 ⟨bv_15, (ov_15 + (v_12).toNat * 1), none⟩ = some (.int .i64 v_16) ∧
 (pw_0 : Option Addr) ≠ none ∧
 (onP pw_0 fun bv_21 ov_21 =>
 ∃ (av_22 : Option Addr) (nv_22 cv_22 : Nat), cell h2 ⟨bv_21, (ov_21 + 2), none⟩ = some (.slice av_22 nv_22 cv_22) ∧
 0 ≤ v_16 ∧ v_16 < (↑nv_22 : Int) ∧
 (onP av_22 fun bv_24 ov_24 =>
 ∃ (v_25 : Int), cell h2 ⟨bv_24, (ov_24 + (v_16).toNat * 1), none⟩ = some (.int .i64 v_25) ∧
 0 ≤ v_12 ∧ v_12 < (↑nv_9 : Int) ∧
 (onP av_9 fun bv_26 ov_26 =>
 stQ 1 h2 bv_26 (ov_26 + (v_12).toNat * 1) [(.int .i64 v_25)] fun h3 =>
 InR .i64 (v_12 + 1) ∧
 (J (v_12 + 1)).1 h3 ∧ (J (v_12 + 1)).2 h3 < (J v_12).2 h2))))) ∧
 (¬ (v_12 < (↑nv_9 : Int)) →
 R (.slice av_9 nv_9 cv_9) h2))
theorem hc48 {pw_0 : Option Addr} {ar_1 : Option Addr} {nr_1 cr_1 : Nat} {h : H} {R : Value → H → Prop} (x : sh48 pw_0 ar_1 nr_1 cr_1 h R) : HC Tryd.prog 48 [(.pointer pw_0), (.slice ar_1 nr_1 cr_1)] h R :=
  FL.sound mixed ck48 ⟨rfl, Eq.mp (by unfold sh48; kernel_rfl) x⟩
/- (quern/live.spans).meet -/
def fl30 : FL := ⟨39, (.seq (.reg [sv 7 (.mov (t 0)), sv 8 (.mov (t 1)), sv 9 (.idx 3 (t 7) (t 8)), sv 6 (.mov (t 9))]) (.seq (.seq (.reg [sv 10 (.mov (t 6)), sv 11 (.nck (t 10)), sv 12 (.fad 0 (t 11)), sv 13 (.ld (.int .i64) (t 12)), sv 14 (.cmp .lss (t 13) (ci 0))]) (.cond (t 14) (.seq (.reg [sv 15 (.mov (t 6)), sv 16 (.mov (t 1)), sv 17 (.mov (t 2)), sv 18 (.mov (t 2)), sv 19 (.bld [.int .i64 0, .int .i64 0, .int .i64 0] [(0, 1, (t 16)), (1, 1, (t 17)), (2, 1, (t 18))]), sv 20 (.nck (t 15)), ne (.sto 3 (t 20) (t 19))]) .ret) .skip)) (.drw .eq [16, 19] [21, 22, 23, 24, 25, 26, 27, 28, 29, 30, 31, 32, 33, 34, 35, 36, 37, 38] (.takeP 0 (sv 21 (.mov (t 6))) (.takeP 1 (sv 22 (.mov (t 6))) (.takeP 2 (sv 23 (.mov (t 6))) (.takeP 3 (sv 24 (.nck (t 23))) (.takeP 4 (sv 25 (.fad 1 (t 24))) (.takeP 6 (sv 27 (.mov (t 2))) (.takeP 8 (sv 29 (.mov (t 6))) (.takeP 9 (sv 30 (.nck (t 29))) (.takeP 10 (sv 31 (.fad 2 (t 30))) (.takeP 12 (sv 33 (.mov (t 2))) (.takeR 5 (sv 26 (.ld (.int .i64) (t 25))) (.takeP 7 (sv 28 (.mnx false (t 26) (t 27))) (.takeR 11 (sv 32 (.ld (.int .i64) (t 31))) (.takeP 13 (sv 34 (.mnx true (t 32) (t 33))) (.takeP 14 (sv 35 (.nck (t 21))) (.takeP 15 (sv 36 (.fad 1 (t 35))) (.alt 16 (ne (.sto 1 (t 36) (t 28))) (.takeP 17 (sv 37 (.nck (t 22))) (.takeP 18 (sv 38 (.fad 2 (t 37))) (.alt 19 (ne (.sto 1 (t 38) (t 34))) .done .stop))) .stop)))))))))))))))))))), []⟩
theorem ck30 : chkFL Tryd.prog 30 fl30 = true := by kernel_rfl
def sh30 (as_0 : Option Addr) (ns_0 cs_0 : Nat) (r_1 : Int) (place_2 : Int) (h : H) (R : Value → H → Prop) : Prop :=
 0 ≤ r_1 ∧ r_1 < (↑ns_0 : Int) ∧
 (onP as_0 fun bv_9 ov_9 =>
 ((some ⟨bv_9, (ov_9 + (r_1).toNat * 3), none⟩) : Option Addr) ≠ none ∧
 ∃ (v_13 : Int), cell h ⟨bv_9, ((ov_9 + (r_1).toNat * 3) + 0), none⟩ = some (.int .i64 v_13) ∧
 (((v_13 < 0) →
 1 = 1 ∧ 0 + 1 ≤ 3 ∧
 1 = 1 ∧ 1 + 1 ≤ 3 ∧
 1 = 1 ∧ 2 + 1 ≤ 3 ∧
 ((some ⟨bv_9, (ov_9 + (r_1).toNat * 3), none⟩) : Option Addr) ≠ none ∧
 stQ 3 h bv_9 (ov_9 + (r_1).toNat * 3) [(.int .i64 r_1), (.int .i64 place_2), (.int .i64 place_2)] fun h1 =>
 R (.tuple ⟨[]⟩) h1) ∧
 (¬ (v_13 < 0) →
 ((some ⟨bv_9, (ov_9 + (r_1).toNat * 3), none⟩) : Option Addr) ≠ none ∧
 ((some ⟨bv_9, (ov_9 + (r_1).toNat * 3), none⟩) : Option Addr) ≠ none ∧
 ∃ (v_26 : Int), cell h ⟨bv_9, ((ov_9 + (r_1).toNat * 3) + 1), none⟩ = some (.int .i64 v_26) ∧
 ∃ (v_32 : Int), cell h ⟨bv_9, ((ov_9 + (r_1).toNat * 3) + 2), none⟩ = some (.int .i64 v_32) ∧
 ((some ⟨bv_9, (ov_9 + (r_1).toNat * 3), none⟩) : Option Addr) ≠ none ∧
 stQ 1 h bv_9 ((ov_9 + (r_1).toNat * 3) + 1) [(.int .i64 (if place_2 < v_26 then place_2 else v_26))] fun h2 =>
 ((some ⟨bv_9, (ov_9 + (r_1).toNat * 3), none⟩) : Option Addr) ≠ none ∧
 stQ 1 h2 bv_9 ((ov_9 + (r_1).toNat * 3) + 2) [(.int .i64 (if place_2 > v_32 then place_2 else v_32))] fun h3 =>
 R (.tuple ⟨[]⟩) h3)))
theorem hc30 {as_0 : Option Addr} {ns_0 cs_0 : Nat} {r_1 : Int} {place_2 : Int} {h : H} {R : Value → H → Prop} (x : sh30 as_0 ns_0 cs_0 r_1 place_2 h R) : HC Tryd.prog 30 [(.slice as_0 ns_0 cs_0), (.int .i64 r_1), (.int .i64 place_2)] h R :=
  FL.sound mixed ck30 ⟨rfl, Eq.mp (by unfold sh30; kernel_rfl) x⟩
/- (*quern/live.flow).wanted -/
def fl61 : FL := ⟨117, (.seq (.reg [se 1 (.box 79 (t 0))]) (.seq (.drw .ext [11] [12, 13, 14, 15, 16, 17, 18, 19, 20, 21, 22] (.takeR 0 (sv 12 (.ld .ptr (t 1))) (.alt 1 (sv 13 (.ld .ptr (t 1))) (.takeP 2 (sv 14 (.nck (t 13))) (.takeP 3 (sv 15 (.fad 0 (t 14))) (.alt 4 (sv 16 (.ld .ptr (t 15))) (.takeP 5 (sv 17 (.nck (t 16))) (.takeP 6 (sv 18 (.fad 2 (t 17))) (.alt 7 (sv 19 (.ld (.int .i64) (t 18))) (.alt 8 (se 20 (.mks 3 1 8 [.int .i64 0] (t 19) (t 19))) (.takeP 9 (sv 21 (.nck (t 12))) (.takeP 10 (sv 22 (.fad 1 (t 21))) (.alt 11 (ne (.sto 1 (t 22) (t 20))) .done .stop))) .stop) .stop))) .stop))) .stop))) (.seq (.reg [sv 23 (.ld .ptr (t 1)), sv 24 (.nck (t 23)), sv 25 (.fad 0 (t 24)), sv 26 (.ld .ptr (t 25)), sv 27 (.nck (t 26)), sv 28 (.fad 2 (t 27)), sv 29 (.ld (.int .i64) (t 28)), se 30 (.mks 3 1 8 [.int .i64 0] (t 29) (t 29)), se 2 (.alc 22 [.slice none 0 0]), ne (.sto 1 (t 2) (t 30))]) (.seq (.seq (.reg [sv 31 (.ld .ptr (t 1)), sv 32 (.nck (t 31)), sv 33 (.fad 0 (t 32)), sv 34 (.ld .ptr (t 33)), sv 35 (.nck (t 34)), sv 36 (.fad 4 (t 35)), sv 37 (.ld .slice (t 36)), sv 38 (.len (t 37)), sv 39 (.mov (ci 0))]) (.block 0 (.loop [(39, (.one (.int .i64)))] [3, 4, 5, 7, 9, 39, 40, 41, 42, 43, 44, 45, 46, 47, 48, 49, 50, 51, 52, 53, 54, 55, 56, 57, 58, 59, 60, 61, 62, 63, 64, 65, 66, 67, 68, 69, 70, 71, 72, 73, 74, 75, 76, 77, 78, 79, 80, 81, 82] (.seq (.reg [sv 40 (.cmp .lss (t 39) (t 38))]) (.seq (.cond (t 40) .skip (.exit 0)) (.seq (.block 1 (.seq (.reg [sv 41 (.mov (t 39)), sv 42 (.idx 4 (t 37) (t 39)), sv 43 (.lda [.slice, (.int .i64), (.int .i64), .slice] (t 42)), se 3 (.alc 3 [.int .i64 0]), se 4 (.alc 50 [.slice none 0 0, .int .i64 0, .int .i64 0, .slice none 0 0]), ne (.sto 1 (t 3) (t 41)), ne (.sto 4 (t 4) (t 43))]) (.seq (.reg [sv 44 (.fnv (Go.Fn.func 78) [] [(t 2), (t 3), (t 1)]), sv 5 (.mov (t 44))]) (.seq (.seq (.reg [sv 45 (.fad 0 (t 4)), sv 46 (.ld .slice (t 45)), sv 47 (.len (t 46)), sv 48 (.mov (ci 0))]) (.block 2 (.loop [(48, (.one (.int .i64)))] [7, 9, 48, 49, 50, 51, 52, 53, 54, 55, 56, 57, 58, 59, 60, 61, 62, 63, 64, 65, 66, 67, 68, 69, 70, 71, 72] (.seq (.reg [sv 49 (.cmp .lss (t 48) (t 47))]) (.seq (.cond (t 49) .skip (.exit 2)) (.seq (.block 3 (.seq (.reg [sv 50 (.idx 4 (t 46) (t 48)), sv 51 (.lda [(.int .i64), (.int .i64), (.int .i64), .slice] (t 50)), se 7 (.alc 71 [.int .i64 0, .int .i64 0, .int .i64 0, .slice none 0 0]), ne (.sto 4 (t 7) (t 51))]) (.seq (.seq (.reg [sv 52 (.fad 3 (t 7)), sv 53 (.ld .slice (t 52)), sv 54 (.len (t 53)), sv 55 (.mov (ci 0))]) (.block 4 (.loop [(55, (.one (.int .i64)))] [9, 55, 56, 57, 58, 59, 60, 61, 62] (.seq (.reg [sv 56 (.cmp .lss (t 55) (t 54))]) (.seq (.cond (t 56) .skip (.exit 4)) (.seq (.block 5 (.seq (.reg [sv 57 (.idx 1 (t 53) (t 55)), sv 58 (.ld (.int .i64) (t 57)), sv 9 (.mov (t 58))]) (.reg [sv 59 (.mov (t 5)), sv 60 (.mov (t 9)), se 61 (.cav (t 59) [(t 60)] .unit)]))) (.reg [sv 62 (.ar .add true (t 55) (ci 1)), sv 55 (.mov (t 62))]))))))) (.seq (.reg [sv 63 (.fad 1 (t 7)), sv 64 (.ld (.int .i64) (t 63)), sv 65 (.cmp .geq (t 64) (ci 0))]) (.cond (t 65) (.reg [sv 66 (.ld .slice (t 2)), sv 67 (.fad 1 (t 7)), sv 68 (.ld (.int .i64) (t 67)), sv 69 (.ld (.int .i64) (t 3)), sv 70 (.ar .add true (t 69) (ci 1)), sv 71 (.idx 1 (t 66) (t 68)), ne (.sto 1 (t 71) (t 70))]) .skip))))) (.reg [sv 72 (.ar .add true (t 48) (ci 1)), sv 48 (.mov (t 72))]))))))) (.seq (.reg [sv 73 (.fad 1 (t 4)), sv 74 (.fad 1 (t 73)), sv 75 (.ld (.int .i64) (t 74)), sv 76 (.cmp .geq (t 75) (ci 0))]) (.cond (t 76) (.reg [sv 77 (.mov (t 5)), sv 78 (.fad 1 (t 4)), sv 79 (.fad 1 (t 78)), sv 80 (.ld (.int .i64) (t 79)), se 81 (.cav (t 77) [(t 80)] .unit)]) .skip)))))) (.reg [sv 82 (.ar .add true (t 39) (ci 1)), sv 39 (.mov (t 82))]))))))) (.seq (.reg [sv 83 (.ld .ptr (t 1)), sv 84 (.nck (t 83)), sv 85 (.fad 1 (t 84)), sv 86 (.ld .slice (t 85)), sv 87 (.len (t 86)), sv 88 (.mov (ci 0))]) (.block 6 (.loop [(88, (.one (.int .i64)))] [10, 11, 88, 89, 90, 91, 92, 93, 94, 95, 96, 97, 98, 99, 100, 101, 102, 103, 104, 105, 106, 107, 108, 109, 110, 111, 112, 113, 114, 115, 116] (.seq (.reg [sv 89 (.cmp .lss (t 88) (t 87))]) (.seq (.cond (t 89) .skip (.exit 6)) (.seq (.block 7 (.seq (.reg [sv 90 (.mov (t 88)), sv 91 (.idx 1 (t 86) (t 88)), sv 92 (.ld (.int .i64) (t 91)), sv 10 (.mov (t 90)), sv 11 (.mov (t 92))]) (.seq (.reg [sv 93 (.mov (t 11)), sv 94 (.cmp .eql (t 93) (ci 1))]) (.cond (t 94) (.seq (.drw .gen [10] [95, 96, 97, 98, 99, 100, 101, 102, 103, 104] (.takeP 5 (sv 100 (.mov (t 10))) (.takeR 0 (sv 95 (.ld .ptr (t 1))) (.takeR 1 (sv 96 (.ld .ptr (t 1))) (.takeP 2 (sv 97 (.nck (t 96))) (.takeP 3 (sv 98 (.fad 2 (t 97))) (.takeR 4 (sv 99 (.ld .slice (t 98))) (.altS 6 (se 101 (.bsl 3 1 [.int .i64 0] 1 [(0, 1, (t 100))])) (.altS 7 (se 102 (.app 3 1 8 [.int .i64 0] (t 99) (t 101))) (.takeP 8 (sv 103 (.nck (t 95))) (.takeP 9 (sv 104 (.fad 2 (t 103))) (.alt 10 (ne (.sto 1 (t 104) (t 102))) .done .stop))) .stop) .stop)))))))) (.drw .eq [11] [105, 106, 107, 108, 109, 110, 111, 112, 113, 114, 115] (.takeP 4 (sv 109 (.mov (t 10))) (.takeR 0 (sv 105 (.ld .ptr (t 1))) (.takeP 1 (sv 106 (.nck (t 105))) (.takeP 2 (sv 107 (.fad 1 (t 106))) (.takeR 3 (sv 108 (.ld .slice (t 107))) (.takeR 5 (sv 110 (.ld .ptr (t 1))) (.takeP 6 (sv 111 (.nck (t 110))) (.takeP 7 (sv 112 (.fad 2 (t 111))) (.takeR 8 (sv 113 (.ld .slice (t 112))) (.takeP 9 (sv 114 (.len (t 113))) (.takeP 10 (sv 115 (.idx 1 (t 108) (t 109))) (.alt 11 (ne (.sto 1 (t 115) (t 114))) .done .stop)))))))))))))) .skip)))) (.reg [sv 116 (.ar .add true (t 88) (ci 1)), sv 88 (.mov (t 116))]))))))))))), []⟩
theorem ck61 : chkFL Tryd.prog 61 fl61 = true := by kernel_rfl
def sh61 (pw_0 : Option Addr) (h : H) (R : Value → H → Prop) : Prop :=
 ∀ (bw_1 : Nat) (h1 : H), New h (.cells ⟨[(.pointer pw_0)]⟩ 79) bw_1 h1 →
 ∃ (pv_12 : Option Addr), cell h1 ⟨bw_1, 0, none⟩ = some (.pointer pv_12) ∧
 ∃ (pv_13 : Option Addr), cell h1 ⟨bw_1, 0, none⟩ = some (.pointer pv_13) ∧
 (pv_13 : Option Addr) ≠ none ∧
 (onP pv_13 fun bv_15 ov_15 =>
 ∃ (pv_16 : Option Addr), cell h1 ⟨bv_15, (ov_15 + 0), none⟩ = some (.pointer pv_16) ∧
 (pv_16 : Option Addr) ≠ none ∧
 (onP pv_16 fun bv_18 ov_18 =>
 ∃ (v_19 : Int), cell h1 ⟨bv_18, (ov_18 + 2), none⟩ = some (.int .i64 v_19) ∧
 0 ≤ v_19 ∧ v_19 ≤ v_19 ∧ v_19 * 8 ≤ 140737488355328 ∧
 ∀ (bv_20 : Nat) (h2 : H), New h1 (.cells ⟨repV [.int .i64 0] (v_19).toNat⟩ 3) bv_20 h2 →
 (pv_12 : Option Addr) ≠ none ∧
 (onP pv_12 fun bv_22 ov_22 =>
 stQ 1 h2 bv_22 (ov_22 + 1) [(.slice (some ⟨bv_20, 0, none⟩) ((v_19).toNat) ((v_19).toNat))] fun h3 =>
 ∃ (pv_23 : Option Addr), cell h3 ⟨bw_1, 0, none⟩ = some (.pointer pv_23) ∧
 (pv_23 : Option Addr) ≠ none ∧
 (onP pv_23 fun bv_25 ov_25 =>
 ∃ (pv_26 : Option Addr), cell h3 ⟨bv_25, (ov_25 + 0), none⟩ = some (.pointer pv_26) ∧
 (pv_26 : Option Addr) ≠ none ∧
 (onP pv_26 fun bv_28 ov_28 =>
 ∃ (v_29 : Int), cell h3 ⟨bv_28, (ov_28 + 2), none⟩ = some (.int .i64 v_29) ∧
 0 ≤ v_29 ∧ v_29 ≤ v_29 ∧ v_29 * 8 ≤ 140737488355328 ∧
 ∀ (bv_30 : Nat) (h4 : H), New h3 (.cells ⟨repV [.int .i64 0] (v_29).toNat⟩ 3) bv_30 h4 →
 ∀ (bset_2 : Nat) (h5 : H), New h4 (.cells ⟨[(.slice none 0 0)]⟩ 22) bset_2 h5 →
 stQ 1 h5 bset_2 0 [(.slice (some ⟨bv_30, 0, none⟩) ((v_29).toNat) ((v_29).toNat))] fun h6 =>
 ∃ (pv_31 : Option Addr), cell h6 ⟨bw_1, 0, none⟩ = some (.pointer pv_31) ∧
 (pv_31 : Option Addr) ≠ none ∧
 (onP pv_31 fun bv_33 ov_33 =>
 ∃ (pv_34 : Option Addr), cell h6 ⟨bv_33, (ov_33 + 0), none⟩ = some (.pointer pv_34) ∧
 (pv_34 : Option Addr) ≠ none ∧
 (onP pv_34 fun bv_36 ov_36 =>
 ∃ (av_37 : Option Addr) (nv_37 cv_37 : Nat), cell h6 ⟨bv_36, (ov_36 + 4), none⟩ = some (.slice av_37 nv_37 cv_37) ∧
 ∃ J : Int → LI, (J 0).1 h6 ∧
 ∀ (v_39 : Int), ∀ h7 : H, (J v_39).1 h7 →
 (((v_39 < (↑nv_37 : Int)) →
 0 ≤ v_39 ∧ v_39 < (↑nv_37 : Int) ∧
 (onP av_37 fun bv_42 ov_42 =>
 ∃ (av_43 : Option Addr) (nv_43 cv_43 : Nat), cell h7 ⟨bv_42, ((ov_42 + (v_39).toNat * 4) + 0), none⟩ = some (.slice av_43 nv_43 cv_43) ∧
 ∃ (v_43 : Int), cell h7 ⟨bv_42, ((ov_42 + (v_39).toNat * 4) + 1), none⟩ = some (.int .i64 v_43) ∧
 ∃ (v_43_1 : Int), cell h7 ⟨bv_42, ((ov_42 + (v_39).toNat * 4) + 2), none⟩ = some (.int .i64 v_43_1) ∧
 ∃ (av_43_1 : Option Addr) (nv_43_1 cv_43_1 : Nat), cell h7 ⟨bv_42, ((ov_42 + (v_39).toNat * 4) + 3), none⟩ = some (.slice av_43_1 nv_43_1 cv_43_1) ∧
 ∀ (bi_3 : Nat) (h8 : H), New h7 (.cells ⟨[(.int .i64 0)]⟩ 3) bi_3 h8 →
 ∀ (bb_4 : Nat) (h9 : H), New h8 (.cells ⟨[(.slice none 0 0), (.int .i64 0), (.int .i64 0), (.slice none 0 0)]⟩ 50) bb_4 h9 →
 stQ 1 h9 bi_3 0 [(.int .i64 v_39)] fun h10 =>
 stQ 4 h10 bb_4 0 [(.slice av_43 nv_43 cv_43), (.int .i64 v_43), (.int .i64 v_43_1), (.slice av_43_1 nv_43_1 cv_43_1)] fun h11 =>
 ∃ (av_46 : Option Addr) (nv_46 cv_46 : Nat), cell h11 ⟨bb_4, (0 + 0), none⟩ = some (.slice av_46 nv_46 cv_46) ∧
 ∃ J_1 : Int → LI, (J_1 0).1 h11 ∧
 ∀ (v_48 : Int), ∀ h12 : H, (J_1 v_48).1 h12 →
 (((v_48 < (↑nv_46 : Int)) →
 0 ≤ v_48 ∧ v_48 < (↑nv_46 : Int) ∧
 (onP av_46 fun bv_50 ov_50 =>
 ∃ (v_51 : Int), cell h12 ⟨bv_50, ((ov_50 + (v_48).toNat * 4) + 0), none⟩ = some (.int .i64 v_51) ∧
 ∃ (v_51_1 : Int), cell h12 ⟨bv_50, ((ov_50 + (v_48).toNat * 4) + 1), none⟩ = some (.int .i64 v_51_1) ∧
 ∃ (v_51_2 : Int), cell h12 ⟨bv_50, ((ov_50 + (v_48).toNat * 4) + 2), none⟩ = some (.int .i64 v_51_2) ∧
 ∃ (av_51 : Option Addr) (nv_51 cv_51 : Nat), cell h12 ⟨bv_50, ((ov_50 + (v_48).toNat * 4) + 3), none⟩ = some (.slice av_51 nv_51 cv_51) ∧
 ∀ (bx_7 : Nat) (h13 : H), New h12 (.cells ⟨[(.int .i64 0), (.int .i64 0), (.int .i64 0), (.slice none 0 0)]⟩ 71) bx_7 h13 →
 stQ 4 h13 bx_7 0 [(.int .i64 v_51), (.int .i64 v_51_1), (.int .i64 v_51_2), (.slice av_51 nv_51 cv_51)] fun h14 =>
 ∃ (av_53 : Option Addr) (nv_53 cv_53 : Nat), cell h14 ⟨bx_7, (0 + 3), none⟩ = some (.slice av_53 nv_53 cv_53) ∧
 ∃ J_2 : Int → LI, (J_2 0).1 h14 ∧
 ∀ (v_55 : Int), ∀ h15 : H, (J_2 v_55).1 h15 →
 (((v_55 < (↑nv_53 : Int)) →
 0 ≤ v_55 ∧ v_55 < (↑nv_53 : Int) ∧
 (onP av_53 fun bv_57 ov_57 =>
 ∃ (v_58 : Int), cell h15 ⟨bv_57, (ov_57 + (v_55).toNat * 1), none⟩ = some (.int .i64 v_58) ∧
 fnOk Tryd.prog 78 = true ∧
 HC Tryd.prog 78 [(.int .i64 v_58), (.pointer (some ⟨bset_2, 0, none⟩)), (.pointer (some ⟨bi_3, 0, none⟩)), (.pointer (some ⟨bw_1, 0, none⟩))] h15 fun rv_61 h16 =>
 rv_61 = (.tuple ⟨[]⟩) ∧
 InR .i64 (v_55 + 1) ∧
 (J_2 (v_55 + 1)).1 h16 ∧ (J_2 (v_55 + 1)).2 h16 < (J_2 v_55).2 h15)) ∧
 (¬ (v_55 < (↑nv_53 : Int)) →
 ∃ (v_64 : Int), cell h15 ⟨bx_7, (0 + 1), none⟩ = some (.int .i64 v_64) ∧
 (((0 ≤ v_64) →
 ∃ (av_66 : Option Addr) (nv_66 cv_66 : Nat), cell h15 ⟨bset_2, 0, none⟩ = some (.slice av_66 nv_66 cv_66) ∧
 ∃ (v_68 : Int), cell h15 ⟨bx_7, (0 + 1), none⟩ = some (.int .i64 v_68) ∧
 ∃ (v_69 : Int), cell h15 ⟨bi_3, 0, none⟩ = some (.int .i64 v_69) ∧
 InR .i64 (v_69 + 1) ∧
 0 ≤ v_68 ∧ v_68 < (↑nv_66 : Int) ∧
 (onP av_66 fun bv_71 ov_71 =>
 stQ 1 h15 bv_71 (ov_71 + (v_68).toNat * 1) [(.int .i64 (v_69 + 1))] fun h17 =>
 InR .i64 (v_48 + 1) ∧
 (J_1 (v_48 + 1)).1 h17 ∧ (J_1 (v_48 + 1)).2 h17 < (J_1 v_48).2 h12)) ∧
 (¬ (0 ≤ v_64) →
 InR .i64 (v_48 + 1) ∧
 (J_1 (v_48 + 1)).1 h15 ∧ (J_1 (v_48 + 1)).2 h15 < (J_1 v_48).2 h12)))))) ∧
 (¬ (v_48 < (↑nv_46 : Int)) →
 ∃ (v_75 : Int), cell h12 ⟨bb_4, ((0 + 1) + 1), none⟩ = some (.int .i64 v_75) ∧
 (((0 ≤ v_75) →
 ∃ (v_80 : Int), cell h12 ⟨bb_4, ((0 + 1) + 1), none⟩ = some (.int .i64 v_80) ∧
 fnOk Tryd.prog 78 = true ∧
 HC Tryd.prog 78 [(.int .i64 v_80), (.pointer (some ⟨bset_2, 0, none⟩)), (.pointer (some ⟨bi_3, 0, none⟩)), (.pointer (some ⟨bw_1, 0, none⟩))] h12 fun rv_81 h18 =>
 rv_81 = (.tuple ⟨[]⟩) ∧
 InR .i64 (v_39 + 1) ∧
 (J (v_39 + 1)).1 h18 ∧ (J (v_39 + 1)).2 h18 < (J v_39).2 h7) ∧
 (¬ (0 ≤ v_75) →
 InR .i64 (v_39 + 1) ∧
 (J (v_39 + 1)).1 h12 ∧ (J (v_39 + 1)).2 h12 < (J v_39).2 h7)))))) ∧
 (¬ (v_39 < (↑nv_37 : Int)) →
 ∃ (pv_83 : Option Addr), cell h7 ⟨bw_1, 0, none⟩ = some (.pointer pv_83) ∧
 (pv_83 : Option Addr) ≠ none ∧
 (onP pv_83 fun bv_85 ov_85 =>
 ∃ (av_86 : Option Addr) (nv_86 cv_86 : Nat), cell h7 ⟨bv_85, (ov_85 + 1), none⟩ = some (.slice av_86 nv_86 cv_86) ∧
 ∃ J_3 : Int → LI, (J_3 0).1 h7 ∧
 ∀ (v_88 : Int), ∀ h19 : H, (J_3 v_88).1 h19 →
 (((v_88 < (↑nv_86 : Int)) →
 0 ≤ v_88 ∧ v_88 < (↑nv_86 : Int) ∧
 (onP av_86 fun bv_91 ov_91 =>
 ∃ (v_92 : Int), cell h19 ⟨bv_91, (ov_91 + (v_88).toNat * 1), none⟩ = some (.int .i64 v_92) ∧
 (((v_92 = 1) →
 ∃ S_1 : H → Prop, S_1 h19 ∧
 ∃ (pv_95 : Option Addr), cell h19 ⟨bw_1, 0, none⟩ = some (.pointer pv_95) ∧
 (∀ h20, S_1 h20 →
 ∃ (pv_95_1 : Option Addr), cell h20 ⟨bw_1, 0, none⟩ = some (.pointer pv_95_1) ∧
 Slot.v (.pointer pv_95_1) = Slot.v (.pointer pv_95) ∧ (Slot.v (.pointer pv_95)).val ≠ none) ∧
 ∃ (pv_96 : Option Addr), cell h19 ⟨bw_1, 0, none⟩ = some (.pointer pv_96) ∧
 (∀ h21, S_1 h21 →
 ∃ (pv_96_1 : Option Addr), cell h21 ⟨bw_1, 0, none⟩ = some (.pointer pv_96_1) ∧
 Slot.v (.pointer pv_96_1) = Slot.v (.pointer pv_96) ∧ (Slot.v (.pointer pv_96)).val ≠ none) ∧
 (pv_96 : Option Addr) ≠ none ∧
 (onP pv_96 fun bv_98 ov_98 =>
 ∃ (av_99 : Option Addr) (nv_99 cv_99 : Nat), cell h19 ⟨bv_98, (ov_98 + 2), none⟩ = some (.slice av_99 nv_99 cv_99) ∧
 (∀ h22, S_1 h22 →
 ∃ (av_99_1 : Option Addr) (nv_99_1 cv_99_1 : Nat), cell h22 ⟨bv_98, (ov_98 + 2), none⟩ = some (.slice av_99_1 nv_99_1 cv_99_1) ∧
 Slot.v (.slice av_99_1 nv_99_1 cv_99_1) = Slot.v (.slice av_99 nv_99 cv_99) ∧ (Slot.v (.slice av_99 nv_99 cv_99)).val ≠ none) ∧
 1 = 1 ∧ 0 + 1 ≤ 1 ∧
 ∀ (bv_101 : Nat) (h23 : H), New h19 (.cells ⟨[(.int .i64 v_88)]⟩ 3) bv_101 h23 →
 S_1 h23 ∧
 apQ 3 1 8 [.int .i64 0] h23 av_99 nv_99 cv_99 (some ⟨bv_101, 0, none⟩) 1 fun av_102 nv_102 cv_102 h24 =>
 S_1 h24 ∧
 (pv_95 : Option Addr) ≠ none ∧
 (onP pv_95 fun bv_104 ov_104 =>
 stQ 1 h24 bv_104 (ov_104 + 2) [(.slice av_102 nv_102 cv_102)] fun h25 =>
 ∃ (pv_105 : Option Addr), cell h25 ⟨bw_1, 0, none⟩ = some (.pointer pv_105) ∧
 (pv_105 : Option Addr) ≠ none ∧
 (onP pv_105 fun bv_107 ov_107 =>
 ∃ (av_108 : Option Addr) (nv_108 cv_108 : Nat), cell h25 ⟨bv_107, (ov_107 + 1), none⟩ = some (.slice av_108 nv_108 cv_108) ∧
 ∃ (pv_110 : Option Addr), cell h25 ⟨bw_1, 0, none⟩ = some (.pointer pv_110) ∧
 (pv_110 : Option Addr) ≠ none ∧
 (onP pv_110 fun bv_112 ov_112 =>
 ∃ (av_113 : Option Addr) (nv_113 cv_113 : Nat), cell h25 ⟨bv_112, (ov_112 + 2), none⟩ = some (.slice av_113 nv_113 cv_113) ∧
 0 ≤ v_88 ∧ v_88 < (↑nv_108 : Int) ∧
 (onP av_108 fun bv_115 ov_115 =>
 stQ 1 h25 bv_115 (ov_115 + (v_88).toNat * 1) [(.int .i64 (↑nv_113 : Int))] fun h26 =>
 InR .i64 (v_88 + 1) ∧
 (J_3 (v_88 + 1)).1 h26 ∧ (J_3 (v_88 + 1)).2 h26 < (J_3 v_88).2 h19)))))) ∧
 (¬ (v_92 = 1) →
 InR .i64 (v_88 + 1) ∧
 (J_3 (v_88 + 1)).1 h19 ∧ (J_3 (v_88 + 1)).2 h19 < (J_3 v_88).2 h19)))) ∧
 (¬ (v_88 < (↑nv_86 : Int)) →
 R (.tuple ⟨[]⟩) h19))))))))))))
theorem hc61 {pw_0 : Option Addr} {h : H} {R : Value → H → Prop} (x : sh61 pw_0 h R) : HC Tryd.prog 61 [(.pointer pw_0)] h R :=
  FL.sound mixed ck61 ⟨rfl, Eq.mp (by unfold sh61; kernel_rfl) x⟩
/- (*quern/live.flow).wanted$1 -/
def fl78 : FL := ⟨18, (.seq (.drw .eq [] [5, 6, 7, 8, 9, 10, 11] (.takeP 1 (sv 6 (.mov (t 0))) (.takeR 0 (sv 5 (.ld .slice (t 1))) (.takeP 2 (sv 7 (.idx 1 (t 5) (t 6))) (.takeR 3 (sv 8 (.ld (.int .i64) (t 7))) (.takeR 4 (sv 9 (.ld (.int .i64) (t 2))) (.takeP 5 (sv 10 (.ar .add true (t 9) (ci 1))) (.takeP 6 (sv 11 (.cmp .neq (t 8) (t 10))) .done)))))))) (.cond (t 11) (.reg [sv 12 (.ld .ptr (t 3)), sv 13 (.nck (t 12)), sv 14 (.fad 1 (t 13)), sv 15 (.ld .slice (t 14)), sv 16 (.mov (t 0)), sv 17 (.idx 1 (t 15) (t 16)), ne (.sto 1 (t 17) (ci 1))]) .skip)), []⟩
theorem ck78 : chkFL Tryd.prog 78 fl78 = true := by kernel_rfl
def sh78 (r_0 : Int) (bf0 : Nat) (bf1 : Nat) (bf2 : Nat) (h : H) (R : Value → H → Prop) : Prop :=
 ∃ (av_5 : Option Addr) (nv_5 cv_5 : Nat), cell h ⟨bf0, 0, none⟩ = some (.slice av_5 nv_5 cv_5) ∧
 0 ≤ r_0 ∧ r_0 < (↑nv_5 : Int) ∧
 (onP av_5 fun bv_7 ov_7 =>
 ∃ (v_8 : Int), cell h ⟨bv_7, (ov_7 + (r_0).toNat * 1), none⟩ = some (.int .i64 v_8) ∧
 ∃ (v_9 : Int), cell h ⟨bf1, 0, none⟩ = some (.int .i64 v_9) ∧
 InR .i64 (v_9 + 1) ∧
 (((¬ v_8 = (v_9 + 1)) →
 ∃ (pv_12 : Option Addr), cell h ⟨bf2, 0, none⟩ = some (.pointer pv_12) ∧
 (pv_12 : Option Addr) ≠ none ∧
 (onP pv_12 fun bv_14 ov_14 =>
 ∃ (av_15 : Option Addr) (nv_15 cv_15 : Nat), cell h ⟨bv_14, (ov_14 + 1), none⟩ = some (.slice av_15 nv_15 cv_15) ∧
 0 ≤ r_0 ∧ r_0 < (↑nv_15 : Int) ∧
 (onP av_15 fun bv_17 ov_17 =>
 stQ 1 h bv_17 (ov_17 + (r_0).toNat * 1) [(.int .i64 1)] fun h1 =>
 R (.tuple ⟨[]⟩) h1))) ∧
 (¬ (¬ v_8 = (v_9 + 1)) →
 R (.tuple ⟨[]⟩) h)))
theorem hc78 {r_0 : Int} {bf0 : Nat} {bf1 : Nat} {bf2 : Nat} {h : H} {R : Value → H → Prop} (x : sh78 r_0 bf0 bf1 bf2 h R) : HC Tryd.prog 78 [(.int .i64 r_0), (.pointer (some ⟨bf0, 0, none⟩)), (.pointer (some ⟨bf1, 0, none⟩)), (.pointer (some ⟨bf2, 0, none⟩))] h R :=
  FL.sound mixed ck78 ⟨rfl, Eq.mp (by unfold sh78; kernel_rfl) x⟩
/- (*quern/live.flow).through$1 -/
def fl79 : FL := ⟨18, (.seq (.reg [sv 5 (.ld .ptr (t 1)), sv 6 (.nck (t 5)), sv 7 (.fad 1 (t 6)), sv 8 (.ld .slice (t 7)), sv 9 (.mov (t 0)), sv 10 (.idx 1 (t 8) (t 9)), sv 11 (.ld (.int .i64) (t 10)), sv 4 (.mov (t 11))]) (.seq (.reg [sv 12 (.mov (t 4)), sv 13 (.cmp .gtr (t 12) (ci 0))]) (.cond (t 13) (.reg [sv 14 (.ld .slice (t 2)), sv 15 (.mov (t 4)), sv 16 (.ar .sub true (t 15) (ci 1)), se 17 (.call 80 [(t 14), (t 16)] .unit)]) .skip))), []⟩
theorem ck79 : chkFL Tryd.prog 79 fl79 = true := by kernel_rfl
def sh79 (n_0 : Int) (bf0 : Nat) (bf1 : Nat) (h : H) (R : Value → H → Prop) : Prop :=
 ∃ (pv_5 : Option Addr), cell h ⟨bf0, 0, none⟩ = some (.pointer pv_5) ∧
 (pv_5 : Option Addr) ≠ none ∧
 (onP pv_5 fun bv_7 ov_7 =>
 ∃ (av_8 : Option Addr) (nv_8 cv_8 : Nat), cell h ⟨bv_7, (ov_7 + 1), none⟩ = some (.slice av_8 nv_8 cv_8) ∧
 0 ≤ n_0 ∧ n_0 < (↑nv_8 : Int) ∧
 (onP av_8 fun bv_10 ov_10 =>
 ∃ (v_11 : Int), cell h ⟨bv_10, (ov_10 + (n_0).toNat * 1), none⟩ = some (.int .i64 v_11) ∧
 (((0 < v_11) →
 ∃ (av_14 : Option Addr) (nv_14 cv_14 : Nat), cell h ⟨bf1, 0, none⟩ = some (.slice av_14 nv_14 cv_14) ∧
 InR .i64 (v_11 - 1) ∧
 HC Tryd.prog 80 [(.slice av_14 nv_14 cv_14), (.int .i64 (v_11 - 1))] h fun rv_17 h1 =>
 rv_17 = (.tuple ⟨[]⟩) ∧
 R (.tuple ⟨[]⟩) h1) ∧
 (¬ (0 < v_11) →
 R (.tuple ⟨[]⟩) h))))
theorem hc79 {n_0 : Int} {bf0 : Nat} {bf1 : Nat} {h : H} {R : Value → H → Prop} (x : sh79 n_0 bf0 bf1 h R) : HC Tryd.prog 79 [(.int .i64 n_0), (.pointer (some ⟨bf0, 0, none⟩)), (.pointer (some ⟨bf1, 0, none⟩))] h R :=
  FL.sound mixed ck79 ⟨rfl, Eq.mp (by unfold sh79; kernel_rfl) x⟩
/- math/bits.TrailingZeros64 -/
def fl86 : FL := ⟨14, (.seq (.reg [sv 2 (.mov (ci 0))]) (.seq (.seq (.reg [sv 3 (.mov (t 0)), sv 4 (.cmp .eql (t 3) (.const (Go.Value.int Go.IntKind.u64 0)))]) (.cond (t 4) (.seq (.reg [sv 2 (.mov (ci 64))]) .ret) .skip)) (.seq (.reg [sv 5 (.mov (t 0)), sv 6 (.mov (t 0)), sv 7 (.ng (t 6)), sv 8 (.bt .and (t 5) (t 7)), sv 9 (.ar .mul false (t 8) (.const (Go.Value.int Go.IntKind.u64 285870213051353865))), sv 10 (.sh .shr (t 9) (.const (Go.Value.int Go.IntKind.u64 58))), sv 11 (.idr 64 1 (.global 0) (t 10)), sv 12 (.ld (.int .u8) (t 11)), sv 13 (.cvi .i64 (t 12)), sv 2 (.mov (t 13))]) .ret))), [.tmp 2]⟩
theorem ck86 : chkFL Tryd.prog 86 fl86 = true := by kernel_rfl
def sh86 (x_0 : Int) (h : H) (R : Value → H → Prop) : Prop :=
 (((x_0 = 0) →
 R (.int .i64 64) h) ∧
 (¬ (x_0 = 0) →
 0 ≤ (58 : Int) ∧
 0 ≤ (shF .shr .u64 (IntKind.wrap .u64 ((bitsF .and .u64 x_0 (IntKind.wrap .u64 (-x_0))) * 285870213051353865)) 58) ∧ (shF .shr .u64 (IntKind.wrap .u64 ((bitsF .and .u64 x_0 (IntKind.wrap .u64 (-x_0))) * 285870213051353865)) 58) < (64 : Int) ∧
 ∃ (v_12 : Int), cell h ⟨0, (0 + ((shF .shr .u64 (IntKind.wrap .u64 ((bitsF .and .u64 x_0 (IntKind.wrap .u64 (-x_0))) * 285870213051353865)) 58)).toNat * 1), none⟩ = some (.int .u8 v_12) ∧
 InR .i64 v_12 ∧
 R (.int .i64 v_12) h))
theorem hc86 {x_0 : Int} {h : H} {R : Value → H → Prop} (x : sh86 x_0 h R) : HC Tryd.prog 86 [(.int .u64 x_0)] h R :=
  FL.sound mixed ck86 ⟨rfl, Eq.mp (by unfold sh86; kernel_rfl) x⟩
end Go.Proofs.Try

/- Words of bits, and rows of them. -/
set_option maxRecDepth 100000
set_option linter.unusedVariables false
set_option linter.unusedSimpArgs false
open Go Go.Fw Go.Proofs
namespace Go.Proofs.Try

abbrev W := BitVec 64
theorem ofInt_w (v : W) : BitVec.ofInt 64 (v.toNat : Int) = v := by simp
theorem wrap_w (v : W) : IntKind.wrap .u64 (v.toNat : Int) = (v.toNat : Int) := wrap_in (u64ok (by omega) (by have := v.isLt; omega))
theorem bw_or (v u : W) : bitsF .or .u64 v.toNat u.toNat = ((v ||| u).toNat : Int) := by
  show IntKind.wrap .u64 ((BitVec.ofInt 64 (v.toNat : Int) ||| BitVec.ofInt 64 (u.toNat : Int)).toNat : Int) = _
  rw [ofInt_w, ofInt_w, wrap_w]
theorem bw_and (v u : W) : bitsF .and .u64 v.toNat u.toNat = ((v &&& u).toNat : Int) := by
  show IntKind.wrap .u64 ((BitVec.ofInt 64 (v.toNat : Int) &&& BitVec.ofInt 64 (u.toNat : Int)).toNat : Int) = _
  rw [ofInt_w, ofInt_w, wrap_w]
theorem bw_andNot (v u : W) : bitsF .andNot .u64 v.toNat u.toNat = ((v &&& ~~~u).toNat : Int) := by
  show IntKind.wrap .u64 ((BitVec.ofInt 64 (v.toNat : Int) &&& ~~~ BitVec.ofInt 64 (u.toNat : Int)).toNat : Int) = _
  rw [ofInt_w, ofInt_w, wrap_w]
theorem sh_r {n : Int} (h : 0 ≤ n) : shF .shr .i64 n 6 = n / 64 := by
  show n.fdiv (2 ^ 6) = n / 64
  rw [Int.fdiv_eq_ediv_of_nonneg _ (by decide)]; rfl
theorem and63 {n : Int} (h : 0 ≤ n) (h2 : n ≤ 9223372036854775807) : bitsF .and .i64 n 63 = n % 64 := by
  obtain ⟨m, rfl⟩ := Int.eq_ofNat_of_zero_le h
  show IntKind.wrap .i64 ((BitVec.ofInt 64 (m : Int) &&& BitVec.ofInt 64 63).toNat : Int) = _
  have e : (BitVec.ofInt 64 (m : Int) &&& BitVec.ofInt 64 63).toNat = m % 64 := by
    rw [BitVec.toNat_and, BitVec.ofInt_natCast, BitVec.toNat_ofNat, show (BitVec.ofInt 64 63).toNat = 2 ^ 6 - 1 by decide, Nat.and_two_pow_sub_one_eq_mod]
    omega
  rw [e, wrap_in (i64ok (by omega) (by omega))]; rfl
theorem shl1 {k : Nat} (h : k < 64) : shF .shl .u64 1 (k : Int) = ((1#64 <<< k).toNat : Int) := by
  show IntKind.wrap .u64 (1 * 2 ^ (min k 64)) = _
  rw [Nat.min_eq_left (by omega), Int.one_mul]
  have hlt : 2 ^ k < 2 ^ 64 := Nat.pow_lt_pow_right (by omega) h
  have e : (1#64 <<< k).toNat = 2 ^ k := by
    rw [BitVec.toNat_shiftLeft]
    simp only [BitVec.toNat_ofNat, Nat.shiftLeft_eq]
    rw [show 1 % 2 ^ 64 = 1 by decide, Nat.one_mul, Nat.mod_eq_of_lt hlt]
  rw [e]
  have hc : ((2 ^ k : Nat) : Int) = (2 : Int) ^ k := by simp
  rw [← hc]
  exact wrap_in (u64ok (by omega) (by omega))

abbrev OwnW := Own (fun v : W => [Value.int .u64 v.toNat]) 1
/-- Is i in the row? -/
def inR (l : List W) (i : Nat) : Bool := (l[i / 64]?.getD 0#64).getLsbD (i % 64)
theorem OwnW.get {h : H} {p : Option Addr} {b : Nat} {l : List W} (w : OwnW h p b l) {i : Int} (h1 : i.toNat < l.length) {K : Int → Prop} (hk : ∀ x, l[i.toNat]? = some x → K x.toNat) :
    onP p fun b o => ∃ v, Fw.cell h ⟨b, o + i.toNat * 1, none⟩ = some (.int .u64 v) ∧ K v := by
  have hx : l[i.toNat]? = some l[i.toNat] := by simp [h1]
  have := Own.get1 (g := fun v : W => Value.int .u64 v.toNat) w hx
  exact onP_at this.1 ⟨_, this.2, hk _ hx⟩
theorem OwnW.put {h : H} {p : Option Addr} {b : Nat} {l : List W} (w : OwnW h p b l) {i : Int} (h1 : i.toNat < l.length) (x' : W) {v : Int} (hv : v = x'.toNat) {K : H → Prop} (hk : ∀ h', OwnW h' p b (l.set i.toNat x') → Mod (fun c => c = b) h h' → K h') :
    onP p fun b o => stQ 1 h b (o + i.toNat * 1) [.int .u64 v] K := by
  subst hv
  have hx : l[i.toNat]? = some l[i.toNat] := by simp [h1]
  exact onP_at (w.ptr (ne_nil hx)) (Own.put1 (g := fun v : W => Value.int .u64 v.toNat) w h1 rfl hk)

def putW (l : List W) (n : Nat) : List W := l.set (n / 64) (l[n / 64]?.getD 0 ||| (1#64 <<< (n % 64)))
def dropW (l : List W) (n : Nat) : List W := l.set (n / 64) (l[n / 64]?.getD 0 &&& ~~~(1#64 <<< (n % 64)))
theorem bit1 {k j : Nat} (hk : k < 64) (hj : j < 64) : (1#64 <<< k).getLsbD j = decide (j = k) := by
  rw [BitVec.getLsbD_shiftLeft]
  by_cases h : j = k
  · subst h; simp [hj]
  · rcases Nat.lt_or_ge j k with hlt | hge
    · simp [hlt, h]
    · have : j - k ≠ 0 := by omega
      simp [h, this]
theorem inR_put {l : List W} {n : Nat} (hn : n < 64 * l.length) (i : Nat) : inR (putW l n) i = (inR l i || decide (i = n)) := by
  unfold inR putW
  by_cases h : i / 64 = n / 64
  · rw [h, List.getElem?_set_self (by omega), Option.getD_some, BitVec.getLsbD_or, bit1 (by omega) (by omega)]
    congr 1
    exact decide_eq_decide.2 ⟨fun e => by omega, fun e => by omega⟩
  · rw [List.getElem?_set_ne (fun e => h e.symm)]
    have : decide (i = n) = false := by simp; rintro rfl; exact h rfl
    rw [this, Bool.or_false]
theorem inR_drop {l : List W} {n : Nat} (hn : n < 64 * l.length) (i : Nat) : inR (dropW l n) i = (inR l i && !decide (i = n)) := by
  unfold inR dropW
  by_cases h : i / 64 = n / 64
  · rw [h, List.getElem?_set_self (by omega), Option.getD_some, BitVec.getLsbD_and, BitVec.getLsbD_not, bit1 (by omega) (by omega)]
    have : decide (i % 64 < 64) = true := by simp; omega
    rw [this, Bool.true_and]
    congr 2
    exact decide_eq_decide.2 ⟨fun e => by omega, fun e => by omega⟩
  · rw [List.getElem?_set_ne (fun e => h e.symm)]
    have : decide (i = n) = false := by simp; rintro rfl; exact h rfl
    rw [this, Bool.not_false, Bool.and_true]

theorem c80 {h : H} {p : Option Addr} {n c b : Nat} {l : List W} {i : Int} (w : OwnW h p b l) (hn : l.length = n) (h0 : 0 ≤ i) (h1 : i < 64 * l.length) (h2 : i ≤ 9223372036854775807) {R : Value → H → Prop} (k : ∀ h', OwnW h' p b (putW l i.toNat) → Mod (fun c => c = b) h h' → R (.tuple ⟨[]⟩) h') :
    HC Tryd.prog 80 [.slice p n c, .int .i64 i] h R := by
  apply hc80; unfold sh80
  rw [sh_r h0, and63 h0 h2]
  have e1 : (i / 64).toNat = i.toNat / 64 := by omega
  have e2 : i % 64 = ((i.toNat % 64 : Nat) : Int) := by omega
  have hlt : (i / 64).toNat < l.length := by omega
  refine ⟨by omega, by omega, by omega, ?_⟩
  have hx : l[(i / 64).toNat]? = some l[(i / 64).toNat] := by simp [hlt]
  have g := Own.get1 (g := fun v : W => Value.int .u64 v.toNat) w hx
  refine onP_at g.1 ⟨by omega, _, g.2, by omega, by omega, OwnW.put w hlt (l[(i / 64).toNat] ||| (1#64 <<< (i.toNat % 64))) ?_ fun h' w' m' => k h' ?_ m'⟩
  · rw [e2, shl1 (Nat.mod_lt _ (by decide)), bw_or]
  · unfold putW
    rw [← e1, hx]; exact w'
theorem c82 {h : H} {p : Option Addr} {n c b : Nat} {l : List W} {i : Int} (w : OwnW h p b l) (hn : l.length = n) (h0 : 0 ≤ i) (h1 : i < 64 * l.length) (h2 : i ≤ 9223372036854775807) {R : Value → H → Prop} (k : ∀ h', OwnW h' p b (dropW l i.toNat) → Mod (fun c => c = b) h h' → R (.tuple ⟨[]⟩) h') :
    HC Tryd.prog 82 [.slice p n c, .int .i64 i] h R := by
  apply hc82; unfold sh82
  rw [sh_r h0, and63 h0 h2]
  have e1 : (i / 64).toNat = i.toNat / 64 := by omega
  have e2 : i % 64 = ((i.toNat % 64 : Nat) : Int) := by omega
  have hlt : (i / 64).toNat < l.length := by omega
  refine ⟨by omega, by omega, by omega, ?_⟩
  have hx : l[(i / 64).toNat]? = some l[(i / 64).toNat] := by simp [hlt]
  have g := Own.get1 (g := fun v : W => Value.int .u64 v.toNat) w hx
  refine onP_at g.1 ⟨by omega, _, g.2, by omega, by omega, OwnW.put w hlt (l[(i / 64).toNat] &&& ~~~(1#64 <<< (i.toNat % 64))) ?_ fun h' w' m' => k h' ?_ m'⟩
  · rw [e2, shl1 (Nat.mod_lt _ (by decide)), bw_andNot]
  · unfold dropW
    rw [← e1, hx]; exact w'
end Go.Proofs.Try

/- Rows of bits: join. -/
set_option maxRecDepth 100000
set_option linter.unusedVariables false
set_option linter.unusedSimpArgs false
open Go Go.Fw Go.Proofs
namespace Go.Proofs.Try

theorem w_ne {v u : W} : (¬ (((v &&& ~~~u).toNat : Nat) : Int) = 0) ↔ ∃ j, j < 64 ∧ v.getLsbD j = true ∧ u.getLsbD j = false := by
  constructor
  · intro h
    refine Classical.byContradiction fun hn => h ?_
    have : v &&& ~~~u = 0#64 := by
      apply BitVec.eq_of_getLsbD_eq
      intro j hj
      rw [BitVec.getLsbD_and, BitVec.getLsbD_not, BitVec.getLsbD_zero]
      have hd : decide (j < 64) = true := by simp [hj]
      rw [hd, Bool.true_and]
      cases hv : v.getLsbD j with
      | false => rfl
      | true =>
        cases hu : u.getLsbD j with
        | true => rfl
        | false => exact absurd ⟨j, hj, hv, hu⟩ hn
    rw [this]; rfl
  · rintro ⟨j, hj, h1, h2⟩ h
    have hz : (v &&& ~~~u).toNat = 0 := by omega
    have : v &&& ~~~u = 0#64 := BitVec.eq_of_toNat_eq hz
    have hb := congrArg (fun x : W => x.getLsbD j) this
    simp only [BitVec.getLsbD_and, BitVec.getLsbD_not, BitVec.getLsbD_zero, h1, h2, Bool.true_and, Bool.not_false, Bool.and_true, decide_eq_false_iff_not] at hb
    exact hb hj

/-- A row with another put in, up to the word v. -/
structure Joined (r o s : List W) (v : Nat) : Prop where
  len : s.length = r.length
  lo : ∀ i, i < v → ∀ a b, r[i]? = some a → o[i]? = some b → s[i]? = some (a ||| b)
  hi : ∀ i, v ≤ i → s[i]? = r[i]?
def News (r o : List W) (v : Nat) : Prop := ∃ i, i < 64 * v ∧ inR o i = true ∧ inR r i = false
theorem news_succ {r o : List W} {v : Nat} {a b : W} (ha : r[v]? = some a) (hb : o[v]? = some b) : News r o (v + 1) ↔ News r o v ∨ ¬ (((b &&& ~~~a).toNat : Nat) : Int) = 0 := by
  rw [w_ne]
  constructor
  · rintro ⟨i, h1, h2, h3⟩
    by_cases h : i < 64 * v
    · exact .inl ⟨i, h, h2, h3⟩
    · have hd : i / 64 = v := by omega
      unfold inR at h2 h3
      rw [hd, hb] at h2; rw [hd, ha] at h3
      exact .inr ⟨i % 64, by omega, h2, h3⟩
  · rintro (⟨i, h1, h2⟩ | ⟨j, h1, h2, h3⟩)
    · exact ⟨i, by omega, h2⟩
    · have hd : (64 * v + j) / 64 = v := by omega
      have hm : (64 * v + j) % 64 = j := by omega
      exact ⟨64 * v + j, by omega, by unfold inR; rw [hd, hm, hb]; exact h2, by unfold inR; rw [hd, hm, ha]; exact h3⟩
theorem Joined.inR {r o s : List W} (x : Joined r o s r.length) (hl : o.length = r.length) (i : Nat) : inR s i = (inR r i || inR o i) := by
  unfold Try.inR
  by_cases h : i / 64 < r.length
  · have ha : r[i / 64]? = some r[i / 64] := by simp [h]
    have hb : o[i / 64]? = some (o[i / 64]'(by omega)) := by simp
    rw [x.lo _ h _ _ ha hb, ha, hb]
    exact BitVec.getLsbD_or
  · rw [List.getElem?_eq_none (by rw [x.len]; omega), List.getElem?_eq_none (by omega), List.getElem?_eq_none (by omega)]
    simp

theorem c63 {h : H} {p q : Option Addr} {n m c d b b' : Nat} {r o : List W} (wr : OwnW h p b r) (wo : OwnW h q b' o) (hn : r.length = n) (hm : o.length = m) (hl : m = n) (hne : r ≠ [] → b ≠ b') (hz : (n : Int) < 9223372036854775807) {R : Value → H → Prop}
    (k : ∀ more s h', OwnW h' p b s → s.length = r.length → (∀ i, inR s i = (inR r i || inR o i)) → (more = true ↔ ∃ i, i < 64 * n ∧ inR o i = true ∧ inR r i = false) → Mod (SB b r) h h' → R (.bool more) h') :
    HC Tryd.prog 63 [.slice p n c, .slice q m d] h R := by
  subst hl
  apply hc63; unfold sh63
  refine ⟨fun more v => (fun h' => 0 ≤ v ∧ v ≤ m ∧ Mod (SB b r) h h' ∧ (more = true ↔ News r o v.toNat) ∧ ∃ s, OwnW h' p b s ∧ Joined r o s v.toNat, fun _ => (m - v).toNat), ⟨by omega, by omega, Mod.refl _ _, ⟨fun h => by simp at h, fun ⟨i, h1, _⟩ => by simp at h1⟩, r, wr, rfl, fun i hi => by simp at hi, fun i _ => rfl⟩, ?_⟩
  rintro more v h1 ⟨v0, v1, m1, hmo, s, ws, J⟩
  refine ⟨fun hlt => ⟨v0, hlt, ?_⟩, fun hge => ?_⟩
  · have hne' : r ≠ [] := by rintro rfl; simp at hn; omega
    have wo1 : OwnW h1 q b' o := wo.mod m1 fun ⟨e, _⟩ => hne hne' e.symm
    have ha : r[v.toNat]? = some (r[v.toNat]'(by omega)) := by simp
    have hb : o[v.toNat]? = some (o[v.toNat]'(by omega)) := by simp
    generalize (r[v.toNat]'(by omega)) = a at ha
    generalize (o[v.toNat]'(by omega)) = bb at hb
    have hs : s[v.toNat]? = some a := by rw [J.hi _ (Nat.le_refl _)]; exact ha
    have gs := Own.get1 (g := fun v : W => Value.int .u64 v.toNat) ws hs
    have go := Own.get1 (g := fun v : W => Value.int .u64 v.toNat) wo1 hb
    have hv1 : (v + 1).toNat = v.toNat + 1 := by omega
    have hsl : v.toNat < s.length := by have := J.len; omega
    have nx : ∀ {more' : Bool} {h2 : H}, (more' = true ↔ News r o (v.toNat + 1)) → OwnW h2 p b (s.set v.toNat (a ||| bb)) → Mod (fun c => c = b) h1 h2 → (0 ≤ v + 1 ∧ v + 1 ≤ m ∧ Mod (SB b r) h h2 ∧ (more' = true ↔ News r o (v + 1).toNat) ∧ ∃ s, OwnW h2 p b s ∧ Joined r o s (v + 1).toNat) ∧ (m - (v + 1)).toNat < (m - v).toNat := by
      intro more' h2 hmo' w2 m2
      have J' : Joined r o (s.set v.toNat (a ||| bb)) (v.toNat + 1) := by
        refine ⟨by rw [List.length_set]; exact J.len, fun i hi a' b' ha' hb' => ?_, fun i hi => by rw [List.getElem?_set_ne (by omega)]; exact J.hi i (by omega)⟩
        by_cases he : i = v.toNat
        · subst he
          cases ha.symm.trans ha'
          cases hb.symm.trans hb'
          exact List.getElem?_set_self hsl
        · rw [List.getElem?_set_ne (fun e => he e.symm)]
          exact J.lo i (by omega) a' b' ha' hb'
      rw [← hv1] at hmo' J'
      exact ⟨⟨by omega, by omega, m1.trans m2 fun c _ hc => ⟨hc, hne'⟩, hmo', _, w2, J'⟩, by omega⟩
    refine onP_at go.1 ⟨_, go.2, fun ht => ⟨v0, by omega, onP_at gs.1 ⟨_, gs.2, v0, by omega, ?_⟩⟩, fun hf => ⟨v0, by omega, onP_at gs.1 ⟨_, gs.2, v0, by omega, onP_at gs.1 ⟨_, gs.2, v0, by omega, ?_⟩⟩⟩⟩
    · rw [bw_or]
      refine OwnW.put ws hsl (a ||| bb) rfl fun h2 w2 m2 => ⟨i64ok (by omega) (by omega), nx ?_ w2 m2⟩
      rw [news_succ ha hb]
      exact ⟨fun _ => .inl (hmo.1 ht), fun _ => rfl⟩
    · rw [bw_or, bw_andNot]
      refine OwnW.put ws hsl (a ||| bb) rfl fun h2 w2 m2 => ⟨i64ok (by omega) (by omega), nx ?_ w2 m2⟩
      rw [news_succ ha hb, decide_eq_true_eq]
      refine ⟨.inr, fun h => h.elim (fun h => ?_) fun h => h⟩
      have := hmo.2 h; rw [hf] at this; cases this
  · rw [show v.toNat = r.length by omega] at J hmo
    refine k more s h1 ws J.len (J.inR (by omega)) ?_ m1
    rw [hmo, hn]; rfl
end Go.Proofs.Try

/- meet, and the number of a word's lowest bit. -/
set_option maxRecDepth 100000
set_option linter.unusedVariables false
set_option linter.unusedSimpArgs false
open Go Go.Fw Go.Proofs
namespace Go.Proofs.Try

def meetI (x : Itv) (r p : Int) : Itv := if x.reg < 0 then ⟨r, p, p⟩ else ⟨x.reg, if p < x.frm then p else x.frm, if p > x.to then p else x.to⟩
def mtE (l : List Itv) (e : Ev) : List Itv := match l[e.1.toNat]? with
  | some x => l.set e.1.toNat (meetI x e.1 e.2)
  | none => l
def mts (l : List Itv) (es : List Ev) : List Itv := es.foldl mtE l
theorem mtE_len (l : List Itv) (e : Ev) : (mtE l e).length = l.length := by unfold mtE; split <;> simp
theorem mts_len : ∀ (es : List Ev) (l : List Itv), (mts l es).length = l.length
  | [], l => rfl
  | e :: es, l => (mts_len es _).trans (mtE_len l e)
theorem mts_append (l : List Itv) (es fs : List Ev) : mts l (es ++ fs) = mts (mts l es) fs := by simp [mts]

theorem c30 {h : H} {p : Option Addr} {n c b : Nat} {l : List Itv} {r place : Int} (w : OwnV h p b l) (hn : l.length = n) (h0 : 0 ≤ r) (h1 : r < n) {R : Value → H → Prop} (k : ∀ h', OwnV h' p b (mts l [(r, place)]) → Mod (fun c => c = b ∧ l ≠ []) h h' → R (.tuple ⟨[]⟩) h') :
    HC Tryd.prog 30 [.slice p n c, .int .i64 r, .int .i64 place] h R := by
  obtain ⟨x, hx⟩ : ∃ x, l[r.toNat]? = some x := ⟨l[r.toNat]'(by omega), by simp⟩
  have hlen : r.toNat < l.length := by omega
  have hne : l ≠ [] := ne_nil hx
  obtain ⟨q0, q1, q2, q3⟩ := w.cell hx
  have fin : ∀ h', OwnV h' p b (l.set r.toNat (meetI x r place)) → Mod (fun c => c = b) h h' → R (.tuple ⟨[]⟩) h' := fun h' w' m => k h' (by simp only [mts, List.foldl_cons, List.foldl_nil, mtE, hx]; exact w') (m.wid fun c _ hc => ⟨hc, hne⟩)
  apply hc30; unfold sh30
  refine ⟨h0, by omega, onP_at q0 ⟨by simp, _, q1, fun hneg => ⟨rfl, by omega, rfl, by omega, rfl, by omega, by simp, ?_⟩, fun hnn => ⟨by simp, by simp, _, q2, _, q3, by simp, ?_⟩⟩⟩
  · obtain ⟨cs, e, h1, h2, h3⟩ := Own.store (enc := ive) (k := 3) (fun _ => rfl) (by omega) w hx (j := 0) (vs := [.int .i64 r, .int .i64 place, .int .i64 place]) (x' := ⟨r, place, place⟩) (by simp) rfl
    refine ⟨cs, e, h1, h2, rfl, rfl, fun h' hu => fin h' ?_ (h3 h' hu).2⟩
    rw [meetI, if_pos hneg]; exact (h3 h' hu).1
  · refine w.put hx ⟨x.reg, if place < x.frm then place else x.frm, x.to⟩ (by omega) rfl rfl fun h1 w1 m1 => ⟨by simp, ?_⟩
    have hx1 := List.getElem?_set_self (a := (⟨x.reg, if place < x.frm then place else x.frm, x.to⟩ : Itv)) hlen
    refine w1.put hx1 (meetI x r place) (by omega) (by rw [meetI, if_neg hnn]; rfl) rfl fun h2 w2 m2 => fin h2 (by rw [List.set_set] at w2; exact w2) (m1.trans m2 fun _ _ h => h)

/-! ### The lowest bit -/
def low (v : W) (k : Nat) : Prop := k < 64 ∧ v.getLsbD k = true ∧ ∀ j, j < k → v.getLsbD j = false
theorem low_ex {v : W} (h : v ≠ 0#64) : ∃ k, low v k := by
  have : ∃ k, v.getLsbD k = true := by
    refine Classical.byContradiction fun hn => h (BitVec.eq_of_getLsbD_eq fun i hi => ?_)
    rw [BitVec.getLsbD_zero]
    cases hv : v.getLsbD i with
    | false => rfl
    | true => exact absurd ⟨i, hv⟩ hn
  obtain ⟨k, hk, hm⟩ := exists_min this
  refine ⟨k, ?_, hk, fun j hj => ?_⟩
  · refine Classical.byContradiction fun hn => ?_
    rw [BitVec.getLsbD_of_ge _ _ (by omega)] at hk; cases hk
  · cases hv : v.getLsbD j with
    | false => rfl
    | true => have := hm j hv; omega
theorem low_neg {v : W} {k : Nat} (h : low v k) : v &&& (-v) = 1#64 <<< k := by
  apply BitVec.eq_of_getLsbD_eq
  intro i hi
  rw [BitVec.getLsbD_and, BitVec.getLsbD_neg, bit1 h.1 hi]
  by_cases e : i = k
  · subst e
    have : ¬ ∃ j, j < i ∧ v.getLsbD j = true := fun ⟨j, h1, h2⟩ => by rw [h.2.2 j h1] at h2; cases h2
    simp [h.2.1, this]
  · rcases Nat.lt_or_ge i k with hlt | hge
    · rw [h.2.2 i hlt]; simp [e]
    · have : ∃ j, j < i ∧ v.getLsbD j = true := ⟨k, by omega, h.2.1⟩
      simp [this, e, hi]
def tabL : List Int := [0, 1, 56, 2, 57, 49, 28, 3, 61, 58, 42, 50, 38, 29, 17, 4, 62, 47, 59, 36, 45, 43, 51, 22, 53, 39, 33, 30, 24, 18, 12, 5, 63, 55, 48, 27, 60, 41, 37, 16, 46, 35, 44, 21, 52, 32, 23, 11, 54, 26, 40, 15, 34, 20, 31, 10, 25, 14, 19, 9, 13, 8, 7, 6]
/-- The table that the library lays. -/
def TabAt (h : H) : Prop := ∀ (i : Nat) (n : Int), tabL[i]? = some n → cell h ⟨0, i, none⟩ = some (.int .u8 n)
def brI (k : Nat) : Int := shF .shr .u64 (IntKind.wrap .u64 (2 ^ k * 285870213051353865)) 58
theorem br_ok : (List.range 64).all (fun k => decide (0 ≤ brI k) && decide (brI k < 64) && decide (tabL[(brI k).toNat]? = some (k : Int))) = true := by kernel_rfl
theorem TabAt.ext {h h' : H} (t : TabAt h) (e : Ext h h') : TabAt h' := fun i n hn => e.cell (t i n hn)
theorem c86 {h : H} {v : W} (ht : TabAt h) {R : Value → H → Prop} (k0 : v = 0#64 → R (.int .i64 64) h) (k : ∀ q, low v q → R (.int .i64 q) h) : HC Tryd.prog 86 [.int .u64 v.toNat] h R := by
  apply hc86; unfold sh86
  refine ⟨fun hz => k0 (BitVec.eq_of_toNat_eq (by simp; omega)), fun hnz => ?_⟩
  have hv : v ≠ 0#64 := by rintro rfl; exact hnz rfl
  obtain ⟨q, hq⟩ := low_ex hv
  have e1 : IntKind.wrap .u64 (-(v.toNat : Int)) = ((-v).toNat : Int) := by
    have hw : IntKind.wrap .u64 (-(v.toNat : Int)) = (-(v.toNat : Int)) % 18446744073709551616 := by rfl
    rw [hw, BitVec.toNat_neg]
    have := v.isLt
    omega
  have e2 : ((1#64 <<< q).toNat : Int) = 2 ^ q := by
    have := shl1 hq.1
    rw [← this]
    show IntKind.wrap .u64 (1 * 2 ^ (min q 64)) = _
    rw [Nat.min_eq_left (by have := hq.1; omega), Int.one_mul]
    have hlt : 2 ^ q < 2 ^ 64 := Nat.pow_lt_pow_right (by omega) hq.1
    have hc : ((2 ^ q : Nat) : Int) = (2 : Int) ^ q := by simp
    rw [← hc]
    exact wrap_in (u64ok (Int.natCast_nonneg _) (by omega))
  rw [e1, bw_and, low_neg hq, e2]
  have hb := List.all_eq_true.1 br_ok q (List.mem_range.2 hq.1)
  simp only [Bool.and_eq_true, decide_eq_true_eq] at hb
  obtain ⟨⟨b1, b2⟩, b3⟩ := hb
  refine ⟨by omega, b1, b2, _, ?_, i64ok (by omega) (by have := hq.1; omega), k q hq⟩
  have := ht _ _ b3
  rw [Nat.zero_add, Nat.mul_one]; exact this
end Go.Proofs.Try

/- The list of a row of bits. -/
set_option maxRecDepth 100000
set_option linter.unusedVariables false
set_option linter.unusedSimpArgs false
open Go Go.Fw Go.Proofs
namespace Go.Proofs.Try

def listTo (l : List W) (m : Nat) : List Int := ((List.range m).filter fun i => inR l i).map fun i : Nat => (i : Int)
theorem listTo_len (l : List W) (m : Nat) : (listTo l m).length ≤ m := by
  unfold listTo; rw [List.length_map]; exact Nat.le_trans (List.length_filter_le _ _) (by simp)
theorem listTo_succ (l : List W) (m : Nat) : listTo l (m + 1) = listTo l m ++ (if inR l m then [(m : Int)] else []) := by
  unfold listTo
  rw [List.range_succ, List.filter_append, List.map_append]
  congr 1
  by_cases h : inR l m = true <;> simp [h]
theorem listTo_skip {l : List W} {m : Nat} : ∀ {k : Nat}, (∀ j, m ≤ j → j < m + k → inR l j = false) → listTo l (m + k) = listTo l m
  | 0, _ => rfl
  | k + 1, h => by
    rw [← Nat.add_assoc, listTo_succ, h (m + k) (by omega) (by omega), listTo_skip (k := k) fun j h1 h2 => h j h1 (by omega)]
    simp
theorem clear_low {w : W} {q : Nat} (h : low w q) (j : Nat) : (w &&& (w - 1#64)).getLsbD j = (w.getLsbD j && decide (q < j)) := by
  rw [← BitVec.not_neg, BitVec.getLsbD_and, BitVec.getLsbD_not, BitVec.getLsbD_neg]
  by_cases hj : j < 64
  · by_cases e : q < j
    · have : ∃ i, i < j ∧ w.getLsbD i = true := ⟨q, e, h.2.1⟩
      simp [this, e, hj]
    · have : ¬ ∃ i, i < j ∧ w.getLsbD i = true := fun ⟨i, h1, h2⟩ => by rw [h.2.2 i (by omega)] at h2; cases h2
      simp [this, e, hj]
  · rw [BitVec.getLsbD_of_ge _ _ (by omega)]; simp

theorem c68 {h : H} {p : Option Addr} {n c b : Nat} {l : List W} (ht : TabAt h) (w : OwnW h p b l) (hn : l.length = n) (hs : n ≤ 100000) {R : Value → H → Prop}
    (k : ∀ p' n' c' b' h', OwnI h' p' b' (listTo l (64 * n)) → (listTo l (64 * n)).length = n' → (listTo l (64 * n) ≠ [] → h.size ≤ b') → Ext h h' → R (.slice p' n' c') h') :
    HC Tryd.prog 68 [.slice p n c] h R := by
  apply hc68; unfold sh68
  refine ⟨fun po no co v => (fun h' => 0 ≤ v ∧ v ≤ n ∧ Ext h h' ∧ GrowI h h' po no co (listTo l (64 * v.toNat)), fun _ => (n - v).toNat), ⟨by omega, by omega, Ext.rfl', Grow.nil _ _ _ _ _⟩, ?_⟩
  rintro po no co v h1 ⟨v0, v1, e1, G1⟩
  refine ⟨fun hlt => ⟨v0, hlt, ?_⟩, fun hge => ?_⟩
  · refine OwnW.get (w.ext e1) (by omega) fun x hx => ?_
    have hin : ∀ j, j < 64 → inR l (64 * v.toNat + j) = x.getLsbD j := fun j hj => by
      unfold inR
      rw [show (64 * v.toNat + j) / 64 = v.toNat by omega, show (64 * v.toNat + j) % 64 = j by omega, hx]; rfl
    refine ⟨fun po no co y => (fun h' => ∃ (u : W) (t : Nat), y = (u.toNat : Int) ∧ t ≤ 64 ∧ (∀ j, u.getLsbD j = (x.getLsbD j && decide (t ≤ j))) ∧ Ext h h' ∧ GrowI h h' po no co (listTo l (64 * v.toNat + t)), fun _ => y.toNat), ⟨x, 0, rfl, by omega, fun j => by simp, e1, G1⟩, ?_⟩
    rintro po1 no1 co1 y h2 ⟨u, t, rfl, t64, hu, e2, G2⟩
    refine ⟨fun hnz => ⟨i64ok (by omega) (by omega), c86 (ht.ext e2) (fun hz => absurd (by rw [hz]; rfl) hnz) fun q hq => ⟨q, rfl, i64ok (by omega) (by have := hq.1; omega), rfl, by omega, fun bv h4 hN => ?_⟩⟩, fun hz => ?_⟩
    · have hq64 := hq.1
      have huq := hq.2.1
      rw [hu] at huq
      simp only [Bool.and_eq_true, decide_eq_true_eq] at huq
      have hskip : listTo l (64 * v.toNat + q + 1) = listTo l (64 * v.toNat + t) ++ [64 * v + (q : Int)] := by
        rw [listTo_succ, hin q hq64, huq.1, if_pos rfl]
        congr 1
        · obtain ⟨d, rfl⟩ : ∃ d, q = t + d := ⟨q - t, by omega⟩
          rw [← Nat.add_assoc]
          refine listTo_skip fun j h1 h2 => ?_
          obtain ⟨z, rfl⟩ : ∃ z, j = 64 * v.toNat + z := ⟨j - 64 * v.toNat, by omega⟩
          rw [hin z (by omega)]
          have := hq.2.2 z (by omega)
          rw [hu] at this
          simp only [show t ≤ z by omega, decide_true, Bool.and_true] at this
          exact this
        · congr 1; omega
      have hl2 := G2.len
      have hl3 := listTo_len l (64 * v.toNat + t)
      refine Grow.app (enc := fun x : Int => [Value.int .i64 x]) (k := 1) (fun _ => rfl) (G2.ext hN.ext) ((e2.trans hN.ext).size) rfl (m := 1) (l' := [64 * v + (q : Int)]) rfl (New.rdc1 hN rfl) rfl (by omega) fun p' c' h5 G5 m5 _ => ?_
      have hune : u ≠ 0#64 := by rintro rfl; exact hnz rfl
      have hu1 : IntKind.wrap .u64 ((u.toNat : Int) - 1) = ((u - 1#64).toNat : Int) := by
        have hpos : 0 < u.toNat := Nat.pos_of_ne_zero fun h => hune (BitVec.eq_of_toNat_eq h)
        have := u.isLt
        have e : (u - 1#64).toNat = u.toNat - 1 := by
          rw [BitVec.toNat_sub]; simp; omega
        rw [e, wrap_in (u64ok (by omega) (by omega))]; omega
      rw [hu1, bw_and]
      refine ⟨⟨u &&& (u - 1#64), q + 1, rfl, by omega, fun j => ?_, m5.ext (e2.trans hN.ext) fun b' hb' ⟨h1, h2⟩ => by have := ((G2.ext hN.ext).lo h1 h2).1; omega, by rw [← Nat.add_assoc, hskip]; exact G5⟩, ?_⟩
      · rw [clear_low hq, hu, Bool.and_assoc]
        congr 1
        by_cases h1 : t ≤ j <;> by_cases h2 : q < j <;> simp [h1, h2] <;> omega
      · show ((u &&& (u - 1#64)).toNat : Int).toNat < (u.toNat : Int).toNat
        have hpos : 0 < u.toNat := Nat.pos_of_ne_zero fun h => hune (BitVec.eq_of_toNat_eq h)
        have e : (u - 1#64).toNat = u.toNat - 1 := by
          rw [BitVec.toNat_sub]; have := u.isLt; simp; omega
        have := Nat.and_le_right (n := u.toNat) (m := (u - 1#64).toNat)
        rw [BitVec.toNat_and, e] at *
        omega
    · have hz0 : u = 0#64 := BitVec.eq_of_toNat_eq (by have := Classical.not_not.1 hz; simp; omega)
      have hv1 : 64 * (v + 1).toNat = 64 * v.toNat + t + (64 - t) := by omega
      refine ⟨i64ok (by omega) (by omega), ⟨by omega, by omega, e2, ?_⟩, by show (n - (v + 1)).toNat < (n - v).toNat; omega⟩
      rw [hv1, listTo_skip]
      · exact G2
      · intro j h1 h2
        obtain ⟨z, rfl⟩ : ∃ z, j = 64 * v.toNat + z := ⟨j - 64 * v.toNat, by omega⟩
        rw [hin z (by omega)]
        have := hu z
        rw [hz0, BitVec.getLsbD_zero] at this
        simp only [show t ≤ z by omega, decide_true, Bool.and_true] at this
        exact this.symm
  · rw [show v.toNat = n by omega] at G1
    obtain ⟨b', w', hb'⟩ := G1.own
    exact k _ _ _ b' _ w' G1.len hb' e1
end Go.Proofs.Try

/- told: the registers of a row. -/
set_option maxRecDepth 100000
set_option linter.unusedVariables false
set_option linter.unusedSimpArgs false
open Go Go.Fw Go.Proofs
namespace Go.Proofs.Try

theorem set_map {L : List Int} {g : Int → Int} {v : Nat} {x : Int} (hx : L[v]? = some x) : ((L.take v).map g ++ L.drop v).set v (g x) = (L.take (v + 1)).map g ++ L.drop (v + 1) := by
  have hl : v < L.length := (List.getElem?_eq_some_iff.1 hx).1
  have hlen : ((L.take v).map g).length = v := by rw [List.length_map, List.length_take]; omega
  rw [List.set_append_right _ _ (by omega), hlen, Nat.sub_self, drop_get hx, List.set_cons_zero, List.take_add_one, hx, Option.toList_some, List.map_append, List.append_assoc]
  rfl
def nameOf (names : List Int) (i : Int) : Int := names[i.toNat]?.getD 0
def toldL (names : List Int) (l : List W) (n : Nat) : List Int := (listTo l (64 * n)).map (nameOf names)

theorem c48 {h : H} {bw ow : Nat} {p : Option Addr} {n c b : Nat} {l : List W} {np : Option Addr} {nn nc : Nat} {names : List Int} (ht : TabAt h) (w : OwnW h p b l) (hn : l.length = n) (hs : n ≤ 100000)
    (hc : cell h ⟨bw, ow + 2, none⟩ = some (.slice np nn nc)) (hnm : IntsAt h np nn names) (hb : ∀ i, inR l i = true → i < nn) {R : Value → H → Prop}
    (k : ∀ p' n' c' b' h', OwnI h' p' b' (toldL names l n) → (toldL names l n).length = n' → (toldL names l n ≠ [] → h.size ≤ b') → Ext h h' → R (.slice p' n' c') h') :
    HC Tryd.prog 48 [.pointer (some ⟨bw, ow, none⟩), .slice p n c] h R := by
  apply hc48; unfold sh48
  refine c68 ht w hn hs fun p' n' c' b' h1 w1 hl1 hb1 e1 => ⟨_, _, _, rfl, ?_⟩
  unfold toldL at k
  generalize hL : listTo l (64 * n) = L at w1 hl1 hb1 k
  have hLb : ∀ x ∈ L, 0 ≤ x ∧ x < nn := fun x hx => by
    rw [← hL] at hx
    unfold listTo at hx
    obtain ⟨i, hi, rfl⟩ := List.mem_map.1 hx
    have := hb i (List.mem_filter.1 hi).2
    omega
  have hLn := listTo_len l (64 * n)
  rw [hL] at hLn
  have hS0 : ∀ c, c < h.size → ¬ SB b' L c := fun c hc ⟨q1, q2⟩ => by have := hb1 q2; omega
  refine fwd n' (fun v h' => OwnI h' p' b' ((L.take v.toNat).map (nameOf names) ++ L.drop v.toNat) ∧ Mod (SB b' L) h1 h') (by omega) ⟨by simpa using w1, Mod.refl _ _⟩ fun v h2 v0 v1 ⟨w2, m2⟩ => ?_
  have e2 : Ext h h2 := m2.ext e1 hS0
  refine ⟨fun hlt => ⟨v0, hlt, ?_⟩, fun hge => ?_⟩
  · obtain ⟨x, hx⟩ : ∃ x, L[v.toNat]? = some x := ⟨L[v.toNat]'(by omega), by simp⟩
    have hxb := hLb x (List.mem_of_getElem? hx)
    have hlen : ((L.take v.toNat).map (nameOf names) ++ L.drop v.toNat).length = n' := by rw [List.length_append, List.length_map, List.length_take, List.length_drop]; omega
    have hcur : ((L.take v.toNat).map (nameOf names) ++ L.drop v.toNat)[v.toNat]? = some x := by
      have hl3 : ((L.take v.toNat).map (nameOf names)).length = v.toNat := by rw [List.length_map, List.length_take]; omega
      rw [List.getElem?_append_right (by omega), hl3, Nat.sub_self, drop_get hx]; rfl
    have gw := Own.get1 (g := fun x : Int => Value.int .i64 x) w2 hcur
    obtain ⟨y, b3, o3, hy, hp3, hc3⟩ := (hnm.ext e2).get hxb.1 hxb.2
    refine onP_at gw.1 ⟨_, gw.2, by simp, onP_at rfl ⟨_, _, _, e2.cell hc, hxb.1, hxb.2, onP_at hp3 ⟨y, hc3, v0, hlt, OwnI.put w2 (by omega) fun h3 w3 m3 => ⟨i64ok (by omega) (by omega), fwd_next v0 hlt ⟨?_, m2.trans m3 fun c _ hc => ⟨hc, ne_nil hx⟩⟩⟩⟩⟩⟩
    have hny : nameOf names x = y := by unfold nameOf; rw [hy]; rfl
    rw [← hny, set_map hx] at w3
    rw [show (v + 1).toNat = v.toNat + 1 by omega]; exact w3
  · rw [show v.toNat = L.length by omega, List.take_length, List.drop_length, List.append_nil] at w2
    exact k _ _ _ b' h2 w2 (by rw [List.length_map]; exact hl1) (fun hne => hb1 (by rintro rfl; exact hne rfl)) e2
end Go.Proofs.Try

/- wanted: what a block reads ahead of setting it; the closure that reads. -/
set_option maxRecDepth 100000
set_option linter.unusedVariables false
set_option linter.unusedSimpArgs false
open Go Go.Fw Go.Proofs
namespace Go.Proofs.Try

def DstIn (l : List Ins) (r : Int) : Prop := ∃ x ∈ l, x.dst = r
def ExpR : List Ins → Int → Prop
  | [], _ => False
  | x :: l, r => r ∈ x.args ∨ (x.dst ≠ r ∧ ExpR l r)
def ExpB (b : Blk) (r : Int) : Prop := ExpR b.body r ∨ (¬ DstIn b.body r ∧ b.term.value = r)
theorem dstIn_snoc {l : List Ins} {x : Ins} {r : Int} : DstIn (l ++ [x]) r ↔ DstIn l r ∨ x.dst = r := by
  unfold DstIn
  constructor
  · rintro ⟨y, hy, e⟩
    rcases List.mem_append.1 hy with h | h
    · exact .inl ⟨y, h, e⟩
    · rw [List.mem_singleton] at h; subst h; exact .inr e
  · rintro (⟨y, hy, e⟩ | e)
    · exact ⟨y, List.mem_append.2 (.inl hy), e⟩
    · exact ⟨x, List.mem_append.2 (.inr (List.mem_singleton.2 rfl)), e⟩
theorem expR_snoc {x : Ins} {r : Int} : ∀ {l : List Ins}, ExpR (l ++ [x]) r ↔ ExpR l r ∨ (¬ DstIn l r ∧ r ∈ x.args)
  | [] => by simp [ExpR, DstIn]
  | y :: l => by
    have hd : DstIn (y :: l) r ↔ y.dst = r ∨ DstIn l r := by
      unfold DstIn; simp
    simp only [List.cons_append, ExpR, expR_snoc (l := l), hd]
    by_cases h1 : y.dst = r <;> by_cases h2 : r ∈ y.args <;> simp [h1, h2]
/-- The lists' own sets say the same: what is live ahead of a block of which nothing is wanted behind. -/
theorem bit_onL {s : List Bool} {a : Int} {r : Nat} : bit (onL s a) r ↔ (r = a.toNat ∧ r < s.length) ∨ bit s r := by
  unfold onL
  rw [bit_set]
  constructor
  · rintro (⟨h1, h2, _⟩ | ⟨h1, h2⟩)
    · exact .inl ⟨h1, by omega⟩
    · exact .inr h2
  · rintro (⟨h1, h2⟩ | h)
    · exact .inl ⟨h1, by omega, rfl⟩
    · by_cases e : r = a.toNat
      · have := (List.getElem?_eq_some_iff.1 h).1; exact .inl ⟨e, by omega, rfl⟩
      · exact .inr ⟨e, h⟩
theorem bit_fold {r : Nat} : ∀ {l : List Int} {s : List Bool}, (∀ a ∈ l, 0 ≤ a) → (bit (l.foldl onL s) r ↔ (((r : Int) ∈ l ∧ r < s.length) ∨ bit s r))
  | [], s, _ => by simp
  | a :: l, s, h => by
    rw [List.foldl_cons, bit_fold (fun b hb => h b (by simp [hb])), bit_onL, onL_len]
    have ha := h a (by simp)
    have : r = a.toNat ↔ (r : Int) = a := by omega
    simp only [List.mem_cons, this]
    by_cases h1 : (r : Int) = a <;> by_cases h2 : (r : Int) ∈ l <;> by_cases h3 : r < s.length <;> simp [h1, h2, h3]
theorem bit_back {f : Fnc} {x : Ins} (hx : InsP f x) {s : List Bool} {r : Nat} (hr : r < s.length) : bit (backL s x) r ↔ ((r : Int) ∈ x.args ∨ (x.dst ≠ (r : Int) ∧ bit s r)) := by
  unfold backL
  rw [bit_fold (fun a ha => (hx.1 a ha).1)]
  split
  · rename_i hd
    rw [bit_set, List.length_set]
    have : r = x.dst.toNat ↔ x.dst = (r : Int) := by omega
    simp only [reduceCtorEq, and_false, false_or, this, ne_eq, hr, and_true]
  · rename_i hd
    have : ¬ x.dst = (r : Int) := by omega
    simp only [this, ne_eq, not_false_eq_true, true_and, hr, and_true]
/-- Behind a block's beginning: what it reads first, or passes on. -/
theorem bit_start {f : Fnc} {b : Blk} (hb : BlkOk f b) {s : List Bool} {r : Nat} (hr : r < s.length) : bit (startL s b) r ↔ (ExpB b r ∨ (¬ DstIn b.body r ∧ bit s r)) := by
  unfold startL ExpB
  have he : bit (endL s b.term.value) r ↔ (b.term.value = (r : Int) ∨ bit s r) := by
    unfold endL
    split
    · have := bit_onL (s := s) (a := b.term.value) (r := r)
      unfold onL at this
      rw [this]
      have e : r = b.term.value.toNat ↔ b.term.value = (r : Int) := by omega
      simp only [e, hr, and_true]
    · have : ¬ b.term.value = (r : Int) := by omega
      simp only [this, false_or]
  have key : ∀ (l : List Ins), (∀ y ∈ l, InsP f y) → (bit (l.foldr (fun x s => backL s x) (endL s b.term.value)) r ↔ (ExpR l r ∨ (¬ DstIn l r ∧ (b.term.value = (r : Int) ∨ bit s r)))) := by
    intro l
    induction l with
    | nil => intro _; simp [ExpR, DstIn, he]
    | cons y l ih =>
      intro h
      have hd : DstIn (y :: l) r ↔ y.dst = r ∨ DstIn l r := by unfold DstIn; simp
      rw [List.foldr_cons, bit_back (h y (by simp)) (by rw [foldr_backL_len, endL_len]; exact hr), ih (fun z hz => h z (by simp [hz])), hd]
      simp only [ExpR]
      by_cases h1 : y.dst = (r : Int) <;> by_cases h2 : (r : Int) ∈ y.args <;> simp [h1, h2]
  rw [key b.body fun y hy => (hb.ins y hy).1]
  by_cases h1 : DstIn b.body r <;> by_cases h2 : ExpR b.body r <;> simp [h1, h2]

theorem c78 {h : H} {r i : Int} {b0 b1 b2 bw ow : Nat} {sp xp : Option Addr} {sn sc xn xc sb xb : Nat} {S X : List Int} (h0 : cell h ⟨b0, 0, none⟩ = some (.slice sp sn sc)) (h1 : cell h ⟨b1, 0, none⟩ = some (.int .i64 i)) (h2 : cell h ⟨b2, 0, none⟩ = some (.pointer (some ⟨bw, ow, none⟩))) (h3 : cell h ⟨bw, ow + 1, none⟩ = some (.slice xp xn xc))
    (wS : OwnI h sp sb S) (wX : OwnI h xp xb X) (hS : S.length = sn) (hX : X.length = xn) (r0 : 0 ≤ r) (rS : r < sn) (rX : r < xn) (i0 : 0 ≤ i) (i1 : i ≤ 1000000) {R : Value → H → Prop}
    (k : ∀ h', (∀ t, S[r.toNat]? = some t → OwnI h' xp xb (if t ≠ i + 1 then X.set r.toNat 1 else X)) → Mod (fun c => c = xb ∧ X ≠ []) h h' → R (.tuple ⟨[]⟩) h') :
    HC Tryd.prog 78 [.int .i64 r, .pointer (some ⟨b0, 0, none⟩), .pointer (some ⟨b1, 0, none⟩), .pointer (some ⟨b2, 0, none⟩)] h R := by
  apply hc78; unfold sh78
  refine ⟨_, _, _, h0, r0, rS, OwnI.get wS (by omega) fun t ht => ⟨_, h1, i64ok (by omega) (by omega), fun hne => ⟨_, h2, by simp, onP_at rfl ⟨_, _, _, h3, r0, rX, OwnI.put wX (by omega) fun h' w' m' => k h' (fun t' ht' => ?_) (m'.wid fun c _ hc => ⟨hc, ?_⟩)⟩⟩, fun heq => k h (fun t' ht' => ?_) (Mod.refl _ _)⟩⟩
  · cases ht.symm.trans ht'; rw [if_pos hne]; exact w'
  · rintro rfl; simp at hX; omega
  · cases ht.symm.trans ht'; rw [if_neg heq]; exact wX
end Go.Proofs.Try

/- wanted: the registers that some block reads ahead of setting them. -/
set_option maxRecDepth 100000
set_option linter.unusedVariables false
set_option linter.unusedSimpArgs false
open Go Go.Fw Go.Proofs
namespace Go.Proofs.Try

def Xok (R : Nat) (X : List Int) (P : Nat → Prop) : Prop := X.length = R ∧ ∀ r t, X[r]? = some t → (t = 0 ∧ ¬ P r) ∨ (t = 1 ∧ P r)
def Sok (R : Nat) (S : List Int) (v : Int) (Q : Nat → Prop) : Prop := S.length = R ∧ ∀ r t, S[r]? = some t → t ≤ v + 1 ∧ (t = v + 1 ↔ Q r)
theorem Xok.iff {R : Nat} {X : List Int} {P Q : Nat → Prop} (x : Xok R X P) (h : ∀ r, r < R → (P r ↔ Q r)) : Xok R X Q := by
  refine ⟨x.1, fun r t ht => ?_⟩
  have hr : r < R := by rw [← x.1]; exact (List.getElem?_eq_some_iff.1 ht).1
  rw [← h r hr]; exact x.2 r t ht
theorem Sok.iff {R : Nat} {S : List Int} {v : Int} {P Q : Nat → Prop} (x : Sok R S v P) (h : ∀ r, r < R → (P r ↔ Q r)) : Sok R S v Q := by
  refine ⟨x.1, fun r t ht => ?_⟩
  have hr : r < R := by rw [← x.1]; exact (List.getElem?_eq_some_iff.1 ht).1
  rw [← h r hr]; exact x.2 r t ht
theorem Xok.read {R : Nat} {X S : List Int} {P Q : Nat → Prop} {v : Int} {r : Nat} {t : Int} (x : Xok R X P) (s : Sok R S v Q) (ht : S[r]? = some t) : Xok R (if t ≠ v + 1 then X.set r 1 else X) (fun q => P q ∨ (q = r ∧ ¬ Q r)) := by
  have hq := (s.2 r t ht).2
  split
  · rename_i hne
    have hQ : ¬ Q r := fun h => hne (hq.2 h)
    refine ⟨by rw [List.length_set]; exact x.1, fun q u hu => ?_⟩
    by_cases e : r = q
    · subst e
      have : r < X.length := by have := (List.getElem?_eq_some_iff.1 hu).1; rw [List.length_set] at this; exact this
      rw [List.getElem?_set_self this] at hu
      cases hu
      exact .inr ⟨rfl, .inr ⟨rfl, hQ⟩⟩
    · rw [List.getElem?_set_ne e] at hu
      rcases x.2 q u hu with ⟨h1, h2⟩ | ⟨h1, h2⟩
      · exact .inl ⟨h1, fun h => h.elim h2 fun h => e h.1.symm⟩
      · exact .inr ⟨h1, .inl h2⟩
  · rename_i heq
    have hQ : Q r := hq.1 (Classical.not_not.1 heq)
    exact x.iff fun q _ => ⟨.inl, fun h => h.elim id fun h => absurd hQ h.2⟩
theorem Sok.put {R : Nat} {S : List Int} {v : Int} {Q : Nat → Prop} (s : Sok R S v Q) (d : Nat) : Sok R (S.set d (v + 1)) v (fun q => Q q ∨ q = d) := by
  refine ⟨by rw [List.length_set]; exact s.1, fun q u hu => ?_⟩
  by_cases e : d = q
  · subst e
    have : d < S.length := by have := (List.getElem?_eq_some_iff.1 hu).1; rw [List.length_set] at this; exact this
    rw [List.getElem?_set_self this] at hu
    cases hu
    exact ⟨by omega, fun _ => .inr rfl, fun _ => rfl⟩
  · rw [List.getElem?_set_ne e] at hu
    have := s.2 q u hu
    exact ⟨this.1, fun h => .inl (this.2.1 h), fun h => h.elim this.2.2 fun h => absurd h.symm e⟩
theorem Sok.next {R : Nat} {S : List Int} {v : Int} {Q : Nat → Prop} (s : Sok R S v Q) : Sok R S (v + 1) (fun _ => False) :=
  ⟨s.1, fun r t ht => by have := (s.2 r t ht).1; exact ⟨by omega, fun h => by omega, fun h => h.elim⟩⟩

/-- A flow's cells. -/
structure FV where
  f : Value
  index : Value
  names : Value
  ahead : Value
  behind : Value
abbrev fve : FV → List Value := fun z => [z.f, z.index, z.names, z.ahead, z.behind]
abbrev OwnF (h : H) (b : Nat) (z : FV) : Prop := Own fve 5 h (some ⟨b, 0, none⟩) b [z]
theorem OwnF.get {h : H} {b : Nat} {z : FV} (w : OwnF h b z) (j : Nat) {v : Value} (hv : (fve z)[j]? = some v) : cell h ⟨b, 0 + j, none⟩ = some v := by
  have := (Own.cell (enc := fve) (k := 5) (fun _ => rfl) w (i := 0) rfl hv).2
  rw [Nat.zero_mul, Nat.add_zero] at this; exact this
theorem OwnF.put {h : H} {b : Nat} {z : FV} (w : OwnF h b z) (z' : FV) {j : Nat} {v : Value} (hj : j < 5) (hx : setAt (fve z) j [v] = fve z') (hv : oneA [v] = true) {K : H → Prop} (hk : ∀ h', OwnF h' b z' → Mod (fun c => c = b) h h' → K h') : stQ 1 h b (0 + j) [v] K := by
  obtain ⟨cs, e, h1, h2, h3⟩ := Own.store (enc := fve) (k := 5) (fun _ => rfl) (by omega) w (i := 0) rfl (j := j) (vs := [v]) (x' := z') (by simp; omega) hx
  rw [Nat.zero_mul, Nat.add_zero] at h2 h3
  exact ⟨cs, e, h1, h2, hv, rfl, fun h' hu => hk h' (h3 h' hu).1 (h3 h' hu).2⟩
/-- A register that some block reads ahead of setting it. -/
def Wnt (f : Fnc) (r : Nat) : Prop := ∃ x ∈ f.blocks, ExpB x r
/-- The numbers of registers, and back. -/
structure NmOk (R : Nat) (W : Nat → Prop) (X names : List Int) : Prop where
  len : X.length = R
  idx : ∀ r t, X[r]? = some t → (t = 0 ∧ ¬ W r) ∨ (0 < t ∧ W r ∧ names[(t - 1).toNat]? = some (r : Int))
  back : ∀ (i : Nat) (n : Int), names[i]? = some n → 0 ≤ n ∧ n < R ∧ W n.toNat ∧ X[n.toNat]? = some ((i : Int) + 1)
  inc : names.Pairwise (· < ·)

theorem st_all {h : H} {b n : Nat} {cs vs : List Value} {e : TypeId} {K : H → Prop} (hb : h[b]? = some (.cells ⟨cs⟩ e (0, 0))) (hl : cs.length = vs.length) (ho : oneA vs = true) (hn : vs.length = n) (hs : setAt cs 0 vs = vs)
    (hK : ∀ h', Fw.Mod (fun c => c = b) h h' → (∀ j y, vs[j]? = some y → cell h' ⟨b, j, none⟩ = some y) → K h') : stQ n h b 0 vs K :=
  ⟨cs, e, hb, by omega, ho, hn, fun h' hU => hK h' (hU.mod rfl) fun j y hj => by rw [hs] at hU; rw [cell_of (hU.get hb)]; exact hj⟩
theorem c61 {h0 h : H} {f : Fnc} {fb fo bw : Nat} {z : FV} (hf : FncAt h0 fb fo f) (e0 : Ext h0 h) (hb0 : h0.size ≤ bw) (hP : FncP f) (hz : SzF f) (hs : SzR f) (wF : OwnF h bw z) (hzf : z.f = .pointer (some ⟨fb, fo, none⟩)) (hzn : z.names = .slice none 0 0) {R : Value → H → Prop}
    (k : ∀ h' X names xb np nn nc, OwnF h' bw { z with index := .slice (some ⟨xb, 0, none⟩) f.regs.toNat f.regs.toNat, names := .slice np nn nc } → OwnI h' (some ⟨xb, 0, none⟩) xb X → h.size ≤ xb → GrowI h h' np nn nc names → NmOk f.regs.toNat (Wnt f) X names → Mod (fun c => c = bw) h h' → R (.tuple ⟨[]⟩) h') :
    HC Tryd.prog 61 [.pointer (some ⟨bw, 0, none⟩)] h R := by
  have hreg : 0 ≤ f.regs ∧ f.regs ≤ 262144 := ⟨hP.1.1, hP.1.2.1⟩
  obtain ⟨fp, fn, fc, fq, fm, fd, C0⟩ := hf.cells
  have hbl := C0.bs.len
  have hnb := hs.nb
  have hbw := wF.lt (by simp)
  apply hc61; unfold sh61; intro b1 h1 hN1
  have e1 := e0.trans hN1.ext
  have w1 : OwnF h1 bw z := wF.ext hN1.ext
  have hb1 := hN1.blk
  have hz1 := hN1.size
  have hz0 := e0.size
  have zf : ∀ {h'} {z' : FV}, OwnF h' bw z' → z'.f = z.f → cell h' ⟨bw, 0 + 0, none⟩ = some (.pointer (some ⟨fb, fo, none⟩)) := fun w e => w.get 0 (by rw [← hzf, ← e]; rfl)
  have g1 : cell h1 ⟨b1, 0, none⟩ = some (.pointer (some ⟨bw, 0, none⟩)) := hN1.keep _ Ext.rfl' 0 _ rfl
  refine ⟨_, g1, _, g1, by simp, onP_at rfl ⟨_, zf w1 rfl, by simp, onP_at rfl ⟨_, (C0.ext e1).c2, hreg.1, by omega, by omega, fun xb h2 hN2 => ⟨by simp, onP_at rfl ?_⟩⟩⟩⟩
  have w2 : OwnF h2 bw z := w1.ext hN2.ext
  have hb2 := hN2.blk
  have hz2 := hN2.size
  generalize hR : f.regs.toNat = Rg at hN2 k ⊢
  have hRn : (Rg : Int) = f.regs := by omega
  have wX2 := Own.ofRep (g := Value.int .i64) (x := (0 : Int)) hN2
  refine OwnF.put w2 { z with index := .slice (some ⟨xb, 0, none⟩) Rg Rg } (by omega) rfl rfl fun h3 w3 m3 => ?_
  have wX3 := wX2.mod m3 (by omega)
  have hz3 := m3.size
  have e3 : Ext h0 h3 := m3.ext (e1.trans hN2.ext) fun c hc e => by omega
  have g3 : cell h3 ⟨b1, 0, none⟩ = some (.pointer (some ⟨bw, 0, none⟩)) := m3.cell (hN2.ext.cell g1) (by show ¬ b1 = bw; omega)
  refine ⟨_, g3, by simp, onP_at rfl ⟨_, zf w3 rfl, by simp, onP_at rfl ⟨_, (C0.ext e3).c2, hreg.1, by omega, by omega, fun sr h4 hN4 => fun bs h5 hN5 => ?_⟩⟩⟩
  rw [hR] at hN4 ⊢
  have hb4 := hN4.blk
  have hz4 := hN4.size
  have hb5 := hN5.blk
  have hz5 := hN5.size
  have wS4 := Own.ofRep (g := Value.int .i64) (x := (0 : Int)) hN4
  refine hN5.st rfl rfl rfl rfl fun h6 e46 gs => ?_
  have e36 := hN4.ext.trans e46
  have w6 : OwnF h6 bw _ := w3.ext e36
  have wX6 := wX3.ext e36
  have wS6 := wS4.ext e46
  have e6 := e3.trans e36
  have g6 := e36.cell g3
  have hz6 := e36.size
  have hz46 := e46.size
  have gs6 := gs _ Ext.rfl' 0 _ rfl
  refine ⟨_, g6, by simp, onP_at rfl ⟨_, zf w6 rfl, by simp, onP_at rfl ⟨_, _, _, (C0.ext e6).c4, ?_⟩⟩⟩
  have hS0 : ∀ c, c < h0.size → ¬ (c = xb ∨ c = sr) := fun c hc e => by omega
  have hlen : ∀ {X : List Int} {P}, Xok Rg X P → X.length = Rg := fun x => x.1
  have keep : ∀ {h'}, Mod (fun c => c = xb ∨ c = sr) h6 h' → Ext h0 h' ∧ cell h' ⟨b1, 0, none⟩ = some (.pointer (some ⟨bw, 0, none⟩)) ∧ cell h' ⟨bs, 0, none⟩ = some (.slice (some ⟨sr, 0, none⟩) Rg Rg) ∧ OwnF h' bw { z with index := .slice (some ⟨xb, 0, none⟩) Rg Rg } := fun m =>
    ⟨m.ext e6 hS0, m.cell g6 (by show ¬ (b1 = xb ∨ b1 = sr); omega), m.cell gs6 (by show ¬ (bs = xb ∨ bs = sr); omega), w6.mod m (by show ¬ (bw = xb ∨ bw = sr); omega)⟩
  refine fwd fm (fun v h' => Mod (fun c => c = xb ∨ c = sr) h6 h' ∧ ∃ X S, OwnI h' (some ⟨xb, 0, none⟩) xb X ∧ OwnI h' (some ⟨sr, 0, none⟩) sr S ∧ Xok Rg X (fun r => ∃ x ∈ f.blocks.take v.toNat, ExpB x r) ∧ Sok Rg S v (fun _ => False)) (by omega) ⟨Mod.refl _ _, _, _, wX6, wS6, ⟨by simp, fun r t ht => ?_⟩, ⟨by simp, fun r t ht => ?_⟩⟩ fun v h7 v0 v1 ⟨m7, X7, S7, wX7, wS7, xo7, so7⟩ => ⟨fun vlt => ⟨v0, vlt, ?_⟩, fun vge => ?_⟩
  · rw [List.getElem?_replicate] at ht; split at ht <;> cases ht
    exact .inl ⟨rfl, by simp⟩
  · rw [List.getElem?_replicate] at ht; split at ht <;> cases ht
    exact ⟨by omega, fun h => by omega, fun h => h.elim⟩
  · obtain ⟨x, b', o', hx, hp, vs, ⟨bp, bn, bc, tp, tn, tc, rfl, hbody, hbc, hto, htc⟩, hcell⟩ := C0.bs.get v0 vlt
    obtain ⟨e7, _, _, _⟩ := keep m7
    have hxm := List.mem_of_getElem? hx
    have okx := blkOk (hP.2.2.2 x hxm) (hz.2.2 x hxm)
    have hbx := hs.bd x hxm
    have hbln := hbody.len
    refine onP_at hp ⟨_, _, _, e7.cell (hcell 0 _ rfl), _, e7.cell (hcell 1 _ rfl), _, e7.cell (hcell 2 _ rfl), _, _, _, e7.cell (hcell 3 _ rfl), fun bi h8 hN8 bb h9 hN9 => ?_⟩
    have hb8 := hN8.blk
    have hz8 := hN8.size
    have hb9 := hN9.blk
    have hz9 := hN9.size
    have hz7 := m7.size
    refine st_all (hN9.ext _ _ hN8.get) rfl rfl rfl rfl fun h10 m10 gi10 => ?_
    have hbb10 := m10.get hN9.get (by show ¬ bb = bi; omega)
    refine st_all hbb10 rfl rfl rfl rfl fun h11 m11 gb11 => ⟨_, _, _, gb11 0 _ rfl, ?_⟩
    have e711 : Ext h7 h11 := m11.ext (m10.ext (hN8.ext.trans hN9.ext) fun c hc e => by omega) fun c hc e => by omega
    have gi11 : cell h11 ⟨bi, 0, none⟩ = some (.int .i64 v) := m11.cell (gi10 0 _ rfl) (by show ¬ bi = bb; omega)
    have m711 : Fw.Mod (fun c => c = xb ∨ c = sr) h6 h11 := m7.trans e711.mod fun _ _ h => h.elim
    have bx : BlkOk f x := okx
    refine fwd bn (fun u h' => Fw.Mod (fun c => c = xb ∨ c = sr) h11 h' ∧ ∃ X S, OwnI h' (some ⟨xb, 0, none⟩) xb X ∧ OwnI h' (some ⟨sr, 0, none⟩) sr S ∧ Xok Rg X (fun r => (∃ x ∈ f.blocks.take v.toNat, ExpB x r) ∨ ExpR (x.body.take u.toNat) r) ∧ Sok Rg S v (fun r => DstIn (x.body.take u.toNat) r)) (by omega) ⟨Mod.refl _ _, X7, S7, wX7.ext e711, wS7.ext e711, xo7.iff fun r _ => by simp [ExpR], so7.iff fun r _ => by simp [DstIn]⟩ fun u h12 u0 u1 ⟨m12, X12, S12, wX12, wS12, xo12, so12⟩ => ?_
    have m612 := m711.trans m12 fun _ _ h => h
    obtain ⟨e12, g12, gs12, wF12⟩ := keep m612
    have kb : ∀ {h'}, Fw.Mod (fun c => c = xb ∨ c = sr) h11 h' → cell h' ⟨bi, 0, none⟩ = some (.int .i64 v) ∧ (∀ j y, [Value.slice bp bn bc, .int .i64 x.term.kind, .int .i64 x.term.value, .slice tp tn tc][j]? = some y → cell h' ⟨bb, j, none⟩ = some y) := fun m => ⟨m.cell gi11 (by show ¬ (bi = xb ∨ bi = sr); omega), fun j y hj => m.cell (gb11 j y hj) (by show ¬ (bb = xb ∨ bb = sr); omega)⟩
    have rd : ∀ {h' : H} {X S : List Int} {P Q : Nat → Prop} {a : Int} {RR : Value → H → Prop}, Fw.Mod (fun c => c = xb ∨ c = sr) h11 h' → OwnI h' (some ⟨xb, 0, none⟩) xb X → OwnI h' (some ⟨sr, 0, none⟩) sr S → Xok Rg X P → Sok Rg S v Q → RegP f a →
        (∀ h'' X', Fw.Mod (fun c => c = xb ∨ c = sr) h' h'' → OwnI h'' (some ⟨xb, 0, none⟩) xb X' → OwnI h'' (some ⟨sr, 0, none⟩) sr S → Xok Rg X' (fun q => P q ∨ (q = a.toNat ∧ ¬ Q q)) → RR (.tuple ⟨[]⟩) h'') →
        HC Tryd.prog 78 [.int .i64 a, .pointer (some ⟨bs, 0, none⟩), .pointer (some ⟨bi, 0, none⟩), .pointer (some ⟨b1, 0, none⟩)] h' RR := by
      intro h' X S P Q a RR m wX wS xo so hRa kk
      unfold RegP at hRa
      obtain ⟨_, q2, q3, q4⟩ := keep (m711.trans m fun _ _ h => h)
      obtain ⟨t, ht⟩ : ∃ t, S[a.toNat]? = some t := ⟨S[a.toNat]'(by have := so.1; omega), by simp⟩
      refine c78 q3 (kb m).1 q2 (q4.get 1 rfl) wS wX so.1 xo.1 hRa.1 (by omega) (by omega) v0 (by omega) fun h'' w'' m'' => kk h'' _ (m''.wid fun c _ hc => .inl hc.1) (w'' t ht) (wS.mod m'' (by rintro ⟨e, _⟩; omega)) ?_
      exact (xo.read so ht).iff fun q _ => ⟨fun h => h.imp id fun ⟨e, h⟩ => ⟨e, e ▸ h⟩, fun h => h.imp id fun ⟨e, h⟩ => ⟨e, e ▸ h⟩⟩
    refine ⟨fun ult => ⟨u0, ult, ?_⟩, fun uge => ?_⟩
    · obtain ⟨y, b3, o3, hy, hp3, vs, ⟨ap, an, ac, rfl, hargs, hac⟩, hc3⟩ := hbody.get u0 ult
      have oky := okx.ins y (List.mem_of_getElem? hy)
      have hal := hargs.len
      have hzy := oky.2
      unfold SzI at hzy
      refine onP_at hp3 ⟨_, e12.cell (hc3 0 _ rfl), _, e12.cell (hc3 1 _ rfl), _, e12.cell (hc3 2 _ rfl), _, _, _, e12.cell (hc3 3 _ rfl), fun bk h13 hN13 => hN13.st rfl rfl rfl rfl fun h14 e14 gk => ⟨_, _, _, gk _ Ext.rfl' 3 _ rfl, ?_⟩⟩
      have m1114 : Fw.Mod (fun c => c = xb ∨ c = sr) h11 h14 := m12.trans e14.mod fun _ _ h => h.elim
      have hb13 := hN13.blk
      have hz12 := m612.size
      have hu1 : (u + 1).toNat = u.toNat + 1 := by omega
      have htk : x.body.take (u.toNat + 1) = x.body.take u.toNat ++ [y] := by rw [List.take_add_one, hy]; rfl
      refine fwd an (fun a h' => Fw.Mod (fun c => c = xb ∨ c = sr) h14 h' ∧ ∃ X, OwnI h' (some ⟨xb, 0, none⟩) xb X ∧ OwnI h' (some ⟨sr, 0, none⟩) sr S12 ∧ Xok Rg X (fun r => ((∃ x ∈ f.blocks.take v.toNat, ExpB x r) ∨ ExpR (x.body.take u.toNat) r) ∨ (¬ DstIn (x.body.take u.toNat) r ∧ (r : Int) ∈ y.args.take a.toNat))) (by omega) ⟨Mod.refl _ _, X12, wX12.ext e14, wS12.ext e14, xo12.iff fun r _ => by simp⟩ fun a h15 a0 a1 ⟨m15, X15, wX15, wS15, xo15⟩ => ?_
      have m1115 := m1114.trans m15 fun _ _ h => h
      obtain ⟨e15, g15, gs15, wF15⟩ := keep (m711.trans m1115 fun _ _ h => h)
      have gk15 : ∀ j z, (xv y ap an ac)[j]? = some z → cell h15 ⟨bk, j, none⟩ = some z := fun j z hj => m15.cell (gk _ Ext.rfl' j z hj) (by show ¬ (bk = xb ∨ bk = sr); omega)
      refine ⟨fun alt => ⟨a0, alt, ?_⟩, fun age => ?_⟩
      · obtain ⟨w, b4, o4, hw, hp4, hc4⟩ := hargs.get a0 alt
        have hRw := oky.1.1 w (List.mem_of_getElem? hw)
        refine onP_at hp4 ⟨w, e15.cell hc4, by kernel_rfl, rd m1115 wX15 wS15 xo15 so12 hRw fun h16 X16 m16 wX16 wS16 xo16 => ⟨rfl, i64ok (by omega) (by omega), fwd_next a0 alt ⟨m15.trans m16 fun _ _ h => h, X16, wX16, wS16, xo16.iff fun r _ => ?_⟩⟩⟩
        unfold RegP at hRw
        rw [show (a + 1).toNat = a.toNat + 1 by omega, List.take_add_one, hw, Option.toList_some, List.mem_append, List.mem_singleton]
        have : r = w.toNat ↔ (r : Int) = w := by omega
        rw [this]
        by_cases h1 : DstIn (x.body.take u.toNat) r
        · simp [h1]
        · simp [h1, or_assoc]
      · rw [show a.toNat = y.args.length by omega, List.take_length] at xo15
        have xo15' : Xok Rg X15 (fun r => (∃ x ∈ f.blocks.take v.toNat, ExpB x r) ∨ ExpR (x.body.take (u + 1).toNat) r) := xo15.iff fun r _ => by rw [hu1, htk, expR_snoc, or_assoc]
        refine ⟨_, gk15 1 _ rfl, fun d0 => ?_, fun d0 => ?_⟩
        · have hRd : RegP f y.dst := by rcases insP_dst oky.1 with h | h; omega; exact h
          unfold RegP at hRd
          have hS := so12.1
          refine ⟨_, _, _, gs15, _, gk15 1 _ rfl, _, (kb m1115).1, i64ok (by omega) (by omega), hRd.1, by omega, OwnI.put wS15 (by omega) fun h17 w17 m17 => ⟨i64ok (by omega) (by omega), fwd_next u0 ult ⟨m1115.trans m17 fun c _ hc => .inr hc, X15, _, wX15.mod m17 (by show ¬ xb = sr; omega), w17, xo15', (so12.put y.dst.toNat).iff fun r _ => ?_⟩⟩⟩
          rw [hu1, htk, dstIn_snoc]
          have : r = y.dst.toNat ↔ y.dst = (r : Int) := by omega
          rw [this]
        · refine ⟨i64ok (by omega) (by omega), fwd_next u0 ult ⟨m1115, X15, S12, wX15, wS15, xo15', so12.iff fun r _ => ?_⟩⟩
          rw [hu1, htk, dstIn_snoc]
          have : ¬ y.dst = (r : Int) := by omega
          simp [this]
    · rw [show u.toNat = x.body.length by omega, List.take_length] at xo12 so12
      have hv1 : (v + 1).toNat = v.toNat + 1 := by omega
      have htk : f.blocks.take (v.toNat + 1) = f.blocks.take v.toNat ++ [x] := by rw [List.take_add_one, hx]; rfl
      have hex : ∀ r : Nat, (∃ y ∈ f.blocks.take (v + 1).toNat, ExpB y r) ↔ (∃ y ∈ f.blocks.take v.toNat, ExpB y r) ∨ ExpB x r := fun r => by
        rw [hv1, htk]
        constructor
        · rintro ⟨y, hy, h⟩
          rcases List.mem_append.1 hy with hy | hy
          · exact .inl ⟨y, hy, h⟩
          · rw [List.mem_singleton] at hy; subst hy; exact .inr h
        · rintro (⟨y, hy, h⟩ | h)
          · exact ⟨y, List.mem_append.2 (.inl hy), h⟩
          · exact ⟨x, List.mem_append.2 (.inr (List.mem_singleton.2 rfl)), h⟩
      simp only [Nat.zero_add, Nat.reduceAdd, (kb m12).2 2 _ rfl, exI]
      refine ⟨fun d0 => ⟨by kernel_rfl, ?_⟩, fun d0 => ?_⟩
      · have hRv : RegP f x.term.value := by rcases okx.val with h | h; omega; exact h
        refine rd m12 wX12 wS12 xo12 so12 hRv fun h18 X18 m18 wX18 wS18 xo18 => ⟨rfl, i64ok (by omega) (by omega), fwd_next v0 vlt ⟨m612.trans m18 fun _ _ h => h, X18, S12, wX18, wS18, xo18.iff fun r _ => ?_, so12.next⟩⟩
        unfold RegP at hRv
        rw [hex, ExpB]
        have : r = x.term.value.toNat ↔ x.term.value = (r : Int) := by omega
        rw [this]
        by_cases h1 : DstIn x.body r <;> by_cases h2 : x.term.value = (r : Int) <;> simp [h1, h2, or_assoc]
      · refine ⟨i64ok (by omega) (by omega), fwd_next v0 vlt ⟨m612, X12, S12, wX12, wS12, xo12.iff fun r _ => ?_, so12.next⟩⟩
        rw [hex, ExpB]
        have : ¬ x.term.value = (r : Int) := by omega
        simp [this]
  · have hxo : Xok Rg X7 (Wnt f) := xo7.iff fun r _ => by rw [show v.toNat = f.blocks.length by omega, List.take_length]; exact Iff.rfl
    obtain ⟨e7, g7, _, wF7⟩ := keep m7
    have hz7 := m7.size
    have m07 : Fw.Mod (fun c => c = bw) h h7 := (((hN1.mod _).trans (hN2.mod _) fun _ _ h => h).trans m3 fun _ _ h => h).trans ((e36.mod.wid fun _ _ h => h.elim).trans (m7.wid (S' := fun c => h3.size ≤ c ∨ c = xb) fun c _ hc => by omega) fun c _ hc => hc) fun c hc hx => by omega
    refine ⟨_, g7, by simp, onP_at rfl ⟨_, _, _, wF7.get 1 rfl, ?_⟩⟩
    refine fwd Rg (fun r h' => Ext h0 h' ∧ cell h' ⟨b1, 0, none⟩ = some (.pointer (some ⟨bw, 0, none⟩)) ∧ h7.size ≤ h'.size ∧ Fw.Mod (fun c => c = bw) h h' ∧ ∃ X names np nn nc, OwnF h' bw { z with index := .slice (some ⟨xb, 0, none⟩) Rg Rg, names := .slice np nn nc } ∧ OwnI h' (some ⟨xb, 0, none⟩) xb X ∧ GrowI h7 h' np nn nc names ∧ names.length ≤ r.toNat ∧ X.length = Rg ∧
      (∀ (q : Nat) t, X[q]? = some t → (q < r.toNat → (t = 0 ∧ ¬ Wnt f q) ∨ (0 < t ∧ Wnt f q ∧ names[(t - 1).toNat]? = some (q : Int))) ∧ (r.toNat ≤ q → (t = 0 ∧ ¬ Wnt f q) ∨ (t = 1 ∧ Wnt f q))) ∧ (∀ (i : Nat) (n : Int), names[i]? = some n → 0 ≤ n ∧ n < r ∧ Wnt f n.toNat ∧ X[n.toNat]? = some ((i : Int) + 1)) ∧ names.Pairwise (· < ·)) (by omega)
      ⟨e7, g7, Nat.le_refl _, m07, X7, [], none, 0, 0, by rw [← hzn]; exact wF7, wX7, Grow.nil _ _ _ _ _, by simp, hxo.1, fun q t ht => ⟨fun h => by simp at h, fun _ => hxo.2 q t ht⟩, fun i n h => by simp at h, List.Pairwise.nil⟩ fun r h19 r0 r1 ⟨e19, g19, hz19, m19, X, names, np, nn, nc, wF, wX, G, hnl, hXl, hidx, hback, hinc⟩ => ⟨fun hlt => ⟨r0, hlt, ?_⟩, fun hge => ?_⟩
    · refine OwnI.get wX (by omega) fun t ht => ⟨fun t1 => ?_, fun t1 => ⟨i64ok (by omega) (by omega), fwd_next r0 hlt ⟨e19, g19, hz19, m19, X, names, np, nn, nc, wF, wX, G, by omega, hXl, fun q u hu => ⟨fun hq => ?_, fun hq => (hidx q u hu).2 (by omega)⟩, fun i n hn => by have := hback i n hn; exact ⟨this.1, by omega, this.2.2⟩, hinc⟩⟩⟩
      · subst t1
        have hW : Wnt f r.toNat := by rcases (hidx _ _ ht).2 (Nat.le_refl _) with ⟨h, _⟩ | ⟨_, h⟩; omega; exact h
        have hSk : ∀ h', Fw.Mod (fun c => h7.size ≤ c) h19 h' → cell h' ⟨b1, 0, none⟩ = some (.pointer (some ⟨bw, 0, none⟩)) ∧ OwnF h' bw { z with index := .slice (some ⟨xb, 0, none⟩) Rg Rg, names := .slice np nn nc } ∧ OwnI h' (some ⟨xb, 0, none⟩) xb X ∧ Ext h0 h' := fun h' m => ⟨m.cell g19 (by show ¬ h7.size ≤ b1; omega), wF.mod m (by show ¬ h7.size ≤ bw; omega), wX.mod m (by show ¬ h7.size ≤ xb; omega), m.ext e19 fun c hc hx => by omega⟩
        have hgl := G.len
        refine ⟨fun h' => Fw.Mod (fun c => h7.size ≤ c) h19 h', Mod.refl _ _, _, g19, fun h20 s20 => ⟨_, (hSk h20 s20).1, rfl, by simp [Slot.val]⟩, _, g19, fun h21 s21 => ⟨_, (hSk h21 s21).1, rfl, by simp [Slot.val]⟩, by simp, onP_at rfl ⟨_, _, _, wF.get 2 rfl, fun h22 s22 => ⟨_, _, _, (hSk h22 s22).2.1.get 2 rfl, rfl, by simp [Slot.val]⟩, rfl, by omega, fun bv h23 hN23 => ⟨hN23.mod _, ?_⟩⟩⟩
        have hz23 := hN23.size
        refine Grow.app (enc := fun x : Int => [Value.int .i64 x]) (k := 1) (fun _ => rfl) (G.ext hN23.ext) (by omega) rfl (m := 1) (l' := [r]) rfl (New.rdc1 hN23 rfl) rfl (by omega) fun p' c' h24 G24 m24 L24 => ?_
        have m24' : Fw.Mod (fun c => h7.size ≤ c) h19 h24 := (hN23.mod _).trans (m24.wid fun c _ ⟨q1, q2⟩ => ((G.ext hN23.ext).lo q1 q2).1) fun _ _ h => h
        obtain ⟨g24, wF24, wX24, e24⟩ := hSk h24 m24'
        have hz24 := m24'.size
        refine ⟨m24', by simp, onP_at rfl (OwnF.put wF24 { z with index := .slice (some ⟨xb, 0, none⟩) Rg Rg, names := .slice p' (nn + 1) c' } (by omega) rfl rfl fun h25 wF25 m25 => ?_)⟩
        have hz25 := m25.size
        have g25 : cell h25 ⟨b1, 0, none⟩ = some (.pointer (some ⟨bw, 0, none⟩)) := m25.cell g24 (by show ¬ b1 = bw; omega)
        have wX25 := wX24.mod m25 (by show ¬ xb = bw; omega)
        have e25 : Ext h0 h25 := m25.ext e24 fun c hc hx => by omega
        have G25 := G24.mod m25 fun b hb hc hx => by have := (G24.lo hb hc).1; omega
        refine ⟨_, g25, by simp, onP_at rfl ⟨_, _, _, wF25.get 1 rfl, _, g25, by simp, onP_at rfl ⟨_, _, _, wF25.get 2 rfl, r0, by omega, OwnI.put wX25 (by omega) fun h26 wX26 m26 => ⟨i64ok (by omega) (by omega), fwd_next r0 hlt ⟨m26.ext e25 fun c hc hx => by omega, m26.cell g25 (by show ¬ b1 = xb; omega), by have := m26.size; omega, ?_, _, names ++ [r], p', nn + 1, c', wF25.mod m26 (by show ¬ bw = xb; omega), wX26, G25.mod m26 fun b hb hc hx => by have := (G25.lo hb hc).1; omega, by rw [List.length_append]; simp; omega, by rw [List.length_set]; exact hXl, fun q u hu => ?_, fun i n hn => ?_, ?_⟩⟩⟩⟩⟩
        · exact ((m19.trans m24' fun c hc hx => by omega).trans m25 fun c _ h => h).trans m26 fun c hc hx => by omega
        · have hql : q < X.length := by have := (List.getElem?_eq_some_iff.1 hu).1; rw [List.length_set] at this; exact this
          by_cases e : r.toNat = q
          · subst e
            rw [List.getElem?_set_self (by omega)] at hu
            cases hu
            refine ⟨fun _ => .inr ⟨by omega, hW, ?_⟩, fun h => by omega⟩
            rw [List.getElem?_append_right (by omega), show ((((nn + 1 : Nat) : Int) - 1).toNat - names.length) = 0 by omega, show ((r.toNat : Nat) : Int) = r by omega]; rfl
          · rw [List.getElem?_set_ne e] at hu
            refine ⟨fun hq => ?_, fun hq => (hidx q u hu).2 (by omega)⟩
            rcases (hidx q u hu).1 (by omega) with h | ⟨h1, h2, h3⟩
            · exact .inl h
            · refine .inr ⟨h1, h2, ?_⟩
              have := (List.getElem?_eq_some_iff.1 h3).1
              rw [List.getElem?_append_left this]; exact h3
        · by_cases hi : i < names.length
          · rw [List.getElem?_append_left hi] at hn
            obtain ⟨q1, q2, q3, q4⟩ := hback i n hn
            refine ⟨q1, by omega, q3, ?_⟩
            rw [List.getElem?_set_ne (by omega)]; exact q4
          · rw [List.getElem?_append_right (by omega)] at hn
            have hi0 : i - names.length = 0 := by
              have := (List.getElem?_eq_some_iff.1 hn).1; simp at this; omega
            rw [hi0] at hn
            cases hn
            refine ⟨r0, by omega, hW, ?_⟩
            rw [List.getElem?_set_self (by omega)]; congr 1; omega
        · rw [List.pairwise_append]
          refine ⟨hinc, List.pairwise_singleton _ _, fun a ha b hb => ?_⟩
          rw [List.mem_singleton] at hb; subst hb
          obtain ⟨i, hi⟩ := List.getElem?_of_mem ha
          exact (hback i a hi).2.1
      · by_cases e : q = r.toNat
        · subst e
          rcases (hidx _ u hu).2 (Nat.le_refl _) with h | ⟨h, _⟩
          · exact .inl h
          · rw [ht] at hu; cases hu; exact absurd h t1
        · exact (hidx q u hu).1 (by omega)
    · have hrR : r.toNat = Rg := by omega
      refine k h19 X names xb np nn nc wF wX (by omega) (G.base (by omega)) ⟨hXl, fun q t ht => (hidx q t ht).1 (by have := (List.getElem?_eq_some_iff.1 ht).1; omega), fun i n hn => by have := hback i n hn; exact ⟨this.1, by omega, this.2.2⟩, hinc⟩ m19
end Go.Proofs.Try

/- The functions 81 98 62 31 of the seat live: their text in the framework, and what each asks. -/
set_option maxRecDepth 100000
set_option linter.unusedVariables false
set_option linter.unusedSimpArgs false
open Go Go.Fw Go.Proofs
namespace Go.Proofs.Try
/- slices.Backward[[]quern/api.LIns,quern/api.LIns] -/
def fl81 : FL := ⟨4, (.seq (.reg [se 1 (.box 46 (t 0)), sv 2 (.mov (.const Go.Value.nilFunc))]) (.seq (.reg [sv 3 (.fnv (Go.Fn.func 98) [] [(t 1)]), sv 2 (.mov (t 3))]) .ret)), [.tmp 2]⟩
theorem ck81 : chkFL Tryd.prog 81 fl81 = true := by kernel_rfl
def sh81 (as_0 : Option Addr) (ns_0 cs_0 : Nat) (h : H) (R : Value → H → Prop) : Prop :=
 ∀ (bs_1 : Nat) (h1 : H), New h (.cells ⟨[(.slice as_0 ns_0 cs_0)]⟩ 46) bs_1 h1 →
 R (.func (Go.Fn.func 98) ⟨[]⟩ ⟨[(.pointer (some ⟨bs_1, 0, none⟩))]⟩) h1
theorem hc81 {as_0 : Option Addr} {ns_0 cs_0 : Nat} {h : H} {R : Value → H → Prop} (x : sh81 as_0 ns_0 cs_0 h R) : HC Tryd.prog 81 [(.slice as_0 ns_0 cs_0)] h R :=
  FL.sound mixed ck81 ⟨rfl, Eq.mp (by unfold sh81; kernel_rfl) x⟩
/- slices.Backward[[]quern/api.LIns,quern/api.LIns]$1 -/
def fl98 : FL := ⟨19, (.seq (.reg [sv 4 (.ld .slice (t 1)), sv 5 (.len (t 4)), sv 6 (.ar .sub true (t 5) (ci 1)), sv 3 (.mov (t 6))]) (.block 0 (.loop [(3, (.one (.int .i64)))] [3, 7, 8, 9, 10, 11, 12, 13, 14, 15, 16, 17, 18] (.seq (.seq (.reg [sv 7 (.mov (t 3)), sv 8 (.cmp .geq (t 7) (ci 0))]) (.cond (t 8) .skip (.exit 0))) (.seq (.block 1 (.seq (.reg [sv 11 (.mov (t 0)), sv 12 (.mov (t 3)), sv 13 (.ld .slice (t 1)), sv 14 (.mov (t 3)), sv 15 (.idx 4 (t 13) (t 14)), sv 16 (.lda [(.int .i64), (.int .i64), (.int .i64), .slice] (t 15)), se 17 (.cyl (t 11) [(t 12), (t 16)] (.one .bool)), sv 18 (.no (t 17))]) (.cond (t 18) .ret .skip))) (.reg [sv 9 (.mov (t 3)), sv 10 (.ar .sub true (t 9) (ci 1)), sv 3 (.mov (t 10))])))))), []⟩
theorem ck98 : chkFL Tryd.prog 98 fl98 = true := by kernel_rfl
def sh98 (l_0 : Nat) (bf0 : Nat) (h : H) (R : Value → H → Prop) : Prop :=
 ∃ (av_4 : Option Addr) (nv_4 cv_4 : Nat), cell h ⟨bf0, 0, none⟩ = some (.slice av_4 nv_4 cv_4) ∧
 InR .i64 ((↑nv_4 : Int) - 1) ∧
 ∃ J : Int → LI, (J ((↑nv_4 : Int) - 1)).1 h ∧
 ∀ (i_3 : Int), ∀ h1 : H, (J i_3).1 h1 →
 (((0 ≤ i_3) →
 ∃ (av_13 : Option Addr) (nv_13 cv_13 : Nat), cell h1 ⟨bf0, 0, none⟩ = some (.slice av_13 nv_13 cv_13) ∧
 0 ≤ i_3 ∧ i_3 < (↑nv_13 : Int) ∧
 (onP av_13 fun bv_15 ov_15 =>
 ∃ (v_16 : Int), cell h1 ⟨bv_15, ((ov_15 + (i_3).toNat * 4) + 0), none⟩ = some (.int .i64 v_16) ∧
 ∃ (v_16_1 : Int), cell h1 ⟨bv_15, ((ov_15 + (i_3).toNat * 4) + 1), none⟩ = some (.int .i64 v_16_1) ∧
 ∃ (v_16_2 : Int), cell h1 ⟨bv_15, ((ov_15 + (i_3).toNat * 4) + 2), none⟩ = some (.int .i64 v_16_2) ∧
 ∃ (av_16 : Option Addr) (nv_16 cv_16 : Nat), cell h1 ⟨bv_15, ((ov_15 + (i_3).toNat * 4) + 3), none⟩ = some (.slice av_16 nv_16 cv_16) ∧
 HY Tryd.prog l_0 [(.int .i64 i_3), (.agg ⟨[(.int .i64 v_16), (.int .i64 v_16_1), (.int .i64 v_16_2), (.slice av_16 nv_16 cv_16)]⟩)] h1 fun rv_17 h2 =>
 ∃ (v_17 : Bool), rv_17 = (.bool v_17) ∧
 (((!v_17) = true →
 R (.tuple ⟨[]⟩) h2) ∧
 ((!v_17) = false →
 InR .i64 (i_3 - 1) ∧
 (J (i_3 - 1)).1 h2 ∧ (J (i_3 - 1)).2 h2 < (J i_3).2 h1)))) ∧
 (¬ (0 ≤ i_3) →
 R (.tuple ⟨[]⟩) h1))
theorem hc98 {l_0 : Nat} {bf0 : Nat} {h : H} {R : Value → H → Prop} (x : sh98 l_0 bf0 h R) : HC Tryd.prog 98 [(.func (.yield l_0) ⟨[]⟩ ⟨[]⟩), (.pointer (some ⟨bf0, 0, none⟩))] h R :=
  FL.sound mixed ck98 ⟨rfl, Eq.mp (by unfold sh98; kernel_rfl) x⟩
/- (*quern/live.flow).through -/
def fl62 : TFL := ⟨78, (.seq (.il (.reg [se 3 (.box 79 (t 0)), se 5 (.box 104 (t 2))])) (.seq (.il (.reg [sv 12 (.ld .ptr (t 3)), sv 13 (.nck (t 12)), sv 14 (.fad 0 (t 13)), sv 15 (.ld .ptr (t 14)), sv 16 (.nck (t 15)), sv 17 (.fad 4 (t 16)), sv 18 (.ld .slice (t 17)), sv 19 (.mov (t 1)), sv 20 (.idx 4 (t 18) (t 19)), sv 6 (.mov (t 20))])) (.seq (.il (.reg [sv 21 (.fnv (Go.Fn.func 79) [] [(t 3), (t 5)]), se 7 (.alc 134 [.nilFunc]), ne (.sto 1 (t 7) (t 21))])) (.cut [] [22, 23, 24, 25, 26, 27, 28, 29, 30, 31, 32, 33, 34] (.seq (.reg [sv 22 (.mov (t 6)), sv 23 (.nck (t 22)), sv 24 (.fad 1 (t 23)), sv 25 (.fad 1 (t 24)), sv 26 (.ld (.int .i64) (t 25)), sv 27 (.cmp .geq (t 26) (ci 0))]) (.cond (t 27) (.drw .eq [6] [28, 29, 30, 31, 32, 33, 34] (.takeP 1 (sv 29 (.mov (t 6))) (.takeP 2 (sv 30 (.nck (t 29))) (.takeP 3 (sv 31 (.fad 1 (t 30))) (.takeP 4 (sv 32 (.fad 1 (t 31))) (.takeR 0 (sv 28 (.ldf 79 [(t 3), (t 5)] (t 7))) (.takeR 5 (sv 33 (.ld (.int .i64) (t 32))) (.alt 6 (se 34 (.cav (t 28) [(t 33)] .unit)) .done .stop)))))))) .skip)) (.seq (.il (.reg [sv 35 (.mov (t 6)), sv 36 (.nck (t 35)), sv 37 (.fad 0 (t 36)), sv 38 (.ld .slice (t 37)), se 39 (.call 81 [(t 38)] (.fn 98 1))])) (.blk 0 (.rng (t 39) [40, 41] [(.one (.int .i64)), (.agg [(.int .i64), (.int .i64), (.int .i64), .slice])] (.reg [se 9 (.alc 71 [.int .i64 0, .int .i64 0, .int .i64 0, .slice none 0 0]), ne (.sto 4 (t 9) (t 41))]) (.block 1 (.cut [] [42, 43, 44, 45, 46, 47, 48, 49, 50, 51, 52, 53, 54, 55, 56, 57, 58, 59, 60, 61, 62, 63, 64, 65, 66] (.seq (.drw .eq [] [42, 43, 44, 45, 46, 47, 48, 49, 50, 51, 52, 53, 54, 55] (.takeP 0 (sv 42 (.fad 1 (t 9))) (.takeR 1 (sv 43 (.ld (.int .i64) (t 42))) (.takeP 2 (sv 44 (.cmp .geq (t 43) (ci 0))) (.takeP 3 (sv 45 (.mov (t 44))) (.takeP 8 (⟨some 50, some (45, true), .v (.fad 1 (t 9))⟩) (.takeR 4 (⟨some 46, some (45, true), .v (.ld .ptr (t 3))⟩) (.takeP 5 (⟨some 47, some (45, true), .v (.nck (t 46))⟩) (.takeP 6 (⟨some 48, some (45, true), .v (.fad 1 (t 47))⟩) (.takeR 7 (⟨some 49, some (45, true), .v (.ld .slice (t 48))⟩) (.takeR 9 (⟨some 51, some (45, true), .v (.ld (.int .i64) (t 50))⟩) (.takeP 10 (⟨some 52, some (45, true), .v (.idx 1 (t 49) (t 51))⟩) (.takeR 11 (⟨some 53, some (45, true), .v (.ld (.int .i64) (t 52))⟩) (.takeP 12 (⟨some 54, some (45, true), .v (.cmp .gtr (t 53) (ci 0))⟩) (.takeP 13 (sv 55 (.pick (t 45) (t 54) (cb false))) .done))))))))))))))) (.cond (t 55) (.drw .eq [10] [56, 57, 58, 59, 60, 61, 62, 63, 64, 65, 66] (.takeP 5 (sv 61 (.fad 1 (t 9))) (.takeR 0 (sv 56 (.ld .slice (t 5))) (.alt 1 (sv 57 (.ld .ptr (t 3))) (.takeP 2 (sv 58 (.nck (t 57))) (.takeP 3 (sv 59 (.fad 1 (t 58))) (.alt 4 (sv 60 (.ld .slice (t 59))) (.alt 6 (sv 62 (.ld (.int .i64) (t 61))) (.takeP 7 (sv 63 (.idx 1 (t 60) (t 62))) (.alt 8 (sv 64 (.ld (.int .i64) (t 63))) (.takeP 9 (sv 65 (.ar .sub true (t 64) (ci 1))) (.alt 10 (se 66 (.call 82 [(t 56), (t 65)] .unit)) .done .stop)) .stop)) .stop) (.alt 6 (sv 62 (.ld (.int .i64) (t 61))) (.alt 4 (sv 60 (.ld .slice (t 59))) (.takeP 7 (sv 63 (.idx 1 (t 60) (t 62))) (.alt 8 (sv 64 (.ld (.int .i64) (t 63))) (.takeP 9 (sv 65 (.ar .sub true (t 64) (ci 1))) (.alt 10 (se 66 (.call 82 [(t 56), (t 65)] .unit)) .done .stop)) .stop)) .stop) .stop)))) (.alt 6 (sv 62 (.ld (.int .i64) (t 61))) (.alt 1 (sv 57 (.ld .ptr (t 3))) (.takeP 2 (sv 58 (.nck (t 57))) (.takeP 3 (sv 59 (.fad 1 (t 58))) (.alt 4 (sv 60 (.ld .slice (t 59))) (.takeP 7 (sv 63 (.idx 1 (t 60) (t 62))) (.alt 8 (sv 64 (.ld (.int .i64) (t 63))) (.takeP 9 (sv 65 (.ar .sub true (t 64) (ci 1))) (.alt 10 (se 66 (.call 82 [(t 56), (t 65)] .unit)) .done .stop)) .stop)) .stop))) .stop) .stop))))) .skip)) (.seq (.reg [sv 67 (.fad 3 (t 9)), sv 68 (.ld .slice (t 67)), sv 69 (.len (t 68)), sv 70 (.mov (ci 0))]) (.block 2 (.loop [(70, (.one (.int .i64)))] [11, 70, 71, 72, 73, 74, 75, 76, 77] (.seq (.reg [sv 71 (.cmp .lss (t 70) (t 69))]) (.seq (.cond (t 71) .skip (.exit 2)) (.seq (.block 3 (.seq (.reg [sv 72 (.idx 1 (t 68) (t 70)), sv 73 (.ld (.int .i64) (t 72)), sv 11 (.mov (t 73))]) (.reg [sv 74 (.ldf 79 [(t 3), (t 5)] (t 7)), sv 75 (.mov (t 11)), se 76 (.cav (t 74) [(t 75)] .unit)]))) (.reg [sv 77 (.ar .add true (t 70) (ci 1)), sv 70 (.mov (t 77))])))))))))))))))), []⟩
theorem ck62 : chkTFL Tryd.prog 62 fl62 = true := by kernel_rfl
def sh62 (pw_0 : Option Addr) (b_1 : Int) (ar_2 : Option Addr) (nr_2 cr_2 : Nat) (h : H) (R : Value → H → Prop) : Prop :=
 ∀ (bw_3 : Nat) (h1 : H), New h (.cells ⟨[(.pointer pw_0)]⟩ 79) bw_3 h1 →
 ∀ (br_5 : Nat) (h2 : H), New h1 (.cells ⟨[(.slice ar_2 nr_2 cr_2)]⟩ 104) br_5 h2 →
 ∃ (pv_12 : Option Addr), cell h2 ⟨bw_3, 0, none⟩ = some (.pointer pv_12) ∧
 (pv_12 : Option Addr) ≠ none ∧
 (onP pv_12 fun bv_14 ov_14 =>
 ∃ (pv_15 : Option Addr), cell h2 ⟨bv_14, (ov_14 + 0), none⟩ = some (.pointer pv_15) ∧
 (pv_15 : Option Addr) ≠ none ∧
 (onP pv_15 fun bv_17 ov_17 =>
 ∃ (av_18 : Option Addr) (nv_18 cv_18 : Nat), cell h2 ⟨bv_17, (ov_17 + 4), none⟩ = some (.slice av_18 nv_18 cv_18) ∧
 0 ≤ b_1 ∧ b_1 < (↑nv_18 : Int) ∧
 (onP av_18 fun bv_20 ov_20 =>
 ∀ (bread_7 : Nat) (h3 : H), New h2 (.cells ⟨[.nilFunc]⟩ 134) bread_7 h3 →
 stQ 1 h3 bread_7 0 [(.func (Go.Fn.func 79) ⟨[]⟩ ⟨[(.pointer (some ⟨bw_3, 0, none⟩)), (.pointer (some ⟨br_5, 0, none⟩))]⟩)] fun h4 =>
 ∃ J : H → Prop, (((some ⟨bv_20, (ov_20 + (b_1).toNat * 4), none⟩) : Option Addr) ≠ none ∧
 ∃ (v_26 : Int), cell h4 ⟨bv_20, (((ov_20 + (b_1).toNat * 4) + 1) + 1), none⟩ = some (.int .i64 v_26) ∧
 (((0 ≤ v_26) →
 ((some ⟨bv_20, (ov_20 + (b_1).toNat * 4), none⟩) : Option Addr) ≠ none ∧
 cell h4 ⟨bread_7, 0, none⟩ = some (.func (.func 79) ⟨[]⟩ ⟨[(.pointer (some ⟨bw_3, 0, none⟩)), (.pointer (some ⟨br_5, 0, none⟩))]⟩) ∧
 ∃ (v_33 : Int), cell h4 ⟨bv_20, (((ov_20 + (b_1).toNat * 4) + 1) + 1), none⟩ = some (.int .i64 v_33) ∧
 fnOk Tryd.prog 79 = true ∧
 HC Tryd.prog 79 [(.int .i64 v_33), (.pointer (some ⟨bw_3, 0, none⟩)), (.pointer (some ⟨br_5, 0, none⟩))] h4 fun rv_34 h6 =>
 rv_34 = (.tuple ⟨[]⟩) ∧
 J h6) ∧
 (¬ (0 ≤ v_26) →
 J h4))) ∧
 ∀ h5 : H, J h5 →
 ((some ⟨bv_20, (ov_20 + (b_1).toNat * 4), none⟩) : Option Addr) ≠ none ∧
 ∃ (av_38 : Option Addr) (nv_38 cv_38 : Nat), cell h5 ⟨bv_20, ((ov_20 + (b_1).toNat * 4) + 0), none⟩ = some (.slice av_38 nv_38 cv_38) ∧
 HC Tryd.prog 81 [(.slice av_38 nv_38 cv_38)] h5 fun rv_39 h7 =>
 ∃ bcv_39 : Nat, rv_39 = (.func (.func 98) ⟨[]⟩ ⟨[(.pointer (some ⟨bcv_39, 0, none⟩))]⟩) ∧
 fnOk Tryd.prog 98 = true ∧
 ∀ (D l : Nat) (h8 h9 : H) (rec : Loop), New h7 (.deferred (some [])) D h8 → New h8 (.loop rec) l h9 →
 (∀ (v_40 : Int), ∀ (v_41 : Int), ∀ (v_41_1 : Int), ∀ (v_41_2 : Int), ∀ (av_41 : Option Addr) (nv_41 cv_41 : Nat), ∀ (h10 : H) (Rr : Value → H → Prop), (h10[l]? = some (.loop rec) ∧ 2 = 2 ∧
 ∀ (bx_9 : Nat) (h15 : H), New h10 (.cells ⟨[(.int .i64 0), (.int .i64 0), (.int .i64 0), (.slice none 0 0)]⟩ 71) bx_9 h15 →
 stQ 4 h15 bx_9 0 [(.int .i64 v_41), (.int .i64 v_41_1), (.int .i64 v_41_2), (.slice av_41 nv_41 cv_41)] fun h16 =>
 h16[l]? = some (.loop rec) ∧
 ∀ h11 : H, Up h16 l (.loop { rec with state := .busy }) h11 →
 ∃ J_1 : H → Prop, (∃ (v_43 : Int), cell h11 ⟨bx_9, (0 + 1), none⟩ = some (.int .i64 v_43) ∧
 (((0 ≤ v_43) →
 ∃ (pv_46 : Option Addr), cell h11 ⟨bw_3, 0, none⟩ = some (.pointer pv_46) ∧
 (pv_46 : Option Addr) ≠ none ∧
 (onP pv_46 fun bv_48 ov_48 =>
 ∃ (av_49 : Option Addr) (nv_49 cv_49 : Nat), cell h11 ⟨bv_48, (ov_48 + 1), none⟩ = some (.slice av_49 nv_49 cv_49) ∧
 ∃ (v_51 : Int), cell h11 ⟨bx_9, (0 + 1), none⟩ = some (.int .i64 v_51) ∧
 0 ≤ v_51 ∧ v_51 < (↑nv_49 : Int) ∧
 (onP av_49 fun bv_52 ov_52 =>
 ∃ (v_53 : Int), cell h11 ⟨bv_52, (ov_52 + (v_51).toNat * 1), none⟩ = some (.int .i64 v_53) ∧
 (((0 < v_53) →
 ∃ (av_56 : Option Addr) (nv_56 cv_56 : Nat), cell h11 ⟨br_5, 0, none⟩ = some (.slice av_56 nv_56 cv_56) ∧
 ((∃ (pv_57 : Option Addr), cell h11 ⟨bw_3, 0, none⟩ = some (.pointer pv_57) ∧
 (pv_57 : Option Addr) ≠ none ∧
 (onP pv_57 fun bv_59 ov_59 =>
 ((∃ (av_60 : Option Addr) (nv_60 cv_60 : Nat), cell h11 ⟨bv_59, (ov_59 + 1), none⟩ = some (.slice av_60 nv_60 cv_60) ∧
 ∃ (v_62 : Int), cell h11 ⟨bx_9, (0 + 1), none⟩ = some (.int .i64 v_62) ∧
 0 ≤ v_62 ∧ v_62 < (↑nv_60 : Int) ∧
 (onP av_60 fun bv_63 ov_63 =>
 ∃ (v_64 : Int), cell h11 ⟨bv_63, (ov_63 + (v_62).toNat * 1), none⟩ = some (.int .i64 v_64) ∧
 InR .i64 (v_64 - 1) ∧
 HC Tryd.prog 82 [(.slice av_56 nv_56 cv_56), (.int .i64 (v_64 - 1))] h11 fun rv_66 h18 =>
 rv_66 = (.tuple ⟨[]⟩) ∧
 J_1 h18)) ∧
 ∃ (v_62_1 : Int), cell h11 ⟨bx_9, (0 + 1), none⟩ = some (.int .i64 v_62_1) ∧
 ∃ (av_60_1 : Option Addr) (nv_60_1 cv_60_1 : Nat), cell h11 ⟨bv_59, (ov_59 + 1), none⟩ = some (.slice av_60_1 nv_60_1 cv_60_1) ∧
 0 ≤ v_62_1 ∧ v_62_1 < (↑nv_60_1 : Int) ∧
 (onP av_60_1 fun bv_63_1 ov_63_1 =>
 ∃ (v_64_1 : Int), cell h11 ⟨bv_63_1, (ov_63_1 + (v_62_1).toNat * 1), none⟩ = some (.int .i64 v_64_1) ∧
 InR .i64 (v_64_1 - 1) ∧
 HC Tryd.prog 82 [(.slice av_56 nv_56 cv_56), (.int .i64 (v_64_1 - 1))] h11 fun rv_66_1 h19 =>
 rv_66_1 = (.tuple ⟨[]⟩) ∧
 J_1 h19)))) ∧
 ∃ (v_62_2 : Int), cell h11 ⟨bx_9, (0 + 1), none⟩ = some (.int .i64 v_62_2) ∧
 ∃ (pv_57_1 : Option Addr), cell h11 ⟨bw_3, 0, none⟩ = some (.pointer pv_57_1) ∧
 (pv_57_1 : Option Addr) ≠ none ∧
 (onP pv_57_1 fun bv_59_1 ov_59_1 =>
 ∃ (av_60_2 : Option Addr) (nv_60_2 cv_60_2 : Nat), cell h11 ⟨bv_59_1, (ov_59_1 + 1), none⟩ = some (.slice av_60_2 nv_60_2 cv_60_2) ∧
 0 ≤ v_62_2 ∧ v_62_2 < (↑nv_60_2 : Int) ∧
 (onP av_60_2 fun bv_63_2 ov_63_2 =>
 ∃ (v_64_2 : Int), cell h11 ⟨bv_63_2, (ov_63_2 + (v_62_2).toNat * 1), none⟩ = some (.int .i64 v_64_2) ∧
 InR .i64 (v_64_2 - 1) ∧
 HC Tryd.prog 82 [(.slice av_56 nv_56 cv_56), (.int .i64 (v_64_2 - 1))] h11 fun rv_66_2 h20 =>
 rv_66_2 = (.tuple ⟨[]⟩) ∧
 J_1 h20)))) ∧
 (¬ (0 < v_53) →
 J_1 h11))))) ∧
 (¬ (0 ≤ v_43) →
 J_1 h11))) ∧
 ∀ h17 : H, J_1 h17 →
 ∃ (av_68 : Option Addr) (nv_68 cv_68 : Nat), cell h17 ⟨bx_9, (0 + 3), none⟩ = some (.slice av_68 nv_68 cv_68) ∧
 ∃ J_2 : Int → LI, (J_2 0).1 h17 ∧
 ∀ (v_70 : Int), ∀ h21 : H, (J_2 v_70).1 h21 →
 (((v_70 < (↑nv_68 : Int)) →
 0 ≤ v_70 ∧ v_70 < (↑nv_68 : Int) ∧
 (onP av_68 fun bv_72 ov_72 =>
 ∃ (v_73 : Int), cell h21 ⟨bv_72, (ov_72 + (v_70).toNat * 1), none⟩ = some (.int .i64 v_73) ∧
 cell h21 ⟨bread_7, 0, none⟩ = some (.func (.func 79) ⟨[]⟩ ⟨[(.pointer (some ⟨bw_3, 0, none⟩)), (.pointer (some ⟨br_5, 0, none⟩))]⟩) ∧
 fnOk Tryd.prog 79 = true ∧
 HC Tryd.prog 79 [(.int .i64 v_73), (.pointer (some ⟨bw_3, 0, none⟩)), (.pointer (some ⟨br_5, 0, none⟩))] h21 fun rv_76 h22 =>
 rv_76 = (.tuple ⟨[]⟩) ∧
 InR .i64 (v_70 + 1) ∧
 (J_2 (v_70 + 1)).1 h22 ∧ (J_2 (v_70 + 1)).2 h22 < (J_2 v_70).2 h21)) ∧
 (¬ (v_70 < (↑nv_68 : Int)) →
 h21[l]? = some (.loop { rec with state := .busy }) ∧
 ∀ h12 : H, Up h21 l (.loop rec) h12 →
 Rr (.bool true) h12))) → HY Tryd.prog l [(.int .i64 v_40), (.agg ⟨[(.int .i64 v_41), (.int .i64 v_41_1), (.int .i64 v_41_2), (.slice av_41 nv_41 cv_41)]⟩)] h10 Rr) →
 HC Tryd.prog 98 [(.func (.yield l) ⟨[]⟩ ⟨[]⟩), (.pointer (some ⟨bcv_39, 0, none⟩))] h9 fun rr h13 =>
 h13[l]? = some (.loop rec) ∧
 ∀ h14 : H, Up h13 l (.loop { rec with state := .exhausted }) h14 →
 h14[D]? = some (.deferred (some [])) ∧
 ∀ h23 : H, Up h14 D (.deferred none) h23 →
 R (.tuple ⟨[]⟩) h23)))
theorem hc62 {pw_0 : Option Addr} {b_1 : Int} {ar_2 : Option Addr} {nr_2 cr_2 : Nat} {h : H} {R : Value → H → Prop} (x : sh62 pw_0 b_1 ar_2 nr_2 cr_2 h R) : HC Tryd.prog 62 [(.pointer pw_0), (.int .i64 b_1), (.slice ar_2 nr_2 cr_2)] h R :=
  TFL.sound mixed ck62 ⟨rfl, Eq.mp (by unfold sh62; kernel_rfl) x⟩
/- (quern/live.spans).block -/
def fl31 : FL := ⟨120, (.seq (.reg [sv 17 (.mov (t 1)), sv 18 (.nck (t 17)), sv 19 (.fad 0 (t 18)), sv 20 (.ld .ptr (t 19)), sv 21 (.nck (t 20)), sv 22 (.fad 4 (t 21)), sv 23 (.ld .slice (t 22)), sv 24 (.mov (t 2)), sv 25 (.idx 4 (t 23) (t 24)), sv 8 (.mov (t 25))]) (.seq (.seq (.reg [sv 26 (.mov (t 1)), sv 27 (.mov (t 1)), sv 28 (.nck (t 27)), sv 29 (.fad 3 (t 28)), sv 30 (.ld .slice (t 29)), sv 31 (.mov (t 2)), sv 32 (.idx 1 (t 30) (t 31)), sv 33 (.ld .slice (t 32)), se 34 (.call 48 [(t 26), (t 33)] (.one .slice)), sv 35 (.len (t 34)), sv 36 (.mov (ci 0))]) (.block 0 (.loop [(36, (.one (.int .i64)))] [10, 36, 37, 38, 39, 40, 41, 42, 43, 44, 45, 46] (.seq (.reg [sv 37 (.cmp .lss (t 36) (t 35))]) (.seq (.cond (t 37) .skip (.exit 0)) (.seq (.block 1 (.seq (.reg [sv 38 (.idx 1 (t 34) (t 36)), sv 39 (.ld (.int .i64) (t 38)), sv 10 (.mov (t 39))]) (.reg [sv 40 (.mov (t 0)), sv 41 (.mov (t 10)), sv 42 (.mov (t 3)), sv 43 (.ar .add true (t 42) (ci 1)), sv 44 (.ar .mul true (ci 2) (t 43)), se 45 (.call 30 [(t 40), (t 41), (t 44)] .unit)]))) (.reg [sv 46 (.ar .add true (t 36) (ci 1)), sv 36 (.mov (t 46))]))))))) (.seq (.seq (.reg [sv 47 (.mov (t 8)), sv 48 (.nck (t 47)), sv 49 (.fad 0 (t 48)), sv 50 (.ld .slice (t 49)), sv 51 (.len (t 50)), sv 52 (.mov (ci 0))]) (.block 2 (.loop [(3, (.one (.int .i64))), (52, (.one (.int .i64)))] [3, 12, 14, 52, 53, 54, 55, 56, 57, 58, 59, 60, 61, 62, 63, 64, 65, 66, 67, 68, 69, 70, 71, 72, 73, 74, 75, 76, 77, 78, 79, 80, 81] (.seq (.reg [sv 53 (.cmp .lss (t 52) (t 51))]) (.seq (.cond (t 53) .skip (.exit 2)) (.seq (.block 3 (.seq (.reg [sv 54 (.idx 4 (t 50) (t 52)), sv 55 (.lda [(.int .i64), (.int .i64), (.int .i64), .slice] (t 54)), se 12 (.alc 71 [.int .i64 0, .int .i64 0, .int .i64 0, .slice none 0 0]), ne (.sto 4 (t 12) (t 55))]) (.seq (.reg [sv 56 (.mov (t 3)), sv 57 (.ar .add true (t 56) (ci 1)), sv 3 (.mov (t 57))]) (.seq (.seq (.reg [sv 58 (.fad 3 (t 12)), sv 59 (.ld .slice (t 58)), sv 60 (.len (t 59)), sv 61 (.mov (ci 0))]) (.block 4 (.loop [(61, (.one (.int .i64)))] [14, 61, 62, 63, 64, 65, 66, 67, 68, 69, 70] (.seq (.reg [sv 62 (.cmp .lss (t 61) (t 60))]) (.seq (.cond (t 62) .skip (.exit 4)) (.seq (.block 5 (.seq (.reg [sv 63 (.idx 1 (t 59) (t 61)), sv 64 (.ld (.int .i64) (t 63)), sv 14 (.mov (t 64))]) (.reg [sv 65 (.mov (t 0)), sv 66 (.mov (t 14)), sv 67 (.mov (t 3)), sv 68 (.ar .mul true (ci 2) (t 67)), se 69 (.call 30 [(t 65), (t 66), (t 68)] .unit)]))) (.reg [sv 70 (.ar .add true (t 61) (ci 1)), sv 61 (.mov (t 70))]))))))) (.seq (.reg [sv 71 (.fad 1 (t 12)), sv 72 (.ld (.int .i64) (t 71)), sv 73 (.cmp .geq (t 72) (ci 0))]) (.cond (t 73) (.reg [sv 74 (.mov (t 0)), sv 75 (.fad 1 (t 12)), sv 76 (.ld (.int .i64) (t 75)), sv 77 (.mov (t 3)), sv 78 (.ar .mul true (ci 2) (t 77)), sv 79 (.ar .add true (t 78) (ci 1)), se 80 (.call 30 [(t 74), (t 76), (t 79)] .unit)]) .skip)))))) (.reg [sv 81 (.ar .add true (t 52) (ci 1)), sv 52 (.mov (t 81))]))))))) (.seq (.reg [sv 82 (.mov (t 3)), sv 83 (.ar .add true (t 82) (ci 1)), sv 3 (.mov (t 83))]) (.cut [] [84, 85, 86, 87, 88, 89, 90, 91, 92, 93, 94, 95, 96, 97, 98] (.seq (.reg [sv 84 (.mov (t 8)), sv 85 (.nck (t 84)), sv 86 (.fad 1 (t 85)), sv 87 (.fad 1 (t 86)), sv 88 (.ld (.int .i64) (t 87)), sv 89 (.cmp .geq (t 88) (ci 0))]) (.cond (t 89) (.reg [sv 90 (.mov (t 0)), sv 91 (.mov (t 8)), sv 92 (.nck (t 91)), sv 93 (.fad 1 (t 92)), sv 94 (.fad 1 (t 93)), sv 95 (.ld (.int .i64) (t 94)), sv 96 (.mov (t 3)), sv 97 (.ar .mul true (ci 2) (t 96)), se 98 (.call 30 [(t 90), (t 95), (t 97)] .unit)]) .skip)) (.seq (.reg [sv 99 (.mov (t 1)), sv 100 (.mov (t 1)), sv 101 (.nck (t 100)), sv 102 (.fad 4 (t 101)), sv 103 (.ld .slice (t 102)), sv 104 (.mov (t 2)), sv 105 (.idx 1 (t 103) (t 104)), sv 106 (.ld .slice (t 105)), se 107 (.call 48 [(t 99), (t 106)] (.one .slice)), sv 108 (.len (t 107)), sv 109 (.mov (ci 0))]) (.block 6 (.loop [(109, (.one (.int .i64)))] [16, 109, 110, 111, 112, 113, 114, 115, 116, 117, 118, 119] (.seq (.reg [sv 110 (.cmp .lss (t 109) (t 108))]) (.seq (.cond (t 110) .skip (.exit 6)) (.seq (.block 7 (.seq (.reg [sv 111 (.idx 1 (t 107) (t 109)), sv 112 (.ld (.int .i64) (t 111)), sv 16 (.mov (t 112))]) (.reg [sv 113 (.mov (t 0)), sv 114 (.mov (t 16)), sv 115 (.mov (t 3)), sv 116 (.ar .mul true (ci 2) (t 115)), sv 117 (.ar .add true (t 116) (ci 1)), se 118 (.call 30 [(t 113), (t 114), (t 117)] .unit)]))) (.reg [sv 119 (.ar .add true (t 109) (ci 1)), sv 109 (.mov (t 119))])))))))))))), []⟩
theorem ck31 : chkFL Tryd.prog 31 fl31 = true := by kernel_rfl
def sh31 (as_0 : Option Addr) (ns_0 cs_0 : Nat) (pw_1 : Option Addr) (b_2 : Int) (k_3 : Int) (h : H) (R : Value → H → Prop) : Prop :=
 (pw_1 : Option Addr) ≠ none ∧
 (onP pw_1 fun bv_19 ov_19 =>
 ∃ (pv_20 : Option Addr), cell h ⟨bv_19, (ov_19 + 0), none⟩ = some (.pointer pv_20) ∧
 (pv_20 : Option Addr) ≠ none ∧
 (onP pv_20 fun bv_22 ov_22 =>
 ∃ (av_23 : Option Addr) (nv_23 cv_23 : Nat), cell h ⟨bv_22, (ov_22 + 4), none⟩ = some (.slice av_23 nv_23 cv_23) ∧
 0 ≤ b_2 ∧ b_2 < (↑nv_23 : Int) ∧
 (onP av_23 fun bv_25 ov_25 =>
 (pw_1 : Option Addr) ≠ none ∧
 (onP pw_1 fun bv_29 ov_29 =>
 ∃ (av_30 : Option Addr) (nv_30 cv_30 : Nat), cell h ⟨bv_29, (ov_29 + 3), none⟩ = some (.slice av_30 nv_30 cv_30) ∧
 0 ≤ b_2 ∧ b_2 < (↑nv_30 : Int) ∧
 (onP av_30 fun bv_32 ov_32 =>
 ∃ (av_33 : Option Addr) (nv_33 cv_33 : Nat), cell h ⟨bv_32, (ov_32 + (b_2).toNat * 1), none⟩ = some (.slice av_33 nv_33 cv_33) ∧
 HC Tryd.prog 48 [(.pointer pw_1), (.slice av_33 nv_33 cv_33)] h fun rv_34 h1 =>
 ∃ (av_34 : Option Addr) (nv_34 cv_34 : Nat), rv_34 = (.slice av_34 nv_34 cv_34) ∧
 ∃ J : Int → LI, (J 0).1 h1 ∧
 ∀ (v_36 : Int), ∀ h2 : H, (J v_36).1 h2 →
 (((v_36 < (↑nv_34 : Int)) →
 0 ≤ v_36 ∧ v_36 < (↑nv_34 : Int) ∧
 (onP av_34 fun bv_38 ov_38 =>
 ∃ (v_39 : Int), cell h2 ⟨bv_38, (ov_38 + (v_36).toNat * 1), none⟩ = some (.int .i64 v_39) ∧
 InR .i64 (k_3 + 1) ∧
 InR .i64 (2 * (k_3 + 1)) ∧
 HC Tryd.prog 30 [(.slice as_0 ns_0 cs_0), (.int .i64 v_39), (.int .i64 (2 * (k_3 + 1)))] h2 fun rv_45 h3 =>
 rv_45 = (.tuple ⟨[]⟩) ∧
 InR .i64 (v_36 + 1) ∧
 (J (v_36 + 1)).1 h3 ∧ (J (v_36 + 1)).2 h3 < (J v_36).2 h2)) ∧
 (¬ (v_36 < (↑nv_34 : Int)) →
 ((some ⟨bv_25, (ov_25 + (b_2).toNat * 4), none⟩) : Option Addr) ≠ none ∧
 ∃ (av_50 : Option Addr) (nv_50 cv_50 : Nat), cell h2 ⟨bv_25, ((ov_25 + (b_2).toNat * 4) + 0), none⟩ = some (.slice av_50 nv_50 cv_50) ∧
 ∃ J_1 : Int → Int → LI, (J_1 k_3 0).1 h2 ∧
 ∀ (k_3_1 : Int), ∀ (v_52 : Int), ∀ h4 : H, (J_1 k_3_1 v_52).1 h4 →
 (((v_52 < (↑nv_50 : Int)) →
 0 ≤ v_52 ∧ v_52 < (↑nv_50 : Int) ∧
 (onP av_50 fun bv_54 ov_54 =>
 ∃ (v_55 : Int), cell h4 ⟨bv_54, ((ov_54 + (v_52).toNat * 4) + 0), none⟩ = some (.int .i64 v_55) ∧
 ∃ (v_55_1 : Int), cell h4 ⟨bv_54, ((ov_54 + (v_52).toNat * 4) + 1), none⟩ = some (.int .i64 v_55_1) ∧
 ∃ (v_55_2 : Int), cell h4 ⟨bv_54, ((ov_54 + (v_52).toNat * 4) + 2), none⟩ = some (.int .i64 v_55_2) ∧
 ∃ (av_55 : Option Addr) (nv_55 cv_55 : Nat), cell h4 ⟨bv_54, ((ov_54 + (v_52).toNat * 4) + 3), none⟩ = some (.slice av_55 nv_55 cv_55) ∧
 ∀ (bx_12 : Nat) (h5 : H), New h4 (.cells ⟨[(.int .i64 0), (.int .i64 0), (.int .i64 0), (.slice none 0 0)]⟩ 71) bx_12 h5 →
 stQ 4 h5 bx_12 0 [(.int .i64 v_55), (.int .i64 v_55_1), (.int .i64 v_55_2), (.slice av_55 nv_55 cv_55)] fun h6 =>
 InR .i64 (k_3_1 + 1) ∧
 ∃ (av_59 : Option Addr) (nv_59 cv_59 : Nat), cell h6 ⟨bx_12, (0 + 3), none⟩ = some (.slice av_59 nv_59 cv_59) ∧
 ∃ J_2 : Int → LI, (J_2 0).1 h6 ∧
 ∀ (v_61 : Int), ∀ h7 : H, (J_2 v_61).1 h7 →
 (((v_61 < (↑nv_59 : Int)) →
 0 ≤ v_61 ∧ v_61 < (↑nv_59 : Int) ∧
 (onP av_59 fun bv_63 ov_63 =>
 ∃ (v_64 : Int), cell h7 ⟨bv_63, (ov_63 + (v_61).toNat * 1), none⟩ = some (.int .i64 v_64) ∧
 InR .i64 (2 * (k_3_1 + 1)) ∧
 HC Tryd.prog 30 [(.slice as_0 ns_0 cs_0), (.int .i64 v_64), (.int .i64 (2 * (k_3_1 + 1)))] h7 fun rv_69 h8 =>
 rv_69 = (.tuple ⟨[]⟩) ∧
 InR .i64 (v_61 + 1) ∧
 (J_2 (v_61 + 1)).1 h8 ∧ (J_2 (v_61 + 1)).2 h8 < (J_2 v_61).2 h7)) ∧
 (¬ (v_61 < (↑nv_59 : Int)) →
 ∃ (v_72 : Int), cell h7 ⟨bx_12, (0 + 1), none⟩ = some (.int .i64 v_72) ∧
 (((0 ≤ v_72) →
 ∃ (v_76 : Int), cell h7 ⟨bx_12, (0 + 1), none⟩ = some (.int .i64 v_76) ∧
 InR .i64 (2 * (k_3_1 + 1)) ∧
 InR .i64 ((2 * (k_3_1 + 1)) + 1) ∧
 HC Tryd.prog 30 [(.slice as_0 ns_0 cs_0), (.int .i64 v_76), (.int .i64 ((2 * (k_3_1 + 1)) + 1))] h7 fun rv_80 h9 =>
 rv_80 = (.tuple ⟨[]⟩) ∧
 InR .i64 (v_52 + 1) ∧
 (J_1 (k_3_1 + 1) (v_52 + 1)).1 h9 ∧ (J_1 (k_3_1 + 1) (v_52 + 1)).2 h9 < (J_1 k_3_1 v_52).2 h4) ∧
 (¬ (0 ≤ v_72) →
 InR .i64 (v_52 + 1) ∧
 (J_1 (k_3_1 + 1) (v_52 + 1)).1 h7 ∧ (J_1 (k_3_1 + 1) (v_52 + 1)).2 h7 < (J_1 k_3_1 v_52).2 h4)))))) ∧
 (¬ (v_52 < (↑nv_50 : Int)) →
 InR .i64 (k_3_1 + 1) ∧
 ∃ J_3 : H → Prop, (((some ⟨bv_25, (ov_25 + (b_2).toNat * 4), none⟩) : Option Addr) ≠ none ∧
 ∃ (v_88 : Int), cell h4 ⟨bv_25, (((ov_25 + (b_2).toNat * 4) + 1) + 1), none⟩ = some (.int .i64 v_88) ∧
 (((0 ≤ v_88) →
 ((some ⟨bv_25, (ov_25 + (b_2).toNat * 4), none⟩) : Option Addr) ≠ none ∧
 ∃ (v_95 : Int), cell h4 ⟨bv_25, (((ov_25 + (b_2).toNat * 4) + 1) + 1), none⟩ = some (.int .i64 v_95) ∧
 InR .i64 (2 * (k_3_1 + 1)) ∧
 HC Tryd.prog 30 [(.slice as_0 ns_0 cs_0), (.int .i64 v_95), (.int .i64 (2 * (k_3_1 + 1)))] h4 fun rv_98 h11 =>
 rv_98 = (.tuple ⟨[]⟩) ∧
 J_3 h11) ∧
 (¬ (0 ≤ v_88) →
 J_3 h4))) ∧
 ∀ h10 : H, J_3 h10 →
 (pw_1 : Option Addr) ≠ none ∧
 (onP pw_1 fun bv_102 ov_102 =>
 ∃ (av_103 : Option Addr) (nv_103 cv_103 : Nat), cell h10 ⟨bv_102, (ov_102 + 4), none⟩ = some (.slice av_103 nv_103 cv_103) ∧
 0 ≤ b_2 ∧ b_2 < (↑nv_103 : Int) ∧
 (onP av_103 fun bv_105 ov_105 =>
 ∃ (av_106 : Option Addr) (nv_106 cv_106 : Nat), cell h10 ⟨bv_105, (ov_105 + (b_2).toNat * 1), none⟩ = some (.slice av_106 nv_106 cv_106) ∧
 HC Tryd.prog 48 [(.pointer pw_1), (.slice av_106 nv_106 cv_106)] h10 fun rv_107 h12 =>
 ∃ (av_107 : Option Addr) (nv_107 cv_107 : Nat), rv_107 = (.slice av_107 nv_107 cv_107) ∧
 ∃ J_4 : Int → LI, (J_4 0).1 h12 ∧
 ∀ (v_109 : Int), ∀ h13 : H, (J_4 v_109).1 h13 →
 (((v_109 < (↑nv_107 : Int)) →
 0 ≤ v_109 ∧ v_109 < (↑nv_107 : Int) ∧
 (onP av_107 fun bv_111 ov_111 =>
 ∃ (v_112 : Int), cell h13 ⟨bv_111, (ov_111 + (v_109).toNat * 1), none⟩ = some (.int .i64 v_112) ∧
 InR .i64 (2 * (k_3_1 + 1)) ∧
 InR .i64 ((2 * (k_3_1 + 1)) + 1) ∧
 HC Tryd.prog 30 [(.slice as_0 ns_0 cs_0), (.int .i64 v_112), (.int .i64 ((2 * (k_3_1 + 1)) + 1))] h13 fun rv_118 h14 =>
 rv_118 = (.tuple ⟨[]⟩) ∧
 InR .i64 (v_109 + 1) ∧
 (J_4 (v_109 + 1)).1 h14 ∧ (J_4 (v_109 + 1)).2 h14 < (J_4 v_109).2 h13)) ∧
 (¬ (v_109 < (↑nv_107 : Int)) →
 R (.tuple ⟨[]⟩) h13)))))))))))))
theorem hc31 {as_0 : Option Addr} {ns_0 cs_0 : Nat} {pw_1 : Option Addr} {b_2 : Int} {k_3 : Int} {h : H} {R : Value → H → Prop} (x : sh31 as_0 ns_0 cs_0 pw_1 b_2 k_3 h R) : HC Tryd.prog 31 [(.slice as_0 ns_0 cs_0), (.pointer pw_1), (.int .i64 b_2), (.int .i64 k_3)] h R :=
  FL.sound mixed ck31 ⟨rfl, Eq.mp (by unfold sh31; kernel_rfl) x⟩
end Go.Proofs.Try

/- through: back through a block, over rows of words. -/
set_option maxRecDepth 100000
set_option linter.unusedVariables false
set_option linter.unusedSimpArgs false
open Go Go.Fw Go.Proofs
namespace Go.Proofs.Try

def rdW (X : List Int) (l : List W) (n : Int) : List W := match X[n.toNat]? with
  | some t => if 0 < t then putW l (t - 1).toNat else l
  | none => l
def drW (X : List Int) (l : List W) (d : Int) : List W := if 0 ≤ d then (match X[d.toNat]? with
  | some t => if 0 < t then dropW l (t - 1).toNat else l
  | none => l) else l
def insW (X : List Int) (l : List W) (x : Ins) : List W := x.args.foldl (rdW X) (drW X l x.dst)
def endW (X : List Int) (l : List W) (v : Int) : List W := if 0 ≤ v then rdW X l v else l
def thrW (X : List Int) (l : List W) (b : Blk) : List W := b.body.foldr (fun x l => insW X l x) (endW X l b.term.value)
theorem rdW_len (X : List Int) (l : List W) (n : Int) : (rdW X l n).length = l.length := by
  unfold rdW; split <;> (try split) <;> simp [putW]
theorem drW_len (X : List Int) (l : List W) (n : Int) : (drW X l n).length = l.length := by
  unfold drW; split <;> (try split) <;> (try split) <;> simp [dropW]
theorem foldl_rdW_len (X : List Int) : ∀ (a : List Int) (l : List W), (a.foldl (rdW X) l).length = l.length
  | [], l => rfl
  | n :: a, l => by rw [List.foldl_cons, foldl_rdW_len X a, rdW_len]
theorem insW_len (X : List Int) (l : List W) (x : Ins) : (insW X l x).length = l.length := by unfold insW; rw [foldl_rdW_len, drW_len]
theorem endW_len (X : List Int) (l : List W) (v : Int) : (endW X l v).length = l.length := by unfold endW; split <;> simp [rdW_len]
theorem foldr_insW_len (X : List Int) : ∀ (b : List Ins) (l : List W), (b.foldr (fun x l => insW X l x) l).length = l.length
  | [], l => rfl
  | x :: b, l => by rw [List.foldr_cons, insW_len, foldr_insW_len X b]
theorem thrW_len (X : List Int) (l : List W) (b : Blk) : (thrW X l b).length = l.length := by unfold thrW; rw [foldr_insW_len, endW_len]

/-- A row of words stands for a set of registers, by the numbers of the wanted ones. -/
structure Rep (names : List Int) (l : List W) (s : List Bool) : Prop where
  bit : ∀ (i : Nat) (n : Int), names[i]? = some n → (inR l i = true ↔ bit s n.toNat)
  far : ∀ i, names.length ≤ i → inR l i = false
theorem NmOk.inj {R : Nat} {P : Nat → Prop} {X names : List Int} (nm : NmOk R P X names) {i j : Nat} {n m : Int} (hi : names[i]? = some n) (hj : names[j]? = some m) (h : n.toNat = m.toNat) : i = j := by
  have h1 := (nm.back i n hi).2.2.2
  have h2 := (nm.back j m hj).2.2.2
  rw [h] at h1
  have := h1.symm.trans h2
  simp at this; omega
theorem NmOk.le {R : Nat} {P : Nat → Prop} {X names : List Int} (nm : NmOk R P X names) {r : Nat} {t : Int} (h : X[r]? = some t) (ht : 0 < t) : (t - 1).toNat < names.length := by
  rcases nm.idx r t h with ⟨h1, _⟩ | ⟨_, _, h3⟩
  · omega
  · exact (List.getElem?_eq_some_iff.1 h3).1
theorem Rep.rd {R : Nat} {P : Nat → Prop} {X names : List Int} (nm : NmOk R P X names) {l : List W} {s : List Bool} (rp : Rep names l s) (hl : names.length ≤ 64 * l.length) (hs : s.length = R) {n : Int} (n0 : 0 ≤ n) (n1 : n < R) : Rep names (rdW X l n) (onL s n) := by
  obtain ⟨t, ht⟩ : ∃ t, X[n.toNat]? = some t := ⟨X[n.toNat]'(by rw [nm.len]; omega), by simp⟩
  unfold rdW; rw [ht]; simp only
  by_cases t0 : 0 < t
  · rw [if_pos t0]
    have hlt := nm.le ht t0
    have hnm : names[(t - 1).toNat]? = some n := by
      rcases nm.idx _ t ht with ⟨h1, _⟩ | ⟨_, _, h3⟩
      · omega
      · rw [h3]; congr 1; omega
    refine ⟨fun i m hi => ?_, fun i hi => ?_⟩
    · rw [inR_put (by omega), bit_onL]
      simp only [Bool.or_eq_true, decide_eq_true_eq]
      have hb := nm.back i m hi
      rw [rp.bit i m hi]
      constructor
      · rintro (h | h)
        · exact .inr h
        · subst h; rw [hnm] at hi; cases hi; exact .inl ⟨rfl, by omega⟩
      · rintro (⟨h, _⟩ | h)
        · exact .inr (nm.inj hi hnm h)
        · exact .inl h
    · rw [inR_put (by omega), rp.far i hi]
      simp; omega
  · rw [if_neg t0]
    refine ⟨fun i m hi => ?_, rp.far⟩
    rw [rp.bit i m hi, bit_onL]
    refine ⟨.inr, fun h => h.elim (fun ⟨h, _⟩ => ?_) id⟩
    obtain ⟨_, _, h3, h4⟩ := nm.back i m hi
    rw [h, ht] at h4
    cases h4; omega
theorem Rep.dr {R : Nat} {P : Nat → Prop} {X names : List Int} (nm : NmOk R P X names) {l : List W} {s : List Bool} (rp : Rep names l s) (hl : names.length ≤ 64 * l.length) (hs : s.length = R) {d : Int} (d1 : d < R) : Rep names (drW X l d) (if 0 ≤ d then s.set d.toNat false else s) := by
  unfold drW
  by_cases d0 : 0 ≤ d
  · rw [if_pos d0, if_pos d0]
    obtain ⟨t, ht⟩ : ∃ t, X[d.toNat]? = some t := ⟨X[d.toNat]'(by rw [nm.len]; omega), by simp⟩
    rw [ht]; simp only
    by_cases t0 : 0 < t
    · rw [if_pos t0]
      have hlt := nm.le ht t0
      have hnm : names[(t - 1).toNat]? = some d := by
        rcases nm.idx _ t ht with ⟨h1, _⟩ | ⟨_, _, h3⟩
        · omega
        · rw [h3]; congr 1; omega
      refine ⟨fun i m hi => ?_, fun i hi => ?_⟩
      · rw [inR_drop (by omega), bit_set]
        simp only [Bool.and_eq_true, Bool.not_eq_true', decide_eq_false_iff_not, reduceCtorEq, and_false, false_or]
        rw [rp.bit i m hi]
        constructor
        · rintro ⟨h1, h2⟩
          exact ⟨fun e => h2 (nm.inj hi hnm e), h1⟩
        · rintro ⟨h1, h2⟩
          exact ⟨h2, fun e => by subst e; rw [hnm] at hi; cases hi; exact h1 rfl⟩
      · rw [inR_drop (by omega), rp.far i hi]; rfl
    · rw [if_neg t0]
      refine ⟨fun i m hi => ?_, rp.far⟩
      rw [rp.bit i m hi, bit_set]
      simp only [reduceCtorEq, and_false, false_or]
      refine ⟨fun h => ⟨fun e => ?_, h⟩, fun h => h.2⟩
      obtain ⟨_, _, h3, h4⟩ := nm.back i m hi
      rw [e, ht] at h4
      cases h4; omega
  · rw [if_neg d0, if_neg d0]; exact rp
theorem Rep.fold {R : Nat} {P : Nat → Prop} {X names : List Int} (nm : NmOk R P X names) : ∀ {a : List Int} {l : List W} {s : List Bool}, Rep names l s → names.length ≤ 64 * l.length → s.length = R → (∀ n ∈ a, 0 ≤ n ∧ n < R) → Rep names (a.foldl (rdW X) l) (a.foldl onL s)
  | [], l, s, rp, _, _, _ => rp
  | n :: a, l, s, rp, hl, hs, ha => by
    rw [List.foldl_cons, List.foldl_cons]
    have hn := ha n (by simp)
    exact Rep.fold nm (rp.rd nm hl hs hn.1 hn.2) (by rw [rdW_len]; exact hl) (by rw [onL_len]; exact hs) fun m hm => ha m (by simp [hm])
theorem Rep.thr {f : Fnc} {P : Nat → Prop} {X names : List Int} (nm : NmOk f.regs.toNat P X names) {b : Blk} (hb : BlkOk f b) {l : List W} {s : List Bool} (rp : Rep names l s) (hl : names.length ≤ 64 * l.length) (hs : s.length = f.regs.toNat) : Rep names (thrW X l b) (startL s b) := by
  unfold thrW startL
  have he : Rep names (endW X l b.term.value) (endL s b.term.value) := by
    unfold endW endL
    split
    · rename_i h
      have := hb.val; unfold RegP at this
      exact rp.rd nm hl hs h (by omega)
    · exact rp
  have key : ∀ (c : List Ins), (∀ y ∈ c, InsP f y) → Rep names (c.foldr (fun x l => insW X l x) (endW X l b.term.value)) (c.foldr (fun x s => backL s x) (endL s b.term.value)) := by
    intro c
    induction c with
    | nil => intro _; exact he
    | cons y c ih =>
      intro hc
      rw [List.foldr_cons, List.foldr_cons]
      have h1 := ih fun z hz => hc z (by simp [hz])
      have hy := hc y (by simp)
      have h2 := insP_dst hy
      unfold RegP at h2
      have e1 := (foldr_insW_len X c (endW X l b.term.value)).trans (endW_len _ _ _)
      have e2 := (foldr_backL_len c (endL s b.term.value)).trans (endL_len _ _)
      revert h1 e1 e2
      generalize List.foldr (fun x l => insW X l x) (endW X l b.term.value) c = L
      generalize List.foldr (fun x s => backL s x) (endL s b.term.value) c = S
      intro h1 e1 e2
      unfold insW backL
      refine Rep.fold nm (h1.dr nm (by rw [e1]; exact hl) (by rw [e2]; exact hs) (by omega)) (by rw [drW_len, e1]; exact hl) ?_ fun n hn => ?_
      · split
        · rw [List.length_set, e2]; exact hs
        · rw [e2]; exact hs
      · have := hy.1 n hn; unfold RegP at this; omega
  exact key _ fun y hy => (hb.ins y hy).1

theorem _root_.Go.Fw.Mod.cl {S : Nat → Prop} {h h' : H} (m : Mod S h h') {b o : Nat} {v : Value} (hc : cell h ⟨b, o, none⟩ = some v) (hn : ¬ S b) : cell h' ⟨b, o, none⟩ = some v := m.cell hc hn
theorem SB_of {α β : Type} {b : Nat} {l : List α} (l' : List β) (h : l'.length = l.length) : SB b l' = SB b l := by
  funext c; exact propext (SB_len h)
theorem c79 {h : H} {b0 b1 bw ow : Nat} {xp : Option Addr} {xn xc : Nat} {rp : Option Addr} {rn rc rb : Nat} {X : List Int} {l : List W} {n : Int}
    (h0 : cell h ⟨b0, 0, none⟩ = some (.pointer (some ⟨bw, ow, none⟩))) (h1 : cell h ⟨bw, ow + 1, none⟩ = some (.slice xp xn xc)) (hX : IntsAt h xp xn X) (h2 : cell h ⟨b1, 0, none⟩ = some (.slice rp rn rc)) (w : OwnW h rp rb l) (hl : l.length = rn)
    (n0 : 0 ≤ n) (n1 : n < xn) (hb : ∀ t, X[n.toNat]? = some t → 0 < t → t - 1 < 64 * (l.length : Int) ∧ t ≤ 1000000) {R : Value → H → Prop}
    (k : ∀ h', OwnW h' rp rb (rdW X l n) → Mod (SB rb l) h h' → R (.tuple ⟨[]⟩) h') :
    HC Tryd.prog 79 [.int .i64 n, .pointer (some ⟨b0, 0, none⟩), .pointer (some ⟨b1, 0, none⟩)] h R := by
  apply hc79; unfold sh79
  obtain ⟨t, b', o', ht, hp, hc⟩ := hX.get n0 n1
  refine ⟨_, h0, by simp, onP_at rfl ⟨_, _, _, h1, n0, n1, onP_at hp ⟨t, hc, fun tp => ?_, fun tn => ?_⟩⟩⟩
  · obtain ⟨q1, q2⟩ := hb t ht tp
    refine ⟨_, _, _, h2, i64ok (by omega) (by omega), c80 w hl (by omega) (by omega) (by omega) fun h' w' m' => ⟨rfl, k h' ?_ (m'.wid fun c _ hc => ⟨hc, ?_⟩)⟩⟩
    · unfold rdW; rw [ht]; simp only; rw [if_pos tp]; exact w'
    · rintro rfl; simp at q1; omega
  · refine k h ?_ (Mod.refl _ _)
    unfold rdW; rw [ht]; simp only; rw [if_neg tn]; exact w

theorem c98 {lp bf : Nat} {hB h : H} {p : Option Addr} {n c : Nat} {body : List Ins} (hn : (n : Int) < 9223372036854775807) (hb : RowAt InsD 4 hB p n body) (Inv : Int → H → Prop) (hI : ∀ i h', Inv i h' → cell h' ⟨bf, 0, none⟩ = some (.slice p n c) ∧ Ext hB h') (h0 : Inv ((n : Int) - 1) h)
    (st : ∀ (i : Int) h' x q m d, 0 ≤ i → i < n → Inv i h' → body[i.toNat]? = some x → IntsAt hB q m x.args → m ≤ d → HY Tryd.prog lp [.int .i64 i, .agg ⟨xv x q m d⟩] h' fun v h2 => v = .bool true ∧ Inv (i - 1) h2) {R : Value → H → Prop} (fin : ∀ h', Inv (-1) h' → R (.tuple ⟨[]⟩) h') :
    HC Tryd.prog 98 [.func (.yield lp) ⟨[]⟩ ⟨[]⟩, .pointer (some ⟨bf, 0, none⟩)] h R := by
  apply hc98; unfold sh98
  refine ⟨_, _, _, (hI _ _ h0).1, i64ok (by omega) (by omega), ?_⟩
  refine bwd n Inv (by omega) h0 fun i h1 i0 i1 hi => ⟨fun ge => ?_, fun lt => ?_⟩
  · obtain ⟨g1, g2⟩ := hI _ _ hi
    obtain ⟨x, b', o', hx, hp, vs, ⟨q, m, d, rfl, ha, hle⟩, hc⟩ := hb.get ge i1
    refine ⟨_, _, _, g1, ge, i1, onP_at hp ⟨_, g2.cell (hc 0 _ rfl), _, g2.cell (hc 1 _ rfl), _, g2.cell (hc 2 _ rfl), _, _, _, g2.cell (hc 3 _ rfl), (st i h1 x q m d ge i1 hi hx ha hle).mono ?_⟩⟩
    rintro v h2 ⟨rfl, h3⟩
    exact ⟨true, rfl, fun h => by simp at h, fun _ => ⟨i64ok (by omega) (by omega), bwd_next ge i1 h3⟩⟩
  · have : i = -1 := by omega
    subst this
    exact fin h1 hi
end Go.Proofs.Try

/- through: the walk. -/
set_option maxRecDepth 100000
set_option linter.unusedVariables false
set_option linter.unusedSimpArgs false
open Go Go.Fw Go.Proofs
namespace Go.Proofs.Try

theorem drop_foldr {α β : Type} {l : List α} {i : Nat} {x : α} {g : α → β → β} {s : β} (hx : l[i]? = some x) : (l.drop i).foldr g s = g x ((l.drop (i + 1)).foldr g s) := by
  rw [drop_get hx, List.foldr_cons]
theorem c62 {h0 h : H} {f : Fnc} {fb fo bw : Nat} {z : FV} {x : Blk} {b : Int} {xp : Option Addr} {xb Rg : Nat} {X names : List Int} {P : Nat → Prop} {rp : Option Addr} {rn rc rb : Nat} {l : List W}
    (hf : FncAt h0 fb fo f) (e0 : Ext h0 h) (hP : FncP f) (hz : SzF f) (hs : SzR f) (wF : OwnF h bw z) (hzf : z.f = .pointer (some ⟨fb, fo, none⟩)) (hzi : z.index = .slice xp Rg Rg) (hR : Rg = f.regs.toNat)
    (wX : OwnI h xp xb X) (nm : NmOk Rg P X names) (w : OwnW h rp rb l) (hl : l.length = rn) (hnl : names.length ≤ 64 * l.length) (hnr : names.length ≤ 262144) (b0 : 0 ≤ b) (hx : f.blocks[b.toNat]? = some x)
    (d0 : l ≠ [] → h0.size ≤ rb ∧ rb ≠ bw ∧ rb ≠ xb) {R : Value → H → Prop} (k : ∀ h', OwnW h' rp rb (thrW X l x) → Mod (SB rb l) h h' → R (.tuple ⟨[]⟩) h') :
    HC Tryd.prog 62 [.pointer (some ⟨bw, 0, none⟩), .int .i64 b, .slice rp rn rc] h R := by
  have hxm := List.mem_of_getElem? hx
  have okx := blkOk (hP.2.2.2 x hxm) (hz.2.2 x hxm)
  have hbx := hs.bd x hxm
  have hreg : 0 ≤ f.regs ∧ f.regs ≤ 262144 := ⟨hP.1.1, hP.1.2.1⟩
  have hXl := nm.len
  obtain ⟨fp, fn, fc, fq, fm, fd, C0⟩ := hf.cells
  have hbl := C0.bs.len
  have blt : b < fm := by have := (List.getElem?_eq_some_iff.1 hx).1; omega
  obtain ⟨x', b', o', hx', hp, vs, ⟨bp, bn, bc, tp, tn, tc, rfl, hbody, hbc, hto, htc⟩, hcell⟩ := C0.bs.get b0 blt
  obtain rfl : x = x' := by rw [hx] at hx'; cases hx'; rfl
  have hbln := hbody.len
  have hbwl := wF.lt (by simp)
  have hz0 := e0.size
  have hrbl : l ≠ [] → rb < h.size := fun hne => w.lt hne
  apply hc62; unfold sh62; intro b1 h1 hN1 b2 h2 hN2
  have hb1 := hN1.blk
  have hz1 := hN1.size
  have hb2 := hN2.blk
  have hz2 := hN2.size
  have e2 : Ext h h2 := hN1.ext.trans hN2.ext
  have g1 : cell h2 ⟨b1, 0, none⟩ = some (.pointer (some ⟨bw, 0, none⟩)) := hN1.keep _ hN2.ext 0 _ rfl
  have g2 : cell h2 ⟨b2, 0, none⟩ = some (.slice rp rn rc) := hN2.keep _ Ext.rfl' 0 _ rfl
  have wF2 := wF.ext e2
  have zf : ∀ {h'}, OwnF h' bw z → cell h' ⟨bw, 0 + 0, none⟩ = some (.pointer (some ⟨fb, fo, none⟩)) := fun w => w.get 0 (by rw [← hzf]; rfl)
  have zi : ∀ {h'}, OwnF h' bw z → cell h' ⟨bw, 0 + 1, none⟩ = some (.slice xp Rg Rg) := fun w => w.get 1 (by rw [← hzi]; rfl)
  refine ⟨_, g1, by simp, onP_at rfl ⟨_, zf wF2, by simp, onP_at rfl ⟨_, _, _, (C0.ext (e0.trans e2)).c4, b0, blt, onP_at hp fun b3 h3 hN3 => hN3.st rfl rfl rfl rfl fun h4 e24 g3 => ?_⟩⟩⟩
  have hb3 := hN3.blk
  have hz4 := e24.size
  have e4 := e0.trans (e2.trans e24)
  -- what stays while only the row is written
  have keep : ∀ {S : Nat → Prop} {h'}, Fw.Mod S h4 h' → (∀ c, c < h4.size → S c → SB rb l c) → cell h' ⟨b1, 0, none⟩ = some (.pointer (some ⟨bw, 0, none⟩)) ∧ cell h' ⟨b2, 0, none⟩ = some (.slice rp rn rc) ∧
      cell h' ⟨b3, 0, none⟩ = some (.func (.func 79) ⟨[]⟩ ⟨[(.pointer (some ⟨b1, 0, none⟩)), (.pointer (some ⟨b2, 0, none⟩))]⟩) ∧ OwnF h' bw z ∧ IntsAt h' xp Rg X ∧ Ext h0 h' := by
    intro S h' m hS
    have hS' : ∀ c, c < h4.size → c < h0.size ∨ c = bw ∨ (c = xb ∧ X ≠ []) ∨ h.size ≤ c → ¬ S c := fun c hc hx hSc => by
      obtain ⟨q1, q2⟩ := hS c hc hSc
      have := d0 q2
      have := hrbl q2
      omega
    have hz34 := hN3.size
    have l3 := (g3 h4 Ext.rfl' 0 _ rfl)
    have hb3l : b3 < h4.size := cell_lt l3
    refine ⟨m.cl (e24.cell g1) (hS' _ (by omega) (by omega)), m.cl (e24.cell g2) (hS' _ (by omega) (by omega)), m.cl l3 (hS' _ hb3l (by omega)), (wF2.ext e24).mod m (hS' _ (by omega) (by omega)), ?_, m.ext e4 fun c hc => hS' c (by have := e4.size; omega) (.inl hc)⟩
    have wX4 := wX.ext (e2.trans e24)
    by_cases hne : X = []
    · have hRg : Rg = 0 := by rw [← hXl, hne]; rfl
      rw [hne, hRg]; exact SlAt.nil _ _ _ _
    · have := wX4.lt hne
      exact (wX4.mod m (hS' _ (by omega) (by right; right; left; exact ⟨rfl, hne⟩))).sl (enc := fun x : Int => [Value.int .i64 x]) (k := 1) (fun _ => rfl) hXl
  have hbt : ∀ (l' : List W) (n : Int), l'.length = l.length → ∀ t, X[n.toNat]? = some t → 0 < t → t - 1 < 64 * (l'.length : Int) ∧ t ≤ 1000000 := fun l' n hl' t ht t0 => by
    have := nm.le ht t0
    omega
  have rd : ∀ {S : Nat → Prop} {h' : H} {l' : List W} {a : Int} {RR : Value → H → Prop}, Fw.Mod S h4 h' → (∀ c, c < h4.size → S c → SB rb l c) → OwnW h' rp rb l' → l'.length = l.length → RegP f a →
      (∀ h'', OwnW h'' rp rb (rdW X l' a) → Fw.Mod (SB rb l) h' h'' → RR (.tuple ⟨[]⟩) h'') →
      HC Tryd.prog 79 [.int .i64 a, .pointer (some ⟨b1, 0, none⟩), .pointer (some ⟨b2, 0, none⟩)] h' RR := by
    intro S h' l' a RR m hS w' hl' hRa kk
    unfold RegP at hRa
    obtain ⟨k1, k2, k3, k4, k5, k6⟩ := keep m hS
    refine c79 k1 (zi k4) k5 k2 w' (by omega) hRa.1 (by omega) (hbt _ _ hl') fun h'' w'' m'' => kk h'' w'' ?_
    rw [SB_of _ hl'] at m''; exact m''
  have w4 := w.ext (e2.trans e24)
  have c04 := fun j y hj => e4.cell (hcell j y hj)
  refine ⟨fun h' => Fw.Mod (SB rb l) h4 h' ∧ OwnW h' rp rb (endW X l x.term.value), ⟨by simp, _, c04 2 _ rfl, fun v0 => ⟨by simp, (keep (Mod.refl none' h4) fun _ _ h => h.elim).2.2.1, _, c04 2 _ rfl, by kernel_rfl, rd (Mod.refl none' h4) (fun _ _ h => h.elim) w4 rfl (by rcases okx.val with h | h; omega; exact h) fun h6 w6 m6 => ⟨rfl, m6, by unfold endW; rw [if_pos v0]; exact w6⟩⟩, fun v0 => ⟨Mod.refl _ _, by unfold endW; rw [if_neg v0]; exact w4⟩⟩, fun h5 ⟨m5, w5⟩ => ?_⟩
  obtain ⟨k1, k2, k3, k4, k5, k6⟩ := keep m5 fun _ _ h => h
  have hz5 := m5.size
  refine ⟨by simp, _, _, _, k6.cell (hcell 0 _ rfl), ?_⟩
  apply hc81; unfold sh81; intro bs h7 hN7
  refine ⟨bs, rfl, by kernel_rfl, fun D lp h8 h9 rec hN8 hN9 hy => ?_⟩
  have hb7 := hN7.blk
  have hz7 := hN7.size
  have hb8 := hN8.blk
  have hz8 := hN8.size
  have hb9 := hN9.blk
  have hz9 := hN9.size
  have e59 : Ext h5 h9 := (hN7.ext.trans hN8.ext).trans hN9.ext
  have gs9 : cell h9 ⟨bs, 0, none⟩ = some (.slice bp bn bc) := hN7.keep _ (hN8.ext.trans hN9.ext) 0 _ rfl
  have gD9 : h9[D]? = some (.deferred (some [])) := hN9.ext _ _ hN8.get
  have gl9 : h9[lp]? = some (.loop rec) := hN9.get
  let T : Nat → Prop := fun c => SB rb l c ∨ c = lp
  have hT4 : ∀ c, c < h4.size → T c → SB rb l c := fun c hc h => h.elim id fun e => by omega
  have m49 : ∀ {h'}, Fw.Mod T h9 h' → Fw.Mod T h4 h' := fun m => ((m5.wid fun c _ h => .inl h).trans (e59.mod.wid (S' := T) fun _ _ h => h.elim) fun _ _ h => h).trans m fun _ _ h => h
  have hTn : ∀ c, h5.size ≤ c → c ≠ lp → ¬ T c := fun c hc hl h => by
    rcases h with ⟨q1, q2⟩ | h
    · have := hrbl q2; have := e2.size; omega
    · exact hl h
  refine c98 (by omega) hbody (fun i h' => h'[lp]? = some (.loop rec) ∧ Fw.Mod T h9 h' ∧ OwnW h' rp rb ((x.body.drop (i + 1).toNat).foldr (fun y l => insW X l y) (endW X l x.term.value))) (fun i h' ⟨_, m, _⟩ => ⟨m.cl gs9 (hTn _ (by omega) (by omega)), (keep (m49 m) hT4).2.2.2.2.2⟩) ⟨gl9, Mod.refl _ _, by
      rw [show (((bn : Int) - 1) + 1).toNat = x.body.length by omega, List.drop_length]; exact w5.ext e59⟩ ?_ fun h13 ⟨gl13, m13, w13⟩ => ⟨gl13, fun h14 u14 => ⟨?_, fun h23 u23 => k h23 ?_ ?_⟩⟩
  · intro i h10 y q m d i0 i1 ⟨gl10, m10, w10⟩ hyi ha hle
    have oky := okx.ins y (List.mem_of_getElem? hyi)
    have hzy := oky.2
    unfold SzI at hzy
    have hal := ha.len
    have hdst := insP_dst oky.1
    unfold RegP at hdst
    refine hy i y.op y.dst y.imm q m d h10 _ ⟨gl10, rfl, fun bx h15 hN15 => hN15.st rfl rfl rfl rfl fun h16 e16 gx => ⟨e16 _ _ gl10, fun h11 u11 => ?_⟩⟩
    have hb15 := hN15.blk
    have hz10 := m10.size
    have hz16 := e16.size
    have m911 : Fw.Mod T h9 h11 := (m10.trans (e16.mod.wid (S' := T) fun _ _ h => h.elim) fun _ _ h => h).trans (u11.mod (S := T) (.inr rfl)) fun _ _ h => h
    have gl11 : h11[lp]? = some (.loop { rec with state := .busy }) := u11.get (e16 _ _ gl10)
    have m1011 : Fw.Mod (fun c => c = lp) h10 h11 := (e16.mod.wid (S' := fun c => c = lp) fun _ _ h => h.elim).trans (u11.mod (S := fun c => c = lp) rfl) fun _ _ h => h
    have hlpr : l ≠ [] → rb ≠ lp := fun hne => by have := hrbl hne; have := e2.size; omega
    generalize hL : (x.body.drop (i + 1).toNat).foldr (fun y l => insW X l y) (endW X l x.term.value) = L at w10
    have hLl : L.length = l.length := by rw [← hL, foldr_insW_len, endW_len]
    have w11 : OwnW h11 rp rb L := by
      by_cases hne : l = []
      · have : L = [] := List.length_eq_zero_iff.1 (by rw [hLl, hne]; rfl)
        rw [this]; exact ⟨fun h => absurd rfl h, fun h => absurd rfl h⟩
      · exact w10.mod m1011 (hlpr hne)
    have gx11 : ∀ j v, (xv y q m d)[j]? = some v → cell h11 ⟨bx, j, none⟩ = some v := fun j v hj => u11.mod (S := fun c => c = lp) rfl |>.cl (gx _ Ext.rfl' j v hj) (by have := lt_of gl10; omega)
    have hL1 : ∀ c, c < h4.size → (T c) → SB rb l c := hT4
    obtain ⟨k1, k2, k3, k4, k5, k6⟩ := keep (m49 m911) hT4
    refine ⟨fun h'' => h''[lp]? = some (.loop { rec with state := .busy }) ∧ Fw.Mod (SB rb l) h11 h'' ∧ OwnW h'' rp rb (drW X L y.dst), ⟨_, gx11 1 _ rfl, fun d0 => ?_, fun d0 => ⟨gl11, Mod.refl _ _, by unfold drW; rw [if_neg d0]; exact w11⟩⟩, fun h17 ⟨gl17, m17, w17⟩ => ?_⟩
    · obtain ⟨t, b5, o5, ht, hp5, hc5⟩ := k5.get d0 (by omega)
      refine ⟨_, k1, by simp, onP_at rfl ⟨_, _, _, zi k4, _, gx11 1 _ rfl, d0, by omega, onP_at hp5 ⟨t, hc5, fun t0 => ?_, fun t0 => ⟨gl11, Mod.refl _ _, by unfold drW; rw [if_pos d0, ht]; simp only; rw [if_neg t0]; exact w11⟩⟩⟩⟩
      have hbt' := hbt L y.dst hLl t ht t0
      have hne : L ≠ [] := by rintro hne; rw [hne] at hbt'; simp at hbt'; omega
      have hne' : l ≠ [] := fun hn => by rw [hn] at hLl; exact hne (List.length_eq_zero_iff.1 hLl)
      have fin : HC Tryd.prog 82 [(.slice rp rn rc), (.int .i64 (t - 1))] h11 fun rv h18 => rv = (.tuple ⟨[]⟩) ∧ h18[lp]? = some (.loop { rec with state := .busy }) ∧ Fw.Mod (SB rb l) h11 h18 ∧ OwnW h18 rp rb (drW X L y.dst) :=
        c82 w11 (by omega) (by omega) (by omega) (by omega) fun h18 w18 m18 => ⟨rfl, m18.get gl11 (fun e => hlpr hne' e.symm), m18.wid fun c _ hc => ⟨hc, hne'⟩, by unfold drW; rw [if_pos d0, ht]; simp only; rw [if_pos t0]; exact w18⟩
      have iok : InR .i64 (t - 1) := i64ok (by omega) (by omega)
      have dlt : y.dst < (Rg : Int) := by omega
      exact ⟨_, _, _, k2, ⟨_, k1, by simp, onP_at rfl ⟨⟨_, _, _, zi k4, _, gx11 1 _ rfl, d0, dlt, onP_at hp5 ⟨t, hc5, iok, fin⟩⟩, _, gx11 1 _ rfl, _, _, _, zi k4, d0, dlt, onP_at hp5 ⟨t, hc5, iok, fin⟩⟩⟩, _, gx11 1 _ rfl, _, k1, by simp, onP_at rfl ⟨_, _, _, zi k4, d0, dlt, onP_at hp5 ⟨t, hc5, iok, fin⟩⟩⟩
    · have m917 : Fw.Mod T h9 h17 := m911.trans (m17.wid (S' := T) fun _ _ h => .inl h) fun _ _ h => h
      have hz11 := m911.size
      have hxk : ∀ {h'}, Fw.Mod (SB rb l) h11 h' → ∀ j v, (xv y q m d)[j]? = some v → cell h' ⟨bx, j, none⟩ = some v := fun mm j v hj => mm.cl (gx11 j v hj) fun ⟨q1, q2⟩ => by have := hrbl q2; have := e2.size; omega
      refine ⟨_, _, _, hxk m17 3 _ rfl, ?_⟩
      refine fwd m (fun a h' => h'[lp]? = some (.loop { rec with state := .busy }) ∧ Fw.Mod (SB rb l) h11 h' ∧ OwnW h' rp rb ((y.args.take a.toNat).foldl (rdW X) (drW X L y.dst))) (by omega) ⟨gl17, m17, by simpa using w17⟩ fun a h21 a0 a1 ⟨gl21, m21, w21⟩ => ⟨fun alt => ⟨a0, alt, ?_⟩, fun age => ?_⟩
      · have m921 : Fw.Mod T h9 h21 := m911.trans (m21.wid (S' := T) fun _ _ h => .inl h) fun _ _ h => h
        obtain ⟨j1, j2, j3, j4, j5, j6⟩ := keep (m49 m921) hT4
        obtain ⟨v, b6, o6, hv, hp6, hc6⟩ := ha.get a0 alt
        have hRv := oky.1.1 v (List.mem_of_getElem? hv)
        refine onP_at hp6 ⟨v, j6.cell hc6, j3, by kernel_rfl, rd (m49 m921) hT4 w21 (by rw [foldl_rdW_len, drW_len, hLl]) hRv fun h22 w22 m22 => ⟨rfl, i64ok (by omega) (by omega), fwd_next a0 alt ⟨?_, m21.trans m22 fun _ _ h => h, ?_⟩⟩⟩
        · exact m22.get gl21 fun ⟨q1, q2⟩ => hlpr q2 q1.symm
        · rw [show (a + 1).toNat = a.toNat + 1 by omega, take_fold hv]; exact w22
      · refine ⟨gl21, fun h12 u12 => ⟨rfl, u12.get gl21, ?_, ?_⟩⟩
        · exact (m911.trans (m21.wid (S' := T) fun _ _ h => .inl h) fun _ _ h => h).trans (u12.mod (S := T) (.inr rfl)) fun _ _ h => h
        · have hw : (y.args.take a.toNat).foldl (rdW X) (drW X L y.dst) = (x.body.drop (i - 1 + 1).toNat).foldr (fun y l => insW X l y) (endW X l x.term.value) := by
            rw [show (i - 1 + 1).toNat = i.toNat by omega, drop_foldr hyi, show i.toNat + 1 = (i + 1).toNat by omega, hL, show a.toNat = y.args.length by omega, List.take_length]; rfl
          rw [hw] at w21
          by_cases hne : l = []
          · have : (x.body.drop (i - 1 + 1).toNat).foldr (fun y l => insW X l y) (endW X l x.term.value) = [] := List.length_eq_zero_iff.1 (by rw [foldr_insW_len, endW_len, hne]; rfl)
            rw [this]; exact ⟨fun h => absurd rfl h, fun h => absurd rfl h⟩
          · exact w21.mod (u12.mod (S := fun c => c = lp) rfl) (hlpr hne)
  · have hu := u14.mod (S := fun c => c = lp) rfl
    exact hu.get (m13.get gD9 (hTn _ (by omega) (by omega))) (by omega)
  · have : (x.body.drop (-1 + 1).toNat).foldr (fun y l => insW X l y) (endW X l x.term.value) = thrW X l x := rfl
    rw [this] at w13
    by_cases hne : l = []
    · have : thrW X l x = [] := List.length_eq_zero_iff.1 (by rw [thrW_len, hne]; rfl)
      rw [this]; exact ⟨fun h => absurd rfl h, fun h => absurd rfl h⟩
    · have := hrbl hne
      have := e2.size
      exact (w13.mod (u14.mod (S := fun c => c = lp) rfl) (by omega)).mod (u23.mod (S := fun c => c = D) rfl) (by omega)
  · have m1 : Fw.Mod (fun c => T c ∨ c = D) h4 h23 := (((m49 m13).wid (S' := fun c => T c ∨ c = D) fun _ _ h => .inl h).trans (u14.mod (S := fun c => T c ∨ c = D) (.inl (.inr rfl))) fun _ _ h => h).trans (u23.mod (S := fun c => T c ∨ c = D) (.inr rfl)) fun _ _ h => h
    have h24 := e2.size
    exact ((e2.trans e24).mod.wid (S' := SB rb l) fun _ _ h => h.elim).trans m1 fun c hc h => by
      rcases h with (h | h) | h
      · exact h
      · omega
      · omega
end Go.Proofs.Try

/- flowing: tables of rows of words, rows that grow, whose block is whose; what is reckoned. -/
set_option maxRecDepth 100000
set_option linter.unusedVariables false
set_option linter.unusedSimpArgs false
open Go Go.Fw Go.Proofs
namespace Go.Proofs.Try

abbrev S3 := Option Addr × Nat × Nat
/-- A table of rows of words; each row's block bears its mark. -/
structure WT (n m size lo : Nat) (h : H) (tg : Nat → Nat) (k bt : Nat) (L : List S3) (a : Nat → Nat) (A : Nat → List W) : Prop where
  own : OwnS h (some ⟨bt, 0, none⟩) bt L
  len : L.length = n
  row : ∀ i < m, L[i]? = some (some ⟨a i, 0, none⟩, size, size) ∧ OwnW h (some ⟨a i, 0, none⟩) (a i) (A i) ∧ (A i).length = size ∧ lo ≤ a i ∧ a i < h.size ∧ tg (a i) = 4 * i + k
theorem WT.mod {n m size lo : Nat} {h h' : H} {tg : Nat → Nat} {k bt : Nat} {L : List S3} {a : Nat → Nat} {A : Nat → List W} (x : WT n m size lo h tg k bt L a A) {S : Nat → Prop} (md : Mod S h h') (h1 : ¬ S bt) (h2 : ∀ i < m, ¬ S (a i)) : WT n m size lo h' tg k bt L a A := by
  refine ⟨x.own.mod md h1, x.len, fun i hi => ?_⟩
  obtain ⟨q1, q2, q3, q4, q5, q6⟩ := x.row i hi
  exact ⟨q1, q2.mod md (h2 i hi), q3, q4, Nat.lt_of_lt_of_le q5 md.size, q6⟩
theorem WT.tag {n m size lo : Nat} {h : H} {tg tg' : Nat → Nat} {k bt : Nat} {L : List S3} {a : Nat → Nat} {A : Nat → List W} (x : WT n m size lo h tg k bt L a A) (e : ∀ b < h.size, tg' b = tg b) : WT n m size lo h tg' k bt L a A := by
  refine ⟨x.own, x.len, fun i hi => ?_⟩
  obtain ⟨q1, q2, q3, q4, q5, q6⟩ := x.row i hi
  exact ⟨q1, q2, q3, q4, q5, by rw [e _ q5]; exact q6⟩
theorem WT.put {n m m' size lo : Nat} {h : H} {tg : Nat → Nat} {k bt : Nat} {L : List S3} {a : Nat → Nat} {A : Nat → List W} (x : WT n m size lo h tg k bt L a A) (hbt : bt < lo) {i : Nat} (hi : i < n) (hm : ∀ j < m', j ≠ i → j < m) {b' : Nat} {s : List W} (w : OwnW h (some ⟨b', 0, none⟩) b' s) (hl : s.length = size) (hb : lo ≤ b') (hb2 : b' < h.size) (ht : tg b' = 4 * i + k)
    {K : H → Prop} (hk : ∀ h', WT n m' size lo h' tg k bt (L.set i (some ⟨b', 0, none⟩, size, size)) (upd1 a i b') (upd1 A i s) → Mod (fun c => c = bt) h h' → K h') : stQ 1 h bt (0 + i * 1) [.slice (some ⟨b', 0, none⟩) size size] K := by
  refine Own.put1 (g := sl3) (x' := (some ⟨b', 0, none⟩, size, size)) x.own (by rw [x.len]; exact hi) rfl fun h' w' md => hk h' ⟨w', by rw [List.length_set]; exact x.len, fun j hj => ?_⟩ md
  have hs := md.size
  by_cases hji : j = i
  · subst hji
    rw [upd1_same, upd1_same]
    exact ⟨by rw [List.getElem?_set_self (by rw [x.len]; exact hi)], w.mod md (by omega), hl, hb, by omega, ht⟩
  · rw [upd1_ne _ _ hji, upd1_ne _ _ hji]
    obtain ⟨q1, q2, q3, q4, q5, q6⟩ := x.row j (hm j hj hji)
    exact ⟨by rw [List.getElem?_set_ne (fun e => hji e.symm)]; exact q1, q2.mod md (by omega), q3, q4, by omega, q6⟩
/-- A row is written over. -/
theorem WT.set {n m size lo : Nat} {h h' : H} {tg : Nat → Nat} {k bt : Nat} {L : List S3} {a : Nat → Nat} {A : Nat → List W} (x : WT n m size lo h tg k bt L a A) (hbt : bt < lo) {i : Nat} (hi : i < m) {s : List W} (w : OwnW h' (some ⟨a i, 0, none⟩) (a i) s) (hl : s.length = size) {S : Nat → Prop} (md : Mod S h h') (hS : ∀ c, c < h.size → S c → tg c = 4 * i + k ∧ lo ≤ c) :
    WT n m size lo h' tg k bt L a (upd1 A i s) := by
  have hbts : L ≠ [] → bt < h.size := fun hne => x.own.lt hne
  have hbtm : ¬ S bt ∨ L = [] := by
    by_cases hne : L = []
    · exact .inr hne
    · exact .inl fun h => by have := (hS _ (hbts hne) h).2; omega
  refine ⟨?_, x.len, fun j hj => ?_⟩
  · rcases hbtm with h1 | h1
    · exact x.own.mod md h1
    · rw [h1]; exact ⟨fun h => absurd rfl h, fun h => absurd rfl h⟩
  · obtain ⟨q1, q2, q3, q4, q5, q6⟩ := x.row j hj
    by_cases hji : j = i
    · subst hji
      rw [upd1_same]
      exact ⟨q1, w, hl, q4, Nat.lt_of_lt_of_le q5 md.size, q6⟩
    · rw [upd1_ne _ _ hji]
      exact ⟨q1, q2.mod md fun h => by have := (hS _ q5 h).1; omega, q3, q4, Nat.lt_of_lt_of_le q5 md.size, q6⟩

/-- A table of rows of numbers that grow; each row's block bears its mark. -/
structure LT (n : Nat) (hb h : H) (tg : Nat → Nat) (bt : Nat) (T : List S3) (rows : Nat → List Int) : Prop where
  own : OwnS h (some ⟨bt, 0, none⟩) bt T
  len : T.length = n
  row : ∀ (i : Nat) p m c, T[i]? = some (p, m, c) → GrowI hb h p m c (rows i) ∧ ∀ b, AtP p b → 0 < c → tg b = 4 * i
theorem LT.mod {n : Nat} {hb h h' : H} {tg : Nat → Nat} {bt : Nat} {T : List S3} {rows : Nat → List Int} (x : LT n hb h tg bt T rows) {S : Nat → Prop} (md : Mod S h h') (h1 : ¬ S bt) (h2 : ∀ c i, c < h.size → hb.size ≤ c → i < n → tg c = 4 * i → ¬ S c) : LT n hb h' tg bt T rows := by
  refine ⟨x.own.mod md h1, x.len, fun i p m c hT => ?_⟩
  obtain ⟨g, t⟩ := x.row i p m c hT
  have hi : i < n := by rw [← x.len]; exact (List.getElem?_eq_some_iff.1 hT).1
  exact ⟨g.mod md fun b hp hc => h2 b i (g.lo hp hc).2 (g.lo hp hc).1 hi (t b hp hc), t⟩
theorem LT.tag {n : Nat} {hb h : H} {tg tg' : Nat → Nat} {bt : Nat} {T : List S3} {rows : Nat → List Int} (x : LT n hb h tg bt T rows) (e : ∀ b < h.size, tg' b = tg b) : LT n hb h tg' bt T rows := by
  refine ⟨x.own, x.len, fun i p m c hT => ?_⟩
  obtain ⟨g, t⟩ := x.row i p m c hT
  exact ⟨g, fun b hp hc => by rw [e _ (g.lo hp hc).2]; exact t b hp hc⟩

/-- A row that grows, whose block bears the mark k. -/
structure WK (k : Nat) (hb h : H) (tg : Nat → Nat) (p : Option Addr) (n c : Nat) (l : List Int) : Prop where
  g : GrowI hb h p n c l
  t : ∀ b, AtP p b → 0 < c → tg b = k
theorem WK.mod {k : Nat} {hb h h' : H} {tg : Nat → Nat} {p : Option Addr} {n c : Nat} {l : List Int} (x : WK k hb h tg p n c l) {S : Nat → Prop} (md : Mod S h h') (h2 : ∀ c, c < h.size → hb.size ≤ c → tg c = k → ¬ S c) : WK k hb h' tg p n c l :=
  ⟨x.g.mod md fun b hp hc => h2 b (x.g.lo hp hc).2 (x.g.lo hp hc).1 (x.t b hp hc), x.t⟩
theorem WK.tag {k : Nat} {hb h : H} {tg tg' : Nat → Nat} {p : Option Addr} {n c : Nat} {l : List Int} (x : WK k hb h tg p n c l) (e : ∀ b < h.size, tg' b = tg b) : WK k hb h tg' p n c l :=
  ⟨x.g, fun b hp hc => by rw [e _ (x.g.lo hp hc).2]; exact x.t b hp hc⟩
/-- One more is put behind: in place, or in a new block. -/
theorem WK.app {k : Nat} {hb h h1 : H} {tg : Nat → Nat} {p : Option Addr} {n c : Nat} {l : List Int} (x : WK k hb h tg p n c l) (hhb : hb.size ≤ h.size) {r : Int} {bv : Nat} (hN : New h (.cells ⟨[.int .i64 r]⟩ 3) bv h1) (hs : (n + 1) * 8 ≤ 140737488355328)
    {K : Option Addr → Nat → Nat → H → Prop} (hk : ∀ p' c' h' tg', WK k hb h' tg' p' (n + 1) c' (l ++ [r]) → (∀ b < h.size, tg' b = tg b) → Mod (fun b => tg b = k ∧ hb.size ≤ b) h h' → K p' (n + 1) c' h') :
    apQ 3 1 8 [.int .i64 0] h1 p n c (some ⟨bv, 0, none⟩) 1 K := by
  have hz := hN.size
  have hbv := hN.blk
  have g1 : GrowI hb h1 p n c l := x.g.ext hN.ext
  refine Grow.app (enc := fun x : Int => [Value.int .i64 x]) (k := 1) (fun _ => rfl) g1 (by omega) rfl (m := 1) (l' := [r]) rfl (New.rdc1 hN rfl) rfl hs fun p' c' h' G m L => ?_
  refine hk p' c' h' (fun b => if b < h.size then tg b else k) ⟨G, fun b hp hc => ?_⟩ (fun b hb => by simp [hb]) ((hN.mod _).trans (m.wid (S' := fun b => (tg b = k ∧ hb.size ≤ b)) fun b _ ⟨q1, q2⟩ => ⟨x.t b q1 q2, (x.g.lo q1 q2).1⟩) fun _ _ h => h)
  by_cases hlt : b < h.size
  · rw [if_pos hlt]
    rcases L (by omega) b hp with ⟨q1, q2⟩ | q
    · exact x.t b q1 q2
    · omega
  · rw [if_neg hlt]
theorem WK.pop {k : Nat} {hb h : H} {tg : Nat → Nat} {p : Option Addr} {n c : Nat} {l : List Int} {v : Int} (x : WK k hb h tg p (n + 1) c (l ++ [v])) : WK k hb h tg p n c l := by
  refine ⟨⟨by have := x.g.len; simp at this; omega, by have := x.g.le; omega, fun hc => ?_⟩, x.t⟩
  obtain ⟨b, e, rest, h1, h2, h3, h4⟩ := x.g.at_ hc
  have hle := x.g.le
  refine ⟨b, e, [.int .i64 v] ++ rest, h1, h2, ?_, by rw [List.length_append, h4]; simp; omega⟩
  rw [flat_append, List.append_assoc] at h3
  exact h3
theorem LT.app {n : Nat} {hb h h1 : H} {tg : Nat → Nat} {bt : Nat} {T : List S3} {rows : Nat → List Int} (x : LT n hb h tg bt T rows) (hhb : hb.size ≤ h.size) (hbt : bt < hb.size) {i : Nat} {p : Option Addr} {m c : Nat} (hT : T[i]? = some (p, m, c)) {r : Int} {bv : Nat} (hN : New h (.cells ⟨[.int .i64 r]⟩ 3) bv h1) (hs : (m + 1) * 8 ≤ 140737488355328)
    {K : Option Addr → Nat → Nat → H → Prop} (hk : ∀ p' c' h7 tg', (∀ b < h.size, tg' b = tg b) → Mod (fun b => tg b = 4 * i ∧ hb.size ≤ b) h h7 → (∀ {K' : H → Prop}, (∀ h8, LT n hb h8 tg' bt (T.set i (p', m + 1, c')) (upd1 rows i (rows i ++ [r])) → Mod (fun b => b = bt ∨ (tg b = 4 * i ∧ hb.size ≤ b)) h h8 → K' h8) → stQ 1 h7 bt (0 + i * 1) [.slice p' (m + 1) c'] K') → K p' (m + 1) c' h7) :
    apQ 3 1 8 [.int .i64 0] h1 p m c (some ⟨bv, 0, none⟩) 1 K := by
  have hil : i < T.length := (List.getElem?_eq_some_iff.1 hT).1
  obtain ⟨g, t⟩ := x.row i p m c hT
  refine WK.app (k := 4 * i) ⟨g, t⟩ hhb hN hs fun p' c' h7 tg' G7 e7 m7 => hk p' c' h7 tg' e7 m7 fun {K'} hK' => ?_
  have w7 : OwnS h7 (some ⟨bt, 0, none⟩) bt T := x.own.mod m7 (by omega)
  refine Own.put1 (g := sl3) (x' := (p', m + 1, c')) w7 hil rfl fun h8 w8 m8 => hK' h8 ⟨w8, by rw [List.length_set]; exact x.len, fun j q2 n2 c2 hj => ?_⟩ ((m7.wid (S' := fun b => b = bt ∨ (tg b = 4 * i ∧ hb.size ≤ b)) fun b _ hx => Or.inr hx).trans m8 fun b _ hx => Or.inl hx)
  by_cases hji : j = i
  · subst hji
    rw [List.getElem?_set_self hil] at hj
    cases hj
    rw [upd1_same]
    exact ⟨G7.g.mod m8 fun b hb2 hc e => by have := (G7.g.lo hb2 hc).1; omega, G7.t⟩
  · rw [List.getElem?_set_ne (fun e => hji e.symm)] at hj
    rw [upd1_ne _ _ hji]
    obtain ⟨gj, tj⟩ := x.row j _ _ _ hj
    have gj7 := gj.mod m7 fun b hb2 hc ⟨h1, h2⟩ => by have := tj b hb2 hc; omega
    exact ⟨gj7.mod m8 fun b hb2 hc e => by have := (gj.lo hb2 hc).1; omega, fun b hp hc => by rw [e7 _ (gj.lo hp hc).2]; exact tj b hp hc⟩

/-! ### How much is still wanting -/
theorem countP_lt {α : Type} {p q : α → Bool} : ∀ {l : List α}, (∀ x ∈ l, p x = true → q x = true) → (∃ x ∈ l, q x = true ∧ p x = false) → l.countP p < l.countP q
  | [], _, h => by obtain ⟨x, hx, _⟩ := h; simp at hx
  | y :: l, h1, h2 => by
    have hmono : l.countP p ≤ l.countP q := List.countP_mono_left fun x hx => h1 x (by simp [hx])
    obtain ⟨x, hx, hq, hp⟩ := h2
    rw [List.countP_cons, List.countP_cons]
    rcases List.mem_cons.1 hx with rfl | hx
    · simp [hq, hp]; omega
    · have ih := countP_lt (fun z hz => h1 z (by simp [hz])) ⟨x, hx, hq, hp⟩
      by_cases hy : p y = true
      · simp [hy, h1 y (by simp) hy]; omega
      · simp [hy]; omega
def zc (size : Nat) (l : List W) : Nat := (List.range (64 * size)).countP fun j => !inR l j
def zW (size : Nat) (B : Nat → List W) : Nat → Nat
  | 0 => 0
  | n + 1 => zW size B n + zc size (B n)
theorem zW_le {size : Nat} {B : Nat → List W} : ∀ n, zW size B n ≤ n * (64 * size)
  | 0 => by simp [zW]
  | n + 1 => by
    have h1 := zW_le (size := size) (B := B) n
    have h2 : zc size (B n) ≤ 64 * size := by unfold zc; exact Nat.le_trans List.countP_le_length (by simp)
    simp only [zW]; rw [Nat.succ_mul]; omega
theorem zc_join {size : Nat} {r o s : List W} (h : ∀ j, inR s j = (inR r j || inR o j)) : zc size s ≤ zc size r ∧ ((∃ j, j < 64 * size ∧ inR o j = true ∧ inR r j = false) → zc size s < zc size r) := by
  refine ⟨List.countP_mono_left fun j _ hj => ?_, fun ⟨j, hj, h1, h2⟩ => countP_lt (fun j _ hj => ?_) ⟨j, List.mem_range.2 hj, ?_, ?_⟩⟩
  · simp [h] at hj ⊢; exact hj.1
  · simp [h] at hj ⊢; exact hj.1
  · simp [h2]
  · simp [h, h1]
theorem zW_upd {size : Nat} {B : Nat → List W} {i : Nat} {s : List W} (h : zc size s ≤ zc size (B i)) : ∀ n, zW size (upd1 B i s) n ≤ zW size B n ∧ (i < n → zc size s < zc size (B i) → zW size (upd1 B i s) n < zW size B n)
  | 0 => ⟨Nat.le_refl _, fun h => by omega⟩
  | n + 1 => by
    obtain ⟨h1, h2⟩ := zW_upd (B := B) (i := i) (s := s) h n
    simp only [zW]
    by_cases e : n = i
    · subst e; rw [upd1_same]; exact ⟨by omega, fun _ h3 => by omega⟩
    · rw [upd1_ne _ _ e]; exact ⟨by omega, fun h3 h4 => by have := h2 (by omega) h4; omega⟩
end Go.Proofs.Try

/- flowing: what the sets of a flow are, plain. -/
set_option maxRecDepth 100000
set_option linter.unusedVariables false
set_option linter.unusedSimpArgs false
open Go Go.Fw Go.Proofs
namespace Go.Proofs.Try

theorem inR_far {l : List W} {i : Nat} (h : 64 * l.length ≤ i) : inR l i = false := by
  unfold inR
  rw [List.getElem?_eq_none (by omega)]; simp
theorem eq_of_inR {s r : List W} (hl : s.length = r.length) (h : ∀ i, inR s i = inR r i) : s = r := by
  apply List.ext_getElem hl
  intro q h1 h2
  apply BitVec.eq_of_getLsbD_eq
  intro j hj
  have := h (64 * q + j)
  unfold inR at this
  rw [show (64 * q + j) / 64 = q by omega, show (64 * q + j) % 64 = j by omega] at this
  simpa [h1, h2] using this
theorem join_same {r o s : List W} {n : Nat} (hn : r.length = n) (ho : o.length = n) (hl : s.length = r.length) (h : ∀ j, inR s j = (inR r j || inR o j)) {more : Bool} (hm : more = true ↔ ∃ i, i < 64 * n ∧ inR o i = true ∧ inR r i = false) (h0 : more = false) : s = r := by
  refine eq_of_inR hl fun i => ?_
  rw [h]
  by_cases hi : i < 64 * n
  · by_cases h1 : inR o i = true
    · cases h2 : inR r i
      · have := hm.2 ⟨i, hi, h1, h2⟩; rw [h0] at this; cases this
      · rfl
    · simp at h1; simp [h1]
  · rw [inR_far (by omega), inR_far (l := o) (by omega)]; rfl

/-- What is reckoned is wanted. -/
structure SndW (f : Fnc) (names : List Int) (A B : Nat → List W) : Prop where
  a : ∀ i < f.blocks.length, ∀ (j : Nat) r, names[j]? = some r → inR (A i) j = true → LA f i r.toNat
  b : ∀ i < f.blocks.length, ∀ (j : Nat) r, names[j]? = some r → inR (B i) j = true → LB f i r.toNat
  fa : ∀ i < f.blocks.length, ∀ j, names.length ≤ j → inR (A i) j = false
  fb : ∀ i < f.blocks.length, ∀ j, names.length ≤ j → inR (B i) j = false
/-- What does not wait is reckoned. -/
structure Cmp (f : Fnc) (X : List Int) (A B : Nat → List W) (ws : List Bool) (wk : List Int) : Prop where
  len : ws.length = f.blocks.length
  c1 : ∀ (i : Nat) x, f.blocks[i]? = some x → ws[i]? = some false → ∀ j, inR (thrW X (B i) x) j = true → inR (A i) j = true
  wt : ∀ i : Nat, ws[i]? = some true → (i : Int) ∈ wk
  wb : ∀ v ∈ wk, 0 ≤ v ∧ v < f.blocks.length
def C2 (f : Fnc) (A B : Nat → List W) (ok : Nat → Nat → Prop) : Prop := ∀ (i : Nat) x t, f.blocks[i]? = some x → t ∈ x.term.to → ok i t.toNat → ∀ j, inR (A t.toNat) j = true → inR (B i) j = true

/-- The sets of registers that rows of words stand for. -/
noncomputable def setOf (R : Nat) (names : List Int) (l : List W) : List Bool := (List.range R).map fun r : Nat => @decide (∃ j : Nat, names[j]? = some (r : Int) ∧ inR l j = true) (Classical.propDecidable _)
theorem setOf_len (R : Nat) (names : List Int) (l : List W) : (setOf R names l).length = R := by simp [setOf]
theorem bit_setOf {R : Nat} {names : List Int} {l : List W} {r : Nat} : bit (setOf R names l) r ↔ r < R ∧ ∃ j : Nat, names[j]? = some (r : Int) ∧ inR l j = true := by
  unfold bit setOf
  rw [List.getElem?_map]
  by_cases h : r < R
  · rw [List.getElem?_range h]; simp [h]
  · rw [List.getElem?_eq_none (by simp; omega)]; simp [h]
theorem rep_setOf {R : Nat} {P : Nat → Prop} {X names : List Int} (nm : NmOk R P X names) {l : List W} (hf : ∀ j, names.length ≤ j → inR l j = false) : Rep names l (setOf R names l) := by
  refine ⟨fun i n hi => ?_, hf⟩
  rw [bit_setOf]
  obtain ⟨h1, h2, h3, h4⟩ := nm.back i n hi
  have e : ((n.toNat : Nat) : Int) = n := by omega
  rw [e]
  constructor
  · intro h; exact ⟨by omega, i, hi, h⟩
  · rintro ⟨_, j, hj, h⟩
    rw [nm.inj hi hj rfl]; exact h

theorem SndW.start {f : Fnc} {P : Nat → Prop} {X names : List Int} (nm : NmOk f.regs.toNat P X names) {A B : Nat → List W} (s : SndW f names A B) {i : Nat} {x : Blk} (hx : f.blocks[i]? = some x) (hb : BlkOk f x) (hl : names.length ≤ 64 * (B i).length) :
    (∀ (j : Nat) r, names[j]? = some r → inR (thrW X (B i) x) j = true → LA f i r.toNat) ∧ ∀ j, names.length ≤ j → inR (thrW X (B i) x) j = false := by
  have hi : i < f.blocks.length := (List.getElem?_eq_some_iff.1 hx).1
  have rp := (rep_setOf nm (s.fb i hi)).thr nm hb hl (setOf_len _ _ _)
  refine ⟨fun j r hj h => ?_, rp.far⟩
  refine LA_of hx (s := setOf f.regs.toNat names (B i)) (setOf_len _ _ _) (fun q hq => ?_) ((rp.bit j r hj).1 h)
  obtain ⟨h1, j', h2, h3⟩ := bit_setOf.1 hq
  have := s.b i hi j' _ h2 h3
  simpa using this

theorem flow_fin {f : Fnc} {X names : List Int} (nm : NmOk f.regs.toNat (Wnt f) X names) (hb : ∀ x ∈ f.blocks, BlkOk f x ∧ ∀ t ∈ x.term.to, 0 ≤ t ∧ t < f.blocks.length) {A B : Nat → List W} (hl : ∀ i < f.blocks.length, names.length ≤ 64 * (B i).length) {ws : List Bool} (s : SndW f names A B) (c : Cmp f X A B ws []) (c2 : C2 f A B fun _ _ => True) {i : Nat} (hi : i < f.blocks.length) {j : Nat} {r : Int} (hj : names[j]? = some r) :
    (inR (A i) j = true ↔ LA f i r.toNat) ∧ (inR (B i) j = true ↔ LB f i r.toNat) := by
  have hws : ∀ i < f.blocks.length, ws[i]? = some false := fun i hi => by
    have hlt : i < ws.length := by rw [c.len]; exact hi
    have h1 : ws[i]? = some ws[i] := by simp [hlt]
    cases hv : ws[i] with
    | false => rw [h1, hv]
    | true => rw [hv] at h1; have := c.wt i h1; simp at this
  have pre : Pre f (fun i => setOf f.regs.toNat names (A i)) (fun i => setOf f.regs.toNat names (B i)) := by
    intro i x hx
    have hi : i < f.blocks.length := (List.getElem?_eq_some_iff.1 hx).1
    have hbx := hb x (List.mem_of_getElem? hx)
    refine ⟨fun t ht => ⟨by rw [setOf_len, setOf_len], fun r hr => ?_⟩, by rw [startL_len, setOf_len, setOf_len], fun r hr => ?_⟩
    · obtain ⟨h1, j, h2, h3⟩ := bit_setOf.1 hr
      exact bit_setOf.2 ⟨h1, j, h2, c2 i x t hx ht trivial j h3⟩
    · have rp := (rep_setOf nm (s.fb i hi)).thr nm hbx.1 (hl i hi) (setOf_len _ _ _)
      have hrR : r < f.regs.toNat := by
        have := (List.getElem?_eq_some_iff.1 hr).1; rw [startL_len, setOf_len] at this; exact this
      have name : ∃ j : Nat, names[j]? = some (r : Int) := by
        rcases (bit_start hbx.1 (by rw [setOf_len]; exact hrR)).1 hr with h | ⟨_, h⟩
        · have hw : Wnt f r := ⟨x, List.mem_of_getElem? hx, h⟩
          have hX : X[r]? = some (X[r]'(by rw [nm.len]; exact hrR)) := by simp
          rcases nm.idx r _ hX with ⟨_, h2⟩ | ⟨_, _, h3⟩
          · exact absurd hw h2
          · exact ⟨_, h3⟩
        · exact let ⟨_, j, h2, _⟩ := bit_setOf.1 h; ⟨j, h2⟩
      obtain ⟨j, hj⟩ := name
      have := (rp.bit j _ hj).2 (by simpa using hr)
      exact bit_setOf.2 ⟨hrR, j, hj, c.c1 i x hx (hws i hi) j this⟩
  have sz : ∀ C : Nat → List W, SzA f.regs.toNat f.blocks.length fun i => setOf f.regs.toNat names (C i) := fun C i _ => setOf_len _ _ _
  have back := nm.back j r hj
  have e : ((r.toNat : Nat) : Int) = r := by omega
  refine ⟨⟨s.a i hi j r hj, fun h => ?_⟩, s.b i hi j r hj, fun h => ?_⟩
  · obtain ⟨_, j', h2, h3⟩ := bit_setOf.1 (h _ _ (sz A) (sz B) pre)
    rw [e] at h2; rw [nm.inj hj h2 rfl]; exact h3
  · obtain ⟨_, j', h2, h3⟩ := bit_setOf.1 (h _ _ (sz A) (sz B) pre)
    rw [e] at h2; rw [nm.inj hj h2 rfl]; exact h3
/-- No other register is live from block to block. -/
theorem LA_wnt {f : Fnc} (hb : ∀ x ∈ f.blocks, BlkOk f x ∧ ∀ t ∈ x.term.to, 0 ≤ t ∧ t < f.blocks.length) {i r : Nat} : (LA f i r → Wnt f r) ∧ (LB f i r → Wnt f r) := by
  have pre : Pre f (fun _ => (List.range f.regs.toNat).map fun r => @decide (Wnt f r) (Classical.propDecidable _)) (fun _ => (List.range f.regs.toNat).map fun r => @decide (Wnt f r) (Classical.propDecidable _)) := by
    intro i x hx
    refine ⟨fun _ _ => leL.rfl', by rw [startL_len], fun r hr => ?_⟩
    have hrR : r < f.regs.toNat := by
      have := (List.getElem?_eq_some_iff.1 hr).1; rw [startL_len] at this; simpa using this
    rcases (bit_start (hb x (List.mem_of_getElem? hx)).1 (by simpa using hrR)).1 hr with h | ⟨_, h⟩
    · have hw : Wnt f r := ⟨x, List.mem_of_getElem? hx, h⟩
      unfold bit; rw [List.getElem?_map, List.getElem?_range hrR]; simp [hw]
    · exact h
  have sz : SzA f.regs.toNat f.blocks.length (fun _ => (List.range f.regs.toNat).map fun r => @decide (Wnt f r) (Classical.propDecidable _)) := fun i _ => by simp
  have key : bit ((List.range f.regs.toNat).map fun r => @decide (Wnt f r) (Classical.propDecidable _)) r → Wnt f r := fun h => by
    have hrR : r < f.regs.toNat := by have := (List.getElem?_eq_some_iff.1 h).1; simpa using this
    unfold bit at h
    rw [List.getElem?_map, List.getElem?_range hrR] at h
    simpa using h
  exact ⟨fun h => key (h _ _ sz sz pre), fun h => key (h _ _ sz sz pre)⟩
end Go.Proofs.Try

/- flowing: all that it keeps, and the steps on it. -/
set_option maxRecDepth 100000
set_option linter.unusedVariables false
set_option linter.unusedSimpArgs false
open Go Go.Fw Go.Proofs
namespace Go.Proofs.Try

structure Cst where
  n : Nat
  size : Nat
  hb : H
  bL : Nat
  bA : Nat
  bB : Nat
  bW : Nat
structure Cst.Ok (C : Cst) : Prop where
  l : C.bL < C.hb.size
  a : C.bA < C.hb.size
  b : C.bB < C.hb.size
  w : C.bW < C.hb.size
  la : C.bL ≠ C.bA
  lb : C.bL ≠ C.bB
  lw : C.bL ≠ C.bW
  ab : C.bA ≠ C.bB
  aw : C.bA ≠ C.bW
  bw : C.bB ≠ C.bW
structure Gh where
  tg : Nat → Nat
  LA : List S3
  LB : List S3
  a : Nat → Nat
  b : Nat → Nat
  A : Nat → List W
  B : Nat → List W
  T : List S3
  rows : Nat → List Int
  wk : List Int
  ws : List Bool
structure PI (C : Cst) (G : Gh) (mA mB : Nat) (h : H) (p : Option Addr) (n c : Nat) : Prop where
  lead : LT C.n C.hb h G.tg C.bL G.T G.rows
  ah : WT C.n mA C.size C.hb.size h G.tg 1 C.bA G.LA G.a G.A
  be : WT C.n mB C.size C.hb.size h G.tg 2 C.bB G.LB G.b G.B
  wk : WK 3 C.hb h G.tg p n c G.wk
  wts : OwnB h (some ⟨C.bW, 0, none⟩) C.bW G.ws
  le : C.hb.size ≤ h.size
  mA : mA ≤ C.n
  mB : mB ≤ C.n
variable {C : Cst} {G : Gh} {mA mB : Nat} {h h' : H} {p : Option Addr} {n c : Nat}
/-- What is written bears another mark, or is no part. -/
theorem PI.mod (x : PI C G mA mB h p n c) (ok : C.Ok) {S : Nat → Prop} (md : Mod S h h') (h1 : ∀ q, q < C.hb.size → S q → q ≠ C.bL ∧ q ≠ C.bA ∧ q ≠ C.bB ∧ q ≠ C.bW) (h2 : ∀ q, q < h.size → C.hb.size ≤ q → S q → G.tg q = 7) : PI C G mA mB h' p n c := by
  have ht : ∀ q, q < C.hb.size → (q = C.bL ∨ q = C.bA ∨ q = C.bB ∨ q = C.bW) → ¬ S q := fun q hq ho hs => by have := h1 q hq hs; omega
  refine ⟨x.lead.mod md (ht _ ok.l (.inl rfl)) fun q i hq hl hi e hs => ?_, x.ah.mod md (ht _ ok.a (.inr (.inl rfl))) fun i hi hs => ?_, x.be.mod md (ht _ ok.b (.inr (.inr (.inl rfl)))) fun i hi hs => ?_, x.wk.mod md fun q hq hl e hs => ?_, x.wts.mod md (ht _ ok.w (.inr (.inr (.inr rfl)))), Nat.le_trans x.le md.size, x.mA, x.mB⟩
  · have := h2 q hq hl hs; omega
  · obtain ⟨_, _, _, q4, q5, q6⟩ := x.ah.row i hi
    have := h2 _ q5 q4 hs; omega
  · obtain ⟨_, _, _, q4, q5, q6⟩ := x.be.row i hi
    have := h2 _ q5 q4 hs; omega
  · have := h2 q hq hl hs; omega
theorem PI.ext (x : PI C G mA mB h p n c) (ok : C.Ok) (e : Ext h h') : PI C G mA mB h' p n c := x.mod ok e.mod (fun _ _ h => h.elim) fun _ _ _ h => h.elim
theorem PI.tag (x : PI C G mA mB h p n c) {tg' : Nat → Nat} (e : ∀ b < h.size, tg' b = G.tg b) : PI C { G with tg := tg' } mA mB h p n c :=
  ⟨x.lead.tag e, x.ah.tag e, x.be.tag e, x.wk.tag e, x.wts, x.le, x.mA, x.mB⟩
/-- A new block, with a mark. -/
theorem PI.new (x : PI C G mA mB h p n c) (ok : C.Ok) {o : Obj} {b : Nat} (hN : New h o b h') (k : Nat) : PI C { G with tg := fun q => if q = b then k else G.tg q } mA mB h' p n c := by
  have hb := hN.blk
  exact (x.tag (tg' := fun q => if q = b then k else G.tg q) fun q hq => by simp; omega).ext ok hN.ext
theorem PI.putA (x : PI C G mA mB h p n c) (ok : C.Ok) (hm : mA < C.n) {b' : Nat} {s : List W} (w : OwnW h (some ⟨b', 0, none⟩) b' s) (hl : s.length = C.size) (hb : C.hb.size ≤ b') (hb2 : b' < h.size) (ht : G.tg b' = 4 * mA + 1)
    {K : H → Prop} (hk : ∀ h', PI C { G with LA := G.LA.set mA (some ⟨b', 0, none⟩, C.size, C.size), a := upd1 G.a mA b', A := upd1 G.A mA s } (mA + 1) mB h' p n c → Mod (fun q => q = C.bA) h h' → K h') : stQ 1 h C.bA (0 + mA * 1) [.slice (some ⟨b', 0, none⟩) C.size C.size] K := by
  refine x.ah.put ok.a hm (m' := mA + 1) (fun j hj hne => by omega) w hl hb hb2 ht fun h' a' md => hk h' ⟨x.lead.mod md (by have := ok.la; omega) fun q i hq hle hi e hs => ?_, a', x.be.mod md (by have := ok.ab; omega) fun i hi hs => ?_, x.wk.mod md fun q hq hle e hs => ?_, x.wts.mod md (by have := ok.aw; omega), Nat.le_trans x.le md.size, by omega, x.mB⟩ md
  · have := ok.a; omega
  · obtain ⟨_, _, _, q4, _⟩ := x.be.row i hi
    have := ok.a; omega
  · have := ok.a; omega
theorem PI.putB (x : PI C G mA mB h p n c) (ok : C.Ok) (hm : mB < C.n) {b' : Nat} {s : List W} (w : OwnW h (some ⟨b', 0, none⟩) b' s) (hl : s.length = C.size) (hb : C.hb.size ≤ b') (hb2 : b' < h.size) (ht : G.tg b' = 4 * mB + 2)
    {K : H → Prop} (hk : ∀ h', PI C { G with LB := G.LB.set mB (some ⟨b', 0, none⟩, C.size, C.size), b := upd1 G.b mB b', B := upd1 G.B mB s } mA (mB + 1) h' p n c → Mod (fun q => q = C.bB) h h' → K h') : stQ 1 h C.bB (0 + mB * 1) [.slice (some ⟨b', 0, none⟩) C.size C.size] K := by
  refine x.be.put ok.b hm (m' := mB + 1) (fun j hj hne => by omega) w hl hb hb2 ht fun h' a' md => hk h' ⟨x.lead.mod md (by have := ok.lb; omega) fun q i hq hle hi e hs => ?_, x.ah.mod md (by have := ok.ab; omega) fun i hi hs => ?_, a', x.wk.mod md fun q hq hle e hs => ?_, x.wts.mod md (by have := ok.bw; omega), Nat.le_trans x.le md.size, x.mA, by omega⟩ md
  · have := ok.b; omega
  · obtain ⟨_, _, _, q4, _⟩ := x.ah.row i hi
    have := ok.b; omega
  · have := ok.b; omega
theorem PI.setA (x : PI C G mA mB h p n c) (ok : C.Ok) {i : Nat} (hi : i < mA) {s : List W} (w : OwnW h' (some ⟨G.a i, 0, none⟩) (G.a i) s) (hl : s.length = C.size) {S : Nat → Prop} (md : Mod S h h') (hS : ∀ q, S q → q = G.a i) : PI C { G with A := upd1 G.A i s } mA mB h' p n c := by
  obtain ⟨_, _, _, r4, r5, r6⟩ := x.ah.row i hi
  refine ⟨x.lead.mod md (fun hs => ?_) fun q j hq hle hj e hs => ?_, x.ah.set ok.a hi w hl md fun q _ hs => by rw [hS q hs]; exact ⟨r6, r4⟩, x.be.mod md (fun hs => ?_) fun j hj hs => ?_, x.wk.mod md fun q hq hle e hs => ?_, x.wts.mod md fun hs => ?_, Nat.le_trans x.le md.size, x.mA, x.mB⟩
  · have := hS _ hs; have := ok.l; omega
  · rw [hS _ hs] at e; omega
  · have := hS _ hs; have := ok.b; omega
  · obtain ⟨_, _, _, _, _, q6⟩ := x.be.row j hj
    rw [hS _ hs] at q6; omega
  · rw [hS _ hs] at e; omega
  · have := hS _ hs; have := ok.w; omega
theorem PI.setB (x : PI C G mA mB h p n c) (ok : C.Ok) {i : Nat} (hi : i < mB) {s : List W} (w : OwnW h' (some ⟨G.b i, 0, none⟩) (G.b i) s) (hl : s.length = C.size) {S : Nat → Prop} (md : Mod S h h') (hS : ∀ q, S q → q = G.b i) : PI C { G with B := upd1 G.B i s } mA mB h' p n c := by
  obtain ⟨_, _, _, r4, r5, r6⟩ := x.be.row i hi
  refine ⟨x.lead.mod md (fun hs => ?_) fun q j hq hle hj e hs => ?_, x.ah.mod md (fun hs => ?_) fun j hj hs => ?_, x.be.set ok.b hi w hl md fun q _ hs => by rw [hS q hs]; exact ⟨r6, r4⟩, x.wk.mod md fun q hq hle e hs => ?_, x.wts.mod md fun hs => ?_, Nat.le_trans x.le md.size, x.mA, x.mB⟩
  · have := hS _ hs; have := ok.l; omega
  · rw [hS _ hs] at e; omega
  · have := hS _ hs; have := ok.a; omega
  · obtain ⟨_, _, _, _, _, q6⟩ := x.ah.row j hj
    rw [hS _ hs] at q6; omega
  · rw [hS _ hs] at e; omega
  · have := hS _ hs; have := ok.w; omega
theorem PI.wait (x : PI C G mA mB h p n c) (ok : C.Ok) {i : Int} (hi : i.toNat < G.ws.length) {v : Bool} {K : H → Prop} (hk : ∀ h', PI C { G with ws := G.ws.set i.toNat v } mA mB h' p n c → Mod (fun q => q = C.bW) h h' → K h') : stQ 1 h C.bW (0 + i.toNat * 1) [.bool v] K := by
  have hx : G.ws[i.toNat]? = some G.ws[i.toNat] := by simp [hi]
  obtain ⟨cs, e, h1, h2, h3⟩ := Own.store (enc := fun x : Bool => [Value.bool x]) (k := 1) (fun _ => rfl) Nat.one_pos x.wts hx (j := 0) (vs := [.bool v]) (x' := v) (Nat.le_refl 1) rfl
  refine ⟨cs, e, h1, h2, rfl, rfl, fun h' hu => ?_⟩
  obtain ⟨w', md⟩ := h3 h' hu
  refine hk h' ⟨x.lead.mod md (by have := ok.lw; omega) fun q i hq hle hi e hs => ?_, x.ah.mod md (by have := ok.aw; omega) fun i hi hs => ?_, x.be.mod md (by have := ok.bw; omega) fun i hi hs => ?_, x.wk.mod md fun q hq hle e hs => ?_, w', Nat.le_trans x.le md.size, x.mA, x.mB⟩ md
  · have := ok.w; omega
  · obtain ⟨_, _, _, q4, _⟩ := x.ah.row i hi
    have := ok.w; omega
  · obtain ⟨_, _, _, q4, _⟩ := x.be.row i hi
    have := ok.w; omega
  · have := ok.w; omega
theorem PI.work {h1 : H} (x : PI C G mA mB h p n c) (ok : C.Ok) {r : Int} {bv : Nat} (hN : New h (.cells ⟨[.int .i64 r]⟩ 3) bv h1) (hs : (n + 1) * 8 ≤ 140737488355328)
    {K : Option Addr → Nat → Nat → H → Prop} (hk : ∀ p' c' h' tg', PI C { G with tg := tg', wk := G.wk ++ [r] } mA mB h' p' (n + 1) c' → (∀ b < h.size, tg' b = G.tg b) → Mod (fun q => C.hb.size ≤ q ∧ G.tg q = 3) h h' → K p' (n + 1) c' h') :
    apQ 3 1 8 [.int .i64 0] h1 p n c (some ⟨bv, 0, none⟩) 1 K := by
  refine x.wk.app x.le hN hs fun p' c' h' tg' g' e' md => hk p' c' h' tg' ⟨(x.lead.tag e').mod md (fun hs => ?_) fun q i hq hle hi e hs => ?_, (x.ah.tag e').mod md (fun hs => ?_) fun i hi hs => ?_, (x.be.tag e').mod md (fun hs => ?_) fun i hi hs => ?_, g', x.wts.mod md fun hs => ?_, Nat.le_trans x.le md.size, x.mA, x.mB⟩ e' (md.wid fun q _ ⟨h1, h2⟩ => ⟨h2, h1⟩)
  · have := hs.2; have := ok.l; omega
  · rw [e' _ hq] at e; have := hs.1; omega
  · have := hs.2; have := ok.a; omega
  · obtain ⟨_, _, _, _, q5, q6⟩ := x.ah.row i hi
    have := hs.1; omega
  · have := hs.2; have := ok.b; omega
  · obtain ⟨_, _, _, _, q5, q6⟩ := x.be.row i hi
    have := hs.1; omega
  · have := hs.2; have := ok.w; omega
theorem PI.pop {v : Int} {l : List Int} (x : PI C G mA mB h p (n + 1) c) (e : G.wk = l ++ [v]) : PI C { G with wk := l } mA mB h p n c := by
  have := x.wk
  rw [e] at this
  exact ⟨x.lead, x.ah, x.be, this.pop, x.wts, x.le, x.mA, x.mB⟩
theorem PI.leadApp {h1 : H} (x : PI C G mA mB h p n c) (ok : C.Ok) {i : Nat} {q : Option Addr} {m d : Nat} (hT : G.T[i]? = some (q, m, d)) {r : Int} {bv : Nat} (hN : New h (.cells ⟨[.int .i64 r]⟩ 3) bv h1) (hs : (m + 1) * 8 ≤ 140737488355328)
    {K : Option Addr → Nat → Nat → H → Prop} (hk : ∀ q' d' h7, (∀ {K' : H → Prop}, (∀ h8 tg', PI C { G with tg := tg', T := G.T.set i (q', m + 1, d'), rows := upd1 G.rows i (G.rows i ++ [r]) } mA mB h8 p n c → Mod (fun b => b = C.bL ∨ C.hb.size ≤ b) h h8 → K' h8) → stQ 1 h7 C.bL (0 + i * 1) [.slice q' (m + 1) d'] K') → K q' (m + 1) d' h7) :
    apQ 3 1 8 [.int .i64 0] h1 q m d (some ⟨bv, 0, none⟩) 1 K := by
  refine x.lead.app x.le ok.l hT hN hs fun q' d' h7 tg' e' m7 st => hk q' d' h7 fun {K'} hK' => st fun h8 L8 m8 => hK' h8 tg' ⟨L8, (x.ah.tag e').mod m8 (fun hs => ?_) fun j hj hs => ?_, (x.be.tag e').mod m8 (fun hs => ?_) fun j hj hs => ?_, (x.wk.tag e').mod m8 fun b hq hle e hs => ?_, x.wts.mod m8 fun hs => ?_, Nat.le_trans x.le m8.size, x.mA, x.mB⟩ (m8.wid fun b _ hb => hb.imp id fun h => h.2)
  · have := ok.a; have := ok.la; omega
  · obtain ⟨_, _, _, q4, q5, q6⟩ := x.ah.row j hj
    have := ok.l; omega
  · have := ok.b; have := ok.lb; omega
  · obtain ⟨_, _, _, q4, q5, q6⟩ := x.be.row j hj
    have := ok.l; omega
  · rw [e' _ hq] at e; have := ok.l; omega
  · have := ok.w; have := ok.lw; omega

/-! ### The steps, plain -/
theorem upd1_id {α : Type} {A : Nat → α} {i : Nat} {s : α} (h : s = A i) : upd1 A i s = A := by
  funext j; by_cases e : j = i
  · subst e; rw [upd1_same, h]
  · rw [upd1_ne _ _ e]
section
variable {f : Fnc} {X names : List Int} {A B : Nat → List W} {ws : List Bool} {wk : List Int}
theorem SndW.joinA (s : SndW f names A B) {b : Nat} {t u : List W} (hb : b < f.blocks.length) (hu : ∀ (j : Nat) r, names[j]? = some r → inR u j = true → LA f b r.toNat) (hf : ∀ j, names.length ≤ j → inR u j = false) (ht : ∀ j, inR t j = (inR (A b) j || inR u j)) : SndW f names (upd1 A b t) B := by
  refine ⟨fun i hi j r hj h => ?_, s.b, fun i hi j hj => ?_, s.fb⟩
  · by_cases e : i = b
    · subst e; rw [upd1_same, ht, Bool.or_eq_true] at h
      exact h.elim (s.a i hi j r hj) (hu j r hj)
    · rw [upd1_ne _ _ e] at h; exact s.a i hi j r hj h
  · by_cases e : i = b
    · subst e; rw [upd1_same, ht, s.fa i hi j hj, hf j hj]; rfl
    · rw [upd1_ne _ _ e]; exact s.fa i hi j hj
theorem SndW.joinB (s : SndW f names A B) {p b : Nat} {x : Blk} {t0 : Int} {t : List W} (hx : f.blocks[p]? = some x) (h0 : t0 ∈ x.term.to) (e0 : t0.toNat = b) (hb : b < f.blocks.length) (ht : ∀ j, inR t j = (inR (B p) j || inR (A b) j)) : SndW f names A (upd1 B p t) := by
  have hp : p < f.blocks.length := (List.getElem?_eq_some_iff.1 hx).1
  refine ⟨s.a, fun i hi j r hj h => ?_, s.fa, fun i hi j hj => ?_⟩
  · by_cases e : i = p
    · subst e; rw [upd1_same, ht, Bool.or_eq_true] at h
      refine h.elim (s.b i hi j r hj) fun h => LB_of hx h0 ?_
      rw [e0]; exact s.a b hb j r hj h
    · rw [upd1_ne _ _ e] at h; exact s.b i hi j r hj h
  · by_cases e : i = p
    · subst e; rw [upd1_same, ht, s.fb i hi j hj, s.fa b hb j hj]; rfl
    · rw [upd1_ne _ _ e]; exact s.fb i hi j hj
theorem Cmp.joinA {v : Int} {x : Blk} (c : Cmp f X A B ws (wk ++ [v])) (hx : f.blocks[v.toNat]? = some x) {t : List W} (ht : ∀ j, inR t j = (inR (A v.toNat) j || inR (thrW X (B v.toNat) x) j)) : Cmp f X (upd1 A v.toNat t) B (ws.set v.toNat false) wk := by
  have hv := c.wb v (by simp)
  refine ⟨by rw [List.length_set]; exact c.len, fun i y hy hw j hj => ?_, fun i hw => ?_, fun u hu => c.wb u (by simp [hu])⟩
  · by_cases e : i = v.toNat
    · subst e; rw [upd1_same, ht]
      rw [hx] at hy; cases hy
      rw [hj]; simp
    · rw [upd1_ne _ _ e]
      rw [List.getElem?_set_ne (fun h => e h.symm)] at hw
      exact c.c1 i y hy hw j hj
  · by_cases e : i = v.toNat
    · subst e
      rw [List.getElem?_set_self (by rw [c.len]; omega)] at hw; cases hw
    · rw [List.getElem?_set_ne (fun h => e h.symm)] at hw
      have := c.wt i hw
      rcases List.mem_append.1 this with h | h
      · exact h
      · rw [List.mem_singleton] at h; omega
theorem Cmp.joinB (c : Cmp f X A B ws wk) {p : Nat} {t : List W} {wk' : List Int} (hp : p < f.blocks.length) (h1 : ∀ u ∈ wk, u ∈ wk') (h2 : (p : Int) ∈ wk') (h3 : ∀ u ∈ wk', u ∈ wk ∨ u = (p : Int)) : Cmp f X A (upd1 B p t) (ws.set p true) wk' := by
  refine ⟨by rw [List.length_set]; exact c.len, fun i y hy hw j hj => ?_, fun i hw => ?_, fun u hu => ?_⟩
  · by_cases e : i = p
    · subst e; rw [List.getElem?_set_self (by rw [c.len]; exact hp)] at hw; cases hw
    · rw [List.getElem?_set_ne (fun h => e h.symm)] at hw
      rw [upd1_ne _ _ e] at hj
      exact c.c1 i y hy hw j hj
  · by_cases e : i = p
    · subst e; exact h2
    · rw [List.getElem?_set_ne (fun h => e h.symm)] at hw
      exact h1 _ (c.wt i hw)
  · rcases h3 u hu with h | h
    · exact c.wb u h
    · omega
theorem C2.joinB {b p u : Nat} {rs : List Int} (c : C2 f A B fun i t => t ≠ b ∨ (i : Int) ∈ rs.take u) (hu : rs[u]? = some (p : Int)) {t : List W} (ht : ∀ j, inR t j = (inR (B p) j || inR (A b) j)) : C2 f A (upd1 B p t) fun i t => t ≠ b ∨ (i : Int) ∈ rs.take (u + 1) := by
  intro i x t' hx h1 h2 j hj
  by_cases e : i = p
  · subst e
    rw [upd1_same, ht]
    by_cases e2 : t'.toNat = b
    · rw [e2] at hj; rw [hj]; simp
    · rw [c i x t' hx h1 (.inl e2) j hj]; rfl
  · rw [upd1_ne _ _ e]
    refine c i x t' hx h1 (h2.imp id fun h => ?_) j hj
    rw [List.take_add_one, hu] at h
    rcases List.mem_append.1 h with h | h
    · exact h
    · simp at h; omega
end
end Go.Proofs.Try
