/-
  A part of the proof of: The statement LiveSpans (quernlaw17), in its second form, holds of the given program: for every function of blocks and every number that can be read as data of bulk at most 1048576, and laid where the program's own text lays the table math/bits.deBruijn64tab, it returns true, and its input reads as it did.
-/
import Derived.Test.YtmdfllipmnekoaaDoorw8
import Derived.Test.YtmdfllipmnekoaaDoorProg
set_option maxHeartbeats 1000000

/- The functions 43 44 16 4 of the seat live: their text in the framework, and what each asks. -/
set_option maxRecDepth 100000
set_option linter.unusedVariables false
set_option linter.unusedSimpArgs false
open Go Go.Fw Go.Proofs
namespace Go.Proofs.Try
/- quern/quernlaw17.has -/
def fl43 : FL := ⟨18, (.seq (.reg [sv 4 (.mov (cb false))]) (.seq (.seq (.reg [sv 5 (.mov (ci 0))]) (.block 0 (.loop [(5, (.one (.int .i64)))] [4, 5, 6, 7, 8, 9, 10, 11, 12, 13, 14, 15, 16, 17] (.seq (.seq (.reg [sv 6 (.mov (t 5)), sv 7 (.mov (t 0)), sv 8 (.len (t 7)), sv 9 (.cmp .lss (t 6) (t 8))]) (.cond (t 9) .skip (.exit 0))) (.seq (.block 1 (.seq (.reg [sv 12 (.mov (t 0)), sv 13 (.mov (t 5)), sv 14 (.idx 1 (t 12) (t 13)), sv 15 (.ld (.int .i64) (t 14)), sv 16 (.mov (t 1)), sv 17 (.cmp .eql (t 15) (t 16))]) (.cond (t 17) (.seq (.reg [sv 4 (.mov (cb true))]) .ret) .skip))) (.reg [sv 10 (.mov (t 5)), sv 11 (.ar .add true (t 10) (ci 1)), sv 5 (.mov (t 11))])))))) (.seq (.reg [sv 4 (.mov (cb false))]) .ret))), [.tmp 4]⟩
theorem ck43 : chkFL Tryd.prog 43 fl43 = true := by kernel_rfl
def sh43 (al_0 : Option Addr) (nl_0 cl_0 : Nat) (r_1 : Int) (h : H) (R : Value → H → Prop) : Prop :=
 ∃ J : Int → LI, (J 0).1 h ∧
 ∀ (i_5 : Int), ∀ h1 : H, (J i_5).1 h1 →
 (((i_5 < (↑nl_0 : Int)) →
 0 ≤ i_5 ∧ i_5 < (↑nl_0 : Int) ∧
 (onP al_0 fun bv_14 ov_14 =>
 ∃ (v_15 : Int), cell h1 ⟨bv_14, (ov_14 + (i_5).toNat * 1), none⟩ = some (.int .i64 v_15) ∧
 (((v_15 = r_1) →
 R (.bool true) h1) ∧
 (¬ (v_15 = r_1) →
 InR .i64 (i_5 + 1) ∧
 (J (i_5 + 1)).1 h1 ∧ (J (i_5 + 1)).2 h1 < (J i_5).2 h1)))) ∧
 (¬ (i_5 < (↑nl_0 : Int)) →
 R (.bool false) h1))
theorem hc43 {al_0 : Option Addr} {nl_0 cl_0 : Nat} {r_1 : Int} {h : H} {R : Value → H → Prop} (x : sh43 al_0 nl_0 cl_0 r_1 h R) : HC Tryd.prog 43 [(.slice al_0 nl_0 cl_0), (.int .i64 r_1)] h R :=
  FL.sound mixed ck43 ⟨rfl, Eq.mp (by unfold sh43; kernel_rfl) x⟩
/- quern/quernlaw17.wanted -/
def fl44 : FL := ⟨124, (.seq (.reg [se 3 (.box 25 (t 0)), se 4 (.box 99 (t 1)), sv 6 (.mov (cb false))]) (.seq (.reg [sv 15 (.lda [(.int .i64), (.int .i64)] (t 4)), se 16 (.bsl 99 2 [.int .i64 0, .int .i64 0] 1 [(0, 2, (t 15))]), sv 7 (.mov (t 16))]) (.seq (.reg [sv 17 (.fad 4 (t 3)), sv 18 (.ld .slice (t 17)), sv 19 (.len (t 18)), se 20 (.mks 4 1 1 [.bool false] (t 19) (t 19)), sv 8 (.mov (t 20))]) (.seq (.seq (.reg [sv 9 (.mov (ci 0))]) (.block 0 (.loop [(7, (.one .slice)), (9, (.one (.int .i64)))] [6, 7, 9, 10, 11, 12, 13, 14, 21, 22, 23, 24, 25, 26, 27, 28, 29, 30, 31, 32, 33, 34, 35, 36, 37, 38, 39, 40, 41, 42, 43, 44, 45, 46, 47, 48, 49, 50, 51, 52, 53, 54, 55, 56, 57, 58, 59, 60, 61, 62, 63, 64, 65, 66, 67, 68, 69, 70, 71, 72, 73, 74, 75, 76, 77, 78, 79, 80, 81, 82, 83, 84, 85, 86, 87, 88, 89, 90, 91, 92, 93, 94, 95, 96, 97, 98, 99, 100, 101, 102, 103, 104, 105, 106, 107, 108, 109, 110, 111, 112, 113, 114, 115, 116, 117, 118, 119, 120, 121, 122, 123] (.seq (.seq (.reg [sv 21 (.mov (t 9)), sv 22 (.mov (t 7)), sv 23 (.len (t 22)), sv 24 (.cmp .lss (t 21) (t 23))]) (.cond (t 24) .skip (.exit 0))) (.seq (.block 1 (.seq (.drw .ext [10] [10, 27, 28, 29, 30, 31, 32, 33, 34, 35] (.takeP 0 (sv 27 (.fad 4 (t 3))) (.takeP 2 (sv 29 (.mov (t 7))) (.takeP 3 (sv 30 (.mov (t 9))) (.takeP 4 (sv 31 (.idx 2 (t 29) (t 30))) (.takeP 5 (sv 32 (.fad 0 (t 31))) (.takeR 1 (sv 28 (.ld .slice (t 27))) (.takeR 6 (sv 33 (.ld (.int .i64) (t 32))) (.takeP 7 (sv 34 (.idx 4 (t 28) (t 33))) (.takeR 8 (sv 35 (.lda [.slice, (.int .i64), (.int .i64), .slice] (t 34))) (.alt 9 (se 10 (.alc 50 [.slice none 0 0, .int .i64 0, .int .i64 0, .slice none 0 0])) (.alt 10 (ne (.sto 4 (t 10) (t 35))) .done .stop) .stop))))))))))) (.seq (.reg [sv 11 (.mov (cb false))]) (.seq (.seq (.reg [sv 36 (.mov (t 7)), sv 37 (.mov (t 9)), sv 38 (.idx 2 (t 36) (t 37)), sv 39 (.fad 1 (t 38)), sv 40 (.ld (.int .i64) (t 39)), sv 12 (.mov (t 40))]) (.block 2 (.loop [(11, (.one .bool)), (12, (.one (.int .i64)))] [6, 11, 12, 13, 41, 42, 43, 44, 45, 46, 47, 48, 49, 50, 51, 52, 53, 54, 55, 56, 57, 58, 59, 60, 61, 62, 63, 64, 65, 66, 67, 68, 69, 70, 71, 72, 73, 74, 75, 76, 77, 78, 79, 80, 81] (.seq (.seq (.reg [sv 41 (.mov (t 12)), sv 42 (.fad 0 (t 10)), sv 43 (.ld .slice (t 42)), sv 44 (.len (t 43)), sv 45 (.cmp .lss (t 41) (t 44)), sv 46 (.mov (t 45)), ⟨some 47, some (46, true), .v (.mov (t 11))⟩, ⟨some 48, some (46, true), .v (.no (t 47))⟩, sv 49 (.pick (t 46) (t 48) (cb false))]) (.cond (t 49) .skip (.exit 2))) (.seq (.block 3 (.seq (.seq (.reg [sv 13 (.mov (ci 0))]) (.block 4 (.loop [(13, (.one (.int .i64)))] [6, 13, 52, 53, 54, 55, 56, 57, 58, 59, 60, 61, 62, 63, 64, 65, 66, 67, 68, 69, 70, 71, 72, 73] (.seq (.seq (.reg [sv 52 (.mov (t 13)), sv 53 (.fad 0 (t 10)), sv 54 (.ld .slice (t 53)), sv 55 (.mov (t 12)), sv 56 (.idx 4 (t 54) (t 55)), sv 57 (.fad 3 (t 56)), sv 58 (.ld .slice (t 57)), sv 59 (.len (t 58)), sv 60 (.cmp .lss (t 52) (t 59))]) (.cond (t 60) .skip (.exit 4))) (.seq (.block 5 (.seq (.reg [sv 63 (.fad 0 (t 10)), sv 64 (.ld .slice (t 63)), sv 65 (.mov (t 12)), sv 66 (.idx 4 (t 64) (t 65)), sv 67 (.fad 3 (t 66)), sv 68 (.ld .slice (t 67)), sv 69 (.mov (t 13)), sv 70 (.idx 1 (t 68) (t 69)), sv 71 (.ld (.int .i64) (t 70)), sv 72 (.mov (t 2)), sv 73 (.cmp .eql (t 71) (t 72))]) (.cond (t 73) (.seq (.reg [sv 6 (.mov (cb true))]) .ret) .skip))) (.reg [sv 61 (.mov (t 13)), sv 62 (.ar .add true (t 61) (ci 1)), sv 13 (.mov (t 62))])))))) (.reg [sv 74 (.fad 0 (t 10)), sv 75 (.ld .slice (t 74)), sv 76 (.mov (t 12)), sv 77 (.idx 4 (t 75) (t 76)), sv 78 (.fad 1 (t 77)), sv 79 (.ld (.int .i64) (t 78)), sv 80 (.mov (t 2)), sv 81 (.cmp .eql (t 79) (t 80)), sv 11 (.mov (t 81))]))) (.reg [sv 50 (.mov (t 12)), sv 51 (.ar .add true (t 50) (ci 1)), sv 12 (.mov (t 51))])))))) (.seq (.seq (.reg [sv 82 (.mov (t 11))]) (.cond (t 82) (.exit 1) .skip)) (.seq (.seq (.reg [sv 83 (.fad 1 (t 10)), sv 84 (.fad 1 (t 83)), sv 85 (.ld (.int .i64) (t 84)), sv 86 (.mov (t 2)), sv 87 (.cmp .eql (t 85) (t 86))]) (.cond (t 87) (.seq (.reg [sv 6 (.mov (cb true))]) .ret) .skip)) (.seq (.reg [sv 14 (.mov (ci 0))]) (.block 6 (.loop [(7, (.one .slice)), (14, (.one (.int .i64)))] [7, 14, 88, 89, 90, 91, 92, 93, 94, 95, 96, 97, 98, 99, 100, 101, 102, 103, 104, 105, 106, 107, 108, 109, 110, 111, 112, 113, 114, 115, 116, 117, 118, 119, 120, 121, 122, 123] (.seq (.seq (.reg [sv 88 (.mov (t 14)), sv 89 (.fad 1 (t 10)), sv 90 (.fad 2 (t 89)), sv 91 (.ld .slice (t 90)), sv 92 (.len (t 91)), sv 93 (.cmp .lss (t 88) (t 92))]) (.cond (t 93) .skip (.exit 6))) (.seq (.block 7 (.seq (.reg [sv 96 (.mov (t 8)), sv 97 (.fad 1 (t 10)), sv 98 (.fad 2 (t 97)), sv 99 (.ld .slice (t 98)), sv 100 (.mov (t 14)), sv 101 (.idx 1 (t 99) (t 100)), sv 102 (.ld (.int .i64) (t 101)), sv 103 (.idx 1 (t 96) (t 102)), sv 104 (.ld .bool (t 103)), sv 105 (.no (t 104))]) (.cond (t 105) (.seq (.reg [sv 106 (.mov (t 8)), sv 107 (.fad 1 (t 10)), sv 108 (.fad 2 (t 107)), sv 109 (.ld .slice (t 108)), sv 110 (.mov (t 14)), sv 111 (.idx 1 (t 109) (t 110)), sv 112 (.ld (.int .i64) (t 111)), sv 113 (.idx 1 (t 106) (t 112)), ne (.sto 1 (t 113) (cb true))]) (.reg [sv 114 (.mov (t 7)), sv 115 (.fad 1 (t 10)), sv 116 (.fad 2 (t 115)), sv 117 (.ld .slice (t 116)), sv 118 (.mov (t 14)), sv 119 (.idx 1 (t 117) (t 118)), sv 120 (.ld (.int .i64) (t 119)), sv 121 (.bld [.int .i64 0, .int .i64 0] [(0, 1, (t 120)), (1, 1, (ci 0))]), se 122 (.bsl 99 2 [.int .i64 0, .int .i64 0] 1 [(0, 2, (t 121))]), se 123 (.app 99 2 16 [.int .i64 0, .int .i64 0] (t 114) (t 122)), sv 7 (.mov (t 123))])) .skip))) (.reg [sv 94 (.mov (t 14)), sv 95 (.ar .add true (t 94) (ci 1)), sv 14 (.mov (t 95))])))))))))))) (.reg [sv 25 (.mov (t 9)), sv 26 (.ar .add true (t 25) (ci 1)), sv 9 (.mov (t 26))])))))) (.seq (.reg [sv 6 (.mov (cb false))]) .ret))))), [.tmp 6]⟩
theorem ck44 : chkFL Tryd.prog 44 fl44 = true := by kernel_rfl
def sh44 (f_0 : ByteArray) (af_0 : Option Addr) (nf_0 cf_0 : Nat) (f_0_1 : Int) (f_0_2 : Int) (af_0_1 : Option Addr) (nf_0_1 cf_0_1 : Nat) (p_1 : Int) (p_1_1 : Int) (r_2 : Int) (h : H) (R : Value → H → Prop) : Prop :=
 ∀ (bf_3 : Nat) (h1 : H), New h (.cells ⟨[(.string f_0), (.slice af_0 nf_0 cf_0), (.int .i64 f_0_1), (.int .i64 f_0_2), (.slice af_0_1 nf_0_1 cf_0_1)]⟩ 25) bf_3 h1 →
 ∀ (bp_4 : Nat) (h2 : H), New h1 (.cells ⟨[(.int .i64 p_1), (.int .i64 p_1_1)]⟩ 99) bp_4 h2 →
 ∃ (v_15 : Int), cell h2 ⟨bp_4, (0 + 0), none⟩ = some (.int .i64 v_15) ∧
 ∃ (v_15_1 : Int), cell h2 ⟨bp_4, (0 + 1), none⟩ = some (.int .i64 v_15_1) ∧
 2 = 2 ∧ 0 + 2 ≤ 2 ∧
 ∀ (bv_16 : Nat) (h3 : H), New h2 (.cells ⟨[(.int .i64 v_15), (.int .i64 v_15_1)]⟩ 99) bv_16 h3 →
 ∃ (av_18 : Option Addr) (nv_18 cv_18 : Nat), cell h3 ⟨bf_3, (0 + 4), none⟩ = some (.slice av_18 nv_18 cv_18) ∧
 0 ≤ (↑nv_18 : Int) ∧ (↑nv_18 : Int) ≤ (↑nv_18 : Int) ∧ (↑nv_18 : Int) * 1 ≤ 140737488355328 ∧
 ∀ (bv_20 : Nat) (h4 : H), New h3 (.cells ⟨repV [.bool false] ((↑nv_18 : Int)).toNat⟩ 4) bv_20 h4 →
 ∃ J : Option Addr → Nat → Nat → Int → LI, (J (some ⟨bv_16, 0, none⟩) 1 1 0).1 h4 ∧
 ∀ (awork_7 : Option Addr) (nwork_7 cwork_7 : Nat), ∀ (i_9 : Int), ∀ h5 : H, (J awork_7 nwork_7 cwork_7 i_9).1 h5 →
 (((i_9 < (↑nwork_7 : Int)) →
 0 ≤ i_9 ∧ i_9 < (↑nwork_7 : Int) ∧
 (onP awork_7 fun bv_31 ov_31 =>
 ∃ (av_28 : Option Addr) (nv_28 cv_28 : Nat), cell h5 ⟨bf_3, (0 + 4), none⟩ = some (.slice av_28 nv_28 cv_28) ∧
 ∃ (v_33 : Int), cell h5 ⟨bv_31, ((ov_31 + (i_9).toNat * 2) + 0), none⟩ = some (.int .i64 v_33) ∧
 0 ≤ v_33 ∧ v_33 < (↑nv_28 : Int) ∧
 (onP av_28 fun bv_34 ov_34 =>
 ∃ (av_35 : Option Addr) (nv_35 cv_35 : Nat), cell h5 ⟨bv_34, ((ov_34 + (v_33).toNat * 4) + 0), none⟩ = some (.slice av_35 nv_35 cv_35) ∧
 ∃ (v_35 : Int), cell h5 ⟨bv_34, ((ov_34 + (v_33).toNat * 4) + 1), none⟩ = some (.int .i64 v_35) ∧
 ∃ (v_35_1 : Int), cell h5 ⟨bv_34, ((ov_34 + (v_33).toNat * 4) + 2), none⟩ = some (.int .i64 v_35_1) ∧
 ∃ (av_35_1 : Option Addr) (nv_35_1 cv_35_1 : Nat), cell h5 ⟨bv_34, ((ov_34 + (v_33).toNat * 4) + 3), none⟩ = some (.slice av_35_1 nv_35_1 cv_35_1) ∧
 ∀ (bb_10 : Nat) (h6 : H), New h5 (.cells ⟨[(.slice none 0 0), (.int .i64 0), (.int .i64 0), (.slice none 0 0)]⟩ 50) bb_10 h6 →
 stQ 4 h6 bb_10 0 [(.slice av_35 nv_35 cv_35), (.int .i64 v_35), (.int .i64 v_35_1), (.slice av_35_1 nv_35_1 cv_35_1)] fun h7 =>
 0 ≤ i_9 ∧ i_9 < (↑nwork_7 : Int) ∧
 (onP awork_7 fun bv_38 ov_38 =>
 ∃ (v_40 : Int), cell h7 ⟨bv_38, ((ov_38 + (i_9).toNat * 2) + 1), none⟩ = some (.int .i64 v_40) ∧
 ∃ J_1 : Bool → Int → LI, (J_1 false v_40).1 h7 ∧
 ∀ (set_11 : Bool), ∀ (k_12 : Int), ∀ h8 : H, (J_1 set_11 k_12).1 h8 →
 ∃ (av_43 : Option Addr) (nv_43 cv_43 : Nat), cell h8 ⟨bb_10, (0 + 0), none⟩ = some (.slice av_43 nv_43 cv_43) ∧
 (((k_12 < (↑nv_43 : Int)) →
 (((!set_11) = true →
 ∃ J_2 : Int → LI, (J_2 0).1 h8 ∧
 ∀ (j_13 : Int), ∀ h9 : H, (J_2 j_13).1 h9 →
 ∃ (av_54 : Option Addr) (nv_54 cv_54 : Nat), cell h9 ⟨bb_10, (0 + 0), none⟩ = some (.slice av_54 nv_54 cv_54) ∧
 0 ≤ k_12 ∧ k_12 < (↑nv_54 : Int) ∧
 (onP av_54 fun bv_56 ov_56 =>
 ∃ (av_58 : Option Addr) (nv_58 cv_58 : Nat), cell h9 ⟨bv_56, ((ov_56 + (k_12).toNat * 4) + 3), none⟩ = some (.slice av_58 nv_58 cv_58) ∧
 (((j_13 < (↑nv_58 : Int)) →
 ∃ (av_64 : Option Addr) (nv_64 cv_64 : Nat), cell h9 ⟨bb_10, (0 + 0), none⟩ = some (.slice av_64 nv_64 cv_64) ∧
 0 ≤ k_12 ∧ k_12 < (↑nv_64 : Int) ∧
 (onP av_64 fun bv_66 ov_66 =>
 ∃ (av_68 : Option Addr) (nv_68 cv_68 : Nat), cell h9 ⟨bv_66, ((ov_66 + (k_12).toNat * 4) + 3), none⟩ = some (.slice av_68 nv_68 cv_68) ∧
 0 ≤ j_13 ∧ j_13 < (↑nv_68 : Int) ∧
 (onP av_68 fun bv_70 ov_70 =>
 ∃ (v_71 : Int), cell h9 ⟨bv_70, (ov_70 + (j_13).toNat * 1), none⟩ = some (.int .i64 v_71) ∧
 (((v_71 = r_2) →
 R (.bool true) h9) ∧
 (¬ (v_71 = r_2) →
 InR .i64 (j_13 + 1) ∧
 (J_2 (j_13 + 1)).1 h9 ∧ (J_2 (j_13 + 1)).2 h9 < (J_2 j_13).2 h9))))) ∧
 (¬ (j_13 < (↑nv_58 : Int)) →
 ∃ (av_75 : Option Addr) (nv_75 cv_75 : Nat), cell h9 ⟨bb_10, (0 + 0), none⟩ = some (.slice av_75 nv_75 cv_75) ∧
 0 ≤ k_12 ∧ k_12 < (↑nv_75 : Int) ∧
 (onP av_75 fun bv_77 ov_77 =>
 ∃ (v_79 : Int), cell h9 ⟨bv_77, ((ov_77 + (k_12).toNat * 4) + 1), none⟩ = some (.int .i64 v_79) ∧
 InR .i64 (k_12 + 1) ∧
 (J_1 (decide (v_79 = r_2)) (k_12 + 1)).1 h9 ∧ (J_1 (decide (v_79 = r_2)) (k_12 + 1)).2 h9 < (J_1 set_11 k_12).2 h8))))) ∧
 ((!set_11) = false →
 ((set_11 = true →
 InR .i64 (i_9 + 1) ∧
 (J awork_7 nwork_7 cwork_7 (i_9 + 1)).1 h8 ∧ (J awork_7 nwork_7 cwork_7 (i_9 + 1)).2 h8 < (J awork_7 nwork_7 cwork_7 i_9).2 h5) ∧
 (set_11 = false →
 ∃ (v_85 : Int), cell h8 ⟨bb_10, ((0 + 1) + 1), none⟩ = some (.int .i64 v_85) ∧
 (((v_85 = r_2) →
 R (.bool true) h8) ∧
 (¬ (v_85 = r_2) →
 ∃ J_3 : Option Addr → Nat → Nat → Int → LI, (J_3 awork_7 nwork_7 cwork_7 0).1 h8 ∧
 ∀ (awork_7_1 : Option Addr) (nwork_7_1 cwork_7_1 : Nat), ∀ (k_14 : Int), ∀ h10 : H, (J_3 awork_7_1 nwork_7_1 cwork_7_1 k_14).1 h10 →
 ∃ (av_91 : Option Addr) (nv_91 cv_91 : Nat), cell h10 ⟨bb_10, ((0 + 1) + 2), none⟩ = some (.slice av_91 nv_91 cv_91) ∧
 (((k_14 < (↑nv_91 : Int)) →
 ∃ (av_99 : Option Addr) (nv_99 cv_99 : Nat), cell h10 ⟨bb_10, ((0 + 1) + 2), none⟩ = some (.slice av_99 nv_99 cv_99) ∧
 0 ≤ k_14 ∧ k_14 < (↑nv_99 : Int) ∧
 (onP av_99 fun bv_101 ov_101 =>
 ∃ (v_102 : Int), cell h10 ⟨bv_101, (ov_101 + (k_14).toNat * 1), none⟩ = some (.int .i64 v_102) ∧
 0 ≤ v_102 ∧ v_102 < (↑(((↑nv_18 : Int)).toNat) : Int) ∧
 ∃ (v_104 : Bool), cell h10 ⟨bv_20, (0 + (v_102).toNat * 1), none⟩ = some (.bool v_104) ∧
 (((!v_104) = true →
 ∃ (av_109 : Option Addr) (nv_109 cv_109 : Nat), cell h10 ⟨bb_10, ((0 + 1) + 2), none⟩ = some (.slice av_109 nv_109 cv_109) ∧
 0 ≤ k_14 ∧ k_14 < (↑nv_109 : Int) ∧
 (onP av_109 fun bv_111 ov_111 =>
 ∃ (v_112 : Int), cell h10 ⟨bv_111, (ov_111 + (k_14).toNat * 1), none⟩ = some (.int .i64 v_112) ∧
 0 ≤ v_112 ∧ v_112 < (↑(((↑nv_18 : Int)).toNat) : Int) ∧
 stQ 1 h10 bv_20 (0 + (v_112).toNat * 1) [(.bool true)] fun h11 =>
 ∃ (av_117 : Option Addr) (nv_117 cv_117 : Nat), cell h11 ⟨bb_10, ((0 + 1) + 2), none⟩ = some (.slice av_117 nv_117 cv_117) ∧
 0 ≤ k_14 ∧ k_14 < (↑nv_117 : Int) ∧
 (onP av_117 fun bv_119 ov_119 =>
 ∃ (v_120 : Int), cell h11 ⟨bv_119, (ov_119 + (k_14).toNat * 1), none⟩ = some (.int .i64 v_120) ∧
 1 = 1 ∧ 0 + 1 ≤ 2 ∧
 1 = 1 ∧ 1 + 1 ≤ 2 ∧
 2 = 2 ∧ 0 + 2 ≤ 2 ∧
 ∀ (bv_122 : Nat) (h12 : H), New h11 (.cells ⟨[(.int .i64 v_120), (.int .i64 0)]⟩ 99) bv_122 h12 →
 apQ 99 2 16 [.int .i64 0, .int .i64 0] h12 awork_7_1 nwork_7_1 cwork_7_1 (some ⟨bv_122, 0, none⟩) 1 fun av_123 nv_123 cv_123 h13 =>
 InR .i64 (k_14 + 1) ∧
 (J_3 av_123 nv_123 cv_123 (k_14 + 1)).1 h13 ∧ (J_3 av_123 nv_123 cv_123 (k_14 + 1)).2 h13 < (J_3 awork_7_1 nwork_7_1 cwork_7_1 k_14).2 h10))) ∧
 ((!v_104) = false →
 InR .i64 (k_14 + 1) ∧
 (J_3 awork_7_1 nwork_7_1 cwork_7_1 (k_14 + 1)).1 h10 ∧ (J_3 awork_7_1 nwork_7_1 cwork_7_1 (k_14 + 1)).2 h10 < (J_3 awork_7_1 nwork_7_1 cwork_7_1 k_14).2 h10)))) ∧
 (¬ (k_14 < (↑nv_91 : Int)) →
 InR .i64 (i_9 + 1) ∧
 (J awork_7_1 nwork_7_1 cwork_7_1 (i_9 + 1)).1 h10 ∧ (J awork_7_1 nwork_7_1 cwork_7_1 (i_9 + 1)).2 h10 < (J awork_7 nwork_7 cwork_7 i_9).2 h5))))))))) ∧
 (¬ (k_12 < (↑nv_43 : Int)) →
 ((set_11 = true →
 InR .i64 (i_9 + 1) ∧
 (J awork_7 nwork_7 cwork_7 (i_9 + 1)).1 h8 ∧ (J awork_7 nwork_7 cwork_7 (i_9 + 1)).2 h8 < (J awork_7 nwork_7 cwork_7 i_9).2 h5) ∧
 (set_11 = false →
 ∃ (v_85_1 : Int), cell h8 ⟨bb_10, ((0 + 1) + 1), none⟩ = some (.int .i64 v_85_1) ∧
 (((v_85_1 = r_2) →
 R (.bool true) h8) ∧
 (¬ (v_85_1 = r_2) →
 ∃ J_4 : Option Addr → Nat → Nat → Int → LI, (J_4 awork_7 nwork_7 cwork_7 0).1 h8 ∧
 ∀ (awork_7_2 : Option Addr) (nwork_7_2 cwork_7_2 : Nat), ∀ (k_14_1 : Int), ∀ h14 : H, (J_4 awork_7_2 nwork_7_2 cwork_7_2 k_14_1).1 h14 →
 ∃ (av_91_1 : Option Addr) (nv_91_1 cv_91_1 : Nat), cell h14 ⟨bb_10, ((0 + 1) + 2), none⟩ = some (.slice av_91_1 nv_91_1 cv_91_1) ∧
 (((k_14_1 < (↑nv_91_1 : Int)) →
 ∃ (av_99_1 : Option Addr) (nv_99_1 cv_99_1 : Nat), cell h14 ⟨bb_10, ((0 + 1) + 2), none⟩ = some (.slice av_99_1 nv_99_1 cv_99_1) ∧
 0 ≤ k_14_1 ∧ k_14_1 < (↑nv_99_1 : Int) ∧
 (onP av_99_1 fun bv_101_1 ov_101_1 =>
 ∃ (v_102_1 : Int), cell h14 ⟨bv_101_1, (ov_101_1 + (k_14_1).toNat * 1), none⟩ = some (.int .i64 v_102_1) ∧
 0 ≤ v_102_1 ∧ v_102_1 < (↑(((↑nv_18 : Int)).toNat) : Int) ∧
 ∃ (v_104_1 : Bool), cell h14 ⟨bv_20, (0 + (v_102_1).toNat * 1), none⟩ = some (.bool v_104_1) ∧
 (((!v_104_1) = true →
 ∃ (av_109_1 : Option Addr) (nv_109_1 cv_109_1 : Nat), cell h14 ⟨bb_10, ((0 + 1) + 2), none⟩ = some (.slice av_109_1 nv_109_1 cv_109_1) ∧
 0 ≤ k_14_1 ∧ k_14_1 < (↑nv_109_1 : Int) ∧
 (onP av_109_1 fun bv_111_1 ov_111_1 =>
 ∃ (v_112_1 : Int), cell h14 ⟨bv_111_1, (ov_111_1 + (k_14_1).toNat * 1), none⟩ = some (.int .i64 v_112_1) ∧
 0 ≤ v_112_1 ∧ v_112_1 < (↑(((↑nv_18 : Int)).toNat) : Int) ∧
 stQ 1 h14 bv_20 (0 + (v_112_1).toNat * 1) [(.bool true)] fun h15 =>
 ∃ (av_117_1 : Option Addr) (nv_117_1 cv_117_1 : Nat), cell h15 ⟨bb_10, ((0 + 1) + 2), none⟩ = some (.slice av_117_1 nv_117_1 cv_117_1) ∧
 0 ≤ k_14_1 ∧ k_14_1 < (↑nv_117_1 : Int) ∧
 (onP av_117_1 fun bv_119_1 ov_119_1 =>
 ∃ (v_120_1 : Int), cell h15 ⟨bv_119_1, (ov_119_1 + (k_14_1).toNat * 1), none⟩ = some (.int .i64 v_120_1) ∧
 1 = 1 ∧ 0 + 1 ≤ 2 ∧
 1 = 1 ∧ 1 + 1 ≤ 2 ∧
 2 = 2 ∧ 0 + 2 ≤ 2 ∧
 ∀ (bv_122_1 : Nat) (h16 : H), New h15 (.cells ⟨[(.int .i64 v_120_1), (.int .i64 0)]⟩ 99) bv_122_1 h16 →
 apQ 99 2 16 [.int .i64 0, .int .i64 0] h16 awork_7_2 nwork_7_2 cwork_7_2 (some ⟨bv_122_1, 0, none⟩) 1 fun av_123_1 nv_123_1 cv_123_1 h17 =>
 InR .i64 (k_14_1 + 1) ∧
 (J_4 av_123_1 nv_123_1 cv_123_1 (k_14_1 + 1)).1 h17 ∧ (J_4 av_123_1 nv_123_1 cv_123_1 (k_14_1 + 1)).2 h17 < (J_4 awork_7_2 nwork_7_2 cwork_7_2 k_14_1).2 h14))) ∧
 ((!v_104_1) = false →
 InR .i64 (k_14_1 + 1) ∧
 (J_4 awork_7_2 nwork_7_2 cwork_7_2 (k_14_1 + 1)).1 h14 ∧ (J_4 awork_7_2 nwork_7_2 cwork_7_2 (k_14_1 + 1)).2 h14 < (J_4 awork_7_2 nwork_7_2 cwork_7_2 k_14_1).2 h14)))) ∧
 (¬ (k_14_1 < (↑nv_91_1 : Int)) →
 InR .i64 (i_9 + 1) ∧
 (J awork_7_2 nwork_7_2 cwork_7_2 (i_9 + 1)).1 h14 ∧ (J awork_7_2 nwork_7_2 cwork_7_2 (i_9 + 1)).2 h14 < (J awork_7 nwork_7 cwork_7 i_9).2 h5)))))))))))) ∧
 (¬ (i_9 < (↑nwork_7 : Int)) →
 R (.bool false) h5))
theorem hc44 {f_0 : ByteArray} {af_0 : Option Addr} {nf_0 cf_0 : Nat} {f_0_1 : Int} {f_0_2 : Int} {af_0_1 : Option Addr} {nf_0_1 cf_0_1 : Nat} {p_1 : Int} {p_1_1 : Int} {r_2 : Int} {h : H} {R : Value → H → Prop} (x : sh44 f_0 af_0 nf_0 cf_0 f_0_1 f_0_2 af_0_1 nf_0_1 cf_0_1 p_1 p_1_1 r_2 h R) : HC Tryd.prog 44 [(.agg ⟨[(.string f_0), (.slice af_0 nf_0 cf_0), (.int .i64 f_0_1), (.int .i64 f_0_2), (.slice af_0_1 nf_0_1 cf_0_1)]⟩), (.agg ⟨[(.int .i64 p_1), (.int .i64 p_1_1)]⟩), (.int .i64 r_2)] h R :=
  FL.sound mixed ck44 ⟨rfl, Eq.mp (by unfold sh44; kernel_rfl) x⟩
/- quern/quernlaw17.places -/
def fl16 : FL := ⟨123, (.seq (.reg [se 3 (.box 25 (t 0)), sv 6 (.mov (ci 0)), sv 7 (.mov (ci 0))]) (.seq (.reg [sv 8 (.mov (ci (-1))), sv 9 (.mov (ci (-1)))]) (.cut [(8, (.one (.int .i64))), (9, (.one (.int .i64)))] [8, 9, 17, 18, 19, 20] (.seq (.reg [sv 17 (.fad 1 (t 3)), sv 18 (.ld .slice (t 17)), sv 19 (.mov (t 2)), se 20 (.call 43 [(t 18), (t 19)] (.one .bool))]) (.cond (t 20) (.reg [sv 8 (.mov (ci 0)), sv 9 (.mov (ci 0))]) .skip)) (.seq (.reg [sv 10 (.mov (ci 0))]) (.seq (.seq (.reg [sv 11 (.mov (ci 0))]) (.block 0 (.loop [(8, (.one (.int .i64))), (9, (.one (.int .i64))), (10, (.one (.int .i64))), (11, (.one (.int .i64)))] [8, 9, 10, 11, 12, 13, 14, 15, 16, 21, 22, 23, 24, 25, 26, 27, 28, 29, 30, 31, 32, 33, 34, 35, 36, 37, 38, 39, 40, 41, 42, 43, 44, 45, 46, 47, 48, 49, 50, 51, 52, 53, 54, 55, 56, 57, 58, 59, 60, 61, 62, 63, 64, 65, 66, 67, 68, 69, 70, 71, 72, 73, 74, 75, 76, 77, 78, 79, 80, 81, 82, 83, 84, 85, 86, 87, 88, 89, 90, 91, 92, 93, 94, 95, 96, 97, 98, 99, 100, 101, 102, 103, 104, 105, 106, 107, 108, 109, 110, 111, 112, 113, 114, 115, 116, 117, 118, 119, 120] (.seq (.seq (.reg [sv 21 (.mov (t 11)), sv 22 (.mov (t 1)), sv 23 (.len (t 22)), sv 24 (.cmp .lss (t 21) (t 23))]) (.cond (t 24) .skip (.exit 0))) (.seq (.block 1 (.seq (.drw .ext [9] [12, 27, 28, 29, 30, 31, 32, 33, 34] (.takeP 0 (sv 27 (.fad 4 (t 3))) (.takeP 2 (sv 29 (.mov (t 1))) (.takeP 3 (sv 30 (.mov (t 11))) (.takeP 4 (sv 31 (.idx 1 (t 29) (t 30))) (.takeR 1 (sv 28 (.ld .slice (t 27))) (.takeR 5 (sv 32 (.ld (.int .i64) (t 31))) (.takeP 6 (sv 33 (.idx 4 (t 28) (t 32))) (.takeR 7 (sv 34 (.lda [.slice, (.int .i64), (.int .i64), .slice] (t 33))) (.alt 8 (se 12 (.alc 50 [.slice none 0 0, .int .i64 0, .int .i64 0, .slice none 0 0])) (.alt 9 (ne (.sto 4 (t 12) (t 34))) .done .stop) .stop)))))))))) (.seq (.reg [sv 13 (.mov (ci 0))]) (.block 2 (.loop [(8, (.one (.int .i64))), (9, (.one (.int .i64))), (10, (.one (.int .i64))), (13, (.one (.int .i64)))] [8, 9, 10, 13, 14, 15, 16, 35, 36, 37, 38, 39, 40, 41, 42, 43, 44, 45, 46, 47, 48, 49, 50, 51, 52, 53, 54, 55, 56, 57, 58, 59, 60, 61, 62, 63, 64, 65, 66, 67, 68, 69, 70, 71, 72, 73, 74, 75, 76, 77, 78, 79, 80, 81, 82, 83, 84, 85, 86, 87, 88, 89, 90, 91, 92, 93, 94, 95, 96, 97, 98, 99, 100, 101, 102, 103, 104, 105, 106, 107, 108, 109, 110, 111, 112, 113, 114, 115, 116, 117, 118, 119, 120] (.seq (.seq (.reg [sv 35 (.mov (t 13)), sv 36 (.fad 0 (t 12)), sv 37 (.ld .slice (t 36)), sv 38 (.len (t 37)), sv 39 (.cmp .leq (t 35) (t 38))]) (.cond (t 39) .skip (.exit 2))) (.seq (.block 3 (.seq (.reg [sv 42 (.mov (t 10)), sv 43 (.ar .add true (t 42) (ci 1)), sv 10 (.mov (t 43))]) (.seq (.drw .eq [8] [14, 44, 45, 46, 47, 48, 49, 50, 51, 52] (.takeP 1 (sv 45 (.mov (t 1))) (.takeP 2 (sv 46 (.mov (t 11))) (.takeP 3 (sv 47 (.idx 1 (t 45) (t 46))) (.takeP 5 (sv 49 (.mov (t 13))) (.takeP 7 (sv 51 (.mov (t 2))) (.takeR 0 (sv 44 (.lda [.str, .slice, (.int .i64), (.int .i64), .slice] (t 3))) (.takeR 4 (sv 48 (.ld (.int .i64) (t 47))) (.takeP 6 (sv 50 (.bld [.int .i64 0, .int .i64 0] [(0, 1, (t 48)), (1, 1, (t 49))])) (.alt 8 (se 52 (.call 44 [(t 44), (t 50), (t 51)] (.one .bool))) (.takeP 9 (sv 14 (.mov (t 52))) .done) .stop)))))))))) (.seq (.reg [sv 15 (.mov (cb false))]) (.cut [(15, (.one .bool))] [15, 16, 53, 54, 55, 56, 57, 58, 59, 60, 61, 62, 63, 64, 65, 66, 67, 68, 69, 70, 71, 72, 73, 74, 75, 76, 77, 78, 79, 80, 81, 82, 83, 84, 85, 86, 87, 88, 89, 90, 91, 92, 93, 94, 95, 96, 97, 98] (.seq (.reg [sv 53 (.mov (t 13)), sv 54 (.fad 0 (t 12)), sv 55 (.ld .slice (t 54)), sv 56 (.len (t 55)), sv 57 (.cmp .lss (t 53) (t 56))]) (.cond (t 57) (.drw .eq [18] [15, 58, 59, 60, 61, 62, 63, 64, 65, 66, 67, 68, 69, 70, 71, 72, 73, 74, 75, 76, 77] (.takeP 0 (sv 58 (.fad 0 (t 12))) (.takeP 2 (sv 60 (.mov (t 13))) (.takeP 6 (sv 64 (.mov (t 2))) (.takeR 1 (sv 59 (.ld .slice (t 58))) (.takeP 3 (sv 61 (.idx 4 (t 59) (t 60))) (.takeP 4 (sv 62 (.fad 1 (t 61))) (.takeR 5 (sv 63 (.ld (.int .i64) (t 62))) (.takeP 7 (sv 65 (.cmp .eql (t 63) (t 64))) (.takeP 8 (sv 66 (.mov (t 65))) (.takeP 10 (⟨some 68, some (66, false), .v (.mov (t 1))⟩) (.takeP 11 (⟨some 69, some (66, false), .v (.mov (t 11))⟩) (.takeP 12 (⟨some 70, some (66, false), .v (.idx 1 (t 68) (t 69))⟩) (.takeP 14 (⟨some 72, some (66, false), .v (.mov (t 13))⟩) (.takeP 15 (⟨some 73, some (66, false), .v (.ar .add true (t 72) (ci 1))⟩) (.takeP 17 (⟨some 75, some (66, false), .v (.mov (t 2))⟩) (.takeR 9 (⟨some 67, some (66, false), .v (.lda [.str, .slice, (.int .i64), (.int .i64), .slice] (t 3))⟩) (.takeR 13 (⟨some 71, some (66, false), .v (.ld (.int .i64) (t 70))⟩) (.takeP 16 (⟨some 74, some (66, false), .v (.bld [.int .i64 0, .int .i64 0] [(0, 1, (t 71)), (1, 1, (t 73))])⟩) (.alt 18 (⟨some 76, some (66, false), .e (.call 44 [(t 67), (t 74), (t 75)] (.one .bool))⟩) (.takeP 19 (sv 77 (.pick (t 66) (cb true) (t 76))) (.takeP 20 (sv 15 (.mov (t 77))) .done)) .stop)))))))))))))))))))) (.seq (.reg [sv 16 (.mov (ci 0))]) (.block 4 (.loop [(15, (.one .bool)), (16, (.one (.int .i64)))] [15, 16, 78, 79, 80, 81, 82, 83, 84, 85, 86, 87, 88, 89, 90, 91, 92, 93, 94, 95, 96, 97, 98] (.seq (.seq (.reg [sv 78 (.mov (t 16)), sv 79 (.fad 1 (t 12)), sv 80 (.fad 2 (t 79)), sv 81 (.ld .slice (t 80)), sv 82 (.len (t 81)), sv 83 (.cmp .lss (t 78) (t 82))]) (.cond (t 83) .skip (.exit 4))) (.seq (.block 5 (.drw .eq [11] [15, 86, 87, 88, 89, 90, 91, 92, 93, 94, 95, 96, 97, 98] (.takeP 0 (sv 86 (.mov (t 15))) (.takeP 1 (sv 87 (.mov (t 86))) (.takeP 3 (⟨some 89, some (87, false), .v (.fad 1 (t 12))⟩) (.takeP 4 (⟨some 90, some (87, false), .v (.fad 2 (t 89))⟩) (.takeP 6 (⟨some 92, some (87, false), .v (.mov (t 16))⟩) (.takeP 10 (⟨some 96, some (87, false), .v (.mov (t 2))⟩) (.takeR 2 (⟨some 88, some (87, false), .v (.lda [.str, .slice, (.int .i64), (.int .i64), .slice] (t 3))⟩) (.takeR 5 (⟨some 91, some (87, false), .v (.ld .slice (t 90))⟩) (.takeP 7 (⟨some 93, some (87, false), .v (.idx 1 (t 91) (t 92))⟩) (.takeR 8 (⟨some 94, some (87, false), .v (.ld (.int .i64) (t 93))⟩) (.takeP 9 (⟨some 95, some (87, false), .v (.bld [.int .i64 0, .int .i64 0] [(0, 1, (t 94)), (1, 1, (ci 0))])⟩) (.alt 11 (⟨some 97, some (87, false), .e (.call 44 [(t 88), (t 95), (t 96)] (.one .bool))⟩) (.takeP 12 (sv 98 (.pick (t 87) (cb true) (t 97))) (.takeP 13 (sv 15 (.mov (t 98))) .done)) .stop)))))))))))))) (.reg [sv 84 (.mov (t 16)), sv 85 (.ar .add true (t 84) (ci 1)), sv 16 (.mov (t 85))])))))))) (.cut [(8, (.one (.int .i64)))] [8, 99, 100, 101, 102, 103, 104, 105] (.seq (.reg [sv 99 (.mov (t 14)), sv 100 (.mov (t 99)), ⟨some 101, some (100, true), .v (.mov (t 8))⟩, ⟨some 102, some (100, true), .v (.cmp .lss (t 101) (ci 0))⟩, sv 103 (.pick (t 100) (t 102) (cb false))]) (.cond (t 103) (.reg [sv 104 (.mov (t 10)), sv 105 (.ar .mul true (ci 2) (t 104)), sv 8 (.mov (t 105))]) .skip)) (.cut [(8, (.one (.int .i64)))] [8, 106, 107, 108, 109, 110, 111, 112, 113] (.seq (.reg [sv 106 (.mov (t 15)), sv 107 (.mov (t 106)), ⟨some 108, some (107, true), .v (.mov (t 8))⟩, ⟨some 109, some (107, true), .v (.cmp .lss (t 108) (ci 0))⟩, sv 110 (.pick (t 107) (t 109) (cb false))]) (.cond (t 110) (.reg [sv 111 (.mov (t 10)), sv 112 (.ar .mul true (ci 2) (t 111)), sv 113 (.ar .add true (t 112) (ci 1)), sv 8 (.mov (t 113))]) .skip)) (.cut [(9, (.one (.int .i64)))] [9, 114, 115, 116] (.seq (.reg [sv 114 (.mov (t 14))]) (.cond (t 114) (.reg [sv 115 (.mov (t 10)), sv 116 (.ar .mul true (ci 2) (t 115)), sv 9 (.mov (t 116))]) .skip)) (.seq (.reg [sv 117 (.mov (t 15))]) (.cond (t 117) (.reg [sv 118 (.mov (t 10)), sv 119 (.ar .mul true (ci 2) (t 118)), sv 120 (.ar .add true (t 119) (ci 1)), sv 9 (.mov (t 120))]) .skip)))))))))) (.reg [sv 40 (.mov (t 13)), sv 41 (.ar .add true (t 40) (ci 1)), sv 13 (.mov (t 41))])))))))) (.reg [sv 25 (.mov (t 11)), sv 26 (.ar .add true (t 25) (ci 1)), sv 11 (.mov (t 26))])))))) (.seq (.reg [sv 121 (.mov (t 8)), sv 122 (.mov (t 9)), sv 6 (.mov (t 121)), sv 7 (.mov (t 122))]) .ret)))))), [.tmp 6, .tmp 7]⟩
theorem ck16 : chkFL Tryd.prog 16 fl16 = true := by kernel_rfl
def sh16 (f_0 : ByteArray) (af_0 : Option Addr) (nf_0 cf_0 : Nat) (f_0_1 : Int) (f_0_2 : Int) (af_0_1 : Option Addr) (nf_0_1 cf_0_1 : Nat) (aline_1 : Option Addr) (nline_1 cline_1 : Nat) (r_2 : Int) (h : H) (R : Value → H → Prop) : Prop :=
 ∀ (bf_3 : Nat) (h1 : H), New h (.cells ⟨[(.string f_0), (.slice af_0 nf_0 cf_0), (.int .i64 f_0_1), (.int .i64 f_0_2), (.slice af_0_1 nf_0_1 cf_0_1)]⟩ 25) bf_3 h1 →
 ∃ J : Int → Int → H → Prop, (∃ (av_18 : Option Addr) (nv_18 cv_18 : Nat), cell h1 ⟨bf_3, (0 + 1), none⟩ = some (.slice av_18 nv_18 cv_18) ∧
 HC Tryd.prog 43 [(.slice av_18 nv_18 cv_18), (.int .i64 r_2)] h1 fun rv_20 h3 =>
 ∃ (v_20 : Bool), rv_20 = (.bool v_20) ∧
 ((v_20 = true →
 J 0 0 h3) ∧
 (v_20 = false →
 J (-1) (-1) h3))) ∧
 ∀ (from_8 : Int), ∀ (to_9 : Int), ∀ h2 : H, J from_8 to_9 h2 →
 ∃ J_1 : Int → Int → Int → Int → LI, (J_1 from_8 to_9 0 0).1 h2 ∧
 ∀ (from_8_1 : Int), ∀ (to_9_1 : Int), ∀ (k_10 : Int), ∀ (i_11 : Int), ∀ h4 : H, (J_1 from_8_1 to_9_1 k_10 i_11).1 h4 →
 (((i_11 < (↑nline_1 : Int)) →
 0 ≤ i_11 ∧ i_11 < (↑nline_1 : Int) ∧
 (onP aline_1 fun bv_31 ov_31 =>
 ∃ (av_28 : Option Addr) (nv_28 cv_28 : Nat), cell h4 ⟨bf_3, (0 + 4), none⟩ = some (.slice av_28 nv_28 cv_28) ∧
 ∃ (v_32 : Int), cell h4 ⟨bv_31, (ov_31 + (i_11).toNat * 1), none⟩ = some (.int .i64 v_32) ∧
 0 ≤ v_32 ∧ v_32 < (↑nv_28 : Int) ∧
 (onP av_28 fun bv_33 ov_33 =>
 ∃ (av_34 : Option Addr) (nv_34 cv_34 : Nat), cell h4 ⟨bv_33, ((ov_33 + (v_32).toNat * 4) + 0), none⟩ = some (.slice av_34 nv_34 cv_34) ∧
 ∃ (v_34 : Int), cell h4 ⟨bv_33, ((ov_33 + (v_32).toNat * 4) + 1), none⟩ = some (.int .i64 v_34) ∧
 ∃ (v_34_1 : Int), cell h4 ⟨bv_33, ((ov_33 + (v_32).toNat * 4) + 2), none⟩ = some (.int .i64 v_34_1) ∧
 ∃ (av_34_1 : Option Addr) (nv_34_1 cv_34_1 : Nat), cell h4 ⟨bv_33, ((ov_33 + (v_32).toNat * 4) + 3), none⟩ = some (.slice av_34_1 nv_34_1 cv_34_1) ∧
 ∀ (bb_12 : Nat) (h5 : H), New h4 (.cells ⟨[(.slice none 0 0), (.int .i64 0), (.int .i64 0), (.slice none 0 0)]⟩ 50) bb_12 h5 →
 stQ 4 h5 bb_12 0 [(.slice av_34 nv_34 cv_34), (.int .i64 v_34), (.int .i64 v_34_1), (.slice av_34_1 nv_34_1 cv_34_1)] fun h6 =>
 ∃ J_2 : Int → Int → Int → Int → LI, (J_2 from_8_1 to_9_1 k_10 0).1 h6 ∧
 ∀ (from_8_2 : Int), ∀ (to_9_2 : Int), ∀ (k_10_1 : Int), ∀ (j_13 : Int), ∀ h7 : H, (J_2 from_8_2 to_9_2 k_10_1 j_13).1 h7 →
 ∃ (av_37 : Option Addr) (nv_37 cv_37 : Nat), cell h7 ⟨bb_12, (0 + 0), none⟩ = some (.slice av_37 nv_37 cv_37) ∧
 (((j_13 ≤ (↑nv_37 : Int)) →
 InR .i64 (k_10_1 + 1) ∧
 0 ≤ i_11 ∧ i_11 < (↑nline_1 : Int) ∧
 (onP aline_1 fun bv_47 ov_47 =>
 ∃ (v_44 : ByteArray), cell h7 ⟨bf_3, (0 + 0), none⟩ = some (.string v_44) ∧
 ∃ (av_44 : Option Addr) (nv_44 cv_44 : Nat), cell h7 ⟨bf_3, (0 + 1), none⟩ = some (.slice av_44 nv_44 cv_44) ∧
 ∃ (v_44_1 : Int), cell h7 ⟨bf_3, (0 + 2), none⟩ = some (.int .i64 v_44_1) ∧
 ∃ (v_44_2 : Int), cell h7 ⟨bf_3, (0 + 3), none⟩ = some (.int .i64 v_44_2) ∧
 ∃ (av_44_1 : Option Addr) (nv_44_1 cv_44_1 : Nat), cell h7 ⟨bf_3, (0 + 4), none⟩ = some (.slice av_44_1 nv_44_1 cv_44_1) ∧
 ∃ (v_48 : Int), cell h7 ⟨bv_47, (ov_47 + (i_11).toNat * 1), none⟩ = some (.int .i64 v_48) ∧
 1 = 1 ∧ 0 + 1 ≤ 2 ∧
 1 = 1 ∧ 1 + 1 ≤ 2 ∧
 HC Tryd.prog 44 [(.agg ⟨[(.string v_44), (.slice av_44 nv_44 cv_44), (.int .i64 v_44_1), (.int .i64 v_44_2), (.slice av_44_1 nv_44_1 cv_44_1)]⟩), (.agg ⟨[(.int .i64 v_48), (.int .i64 j_13)]⟩), (.int .i64 r_2)] h7 fun rv_52 h8 =>
 ∃ (v_52 : Bool), rv_52 = (.bool v_52) ∧
 ∃ J_3 : Bool → H → Prop, (∃ (av_55 : Option Addr) (nv_55 cv_55 : Nat), cell h8 ⟨bb_12, (0 + 0), none⟩ = some (.slice av_55 nv_55 cv_55) ∧
 (((j_13 < (↑nv_55 : Int)) →
 ∃ (av_59 : Option Addr) (nv_59 cv_59 : Nat), cell h8 ⟨bb_12, (0 + 0), none⟩ = some (.slice av_59 nv_59 cv_59) ∧
 0 ≤ j_13 ∧ j_13 < (↑nv_59 : Int) ∧
 (onP av_59 fun bv_61 ov_61 =>
 ∃ (v_63 : Int), cell h8 ⟨bv_61, ((ov_61 + (j_13).toNat * 4) + 1), none⟩ = some (.int .i64 v_63) ∧
 (((v_63 = r_2) →
 J_3 true h8) ∧
 (¬ (v_63 = r_2) →
 0 ≤ i_11 ∧ i_11 < (↑nline_1 : Int) ∧
 (onP aline_1 fun bv_70 ov_70 =>
 InR .i64 (j_13 + 1) ∧
 ∃ (v_67 : ByteArray), cell h8 ⟨bf_3, (0 + 0), none⟩ = some (.string v_67) ∧
 ∃ (av_67 : Option Addr) (nv_67 cv_67 : Nat), cell h8 ⟨bf_3, (0 + 1), none⟩ = some (.slice av_67 nv_67 cv_67) ∧
 ∃ (v_67_1 : Int), cell h8 ⟨bf_3, (0 + 2), none⟩ = some (.int .i64 v_67_1) ∧
 ∃ (v_67_2 : Int), cell h8 ⟨bf_3, (0 + 3), none⟩ = some (.int .i64 v_67_2) ∧
 ∃ (av_67_1 : Option Addr) (nv_67_1 cv_67_1 : Nat), cell h8 ⟨bf_3, (0 + 4), none⟩ = some (.slice av_67_1 nv_67_1 cv_67_1) ∧
 ∃ (v_71 : Int), cell h8 ⟨bv_70, (ov_70 + (i_11).toNat * 1), none⟩ = some (.int .i64 v_71) ∧
 1 = 1 ∧ 0 + 1 ≤ 2 ∧
 1 = 1 ∧ 1 + 1 ≤ 2 ∧
 HC Tryd.prog 44 [(.agg ⟨[(.string v_67), (.slice av_67 nv_67 cv_67), (.int .i64 v_67_1), (.int .i64 v_67_2), (.slice av_67_1 nv_67_1 cv_67_1)]⟩), (.agg ⟨[(.int .i64 v_71), (.int .i64 (j_13 + 1))]⟩), (.int .i64 r_2)] h8 fun rv_76 h10 =>
 ∃ (v_76 : Bool), rv_76 = (.bool v_76) ∧
 J_3 v_76 h10))))) ∧
 (¬ (j_13 < (↑nv_55 : Int)) →
 ∃ J_4 : Bool → Int → LI, (J_4 false 0).1 h8 ∧
 ∀ (behind_15 : Bool), ∀ (n_16 : Int), ∀ h11 : H, (J_4 behind_15 n_16).1 h11 →
 ∃ (av_81 : Option Addr) (nv_81 cv_81 : Nat), cell h11 ⟨bb_12, ((0 + 1) + 2), none⟩ = some (.slice av_81 nv_81 cv_81) ∧
 (((n_16 < (↑nv_81 : Int)) →
 ((behind_15 = true →
 InR .i64 (n_16 + 1) ∧
 (J_4 true (n_16 + 1)).1 h11 ∧ (J_4 true (n_16 + 1)).2 h11 < (J_4 behind_15 n_16).2 h11) ∧
 (behind_15 = false →
 ∃ (v_88 : ByteArray), cell h11 ⟨bf_3, (0 + 0), none⟩ = some (.string v_88) ∧
 ∃ (av_88 : Option Addr) (nv_88 cv_88 : Nat), cell h11 ⟨bf_3, (0 + 1), none⟩ = some (.slice av_88 nv_88 cv_88) ∧
 ∃ (v_88_1 : Int), cell h11 ⟨bf_3, (0 + 2), none⟩ = some (.int .i64 v_88_1) ∧
 ∃ (v_88_2 : Int), cell h11 ⟨bf_3, (0 + 3), none⟩ = some (.int .i64 v_88_2) ∧
 ∃ (av_88_1 : Option Addr) (nv_88_1 cv_88_1 : Nat), cell h11 ⟨bf_3, (0 + 4), none⟩ = some (.slice av_88_1 nv_88_1 cv_88_1) ∧
 ∃ (av_91 : Option Addr) (nv_91 cv_91 : Nat), cell h11 ⟨bb_12, ((0 + 1) + 2), none⟩ = some (.slice av_91 nv_91 cv_91) ∧
 0 ≤ n_16 ∧ n_16 < (↑nv_91 : Int) ∧
 (onP av_91 fun bv_93 ov_93 =>
 ∃ (v_94 : Int), cell h11 ⟨bv_93, (ov_93 + (n_16).toNat * 1), none⟩ = some (.int .i64 v_94) ∧
 1 = 1 ∧ 0 + 1 ≤ 2 ∧
 1 = 1 ∧ 1 + 1 ≤ 2 ∧
 HC Tryd.prog 44 [(.agg ⟨[(.string v_88), (.slice av_88 nv_88 cv_88), (.int .i64 v_88_1), (.int .i64 v_88_2), (.slice av_88_1 nv_88_1 cv_88_1)]⟩), (.agg ⟨[(.int .i64 v_94), (.int .i64 0)]⟩), (.int .i64 r_2)] h11 fun rv_97 h12 =>
 ∃ (v_97 : Bool), rv_97 = (.bool v_97) ∧
 InR .i64 (n_16 + 1) ∧
 (J_4 v_97 (n_16 + 1)).1 h12 ∧ (J_4 v_97 (n_16 + 1)).2 h12 < (J_4 behind_15 n_16).2 h11)))) ∧
 (¬ (n_16 < (↑nv_81 : Int)) →
 J_3 behind_15 h11))))) ∧
 ∀ (behind_15_1 : Bool), ∀ h9 : H, J_3 behind_15_1 h9 →
 ∃ J_5 : Int → H → Prop, (((v_52 = true →
 (((from_8_2 < 0) →
 InR .i64 (2 * (k_10_1 + 1)) ∧
 J_5 (2 * (k_10_1 + 1)) h9) ∧
 (¬ (from_8_2 < 0) →
 J_5 from_8_2 h9))) ∧
 (v_52 = false →
 J_5 from_8_2 h9))) ∧
 ∀ (from_8_3 : Int), ∀ h13 : H, J_5 from_8_3 h13 →
 ∃ J_6 : Int → H → Prop, (((behind_15_1 = true →
 (((from_8_3 < 0) →
 InR .i64 (2 * (k_10_1 + 1)) ∧
 InR .i64 ((2 * (k_10_1 + 1)) + 1) ∧
 J_6 ((2 * (k_10_1 + 1)) + 1) h13) ∧
 (¬ (from_8_3 < 0) →
 J_6 from_8_3 h13))) ∧
 (behind_15_1 = false →
 J_6 from_8_3 h13))) ∧
 ∀ (from_8_4 : Int), ∀ h14 : H, J_6 from_8_4 h14 →
 ∃ J_7 : Int → H → Prop, (((v_52 = true →
 InR .i64 (2 * (k_10_1 + 1)) ∧
 J_7 (2 * (k_10_1 + 1)) h14) ∧
 (v_52 = false →
 J_7 to_9_2 h14))) ∧
 ∀ (to_9_3 : Int), ∀ h15 : H, J_7 to_9_3 h15 →
 ((behind_15_1 = true →
 InR .i64 (2 * (k_10_1 + 1)) ∧
 InR .i64 ((2 * (k_10_1 + 1)) + 1) ∧
 InR .i64 (j_13 + 1) ∧
 (J_2 from_8_4 ((2 * (k_10_1 + 1)) + 1) (k_10_1 + 1) (j_13 + 1)).1 h15 ∧ (J_2 from_8_4 ((2 * (k_10_1 + 1)) + 1) (k_10_1 + 1) (j_13 + 1)).2 h15 < (J_2 from_8_2 to_9_2 k_10_1 j_13).2 h7) ∧
 (behind_15_1 = false →
 InR .i64 (j_13 + 1) ∧
 (J_2 from_8_4 to_9_3 (k_10_1 + 1) (j_13 + 1)).1 h15 ∧ (J_2 from_8_4 to_9_3 (k_10_1 + 1) (j_13 + 1)).2 h15 < (J_2 from_8_2 to_9_2 k_10_1 j_13).2 h7)))) ∧
 (¬ (j_13 ≤ (↑nv_37 : Int)) →
 InR .i64 (i_11 + 1) ∧
 (J_1 from_8_2 to_9_2 k_10_1 (i_11 + 1)).1 h7 ∧ (J_1 from_8_2 to_9_2 k_10_1 (i_11 + 1)).2 h7 < (J_1 from_8_1 to_9_1 k_10 i_11).2 h4))))) ∧
 (¬ (i_11 < (↑nline_1 : Int)) →
 R (.tuple ⟨[(.int .i64 from_8_1), (.int .i64 to_9_1)]⟩) h4))
theorem hc16 {f_0 : ByteArray} {af_0 : Option Addr} {nf_0 cf_0 : Nat} {f_0_1 : Int} {f_0_2 : Int} {af_0_1 : Option Addr} {nf_0_1 cf_0_1 : Nat} {aline_1 : Option Addr} {nline_1 cline_1 : Nat} {r_2 : Int} {h : H} {R : Value → H → Prop} (x : sh16 f_0 af_0 nf_0 cf_0 f_0_1 f_0_2 af_0_1 nf_0_1 cf_0_1 aline_1 nline_1 cline_1 r_2 h R) : HC Tryd.prog 16 [(.agg ⟨[(.string f_0), (.slice af_0 nf_0 cf_0), (.int .i64 f_0_1), (.int .i64 f_0_2), (.slice af_0_1 nf_0_1 cf_0_1)]⟩), (.slice aline_1 nline_1 cline_1), (.int .i64 r_2)] h R :=
  FL.sound mixed ck16 ⟨rfl, Eq.mp (by unfold sh16; kernel_rfl) x⟩
/- quern/quernlaw17.LiveSpans -/
def fl4 : FL := ⟨209, (.seq (.reg [se 2 (.box 25 (t 0)), sv 4 (.mov (cb false))]) (.seq (.reg [se 22 (.call 6 [] (.one .bool)), sv 5 (.mov (t 22))]) (.seq (.reg [sv 23 (.lda [.str, .slice, (.int .i64), (.int .i64), .slice] (t 2)), se 24 (.call 7 [(t 23)] (.one .bool)), sv 6 (.mov (t 24))]) (.seq (.seq (.reg [sv 25 (.mov (t 5)), sv 26 (.no (t 25)), sv 27 (.mov (t 26)), ⟨some 28, some (27, false), .v (.mov (t 6))⟩, ⟨some 29, some (27, false), .v (.no (t 28))⟩, sv 30 (.pick (t 27) (cb true) (t 29))]) (.cond (t 30) (.seq (.reg [sv 31 (.mov (t 5)), sv 4 (.mov (t 31))]) .ret) .skip)) (.seq (.reg [sv 32 (.lda [.str, .slice, (.int .i64), (.int .i64), .slice] (t 2)), se 33 (.call 15 [(t 32)] (.one .bool)), sv 7 (.mov (t 33))]) (.seq (.reg [sv 8 (.mov (ci 0))]) (.seq (.seq (.reg [sv 9 (.mov (ci 0))]) (.block 0 (.loop [(8, (.one (.int .i64))), (9, (.one (.int .i64)))] [8, 9, 34, 35, 36, 37, 38, 39, 40, 41, 42, 43, 44, 45, 46, 47, 48, 49] (.seq (.seq (.reg [sv 34 (.mov (t 9)), sv 35 (.fad 4 (t 2)), sv 36 (.ld .slice (t 35)), sv 37 (.len (t 36)), sv 38 (.cmp .lss (t 34) (t 37))]) (.cond (t 38) .skip (.exit 0))) (.seq (.block 1 (.reg [sv 41 (.mov (t 8)), sv 42 (.fad 4 (t 2)), sv 43 (.ld .slice (t 42)), sv 44 (.mov (t 9)), sv 45 (.idx 4 (t 43) (t 44)), sv 46 (.fad 0 (t 45)), sv 47 (.ld .slice (t 46)), sv 48 (.len (t 47)), sv 49 (.ar .add true (t 41) (t 48)), sv 8 (.mov (t 49))])) (.reg [sv 39 (.mov (t 9)), sv 40 (.ar .add true (t 39) (ci 1)), sv 9 (.mov (t 40))])))))) (.seq (.seq (.reg [sv 50 (.mov (t 7)), sv 51 (.no (t 50)), sv 52 (.mov (t 51)), ⟨some 53, some (52, false), .v (.fad 4 (t 2))⟩, ⟨some 54, some (52, false), .v (.ld .slice (t 53))⟩, ⟨some 55, some (52, false), .v (.len (t 54))⟩, ⟨some 56, some (52, false), .v (.cmp .gtr (t 55) (ci 12))⟩, sv 57 (.pick (t 52) (cb true) (t 56)), sv 58 (.mov (t 57)), ⟨some 59, some (58, false), .v (.fad 2 (t 2))⟩, ⟨some 60, some (58, false), .v (.ld (.int .i64) (t 59))⟩, ⟨some 61, some (58, false), .v (.cmp .gtr (t 60) (ci 20))⟩, sv 62 (.pick (t 58) (cb true) (t 61)), sv 63 (.mov (t 62)), ⟨some 64, some (63, false), .v (.mov (t 8))⟩, ⟨some 65, some (63, false), .v (.cmp .gtr (t 64) (ci 60))⟩, sv 66 (.pick (t 63) (cb true) (t 65))]) (.cond (t 66) (.seq (.reg [sv 67 (.mov (t 5)), sv 4 (.mov (t 67))]) .ret) .skip)) (.seq (.reg [sv 10 (.mov (.const (Go.Value.slice none 0 0)))]) (.seq (.reg [sv 68 (.mov (t 1)), sv 69 (.fad 4 (t 2)), sv 70 (.ld .slice (t 69)), sv 71 (.len (t 70)), sv 72 (.dt .rem (t 68) (t 71)), sv 11 (.mov (t 72))]) (.cut [(11, (.one (.int .i64)))] [11, 73, 74, 75, 76] (.seq (.reg [sv 73 (.mov (t 11)), sv 74 (.cmp .lss (t 73) (ci 0))]) (.cond (t 74) (.reg [sv 75 (.mov (t 11)), sv 76 (.ng (t 75)), sv 11 (.mov (t 76))]) .skip)) (.seq (.seq (.reg [sv 12 (.mov (ci 0))]) (.block 2 (.loop [(10, (.one .slice)), (12, (.one (.int .i64)))] [10, 12, 77, 78, 79, 80, 81, 82, 83, 84, 85, 86, 87, 88, 89, 90, 91, 92, 93, 94, 95, 96, 97, 98, 99, 100, 101, 102] (.seq (.seq (.reg [sv 77 (.mov (t 12)), sv 78 (.fad 4 (t 2)), sv 79 (.ld .slice (t 78)), sv 80 (.len (t 79)), sv 81 (.cmp .lss (t 77) (t 80))]) (.cond (t 81) .skip (.exit 2))) (.seq (.block 3 (.reg [sv 84 (.mov (t 10)), sv 85 (.mov (t 12)), sv 86 (.mov (t 1)), sv 87 (.bt .and (t 86) (ci 1)), sv 88 (.fad 4 (t 2)), sv 89 (.ld .slice (t 88)), sv 90 (.len (t 89)), sv 91 (.ar .sub true (t 90) (ci 2)), sv 92 (.ar .mul true (t 87) (t 91)), sv 93 (.ar .add true (ci 1) (t 92)), sv 94 (.ar .mul true (t 85) (t 93)), sv 95 (.mov (t 11)), sv 96 (.ar .add true (t 94) (t 95)), sv 97 (.fad 4 (t 2)), sv 98 (.ld .slice (t 97)), sv 99 (.len (t 98)), sv 100 (.dt .rem (t 96) (t 99)), se 101 (.bsl 3 1 [.int .i64 0] 1 [(0, 1, (t 100))]), se 102 (.app 3 1 8 [.int .i64 0] (t 84) (t 101)), sv 10 (.mov (t 102))])) (.reg [sv 82 (.mov (t 12)), sv 83 (.ar .add true (t 82) (ci 1)), sv 12 (.mov (t 83))])))))) (.seq (.reg [sv 104 (.lda [.str, .slice, (.int .i64), (.int .i64), .slice] (t 2)), se 105 (.call 8 [(t 104)] (.one .ptr)), sv 106 (.nck (t 105)), sv 107 (.fad 0 (t 106)), sv 108 (.fad 0 (t 107)), sv 109 (.ld .slice (t 108)), sv 110 (.idx 5 (t 109) (ci 0)), sv 111 (.lda [.str, .slice, (.int .i64), (.int .i64), .slice] (t 110)), sv 112 (.mov (t 10)), se 113 (.call 10 [(t 111), (t 112)] (.tup [(.one .slice), (.one (.int .i64))])), sv 103 (.mov (t 113)), sv 114 (.ext (t 103) 0), sv 115 (.ext (t 103) 1), sv 13 (.mov (t 114)), sv 14 (.mov (t 115))]) (.seq (.seq (.reg [sv 116 (.mov (t 14)), sv 117 (.cmp .neq (t 116) (ci 0))]) (.cond (t 117) (.seq (.reg [sv 4 (.mov (cb false))]) .ret) .skip)) (.seq (.reg [sv 15 (.mov (ci 0))]) (.seq (.seq (.reg [sv 16 (.mov (ci 0))]) (.block 4 (.loop [(16, (.one (.int .i64)))] [4, 16, 118, 119, 120, 121, 122, 123, 124, 125, 126, 127, 128, 129, 130, 131, 132, 133, 134, 135, 136, 137, 138, 139, 140, 141, 142, 143, 144, 145, 146, 147, 148, 149, 150, 151, 152, 153, 154, 155, 156, 157, 158, 159, 160, 161, 162, 163, 164, 165, 166, 167] (.seq (.seq (.reg [sv 118 (.mov (t 16)), sv 119 (.mov (t 13)), sv 120 (.len (t 119)), sv 121 (.cmp .lss (t 118) (t 120))]) (.cond (t 121) .skip (.exit 4))) (.seq (.block 5 (.seq (.drw .eq [] [124, 125, 126, 127, 128, 129, 130, 131, 132, 133, 134, 135, 136, 137, 138, 139, 140, 141, 142, 143, 144, 145, 146, 147, 148, 149, 150, 151, 152, 153, 154, 155, 156, 157, 158, 159, 160, 161, 162, 163, 164, 165, 166, 167] (.takeP 0 (sv 124 (.mov (t 16))) (.takeP 1 (sv 125 (.cmp .gtr (t 124) (ci 0))) (.takeP 2 (sv 126 (.mov (t 125))) (.takeP 3 (⟨some 127, some (126, true), .v (.mov (t 13))⟩) (.takeP 4 (⟨some 128, some (126, true), .v (.mov (t 16))⟩) (.takeP 5 (⟨some 129, some (126, true), .v (.idx 3 (t 127) (t 128))⟩) (.takeP 6 (⟨some 130, some (126, true), .v (.fad 1 (t 129))⟩) (.takeP 8 (⟨some 132, some (126, true), .v (.mov (t 13))⟩) (.takeP 9 (⟨some 133, some (126, true), .v (.mov (t 16))⟩) (.takeP 10 (⟨some 134, some (126, true), .v (.ar .sub true (t 133) (ci 1))⟩) (.takeP 11 (⟨some 135, some (126, true), .v (.idx 3 (t 132) (t 134))⟩) (.takeP 12 (⟨some 136, some (126, true), .v (.fad 1 (t 135))⟩) (.takeR 7 (⟨some 131, some (126, true), .v (.ld (.int .i64) (t 130))⟩) (.takeR 13 (⟨some 137, some (126, true), .v (.ld (.int .i64) (t 136))⟩) (.takeP 14 (⟨some 138, some (126, true), .v (.cmp .lss (t 131) (t 137))⟩) (.takeP 15 (⟨some 139, some (126, true), .v (.mov (t 138))⟩) (.takeP 16 (⟨some 140, some (139, false), .v (.mov (t 13))⟩) (.takeP 17 (⟨some 141, some (139, false), .v (.mov (t 16))⟩) (.takeP 18 (⟨some 142, some (139, false), .v (.idx 3 (t 140) (t 141))⟩) (.takeP 19 (⟨some 143, some (139, false), .v (.fad 1 (t 142))⟩) (.takeP 21 (⟨some 145, some (139, false), .v (.mov (t 13))⟩) (.takeP 22 (⟨some 146, some (139, false), .v (.mov (t 16))⟩) (.takeP 23 (⟨some 147, some (139, false), .v (.ar .sub true (t 146) (ci 1))⟩) (.takeP 24 (⟨some 148, some (139, false), .v (.idx 3 (t 145) (t 147))⟩) (.takeP 25 (⟨some 149, some (139, false), .v (.fad 1 (t 148))⟩) (.takeR 20 (⟨some 144, some (139, false), .v (.ld (.int .i64) (t 143))⟩) (.takeR 26 (⟨some 150, some (139, false), .v (.ld (.int .i64) (t 149))⟩) (.takeP 27 (⟨some 151, some (139, false), .v (.cmp .eql (t 144) (t 150))⟩) (.takeP 28 (⟨some 152, some (139, false), .v (.mov (t 151))⟩) (.takeP 29 (⟨some 153, some (152, true), .v (.mov (t 13))⟩) (.takeP 30 (⟨some 154, some (152, true), .v (.mov (t 16))⟩) (.takeP 31 (⟨some 155, some (152, true), .v (.idx 3 (t 153) (t 154))⟩) (.takeP 32 (⟨some 156, some (152, true), .v (.fad 0 (t 155))⟩) (.takeP 34 (⟨some 158, some (152, true), .v (.mov (t 13))⟩) (.takeP 35 (⟨some 159, some (152, true), .v (.mov (t 16))⟩) (.takeP 36 (⟨some 160, some (152, true), .v (.ar .sub true (t 159) (ci 1))⟩) (.takeP 37 (⟨some 161, some (152, true), .v (.idx 3 (t 158) (t 160))⟩) (.takeP 38 (⟨some 162, some (152, true), .v (.fad 0 (t 161))⟩) (.takeR 33 (⟨some 157, some (152, true), .v (.ld (.int .i64) (t 156))⟩) (.takeR 39 (⟨some 163, some (152, true), .v (.ld (.int .i64) (t 162))⟩) (.takeP 40 (⟨some 164, some (152, true), .v (.cmp .leq (t 157) (t 163))⟩) (.takeP 41 (⟨some 165, some (139, false), .v (.pick (t 152) (t 164) (cb false))⟩) (.takeP 42 (⟨some 166, some (126, true), .v (.pick (t 139) (cb true) (t 165))⟩) (.takeP 43 (sv 167 (.pick (t 126) (t 166) (cb false))) .done))))))))))))))))))))))))))))))))))))))))))))) (.cond (t 167) (.seq (.reg [sv 4 (.mov (cb false))]) .ret) .skip))) (.reg [sv 122 (.mov (t 16)), sv 123 (.ar .add true (t 122) (ci 1)), sv 16 (.mov (t 123))])))))) (.seq (.seq (.reg [sv 17 (.mov (ci 0))]) (.block 6 (.loop [(15, (.one (.int .i64))), (17, (.one (.int .i64)))] [4, 15, 17, 18, 19, 20, 21, 168, 169, 170, 171, 172, 173, 174, 175, 176, 177, 178, 179, 180, 181, 182, 183, 184, 185, 186, 187, 188, 189, 190, 191, 192, 193, 194, 195, 196, 197, 198, 199, 200, 201, 202, 203, 204] (.seq (.seq (.reg [sv 168 (.mov (t 17)), sv 169 (.fad 2 (t 2)), sv 170 (.ld (.int .i64) (t 169)), sv 171 (.cmp .lss (t 168) (t 170))]) (.cond (t 171) .skip (.exit 6))) (.seq (.block 7 (.seq (.reg [sv 175 (.lda [.str, .slice, (.int .i64), (.int .i64), .slice] (t 2)), sv 176 (.mov (t 10)), sv 177 (.mov (t 17)), se 178 (.call 16 [(t 175), (t 176), (t 177)] (.tup [(.one (.int .i64)), (.one (.int .i64))])), sv 174 (.mov (t 178)), sv 179 (.ext (t 174) 0), sv 180 (.ext (t 174) 1), sv 18 (.mov (t 179)), sv 19 (.mov (t 180))]) (.seq (.seq (.reg [sv 181 (.mov (t 18)), sv 182 (.cmp .lss (t 181) (ci 0))]) (.cond (t 182) (.exit 7) .skip)) (.seq (.reg [sv 183 (.mov (t 15)), sv 184 (.ar .add true (t 183) (ci 1)), sv 15 (.mov (t 184))]) (.seq (.reg [sv 20 (.mov (cb false))]) (.seq (.seq (.reg [sv 21 (.mov (ci 0))]) (.block 8 (.loop [(20, (.one .bool)), (21, (.one (.int .i64)))] [20, 21, 185, 186, 187, 188, 189, 190, 191, 192, 193, 194, 195, 196, 197, 198, 199, 200, 201, 202] (.seq (.seq (.reg [sv 185 (.mov (t 21)), sv 186 (.mov (t 13)), sv 187 (.len (t 186)), sv 188 (.cmp .lss (t 185) (t 187))]) (.cond (t 188) .skip (.exit 8))) (.seq (.block 9 (.reg [sv 191 (.mov (t 20)), sv 192 (.mov (t 191)), ⟨some 193, some (192, false), .v (.mov (t 13))⟩, ⟨some 194, some (192, false), .v (.mov (t 21))⟩, ⟨some 195, some (192, false), .v (.idx 3 (t 193) (t 194))⟩, ⟨some 196, some (192, false), .v (.lda [(.int .i64), (.int .i64), (.int .i64)] (t 195))⟩, ⟨some 197, some (192, false), .v (.mov (t 17))⟩, ⟨some 198, some (192, false), .v (.mov (t 18))⟩, ⟨some 199, some (192, false), .v (.mov (t 19))⟩, ⟨some 200, some (192, false), .v (.bld [.int .i64 0, .int .i64 0, .int .i64 0] [(0, 1, (t 197)), (1, 1, (t 198)), (2, 1, (t 199))])⟩, ⟨some 201, some (192, false), .v (.eqa .eql [(.int .i64), (.int .i64), (.int .i64)] (t 196) (t 200))⟩, sv 202 (.pick (t 192) (cb true) (t 201)), sv 20 (.mov (t 202))])) (.reg [sv 189 (.mov (t 21)), sv 190 (.ar .add true (t 189) (ci 1)), sv 21 (.mov (t 190))])))))) (.seq (.reg [sv 203 (.mov (t 20)), sv 204 (.no (t 203))]) (.cond (t 204) (.seq (.reg [sv 4 (.mov (cb false))]) .ret) .skip)))))))) (.reg [sv 172 (.mov (t 17)), sv 173 (.ar .add true (t 172) (ci 1)), sv 17 (.mov (t 173))])))))) (.seq (.reg [sv 205 (.mov (t 15)), sv 206 (.mov (t 13)), sv 207 (.len (t 206)), sv 208 (.cmp .eql (t 205) (t 207)), sv 4 (.mov (t 208))]) .ret)))))))))))))))))), [.tmp 4]⟩
theorem ck4 : chkFL Tryd.prog 4 fl4 = true := by kernel_rfl
def sh4 (f_0 : ByteArray) (af_0 : Option Addr) (nf_0 cf_0 : Nat) (f_0_1 : Int) (f_0_2 : Int) (af_0_1 : Option Addr) (nf_0_1 cf_0_1 : Nat) (turn_1 : Int) (h : H) (R : Value → H → Prop) : Prop :=
 ∀ (bf_2 : Nat) (h1 : H), New h (.cells ⟨[(.string f_0), (.slice af_0 nf_0 cf_0), (.int .i64 f_0_1), (.int .i64 f_0_2), (.slice af_0_1 nf_0_1 cf_0_1)]⟩ 25) bf_2 h1 →
 HC Tryd.prog 6 [] h1 fun rv_22 h2 =>
 ∃ (v_22 : Bool), rv_22 = (.bool v_22) ∧
 ∃ (v_23 : ByteArray), cell h2 ⟨bf_2, (0 + 0), none⟩ = some (.string v_23) ∧
 ∃ (av_23 : Option Addr) (nv_23 cv_23 : Nat), cell h2 ⟨bf_2, (0 + 1), none⟩ = some (.slice av_23 nv_23 cv_23) ∧
 ∃ (v_23_1 : Int), cell h2 ⟨bf_2, (0 + 2), none⟩ = some (.int .i64 v_23_1) ∧
 ∃ (v_23_2 : Int), cell h2 ⟨bf_2, (0 + 3), none⟩ = some (.int .i64 v_23_2) ∧
 ∃ (av_23_1 : Option Addr) (nv_23_1 cv_23_1 : Nat), cell h2 ⟨bf_2, (0 + 4), none⟩ = some (.slice av_23_1 nv_23_1 cv_23_1) ∧
 HC Tryd.prog 7 [(.agg ⟨[(.string v_23), (.slice av_23 nv_23 cv_23), (.int .i64 v_23_1), (.int .i64 v_23_2), (.slice av_23_1 nv_23_1 cv_23_1)]⟩)] h2 fun rv_24 h3 =>
 ∃ (v_24 : Bool), rv_24 = (.bool v_24) ∧
 (((!v_22) = true →
 R (.bool v_22) h3) ∧
 ((!v_22) = false →
 (((!v_24) = true →
 R (.bool v_22) h3) ∧
 ((!v_24) = false →
 ∃ (v_32 : ByteArray), cell h3 ⟨bf_2, (0 + 0), none⟩ = some (.string v_32) ∧
 ∃ (av_32 : Option Addr) (nv_32 cv_32 : Nat), cell h3 ⟨bf_2, (0 + 1), none⟩ = some (.slice av_32 nv_32 cv_32) ∧
 ∃ (v_32_1 : Int), cell h3 ⟨bf_2, (0 + 2), none⟩ = some (.int .i64 v_32_1) ∧
 ∃ (v_32_2 : Int), cell h3 ⟨bf_2, (0 + 3), none⟩ = some (.int .i64 v_32_2) ∧
 ∃ (av_32_1 : Option Addr) (nv_32_1 cv_32_1 : Nat), cell h3 ⟨bf_2, (0 + 4), none⟩ = some (.slice av_32_1 nv_32_1 cv_32_1) ∧
 HC Tryd.prog 15 [(.agg ⟨[(.string v_32), (.slice av_32 nv_32 cv_32), (.int .i64 v_32_1), (.int .i64 v_32_2), (.slice av_32_1 nv_32_1 cv_32_1)]⟩)] h3 fun rv_33 h4 =>
 ∃ (v_33 : Bool), rv_33 = (.bool v_33) ∧
 ∃ J : Int → Int → LI, (J 0 0).1 h4 ∧
 ∀ (n_8 : Int), ∀ (i_9 : Int), ∀ h5 : H, (J n_8 i_9).1 h5 →
 ∃ (av_36 : Option Addr) (nv_36 cv_36 : Nat), cell h5 ⟨bf_2, (0 + 4), none⟩ = some (.slice av_36 nv_36 cv_36) ∧
 (((i_9 < (↑nv_36 : Int)) →
 ∃ (av_43 : Option Addr) (nv_43 cv_43 : Nat), cell h5 ⟨bf_2, (0 + 4), none⟩ = some (.slice av_43 nv_43 cv_43) ∧
 0 ≤ i_9 ∧ i_9 < (↑nv_43 : Int) ∧
 (onP av_43 fun bv_45 ov_45 =>
 ∃ (av_47 : Option Addr) (nv_47 cv_47 : Nat), cell h5 ⟨bv_45, ((ov_45 + (i_9).toNat * 4) + 0), none⟩ = some (.slice av_47 nv_47 cv_47) ∧
 InR .i64 (n_8 + (↑nv_47 : Int)) ∧
 InR .i64 (i_9 + 1) ∧
 (J (n_8 + (↑nv_47 : Int)) (i_9 + 1)).1 h5 ∧ (J (n_8 + (↑nv_47 : Int)) (i_9 + 1)).2 h5 < (J n_8 i_9).2 h5)) ∧
 (¬ (i_9 < (↑nv_36 : Int)) →
 (((!v_33) = true →
 R (.bool v_22) h5) ∧
 ((!v_33) = false →
 ∃ (av_54 : Option Addr) (nv_54 cv_54 : Nat), cell h5 ⟨bf_2, (0 + 4), none⟩ = some (.slice av_54 nv_54 cv_54) ∧
 (((12 < (↑nv_54 : Int)) →
 R (.bool v_22) h5) ∧
 (¬ (12 < (↑nv_54 : Int)) →
 ∃ (v_60 : Int), cell h5 ⟨bf_2, (0 + 2), none⟩ = some (.int .i64 v_60) ∧
 (((20 < v_60) →
 R (.bool v_22) h5) ∧
 (¬ (20 < v_60) →
 (((60 < n_8) →
 R (.bool v_22) h5) ∧
 (¬ (60 < n_8) →
 ∃ (av_70 : Option Addr) (nv_70 cv_70 : Nat), cell h5 ⟨bf_2, (0 + 4), none⟩ = some (.slice av_70 nv_70 cv_70) ∧
 (↑nv_70 : Int) ≠ 0 ∧ InR .i64 0 ∧
 ∃ J_1 : Int → H → Prop, (((((turn_1.tmod (↑nv_70 : Int)) < 0) →
 J_1 (IntKind.wrap .i64 (-(turn_1.tmod (↑nv_70 : Int)))) h5) ∧
 (¬ ((turn_1.tmod (↑nv_70 : Int)) < 0) →
 J_1 (turn_1.tmod (↑nv_70 : Int)) h5))) ∧
 ∀ (t_11 : Int), ∀ h6 : H, J_1 t_11 h6 →
 ∃ J_2 : Option Addr → Nat → Nat → Int → LI, (J_2 none 0 0 0).1 h6 ∧
 ∀ (aline_10 : Option Addr) (nline_10 cline_10 : Nat), ∀ (i_12 : Int), ∀ h7 : H, (J_2 aline_10 nline_10 cline_10 i_12).1 h7 →
 ∃ (av_79 : Option Addr) (nv_79 cv_79 : Nat), cell h7 ⟨bf_2, (0 + 4), none⟩ = some (.slice av_79 nv_79 cv_79) ∧
 (((i_12 < (↑nv_79 : Int)) →
 ∃ (av_89 : Option Addr) (nv_89 cv_89 : Nat), cell h7 ⟨bf_2, (0 + 4), none⟩ = some (.slice av_89 nv_89 cv_89) ∧
 InR .i64 ((↑nv_89 : Int) - 2) ∧
 InR .i64 ((bitsF .and .i64 turn_1 1) * ((↑nv_89 : Int) - 2)) ∧
 InR .i64 (1 + ((bitsF .and .i64 turn_1 1) * ((↑nv_89 : Int) - 2))) ∧
 InR .i64 (i_12 * (1 + ((bitsF .and .i64 turn_1 1) * ((↑nv_89 : Int) - 2)))) ∧
 InR .i64 ((i_12 * (1 + ((bitsF .and .i64 turn_1 1) * ((↑nv_89 : Int) - 2)))) + t_11) ∧
 ∃ (av_98 : Option Addr) (nv_98 cv_98 : Nat), cell h7 ⟨bf_2, (0 + 4), none⟩ = some (.slice av_98 nv_98 cv_98) ∧
 (↑nv_98 : Int) ≠ 0 ∧ InR .i64 0 ∧
 1 = 1 ∧ 0 + 1 ≤ 1 ∧
 ∀ (bv_101 : Nat) (h8 : H), New h7 (.cells ⟨[(.int .i64 (((i_12 * (1 + ((bitsF .and .i64 turn_1 1) * ((↑nv_89 : Int) - 2)))) + t_11).tmod (↑nv_98 : Int)))]⟩ 3) bv_101 h8 →
 apQ 3 1 8 [.int .i64 0] h8 aline_10 nline_10 cline_10 (some ⟨bv_101, 0, none⟩) 1 fun av_102 nv_102 cv_102 h9 =>
 InR .i64 (i_12 + 1) ∧
 (J_2 av_102 nv_102 cv_102 (i_12 + 1)).1 h9 ∧ (J_2 av_102 nv_102 cv_102 (i_12 + 1)).2 h9 < (J_2 aline_10 nline_10 cline_10 i_12).2 h7) ∧
 (¬ (i_12 < (↑nv_79 : Int)) →
 ∃ (v_104 : ByteArray), cell h7 ⟨bf_2, (0 + 0), none⟩ = some (.string v_104) ∧
 ∃ (av_104 : Option Addr) (nv_104 cv_104 : Nat), cell h7 ⟨bf_2, (0 + 1), none⟩ = some (.slice av_104 nv_104 cv_104) ∧
 ∃ (v_104_1 : Int), cell h7 ⟨bf_2, (0 + 2), none⟩ = some (.int .i64 v_104_1) ∧
 ∃ (v_104_2 : Int), cell h7 ⟨bf_2, (0 + 3), none⟩ = some (.int .i64 v_104_2) ∧
 ∃ (av_104_1 : Option Addr) (nv_104_1 cv_104_1 : Nat), cell h7 ⟨bf_2, (0 + 4), none⟩ = some (.slice av_104_1 nv_104_1 cv_104_1) ∧
 HC Tryd.prog 8 [(.agg ⟨[(.string v_104), (.slice av_104 nv_104 cv_104), (.int .i64 v_104_1), (.int .i64 v_104_2), (.slice av_104_1 nv_104_1 cv_104_1)]⟩)] h7 fun rv_105 h10 =>
 ∃ (pv_105 : Option Addr), rv_105 = (.pointer pv_105) ∧
 (pv_105 : Option Addr) ≠ none ∧
 (onP pv_105 fun bv_107 ov_107 =>
 ∃ (av_109 : Option Addr) (nv_109 cv_109 : Nat), cell h10 ⟨bv_107, ((ov_107 + 0) + 0), none⟩ = some (.slice av_109 nv_109 cv_109) ∧
 0 ≤ (0 : Int) ∧ 0 < (↑nv_109 : Int) ∧
 (onP av_109 fun bv_110 ov_110 =>
 ∃ (v_111 : ByteArray), cell h10 ⟨bv_110, ((ov_110 + ((0 : Int)).toNat * 5) + 0), none⟩ = some (.string v_111) ∧
 ∃ (av_111 : Option Addr) (nv_111 cv_111 : Nat), cell h10 ⟨bv_110, ((ov_110 + ((0 : Int)).toNat * 5) + 1), none⟩ = some (.slice av_111 nv_111 cv_111) ∧
 ∃ (v_111_1 : Int), cell h10 ⟨bv_110, ((ov_110 + ((0 : Int)).toNat * 5) + 2), none⟩ = some (.int .i64 v_111_1) ∧
 ∃ (v_111_2 : Int), cell h10 ⟨bv_110, ((ov_110 + ((0 : Int)).toNat * 5) + 3), none⟩ = some (.int .i64 v_111_2) ∧
 ∃ (av_111_1 : Option Addr) (nv_111_1 cv_111_1 : Nat), cell h10 ⟨bv_110, ((ov_110 + ((0 : Int)).toNat * 5) + 4), none⟩ = some (.slice av_111_1 nv_111_1 cv_111_1) ∧
 HC Tryd.prog 10 [(.agg ⟨[(.string v_111), (.slice av_111 nv_111 cv_111), (.int .i64 v_111_1), (.int .i64 v_111_2), (.slice av_111_1 nv_111_1 cv_111_1)]⟩), (.slice aline_10 nline_10 cline_10)] h10 fun rv_113 h11 =>
 ∃ (av_113 : Option Addr) (nv_113 cv_113 : Nat), ∃ (v_113 : Int), rv_113 = (.tuple ⟨[(.slice av_113 nv_113 cv_113), (.int .i64 v_113)]⟩) ∧
 (((¬ v_113 = 0) →
 R (.bool false) h11) ∧
 (¬ (¬ v_113 = 0) →
 ∃ J_3 : Int → LI, (J_3 0).1 h11 ∧
 ∀ (i_16 : Int), ∀ h12 : H, (J_3 i_16).1 h12 →
 (((i_16 < (↑nv_113 : Int)) →
 (((0 < i_16) →
 0 ≤ i_16 ∧ i_16 < (↑nv_113 : Int) ∧
 (onP av_113 fun bv_129 ov_129 =>
 InR .i64 (i_16 - 1) ∧
 0 ≤ (i_16 - 1) ∧ (i_16 - 1) < (↑nv_113 : Int) ∧
 (onP av_113 fun bv_135 ov_135 =>
 ∃ (v_131 : Int), cell h12 ⟨bv_129, ((ov_129 + (i_16).toNat * 3) + 1), none⟩ = some (.int .i64 v_131) ∧
 ∃ (v_137 : Int), cell h12 ⟨bv_135, ((ov_135 + ((i_16 - 1)).toNat * 3) + 1), none⟩ = some (.int .i64 v_137) ∧
 (((v_131 < v_137) →
 R (.bool false) h12) ∧
 (¬ (v_131 < v_137) →
 0 ≤ i_16 ∧ i_16 < (↑nv_113 : Int) ∧
 (onP av_113 fun bv_142 ov_142 =>
 InR .i64 (i_16 - 1) ∧
 0 ≤ (i_16 - 1) ∧ (i_16 - 1) < (↑nv_113 : Int) ∧
 (onP av_113 fun bv_148 ov_148 =>
 ∃ (v_144 : Int), cell h12 ⟨bv_142, ((ov_142 + (i_16).toNat * 3) + 1), none⟩ = some (.int .i64 v_144) ∧
 ∃ (v_150 : Int), cell h12 ⟨bv_148, ((ov_148 + ((i_16 - 1)).toNat * 3) + 1), none⟩ = some (.int .i64 v_150) ∧
 (((v_144 = v_150) →
 0 ≤ i_16 ∧ i_16 < (↑nv_113 : Int) ∧
 (onP av_113 fun bv_155 ov_155 =>
 InR .i64 (i_16 - 1) ∧
 0 ≤ (i_16 - 1) ∧ (i_16 - 1) < (↑nv_113 : Int) ∧
 (onP av_113 fun bv_161 ov_161 =>
 ∃ (v_157 : Int), cell h12 ⟨bv_155, ((ov_155 + (i_16).toNat * 3) + 0), none⟩ = some (.int .i64 v_157) ∧
 ∃ (v_163 : Int), cell h12 ⟨bv_161, ((ov_161 + ((i_16 - 1)).toNat * 3) + 0), none⟩ = some (.int .i64 v_163) ∧
 (((v_157 ≤ v_163) →
 R (.bool false) h12) ∧
 (¬ (v_157 ≤ v_163) →
 InR .i64 (i_16 + 1) ∧
 (J_3 (i_16 + 1)).1 h12 ∧ (J_3 (i_16 + 1)).2 h12 < (J_3 i_16).2 h12))))) ∧
 (¬ (v_144 = v_150) →
 InR .i64 (i_16 + 1) ∧
 (J_3 (i_16 + 1)).1 h12 ∧ (J_3 (i_16 + 1)).2 h12 < (J_3 i_16).2 h12))))))))) ∧
 (¬ (0 < i_16) →
 InR .i64 (i_16 + 1) ∧
 (J_3 (i_16 + 1)).1 h12 ∧ (J_3 (i_16 + 1)).2 h12 < (J_3 i_16).2 h12))) ∧
 (¬ (i_16 < (↑nv_113 : Int)) →
 ∃ J_4 : Int → Int → LI, (J_4 0 0).1 h12 ∧
 ∀ (at_15 : Int), ∀ (r_17 : Int), ∀ h13 : H, (J_4 at_15 r_17).1 h13 →
 ∃ (v_170 : Int), cell h13 ⟨bf_2, (0 + 2), none⟩ = some (.int .i64 v_170) ∧
 (((r_17 < v_170) →
 ∃ (v_175 : ByteArray), cell h13 ⟨bf_2, (0 + 0), none⟩ = some (.string v_175) ∧
 ∃ (av_175 : Option Addr) (nv_175 cv_175 : Nat), cell h13 ⟨bf_2, (0 + 1), none⟩ = some (.slice av_175 nv_175 cv_175) ∧
 ∃ (v_175_1 : Int), cell h13 ⟨bf_2, (0 + 2), none⟩ = some (.int .i64 v_175_1) ∧
 ∃ (v_175_2 : Int), cell h13 ⟨bf_2, (0 + 3), none⟩ = some (.int .i64 v_175_2) ∧
 ∃ (av_175_1 : Option Addr) (nv_175_1 cv_175_1 : Nat), cell h13 ⟨bf_2, (0 + 4), none⟩ = some (.slice av_175_1 nv_175_1 cv_175_1) ∧
 HC Tryd.prog 16 [(.agg ⟨[(.string v_175), (.slice av_175 nv_175 cv_175), (.int .i64 v_175_1), (.int .i64 v_175_2), (.slice av_175_1 nv_175_1 cv_175_1)]⟩), (.slice aline_10 nline_10 cline_10), (.int .i64 r_17)] h13 fun rv_178 h14 =>
 ∃ (v_178 : Int), ∃ (v_178_1 : Int), rv_178 = (.tuple ⟨[(.int .i64 v_178), (.int .i64 v_178_1)]⟩) ∧
 (((v_178 < 0) →
 InR .i64 (r_17 + 1) ∧
 (J_4 at_15 (r_17 + 1)).1 h14 ∧ (J_4 at_15 (r_17 + 1)).2 h14 < (J_4 at_15 r_17).2 h13) ∧
 (¬ (v_178 < 0) →
 InR .i64 (at_15 + 1) ∧
 ∃ J_5 : Bool → Int → LI, (J_5 false 0).1 h14 ∧
 ∀ (found_20 : Bool), ∀ (i_21 : Int), ∀ h15 : H, (J_5 found_20 i_21).1 h15 →
 (((i_21 < (↑nv_113 : Int)) →
 ((found_20 = true →
 InR .i64 (i_21 + 1) ∧
 (J_5 true (i_21 + 1)).1 h15 ∧ (J_5 true (i_21 + 1)).2 h15 < (J_5 found_20 i_21).2 h15) ∧
 (found_20 = false →
 0 ≤ i_21 ∧ i_21 < (↑nv_113 : Int) ∧
 (onP av_113 fun bv_195 ov_195 =>
 ∃ (v_196 : Int), cell h15 ⟨bv_195, ((ov_195 + (i_21).toNat * 3) + 0), none⟩ = some (.int .i64 v_196) ∧
 ∃ (v_196_1 : Int), cell h15 ⟨bv_195, ((ov_195 + (i_21).toNat * 3) + 1), none⟩ = some (.int .i64 v_196_1) ∧
 ∃ (v_196_2 : Int), cell h15 ⟨bv_195, ((ov_195 + (i_21).toNat * 3) + 2), none⟩ = some (.int .i64 v_196_2) ∧
 1 = 1 ∧ 0 + 1 ≤ 3 ∧
 1 = 1 ∧ 1 + 1 ≤ 3 ∧
 1 = 1 ∧ 2 + 1 ≤ 3 ∧
 InR .i64 (i_21 + 1) ∧
 (J_5 (decide (v_196 = r_17 ∧ (v_196_1 = v_178 ∧ v_196_2 = v_178_1))) (i_21 + 1)).1 h15 ∧ (J_5 (decide (v_196 = r_17 ∧ (v_196_1 = v_178 ∧ v_196_2 = v_178_1))) (i_21 + 1)).2 h15 < (J_5 found_20 i_21).2 h15)))) ∧
 (¬ (i_21 < (↑nv_113 : Int)) →
 (((!found_20) = true →
 R (.bool false) h15) ∧
 ((!found_20) = false →
 InR .i64 (r_17 + 1) ∧
 (J_4 (at_15 + 1) (r_17 + 1)).1 h15 ∧ (J_4 (at_15 + 1) (r_17 + 1)).2 h15 < (J_4 at_15 r_17).2 h13))))))) ∧
 (¬ (r_17 < v_170) →
 R (.bool (decide (at_15 = (↑nv_113 : Int)))) h13))))))))))))))))))))))))
theorem hc4 {f_0 : ByteArray} {af_0 : Option Addr} {nf_0 cf_0 : Nat} {f_0_1 : Int} {f_0_2 : Int} {af_0_1 : Option Addr} {nf_0_1 cf_0_1 : Nat} {turn_1 : Int} {h : H} {R : Value → H → Prop} (x : sh4 f_0 af_0 nf_0 cf_0 f_0_1 f_0_2 af_0_1 nf_0_1 cf_0_1 turn_1 h R) : HC Tryd.prog 4 [(.agg ⟨[(.string f_0), (.slice af_0 nf_0 cf_0), (.int .i64 f_0_1), (.int .i64 f_0_2), (.slice af_0_1 nf_0_1 cf_0_1)]⟩), (.int .i64 turn_1)] h R :=
  FL.sound mixed ck4 ⟨rfl, Eq.mp (by unfold sh4; kernel_rfl) x⟩
end Go.Proofs.Try

/- What is wanted at a point, by ways: plain laws. -/
set_option maxRecDepth 100000
set_option linter.unusedVariables false
set_option linter.unusedSimpArgs false
open Go Go.Fw Go.Proofs
namespace Go.Proofs.Try

theorem dstIn_cons {y : Ins} {l : List Ins} {r : Int} : DstIn (y :: l) r ↔ y.dst = r ∨ DstIn l r := by unfold DstIn; simp
/-- Live ahead of the j-th instruction of the block x, which is the i-th. -/
def PtP (f : Fnc) (x : Blk) (j i : Nat) (r : Int) : Prop := ExpB ⟨x.body.drop j, x.term⟩ r ∨ (¬ DstIn (x.body.drop j) r ∧ LB f i r.toNat)
/-- The least sets are least among predicates that are closed. -/
theorem LA_ind {f : Fnc} (hb : ∀ x ∈ f.blocks, BlkOk f x ∧ ∀ t ∈ x.term.to, 0 ≤ t ∧ t < f.blocks.length) {PA PB : Nat → Nat → Prop}
    (h : ∀ i x, f.blocks[i]? = some x → ∀ q : Nat, (∀ t ∈ x.term.to, PA t.toNat q → PB i q) ∧ (ExpB x q → PA i q) ∧ (¬ DstIn x.body q → PB i q → PA i q)) :
    ∀ i, i < f.blocks.length → ∀ q, (LA f i q → PA i q) ∧ (LB f i q → PB i q) := by
  classical
  have hbit : ∀ (P : Nat → Nat → Prop) (i q : Nat), bit ((List.range f.regs.toNat).map fun q => decide (P i q)) q ↔ q < f.regs.toNat ∧ P i q := fun P i q => by
    unfold bit
    rw [List.getElem?_map]
    by_cases hq : q < f.regs.toNat
    · rw [List.getElem?_range hq]; simp [hq]
    · rw [List.getElem?_eq_none (by simpa using hq)]; simp [hq]
  have pre : Pre f (fun i => (List.range f.regs.toNat).map fun q => decide (PA i q)) (fun i => (List.range f.regs.toNat).map fun q => decide (PB i q)) := fun i x hx => by
    have hm := List.mem_of_getElem? hx
    refine ⟨fun t ht => ⟨by simp, fun q hq => ?_⟩, ⟨by rw [startL_len]; simp, fun q hq => ?_⟩⟩
    · rw [hbit] at hq ⊢
      exact ⟨hq.1, (h i x hx q).1 t ht hq.2⟩
    · have hq1 := (List.getElem?_eq_some_iff.1 hq).1
      rw [startL_len] at hq1
      rw [bit_start (hb x hm).1 hq1, hbit] at hq
      rw [hbit]
      have hqr : q < f.regs.toNat := by simpa using hq1
      rcases hq with h1 | ⟨h1, h2⟩
      · exact ⟨hqr, (h i x hx q).2.1 h1⟩
      · exact ⟨hqr, (h i x hx q).2.2 h1 h2.2⟩
  intro i hi q
  refine ⟨fun hl => ?_, fun hl => ?_⟩
  · have := hl _ _ (fun i _ => by simp) (fun i _ => by simp) pre
    rw [hbit] at this; exact this.2
  · have := hl _ _ (fun i _ => by simp) (fun i _ => by simp) pre
    rw [hbit] at this; exact this.2
theorem expR_reg {f : Fnc} {q : Int} : ∀ {l : List Ins}, (∀ y ∈ l, InsP f y) → ExpR l q → RegP f q
  | [], _, h => h.elim
  | y :: l, hl, h => by
    rcases h with h | ⟨_, h⟩
    · exact (hl y (by simp)).1 q h
    · exact expR_reg (fun z hz => hl z (by simp [hz])) h
theorem expB_reg {f : Fnc} {x : Blk} (hb : BlkOk f x) {q : Int} (q0 : 0 ≤ q) (h : ExpB x q) : RegP f q := by
  rcases h with h | ⟨_, h⟩
  · exact expR_reg (fun y hy => (hb.ins y hy).1) h
  · rcases hb.val with e | e
    · omega
    · rw [h] at e; exact e
abbrev BlksOk (f : Fnc) : Prop := ∀ x ∈ f.blocks, BlkOk f x ∧ ∀ t ∈ x.term.to, 0 ≤ t ∧ t < f.blocks.length
theorem LA_exp {f : Fnc} (hb : BlksOk f) {i : Nat} {x : Blk} (hx : f.blocks[i]? = some x) {q : Nat} (he : ExpB x q) : LA f i q := fun A B a b p => by
  have hi := (List.getElem?_eq_some_iff.1 hx).1
  have hr := expB_reg (hb x (List.mem_of_getElem? hx)).1 (by omega) he
  unfold RegP at hr
  exact ((p i x hx).2).2 q ((bit_start (hb x (List.mem_of_getElem? hx)).1 (by rw [b i hi]; omega)).2 (.inl he))
theorem LA_pass {f : Fnc} (hb : BlksOk f) {i : Nat} {x : Blk} (hx : f.blocks[i]? = some x) {q : Nat} (hd : ¬ DstIn x.body q) (hl : LB f i q) : LA f i q := fun A B a b p => by
  have hB := hl A B a b p
  exact ((p i x hx).2).2 q ((bit_start (hb x (List.mem_of_getElem? hx)).1 (List.getElem?_eq_some_iff.1 hB).1).2 (.inr ⟨hd, hB⟩))
theorem LA_lt {f : Fnc} (i q : Nat) (hi : i < f.blocks.length) : (LA f i q → q < f.regs.toNat) ∧ (LB f i q → q < f.regs.toNat) := by
  have hbit : ∀ q, bit (List.replicate f.regs.toNat true) q ↔ q < f.regs.toNat := fun q => by
    unfold bit; rw [List.getElem?_replicate]
    by_cases hq : q < f.regs.toNat <;> simp [hq]
  have pre : Pre f (fun _ => List.replicate f.regs.toNat true) (fun _ => List.replicate f.regs.toNat true) := fun i x hx =>
    ⟨fun t ht => leL.rfl', ⟨by rw [startL_len], fun q hq => by
      rw [hbit]
      have := (List.getElem?_eq_some_iff.1 hq).1
      rw [startL_len] at this; simpa using this⟩⟩
  exact ⟨fun h => (hbit q).1 (h _ _ (fun i _ => by simp) (fun i _ => by simp) pre), fun h => (hbit q).1 (h _ _ (fun i _ => by simp) (fun i _ => by simp) pre)⟩
theorem fin_ex (f : Fnc) : ∃ A B, Fin f A B := by
  classical
  have hbit : ∀ (P : Nat → Nat → Prop) (i q : Nat), bit ((List.range f.regs.toNat).map fun q => decide (P i q)) q ↔ q < f.regs.toNat ∧ P i q := fun P i q => by
    unfold bit
    rw [List.getElem?_map]
    by_cases hq : q < f.regs.toNat
    · rw [List.getElem?_range hq]; simp [hq]
    · rw [List.getElem?_eq_none (by simpa using hq)]; simp [hq]
  exact ⟨fun i => (List.range f.regs.toNat).map fun q => decide (LA f i q), fun i => (List.range f.regs.toNat).map fun q => decide (LB f i q),
    ⟨fun i hi r => by rw [hbit]; exact ⟨fun h => h.2, fun h => ⟨(LA_lt i r hi).1 h, h⟩⟩, fun i hi r => by rw [hbit]; exact ⟨fun h => h.2, fun h => ⟨(LA_lt i r hi).2 h, h⟩⟩⟩⟩
theorem LB_iff {f : Fnc} (hb : BlksOk f) {i : Nat} {x : Blk} (hx : f.blocks[i]? = some x) {q : Nat} : LB f i q ↔ ∃ t ∈ x.term.to, LA f t.toNat q := by
  refine ⟨fun hl => ?_, fun ⟨t, ht, hl⟩ => LB_of hx ht hl⟩
  have := (LA_ind hb (PA := LA f) (PB := fun i q => ∃ x, f.blocks[i]? = some x ∧ ∃ t ∈ x.term.to, LA f t.toNat q) (fun i x hx q => ⟨fun t ht hl => ⟨x, hx, t, ht, hl⟩, fun he => LA_exp hb hx he, fun hd ⟨x', hx', t, ht, hl⟩ => ?_⟩) i (List.getElem?_eq_some_iff.1 hx).1 q).2 hl
  · obtain ⟨x', hx', h⟩ := this
    rw [hx] at hx'; cases hx'; exact h
  · rw [hx] at hx'; cases hx'
    exact LA_pass hb hx hd (LB_of hx ht hl)
theorem LA_iff {f : Fnc} (hb : BlksOk f) {i : Nat} {x : Blk} (hx : f.blocks[i]? = some x) {q : Nat} : LA f i q ↔ PtP f x 0 i q := by
  unfold PtP
  simp only [List.drop_zero, Int.toNat_natCast]
  refine ⟨fun hl => ?_, fun h => ?_⟩
  · have := (LA_ind hb (PA := fun i q => ∃ x, f.blocks[i]? = some x ∧ (ExpB x q ∨ (¬ DstIn x.body q ∧ LB f i q))) (PB := LB f) (fun i x hx q => ⟨fun t ht ⟨x', hx', hl⟩ => ?_, fun he => ⟨x, hx, .inl he⟩, fun hd hl => ⟨x, hx, .inr ⟨hd, hl⟩⟩⟩) i (List.getElem?_eq_some_iff.1 hx).1 q).1 hl
    · obtain ⟨x', hx', h⟩ := this
      rw [hx] at hx'; cases hx'; exact h
    · refine LB_of hx ht ?_
      rcases hl with hl | ⟨hd, hl⟩
      · exact LA_exp hb hx' hl
      · exact LA_pass hb hx' hd hl
  · rcases h with hl | ⟨hd, hl⟩
    · exact LA_exp hb hx hl
    · exact LA_pass hb hx hd hl
/-- Blocks that are looked through, whose ways end in such blocks: r is not live ahead of them. -/
theorem not_live {f : Fnc} (hb : BlksOk f) {r : Nat} {M : Nat → Prop} (hM : ∀ b x, M b → f.blocks[b]? = some x → ¬ ExpB x r ∧ (DstIn x.body r ∨ ∀ t ∈ x.term.to, M t.toNat)) : ∀ b, b < f.blocks.length → M b → ¬ LA f b r := by
  intro b hbl hMb hl
  have := (LA_ind hb (PA := fun b q => ¬ (q = r ∧ M b)) (PB := fun i q => q = r → ∃ x, f.blocks[i]? = some x ∧ ∃ t ∈ x.term.to, ¬ M t.toNat) (fun i x hx q => ⟨fun t ht hn hq => ⟨x, hx, t, ht, fun hm => hn ⟨hq, hm⟩⟩, fun he ⟨hq, hm⟩ => ?_, fun hd hp ⟨hq, hm⟩ => ?_⟩) b hbl r).1 hl
  · exact this ⟨rfl, hMb⟩
  · subst hq; exact (hM i x hm hx).1 he
  · obtain ⟨x', hx', t, ht, hn⟩ := hp hq
    rw [hx] at hx'; cases hx'
    subst hq
    rcases (hM i x hm hx).2 with h | h
    · exact hd h
    · exact hn (h t ht)

/-- A worklist of points, of which the first s are looked through. -/
structure WL (f : Fnc) (r : Int) (i0 j0 : Int) (G : Prop) (ws : List (Int × Int)) (met : List Bool) (s : Nat) : Prop where
  hd : ws[0]? = some (i0, j0)
  ok : ∀ p ∈ ws, 0 ≤ p.1 ∧ 0 ≤ p.2 ∧ ∃ x, f.blocks[p.1.toNat]? = some x ∧ p.2.toNat ≤ x.body.length ∧ (PtP f x p.2.toNat p.1.toNat r → G)
  tl : ∀ t : Nat, met[t]? = some true → ((t : Int), (0 : Int)) ∈ ws
  cnt : ws.length ≤ 1 + met.count true
  done : ∀ (a : Nat) p, a < s → ws[a]? = some p → ∃ x, f.blocks[p.1.toNat]? = some x ∧ ¬ ExpB ⟨x.body.drop p.2.toNat, x.term⟩ r ∧ (DstIn (x.body.drop p.2.toNat) r ∨ ∀ t ∈ x.term.to, met[t.toNat]? = some true)
theorem WL.add {f : Fnc} {r i0 j0 : Int} {G : Prop} {ws : List (Int × Int)} {met : List Bool} {s : Nat} (w : WL f r i0 j0 G ws met s) (hs : s ≤ ws.length) {t : Int} (t0 : 0 ≤ t) (ht : met[t.toNat]? = some false) {x : Blk} (hx : f.blocks[t.toNat]? = some x) (hG : PtP f x 0 t.toNat r → G) : WL f r i0 j0 G (ws ++ [(t, 0)]) (met.set t.toNat true) s := by
  have hl : t.toNat < met.length := (List.getElem?_eq_some_iff.1 ht).1
  have mono : ∀ u : Nat, met[u]? = some true → (met.set t.toNat true)[u]? = some true := fun u hu => by
    rw [List.getElem?_set]
    split
    · rename_i he; simp [hl]
    · exact hu
  refine ⟨?_, fun p hp => ?_, fun u hu => ?_, ?_, fun a p ha hp => ?_⟩
  · rw [List.getElem?_append_left (by have := (List.getElem?_eq_some_iff.1 w.hd).1; exact this)]; exact w.hd
  · rcases List.mem_append.1 hp with hp | hp
    · exact w.ok p hp
    · simp at hp; subst hp
      exact ⟨t0, by simp, x, hx, by simp, hG⟩
  · rw [List.getElem?_set] at hu
    by_cases he : t.toNat = u
    · subst he; refine List.mem_append.2 (.inr ?_)
      rw [show ((t.toNat : Nat) : Int) = t by omega]; simp
    · rw [if_neg he] at hu; exact List.mem_append.2 (.inl (w.tl u hu))
  · have hc : (met.set t.toNat true).count true = met.count true + 1 := by
      have hg : met[t.toNat] = false := by rw [List.getElem?_eq_getElem hl] at ht; exact Option.some.inj ht
      rw [List.count_set hl, hg]; simp
    rw [hc]
    have := w.cnt
    simp; omega
  · have hal : a < ws.length := by omega
    rw [List.getElem?_append_left hal] at hp
    obtain ⟨x', h1, h2, h3⟩ := w.done a p ha hp
    exact ⟨x', h1, h2, h3.imp id fun h u hu => mono _ (h u hu)⟩
theorem WL.next {f : Fnc} {r i0 j0 : Int} {G : Prop} {ws : List (Int × Int)} {met : List Bool} {s : Nat} (w : WL f r i0 j0 G ws met s) {p : Int × Int} (hp : ws[s]? = some p) {x : Blk} (hx : f.blocks[p.1.toNat]? = some x) (h1 : ¬ ExpB ⟨x.body.drop p.2.toNat, x.term⟩ r) (h2 : DstIn (x.body.drop p.2.toNat) r ∨ ∀ t ∈ x.term.to, met[t.toNat]? = some true) : WL f r i0 j0 G ws met (s + 1) := by
  refine ⟨w.hd, w.ok, w.tl, w.cnt, fun a q ha hq => ?_⟩
  by_cases he : a = s
  · subst he; rw [hp] at hq; cases hq; exact ⟨x, hx, h1, h2⟩
  · exact w.done a q (by omega) hq
theorem WL.no {f : Fnc} (hb : BlksOk f) {r i0 j0 : Int} (r0 : 0 ≤ r) {x0 : Blk} (hx0 : f.blocks[i0.toNat]? = some x0) {ws : List (Int × Int)} {met : List Bool} {s : Nat} (w : WL f r i0 j0 (PtP f x0 j0.toNat i0.toNat r) ws met s) (hs : ws.length ≤ s) : ¬ PtP f x0 j0.toNat i0.toNat r := by
  have hr : ((r.toNat : Nat) : Int) = r := by omega
  have nl := not_live hb (r := r.toNat) (M := fun b => met[b]? = some true) (fun b x hm hx => by
    obtain ⟨a, ha, hp⟩ := List.mem_iff_getElem.1 (w.tl b hm)
    obtain ⟨x', h1, h2, h3⟩ := w.done a _ (by omega) (by rw [List.getElem?_eq_getElem ha, hp])
    simp only [Int.toNat_natCast, hx] at h1
    cases h1
    simp only [Int.toNat_zero, List.drop_zero] at h2 h3
    rw [hr]; exact ⟨h2, h3⟩)
  obtain ⟨x, h1, h2, h3⟩ := w.done 0 _ (by have := (List.getElem?_eq_some_iff.1 w.hd).1; omega) w.hd
  simp only at h1 h2 h3
  rw [hx0] at h1; cases h1
  rintro (h | ⟨hd, hl⟩)
  · exact h2 h
  · rcases h3 with h3 | h3
    · exact hd h3
    · obtain ⟨t, ht, hla⟩ := (LB_iff hb hx0).1 hl
      have hok := (hb x0 (List.mem_of_getElem? hx0)).2 t ht
      exact nl t.toNat (by omega) (h3 t ht) hla
end Go.Proofs.Try

/- has; wanted. -/
set_option maxRecDepth 100000
set_option linter.unusedVariables false
set_option linter.unusedSimpArgs false
open Go Go.Fw Go.Proofs
namespace Go.Proofs.Try

theorem c43 {h : H} {p : Option Addr} {n c : Nat} {l : List Int} {r : Int} (hl : IntsAt h p n l) (hz : (n : Int) < 9223372036854775807) {R : Value → H → Prop} (k : ∀ q, (q = true ↔ r ∈ l) → R (.bool q) h) : HC Tryd.prog 43 [.slice p n c, .int .i64 r] h R := by
  have hn := hl.len
  apply hc43; unfold sh43
  refine fwd n (fun v h' => h = h' ∧ ∀ y ∈ l.take v.toNat, y ≠ r) (by omega) ⟨rfl, by simp⟩ fun v h2 v0 v1 ⟨hh, hall⟩ => ?_
  subst hh
  refine ⟨fun hlt => ⟨v0, hlt, ?_⟩, fun hge => k _ ⟨fun h => by simp at h, fun h => ?_⟩⟩
  · obtain ⟨x, b, o, hx, hp, hc⟩ := hl.get v0 hlt
    refine onP_at hp ⟨x, hc, fun he => k _ ⟨fun _ => he ▸ List.mem_of_getElem? hx, fun _ => rfl⟩, fun hne => ⟨i64ok (by omega) (by omega), fwd_next v0 hlt ⟨rfl, ?_⟩⟩⟩
    rw [show (v + 1).toNat = v.toNat + 1 by omega, take_succ_all hx]
    exact ⟨hall, hne⟩
  · rw [show v.toNat = l.length by omega, List.take_length] at hall
    exact absurd rfl (hall r h)
theorem OwnB.get0 {h : H} {b : Nat} {l : List Bool} (w : OwnB h (some ⟨b, 0, none⟩) b l) {i : Int} (h1 : i.toNat < l.length) {K : Bool → Prop} (hk : ∀ x, l[i.toNat]? = some x → K x) : ∃ v, cell h ⟨b, 0 + i.toNat * 1, none⟩ = some (.bool v) ∧ K v :=
  OwnB.get (p := some ⟨b, 0, none⟩) w h1 hk
theorem OwnB.put0 {h : H} {b : Nat} {l : List Bool} (w : OwnB h (some ⟨b, 0, none⟩) b l) {i : Int} (h1 : i.toNat < l.length) {x' : Bool} {K : H → Prop} (hk : ∀ h', OwnB h' (some ⟨b, 0, none⟩) b (l.set i.toNat x') → Fw.Mod (fun c => c = b) h h' → K h') : stQ 1 h b (0 + i.toNat * 1) [.bool x'] K :=
  OwnB.put (p := some ⟨b, 0, none⟩) w h1 hk
abbrev pe : Int × Int → List Value := fun p => [.int .i64 p.1, .int .i64 p.2]
theorem pe2 (p : Int × Int) : (pe p).length = 2 := rfl
theorem drop_cons {α : Type} {l : List α} {i : Nat} {x : α} (hx : l[i]? = some x) : l.drop i = x :: l.drop (i + 1) := by
  obtain ⟨hi, rfl⟩ := List.getElem?_eq_some_iff.1 hx
  exact List.drop_eq_getElem_cons hi

set_option maxHeartbeats 2000000 in
theorem c44 {h : H} {f : Fnc} {fp : Option Addr} {fn fc : Nat} {fq : Option Addr} {fm fd : Nat} (hF : FncD h (fv f fp fn fc fq fm fd) f) (hb : BlksOk f) (hz : SzF f) (hs : SzR f) {i j r : Int} {x0 : Blk} (hx0 : f.blocks[i.toNat]? = some x0) (i0 : 0 ≤ i) (j0 : 0 ≤ j) (j1 : j.toNat ≤ x0.body.length) (r0 : 0 ≤ r) {R : Value → H → Prop}
    (k : ∀ q h', Ext h h' → (q = true ↔ PtP f x0 j.toNat i.toNat r) → R (.bool q) h') : HC Tryd.prog 44 [.agg ⟨fv f fp fn fc fq fm fd⟩, .agg ⟨[.int .i64 i, .int .i64 j]⟩, .int .i64 r] h R := by
  obtain ⟨_, _, _, _, _, _, he, hps, hpc, hbs, hbc⟩ := hF
  cases he
  have hbl := hbs.len
  have hnb := hs.nb
  apply hc44; unfold sh44; intro bf h1 hN1 bp h2 hN2
  have e1 := hN1.ext
  have e2 := e1.trans hN2.ext
  have b1 := hN1.blk
  have b2 := hN2.blk
  have s1 := hN1.size
  have s2 := hN2.size
  have gq : ∀ h', Ext h2 h' → cell h' ⟨bf, 0 + 4, none⟩ = some (.slice fq fm fd) := fun h' e => hN1.keep _ (hN2.ext.trans e) 4 _ rfl
  have gb : ∀ h', Ext h2 h' → RowAt BlkD 4 h' fq fm f.blocks := fun h' e => hbs.mono (e2.trans e) fun _ _ _ => BlkD.ext (e2.trans e)
  refine ⟨_, hN2.keep _ Ext.rfl' (0 + 0) _ rfl, _, hN2.keep _ Ext.rfl' (0 + 1) _ rfl, rfl, by omega, fun bw h3 hN3 => ⟨_, _, _, gq _ hN3.ext, by omega, by omega, by omega, fun bm h4 hN4 => ?_⟩⟩
  have b3 := hN3.blk
  have s3 := hN3.size
  have b4 := hN4.blk
  have s4 := hN4.size
  have wm0 : OwnB h4 (some ⟨bm, 0, none⟩) bm (List.replicate fm false) := Own.ofRep (g := fun b : Bool => Value.bool b) (x := false) hN4
  have W0 : WL f r i j (PtP f x0 j.toNat i.toNat r) [(i, j)] (List.replicate fm false) 0 := by
    refine ⟨rfl, fun p hp => ?_, fun t ht => ?_, ?_, fun a p ha => by omega⟩
    · simp at hp; subst hp; exact ⟨i0, j0, x0, hx0, j1, id⟩
    · rw [List.getElem?_replicate] at ht; split at ht <;> simp at ht
    · simp
  have Gr0 : Grow pe 2 h2 h4 (some ⟨bw, 0, none⟩) 1 1 [(i, j)] := ⟨rfl, Nat.le_refl _, fun _ => ⟨bw, 99, [], by omega, rfl, hN4.ext _ _ hN3.get, rfl⟩⟩
  refine ⟨fun p nn c v => (fun hh => 0 ≤ v ∧ v ≤ nn ∧ Ext h2 hh ∧ ∃ ws met, Grow pe 2 h2 hh p nn c ws ∧ OwnB hh (some ⟨bm, 0, none⟩) bm met ∧ met.length = fm ∧ bm < hh.size ∧ (¬ (AtP p bm ∧ 0 < c)) ∧ WL f r i j (PtP f x0 j.toNat i.toNat r) ws met v.toNat, fun _ => ((fm : Int) + 1 - v).toNat),
    ⟨by omega, by omega, hN3.ext.trans hN4.ext, _, _, Gr0, wm0, by simp, by omega, fun ⟨⟨o, ho⟩, _⟩ => by cases ho; omega, W0⟩, ?_⟩
  rintro wp wn wc v h5 ⟨v0, v1, e5, ws, met, G5, wm5, hml, hbm, hdis, W5⟩
  have hwl := G5.len
  have hcnt := W5.cnt
  have hcl : met.count true ≤ met.length := List.count_le_length
  refine ⟨fun hlt => ⟨v0, hlt, ?_⟩, fun hge => k false h5 (e2.trans e5) ⟨fun h => by simp at h, fun hP => absurd hP (W5.no hb r0 hx0 (by omega))⟩⟩
  obtain ⟨pt, hpt⟩ := get_ex hwl v0 hlt
  obtain ⟨p0, p1, x, hx, hxl, hup⟩ := W5.ok pt (List.mem_of_getElem? hpt)
  obtain ⟨bws, ows, hpw, hcw⟩ := (G5.sl pe2).at_ (by omega)
  have hc5 := hcw _ _ hpt
  have hpn : pt.1.toNat < f.blocks.length := (List.getElem?_eq_some_iff.1 hx).1
  obtain ⟨x', b6, o6, hx', hp6, _, ⟨bp', bn, bc, tq, tm, td, rfl, bbs, bbc, bts, btc⟩, hc6'⟩ := (gb _ Ext.rfl').get p0 (by omega)
  have hc6 := fun j v hj => e5.cell (hc6' j v hj)
  obtain rfl : x = x' := by rw [hx] at hx'; exact Option.some.inj hx'
  have hbdl := bbs.len
  have htl := bts.len
  have hzx := hz.2.2 x (List.mem_of_getElem? hx)
  have hzb : (bn : Int) < 9223372036854775807 := by rw [← hbdl]; exact hzx.1
  have hzt : (tm : Int) < 9223372036854775807 := by rw [← htl]; exact hzx.2.1
  refine onP_at hpw ⟨_, _, _, gq _ e5, _, hc5 0 _ rfl, p0, by omega, onP_at hp6 ⟨_, _, _, hc6 0 _ rfl, _, hc6 1 _ rfl, _, hc6 2 _ rfl, _, _, _, hc6 3 _ rfl, fun bb h6 hN6 => st_new hN6 rfl (by simp) rfl rfl fun h7 hb7 e57 => ⟨v0, hlt, onP_at hpw ⟨_, e57.cell (hc5 1 _ rfl), ?_⟩⟩⟩⟩
  have e7 := e5.trans e57
  have s5 := e5.size
  have s7 := e57.size
  have b6' := hN6.blk
  have l7 := lt_of hb7
  have bbs7 := bbs.mono e7 fun _ _ _ => InsD.ext e7
  have wm7 := wm5.ext e57
  have G7 := G5.ext e57
  have yes : ∀ h', Ext h7 h' → ExpB ⟨x.body.drop pt.2.toNat, x.term⟩ r → R (.bool true) h' := fun h' e hE => k _ _ ((e2.trans e7).trans e) ⟨fun _ => hup (.inl hE), fun _ => rfl⟩
  have cb : ∀ h', Ext h7 h' → ∀ o y, [Value.slice bp' bn bc, .int .i64 x.term.kind, .int .i64 x.term.value, .slice tq tm td][o]? = some y → cell h' ⟨bb, o, none⟩ = some y := fun h' e o y hy => e.cell (bcell hb7 hy)
  refine ⟨fun st kk => (fun hh => h7 = hh ∧ pt.2 ≤ kk ∧ kk ≤ bn ∧ (st = false → (ExpR (x.body.drop pt.2.toNat) r ↔ ExpR (x.body.drop kk.toNat) r) ∧ (DstIn (x.body.drop pt.2.toNat) r ↔ DstIn (x.body.drop kk.toNat) r)) ∧ (st = true → ¬ ExpR (x.body.drop pt.2.toNat) r ∧ DstIn (x.body.drop pt.2.toNat) r), fun _ => ((bn : Int) - kk).toNat),
    ⟨rfl, by omega, by omega, fun _ => ⟨Iff.rfl, Iff.rfl⟩, fun h => by simp at h⟩, ?_⟩
  rintro st kk _ ⟨rfl, k0, k1, hF1, hT1⟩
  have setnext : st = true → ∃ h : True, InR .i64 (v + 1) ∧ (0 ≤ v + 1 ∧ v + 1 ≤ wn ∧ Ext h2 h7 ∧ ∃ ws met, Grow pe 2 h2 h7 wp wn wc ws ∧ OwnB h7 (some ⟨bm, 0, none⟩) bm met ∧ met.length = fm ∧ bm < h7.size ∧ (¬ (AtP wp bm ∧ 0 < wc)) ∧ WL f r i j (PtP f x0 j.toNat i.toNat r) ws met (v + 1).toNat) ∧ ((fm : Int) + 1 - (v + 1)).toNat < ((fm : Int) + 1 - v).toNat := fun hst => by
    obtain ⟨t1, t2⟩ := hT1 hst
    refine ⟨trivial, i64ok (by omega) (by omega), ⟨by omega, by omega, e7, ws, met, G7, wm7, hml, by omega, hdis, ?_⟩, by omega⟩
    rw [show (v + 1).toNat = v.toNat + 1 by omega]
    refine W5.next hpt hx (fun hE => ?_) (.inl t2)
    rcases hE with hE | hE
    · exact t1 hE
    · exact hE.1 t2
  refine ⟨_, _, _, cb _ Ext.rfl' (0 + 0) _ rfl, fun hkl => ⟨fun hns => ?_, fun hns => ⟨fun hst => (setnext hst).2, fun hst => by simp [hst] at hns⟩⟩, fun hkg => ⟨fun hst => (setnext hst).2, fun hst => ?_⟩⟩
  · -- an instruction that is looked through
    have hstf : st = false := by simpa using hns
    obtain ⟨F1, F2⟩ := hF1 hstf
    obtain ⟨y, b8, o8, hy, hp8, _, ⟨ap, an, ac, rfl, aas, aac⟩, hc8⟩ := bbs7.get (by omega) hkl
    have hal := aas.len
    have hza : (an : Int) < 9223372036854775807 := by rw [← hal]; exact hzx.2.2 y (List.mem_of_getElem? hy)
    have hdr := drop_cons hy
    refine fwd an (fun jj hh => h7 = hh ∧ ∀ a ∈ y.args.take jj.toNat, a ≠ r) (by omega) ⟨rfl, by simp⟩ fun jj h9 jj0 jj1 ⟨hh9, hargs⟩ => ?_
    subst hh9
    refine ⟨_, _, _, cb _ Ext.rfl' (0 + 0) _ rfl, by omega, hkl, onP_at hp8 ⟨_, _, _, hc8 3 _ rfl, fun hjl => ?_, fun hjg => ?_⟩⟩
    · obtain ⟨a, b9, o9, ha, hp9, hc9⟩ := aas.get jj0 hjl
      refine ⟨_, _, _, cb _ Ext.rfl' (0 + 0) _ rfl, by omega, hkl, onP_at hp8 ⟨_, _, _, hc8 3 _ rfl, jj0, hjl, onP_at hp9 ⟨a, hc9, fun hae => yes _ Ext.rfl' (.inl (F1.2 ?_)), fun hne => ⟨i64ok (by omega) (by omega), fwd_next jj0 hjl ⟨rfl, ?_⟩⟩⟩⟩⟩
      · rw [hdr]; exact .inl (hae ▸ List.mem_of_getElem? ha)
      · rw [show (jj + 1).toNat = jj.toNat + 1 by omega, take_succ_all ha]; exact ⟨hargs, hne⟩
    · rw [show jj.toNat = y.args.length by omega, List.take_length] at hargs
      refine ⟨_, _, _, cb _ Ext.rfl' (0 + 0) _ rfl, by omega, hkl, onP_at hp8 ⟨_, hc8 1 _ rfl, i64ok (by omega) (by omega), ⟨rfl, by omega, by omega, fun hd => ?_, fun hd => ?_⟩, ?_⟩⟩
      · have hd' : ¬ y.dst = r := by simpa using hd
        rw [F1, F2, hdr, show (kk + 1).toNat = kk.toNat + 1 by omega, dstIn_cons]
        refine ⟨⟨fun hE => ?_, fun hE => .inr ⟨hd', hE⟩⟩, ⟨fun hE => hE.resolve_left hd', .inr⟩⟩
        rcases hE with hE | hE
        · exact absurd rfl (hargs r hE)
        · exact hE.2
      · have hd' : y.dst = r := by simpa using hd
        rw [F1, F2, hdr, dstIn_cons]
        refine ⟨fun hE => ?_, .inl hd'⟩
        rcases hE with hE | hE
        · exact absurd rfl (hargs r hE)
        · exact hE.1 hd'
      · show ((bn : Int) - (kk + 1)).toNat < ((bn : Int) - kk).toNat
        omega
  · -- the block's end
    obtain ⟨F1, F2⟩ := hF1 hst
    have hdn : x.body.drop kk.toNat = [] := List.drop_of_length_le (by omega)
    rw [hdn] at F1 F2
    have nE : ¬ ExpR (x.body.drop pt.2.toNat) r := fun h => F1.1 h
    have nD : ¬ DstIn (x.body.drop pt.2.toNat) r := fun h => by have := F2.1 h; unfold DstIn at this; simp at this
    refine ⟨_, cb _ Ext.rfl' ((0 + 1) + 1) _ rfl, fun hv => yes _ Ext.rfl' (.inr ⟨nD, hv⟩), fun hv => ?_⟩
    have nB : ¬ ExpB ⟨x.body.drop pt.2.toNat, x.term⟩ r := fun h => by
      rcases h with h | h
      · exact nE h
      · exact hv h.2
    have hz600 : (fm : Int) ≤ 600 := by omega
    refine ⟨fun p nn c t => (fun hh => 0 ≤ t ∧ t ≤ tm ∧ v < nn ∧ Fw.Mod (fun b => b = bm ∨ (AtP wp b ∧ 0 < wc)) h7 hh ∧ (∀ b, AtP p b ∧ 0 < c → (AtP wp b ∧ 0 < wc) ∨ h7.size ≤ b) ∧ ∃ ws met, Grow pe 2 h2 hh p nn c ws ∧ OwnB hh (some ⟨bm, 0, none⟩) bm met ∧ met.length = fm ∧ (¬ (AtP p bm ∧ 0 < c)) ∧ ws[v.toNat]? = some pt ∧ (∀ u ∈ x.term.to.take t.toNat, met[u.toNat]? = some true) ∧ WL f r i j (PtP f x0 j.toNat i.toNat r) ws met v.toNat, fun _ => ((tm : Int) - t).toNat),
      ⟨by omega, by omega, hlt, Mod.refl _ _, fun b hb => .inl hb, ws, met, G7, wm7, hml, hdis, hpt, by simp, W5⟩, ?_⟩
    rintro p nn c t h10 ⟨t0, t1, vlt, m10, hold, ws2, met2, G10, wm10, hml2, hdis2, hpt2, hto, W10⟩
    have hN2l : ∀ b, b = bm ∨ (AtP wp b ∧ 0 < wc) → h2.size ≤ b := fun b hb => by
      rcases hb with hb | hb
      · omega
      · exact (G5.lo hb.1 hb.2).1
    have e10 : Ext h2 h10 := m10.ext e7 fun b hb hx => by have := hN2l b hx; omega
    have s10 := m10.size
    have nbb : ¬ (bb = bm ∨ (AtP wp bb ∧ 0 < wc)) := fun hb => by
      rcases hb with hb | hb
      · omega
      · have := (G5.lo hb.1 hb.2).2; omega
    have cb2 : ∀ h', Fw.Mod (fun b => b = bm ∨ (AtP wp b ∧ 0 < wc)) h7 h' → cell h' ⟨bb, (0 + 1) + 2, none⟩ = some (.slice tq tm td) := fun h' m => m.cell (cb _ Ext.rfl' 3 _ rfl) nbb
    have hwl2 := G10.len
    have hcnt2 := W10.cnt
    have hcl2 : met2.count true ≤ met2.length := List.count_le_length
    refine ⟨_, _, _, cb2 _ m10, fun htl' => ?_, fun htg => ?_⟩
    · obtain ⟨u, b11, o11, hu, hp11, hc11⟩ := bts.get t0 htl'
      have hub := (hb x (List.mem_of_getElem? hx)).2 u (List.mem_of_getElem? hu)
      obtain ⟨y, hy⟩ : ∃ y, f.blocks[u.toNat]? = some y := ⟨f.blocks[u.toNat]'(by omega), by simp⟩
      refine ⟨_, _, _, cb2 _ m10, t0, htl', onP_at hp11 ⟨u, e10.cell hc11, hub.1, by omega, OwnB.get0 wm10 (by omega) fun mv hmv => ⟨fun hf => ?_, fun htr => ?_⟩⟩⟩
      · have hmf : met2[u.toNat]? = some false := by
          have : mv = false := by simpa using hf
          rw [← this]; exact hmv
        refine ⟨_, _, _, cb2 _ m10, t0, htl', onP_at hp11 ⟨u, e10.cell hc11, hub.1, by omega, OwnB.put0 wm10 (by omega) fun h11 wm11 m11 => ?_⟩⟩
        have m711 := m10.seq m11 (T := fun b => b = bm ∨ (AtP wp b ∧ 0 < wc)) (fun b _ h => h) (fun b _ h => .inl h)
        have e11 : Ext h2 h11 := m711.ext e7 fun b hb hx => by have := hN2l b hx; omega
        refine ⟨_, _, _, cb2 _ m711, t0, htl', onP_at hp11 ⟨u, e11.cell hc11, rfl, by omega, rfl, by omega, rfl, by omega, fun bv h12 hN12 => ?_⟩⟩
        have s11 := m11.size
        have s12 := hN12.size
        have G12 : Grow pe 2 h2 h12 p nn c ws2 := (G10.mod m11 fun b hb hc he => hdis2 ⟨he ▸ hb, hc⟩).ext hN12.ext
        refine Grow.put2 pe2 (v := (u, 0)) G12 (by have := e11.size; omega) rfl (rdc_new hN12 rfl) rfl (by omega) (fun _ => False) fun p' c' h13 G13 m13 _ L13 => ⟨i64ok (by omega) (by omega), ⟨by omega, by omega, by omega, ?_, fun b hb => ?_, ws2 ++ [(u, 0)], met2.set u.toNat true, G13, ?_, by simpa using hml2, fun hb => ?_, ?_, fun w hw => ?_, ?_⟩, ?_⟩
        · exact (m711.seqE hN12.ext).seq m13 (fun b _ h => h) fun b hb h => by
            rcases hold b h with h | h
            · exact .inr h
            · omega
        · rcases L13 b hb.1 with h | h
          · exact hold b h
          · right; omega
        · exact (wm11.ext hN12.ext).mod m13 hdis2
        · rcases L13 bm hb.1 with h | h
          · exact hdis2 h
          · omega
        · rw [List.getElem?_append_left (by have := (List.getElem?_eq_some_iff.1 hpt2).1; exact this)]; exact hpt2
        · rw [show (t + 1).toNat = t.toNat + 1 by omega, List.take_add_one, hu] at hw
          rw [List.getElem?_set]
          split
          · rw [if_pos (by omega)]
          · rename_i hne
            rcases List.mem_append.1 hw with hw | hw
            · exact hto w hw
            · simp at hw; subst hw; exact absurd rfl hne
        · refine W10.add (by omega) hub.1 hmf hy fun hP => hup (.inr ⟨nD, ?_⟩)
          have hr : ((r.toNat : Nat) : Int) = r := by omega
          exact LB_of hx (List.mem_of_getElem? hu) ((LA_iff hb hy).2 (by rw [hr]; exact hP))
        · show ((tm : Int) - (t + 1)).toNat < ((tm : Int) - t).toNat
          omega
      · have hmt : met2[u.toNat]? = some true := by
          have : mv = true := by simpa using htr
          rw [← this]; exact hmv
        refine ⟨i64ok (by omega) (by omega), ⟨by omega, by omega, vlt, m10, hold, ws2, met2, G10, wm10, hml2, hdis2, hpt2, ?_, W10⟩, ?_⟩
        · rw [show (t + 1).toNat = t.toNat + 1 by omega, take_succ_all hu]; exact ⟨hto, hmt⟩
        · show ((tm : Int) - (t + 1)).toNat < ((tm : Int) - t).toNat
          omega
    · rw [show t.toNat = x.term.to.length by omega, List.take_length] at hto
      refine ⟨i64ok (by omega) (by omega), ⟨by omega, by omega, e10, ws2, met2, G10, wm10, hml2, by omega, hdis2, ?_⟩, ?_⟩
      · rw [show (v + 1).toNat = v.toNat + 1 by omega]
        exact W10.next hpt2 hx nB (.inr hto)
      · show ((fm : Int) + 1 - (v + 1)).toNat < ((fm : Int) + 1 - v).toNat
        omega
end Go.Proofs.Try

/- Places: where a register is wanted or set, and what intervals tell of it. -/
set_option maxRecDepth 100000
set_option linter.unusedVariables false
set_option linter.unusedSimpArgs false
open Go Go.Fw Go.Proofs
namespace Go.Proofs.Try

def BehP (f : Fnc) (x : Blk) (j b : Nat) (r : Int) : Prop := (∃ y, x.body[j]? = some y ∧ (y.dst = r ∨ PtP f x (j + 1) b r)) ∨ (j = x.body.length ∧ LB f b r.toNat)
/-- The places of the first n points of a block. -/
def FlP (f : Fnc) (x : Blk) (b : Nat) (r K : Int) (n : Nat) (p : Int) : Prop := ∃ j : Nat, j < n ∧ ((p = 2 * (K + j + 1) ∧ PtP f x j b r) ∨ (p = 2 * (K + j + 1) + 1 ∧ BehP f x j b r))
def FlL (f : Fnc) (r : Int) : Int → List Int → Int → Prop
  | _, [], _ => False
  | K, b :: bs, p => FlP f (blkAt f b) b.toNat r K ((blkAt f b).body.length + 1) p ∨ FlL f r (K + (((blkAt f b).body.length : Int) + 1)) bs p
def FlT (f : Fnc) (r : Int) (line : List Int) (p : Int) : Prop := (p = 0 ∧ r ∈ f.params) ∨ FlL f r 0 line p
theorem FlP_succ {f : Fnc} {x : Blk} {b : Nat} {r K : Int} {n : Nat} {p : Int} : FlP f x b r K (n + 1) p ↔ (FlP f x b r K n p ∨ (PtP f x n b r ∧ p = 2 * (K + n + 1))) ∨ (BehP f x n b r ∧ p = 2 * (K + n + 1) + 1) := by
  unfold FlP
  constructor
  · rintro ⟨j, hj, h⟩
    by_cases he : j = n
    · subst he
      rcases h with h | h
      · exact .inl (.inr ⟨h.2, h.1⟩)
      · exact .inr ⟨h.2, h.1⟩
    · exact .inl (.inl ⟨j, by omega, h⟩)
  · rintro ((⟨j, hj, h⟩ | h) | h)
    · exact ⟨j, by omega, h⟩
    · exact ⟨n, by omega, .inl ⟨h.2, h.1⟩⟩
    · exact ⟨n, by omega, .inr ⟨h.2, h.1⟩⟩
theorem FlP_bd {f : Fnc} {x : Blk} {b : Nat} {r K : Int} {n : Nat} {p : Int} (h : FlP f x b r K n p) : 2 * (K + 1) ≤ p ∧ p ≤ 2 * (K + n) + 1 := by
  obtain ⟨j, hj, h | h⟩ := h <;> omega
theorem FlL_append {f : Fnc} {r p : Int} : ∀ (K : Int) (l m : List Int), FlL f r K (l ++ m) p ↔ FlL f r K l p ∨ FlL f r (lineK f K l) m p
  | K, [], m => by simp [FlL, lineK]
  | K, b :: l, m => by simp only [List.cons_append, FlL, lineK, FlL_append _ l m, or_assoc]
theorem FlL_bd {f : Fnc} {r p : Int} : ∀ (K : Int) (l : List Int), FlL f r K l p → 2 * (K + 1) ≤ p ∧ p ≤ 2 * lineK f K l + 1
  | K, [], h => h.elim
  | K, b :: l, h => by
    have h1 : K + (((blkAt f b).body.length : Int) + 1) ≤ lineK f (K + (((blkAt f b).body.length : Int) + 1)) l := lineK_ge _ _
    rcases h with h | h
    · have := FlP_bd h
      simp only [lineK]; omega
    · have := FlL_bd _ l h
      simp only [lineK]; omega
 where
  lineK_ge {f : Fnc} : ∀ (K : Int) (l : List Int), K ≤ lineK f K l
    | K, [] => Int.le_refl _
    | K, b :: l => Int.le_trans (by omega) (lineK_ge (K + (((blkAt f b).body.length : Int) + 1)) l)
theorem FlT_bd {f : Fnc} {r p : Int} {l : List Int} (h : FlT f r l p) : 0 ≤ p ∧ p ≤ 2 * lineK f 0 l + 1 := by
  have h0 : 0 ≤ lineK f 0 l := FlL_bd.lineK_ge 0 l
  rcases h with h | h
  · omega
  · have := FlL_bd _ _ h; omega
theorem FlT_take {f : Fnc} {r p : Int} {l : List Int} {v : Nat} {b : Int} (hb : l[v]? = some b) : FlT f r (l.take (v + 1)) p ↔ FlT f r (l.take v) p ∨ FlP f (blkAt f b) b.toNat r (lineK f 0 (l.take v)) ((blkAt f b).body.length + 1) p := by
  unfold FlT
  rw [List.take_add_one, hb, Option.toList_some, FlL_append]
  simp only [FlL, or_false, or_assoc]
theorem ivl_step {S : Int → Prop} {x : Itv} (h : Ivl S x) {c : Prop} [Decidable c] {q : Int} (hq : ∀ p, S p → 0 ≤ p ∧ p < q) (q0 : 0 ≤ q) : Ivl (fun p => S p ∨ (c ∧ p = q)) ⟨x.reg, if c ∧ x.frm < 0 then q else x.frm, if c then q else x.to⟩ := by
  unfold Ivl at *
  by_cases hc : c
  · right
    rcases h with ⟨h1, h2, h3⟩ | ⟨h1, h2, h3⟩
    · simp only [hc, h1, true_and, if_true]
      rw [if_pos (by omega)]
      refine ⟨.inr (by simp), .inr (by simp), fun p hp => ?_⟩
      rcases hp with hp | hp
      · exact absurd hp (h3 p)
      · omega
    · have := hq _ h1
      simp only [hc, true_and, if_true]
      rw [if_neg (by omega)]
      refine ⟨.inl h1, .inr (by simp), fun p hp => ?_⟩
      rcases hp with hp | hp
      · have := h3 p hp; have := hq p hp; omega
      · omega
  · simp only [hc, false_and, if_false, or_false]
    exact h
theorem Ivl.cong {S T : Int → Prop} {x : Itv} (h : Ivl S x) (e : ∀ p, S p ↔ T p) : Ivl T x := by
  have : S = T := funext fun p => propext (e p)
  rw [← this]; exact h
theorem ivl_same {E F : Int → Prop} {x y : Itv} (hEF : ∀ p, E p → F p) (hb : ∀ p, F p → ∃ a b, E a ∧ E b ∧ a ≤ p ∧ p ≤ b) (hx : Ivl F x) (hy : Ivl E y) : x.frm = y.frm ∧ x.to = y.to := by
  rcases hx with ⟨h1, h2, h3⟩ | ⟨h1, h2, h3⟩ <;> rcases hy with ⟨g1, g2, g3⟩ | ⟨g1, g2, g3⟩
  · exact ⟨h1.trans g1.symm, h2.trans g2.symm⟩
  · exact absurd (hEF _ g1) (h3 _)
  · obtain ⟨a, b, ha, _⟩ := hb _ h1
    exact absurd ha (g3 _)
  · obtain ⟨a, b, ha, hb1, l1, l2⟩ := hb _ h1
    obtain ⟨a', b', ha', hb', l3, l4⟩ := hb _ h2
    have := h3 _ (hEF _ g1)
    have := h3 _ (hEF _ g2)
    have := g3 _ ha
    have := g3 _ hb'
    omega

/-! ### Events, and the places between them -/
theorem expR_append {r : Int} : ∀ {l m : List Ins}, ExpR (l ++ m) r ↔ ExpR l r ∨ (¬ DstIn l r ∧ ExpR m r)
  | [], m => by simp [ExpR, DstIn]
  | y :: l, m => by
    simp only [List.cons_append, ExpR, expR_append (l := l), dstIn_cons]
    by_cases h1 : y.dst = r <;> by_cases h2 : r ∈ y.args <;> simp [h1, h2]
theorem dstIn_append {r : Int} {l m : List Ins} : DstIn (l ++ m) r ↔ DstIn l r ∨ DstIn m r := by
  unfold DstIn; simp only [List.mem_append]
  constructor
  · rintro ⟨y, hy | hy, e⟩
    · exact .inl ⟨y, hy, e⟩
    · exact .inr ⟨y, hy, e⟩
  · rintro (⟨y, hy, e⟩ | ⟨y, hy, e⟩)
    · exact ⟨y, .inl hy, e⟩
    · exact ⟨y, .inr hy, e⟩
theorem pt_back {f : Fnc} {x : Blk} {j b : Nat} {r : Int} (hd : ¬ DstIn (x.body.take j) r) (h : PtP f x j b r) : PtP f x 0 b r := by
  have e : x.body = x.body.take j ++ x.body.drop j := (List.take_append_drop j x.body).symm
  unfold PtP ExpB at *
  simp only [List.drop_zero]
  rw [e, expR_append, dstIn_append]
  rcases h with (h | ⟨h1, h2⟩) | ⟨h1, h2⟩
  · exact .inl (.inl (.inr ⟨hd, h⟩))
  · exact .inl (.inr ⟨fun h => h.elim hd h1, h2⟩)
  · exact .inr ⟨fun h => h.elim hd h1, h2⟩
theorem expR_get {r : Int} : ∀ {l : List Ins}, ExpR l r → ∃ (j : Nat) (y : Ins), l[j]? = some y ∧ r ∈ y.args
  | [], h => h.elim
  | y :: l, h => by
    rcases h with h | ⟨_, h⟩
    · exact ⟨0, y, rfl, h⟩
    · obtain ⟨j, z, h1, h2⟩ := expR_get h
      exact ⟨j + 1, z, by simpa using h1, h2⟩
theorem bodyEv_iff {r p : Int} : ∀ {l : List Ins} {K : Int}, (r, p) ∈ bodyEv K l ↔ ∃ (j : Nat) (y : Ins), l[j]? = some y ∧ ((r ∈ y.args ∧ p = 2 * (K + j + 1)) ∨ (y.dst = r ∧ 0 ≤ r ∧ p = 2 * (K + j + 1) + 1))
  | [], K => by simp [bodyEv]
  | y :: l, K => by
    have hi : (r, p) ∈ insEv K y ↔ ((r ∈ y.args ∧ p = 2 * (K + 1)) ∨ (y.dst = r ∧ 0 ≤ r ∧ p = 2 * (K + 1) + 1)) := by
      unfold insEv
      rw [List.mem_append, List.mem_map]
      constructor
      · rintro (⟨a, ha, he⟩ | h)
        · cases he; exact .inl ⟨ha, rfl⟩
        · split at h
          · simp at h; exact .inr ⟨h.1.symm, by omega, h.2⟩
          · simp at h
      · rintro (⟨h1, rfl⟩ | ⟨h1, h2, rfl⟩)
        · exact .inl ⟨r, h1, rfl⟩
        · right; rw [if_pos (by omega)]; simp [h1]
    simp only [bodyEv, List.mem_append, hi, bodyEv_iff (l := l)]
    constructor
    · rintro (h | ⟨j, z, h1, h2⟩)
      · exact ⟨0, y, rfl, by simpa using h⟩
      · refine ⟨j + 1, z, by simpa using h1, ?_⟩
        rw [show K + ((j + 1 : Nat) : Int) + 1 = K + 1 + j + 1 by omega]; exact h2
    · rintro ⟨j, z, h1, h2⟩
      cases j with
      | zero => simp at h1; subst h1; exact .inl (by simpa using h2)
      | succ j =>
        refine .inr ⟨j, z, by simpa using h1, ?_⟩
        rw [show K + ((j + 1 : Nat) : Int) + 1 = K + 1 + j + 1 by omega] at h2; exact h2
/-- What the events of a block are, for one register. -/
def EvB (f : Fnc) (x : Blk) (b : Nat) (r K : Int) (p : Int) : Prop :=
  (LA f b r.toNat ∧ p = 2 * (K + 1)) ∨ (LB f b r.toNat ∧ p = 2 * (K + x.body.length + 1) + 1) ∨
  (∃ (j : Nat) (y : Ins), x.body[j]? = some y ∧ ((r ∈ y.args ∧ p = 2 * (K + j + 1)) ∨ (y.dst = r ∧ 0 ≤ r ∧ p = 2 * (K + j + 1) + 1))) ∨ (x.term.value = r ∧ p = 2 * (K + x.body.length + 1))
theorem blkEv_iff {f : Fnc} {A B : Nat → List Bool} (hf : Fin f A B) {x : Blk} {b : Nat} (hbl : b < f.blocks.length) {r K p : Int} (r0 : 0 ≤ r) (r1 : r < f.regs) : (r, p) ∈ blkEv (A b) (B b) K x f.regs.toNat ↔ EvB f x b r K p := by
  unfold blkEv EvB
  rw [List.mem_append, List.mem_append, bodyEv_iff, or_assoc]
  have hrow : (r, p) ∈ (List.range f.regs.toNat).flatMap (rowEv (A b) (B b) K x.body.length) ↔ (LA f b r.toNat ∧ p = 2 * (K + 1)) ∨ (LB f b r.toNat ∧ p = 2 * (K + x.body.length + 1) + 1) := by
    rw [List.mem_flatMap]
    have ha := hf.a b hbl r.toNat
    have hb := hf.b b hbl r.toNat
    unfold bit at ha hb
    constructor
    · rintro ⟨q, hq, he⟩
      unfold rowEv at he
      rcases List.mem_append.1 he with he | he
      · split at he
        · rename_i hA
          simp at he
          have : q = r.toNat := by omega
          subst this; exact .inl ⟨ha.1 hA, he.2⟩
        · simp at he
      · split at he
        · rename_i hB
          simp at he
          have : q = r.toNat := by omega
          subst this; exact .inr ⟨hb.1 hB, he.2⟩
        · simp at he
    · intro h
      refine ⟨r.toNat, List.mem_range.2 (by omega), ?_⟩
      unfold rowEv
      rw [List.mem_append]
      rcases h with ⟨h1, rfl⟩ | ⟨h1, rfl⟩
      · left; rw [if_pos (ha.2 h1)]; simp; omega
      · right; rw [if_pos (hb.2 h1)]; simp; omega
  rw [hrow, or_assoc]
  have ht : (r, p) ∈ termEv (K + x.body.length) x.term.value ↔ (x.term.value = r ∧ p = 2 * (K + x.body.length + 1)) := by
    unfold termEv
    constructor
    · intro h
      split at h
      · simp at h; exact ⟨h.1.symm, h.2⟩
      · simp at h
    · rintro ⟨h1, rfl⟩; rw [if_pos (by omega)]; simp [h1]
  rw [ht]
theorem ev_fl {f : Fnc} (hb : BlksOk f) {x : Blk} {b : Nat} (hx : f.blocks[b]? = some x) {r K p : Int} (r0 : 0 ≤ r) (h : EvB f x b r K p) : FlP f x b r K (x.body.length + 1) p := by
  have hr : ((r.toNat : Nat) : Int) = r := by omega
  rcases h with ⟨h, rfl⟩ | ⟨h, rfl⟩ | ⟨j, y, hj, ⟨h, rfl⟩ | ⟨h, _, rfl⟩⟩ | ⟨h, rfl⟩
  · refine ⟨0, by omega, .inl ⟨by simp, ?_⟩⟩
    have := (LA_iff hb hx).1 h
    rw [hr] at this; exact this
  · exact ⟨x.body.length, by omega, .inr ⟨rfl, .inr ⟨rfl, h⟩⟩⟩
  · have hjl := (List.getElem?_eq_some_iff.1 hj).1
    refine ⟨j, by omega, .inl ⟨rfl, .inl (.inl ?_)⟩⟩
    show ExpR (x.body.drop j) r
    obtain ⟨hi, rfl⟩ := List.getElem?_eq_some_iff.1 hj
    rw [List.drop_eq_getElem_cons hi]; exact .inl h
  · have hjl := (List.getElem?_eq_some_iff.1 hj).1
    exact ⟨j, by omega, .inr ⟨rfl, .inl ⟨y, hj, .inl h⟩⟩⟩
  · refine ⟨x.body.length, by omega, .inl ⟨rfl, .inl (.inr ⟨?_, h⟩)⟩⟩
    show ¬ DstIn (x.body.drop x.body.length) r
    rw [List.drop_length]; unfold DstIn; simp
theorem pt_lo {f : Fnc} (hb : BlksOk f) {x : Blk} {b : Nat} (hx : f.blocks[b]? = some x) {r K : Int} (r0 : 0 ≤ r) {j : Nat} (h : PtP f x j b r) : ∃ a, EvB f x b r K a ∧ (a ≤ 2 * (K + j) + 1 ∨ a = 2 * (K + 1)) := by
  have hr : ((r.toNat : Nat) : Int) = r := by omega
  by_cases hd : DstIn (x.body.take j) r
  · obtain ⟨y, hy, he⟩ := hd
    obtain ⟨i, hi, rfl⟩ := List.mem_iff_getElem.1 hy
    have hij : i < j := by simp at hi; omega
    refine ⟨_, .inr (.inr (.inl ⟨i, _, ?_, .inr ⟨he, r0, rfl⟩⟩)), .inl (by omega)⟩
    simp at hi
    simp [hi]
  · have := pt_back hd h
    exact ⟨_, .inl ⟨(LA_iff hb hx).2 (by rw [hr]; exact this), rfl⟩, .inr rfl⟩
theorem pt_hi {f : Fnc} {x : Blk} {b : Nat} {r K : Int} {j : Nat} (hj : j ≤ x.body.length) (h : PtP f x j b r) : ∃ a, EvB f x b r K a ∧ 2 * (K + j + 1) ≤ a := by
  rcases h with (h | ⟨h1, h2⟩) | ⟨h1, h2⟩
  · obtain ⟨i, y, hy, ha⟩ := expR_get h
    simp only [List.getElem?_drop] at hy
    exact ⟨_, .inr (.inr (.inl ⟨j + i, y, hy, .inl ⟨ha, rfl⟩⟩)), by omega⟩
  · exact ⟨_, .inr (.inr (.inr ⟨h2, rfl⟩)), by omega⟩
  · exact ⟨_, .inr (.inl ⟨h2, rfl⟩), by omega⟩
theorem fl_ev {f : Fnc} (hb : BlksOk f) {x : Blk} {b : Nat} (hx : f.blocks[b]? = some x) {r K p : Int} (r0 : 0 ≤ r) (h : FlP f x b r K (x.body.length + 1) p) : ∃ a c, EvB f x b r K a ∧ EvB f x b r K c ∧ a ≤ p ∧ p ≤ c := by
  obtain ⟨j, hj, ⟨rfl, h⟩ | ⟨rfl, h⟩⟩ := h
  · obtain ⟨a, ha, la⟩ := pt_lo hb hx (K := K) r0 h
    obtain ⟨c, hc, lc⟩ := pt_hi (K := K) (by omega) h
    exact ⟨a, c, ha, hc, by omega, lc⟩
  · rcases h with ⟨y, hy, h | h⟩ | ⟨rfl, h⟩
    · have : EvB f x b r K (2 * (K + j + 1) + 1) := .inr (.inr (.inl ⟨j, y, hy, .inr ⟨h, r0, rfl⟩⟩))
      exact ⟨_, _, this, this, Int.le_refl _, Int.le_refl _⟩
    · have hjl := (List.getElem?_eq_some_iff.1 hy).1
      obtain ⟨a, ha, la⟩ := pt_lo hb hx (K := K) r0 h
      obtain ⟨c, hc, lc⟩ := pt_hi (K := K) (by omega) h
      exact ⟨a, c, ha, hc, by omega, by omega⟩
    · have : EvB f x b r K (2 * (K + x.body.length + 1) + 1) := .inr (.inl ⟨h, rfl⟩)
      exact ⟨_, _, this, this, Int.le_refl _, Int.le_refl _⟩
theorem lineEv_fl {f : Fnc} (hb : BlksOk f) {A B : Nat → List Bool} (hf : Fin f A B) {r : Int} (r0 : 0 ≤ r) (r1 : r < f.regs) : ∀ (line : List Int) (K : Int), (∀ b ∈ line, 0 ≤ b ∧ b < f.blocks.length) →
    (∀ p, (r, p) ∈ lineEv f A B f.regs.toNat K line → FlL f r K line p) ∧ (∀ p, FlL f r K line p → ∃ a c, (r, a) ∈ lineEv f A B f.regs.toNat K line ∧ (r, c) ∈ lineEv f A B f.regs.toNat K line ∧ a ≤ p ∧ p ≤ c)
  | [], K, _ => ⟨fun p h => by simp [lineEv] at h, fun p h => h.elim⟩
  | b :: bs, K, h => by
    obtain ⟨b0, b1⟩ := h b (by simp)
    obtain ⟨i1, i2⟩ := lineEv_fl hb hf r0 r1 bs (K + (((blkAt f b).body.length : Int) + 1)) fun c hc => h c (by simp [hc])
    have hx : f.blocks[b.toNat]? = some (blkAt f b) := by
      unfold blkAt
      rw [List.getElem?_eq_getElem (by omega)]; rfl
    have he := fun p => blkEv_iff hf (x := blkAt f b) (b := b.toNat) (by omega) (K := K) (p := p) r0 r1
    refine ⟨fun p hp => ?_, fun p hp => ?_⟩
    · rcases List.mem_append.1 hp with hp | hp
      · exact .inl (ev_fl hb hx r0 ((he p).1 hp))
      · exact .inr (i1 p hp)
    · rcases hp with hp | hp
      · obtain ⟨a, c, ha, hc, l1, l2⟩ := fl_ev hb hx r0 hp
        exact ⟨a, c, List.mem_append.2 (.inl ((he a).2 ha)), List.mem_append.2 (.inl ((he c).2 hc)), l1, l2⟩
      · obtain ⟨a, c, ha, hc, l1, l2⟩ := i2 p hp
        exact ⟨a, c, List.mem_append.2 (.inr ha), List.mem_append.2 (.inr hc), l1, l2⟩
/-- Of each register places tells what its interval tells. -/
theorem places_eq {f : Fnc} (hb : BlksOk f) {A B : Nat → List Bool} (hf : Fin f A B) {r : Int} (r0 : 0 ≤ r) (r1 : r < f.regs) {line : List Int} (hl : ∀ b ∈ line, 0 ≤ b ∧ b < f.blocks.length) {x y : Itv} (hx : Ivl (FlT f r line) x) (hy : Ivl (fun p => (r, p) ∈ allEv f A B line) y) : x.frm = y.frm ∧ x.to = y.to := by
  obtain ⟨i1, i2⟩ := lineEv_fl hb hf r0 r1 line 0 hl
  have hp : ∀ p, (r, p) ∈ parEv f ↔ p = 0 ∧ r ∈ f.params := fun p => by
    unfold parEv
    rw [List.mem_map]
    constructor
    · rintro ⟨a, ha, e⟩; cases e; exact ⟨rfl, ha⟩
    · rintro ⟨rfl, h⟩; exact ⟨r, h, rfl⟩
  refine ivl_same (fun p h => ?_) (fun p h => ?_) hx hy
  · rcases List.mem_append.1 h with h | h
    · exact .inl ((hp p).1 h)
    · exact .inr (i1 p h)
  · rcases h with h | h
    · exact ⟨p, p, List.mem_append.2 (.inl ((hp p).2 h)), List.mem_append.2 (.inl ((hp p).2 h)), Int.le_refl _, Int.le_refl _⟩
    · obtain ⟨a, c, ha, hc, l1, l2⟩ := i2 p h
      exact ⟨a, c, List.mem_append.2 (.inr ha), List.mem_append.2 (.inr hc), l1, l2⟩
end Go.Proofs.Try

/- places: of a register the least and the greatest place. -/
set_option maxRecDepth 100000
set_option linter.unusedVariables false
set_option linter.unusedSimpArgs false
open Go Go.Fw Go.Proofs
namespace Go.Proofs.Try

set_option maxHeartbeats 4000000 in
theorem c16 {h : H} {f : Fnc} {fp : Option Addr} {fn fc : Nat} {fq : Option Addr} {fm fd : Nat} (hF : FncD h (fv f fp fn fc fq fm fd) f) (hb : BlksOk f) (hz : SzF f) (hs : SzR f) {lp : Option Addr} {lm lc : Nat} {line : List Int} (hl : IntsAt h lp lm line) (hlb : ∀ b ∈ line, 0 ≤ b ∧ b < f.blocks.length) (hlm : lm ≤ 600)
    {r : Int} (r0 : 0 ≤ r) {R : Value → H → Prop} (k : ∀ fr to h', Ext h h' → Ivl (FlT f r line) ⟨r, fr, to⟩ → R (.tuple ⟨[.int .i64 fr, .int .i64 to]⟩) h') : HC Tryd.prog 16 [.agg ⟨fv f fp fn fc fq fm fd⟩, .slice lp lm lc, .int .i64 r] h R := by
  have hF0 := hF
  obtain ⟨_, _, _, _, _, _, he, hps, hpc, hbs, hbc⟩ := hF
  cases he
  have hbl := hbs.len
  have hpl := hps.len
  have hll := hl.len
  have hnb := hs.nb
  apply hc16; unfold sh16; intro bf h1 hN1
  have e1 := hN1.ext
  have g : ∀ h', Ext h1 h' → ∀ j y, (fv f fp fn fc fq fm fd)[j]? = some y → cell h' ⟨bf, 0 + j, none⟩ = some y := fun h' e j y hj => hN1.keep _ e _ _ (by rw [Nat.zero_add]; exact hj)
  refine ⟨fun fr to hh => h1 = hh ∧ Ivl (FlT f r []) ⟨r, fr, to⟩, ⟨_, _, _, g _ Ext.rfl' 1 _ rfl, c43 (hps.ext e1) (by have := hz.1; unfold SzI at this; omega) fun q hq => ⟨q, rfl, fun ht => ⟨rfl, ?_⟩, fun hf => ⟨rfl, ?_⟩⟩⟩, ?_⟩
  · exact .inr ⟨.inl ⟨rfl, hq.1 ht⟩, .inl ⟨rfl, hq.1 ht⟩, fun p hp => by rcases hp with hp | hp; exact ⟨by show (0 : Int) ≤ p; omega, by show p ≤ (0 : Int); omega⟩; exact hp.elim⟩
  · exact .inl ⟨rfl, rfl, fun p hp => by
      rcases hp with hp | hp
      · have := hq.2 hp.2; rw [this] at hf; simp at hf
      · exact hp.elim⟩
  rintro fr0 to0 _ ⟨rfl, hI0⟩
  refine ⟨fun fr to kk v => (fun hh => 0 ≤ v ∧ v ≤ lm ∧ Ext h1 hh ∧ kk = lineK f 0 (line.take v.toNat) ∧ Ivl (FlT f r (line.take v.toNat)) ⟨r, fr, to⟩, fun _ => ((lm : Int) - v).toNat), ⟨by omega, by omega, Ext.rfl', rfl, hI0⟩, ?_⟩
  rintro fr to kk v h4 ⟨v0, v1, e4, hkk, hI⟩
  have e04 := e1.trans e4
  have hKb := lineK_le hs (line.take v.toNat) 0
  have htl : (line.take v.toNat).length ≤ 600 := by rw [List.length_take]; omega
  refine ⟨fun vlt => ⟨v0, vlt, ?_⟩, fun vge => ?_⟩
  · obtain ⟨b, b5, o5, hbv, hp5, hc5⟩ := hl.get v0 vlt
    have hbr := hlb b (List.mem_of_getElem? hbv)
    obtain ⟨x, b6, o6, hx, hp6, _, ⟨bp, bn, bc, tq, tm, td, rfl, bbs, bbc, bts, btc⟩, hc6⟩ := hbs.get hbr.1 (by omega)
    have hxat : blkAt f b = x := by unfold blkAt; rw [hx]; rfl
    have hbdl := bbs.len
    have htol := bts.len
    have hzx := hz.2.2 x (List.mem_of_getElem? hx)
    have hbx := hs.bd x (List.mem_of_getElem? hx)
    refine onP_at hp5 ⟨_, _, _, g _ e4 4 _ rfl, b, e04.cell hc5, hbr.1, by omega, onP_at hp6 ⟨_, _, _, e04.cell (hc6 0 _ rfl), _, e04.cell (hc6 1 _ rfl), _, e04.cell (hc6 2 _ rfl), _, _, _, e04.cell (hc6 3 _ rfl), fun bb h5 hN5 => st_new hN5 rfl (by simp) rfl rfl fun h6 hb6 e46 => ?_⟩⟩
    have e06 := e04.trans e46
    have e16 := e4.trans e46
    have cb : ∀ h', Ext h6 h' → ∀ o y, [Value.slice bp bn bc, .int .i64 x.term.kind, .int .i64 x.term.value, .slice tq tm td][o]? = some y → cell h' ⟨bb, o, none⟩ = some y := fun h' e o y hy => e.cell (bcell hb6 hy)
    refine ⟨fun fr to k2 j => (fun hh => 0 ≤ j ∧ j ≤ bn + 1 ∧ Ext h6 hh ∧ k2 = kk + j ∧ Ivl (fun p => FlT f r (line.take v.toNat) p ∨ FlP f x b.toNat r kk j.toNat p) ⟨r, fr, to⟩, fun _ => ((bn : Int) + 1 - j).toNat), ⟨by omega, by omega, Ext.rfl', by omega, hI.cong fun p => ⟨.inl, fun h => h.elim id fun ⟨j, hj, _⟩ => by simp at hj⟩⟩, ?_⟩
    rintro fr2 to2 k2 j h7 ⟨j0, j1, e7, rfl, hI2⟩
    have e07 := e06.trans e7
    have e17 := e16.trans e7
    refine ⟨_, _, _, cb _ e7 (0 + 0) _ rfl, fun jle => ⟨i64ok (by omega) (by omega), v0, vlt, onP_at hp5 ⟨_, g _ e17 0 _ rfl, _, _, _, g _ e17 1 _ rfl, _, g _ e17 2 _ rfl, _, g _ e17 3 _ rfl, _, _, _, g _ e17 4 _ rfl, b, e07.cell hc5, rfl, by omega, rfl, by omega, ?_⟩⟩, fun jgt => ?_⟩
    · refine c44 (hF0.ext e07) hb hz hs hx hbr.1 j0 (by omega) r0 fun at_ h8 e78 hat => ⟨_, rfl, ?_⟩
      have e68 := e7.trans e78
      have e08 := e07.trans e78
      have e18 := e17.trans e78
      refine ⟨fun bh hh => Ext h6 hh ∧ (bh = true ↔ BehP f x j.toNat b.toNat r), ⟨_, _, _, cb _ e68 (0 + 0) _ rfl, fun jlt => ?_, fun jge => ?_⟩, ?_⟩
      · obtain ⟨y, b9, o9, hy, hp9, _, ⟨ap, an, ac, rfl, aas, aac⟩, hc9⟩ := bbs.get j0 jlt
        refine ⟨_, _, _, cb _ e68 (0 + 0) _ rfl, j0, jlt, onP_at hp9 ⟨_, e08.cell (hc9 1 _ rfl), fun hd => ⟨e68, ⟨fun _ => .inl ⟨y, hy, .inl hd⟩, fun _ => rfl⟩⟩, fun hd => ⟨v0, vlt, onP_at hp5 ⟨i64ok (by omega) (by omega), _, g _ e18 0 _ rfl, _, _, _, g _ e18 1 _ rfl, _, g _ e18 2 _ rfl, _, g _ e18 3 _ rfl, _, _, _, g _ e18 4 _ rfl, b, e08.cell hc5, rfl, by omega, rfl, by omega, ?_⟩⟩⟩⟩
        refine c44 (hF0.ext e08) hb hz hs hx hbr.1 (j := j + 1) (by omega) (by omega) r0 fun bh h10 e810 hbh => ⟨_, rfl, e68.trans e810, ?_⟩
        rw [show (j + 1).toNat = j.toNat + 1 by omega] at hbh
        rw [hbh]
        unfold BehP
        constructor
        · exact fun h => .inl ⟨y, hy, .inr h⟩
        · rintro (⟨y', hy', h | h⟩ | ⟨h, _⟩)
          · rw [hy] at hy'; cases hy'; exact absurd h hd
          · exact h
          · omega
      · have hjl : j.toNat = x.body.length := by omega
        have hLB : BehP f x j.toNat b.toNat r ↔ ∃ t ∈ x.term.to, LA f t.toNat r.toNat := by
          rw [← LB_iff hb hx]
          unfold BehP
          constructor
          · rintro (⟨y', hy', _⟩ | ⟨_, h⟩)
            · have := (List.getElem?_eq_some_iff.1 hy').1; omega
            · exact h
          · exact fun h => .inr ⟨hjl, h⟩
        refine ⟨fun bh n => (fun hh => 0 ≤ n ∧ n ≤ tm ∧ Ext h6 hh ∧ (bh = true ↔ ∃ t ∈ x.term.to.take n.toNat, LA f t.toNat r.toNat), fun _ => ((tm : Int) - n).toNat), ⟨by omega, by omega, e68, by simp⟩, ?_⟩
        rintro bh n h11 ⟨n0, n1, e11, hbh⟩
        have e011 := e06.trans e11
        have e111 := e16.trans e11
        have htz : (tm : Int) < 9223372036854775807 := by have := hzx.2.1; unfold SzI at this; omega
        refine ⟨_, _, _, cb _ e11 ((0 + 1) + 2) _ rfl, fun nlt => ⟨fun hbt => ⟨i64ok (by omega) (by omega), ⟨by omega, by omega, e11, ?_⟩, ?_⟩, fun hbf => ?_⟩, fun nge => ⟨e11, ?_⟩⟩
        · obtain ⟨t, ht, hla⟩ := hbh.1 hbt
          refine ⟨fun _ => ⟨t, ?_, hla⟩, fun _ => rfl⟩
          rw [show (n + 1).toNat = n.toNat + 1 by omega, List.take_add_one]
          exact List.mem_append.2 (.inl ht)
        · show ((tm : Int) - (n + 1)).toNat < ((tm : Int) - n).toNat
          omega
        · obtain ⟨t, b12, o12, ht, hp12, hc12⟩ := bts.get n0 nlt
          have htb := (hb x (List.mem_of_getElem? hx)).2 t (List.mem_of_getElem? ht)
          obtain ⟨y, hy⟩ : ∃ y, f.blocks[t.toNat]? = some y := ⟨f.blocks[t.toNat]'(by omega), by simp⟩
          refine ⟨_, g _ e111 0 _ rfl, _, _, _, g _ e111 1 _ rfl, _, g _ e111 2 _ rfl, _, g _ e111 3 _ rfl, _, _, _, g _ e111 4 _ rfl, _, _, _, cb _ e11 ((0 + 1) + 2) _ rfl, n0, nlt, onP_at hp12 ⟨t, e011.cell hc12, rfl, by omega, rfl, by omega, ?_⟩⟩
          refine c44 (hF0.ext e011) hb hz hs hy htb.1 (j := 0) (by omega) (by simp) r0 fun q h12 e1112 hq => ⟨_, rfl, i64ok (by omega) (by omega), ⟨by omega, by omega, e11.trans e1112, ?_⟩, ?_⟩
          · have hr : ((r.toNat : Nat) : Int) = r := by omega
            have hla : LA f t.toNat r.toNat ↔ PtP f y 0 t.toNat r := by rw [LA_iff hb hy, hr]
            rw [hq, show (0 : Int).toNat = 0 from rfl, ← hla, show (n + 1).toNat = n.toNat + 1 by omega, List.take_add_one, ht]
            constructor
            · exact fun h => ⟨t, List.mem_append.2 (.inr (by simp)), h⟩
            · rintro ⟨u, hu, h⟩
              rcases List.mem_append.1 hu with hu | hu
              · have := hbh.2 ⟨u, hu, h⟩; rw [this] at hbf; simp at hbf
              · simp at hu; subst hu; exact h
          · show ((tm : Int) - (n + 1)).toNat < ((tm : Int) - n).toNat
            omega
        · rw [hbh, hLB, List.take_of_length_le (by omega)]
      rintro bh h9 ⟨e9, hbh⟩
      have bdS : ∀ p, (FlT f r (line.take v.toNat) p ∨ FlP f x b.toNat r kk j.toNat p) → 0 ≤ p ∧ p < 2 * (kk + j + 1) := fun p hp => by
        rcases hp with hp | hp
        · have := FlT_bd hp; omega
        · have := FlP_bd hp; omega
      have I1 := ivl_step hI2 (c := at_ = true) bdS (by omega)
      have I2 := ivl_step I1 (c := bh = true) (q := 2 * (kk + j + 1) + 1) (fun p hp => by
        rcases hp with hp | hp
        · have := bdS p hp; omega
        · omega) (by omega)
      refine ⟨fun f3 hh => Ext h6 hh ∧ f3 = (if at_ = true ∧ fr2 < 0 then 2 * (kk + j + 1) else fr2), ⟨fun ht => ⟨fun hlt => ⟨i64ok (by omega) (by omega), e9, by rw [if_pos ⟨ht, hlt⟩]⟩, fun hge => ⟨e9, by rw [if_neg (fun h => hge h.2)]⟩⟩, fun hf => ⟨e9, by rw [if_neg (fun h => by rw [h.1] at hf; simp at hf)]⟩⟩, ?_⟩
      rintro f3 h13 ⟨e13, hf3⟩
      refine ⟨fun f4 hh => Ext h6 hh ∧ f4 = (if bh = true ∧ f3 < 0 then 2 * (kk + j + 1) + 1 else f3), ⟨fun ht => ⟨fun hlt => ⟨i64ok (by omega) (by omega), i64ok (by omega) (by omega), e13, by rw [if_pos ⟨ht, hlt⟩]⟩, fun hge => ⟨e13, by rw [if_neg (fun h => hge h.2)]⟩⟩, fun hf => ⟨e13, by rw [if_neg (fun h => by rw [h.1] at hf; simp at hf)]⟩⟩, ?_⟩
      rintro f4 h14 ⟨e14, hf4⟩
      refine ⟨fun t3 hh => Ext h6 hh ∧ t3 = (if at_ = true then 2 * (kk + j + 1) else to2), ⟨fun ht => ⟨i64ok (by omega) (by omega), e14, by rw [if_pos ht]⟩, fun hf => ⟨e14, by rw [if_neg (fun h => by rw [h] at hf; simp at hf)]⟩⟩, ?_⟩
      rintro t3 h15 ⟨e15, ht3⟩
      have I3 : ∀ t4, t4 = (if bh = true then 2 * (kk + j + 1) + 1 else t3) → Ivl (fun p => FlT f r (line.take v.toNat) p ∨ FlP f x b.toNat r kk (j + 1).toNat p) ⟨r, f4, t4⟩ := fun t4 ht4 => by
        subst ht4; subst hf4; subst hf3; subst ht3
        refine I2.cong fun p => ?_
        rw [show (j + 1).toNat = j.toNat + 1 by omega, FlP_succ, hat, hbh, show ((j.toNat : Nat) : Int) = j by omega]
        simp only [or_assoc]
      refine ⟨fun ht => ⟨i64ok (by omega) (by omega), i64ok (by omega) (by omega), i64ok (by omega) (by omega), ⟨by omega, by omega, e15, by omega, I3 _ (by rw [if_pos ht])⟩, ?_⟩, fun hf => ⟨i64ok (by omega) (by omega), ⟨by omega, by omega, e15, by omega, I3 _ (by rw [if_neg (fun h => by rw [h] at hf; simp at hf)])⟩, ?_⟩⟩
      · show ((bn : Int) + 1 - (j + 1)).toNat < ((bn : Int) + 1 - j).toNat
        omega
      · show ((bn : Int) + 1 - (j + 1)).toNat < ((bn : Int) + 1 - j).toNat
        omega
    · refine ⟨i64ok (by omega) (by omega), ⟨by omega, by omega, e17, ?_, ?_⟩, ?_⟩
      · rw [show (v + 1).toNat = v.toNat + 1 by omega, lineK_take hbv, hxat, hbdl]; omega
      · refine hI2.cong fun p => ?_
        rw [show (v + 1).toNat = v.toNat + 1 by omega, FlT_take hbv, hxat, ← hkk, show j.toNat = x.body.length + 1 by omega]
      · show ((lm : Int) - (v + 1)).toNat < ((lm : Int) - v).toNat
        omega
  · rw [show v.toNat = line.length by omega, List.take_length] at hI
    exact k fr to h4 e04 hI
end Go.Proofs.Try

/- The answer's order and count; a line that is turned. -/
set_option maxRecDepth 100000
set_option linter.unusedVariables false
set_option linter.unusedSimpArgs false
open Go Go.Fw Go.Proofs
namespace Go.Proofs.Try

theorem outF_cnt (l : List Itv) : ∀ m : Nat, ((List.range m).flatMap fun p : Nat => l.filter fun x => decide (x.frm = (p : Int))).length = l.countP fun x => decide (0 ≤ x.frm ∧ x.frm < (m : Int)) := by
  intro m
  induction m with
  | zero => exact (List.countP_eq_zero.2 fun x _ h => by simp only [decide_eq_true_eq] at h; omega).symm
  | succ m ih =>
    rw [range_succ_flat, List.length_append, ih, ← List.countP_eq_length_filter]
    clear ih
    induction l with
    | nil => rfl
    | cons x l ih =>
      simp only [List.countP_cons]
      by_cases h1 : x.frm = (m : Int)
      · have a1 : decide (0 ≤ x.frm ∧ x.frm < (m : Int)) = false := by simp; omega
        have a2 : decide (0 ≤ x.frm ∧ x.frm < ((m + 1 : Nat) : Int)) = true := by simp; omega
        rw [a1, a2]; simp only [h1, decide_true, if_true, Bool.false_eq_true, if_false]; omega
      · by_cases h2 : 0 ≤ x.frm ∧ x.frm < (m : Int)
        · have a2 : decide (0 ≤ x.frm ∧ x.frm < ((m + 1 : Nat) : Int)) = true := by simp; omega
          rw [a2]; simp only [h1, h2, decide_true, decide_false, if_true, Bool.false_eq_true, if_false, and_self]; omega
        · have a2 : decide (0 ≤ x.frm ∧ x.frm < ((m + 1 : Nat) : Int)) = false := by simp; omega
          rw [a2]; simp only [h1, h2, decide_false, Bool.false_eq_true, if_false]; omega
def Bef (a b : Itv) : Prop := a.frm < b.frm ∨ (a.frm = b.frm ∧ a.reg < b.reg)
theorem outF_pw {l : List Itv} (hl : l.Pairwise fun a b => a.reg < b.reg) : ∀ m : Nat, ((List.range m).flatMap fun p : Nat => l.filter fun x => decide (x.frm = (p : Int))).Pairwise Bef ∧ ∀ x ∈ ((List.range m).flatMap fun p : Nat => l.filter fun x => decide (x.frm = (p : Int))), x.frm < m
  | 0 => ⟨by simp, by simp⟩
  | m + 1 => by
    obtain ⟨h1, h2⟩ := outF_pw hl m
    rw [range_succ_flat]
    have h3 : ∀ x ∈ l.filter (fun x => decide (x.frm = (m : Int))), x.frm = m := fun x hx => by simpa using (List.mem_filter.1 hx).2
    refine ⟨List.pairwise_append.2 ⟨h1, ?_, fun a ha b hb => .inl (by have := h2 a ha; have := h3 b hb; omega)⟩, fun x hx => ?_⟩
    · refine List.Pairwise.imp_of_mem (fun {a b} ha hb hab => .inr ⟨by rw [h3 a ha, h3 b hb], hab⟩) (hl.filter _)
    · rcases List.mem_append.1 hx with hx | hx
      · have := h2 x hx; omega
      · have := h3 x hx; omega
theorem outF_mem {l : List Itv} {m : Nat} {x : Itv} : x ∈ ((List.range m).flatMap fun p : Nat => l.filter fun x => decide (x.frm = (p : Int))) ↔ x ∈ l ∧ 0 ≤ x.frm ∧ x.frm < (m : Int) := by
  rw [List.mem_flatMap]
  constructor
  · rintro ⟨p, hp, hx⟩
    obtain ⟨h1, h2⟩ := List.mem_filter.1 hx
    have := List.mem_range.1 hp
    have h2 : x.frm = (p : Int) := by simpa using h2
    exact ⟨h1, by omega, by omega⟩
  · rintro ⟨h1, h2, h3⟩
    exact ⟨x.frm.toNat, List.mem_range.2 (by omega), List.mem_filter.2 ⟨h1, by simp; omega⟩⟩
/-- What stands in the answer. -/
theorem out_all {f : Fnc} (hs : SzR f) (hP : FncP f) {A B : Nat → List Bool} {line : List Int} (hL : ∀ v ∈ line, 0 ≤ v ∧ v < f.blocks.length) {M S : List Itv} (hM : M = meets (initL f.regs.toNat) (allEv f A B line)) (hS : S = outL M (2 * lineK f 0 line + 1)) :
    M.length = f.regs.toNat ∧ S.Pairwise Bef ∧ S.length = M.countP (fun x => decide (0 ≤ x.frm)) ∧ (∀ x, x ∈ S ↔ x ∈ M ∧ 0 ≤ x.frm) ∧ ∀ (r : Nat) x, M[r]? = some x → x.reg = r ∧ Ivl (fun p => ((r : Int), p) ∈ allEv f A B line) x := by
  have hev : ∀ e ∈ allEv f A B line, RegP f e.1 ∧ 0 ≤ e.2 ∧ e.2 ≤ 2 * lineK f 0 line + 1 := fun e he => allEv_mem hs hP hL he
  have hes : ∀ e ∈ allEv f A B line, 0 ≤ e.1 ∧ 0 ≤ e.2 := fun e he => ⟨(hev e he).1.1, (hev e he).2.1⟩
  have hget : ∀ (r : Nat) x, M[r]? = some x → x.reg = r ∧ Ivl (fun p => ((r : Int), p) ∈ allEv f A B line) x := fun r x hx => meets_init hes (by rw [← hM]; exact hx)
  have hlen : M.length = f.regs.toNat := by rw [hM, meets_len]; unfold initL; simp
  have hpw : M.Pairwise fun a b => a.reg < b.reg := by
    rw [List.pairwise_iff_getElem]
    intro i j hi hj hij
    rw [(hget i _ (by simp [hi])).1, (hget j _ (by simp [hj])).1]; omega
  have hK : 0 ≤ lineK f 0 line := (lineK_le hs line 0).2
  have hfrm : ∀ x ∈ M, x.frm < ((2 * lineK f 0 line + 1 + 1).toNat : Int) := fun x hx => by
    obtain ⟨r, hr, he⟩ := List.mem_iff_getElem.1 hx
    rcases (hget r x (by rw [List.getElem?_eq_getElem hr, he])).2 with ⟨h1, _⟩ | ⟨h1, _⟩
    · omega
    · have := (hev _ h1).2.2; simp only at this; omega
  subst hS
  unfold outL
  refine ⟨hlen, (outF_pw hpw _).1, ?_, fun x => ?_, hget⟩
  · rw [outF_cnt]
    refine List.countP_congr fun x hx => ?_
    have := hfrm x hx
    simp only [decide_eq_true_eq]; omega
  · rw [outF_mem]
    constructor
    · rintro ⟨h1, h2, _⟩; exact ⟨h1, h2⟩
    · rintro ⟨h1, h2⟩; exact ⟨h1, h2, hfrm x h1⟩

/-! ### A line that is turned -/
theorem turn_line {n : Nat} (hn : 0 < n) {m t : Int} (hm : m = 1 ∨ m = (n : Int) - 1) (hm0 : m = 0 → n = 1) {l : List Int} (hl : l.length = n) (hg : ∀ (i : Nat) x, l[i]? = some x → x = ((i : Int) * m + t) % n) : LineP l n := by
  refine ⟨fun v hv => ?_, ?_, hl⟩
  · obtain ⟨i, hi, rfl⟩ := List.mem_iff_getElem.1 hv
    rw [hg i l[i] (by simp)]
    exact ⟨Int.emod_nonneg _ (by omega), Int.emod_lt_of_pos _ (by omega)⟩
  · rw [List.pairwise_iff_getElem]
    intro i j hi hj hij he
    rw [hg i l[i] (by simp), hg j l[j] (by simp)] at he
    have h1 := Int.emod_emod_of_dvd
    have hd : (n : Int) ∣ ((j : Int) * m + t) - ((i : Int) * m + t) := Int.dvd_of_emod_eq_zero (by rw [Int.sub_emod, he]; simp)
    have e1 : ((j : Int) * m + t) - ((i : Int) * m + t) = ((j : Int) - i) * m := by rw [Int.sub_mul]; omega
    rw [e1] at hd
    have hji : (n : Int) ∣ (j : Int) - i := by
      rcases hm with rfl | rfl
      · simpa using hd
      · have e2 : ((j : Int) - i) * ((n : Int) - 1) = ((j : Int) - i) * n - ((j : Int) - i) := by rw [Int.mul_sub, Int.mul_one]
        rw [e2] at hd
        have h2 : (n : Int) ∣ ((j : Int) - i) * n := Int.dvd_mul_left _ _
        have := Int.dvd_sub h2 hd
        rw [Int.sub_sub_self] at this; exact this
    have := Int.le_of_dvd (by omega) hji
    omega
end Go.Proofs.Try

/- The law LiveSpans, over heaps. -/
set_option maxRecDepth 100000
set_option linter.unusedVariables false
set_option linter.unusedSimpArgs false
open Go Go.Fw Go.Proofs
namespace Go.Proofs.Try

theorem and_one (x : Int) : bitsF .and .i64 x 1 = 0 ∨ bitsF .and .i64 x 1 = 1 := by
  have h : (BitVec.ofInt 64 x &&& BitVec.ofInt 64 1).toNat ≤ 1 := by
    rw [BitVec.toNat_and]
    have : (BitVec.ofInt 64 1).toNat = 1 := by decide
    rw [this]
    exact Nat.and_le_right
  show IntKind.wrap .i64 _ = 0 ∨ IntKind.wrap .i64 _ = 1
  have h' : (BitVec.ofInt IntKind.i64.bits x &&& BitVec.ofInt IntKind.i64.bits 1).toNat ≤ 1 := h
  generalize (BitVec.ofInt IntKind.i64.bits x &&& BitVec.ofInt IntKind.i64.bits 1).toNat = q at h'
  match q, h' with
  | 0, _ => left; rfl
  | 1, _ => right; rfl
theorem tmod_bd {x n : Int} (hn : 0 < n) : -n < x.tmod n ∧ x.tmod n < n := by
  constructor
  · exact Int.lt_tmod_of_pos x hn
  · exact Int.tmod_lt_of_pos x hn
theorem blksOk_of {f : Fnc} (hP : FncP f) (hz : SzF f) : BlksOk f := fun x hx => ⟨blkOk (hP.2.2.2 x hx) (hz.2.2 x hx), (hP.2.2.2 x hx).2.1⟩

set_option maxHeartbeats 4000000 in
theorem c4 {h : H} {f : Fnc} {fp : Option Addr} {fn fc : Nat} {fq : Option Addr} {fm fd : Nat} {turn : Int} {R : Value → H → Prop} (ht : TabAt h) (hF : FncD h (fv f fp fn fc fq fm fd) f) (hq : SzQ f) (hnm : (f.name.size : Int) ≤ 9223372036854775807)
    (k : ∀ h', Ext h h' → R (.bool true) h') : HC Tryd.prog 4 [.agg ⟨fv f fp fn fc fq fm fd⟩, .int .i64 turn] h R := by
  have hbs0 : RowAt BlkD 4 h fq fm f.blocks := by
    obtain ⟨_, _, _, _, _, _, he, _, _, hbs, _⟩ := hF
    cases he; exact hbs
  have hbl := hbs0.len
  apply hc4; unfold sh4; intro bf h1 hN1
  have e1 := hN1.ext
  have g : ∀ h', Ext h1 h' → ∀ j y, (fv f fp fn fc fq fm fd)[j]? = some y → cell h' ⟨bf, 0 + j, none⟩ = some y := fun h' e j y hj => hN1.keep _ e _ _ (by rw [Nat.zero_add]; exact hj)
  refine c6 (ht.ext e1) fun h2 e12 => ⟨_, rfl, ?_⟩
  have e2 := e1.trans e12
  refine ⟨_, g _ e12 0 _ rfl, _, _, _, g _ e12 1 _ rfl, _, g _ e12 2 _ rfl, _, g _ e12 3 _ rfl, _, _, _, g _ e12 4 _ rfl, ?_⟩
  refine c7 (hF.ext e2) hq hnm fun q h3 e23 hqs => ⟨q, rfl, fun hn => by simp at hn, fun _ => ⟨fun _ => k h3 (e2.trans e23), fun hqt => ?_⟩⟩
  have hS := hqs (by simpa using hqt)
  obtain ⟨z1, z2, z3⟩ := hS.sz
  have e13 := e12.trans e23
  have e3 := e2.trans e23
  refine ⟨_, g _ e13 0 _ rfl, _, _, _, g _ e13 1 _ rfl, _, g _ e13 2 _ rfl, _, g _ e13 3 _ rfl, _, _, _, g _ e13 4 _ rfl, ?_⟩
  refine c15 (hF.ext e3) z1 fun fo h4 e34 hfo => ⟨_, rfl, ?_⟩
  have e14 := e13.trans e34
  have hnb := z2.nb
  refine ⟨fun n i => (fun hh => 0 ≤ i ∧ i ≤ fm ∧ Ext h4 hh ∧ 0 ≤ n ∧ n ≤ 300000 * i, fun _ => ((fm : Int) - i).toNat), ⟨by omega, by omega, Ext.rfl', by omega, by omega⟩, ?_⟩
  rintro n i h5 ⟨i0, i1, e45, n0, n1⟩
  have e15 := e14.trans e45
  have e5 := e1.trans e15
  refine ⟨_, _, _, g _ e15 4 _ rfl, fun ilt => ⟨_, _, _, g _ e15 4 _ rfl, i0, ilt, ?_⟩, fun ige => ?_⟩
  · obtain ⟨x, b6, o6, hx, hp6, _, ⟨bp, bn, bc, tq, tm, td, rfl, bbs, bbc, bts, btc⟩, hc6⟩ := hbs0.get i0 ilt
    have hbx := z2.bd x (List.mem_of_getElem? hx)
    have hbdl := bbs.len
    refine onP_at hp6 ⟨_, _, _, e5.cell (hc6 0 _ rfl), i64ok (by omega) (by omega), i64ok (by omega) (by omega), ⟨by omega, by omega, e45, by omega, by omega⟩, ?_⟩
    show ((fm : Int) - (i + 1)).toNat < ((fm : Int) - i).toNat
    omega
  refine ⟨fun _ => k _ e5, fun hfb => ?_⟩
  have hP : FncP f := hfo.1 (by simpa using hfb)
  have hb := blksOk_of hP z1
  refine ⟨_, _, _, g _ e15 4 _ rfl, fun _ => k _ e5, fun h12 => ⟨_, g _ e15 2 _ rfl, fun _ => k _ e5, fun h20 => ⟨fun _ => k _ e5, fun h60 => ⟨_, _, _, g _ e15 4 _ rfl, ?_⟩⟩⟩⟩
  have hpos : 0 < fm := by have := hP.1.2.2.2.2.2; omega
  have hreg : 0 ≤ f.regs := hP.1.1
  have htm := tmod_bd (x := turn) (n := (fm : Int)) (by omega)
  refine ⟨by omega, i64ok (by omega) (by omega), fun t hh => h5 = hh ∧ 0 ≤ t ∧ t < fm, ⟨fun hlt => ⟨rfl, ?_⟩, fun hge => ⟨rfl, by omega, by omega⟩⟩, ?_⟩
  · rw [wrap_in (i64ok (by omega) (by omega))]; omega
  rintro t _ ⟨rfl, t0, t1⟩
  obtain ⟨m, hm1, hm2⟩ : ∃ m : Int, m = 1 + bitsF .and .i64 turn 1 * ((fm : Int) - 2) ∧ (m = 1 ∨ m = (fm : Int) - 1) := by
    rcases and_one turn with h | h
    · exact ⟨_, rfl, .inl (by rw [h]; omega)⟩
    · exact ⟨_, rfl, .inr (by rw [h]; omega)⟩
  have hm3 : 0 ≤ m ∧ m ≤ 12 := by omega
  have hmb : -10 ≤ bitsF .and .i64 turn 1 * ((fm : Int) - 2) ∧ bitsF .and .i64 turn 1 * ((fm : Int) - 2) ≤ 12 := by omega
  -- the line
  refine ⟨fun p nn c v => (fun hh => 0 ≤ v ∧ v ≤ fm ∧ nn = v.toNat ∧ Ext h5 hh ∧ ∃ l, Grow (fun x : Int => [Value.int .i64 x]) 1 h5 hh p nn c l ∧ ∀ (i : Nat) x, l[i]? = some x → x = ((i : Int) * m + t) % fm, fun _ => ((fm : Int) - v).toNat), ⟨by omega, by omega, rfl, Ext.rfl', [], Grow.nil _ _ _ _ _, fun i x h => by simp at h⟩, ?_⟩
  rintro lp _ lc v h7 ⟨v0, v1, rfl, e57, l, G7, hl7⟩
  have e17 := e15.trans e57
  have e7 := e1.trans e17
  have hll := G7.len
  refine ⟨_, _, _, g _ e17 4 _ rfl, fun vlt => ?_, fun vge => ?_⟩
  · have hvm : 0 ≤ v * m ∧ v * m ≤ 12 * 12 := ⟨Int.mul_nonneg v0 hm3.1, Int.mul_le_mul (by omega) hm3.2 hm3.1 (by omega)⟩
    rw [hm1] at hvm
    refine ⟨_, _, _, g _ e17 4 _ rfl, i64ok (by omega) (by omega), i64ok (by omega) (by omega), i64ok (by omega) (by omega), i64ok (by omega) (by omega), i64ok (by omega) (by omega), _, _, _, g _ e17 4 _ rfl, by omega, i64ok (by omega) (by omega), rfl, by omega, fun bv h8 hN8 => ?_⟩
    have e78 := hN8.ext
    have s8 := e78.size
    have s57 := e57.size
    refine Grow.put2 (enc := fun x : Int => [Value.int .i64 x]) (fun _ => rfl) (v := _) (G7.ext e78) (by omega) rfl (rdc_new hN8 rfl) rfl (by omega) (fun _ => False) fun p' c' h9 G9 m9 _ _ => ⟨i64ok (by omega) (by omega), ⟨by omega, by omega, by omega, m9.ext (e57.trans e78) fun b hb hx => by have := (G7.lo hx.1 hx.2).1; omega, _, G9, fun i x hx => ?_⟩, ?_⟩
    · by_cases hi : i < l.length
      · rw [List.getElem?_append_left hi] at hx; exact hl7 i x hx
      · rw [List.getElem?_append_right (by omega)] at hx
        have hi0 : i - l.length = 0 := by
          rcases Nat.eq_zero_or_pos (i - l.length) with h | h
          · exact h
          · rw [List.getElem?_eq_none (by simp; omega)] at hx; cases hx
        rw [hi0] at hx
        have hxx := Option.some.inj hx
        rw [← hxx, ← hm1, Int.tmod_eq_emod_of_nonneg (by rw [hm1]; omega), show (i : Int) = v by omega]
    · show ((fm : Int) - (v + 1)).toNat < ((fm : Int) - v).toNat
      omega
  have hvf : v.toNat = fm := by omega
  have hL : LineP l f.blocks.length := by
    rw [hbl]
    exact turn_line hpos hm2 (fun h => by omega) (by omega) hl7
  refine ⟨_, g _ e17 0 _ rfl, _, _, _, g _ e17 1 _ rfl, _, g _ e17 2 _ rfl, _, g _ e17 3 _ rfl, _, _, _, g _ e17 4 _ rfl, ?_⟩
  refine c8 (hF.ext e7) z3 fun b p' c' h10 e710 hb10 hM => ⟨_, rfl, by simp, ?_⟩
  have e10 := e7.trans e710
  have e110 := e17.trans e710
  obtain ⟨w, b2, o2, hw, hp2, hcells⟩ := MRow.get hM (i := 0) (by omega) (by omega) (y := f) rfl
  have hwd := hw.d
  have hwf : fenc w = fv f w.p w.n w.c w.q w.m w.d := by
    obtain ⟨g1, g2, g3, g4, g5⟩ := hw
    unfold fenc fv; rw [g1, g3, g4]
  rw [hwf] at hwd hcells
  have hline10 : IntsAt h10 lp v.toNat l := (Grow.sl (enc := fun x : Int => [Value.int .i64 x]) (k := 1) (fun _ => rfl) G7).ext e710
  refine onP_at rfl ⟨_, _, _, bcell (o := (0 + 0) + 0) hb10 rfl, by omega, by omega, onP_at hp2 ⟨_, hcells 0 _ rfl, _, _, _, hcells 1 _ rfl, _, hcells 2 _ rfl, _, hcells 3 _ rfl, _, _, _, hcells 4 _ rfl, ?_⟩⟩
  refine c10 (ht.ext e10) hwd z1 z2 hline10 (by omega) (fun hn => absurd hP hn) (fun _ hn => absurd hL hn) fun _ _ sp sn sc sb S h11 wS hSn _ hSS e1011 => ⟨_, _, _, _, rfl, fun hn => absurd rfl hn, fun _ => ?_⟩
  have e11 := e10.trans e1011
  have e111 := e110.trans e1011
  -- what the answer is
  obtain ⟨A, B, hfin⟩ : ∃ A B, Fin f A B := fin_ex f
  have hSe := hSS A B hfin
  obtain ⟨M, hM'⟩ : ∃ M, M = meets (initL f.regs.toNat) (allEv f A B l) := ⟨_, rfl⟩
  obtain ⟨hMl, hpw, hcnt, hmem, hget⟩ := out_all z2 hP hL.1 hM' (hSe.trans (by rw [hM']))
  have hSlen : sn ≤ 20 := by
    rw [← hSn, hcnt]
    exact Nat.le_trans List.countP_le_length (by omega)
  have hS11 := fun h' (e : Ext h11 h') => Own.sl (enc := ive) (k := 3) (fun _ => rfl) (wS.ext e) hSn
  have rdS : ∀ h', Ext h11 h' → ∀ (i : Int), 0 ≤ i → i < sn → ∃ y bb o, S[i.toNat]? = some y ∧ sp = some ⟨bb, o, none⟩ ∧ ∀ j z, (ive y)[j]? = some z → cell h' ⟨bb, o + i.toNat * 3 + j, none⟩ = some z := fun h' e i i0 i1 => by
    obtain ⟨y, hy⟩ := get_ex hSn i0 i1
    obtain ⟨bb, o, hp, hc⟩ := (hS11 h' e).at_ (by omega)
    exact ⟨y, bb, o, hy, hp, hc _ y hy⟩
  refine fwd sn (fun i hh => h11 = hh) (by omega) rfl fun i h12 i0' i1' hh => ?_
  subst hh
  refine ⟨fun ilt => ⟨fun ipos => ?_, fun _ => ⟨i64ok (by omega) (by omega), fwd_next i0' ilt rfl⟩⟩, fun ige' => ?_⟩
  · obtain ⟨y, bb, o, hy, hp, hc⟩ := rdS _ Ext.rfl' i i0' ilt
    obtain ⟨y', bb', o', hy', hp', hc'⟩ := rdS _ Ext.rfl' (i - 1) (by omega) (by omega)
    have hbef : Bef y' y := by
      obtain ⟨k1, rfl⟩ := List.getElem?_eq_some_iff.1 hy
      obtain ⟨k2, rfl⟩ := List.getElem?_eq_some_iff.1 hy'
      exact List.pairwise_iff_getElem.1 hpw _ _ k2 k1 (by omega)
    unfold Bef at hbef
    exact ⟨i0', ilt, onP_at hp ⟨i64ok (by omega) (by omega), by omega, by omega, onP_at hp' ⟨_, hc 1 _ rfl, _, hc' 1 _ rfl, fun hlt => by omega, fun _ => ⟨i0', ilt, onP_at hp ⟨i64ok (by omega) (by omega), by omega, by omega, onP_at hp' ⟨_, hc 1 _ rfl, _, hc' 1 _ rfl, fun heq =>
      ⟨i0', ilt, onP_at hp ⟨i64ok (by omega) (by omega), by omega, by omega, onP_at hp' ⟨_, hc 0 _ rfl, _, hc' 0 _ rfl, fun hle => by omega, fun _ => ⟨i64ok (by omega) (by omega), fwd_next i0' ilt rfl⟩⟩⟩⟩, fun _ => ⟨i64ok (by omega) (by omega), fwd_next i0' ilt rfl⟩⟩⟩⟩⟩⟩⟩
  refine ⟨fun a r => (fun hh => 0 ≤ r ∧ r ≤ f.regs ∧ Ext h11 hh ∧ a = ((M.take r.toNat).countP (fun x => decide (0 ≤ x.frm)) : Nat), fun _ => (f.regs - r).toNat), ⟨by omega, hreg, Ext.rfl', by simp⟩, ?_⟩
  rintro a r h13 ⟨r0, r1, e13', ha⟩
  have e113 := e111.trans e13'
  have e0_13 := e11.trans e13'
  refine ⟨_, g _ e113 2 _ rfl, fun rlt => ?_, fun rge => ?_⟩
  · refine ⟨_, g _ e113 0 _ rfl, _, _, _, g _ e113 1 _ rfl, _, g _ e113 2 _ rfl, _, g _ e113 3 _ rfl, _, _, _, g _ e113 4 _ rfl, ?_⟩
    refine c16 (hF.ext e0_13) hb z1 z2 (hline10.ext (e1011.trans e13')) hL.1 (by omega) r0 fun fr to h14 e1314 hIv => ⟨_, _, rfl, ?_⟩
    obtain ⟨y, hy⟩ : ∃ y, M[r.toNat]? = some y := ⟨M[r.toNat]'(by omega), by simp⟩
    obtain ⟨hyr, hyI⟩ := hget _ y hy
    rw [show ((r.toNat : Nat) : Int) = r by omega] at hyr hyI
    obtain ⟨hf1, hf2⟩ := places_eq hb hfin r0 rlt hL.1 hIv hyI
    simp only at hf1 hf2
    have e14' := e13'.trans e1314
    have htk : (M.take (r + 1).toNat).countP (fun x => decide (0 ≤ x.frm)) = (M.take r.toNat).countP (fun x => decide (0 ≤ x.frm)) + (if 0 ≤ y.frm then 1 else 0) := by
      rw [show (r + 1).toNat = r.toNat + 1 by omega, List.take_add_one, hy, Option.toList_some, List.countP_append]
      simp [List.countP_cons]
    have hab : ((M.take r.toNat).countP (fun x => decide (0 ≤ x.frm)) : Nat) ≤ 20 := Nat.le_trans List.countP_le_length (by rw [List.length_take]; omega)
    refine ⟨fun hneg => ⟨i64ok (by omega) (by omega), ⟨by omega, by omega, e14', ?_⟩, ?_⟩, fun hpos' => ⟨i64ok (by omega) (by omega), ?_⟩⟩
    · rw [htk, if_neg (by omega)]; omega
    · show (f.regs - (r + 1)).toNat < (f.regs - r).toNat
      omega
    · refine ⟨fun fd i => (fun hh => 0 ≤ i ∧ i ≤ sn ∧ h14 = hh ∧ (fd = true ↔ ∃ z ∈ S.take i.toNat, z.reg = r ∧ z.frm = fr ∧ z.to = to), fun _ => ((sn : Int) - i).toNat), ⟨by omega, by omega, rfl, by simp⟩, ?_⟩
      rintro fd i _ ⟨i0, i1, rfl, hfd⟩
      refine ⟨fun ilt => ⟨fun hft => ⟨i64ok (by omega) (by omega), ⟨by omega, by omega, rfl, ?_⟩, ?_⟩, fun hff => ?_⟩, fun ige2 => ?_⟩
      · obtain ⟨z, hz, hzz⟩ := hfd.1 hft
        refine ⟨fun _ => ⟨z, ?_, hzz⟩, fun _ => rfl⟩
        rw [show (i + 1).toNat = i.toNat + 1 by omega, List.take_add_one]
        exact List.mem_append.2 (.inl hz)
      · show ((sn : Int) - (i + 1)).toNat < ((sn : Int) - i).toNat
        omega
      · obtain ⟨z, bb, o, hz, hp, hc⟩ := rdS _ e14' i i0 ilt
        refine ⟨i0, ilt, onP_at hp ⟨_, hc 0 _ rfl, _, hc 1 _ rfl, _, hc 2 _ rfl, rfl, by omega, rfl, by omega, rfl, by omega, i64ok (by omega) (by omega), ⟨by omega, by omega, rfl, ?_⟩, ?_⟩⟩
        · rw [decide_eq_true_eq, show (i + 1).toNat = i.toNat + 1 by omega, List.take_add_one, hz]
          constructor
          · exact fun h => ⟨z, List.mem_append.2 (.inr (by simp)), h⟩
          · rintro ⟨u, hu, h⟩
            rcases List.mem_append.1 hu with hu | hu
            · have := hfd.2 ⟨u, hu, h⟩; rw [this] at hff; simp at hff
            · simp at hu; subst hu; exact h
        · show ((sn : Int) - (i + 1)).toNat < ((sn : Int) - i).toNat
          omega
      · have hfound : fd = true := by
          rw [hfd, List.take_of_length_le (by omega)]
          exact ⟨y, (hmem y).2 ⟨List.mem_of_getElem? hy, by omega⟩, hyr, hf1.symm, hf2.symm⟩
        refine ⟨fun hn => by rw [hfound] at hn; simp at hn, fun _ => ⟨i64ok (by omega) (by omega), ⟨by omega, by omega, e14', ?_⟩, ?_⟩⟩
        · rw [htk, if_pos (by omega)]; omega
        · show (f.regs - (r + 1)).toNat < (f.regs - r).toNat
          omega
  · have : a = (sn : Int) := by
      rw [ha, List.take_of_length_le (by omega), ← hcnt, hSn]
    have hR := k h13 e0_13
    rw [this]
    simpa using hR
end Go.Proofs.Try
