/-
  A part of the proof of: The statement LiveIntervals (quernlaw17) holds of the given program: for every function of blocks and every line that can be read as data, and laid where the program's own text lays the table math/bits.deBruijn64tab, it returns true, and its input reads as it did.
-/
import Derived.Test.YtmdfllipmnekoaaDoorw4
import Derived.Test.YtmdfllipmnekoaaDoorProg
set_option maxHeartbeats 1000000

/- The functions 29 of the seat live: their text in the framework, and what each asks. -/
set_option maxRecDepth 100000
set_option linter.unusedVariables false
set_option linter.unusedSimpArgs false
open Go Go.Fw Go.Proofs
namespace Go.Proofs.Try
/- quern/live.flowing -/
def fl29 : FL := ⟨176, (.seq (.reg [sv 2 (.mov (.const (Go.Value.pointer none)))]) (.seq (.reg [sv 16 (.mov (t 0)), sv 17 (.nck (t 16)), sv 18 (.fad 4 (t 17)), sv 19 (.ld .slice (t 18)), sv 20 (.len (t 19)), sv 3 (.mov (t 20))]) (.cut [(4, (.one .ptr))] [4, 21, 22, 23, 24, 25, 26, 27] (.drw .eq [2, 4, 6] [4, 21, 22, 23, 24, 25, 26, 27] (.takeP 0 (sv 21 (.mov (t 0))) (.takeP 1 (sv 22 (.mov (t 3))) (.takeP 3 (sv 24 (.mov (t 3))) (.alt 2 (se 23 (.mks 104 1 24 [.slice none 0 0] (t 22) (t 22))) (.alt 4 (se 25 (.mks 104 1 24 [.slice none 0 0] (t 24) (t 24))) (.takeP 5 (sv 26 (.bld [.pointer none, .slice none 0 0, .slice none 0 0, .slice none 0 0, .slice none 0 0] [(0, 1, (t 21)), (3, 1, (t 23)), (4, 1, (t 25))])) (.alt 6 (se 27 (.box 107 (t 26))) (.takeP 7 (sv 4 (.mov (t 27))) .done) .stop)) .stop) (.alt 4 (se 25 (.mks 104 1 24 [.slice none 0 0] (t 24) (t 24))) (.alt 2 (se 23 (.mks 104 1 24 [.slice none 0 0] (t 22) (t 22))) (.takeP 5 (sv 26 (.bld [.pointer none, .slice none 0 0, .slice none 0 0, .slice none 0 0, .slice none 0 0] [(0, 1, (t 21)), (3, 1, (t 23)), (4, 1, (t 25))])) (.alt 6 (se 27 (.box 107 (t 26))) (.takeP 7 (sv 4 (.mov (t 27))) .done) .stop)) .stop) .stop)))))) (.seq (.reg [sv 28 (.mov (t 4)), se 29 (.call 61 [(t 28)] .unit)]) (.seq (.reg [sv 30 (.mov (t 4)), sv 31 (.nck (t 30)), sv 32 (.fad 2 (t 31)), sv 33 (.ld .slice (t 32)), sv 34 (.len (t 33)), sv 35 (.ar .add true (t 34) (ci 63)), sv 36 (.dv .quo (t 35) (ci 64)), sv 5 (.mov (t 36))]) (.seq (.reg [sv 37 (.mov (t 3)), se 38 (.mks 22 1 24 [.slice none 0 0] (t 37) (t 37)), sv 6 (.mov (t 38))]) (.seq (.reg [sv 39 (.mov (t 3)), se 40 (.mks 4 1 1 [.bool false] (t 39) (t 39)), sv 7 (.mov (t 40))]) (.seq (.reg [sv 8 (.mov (.const (Go.Value.slice none 0 0)))]) (.seq (.seq (.reg [sv 41 (.mov (t 3)), sv 42 (.mov (ci 0))]) (.block 0 (.loop [(8, (.one .slice)), (42, (.one (.int .i64)))] [8, 9, 11, 42, 43, 44, 45, 46, 47, 48, 49, 50, 51, 52, 53, 54, 55, 56, 57, 58, 59, 60, 61, 62, 63, 64, 65, 66, 67, 68, 69, 70, 71, 72, 73, 74, 75, 76, 77, 78, 79, 80, 81, 82, 83, 84, 85, 86, 87, 88, 89, 90, 91, 92, 93] (.seq (.reg [sv 43 (.cmp .lss (t 42) (t 41))]) (.seq (.cond (t 43) .skip (.exit 0)) (.seq (.block 1 (.seq (.reg [sv 44 (.mov (t 42)), sv 9 (.mov (t 44))]) (.cut [] [45, 46, 47, 48, 49, 50, 51, 52, 53, 54, 55, 56, 57, 58, 59, 60] (.drw .ext [15, 17] [45, 46, 47, 48, 49, 50, 51, 52, 53, 54, 55, 56, 57, 58, 59, 60] (.takeP 0 (sv 45 (.mov (t 4))) (.takeP 1 (sv 46 (.nck (t 45))) (.takeP 2 (sv 47 (.fad 3 (t 46))) (.takeP 4 (sv 49 (.mov (t 9))) (.takeP 5 (sv 50 (.mov (t 4))) (.takeP 6 (sv 51 (.nck (t 50))) (.takeP 7 (sv 52 (.fad 4 (t 51))) (.takeP 9 (sv 54 (.mov (t 9))) (.takeP 10 (sv 55 (.mov (t 5))) (.takeP 12 (sv 57 (.mov (t 5))) (.takeR 3 (sv 48 (.ld .slice (t 47))) (.takeR 8 (sv 53 (.ld .slice (t 52))) (.alt 11 (se 56 (.mks 138 1 8 [.int .u64 0] (t 55) (t 55))) (.takeP 14 (sv 59 (.idx 1 (t 48) (t 49))) (.alt 13 (se 58 (.mks 138 1 8 [.int .u64 0] (t 57) (t 57))) (.alt 15 (ne (.sto 1 (t 59) (t 56))) (.takeP 16 (sv 60 (.idx 1 (t 53) (t 54))) (.alt 17 (ne (.sto 1 (t 60) (t 58))) .done .stop)) .stop) (.alt 15 (ne (.sto 1 (t 59) (t 56))) (.alt 13 (se 58 (.mks 138 1 8 [.int .u64 0] (t 57) (t 57))) (.takeP 16 (sv 60 (.idx 1 (t 53) (t 54))) (.alt 17 (ne (.sto 1 (t 60) (t 58))) .done .stop)) .stop) .stop))) (.alt 13 (se 58 (.mks 138 1 8 [.int .u64 0] (t 57) (t 57))) (.alt 11 (se 56 (.mks 138 1 8 [.int .u64 0] (t 55) (t 55))) (.takeP 14 (sv 59 (.idx 1 (t 48) (t 49))) (.alt 15 (ne (.sto 1 (t 59) (t 56))) (.takeP 16 (sv 60 (.idx 1 (t 53) (t 54))) (.alt 17 (ne (.sto 1 (t 60) (t 58))) .done .stop)) .stop)) .stop) .stop))))))))))))))) (.seq (.seq (.reg [sv 61 (.mov (t 0)), sv 62 (.nck (t 61)), sv 63 (.fad 4 (t 62)), sv 64 (.ld .slice (t 63)), sv 65 (.mov (t 9)), sv 66 (.idx 4 (t 64) (t 65)), sv 67 (.fad 1 (t 66)), sv 68 (.fad 2 (t 67)), sv 69 (.ld .slice (t 68)), sv 70 (.len (t 69)), sv 71 (.mov (ci 0))]) (.block 2 (.loop [(71, (.one (.int .i64)))] [11, 71, 72, 73, 74, 75, 76, 77, 78, 79, 80, 81, 82, 83, 84, 85] (.seq (.reg [sv 72 (.cmp .lss (t 71) (t 70))]) (.seq (.cond (t 72) .skip (.exit 2)) (.seq (.block 3 (.seq (.reg [sv 73 (.idx 1 (t 69) (t 71)), sv 74 (.ld (.int .i64) (t 73)), sv 11 (.mov (t 74))]) (.reg [sv 75 (.mov (t 6)), sv 76 (.mov (t 11)), sv 77 (.mov (t 6)), sv 78 (.mov (t 11)), sv 79 (.idx 1 (t 77) (t 78)), sv 80 (.ld .slice (t 79)), sv 81 (.mov (t 9)), se 82 (.bsl 3 1 [.int .i64 0] 1 [(0, 1, (t 81))]), se 83 (.app 3 1 8 [.int .i64 0] (t 80) (t 82)), sv 84 (.idx 1 (t 75) (t 76)), ne (.sto 1 (t 84) (t 83))]))) (.reg [sv 85 (.ar .add true (t 71) (ci 1)), sv 71 (.mov (t 85))]))))))) (.seq (.reg [sv 86 (.mov (t 8)), sv 87 (.mov (t 9)), se 88 (.bsl 3 1 [.int .i64 0] 1 [(0, 1, (t 87))]), se 89 (.app 3 1 8 [.int .i64 0] (t 86) (t 88)), sv 8 (.mov (t 89))]) (.reg [sv 90 (.mov (t 7)), sv 91 (.mov (t 9)), sv 92 (.idx 1 (t 90) (t 91)), ne (.sto 1 (t 92) (cb true))])))))) (.reg [sv 93 (.ar .add true (t 42) (ci 1)), sv 42 (.mov (t 93))]))))))) (.seq (.reg [sv 94 (.mov (t 5)), se 95 (.mks 138 1 8 [.int .u64 0] (t 94) (t 94)), sv 12 (.mov (t 95))]) (.seq (.block 4 (.loop [(8, (.one .slice))] [8, 13, 15, 96, 97, 98, 99, 100, 101, 102, 103, 104, 105, 106, 107, 108, 109, 110, 111, 112, 113, 114, 115, 116, 117, 118, 119, 120, 121, 122, 123, 124, 125, 126, 127, 128, 129, 130, 131, 132, 133, 134, 135, 136, 137, 138, 139, 140, 141, 142, 143, 144, 145, 146, 147, 148, 149, 150, 151, 152, 153, 154, 155, 156, 157, 158, 159, 160, 161, 162, 163, 164, 165, 166, 167, 168, 169, 170, 171, 172, 173, 174] (.seq (.seq (.reg [sv 96 (.mov (t 8)), sv 97 (.len (t 96)), sv 98 (.cmp .gtr (t 97) (ci 0))]) (.cond (t 98) .skip (.exit 4))) (.block 5 (.seq (.reg [sv 99 (.mov (t 8)), sv 100 (.mov (t 8)), sv 101 (.len (t 100)), sv 102 (.ar .sub true (t 101) (ci 1)), sv 103 (.idx 1 (t 99) (t 102)), sv 104 (.ld (.int .i64) (t 103)), sv 13 (.mov (t 104))]) (.seq (.reg [sv 105 (.mov (t 8)), sv 106 (.mov (t 8)), sv 107 (.len (t 106)), sv 108 (.ar .sub true (t 107) (ci 1)), sv 109 (.slc 1 (t 105) none (some (t 108))), sv 8 (.mov (t 109))]) (.seq (.reg [sv 110 (.mov (t 7)), sv 111 (.mov (t 13)), sv 112 (.idx 1 (t 110) (t 111)), ne (.sto 1 (t 112) (cb false))]) (.seq (.reg [sv 113 (.mov (t 12)), sv 114 (.mov (t 4)), sv 115 (.nck (t 114)), sv 116 (.fad 4 (t 115)), sv 117 (.ld .slice (t 116)), sv 118 (.mov (t 13)), sv 119 (.idx 1 (t 117) (t 118)), sv 120 (.ld .slice (t 119)), se 121 (.cpy 1 (t 113) (t 120))]) (.seq (.reg [sv 122 (.mov (t 4)), sv 123 (.mov (t 13)), sv 124 (.mov (t 12)), se 125 (.call 62 [(t 122), (t 123), (t 124)] .unit)]) (.seq (.seq (.reg [sv 126 (.mov (t 4)), sv 127 (.nck (t 126)), sv 128 (.fad 3 (t 127)), sv 129 (.ld .slice (t 128)), sv 130 (.mov (t 13)), sv 131 (.idx 1 (t 129) (t 130)), sv 132 (.ld .slice (t 131)), sv 133 (.mov (t 12)), se 134 (.call 63 [(t 132), (t 133)] (.one .bool)), sv 135 (.no (t 134))]) (.cond (t 135) (.exit 5) .skip)) (.seq (.reg [sv 136 (.mov (t 6)), sv 137 (.mov (t 13)), sv 138 (.idx 1 (t 136) (t 137)), sv 139 (.ld .slice (t 138)), sv 140 (.len (t 139)), sv 141 (.mov (ci 0))]) (.block 6 (.loop [(8, (.one .slice)), (141, (.one (.int .i64)))] [8, 15, 141, 142, 143, 144, 145, 146, 147, 148, 149, 150, 151, 152, 153, 154, 155, 156, 157, 158, 159, 160, 161, 162, 163, 164, 165, 166, 167, 168, 169, 170, 171, 172, 173, 174] (.seq (.reg [sv 142 (.cmp .lss (t 141) (t 140))]) (.seq (.cond (t 142) .skip (.exit 6)) (.seq (.block 7 (.seq (.reg [sv 143 (.idx 1 (t 139) (t 141)), sv 144 (.ld (.int .i64) (t 143)), sv 15 (.mov (t 144))]) (.cut [(166, (.one .bool))] [145, 146, 147, 148, 149, 150, 151, 152, 153, 154, 155, 156, 157, 158, 159, 160, 161, 162, 163, 164, 165, 166] (.drw .eq [14] [145, 146, 147, 148, 149, 150, 151, 152, 153, 154, 155, 156, 157, 158, 159, 160, 161, 162, 163, 164, 165, 166] (.takeP 0 (sv 145 (.mov (t 4))) (.takeP 1 (sv 146 (.nck (t 145))) (.takeP 2 (sv 147 (.fad 4 (t 146))) (.takeP 4 (sv 149 (.mov (t 15))) (.takeP 7 (sv 152 (.mov (t 4))) (.takeP 8 (sv 153 (.nck (t 152))) (.takeP 9 (sv 154 (.fad 3 (t 153))) (.takeP 11 (sv 156 (.mov (t 13))) (.alt 3 (sv 148 (.ld .slice (t 147))) (.takeP 5 (sv 150 (.idx 1 (t 148) (t 149))) (.takeR 6 (sv 151 (.ld .slice (t 150))) (.alt 10 (sv 155 (.ld .slice (t 154))) (.takeP 12 (sv 157 (.idx 1 (t 155) (t 156))) (.takeR 13 (sv 158 (.ld .slice (t 157))) (.alt 14 (se 159 (.call 63 [(t 151), (t 158)] (.one .bool))) (.takeP 15 (sv 160 (.mov (t 159))) (.takeP 16 (⟨some 161, some (160, true), .v (.mov (t 7))⟩) (.takeP 17 (⟨some 162, some (160, true), .v (.mov (t 15))⟩) (.takeP 18 (⟨some 163, some (160, true), .v (.idx 1 (t 161) (t 162))⟩) (.alt 19 (⟨some 164, some (160, true), .v (.ld .bool (t 163))⟩) (.takeP 20 (⟨some 165, some (160, true), .v (.no (t 164))⟩) (.takeP 21 (sv 166 (.pick (t 160) (t 165) (cb false))) .done)) .stop))))) .stop))) .stop))) (.alt 10 (sv 155 (.ld .slice (t 154))) (.takeP 12 (sv 157 (.idx 1 (t 155) (t 156))) (.takeR 13 (sv 158 (.ld .slice (t 157))) (.alt 3 (sv 148 (.ld .slice (t 147))) (.takeP 5 (sv 150 (.idx 1 (t 148) (t 149))) (.takeR 6 (sv 151 (.ld .slice (t 150))) (.alt 14 (se 159 (.call 63 [(t 151), (t 158)] (.one .bool))) (.takeP 15 (sv 160 (.mov (t 159))) (.takeP 16 (⟨some 161, some (160, true), .v (.mov (t 7))⟩) (.takeP 17 (⟨some 162, some (160, true), .v (.mov (t 15))⟩) (.takeP 18 (⟨some 163, some (160, true), .v (.idx 1 (t 161) (t 162))⟩) (.alt 19 (⟨some 164, some (160, true), .v (.ld .bool (t 163))⟩) (.takeP 20 (⟨some 165, some (160, true), .v (.no (t 164))⟩) (.takeP 21 (sv 166 (.pick (t 160) (t 165) (cb false))) .done)) .stop))))) .stop))) .stop))) .stop))))))))))) (.cond (t 166) (.seq (.reg [sv 167 (.mov (t 7)), sv 168 (.mov (t 15)), sv 169 (.idx 1 (t 167) (t 168)), ne (.sto 1 (t 169) (cb true))]) (.reg [sv 170 (.mov (t 8)), sv 171 (.mov (t 15)), se 172 (.bsl 3 1 [.int .i64 0] 1 [(0, 1, (t 171))]), se 173 (.app 3 1 8 [.int .i64 0] (t 170) (t 172)), sv 8 (.mov (t 173))])) .skip)))) (.reg [sv 174 (.ar .add true (t 141) (ci 1)), sv 141 (.mov (t 174))]))))))))))))))))) (.seq (.reg [sv 175 (.mov (t 4)), sv 2 (.mov (t 175))]) .ret)))))))))))), [.tmp 2]⟩
theorem ck29 : chkFL Tryd.prog 29 fl29 = true := by kernel_rfl
def sh29 (pf_0 : Option Addr) (h : H) (R : Value → H → Prop) : Prop :=
 (pf_0 : Option Addr) ≠ none ∧
 (onP pf_0 fun bv_18 ov_18 =>
 ∃ (av_19 : Option Addr) (nv_19 cv_19 : Nat), cell h ⟨bv_18, (ov_18 + 4), none⟩ = some (.slice av_19 nv_19 cv_19) ∧
 ∃ J : Option Addr → H → Prop, (((0 ≤ (↑nv_19 : Int) ∧ (↑nv_19 : Int) ≤ (↑nv_19 : Int) ∧ (↑nv_19 : Int) * 24 ≤ 140737488355328 ∧
 ∀ (bv_23 : Nat) (h2 : H), New h (.cells ⟨repV [.slice none 0 0] ((↑nv_19 : Int)).toNat⟩ 104) bv_23 h2 →
 0 ≤ (↑nv_19 : Int) ∧ (↑nv_19 : Int) ≤ (↑nv_19 : Int) ∧ (↑nv_19 : Int) * 24 ≤ 140737488355328 ∧
 ∀ (bv_25 : Nat) (h3 : H), New h2 (.cells ⟨repV [.slice none 0 0] ((↑nv_19 : Int)).toNat⟩ 104) bv_25 h3 →
 1 = 1 ∧ 0 + 1 ≤ 5 ∧
 1 = 1 ∧ 3 + 1 ≤ 5 ∧
 1 = 1 ∧ 4 + 1 ≤ 5 ∧
 ∀ (bv_27 : Nat) (h4 : H), New h3 (.cells ⟨[(.pointer pf_0), (.slice none 0 0), (.slice none 0 0), (.slice (some ⟨bv_23, 0, none⟩) (((↑nv_19 : Int)).toNat) (((↑nv_19 : Int)).toNat)), (.slice (some ⟨bv_25, 0, none⟩) (((↑nv_19 : Int)).toNat) (((↑nv_19 : Int)).toNat))]⟩ 107) bv_27 h4 →
 J (some ⟨bv_27, 0, none⟩) h4) ∧
 0 ≤ (↑nv_19 : Int) ∧ (↑nv_19 : Int) ≤ (↑nv_19 : Int) ∧ (↑nv_19 : Int) * 24 ≤ 140737488355328 ∧
 ∀ (bv_25_1 : Nat) (h5 : H), New h (.cells ⟨repV [.slice none 0 0] ((↑nv_19 : Int)).toNat⟩ 104) bv_25_1 h5 →
 0 ≤ (↑nv_19 : Int) ∧ (↑nv_19 : Int) ≤ (↑nv_19 : Int) ∧ (↑nv_19 : Int) * 24 ≤ 140737488355328 ∧
 ∀ (bv_23_1 : Nat) (h6 : H), New h5 (.cells ⟨repV [.slice none 0 0] ((↑nv_19 : Int)).toNat⟩ 104) bv_23_1 h6 →
 1 = 1 ∧ 0 + 1 ≤ 5 ∧
 1 = 1 ∧ 3 + 1 ≤ 5 ∧
 1 = 1 ∧ 4 + 1 ≤ 5 ∧
 ∀ (bv_27_1 : Nat) (h7 : H), New h6 (.cells ⟨[(.pointer pf_0), (.slice none 0 0), (.slice none 0 0), (.slice (some ⟨bv_23_1, 0, none⟩) (((↑nv_19 : Int)).toNat) (((↑nv_19 : Int)).toNat)), (.slice (some ⟨bv_25_1, 0, none⟩) (((↑nv_19 : Int)).toNat) (((↑nv_19 : Int)).toNat))]⟩ 107) bv_27_1 h7 →
 J (some ⟨bv_27_1, 0, none⟩) h7)) ∧
 ∀ (pw_4 : Option Addr), ∀ h1 : H, J pw_4 h1 →
 HC Tryd.prog 61 [(.pointer pw_4)] h1 fun rv_29 h8 =>
 rv_29 = (.tuple ⟨[]⟩) ∧
 (pw_4 : Option Addr) ≠ none ∧
 (onP pw_4 fun bv_32 ov_32 =>
 ∃ (av_33 : Option Addr) (nv_33 cv_33 : Nat), cell h8 ⟨bv_32, (ov_32 + 2), none⟩ = some (.slice av_33 nv_33 cv_33) ∧
 InR .i64 ((↑nv_33 : Int) + 63) ∧
 0 ≤ ((↑nv_33 : Int) + 63) ∧ ((↑nv_33 : Int) + 63) ≤ hi .i64 ∧ 0 < (64 : Int) ∧
 0 ≤ (↑nv_19 : Int) ∧ (↑nv_19 : Int) ≤ (↑nv_19 : Int) ∧ (↑nv_19 : Int) * 24 ≤ 140737488355328 ∧
 ∀ (bv_38 : Nat) (h9 : H), New h8 (.cells ⟨repV [.slice none 0 0] ((↑nv_19 : Int)).toNat⟩ 22) bv_38 h9 →
 0 ≤ (↑nv_19 : Int) ∧ (↑nv_19 : Int) ≤ (↑nv_19 : Int) ∧ (↑nv_19 : Int) * 1 ≤ 140737488355328 ∧
 ∀ (bv_40 : Nat) (h10 : H), New h9 (.cells ⟨repV [.bool false] ((↑nv_19 : Int)).toNat⟩ 4) bv_40 h10 →
 ∃ J_1 : Option Addr → Nat → Nat → Int → LI, (J_1 none 0 0 0).1 h10 ∧
 ∀ (awork_8 : Option Addr) (nwork_8 cwork_8 : Nat), ∀ (v_42 : Int), ∀ h11 : H, (J_1 awork_8 nwork_8 cwork_8 v_42).1 h11 →
 (((v_42 < (↑nv_19 : Int)) →
 ∃ J_2 : H → Prop, ((pw_4 : Option Addr) ≠ none ∧
 (onP pw_4 fun bv_47 ov_47 =>
 (pw_4 : Option Addr) ≠ none ∧
 (onP pw_4 fun bv_52 ov_52 =>
 ∃ (av_48 : Option Addr) (nv_48 cv_48 : Nat), cell h11 ⟨bv_47, (ov_47 + 3), none⟩ = some (.slice av_48 nv_48 cv_48) ∧
 ∃ (av_53 : Option Addr) (nv_53 cv_53 : Nat), cell h11 ⟨bv_52, (ov_52 + 4), none⟩ = some (.slice av_53 nv_53 cv_53) ∧
 ((0 ≤ (((↑nv_33 : Int) + 63) / 64) ∧ (((↑nv_33 : Int) + 63) / 64) ≤ (((↑nv_33 : Int) + 63) / 64) ∧ (((↑nv_33 : Int) + 63) / 64) * 8 ≤ 140737488355328 ∧
 ∀ (bv_56 : Nat) (h13 : H), New h11 (.cells ⟨repV [.int .u64 0] ((((↑nv_33 : Int) + 63) / 64)).toNat⟩ 138) bv_56 h13 →
 0 ≤ v_42 ∧ v_42 < (↑nv_48 : Int) ∧
 (onP av_48 fun bv_59 ov_59 =>
 ((0 ≤ (((↑nv_33 : Int) + 63) / 64) ∧ (((↑nv_33 : Int) + 63) / 64) ≤ (((↑nv_33 : Int) + 63) / 64) ∧ (((↑nv_33 : Int) + 63) / 64) * 8 ≤ 140737488355328 ∧
 ∀ (bv_58 : Nat) (h14 : H), New h13 (.cells ⟨repV [.int .u64 0] ((((↑nv_33 : Int) + 63) / 64)).toNat⟩ 138) bv_58 h14 →
 stQ 1 h14 bv_59 (ov_59 + (v_42).toNat * 1) [(.slice (some ⟨bv_56, 0, none⟩) (((((↑nv_33 : Int) + 63) / 64)).toNat) (((((↑nv_33 : Int) + 63) / 64)).toNat))] fun h15 =>
 0 ≤ v_42 ∧ v_42 < (↑nv_53 : Int) ∧
 (onP av_53 fun bv_60 ov_60 =>
 stQ 1 h15 bv_60 (ov_60 + (v_42).toNat * 1) [(.slice (some ⟨bv_58, 0, none⟩) (((((↑nv_33 : Int) + 63) / 64)).toNat) (((((↑nv_33 : Int) + 63) / 64)).toNat))] fun h16 =>
 J_2 h16)) ∧
 stQ 1 h13 bv_59 (ov_59 + (v_42).toNat * 1) [(.slice (some ⟨bv_56, 0, none⟩) (((((↑nv_33 : Int) + 63) / 64)).toNat) (((((↑nv_33 : Int) + 63) / 64)).toNat))] fun h17 =>
 0 ≤ (((↑nv_33 : Int) + 63) / 64) ∧ (((↑nv_33 : Int) + 63) / 64) ≤ (((↑nv_33 : Int) + 63) / 64) ∧ (((↑nv_33 : Int) + 63) / 64) * 8 ≤ 140737488355328 ∧
 ∀ (bv_58_1 : Nat) (h18 : H), New h17 (.cells ⟨repV [.int .u64 0] ((((↑nv_33 : Int) + 63) / 64)).toNat⟩ 138) bv_58_1 h18 →
 0 ≤ v_42 ∧ v_42 < (↑nv_53 : Int) ∧
 (onP av_53 fun bv_60_1 ov_60_1 =>
 stQ 1 h18 bv_60_1 (ov_60_1 + (v_42).toNat * 1) [(.slice (some ⟨bv_58_1, 0, none⟩) (((((↑nv_33 : Int) + 63) / 64)).toNat) (((((↑nv_33 : Int) + 63) / 64)).toNat))] fun h19 =>
 J_2 h19)))) ∧
 0 ≤ (((↑nv_33 : Int) + 63) / 64) ∧ (((↑nv_33 : Int) + 63) / 64) ≤ (((↑nv_33 : Int) + 63) / 64) ∧ (((↑nv_33 : Int) + 63) / 64) * 8 ≤ 140737488355328 ∧
 ∀ (bv_58_2 : Nat) (h20 : H), New h11 (.cells ⟨repV [.int .u64 0] ((((↑nv_33 : Int) + 63) / 64)).toNat⟩ 138) bv_58_2 h20 →
 0 ≤ (((↑nv_33 : Int) + 63) / 64) ∧ (((↑nv_33 : Int) + 63) / 64) ≤ (((↑nv_33 : Int) + 63) / 64) ∧ (((↑nv_33 : Int) + 63) / 64) * 8 ≤ 140737488355328 ∧
 ∀ (bv_56_1 : Nat) (h21 : H), New h20 (.cells ⟨repV [.int .u64 0] ((((↑nv_33 : Int) + 63) / 64)).toNat⟩ 138) bv_56_1 h21 →
 0 ≤ v_42 ∧ v_42 < (↑nv_48 : Int) ∧
 (onP av_48 fun bv_59_1 ov_59_1 =>
 stQ 1 h21 bv_59_1 (ov_59_1 + (v_42).toNat * 1) [(.slice (some ⟨bv_56_1, 0, none⟩) (((((↑nv_33 : Int) + 63) / 64)).toNat) (((((↑nv_33 : Int) + 63) / 64)).toNat))] fun h22 =>
 0 ≤ v_42 ∧ v_42 < (↑nv_53 : Int) ∧
 (onP av_53 fun bv_60_2 ov_60_2 =>
 stQ 1 h22 bv_60_2 (ov_60_2 + (v_42).toNat * 1) [(.slice (some ⟨bv_58_2, 0, none⟩) (((((↑nv_33 : Int) + 63) / 64)).toNat) (((((↑nv_33 : Int) + 63) / 64)).toNat))] fun h23 =>
 J_2 h23)))))) ∧
 ∀ h12 : H, J_2 h12 →
 (pf_0 : Option Addr) ≠ none ∧
 (onP pf_0 fun bv_63 ov_63 =>
 ∃ (av_64 : Option Addr) (nv_64 cv_64 : Nat), cell h12 ⟨bv_63, (ov_63 + 4), none⟩ = some (.slice av_64 nv_64 cv_64) ∧
 0 ≤ v_42 ∧ v_42 < (↑nv_64 : Int) ∧
 (onP av_64 fun bv_66 ov_66 =>
 ∃ (av_69 : Option Addr) (nv_69 cv_69 : Nat), cell h12 ⟨bv_66, (((ov_66 + (v_42).toNat * 4) + 1) + 2), none⟩ = some (.slice av_69 nv_69 cv_69) ∧
 ∃ J_3 : Int → LI, (J_3 0).1 h12 ∧
 ∀ (v_71 : Int), ∀ h24 : H, (J_3 v_71).1 h24 →
 (((v_71 < (↑nv_69 : Int)) →
 0 ≤ v_71 ∧ v_71 < (↑nv_69 : Int) ∧
 (onP av_69 fun bv_73 ov_73 =>
 ∃ (v_74 : Int), cell h24 ⟨bv_73, (ov_73 + (v_71).toNat * 1), none⟩ = some (.int .i64 v_74) ∧
 0 ≤ v_74 ∧ v_74 < (↑(((↑nv_19 : Int)).toNat) : Int) ∧
 ∃ (av_80 : Option Addr) (nv_80 cv_80 : Nat), cell h24 ⟨bv_38, (0 + (v_74).toNat * 1), none⟩ = some (.slice av_80 nv_80 cv_80) ∧
 1 = 1 ∧ 0 + 1 ≤ 1 ∧
 ∀ (bv_82 : Nat) (h25 : H), New h24 (.cells ⟨[(.int .i64 v_42)]⟩ 3) bv_82 h25 →
 apQ 3 1 8 [.int .i64 0] h25 av_80 nv_80 cv_80 (some ⟨bv_82, 0, none⟩) 1 fun av_83 nv_83 cv_83 h26 =>
 0 ≤ v_74 ∧ v_74 < (↑(((↑nv_19 : Int)).toNat) : Int) ∧
 stQ 1 h26 bv_38 (0 + (v_74).toNat * 1) [(.slice av_83 nv_83 cv_83)] fun h27 =>
 InR .i64 (v_71 + 1) ∧
 (J_3 (v_71 + 1)).1 h27 ∧ (J_3 (v_71 + 1)).2 h27 < (J_3 v_71).2 h24)) ∧
 (¬ (v_71 < (↑nv_69 : Int)) →
 1 = 1 ∧ 0 + 1 ≤ 1 ∧
 ∀ (bv_88 : Nat) (h28 : H), New h24 (.cells ⟨[(.int .i64 v_42)]⟩ 3) bv_88 h28 →
 apQ 3 1 8 [.int .i64 0] h28 awork_8 nwork_8 cwork_8 (some ⟨bv_88, 0, none⟩) 1 fun av_89 nv_89 cv_89 h29 =>
 0 ≤ v_42 ∧ v_42 < (↑(((↑nv_19 : Int)).toNat) : Int) ∧
 stQ 1 h29 bv_40 (0 + (v_42).toNat * 1) [(.bool true)] fun h30 =>
 InR .i64 (v_42 + 1) ∧
 (J_1 av_89 nv_89 cv_89 (v_42 + 1)).1 h30 ∧ (J_1 av_89 nv_89 cv_89 (v_42 + 1)).2 h30 < (J_1 awork_8 nwork_8 cwork_8 v_42).2 h11))))) ∧
 (¬ (v_42 < (↑nv_19 : Int)) →
 0 ≤ (((↑nv_33 : Int) + 63) / 64) ∧ (((↑nv_33 : Int) + 63) / 64) ≤ (((↑nv_33 : Int) + 63) / 64) ∧ (((↑nv_33 : Int) + 63) / 64) * 8 ≤ 140737488355328 ∧
 ∀ (bv_95 : Nat) (h31 : H), New h11 (.cells ⟨repV [.int .u64 0] ((((↑nv_33 : Int) + 63) / 64)).toNat⟩ 138) bv_95 h31 →
 ∃ J_4 : Option Addr → Nat → Nat → LI, (J_4 awork_8 nwork_8 cwork_8).1 h31 ∧
 ∀ (awork_8_1 : Option Addr) (nwork_8_1 cwork_8_1 : Nat), ∀ h32 : H, (J_4 awork_8_1 nwork_8_1 cwork_8_1).1 h32 →
 (((0 < (↑nwork_8_1 : Int)) →
 InR .i64 ((↑nwork_8_1 : Int) - 1) ∧
 0 ≤ ((↑nwork_8_1 : Int) - 1) ∧ ((↑nwork_8_1 : Int) - 1) < (↑nwork_8_1 : Int) ∧
 (onP awork_8_1 fun bv_103 ov_103 =>
 ∃ (v_104 : Int), cell h32 ⟨bv_103, (ov_103 + (((↑nwork_8_1 : Int) - 1)).toNat * 1), none⟩ = some (.int .i64 v_104) ∧
 InR .i64 ((↑nwork_8_1 : Int) - 1) ∧
 nwork_8_1 ≤ cwork_8_1 ∧ 0 ≤ ((↑nwork_8_1 : Int) - 1) ∧ ((↑nwork_8_1 : Int) - 1) ≤ (↑cwork_8_1 : Int) ∧ 
 ∃ qv_109 : Option Addr, qv_109 = awork_8_1 ∧
 0 ≤ v_104 ∧ v_104 < (↑(((↑nv_19 : Int)).toNat) : Int) ∧
 stQ 1 h32 bv_40 (0 + (v_104).toNat * 1) [(.bool false)] fun h33 =>
 (pw_4 : Option Addr) ≠ none ∧
 (onP pw_4 fun bv_116 ov_116 =>
 ∃ (av_117 : Option Addr) (nv_117 cv_117 : Nat), cell h33 ⟨bv_116, (ov_116 + 4), none⟩ = some (.slice av_117 nv_117 cv_117) ∧
 0 ≤ v_104 ∧ v_104 < (↑nv_117 : Int) ∧
 (onP av_117 fun bv_119 ov_119 =>
 ∃ (av_120 : Option Addr) (nv_120 cv_120 : Nat), cell h33 ⟨bv_119, (ov_119 + (v_104).toNat * 1), none⟩ = some (.slice av_120 nv_120 cv_120) ∧
 cpQ 1 h33 (some ⟨bv_95, 0, none⟩) (((((↑nv_33 : Int) + 63) / 64)).toNat) av_120 nv_120 fun nv_121 h34 =>
 HC Tryd.prog 62 [(.pointer pw_4), (.int .i64 v_104), (.slice (some ⟨bv_95, 0, none⟩) (((((↑nv_33 : Int) + 63) / 64)).toNat) (((((↑nv_33 : Int) + 63) / 64)).toNat))] h34 fun rv_125 h35 =>
 rv_125 = (.tuple ⟨[]⟩) ∧
 (pw_4 : Option Addr) ≠ none ∧
 (onP pw_4 fun bv_128 ov_128 =>
 ∃ (av_129 : Option Addr) (nv_129 cv_129 : Nat), cell h35 ⟨bv_128, (ov_128 + 3), none⟩ = some (.slice av_129 nv_129 cv_129) ∧
 0 ≤ v_104 ∧ v_104 < (↑nv_129 : Int) ∧
 (onP av_129 fun bv_131 ov_131 =>
 ∃ (av_132 : Option Addr) (nv_132 cv_132 : Nat), cell h35 ⟨bv_131, (ov_131 + (v_104).toNat * 1), none⟩ = some (.slice av_132 nv_132 cv_132) ∧
 HC Tryd.prog 63 [(.slice av_132 nv_132 cv_132), (.slice (some ⟨bv_95, 0, none⟩) (((((↑nv_33 : Int) + 63) / 64)).toNat) (((((↑nv_33 : Int) + 63) / 64)).toNat))] h35 fun rv_134 h36 =>
 ∃ (v_134 : Bool), rv_134 = (.bool v_134) ∧
 (((!v_134) = true →
 (J_4 qv_109 ((((↑nwork_8_1 : Int) - 1) - 0).toNat) (((↑cwork_8_1 : Int) - 0).toNat)).1 h36 ∧ (J_4 qv_109 ((((↑nwork_8_1 : Int) - 1) - 0).toNat) (((↑cwork_8_1 : Int) - 0).toNat)).2 h36 < (J_4 awork_8_1 nwork_8_1 cwork_8_1).2 h32) ∧
 ((!v_134) = false →
 0 ≤ v_104 ∧ v_104 < (↑(((↑nv_19 : Int)).toNat) : Int) ∧
 ∃ (av_139 : Option Addr) (nv_139 cv_139 : Nat), cell h36 ⟨bv_38, (0 + (v_104).toNat * 1), none⟩ = some (.slice av_139 nv_139 cv_139) ∧
 ∃ J_5 : Option Addr → Nat → Nat → Int → LI, (J_5 qv_109 ((((↑nwork_8_1 : Int) - 1) - 0).toNat) (((↑cwork_8_1 : Int) - 0).toNat) 0).1 h36 ∧
 ∀ (awork_8_2 : Option Addr) (nwork_8_2 cwork_8_2 : Nat), ∀ (v_141 : Int), ∀ h37 : H, (J_5 awork_8_2 nwork_8_2 cwork_8_2 v_141).1 h37 →
 (((v_141 < (↑nv_139 : Int)) →
 0 ≤ v_141 ∧ v_141 < (↑nv_139 : Int) ∧
 (onP av_139 fun bv_143 ov_143 =>
 ∃ (v_144 : Int), cell h37 ⟨bv_143, (ov_143 + (v_141).toNat * 1), none⟩ = some (.int .i64 v_144) ∧
 ∃ J_6 : Bool → H → Prop, ((pw_4 : Option Addr) ≠ none ∧
 (onP pw_4 fun bv_147 ov_147 =>
 (pw_4 : Option Addr) ≠ none ∧
 (onP pw_4 fun bv_154 ov_154 =>
 ((∃ (av_148 : Option Addr) (nv_148 cv_148 : Nat), cell h37 ⟨bv_147, (ov_147 + 4), none⟩ = some (.slice av_148 nv_148 cv_148) ∧
 0 ≤ v_144 ∧ v_144 < (↑nv_148 : Int) ∧
 (onP av_148 fun bv_150 ov_150 =>
 ∃ (av_151 : Option Addr) (nv_151 cv_151 : Nat), cell h37 ⟨bv_150, (ov_150 + (v_144).toNat * 1), none⟩ = some (.slice av_151 nv_151 cv_151) ∧
 ∃ (av_155 : Option Addr) (nv_155 cv_155 : Nat), cell h37 ⟨bv_154, (ov_154 + 3), none⟩ = some (.slice av_155 nv_155 cv_155) ∧
 0 ≤ v_104 ∧ v_104 < (↑nv_155 : Int) ∧
 (onP av_155 fun bv_157 ov_157 =>
 ∃ (av_158 : Option Addr) (nv_158 cv_158 : Nat), cell h37 ⟨bv_157, (ov_157 + (v_104).toNat * 1), none⟩ = some (.slice av_158 nv_158 cv_158) ∧
 HC Tryd.prog 63 [(.slice av_151 nv_151 cv_151), (.slice av_158 nv_158 cv_158)] h37 fun rv_159 h39 =>
 ∃ (v_159 : Bool), rv_159 = (.bool v_159) ∧
 ((v_159 = true →
 0 ≤ v_144 ∧ v_144 < (↑(((↑nv_19 : Int)).toNat) : Int) ∧
 ∃ (v_164 : Bool), cell h39 ⟨bv_40, (0 + (v_144).toNat * 1), none⟩ = some (.bool v_164) ∧
 J_6 (!v_164) h39) ∧
 (v_159 = false →
 J_6 false h39))))) ∧
 ∃ (av_155_1 : Option Addr) (nv_155_1 cv_155_1 : Nat), cell h37 ⟨bv_154, (ov_154 + 3), none⟩ = some (.slice av_155_1 nv_155_1 cv_155_1) ∧
 0 ≤ v_104 ∧ v_104 < (↑nv_155_1 : Int) ∧
 (onP av_155_1 fun bv_157_1 ov_157_1 =>
 ∃ (av_158_1 : Option Addr) (nv_158_1 cv_158_1 : Nat), cell h37 ⟨bv_157_1, (ov_157_1 + (v_104).toNat * 1), none⟩ = some (.slice av_158_1 nv_158_1 cv_158_1) ∧
 ∃ (av_148_1 : Option Addr) (nv_148_1 cv_148_1 : Nat), cell h37 ⟨bv_147, (ov_147 + 4), none⟩ = some (.slice av_148_1 nv_148_1 cv_148_1) ∧
 0 ≤ v_144 ∧ v_144 < (↑nv_148_1 : Int) ∧
 (onP av_148_1 fun bv_150_1 ov_150_1 =>
 ∃ (av_151_1 : Option Addr) (nv_151_1 cv_151_1 : Nat), cell h37 ⟨bv_150_1, (ov_150_1 + (v_144).toNat * 1), none⟩ = some (.slice av_151_1 nv_151_1 cv_151_1) ∧
 HC Tryd.prog 63 [(.slice av_151_1 nv_151_1 cv_151_1), (.slice av_158_1 nv_158_1 cv_158_1)] h37 fun rv_159_1 h40 =>
 ∃ (v_159_1 : Bool), rv_159_1 = (.bool v_159_1) ∧
 ((v_159_1 = true →
 0 ≤ v_144 ∧ v_144 < (↑(((↑nv_19 : Int)).toNat) : Int) ∧
 ∃ (v_164_1 : Bool), cell h40 ⟨bv_40, (0 + (v_144).toNat * 1), none⟩ = some (.bool v_164_1) ∧
 J_6 (!v_164_1) h40) ∧
 (v_159_1 = false →
 J_6 false h40)))))))) ∧
 ∀ (v_166 : Bool), ∀ h38 : H, J_6 v_166 h38 →
 ((v_166 = true →
 0 ≤ v_144 ∧ v_144 < (↑(((↑nv_19 : Int)).toNat) : Int) ∧
 stQ 1 h38 bv_40 (0 + (v_144).toNat * 1) [(.bool true)] fun h41 =>
 1 = 1 ∧ 0 + 1 ≤ 1 ∧
 ∀ (bv_172 : Nat) (h42 : H), New h41 (.cells ⟨[(.int .i64 v_144)]⟩ 3) bv_172 h42 →
 apQ 3 1 8 [.int .i64 0] h42 awork_8_2 nwork_8_2 cwork_8_2 (some ⟨bv_172, 0, none⟩) 1 fun av_173 nv_173 cv_173 h43 =>
 InR .i64 (v_141 + 1) ∧
 (J_5 av_173 nv_173 cv_173 (v_141 + 1)).1 h43 ∧ (J_5 av_173 nv_173 cv_173 (v_141 + 1)).2 h43 < (J_5 awork_8_2 nwork_8_2 cwork_8_2 v_141).2 h37) ∧
 (v_166 = false →
 InR .i64 (v_141 + 1) ∧
 (J_5 awork_8_2 nwork_8_2 cwork_8_2 (v_141 + 1)).1 h38 ∧ (J_5 awork_8_2 nwork_8_2 cwork_8_2 (v_141 + 1)).2 h38 < (J_5 awork_8_2 nwork_8_2 cwork_8_2 v_141).2 h37)))) ∧
 (¬ (v_141 < (↑nv_139 : Int)) →
 (J_4 awork_8_2 nwork_8_2 cwork_8_2).1 h37 ∧ (J_4 awork_8_2 nwork_8_2 cwork_8_2).2 h37 < (J_4 awork_8_1 nwork_8_1 cwork_8_1).2 h32)))))))))) ∧
 (¬ (0 < (↑nwork_8_1 : Int)) →
 R (.pointer pw_4) h32))))))
theorem hc29 {pf_0 : Option Addr} {h : H} {R : Value → H → Prop} (x : sh29 pf_0 h R) : HC Tryd.prog 29 [(.pointer pf_0)] h R :=
  FL.sound mixed ck29 ⟨rfl, Eq.mp (by unfold sh29; kernel_rfl) x⟩
end Go.Proofs.Try

/- flowing: the walk. -/
set_option maxRecDepth 100000
set_option linter.unusedVariables false
set_option linter.unusedSimpArgs false
open Go Go.Fw Go.Proofs
namespace Go.Proofs.Try

def RowW (h : H) (vs : List Value) (l : List W) : Prop := ∃ p n c b, vs = [.slice p n c] ∧ OwnW h p b l ∧ l.length = n
theorem RowW.ext {h h' : H} (e : Ext h h') {vs : List Value} {l : List W} : RowW h vs l → RowW h' vs l := fun ⟨p, n, c, b, h1, h2, h3⟩ => ⟨p, n, c, b, h1, h2.ext e, h3⟩
/-- A flow that is reckoned. -/
structure FlowAt (h : H) (bw fb fo : Nat) (f : Fnc) (X names : List Int) (A B : Nat → List W) (size : Nat) : Prop where
  fp : cell h ⟨bw, 0 + 0, none⟩ = some (.pointer (some ⟨fb, fo, none⟩))
  nm : ∃ np nn nc, cell h ⟨bw, 0 + 2, none⟩ = some (.slice np nn nc) ∧ IntsAt h np nn names
  ah : ∃ p n c, cell h ⟨bw, 0 + 3, none⟩ = some (.slice p n c) ∧ RowAt RowW 1 h p n ((List.range f.blocks.length).map A)
  be : ∃ p n c, cell h ⟨bw, 0 + 4, none⟩ = some (.slice p n c) ∧ RowAt RowW 1 h p n ((List.range f.blocks.length).map B)
  ok : NmOk f.regs.toNat (Wnt f) X names
  sa : ∀ i < f.blocks.length, (A i).length = size ∧ (∀ j, names.length ≤ j → inR (A i) j = false) ∧ ∀ (j : Nat) r, names[j]? = some r → (inR (A i) j = true ↔ LA f i r.toNat)
  sb : ∀ i < f.blocks.length, (B i).length = size ∧ (∀ j, names.length ≤ j → inR (B i) j = false) ∧ ∀ (j : Nat) r, names[j]? = some r → (inR (B i) j = true ↔ LB f i r.toNat)
  sz : size ≤ 5000
  le : names.length ≤ 64 * size
theorem FlowAt.ext {h h' : H} {bw fb fo : Nat} {f : Fnc} {X names : List Int} {A B : Nat → List W} {size : Nat} (x : FlowAt h bw fb fo f X names A B size) (e : Ext h h') : FlowAt h' bw fb fo f X names A B size := by
  obtain ⟨np, nn, nc, n1, n2⟩ := x.nm
  obtain ⟨p, n, c, a1, a2⟩ := x.ah
  obtain ⟨q, m, d, b1, b2⟩ := x.be
  exact ⟨e.cell x.fp, ⟨np, nn, nc, e.cell n1, n2.ext e⟩, ⟨p, n, c, e.cell a1, a2.mono e fun _ _ _ => RowW.ext e⟩, ⟨q, m, d, e.cell b1, b2.mono e fun _ _ _ => RowW.ext e⟩, x.ok, x.sa, x.sb, x.sz, x.le⟩
theorem inc_le : ∀ {l : List Int}, l.Pairwise (· < ·) → (∀ x ∈ l, 0 ≤ x) → ∀ (i : Nat) (n : Int), l[i]? = some n → (i : Int) ≤ n := by
  intro l hp h0 i
  induction i with
  | zero => intro n hn; exact h0 n (List.mem_of_getElem? hn)
  | succ i ih =>
    intro n hn
    obtain ⟨hlt, hx⟩ := List.getElem?_eq_some_iff.1 hn
    have h1 : l[i]? = some (l[i]'(by omega)) := by simp
    have := ih _ h1
    have h2 := List.pairwise_iff_getElem.1 hp i (i + 1) (by omega) hlt (by omega)
    rw [hx] at h2
    omega
theorem NmOk.card {R : Nat} {P : Nat → Prop} {X names : List Int} (nm : NmOk R P X names) : names.length ≤ R := by
  rcases Nat.eq_zero_or_pos names.length with h | h
  · omega
  · have h1 : names[names.length - 1]? = some (names[names.length - 1]'(by omega)) := by simp
    have h2 := inc_le nm.inc (fun x hx => by obtain ⟨i, hi⟩ := List.getElem?_of_mem hx; exact (nm.back i x hi).1) _ _ h1
    have := (nm.back _ _ h1).2.1
    omega
theorem cp_own {h : H} {pd ps : Option Addr} {n bd bs : Nat} {d s : List W} (wd : OwnW h pd bd d) (ws : OwnW h ps bs s) (hd : d.length = n) (hs : s.length = n) {K : Int → H → Prop} (hk : ∀ m h', OwnW h' pd bd s → Mod (fun c => c = bd ∧ d ≠ []) h h' → K m h') : cpQ 1 h pd n ps n K := by
  unfold cpQ
  have hr := ws.rdc (enc := fun v : W => [Value.int .u64 v.toNat]) (k := 1) (fun _ => rfl) hs
  rw [Nat.min_self]
  refine ⟨_, hr, by rw [flat1]; exact oneA_map (fun _ => rfl) s, fun h0 => ?_, fun h0 => ?_⟩
  · have e1 : d = [] := List.length_eq_zero_iff.1 (by omega)
    have e2 : s = [] := List.length_eq_zero_iff.1 (by omega)
    exact hk 0 h (by rw [e2, ← e1]; exact wd) (Mod.refl _ _)
  · have hne : d ≠ [] := by rintro rfl; simp at hd; omega
    obtain ⟨e, r, hb⟩ := wd.blk hne
    have hfl : (flat (fun v : W => [Value.int .u64 v.toNat]) s).length = n := by rw [flat_len (k := 1) (fun _ => rfl), hs, Nat.mul_one]
    have hfd : (flat (fun v : W => [Value.int .u64 v.toNat]) d).length = n := by rw [flat_len (k := 1) (fun _ => rfl), hd, Nat.mul_one]
    refine onP_at (wd.ptr hne) ⟨_, _, hb, by rw [List.length_append, hfd]; omega, fun h' hu => hk _ h' ⟨fun _ => wd.ptr hne, fun _ => ⟨e, r, ?_⟩⟩ (hu.mod ⟨rfl, hne⟩)⟩
    rw [hu.get hb, setAt_append (by rw [hfl, hfd]; omega), setAt_zero (by rw [hfl, hfd]; exact Nat.le_refl _), hfl, ← hfd, List.drop_length, List.append_nil]

set_option maxHeartbeats 1000000 in
theorem c29 {h : H} {f : Fnc} {fb fo : Nat} (hf : FncAt h fb fo f) (hP : FncP f) (hz : SzF f) (hs : SzR f) {R : Value → H → Prop}
    (k : ∀ h' bw X names A B size, Ext h h' → FlowAt h' bw fb fo f X names A B size → R (.pointer (some ⟨bw, 0, none⟩)) h') :
    HC Tryd.prog 29 [.pointer (some ⟨fb, fo, none⟩)] h R := by
  have hreg : 0 ≤ f.regs ∧ f.regs ≤ 262144 := ⟨hP.1.1, hP.1.2.1⟩
  obtain ⟨fp, fn, fc, fq, fm, fd, C0⟩ := hf.cells
  have hbl := C0.bs.len
  have hnb := hs.nb
  apply hc29; unfold sh29
  refine ⟨by simp, onP_at rfl ⟨_, _, _, C0.c4, ?_⟩⟩
  simp only [Int.toNat_natCast]
  have fmk : 0 ≤ (fm : Int) ∧ (fm : Int) ≤ (fm : Int) ∧ (fm : Int) * 24 ≤ 140737488355328 := ⟨by omega, by omega, by omega⟩
  have mkS : ∀ {hx hy : H} {bv : Nat} {e : TypeId}, New hx (.cells ⟨repV [.slice none 0 0] fm⟩ e) bv hy → OwnS hy (some ⟨bv, 0, none⟩) bv (List.replicate fm (none, 0, 0)) := fun hN => Own.ofRep (g := sl3) (x := (none, 0, 0)) hN
  refine ⟨fun pw h1 => ∃ bw bA bB, pw = some ⟨bw, 0, none⟩ ∧ Ext h h1 ∧ (h.size ≤ bw ∧ h.size ≤ bA ∧ h.size ≤ bB ∧ bw < h1.size ∧ bA < h1.size ∧ bB < h1.size ∧ bw ≠ bA ∧ bw ≠ bB ∧ bA ≠ bB) ∧
      OwnF h1 bw ⟨.pointer (some ⟨fb, fo, none⟩), .slice none 0 0, .slice none 0 0, .slice (some ⟨bA, 0, none⟩) fm fm, .slice (some ⟨bB, 0, none⟩) fm fm⟩ ∧ OwnS h1 (some ⟨bA, 0, none⟩) bA (List.replicate fm (none, 0, 0)) ∧ OwnS h1 (some ⟨bB, 0, none⟩) bB (List.replicate fm (none, 0, 0)), ⟨?_, ?_⟩, ?_⟩
  · refine ⟨fmk.1, fmk.2.1, fmk.2.2, fun bA h2 hN2 => ⟨fmk.1, fmk.2.1, fmk.2.2, fun bB h3 hN3 => ⟨by simp, by simp, by simp, by simp, by simp, by simp, fun bw h4 hN4 => ⟨bw, bA, bB, rfl, (hN2.ext.trans hN3.ext).trans hN4.ext, ?_, Own.new (l := [_]) (rest := []) hN4, ((mkS hN2).ext hN3.ext).ext hN4.ext, (mkS hN3).ext hN4.ext⟩⟩⟩⟩
    have := hN2.blk; have := hN2.size; have := hN3.blk; have := hN3.size; have := hN4.blk; have := hN4.size
    omega
  · refine ⟨fmk.1, fmk.2.1, fmk.2.2, fun bB h2 hN2 => ⟨fmk.1, fmk.2.1, fmk.2.2, fun bA h3 hN3 => ⟨by simp, by simp, by simp, by simp, by simp, by simp, fun bw h4 hN4 => ⟨bw, bA, bB, rfl, (hN2.ext.trans hN3.ext).trans hN4.ext, ?_, Own.new (l := [_]) (rest := []) hN4, (mkS hN3).ext hN4.ext, ((mkS hN2).ext hN3.ext).ext hN4.ext⟩⟩⟩⟩
    have := hN2.blk; have := hN2.size; have := hN3.blk; have := hN3.size; have := hN4.blk; have := hN4.size
    omega
  rintro _ h1 ⟨bw, bA, bB, rfl, e1, hbs, wF1, wA1, wB1⟩
  refine c61 hf e1 hbs.1 hP hz hs wF1 rfl rfl fun h8 X names xb np nn nc wF8 wX8 hxb G8 nm m8 => ?_
  have hz8 := m8.size
  have hnl := G8.len
  have hcard := nm.card
  have wA8 := wA1.mod m8 (by omega)
  have wB8 := wB1.mod m8 (by omega)
  have e8 : Ext h h8 := m8.ext e1 fun c hc he => by omega
  have hxbl : X ≠ [] → xb < h8.size := fun hne => wX8.lt hne
  obtain ⟨size, hsize⟩ : ∃ size : Nat, size = (nn + 63) / 64 := ⟨_, rfl⟩
  have hsz : ((nn : Int) + 63) / 64 = (size : Int) := by omega
  simp only [hsz, Int.toNat_natCast]
  refine ⟨by trivial, by simp, onP_at rfl ⟨_, _, _, wF8.get 2 rfl, ?_⟩⟩
  simp only [hsz, Int.toNat_natCast]
  have hi63 : (nn : Int) + 63 ≤ Fw.hi .i64 := by show (nn : Int) + 63 ≤ 9223372036854775807; omega
  refine ⟨i64ok (by omega) (by omega), by omega, hi63, by omega, fmk.1, fmk.2.1, fmk.2.2, fun bL h9 hN9 => ⟨fmk.1, fmk.2.1, by omega, fun bW h10 hN10 => ?_⟩⟩
  have hb9 := hN9.blk
  have hz9 := hN9.size
  have hb10 := hN10.blk
  have hz10 := hN10.size
  have e810 : Ext h8 h10 := hN9.ext.trans hN10.ext
  have hblk : ∀ x ∈ f.blocks, BlkOk f x ∧ ∀ t ∈ x.term.to, 0 ≤ t ∧ t < f.blocks.length := fun x hx => ⟨blkOk (hP.2.2.2 x hx) (hz.2.2 x hx), (hP.2.2.2 x hx).2.1⟩
  have hto2 : ∀ x ∈ f.blocks, x.term.to.length ≤ 2 := fun x hx => by rcases (hP.2.2.2 x hx).2.2 with h | h | h | h <;> omega
  let C : Cst := ⟨fm, size, h10, bL, bA, bB, bW⟩
  have ok : C.Ok := by constructor <;> dsimp only [C] <;> omega
  -- what stays
  let S1 : Nat → Prop := fun q => q = bL ∨ q = bA ∨ q = bB ∨ q = bW ∨ h10.size ≤ q
  have keep : ∀ {h'}, Fw.Mod S1 h10 h' → Ext h h' ∧ OwnF h' bw { FV.mk (.pointer (some ⟨fb, fo, none⟩)) (.slice none 0 0) (.slice none 0 0) (.slice (some ⟨bA, 0, none⟩) fm fm) (.slice (some ⟨bB, 0, none⟩) fm fm) with index := .slice (some ⟨xb, 0, none⟩) f.regs.toNat f.regs.toNat, names := .slice np nn nc } ∧ OwnI h' (some ⟨xb, 0, none⟩) xb X ∧ IntsAt h' np nn names := fun {h'} m => by
    have e0 := e810.size
    have hxx : X ≠ [] → ¬ S1 xb := fun hne hx => by have := hxbl hne; rcases hx with h | h | h | h | h <;> omega
    refine ⟨m.ext (e8.trans e810) fun c hc hx => by have := e8.size; rcases hx with h | h | h | h | h <;> omega, (wF8.ext e810).mod m (fun hx => by rcases hx with h | h | h | h | h <;> omega), ?_, ?_⟩
    · by_cases hne : X = []
      · rw [hne]; exact ⟨fun h => absurd rfl h, fun h => absurd rfl h⟩
      · exact (wX8.ext e810).mod m (hxx hne)
    · exact ((G8.ext e810).mod m fun b hb hc hx => by have := G8.lo hb hc; rcases hx with h | h | h | h | h <;> omega).sl (enc := fun x : Int => [Value.int .i64 x]) (k := 1) fun _ => rfl
  have wL10 : OwnS h10 (some ⟨bL, 0, none⟩) bL (List.replicate fm (none, 0, 0)) := (mkS hN9).ext hN10.ext
  have G0 : PI C ⟨fun _ => 7, List.replicate fm (none, 0, 0), List.replicate fm (none, 0, 0), fun _ => 0, fun _ => 0, fun _ => [], fun _ => [], List.replicate fm (none, 0, 0), fun _ => [], [], List.replicate fm false⟩ 0 0 h10 none 0 0 := by
    refine ⟨⟨wL10, by simp [C], fun i p m c hT => ?_⟩, ⟨wA8.ext e810, by simp [C], fun i hi => by omega⟩, ⟨wB8.ext e810, by simp [C], fun i hi => by omega⟩, ⟨Grow.nil _ _ _ _ _, fun b ⟨o, h⟩ => by simp at h⟩, Own.ofRep (g := Value.bool) (x := false) hN10, Nat.le_refl _, Nat.zero_le _, Nat.zero_le _⟩
    rw [List.getElem?_replicate] at hT
    split at hT <;> cases hT
    exact ⟨Grow.nil _ _ _ _ _, fun b ⟨o, h⟩ => by simp at h⟩
  have mkW : ∀ {hx hy : H} {bv : Nat} {e : TypeId}, New hx (.cells ⟨repV [.int .u64 0] size⟩ e) bv hy → OwnW hy (some ⟨bv, 0, none⟩) bv (List.replicate size 0#64) := fun hN => Own.ofRep (g := fun v : W => .int .u64 v.toNat) (x := 0#64) hN
  have szk : 0 ≤ (size : Int) ∧ (size : Int) ≤ (size : Int) ∧ (size : Int) * 8 ≤ 140737488355328 := ⟨by omega, by omega, by omega⟩
  refine ⟨fun p n c v => (fun h' => 0 ≤ v ∧ v ≤ fm ∧ ∃ G, PI C G v.toNat v.toNat h' p n c ∧ G.wk = (List.range v.toNat).map (fun i : Nat => (i : Int)) ∧ (G.ws.length = fm ∧ ∀ i < v.toNat, G.ws[i]? = some true) ∧ (∀ i < v.toNat, G.A i = List.replicate size 0#64 ∧ G.B i = List.replicate size 0#64) ∧
      (∀ i, (G.rows i).length ≤ 2 * v.toNat ∧ ∀ q : Int, q ∈ G.rows i ↔ 0 ≤ q ∧ q < v ∧ ∃ x, f.blocks[q.toNat]? = some x ∧ (i : Int) ∈ x.term.to) ∧ Fw.Mod S1 h10 h', fun _ => (fm - v).toNat), ⟨by omega, by omega, _, G0, rfl, ⟨by simp, fun i hi => by simp at hi⟩, fun i hi => by simp at hi, fun i => ⟨by simp, fun q => ⟨fun h => by simp at h, fun h => by omega⟩⟩, Mod.refl _ _⟩, ?_⟩
  rintro wp wn wc v h11 ⟨v0, v1, G, PG, gwk, gws, gAB, grows, m11⟩
  refine ⟨fun vlt => ?_, fun vge => ?_⟩
  · have vN : v.toNat < fm := by omega
    obtain ⟨x, b', o', hx, hp, vs, ⟨bp, bn, bc, tp, tn, tc, rfl, hbody, hbc, hto, htc⟩, hcell⟩ := C0.bs.get v0 vlt
    have hxm := List.mem_of_getElem? hx
    have hx2 := hto2 x hxm
    have htl := hto.len
    obtain ⟨e11, wF11, wX11, nm11⟩ := keep m11
    have hz11 := m11.size
    have v1' : (v + 1).toNat = v.toNat + 1 := by omega
    have zl : (List.replicate size 0#64).length = size := by simp
    have hwn := PG.wk.g.len
    rw [gwk, List.length_map, List.length_range] at hwn
    have fin : ∀ {h' : H} {tg : Nat → Nat} {LA LB : List S3} {a b : Nat → Nat}, PI C ⟨tg, LA, LB, a, b, upd1 G.A v.toNat (List.replicate size 0#64), upd1 G.B v.toNat (List.replicate size 0#64), G.T, G.rows, G.wk, G.ws⟩ (v.toNat + 1) (v.toNat + 1) h' wp wn wc → Fw.Mod S1 h10 h' →
        ∃ G', PI C G' (v.toNat + 1) (v.toNat + 1) h' wp wn wc ∧ (G'.wk = G.wk ∧ G'.ws = G.ws ∧ G'.rows = G.rows) ∧ (∀ i < v.toNat + 1, G'.A i = List.replicate size 0#64 ∧ G'.B i = List.replicate size 0#64) ∧ Fw.Mod S1 h10 h' := fun P m => by
      refine ⟨_, P, ⟨rfl, rfl, rfl⟩, fun i hi => ?_, m⟩
      by_cases e : i = v.toNat
      · subst e; exact ⟨upd1_same _ _ _, upd1_same _ _ _⟩
      · show upd1 _ _ _ i = _ ∧ upd1 _ _ _ i = _
        rw [upd1_ne _ _ e, upd1_ne _ _ e]; exact gAB i (by omega)
    have tA : bA < h10.size := by omega
    have tB : bB < h10.size := by omega
    refine ⟨fun h' => ∃ G', PI C G' (v.toNat + 1) (v.toNat + 1) h' wp wn wc ∧ (G'.wk = G.wk ∧ G'.ws = G.ws ∧ G'.rows = G.rows) ∧ (∀ i < v.toNat + 1, G'.A i = List.replicate size 0#64 ∧ G'.B i = List.replicate size 0#64) ∧ Fw.Mod S1 h10 h', ⟨by simp, onP_at rfl ⟨by simp, onP_at rfl ⟨_, _, _, wF11.get 3 rfl, _, _, _, wF11.get 4 rfl, ⟨szk.1, szk.2.1, szk.2.2, fun bv1 h13 hN13 => ⟨v0, vlt, onP_at rfl ⟨⟨szk.1, szk.2.1, szk.2.2, fun bv2 h14 hN14 => ?_⟩, ?_⟩⟩⟩, szk.1, szk.2.1, szk.2.2, fun bv2 h20 hN20 => ⟨szk.1, szk.2.1, szk.2.2, fun bv1 h21 hN21 => ⟨v0, vlt, onP_at rfl ?_⟩⟩⟩⟩⟩, ?_⟩
    · have h13b := hN13.blk; have h13s := hN13.size; have h14b := hN14.blk; have h14s := hN14.size
      have x14 := (PG.new ok hN13 (4 * v.toNat + 1)).new ok hN14 (4 * v.toNat + 2)
      refine x14.putA ok vN ((mkW hN13).ext hN14.ext) zl (by dsimp only [C]; omega) (by omega) (by show (if bv1 = bv2 then _ else if bv1 = bv1 then _ else _) = _; rw [if_neg (by omega), if_pos rfl]) fun h15 x15 m15 => ⟨v0, vlt, onP_at rfl ?_⟩
      have h15s := m15.size
      refine x15.putB ok vN ((mkW hN14).mod m15 (by dsimp only [C]; omega)) zl (by dsimp only [C]; omega) (by omega) (by show (if bv2 = bv2 then _ else _) = _; rw [if_pos rfl]) fun h16 x16 m16 => fin x16 ?_
      exact (((m11.trans (hN13.mod S1) fun _ _ h => h).trans (hN14.mod S1) fun _ _ h => h).trans (m15.wid (S' := S1) fun c _ hc => .inr (.inl hc)) fun _ _ h => h).trans (m16.wid (S' := S1) fun c _ hc => .inr (.inr (.inl hc))) fun _ _ h => h
    · have h13b := hN13.blk; have h13s := hN13.size
      have x13 := PG.new ok hN13 (4 * v.toNat + 1)
      refine x13.putA ok vN (mkW hN13) zl (by dsimp only [C]; omega) (by omega) (by show (if bv1 = bv1 then _ else _) = _; rw [if_pos rfl]) fun h17 x17 m17 => ⟨szk.1, szk.2.1, szk.2.2, fun bv2 h18 hN18 => ⟨v0, vlt, onP_at rfl ?_⟩⟩
      have h17s := m17.size; have h18b := hN18.blk; have h18s := hN18.size
      have x18 := x17.new ok hN18 (4 * v.toNat + 2)
      refine x18.putB ok vN (mkW hN18) zl (by dsimp only [C]; omega) (by omega) (by show (if bv2 = bv2 then _ else _) = _; rw [if_pos rfl]) fun h19 x19 m19 => fin x19 ?_
      exact (((m11.trans (hN13.mod S1) fun _ _ h => h).trans (m17.wid (S' := S1) fun c _ hc => .inr (.inl hc)) fun _ _ h => h).trans (hN18.mod S1) fun _ _ h => h).trans (m19.wid (S' := S1) fun c _ hc => .inr (.inr (.inl hc))) fun _ _ h => h
    · have h20b := hN20.blk; have h20s := hN20.size; have h21b := hN21.blk; have h21s := hN21.size
      have x21 := (PG.new ok hN20 (4 * v.toNat + 2)).new ok hN21 (4 * v.toNat + 1)
      refine x21.putA ok vN (mkW hN21) zl (by dsimp only [C]; omega) (by omega) (by show (if bv1 = bv1 then _ else _) = _; rw [if_pos rfl]) fun h22 x22 m22 => ⟨v0, vlt, onP_at rfl ?_⟩
      have h22s := m22.size
      refine x22.putB ok vN (((mkW hN20).ext hN21.ext).mod m22 (by dsimp only [C]; omega)) zl (by dsimp only [C]; omega) (by omega) (by show (if bv2 = bv1 then _ else if bv2 = bv2 then _ else _) = _; rw [if_neg (by omega), if_pos rfl]) fun h23 x23 m23 => fin x23 ?_
      exact (((m11.trans (hN20.mod S1) fun _ _ h => h).trans (hN21.mod S1) fun _ _ h => h).trans (m22.wid (S' := S1) fun c _ hc => .inr (.inl hc)) fun _ _ h => h).trans (m23.wid (S' := S1) fun c _ hc => .inr (.inr (.inl hc))) fun _ _ h => h
    · rintro h12 ⟨G', PG', ⟨ek, es, er⟩, eAB, m12⟩
      obtain ⟨e12, wF12, wX12, nm12⟩ := keep m12
      refine ⟨by simp, onP_at rfl ⟨_, _, _, (C0.ext e12).c4, v0, vlt, onP_at hp ⟨_, _, _, e12.cell (hcell 3 _ rfl), ?_⟩⟩⟩
      refine fwd tn (fun u h' => ∃ G2, PI C G2 (v.toNat + 1) (v.toNat + 1) h' wp wn wc ∧ (G2.wk = G'.wk ∧ G2.ws = G'.ws ∧ G2.A = G'.A ∧ G2.B = G'.B) ∧ (∀ i, (G2.rows i).length ≤ 2 * v.toNat + u.toNat ∧ ∀ q : Int, q ∈ G2.rows i ↔ q ∈ G'.rows i ∨ (q = v ∧ (i : Int) ∈ x.term.to.take u.toNat)) ∧ Fw.Mod S1 h10 h') (by omega)
        ⟨G', PG', ⟨rfl, rfl, rfl, rfl⟩, fun i => ⟨by rw [er]; have := (grows i).1; omega, fun q => by simp⟩, m12⟩ fun u h24 u0 u1 ⟨G2, PG2, ⟨ek2, es2, eA2, eB2⟩, er2, m24⟩ => ⟨fun ult => ⟨u0, ult, ?_⟩, fun uge => ?_⟩
      · obtain ⟨t, b4, o4, ht, hp4, hc4⟩ := hto.get u0 ult
        have ht0 := (hblk x hxm).2 t (List.mem_of_getElem? ht)
        obtain ⟨e24, wF24, _, _⟩ := keep m24
        have hTl := PG2.lead.len
        have tlt : t < (fm : Int) := by omega
        obtain ⟨⟨q, m, d⟩, hT⟩ : ∃ y, G2.T[t.toNat]? = some y := ⟨G2.T[t.toNat]'(by rw [hTl]; dsimp only [C]; omega), by simp⟩
        have hml := (PG2.lead.row _ _ _ _ hT).1.len
        have hmb := (er2 t.toNat).1
        refine onP_at hp4 ⟨t, e24.cell hc4, ht0.1, tlt, _, _, _, (Own.get1 (g := sl3) PG2.lead.own hT).2, by simp, by simp, fun bv h25 hN25 => PI.leadApp PG2 ok hT hN25 (by omega) fun q' d' h7 st => ⟨ht0.1, tlt, st fun h27 tg' P27 m27 => ⟨i64ok (by omega) (by omega), fwd_next u0 ult ⟨_, P27, ⟨ek2, es2, eA2, eB2⟩, fun i => ?_, ?_⟩⟩⟩⟩
        · have hu1 : (u + 1).toNat = u.toNat + 1 := by omega
          rw [hu1]
          by_cases e : i = t.toNat
          · subst e
            show List.length (upd1 G2.rows t.toNat (G2.rows t.toNat ++ [v]) _) ≤ _ ∧ ∀ q : Int, q ∈ upd1 G2.rows t.toNat (G2.rows t.toNat ++ [v]) _ ↔ _
            rw [upd1_same]
            refine ⟨by rw [List.length_append]; simp; omega, fun q => ?_⟩
            rw [List.mem_append, List.mem_singleton, (er2 _).2, List.take_add_one, ht]
            have : ((t.toNat : Nat) : Int) = t := by omega
            simp [this]
            by_cases hq : q = v <;> simp [hq]
          · show List.length (upd1 G2.rows t.toNat (G2.rows t.toNat ++ [v]) _) ≤ _ ∧ ∀ q : Int, q ∈ upd1 G2.rows t.toNat (G2.rows t.toNat ++ [v]) _ ↔ _
            rw [upd1_ne _ _ e]
            refine ⟨by have := (er2 i).1; omega, fun q => ?_⟩
            rw [(er2 i).2, List.take_add_one, ht]
            have : ¬ (i : Int) = t := by omega
            simp [this]
        · exact m24.trans (m27.wid (S' := S1) fun c _ hc => hc.elim .inl fun h => .inr (.inr (.inr (.inr h)))) fun _ _ h => h
      · have hut : u.toNat = x.term.to.length := by omega
        rw [hut, List.take_length] at er2
        have hwn2 : wn = v.toNat := hwn.symm
        refine ⟨by simp, by simp, fun bv h28 hN28 => PG2.work ok hN28 (by omega) fun p' c' h29 tg' P29 e29 m29 => ⟨v0, vlt, P29.wait ok (by show v.toNat < G2.ws.length; rw [es2, es, gws.1]; exact vN) fun h30 P30 m30 => ⟨i64ok (by omega) (by omega), ⟨by omega, by omega, _, by rw [v1']; exact P30, ?_, ?_, fun i hi => ?_, fun i => ?_, ?_⟩, ?_⟩⟩⟩
        · show G2.wk ++ [v] = _
          rw [ek2, ek, gwk, v1', List.range_succ, List.map_append]
          have : ((v.toNat : Nat) : Int) = v := by omega
          simp [this]
        · show (G2.ws.set v.toNat true).length = fm ∧ ∀ i < (v + 1).toNat, (G2.ws.set v.toNat true)[i]? = some true
          rw [es2, es, List.length_set]
          refine ⟨gws.1, fun i hi => ?_⟩
          by_cases e : i = v.toNat
          · subst e; rw [List.getElem?_set_self (by rw [gws.1]; exact vN)]
          · rw [List.getElem?_set_ne (fun h => e h.symm)]; exact gws.2 i (by omega)
        · show G2.A i = _ ∧ G2.B i = _
          rw [eA2, eB2]; exact eAB i (by omega)
        · show (G2.rows i).length ≤ _ ∧ ∀ q : Int, q ∈ G2.rows i ↔ _
          refine ⟨by have := (er2 i).1; omega, fun q => ?_⟩
          rw [(er2 i).2, er, (grows i).2]
          constructor
          · rintro (⟨h1, h2, h3⟩ | ⟨h1, h2⟩)
            · exact ⟨h1, by omega, h3⟩
            · subst h1; exact ⟨v0, by omega, x, hx, h2⟩
          · rintro ⟨h1, h2, y, h3, h4⟩
            by_cases e : q = v
            · subst e; rw [hx] at h3; cases h3; exact .inr ⟨rfl, h4⟩
            · exact .inl ⟨h1, by omega, y, h3, h4⟩
        · exact (m24.trans (m29.wid (S' := S1) fun c _ hc => .inr (.inr (.inr (.inr hc.1)))) fun _ _ h => h).trans (m30.wid (S' := S1) fun c _ hc => .inr (.inr (.inr (.inl hc)))) fun _ _ h => h
        · show (fm - (v + 1)).toNat < (fm - v).toNat
          omega
  · have hv : v.toNat = fm := by omega
    rw [hv] at PG gwk gws gAB
    obtain ⟨e11, wF11, wX11, nm11⟩ := keep m11
    have hz11 := m11.size
    refine ⟨szk.1, szk.2.1, szk.2.2, fun bs h31 hN31 => ?_⟩
    have hb31 := hN31.blk
    have hz31 := hN31.size
    have hpred : ∀ i, ∀ q : Int, q ∈ G.rows i ↔ 0 ≤ q ∧ ∃ x, f.blocks[q.toNat]? = some x ∧ (i : Int) ∈ x.term.to := fun i q => by
      rw [(grows i).2]
      refine ⟨fun ⟨h1, _, h2⟩ => ⟨h1, h2⟩, fun ⟨h1, x, h2, h3⟩ => ⟨h1, ?_, x, h2, h3⟩⟩
      have := (List.getElem?_eq_some_iff.1 h2).1
      omega
    have hzer : ∀ j, inR (List.replicate size 0#64) j = false := fun j => by
      unfold inR; rw [List.getElem?_replicate]; split <;> simp
    -- what holds between the rounds
    let Inv : (Option Addr × Nat × Nat) → ((Nat → List W) × List Int) → H → Prop := fun t g h' => ∃ (G2 : Gh) (sc : List W), (G2.B = g.1 ∧ G2.wk = g.2 ∧ G2.rows = G.rows) ∧ PI C G2 fm fm h' t.1 t.2.1 t.2.2 ∧ (OwnW h' (some ⟨bs, 0, none⟩) bs sc ∧ sc.length = size ∧ G2.tg bs = 7) ∧
      SndW f names G2.A G2.B ∧ Cmp f X G2.A G2.B G2.ws G2.wk ∧ C2 f G2.A G2.B (fun _ _ => True) ∧ 2 * zW size G2.B fm + G2.wk.length ≤ 400000000 ∧ bs < h'.size ∧ Fw.Mod S1 h10 h'
    let ms : (Option Addr × Nat × Nat) → ((Nat → List W) × List Int) → Nat := fun t g => 2 * zW size g.1 fm + g.2.length
    have inv0 : Inv (wp, wn, wc) (G.B, G.wk) h31 := by
      refine ⟨{ G with tg := fun q => if q = bs then 7 else G.tg q }, _, ⟨rfl, rfl, rfl⟩, PG.new ok hN31 7, ⟨mkW hN31, by simp, by simp⟩, ⟨fun i hi j r _ h => ?_, fun i hi j r _ h => ?_, fun i hi j hj => ?_, fun i hi j hj => ?_⟩, ⟨by rw [gws.1]; exact hbl.symm, fun i x hx hw => ?_, fun i hw => ?_, fun u hu => ?_⟩, fun i x t hx ht _ j h => ?_, ?_, by omega, m11.trans (hN31.mod S1) fun _ _ h => h⟩
      · rw [(gAB i (by omega)).1, hzer] at h; cases h
      · rw [(gAB i (by omega)).2, hzer] at h; cases h
      · show inR (G.A i) j = false; rw [(gAB i (by omega)).1, hzer]
      · show inR (G.B i) j = false; rw [(gAB i (by omega)).2, hzer]
      · have := gws.2 i (by have := (List.getElem?_eq_some_iff.1 hx).1; omega)
        rw [this] at hw; cases hw
      · show (i : Int) ∈ G.wk
        have hlt : i < fm := by have := (List.getElem?_eq_some_iff.1 hw).1; rw [← gws.1]; exact this
        rw [gwk]
        exact List.mem_map.2 ⟨i, List.mem_range.2 hlt, rfl⟩
      · have hu' : u ∈ G.wk := hu
        rw [gwk] at hu'
        obtain ⟨i, hi, rfl⟩ := List.mem_map.1 hu'
        have := List.mem_range.1 hi
        omega
      · have hi : i < f.blocks.length := (List.getElem?_eq_some_iff.1 hx).1
        have ht' := (hblk x (List.mem_of_getElem? hx)).2 t ht
        have h' : inR (G.A t.toNat) j = true := h
        rw [(gAB t.toNat (by omega)).1, hzer] at h'; cases h'
      · show 2 * zW size G.B fm + G.wk.length ≤ _
        have h1 := zW_le (size := size) (B := G.B) fm
        have h2 : fm * (64 * size) ≤ 600 * (64 * 4097) := Nat.mul_le_mul (by omega) (by omega)
        rw [gwk, List.length_map, List.length_range]; omega
    refine ⟨fun p n c => glJ Inv ms (p, n, c), ⟨_, inv0⟩, ?_⟩
    clear inv0
    rintro p n c h32 hJ
    obtain ⟨⟨B0, wk0⟩, ⟨G2, sc, ⟨rfl, rfl, er2⟩, PG2, ⟨wS2, hsl2, htg2⟩, hS2, hC2, hcc2, hM2, hbs32, m32⟩, hm⟩ := glJ_get hJ
    obtain ⟨e32, wF32, wX32, nm32⟩ := keep m32
    have hwl : G2.wk.length = n := PG2.wk.g.len
    have hwc : n ≤ c := PG2.wk.g.le
    refine ⟨fun n0 => ?_, fun n0 => ?_⟩
    · obtain ⟨l, v, hwk⟩ : ∃ l v, G2.wk = l ++ [v] := ⟨G2.wk.dropLast, G2.wk.getLast (by intro h; rw [h] at hwl; simp at hwl; omega), (List.dropLast_concat_getLast _).symm⟩
      obtain ⟨n', rfl⟩ : ∃ n', n = n' + 1 := ⟨n - 1, by omega⟩
      have hll : l.length = n' := by rw [hwk] at hwl; simp at hwl; exact hwl
      have hv := hC2.wb v (by rw [hwk]; simp)
      have vN : v.toNat < fm := by omega
      have vlt : v < (fm : Int) := by omega
      obtain ⟨y, b5, o5, hy, hp5, hc5⟩ := (PG2.wk.g.sl (enc := fun x : Int => [Value.int .i64 x]) (k := 1) fun _ => rfl).get (i := ((n' + 1 : Nat) : Int) - 1) (by omega) (by show _ < ((n' + 1 : Nat) : Int); omega)
      obtain rfl : y = v := by
        rw [hwk, show (((n' + 1 : Nat) : Int) - 1).toNat = l.length by omega, List.getElem?_append_right (Nat.le_refl _)] at hy
        simpa using hy.symm
      have en : ((((n' + 1 : Nat) : Int) - 1) - 0).toNat = n' := by omega
      have ec : ((c : Int) - 0).toNat = c := by omega
      simp only [en, ec]
      obtain ⟨x, hx⟩ : ∃ x, f.blocks[y.toNat]? = some x := ⟨f.blocks[y.toNat]'(by omega), by simp⟩
      have hxm := List.mem_of_getElem? hx
      refine ⟨i64ok (by omega) (by omega), by omega, by omega, onP_at hp5 ⟨y, hc5, i64ok (by omega) (by omega), hwc, by omega, by omega, p, rfl, hv.1, vlt, (PG2.pop hwk).wait ok (by show y.toNat < G2.ws.length; rw [hC2.len]; omega) fun h33 P33 m33 => ?_⟩⟩
      have m33' : Fw.Mod S1 h10 h33 := m32.trans (m33.wid (S' := S1) fun c _ hc => .inr (.inr (.inr (.inl hc)))) fun _ _ h => h
      obtain ⟨e33, wF33, wX33, nm33⟩ := keep m33'
      have hbs10 : h10.size ≤ bs := by omega
      have hM2' : 2 * zW size G2.B fm + (n' + 1) ≤ 400000000 := by rw [← hwl]; exact hM2
      have hs33 := m33.size
      have hs34 : h33.size ≤ h33.size := Nat.le_refl _
      have wS33 := wS2.mod m33 (by dsimp only [C]; omega)
      obtain ⟨q1, q2, q3, q4, q5, q6⟩ := P33.be.row y.toNat vN
      refine ⟨by simp, onP_at rfl ⟨_, _, _, wF33.get 4 rfl, hv.1, vlt, onP_at rfl ⟨_, _, _, (Own.get1 (g := sl3) P33.be.own q1).2, cp_own wS33 q2 hsl2 q3 fun _ h34 wS34 m34 => ?_⟩⟩⟩
      have m34' : Fw.Mod S1 h10 h34 := m33'.trans (m34.wid (S' := S1) fun c _ hc => .inr (.inr (.inr (.inr (by rw [hc.1]; exact hbs10))))) fun _ _ h => h
      obtain ⟨e34, wF34, wX34, nm34⟩ := keep m34'
      have hBl : (G2.B y.toNat).length = size := q3
      refine c62 hf e34 hP hz hs wF34 rfl rfl rfl wX34 nm wS34 q3 (by rw [hBl]; omega) (by omega) hv.1 hx (fun hne => ⟨by have := e8.size; omega, by omega, fun e => ?_⟩) fun h35 wS35 m35 => ?_
      · have hX : X ≠ [] := by
          rintro rfl
          have h0 := nm.len
          simp at h0
          have : size = 0 := by omega
          exact hne (List.length_eq_zero_iff.1 (by rw [hBl]; exact this))
        have := hxbl hX; omega
      have m3335 : Fw.Mod (fun q => q = bs) h33 h35 := (m34.wid fun _ _ hc => hc.1).trans (m35.wid (S' := fun q => q = bs) fun _ _ hc => hc.1) fun _ _ h => h
      have m35' : Fw.Mod S1 h10 h35 := m34'.trans (m35.wid (S' := S1) fun c _ hc => .inr (.inr (.inr (.inr (by rw [hc.1]; exact hbs10))))) fun _ _ h => h
      obtain ⟨e35, wF35, wX35, nm35⟩ := keep m35'
      have P35 := P33.mod ok m3335 (fun q hq he => by dsimp only [C] at hq; omega) (fun q _ _ he => by rw [he]; exact htg2)
      obtain ⟨r1, r2, r3, r4, r5, r6⟩ := P35.ah.row y.toNat vN
      have htl35 : (thrW X (G2.B y.toNat) x).length = size := by rw [thrW_len]; exact hBl
      refine ⟨rfl, by simp, onP_at rfl ⟨_, _, _, wF35.get 3 rfl, hv.1, vlt, onP_at rfl ⟨_, _, _, (Own.get1 (g := sl3) P35.ah.own r1).2, c63 r2 wS35 r3 htl35 rfl (fun _ e => ?_) (by dsimp only [C]; omega) fun more s h36 w36 hsl hsj hmore m36 => ⟨more, rfl, ?_⟩⟩⟩⟩
      · have h7 := htg2
        have r6' : G2.tg (G2.a y.toNat) = 4 * y.toNat + 1 := r6
        have e' : G2.a y.toNat = bs := e
        rw [e'] at r6'; omega
      have hwk2 : Cmp f X G2.A G2.B G2.ws (l ++ [y]) := by rw [← hwk]; exact hC2
      have st := hS2.start nm hx (hblk x hxm).1 (by rw [hBl]; omega)
      have S36 := hS2.joinA (t := s) (u := thrW X (G2.B y.toNat) x) (by omega) st.1 st.2 hsj
      have C36 := hwk2.joinA hx (t := s) hsj
      have P36 := P35.setA ok vN w36 (by rw [hsl]; exact r3) m36 (fun q hq => hq.1)
      have m36' : Fw.Mod S1 h10 h36 := m35'.trans (m36.wid (S' := S1) fun c _ hc => .inr (.inr (.inr (.inr (by rw [hc.1]; exact r4))))) fun _ _ h => h
      have wS36 : OwnW h36 (some ⟨bs, 0, none⟩) bs (thrW X (G2.B y.toNat) x) := wS35.mod m36 fun hq => by
        have r6' : G2.tg (G2.a y.toNat) = 4 * y.toNat + 1 := r6
        have e' : bs = G2.a y.toNat := hq.1
        rw [← e', htg2] at r6'; omega
      refine ⟨fun hm0 => ?_, fun hm0 => ?_⟩
      · have hm0' : more = false := by simpa using hm0
        have hsame : s = G2.A y.toNat := join_same (n := size) r3 htl35 hsl hsj hmore hm0'
        refine glJ_next hm (v' := (p, n', c)) (g' := (G2.B, l)) ⟨{ G2 with A := upd1 G2.A y.toNat s, wk := l, ws := G2.ws.set y.toNat false }, _, ⟨rfl, rfl, er2⟩, P36, ⟨wS36, htl35, htg2⟩, S36, C36, ?_, ?_, ?_, m36'⟩ ?_
        · show C2 f (upd1 G2.A y.toNat s) G2.B _
          rw [upd1_id hsame]; exact hcc2
        · show 2 * zW size G2.B fm + l.length ≤ 400000000
          omega
        · have := m36.size; have := m3335.size; omega
        · show 2 * zW size G2.B fm + l.length < 2 * zW size G2.B fm + G2.wk.length
          rw [hwk, List.length_append]; simp
      · obtain ⟨⟨q, m, d⟩, hT⟩ : ∃ z, G2.T[y.toNat]? = some z := ⟨G2.T[y.toNat]'(by have := PG2.lead.len; rw [this]; exact vN), by simp⟩
        have hrl : (G2.rows y.toNat).length = m := (PG2.lead.row _ _ _ _ hT).1.len
        have hrl2 : m ≤ 2 * fm := by have := (grows y.toNat).1; rw [er2] at hrl; omega
        have hm36 := m36.size
        have hm35 := m3335.size
        have PP : PI C { G2 with A := upd1 G2.A y.toNat s, wk := l, ws := G2.ws.set y.toNat false } fm fm h36 p n' c := P36
        refine ⟨hv.1, vlt, q, m, d, (Own.get1 (g := sl3) P36.lead.own hT).2, ?_⟩
        let I5 : Option Addr → Nat → Nat → Int → H → Prop := fun p n c u h' => ∃ (G3 : Gh) (sc3 : List W), (G3.rows = G.rows ∧ G3.T = G2.T) ∧ PI C G3 fm fm h' p n c ∧ (OwnW h' (some ⟨bs, 0, none⟩) bs sc3 ∧ sc3.length = size ∧ G3.tg bs = 7) ∧
          SndW f names G3.A G3.B ∧ Cmp f X G3.A G3.B G3.ws G3.wk ∧ C2 f G3.A G3.B (fun i t => t ≠ y.toNat ∨ (i : Int) ∈ (G.rows y.toNat).take u.toNat) ∧ 2 * zW size G3.B fm + G3.wk.length < 2 * zW size G2.B fm + (n' + 1) ∧ bs < h'.size ∧ Fw.Mod S1 h10 h'
        refine ⟨fun p n c u => (fun h' => 0 ≤ u ∧ u ≤ m ∧ I5 p n c u h', fun _ => (m - u).toNat), ⟨by omega, by omega, { G2 with A := upd1 G2.A y.toNat s, wk := l, ws := G2.ws.set y.toNat false }, _, ⟨er2, rfl⟩, PP, ⟨wS36, htl35, htg2⟩, S36, C36, fun i x' t hx' ht hok j hj => ?_, ?_, by omega, m36'⟩, ?_⟩
        · rcases hok with h1 | h1
          · have h' : inR (upd1 G2.A y.toNat s t.toNat) j = true := hj
            rw [upd1_ne _ _ h1] at h'
            exact hcc2 i x' t hx' ht trivial j h'
          · simp at h1
        · show 2 * zW size G2.B fm + l.length < _
          omega
        rintro p3 n3 c3 u h37 ⟨u0, u1, G3, sc3, ⟨er3, eT3⟩, PG3, ⟨wS3, hsl3, htg3⟩, hS3, hC3, hcc3, hM3, hbs37, m37⟩
        obtain ⟨e37, wF37, wX37, nm37⟩ := keep m37
        refine ⟨fun ult => ⟨u0, ult, ?_⟩, fun uge => ?_⟩
        · obtain ⟨w, b6, o6, hw, hp6, hc6⟩ := ((PG3.lead.row _ _ _ _ (by rw [eT3]; exact hT)).1.sl (enc := fun x : Int => [Value.int .i64 x]) (k := 1) fun _ => rfl).get u0 ult
          rw [er3] at hw
          obtain ⟨w0, x2, hx2, hyt⟩ := (hpred y.toNat w).1 (List.mem_of_getElem? hw)
          have wN : w.toNat < fm := by have := (List.getElem?_eq_some_iff.1 hx2).1; omega
          have wlt : w < (fm : Int) := by omega
          have hwn : ((w.toNat : Nat) : Int) = w := by omega
          obtain ⟨a1, a2, a3, a4, a5, a6⟩ := PG3.ah.row y.toNat vN
          obtain ⟨b1, b2, b3, b4, b5', b6'⟩ := PG3.be.row w.toNat wN
          let J6 : Bool → H → Prop := fun bb h' => ∃ (B4 : Nat → List W), PI C { G3 with B := B4 } fm fm h' p3 n3 c3 ∧ OwnW h' (some ⟨bs, 0, none⟩) bs sc3 ∧ SndW f names G3.A B4 ∧ C2 f G3.A B4 (fun i t => t ≠ y.toNat ∨ (i : Int) ∈ (G.rows y.toNat).take (u + 1).toNat) ∧
            (bb = true → Cmp f X G3.A B4 (G3.ws.set w.toNat true) (G3.wk ++ [w]) ∧ 2 * zW size B4 fm + G3.wk.length + 1 < 2 * zW size G2.B fm + (n' + 1)) ∧ (bb = false → Cmp f X G3.A B4 G3.ws G3.wk ∧ 2 * zW size B4 fm + G3.wk.length < 2 * zW size G2.B fm + (n' + 1)) ∧ bs < h'.size ∧ Fw.Mod S1 h10 h'
          have hu1 : (u + 1).toNat = u.toNat + 1 := by omega
          have fin : HC Tryd.prog 63 [(.slice (some ⟨G3.b w.toNat, 0, none⟩) size size), (.slice (some ⟨G3.a y.toNat, 0, none⟩) size size)] h37 fun rv h39 =>
              ∃ bv : Bool, rv = (.bool bv) ∧ ((bv = true → 0 ≤ w ∧ w < (fm : Int) ∧ ∃ ww : Bool, cell h39 ⟨bW, (0 + (w).toNat * 1), none⟩ = some (.bool ww) ∧ J6 (!ww) h39) ∧ (bv = false → J6 false h39)) := by
            refine c63 b2 a2 b3 a3 rfl (fun _ e => by rw [e] at b6'; omega) (by dsimp only [C]; omega) fun more s4 h39 w39 hs4 hj4 hm4 m39 => ⟨more, rfl, ?_⟩
            have hs39 := m39.size
            have P39 := PG3.setB ok wN w39 (by rw [hs4]; exact b3) m39 (fun q hq => hq.1)
            have m39' : Fw.Mod S1 h10 h39 := m37.trans (m39.wid (S' := S1) fun c _ hc => .inr (.inr (.inr (.inr (by rw [hc.1]; exact b4))))) fun _ _ h => h
            have wS39 : OwnW h39 (some ⟨bs, 0, none⟩) bs sc3 := wS3.mod m39 fun hq => by
              have e' : bs = G3.b w.toNat := hq.1
              rw [← e', htg3] at b6'; omega
            have S39 := hS3.joinB (b := y.toNat) hx2 hyt (Int.toNat_natCast _) (by omega) hj4
            have C39 := hcc3.joinB (p := w.toNat) (by rw [hwn]; exact hw) hj4
            rw [← hu1] at C39
            have hzj := zc_join (size := size) hj4
            have hzu := zW_upd (size := size) (B := G3.B) (i := w.toNat) (s := s4) hzj.1 fm
            have hwsl : w.toNat < G3.ws.length := by rw [hC3.len]; omega
            have cw : cell h39 ⟨bW, (0 + (w).toNat * 1), none⟩ = some (.bool (G3.ws[w.toNat]'hwsl)) := (Own.get1 (g := Value.bool) P39.wts (by simp [hwsl])).2
            refine ⟨fun ht => ⟨w0, wlt, _, cw, ?_⟩, fun ht => ?_⟩
            · have hlt := hzu.2 wN (hzj.2 (hm4.1 ht))
              have hcmp : ∀ wk', (∀ z ∈ G3.wk, z ∈ wk') → w ∈ wk' → (∀ z ∈ wk', z ∈ G3.wk ∨ z = w) → Cmp f X G3.A (upd1 G3.B w.toNat s4) (G3.ws.set w.toNat true) wk' := fun wk' k1 k2 k3 => hC3.joinB (by omega) k1 (by rw [hwn]; exact k2) (by rw [hwn]; exact k3)
              refine ⟨_, P39, wS39, S39, C39, fun hb => ⟨hcmp _ (fun z hz => by simp [hz]) (by simp) fun z hz => by simpa using hz, by omega⟩, fun hb => ?_, by omega, m39'⟩
              have htrue : G3.ws[w.toNat]? = some true := by
                have : G3.ws[w.toNat]'hwsl = true := by simpa using hb
                rw [← this]; simp
              have hset : G3.ws.set w.toNat true = G3.ws := by
                apply List.ext_getElem?
                intro j
                by_cases e : w.toNat = j
                · subst e; rw [List.getElem?_set_self hwsl, htrue]
                · rw [List.getElem?_set_ne e]
              have := hcmp G3.wk (fun z hz => hz) (by have := hC3.wt _ htrue; rw [hwn] at this; exact this) fun z hz => .inl hz
              rw [hset] at this
              exact ⟨this, by omega⟩
            · have hsame : s4 = G3.B w.toNat := join_same (n := size) b3 a3 hs4 hj4 hm4 ht
              rw [upd1_id hsame] at S39 C39
              have P39' : PI C { G3 with B := upd1 G3.B w.toNat s4 } fm fm h39 p3 n3 c3 := P39
              rw [upd1_id hsame] at P39'
              exact ⟨G3.B, P39', wS39, S39, C39, fun h => absurd h (by simp), fun _ => ⟨hC3, hM3⟩, by omega, m39'⟩
          refine onP_at hp6 ⟨w, hc6, J6, ⟨by simp, onP_at rfl ⟨by simp, onP_at rfl ⟨⟨_, _, _, wF37.get 4 rfl, w0, wlt, onP_at rfl ⟨_, _, _, (Own.get1 (g := sl3) PG3.be.own b1).2, _, _, _, wF37.get 3 rfl, hv.1, vlt, onP_at rfl ⟨_, _, _, (Own.get1 (g := sl3) PG3.ah.own a1).2, fin⟩⟩⟩, _, _, _, wF37.get 3 rfl, hv.1, vlt, onP_at rfl ⟨_, _, _, (Own.get1 (g := sl3) PG3.ah.own a1).2, _, _, _, wF37.get 4 rfl, w0, wlt, onP_at rfl ⟨_, _, _, (Own.get1 (g := sl3) PG3.be.own b1).2, fin⟩⟩⟩⟩⟩, ?_⟩
          rintro bb h38 ⟨B4, P38, wS38, S38, C38, hbt, hbf, hbs38, m38⟩
          refine ⟨fun hb => ⟨w0, wlt, P38.wait ok (by show w.toNat < G3.ws.length; rw [hC3.len]; omega) fun h41 P41 m41 => ⟨by simp, by simp, fun bv h42 hN42 => ?_⟩⟩, fun hb => ⟨i64ok (by omega) (by omega), ⟨by omega, by omega, { G3 with B := B4 }, sc3, ⟨er3, eT3⟩, P38, ⟨wS38, hsl3, htg3⟩, S38, (hbf hb).1, C38, (hbf hb).2, hbs38, m38⟩, ?_⟩⟩
          · have hwl3 : G3.wk.length = n3 := PG3.wk.g.len
            have hM4 := (hbt hb).2
            have h41s := m41.size
            have hbsW : bs ≠ bW := by omega
            refine P41.work ok hN42 (by omega) fun p' c' h43 tg' P43 et m43 => ⟨i64ok (by omega) (by omega), ⟨by omega, by omega, { G3 with B := B4, tg := tg', wk := G3.wk ++ [w], ws := G3.ws.set w.toNat true }, sc3, ⟨er3, eT3⟩, P43, ⟨?_, hsl3, ?_⟩, S38, (hbt hb).1, C38, ?_, ?_, ?_⟩, ?_⟩
            · refine (wS38.mod m41 hbsW).mod m43 fun hq => ?_
              have := hq.2
              have h7 : G3.tg bs = 3 := this
              omega
            · show tg' bs = 7; rw [et bs (by omega)]; exact htg3
            · show 2 * zW size B4 fm + (G3.wk ++ [w]).length < _
              rw [List.length_append]; exact hM4
            · have := m43.size; omega
            · exact (m38.trans (m41.wid (S' := S1) fun c _ hc => .inr (.inr (.inr (.inl hc)))) fun _ _ h => h).trans (m43.wid (S' := S1) fun c _ hc => .inr (.inr (.inr (.inr hc.1)))) fun _ _ h => h
            · show (m - (u + 1)).toNat < (m - u).toNat
              omega
          · show (m - (u + 1)).toNat < (m - u).toNat
            omega
        · have hum : u.toNat = (G.rows y.toNat).length := by rw [← er2, hrl]; omega
          rw [hum, List.take_length] at hcc3
          refine glJ_next hm (v' := (p3, n3, c3)) (g' := (G3.B, G3.wk)) ⟨G3, sc3, ⟨rfl, rfl, er3⟩, PG3, ⟨wS3, hsl3, htg3⟩, hS3, hC3, fun i x' t hx' ht _ j hj => hcc3 i x' t hx' ht ?_ j hj, ?_, hbs37, m37⟩ ?_
          · by_cases e : t.toNat = y.toNat
            · refine .inr ((hpred _ _).2 ⟨by omega, x', by simpa using hx', ?_⟩)
              have h1 := (hblk x' (List.mem_of_getElem? hx')).2 t ht
              have : ((y.toNat : Nat) : Int) = t := by omega
              rw [this]; exact ht
            · exact .inl e
          · omega
          · show 2 * zW size G3.B fm + G3.wk.length < 2 * zW size G2.B fm + G2.wk.length
            omega
    · have hn0 : n = 0 := by omega
      have hwk : G2.wk = [] := List.length_eq_zero_iff.1 (by omega)
      rw [hwk] at hC2
      have hfin := fun i (hi : i < f.blocks.length) => fun (j : Nat) r (hj : names[j]? = some r) => flow_fin nm hblk (fun i hi => by obtain ⟨_, _, q3, _⟩ := PG2.be.row i (by omega); rw [q3]; dsimp only [C]; omega) hS2 hC2 hcc2 hi hj
      refine k h32 bw X names G2.A G2.B size e32 ⟨wF32.get 0 rfl, ⟨np, nn, nc, wF32.get 2 rfl, nm32⟩, ⟨_, _, _, wF32.get 3 rfl, by simp [hbl], fun h0 => ⟨bA, 0, rfl, fun i l hi => ?_⟩⟩, ⟨_, _, _, wF32.get 4 rfl, by simp [hbl], fun h0 => ⟨bB, 0, rfl, fun i l hi => ?_⟩⟩, nm, fun i hi => ⟨?_, hS2.fa i hi, fun j r hj => (hfin i hi j r hj).1⟩, fun i hi => ⟨?_, hS2.fb i hi, fun j r hj => (hfin i hi j r hj).2⟩, by omega, by omega⟩
      · have hlt : i < f.blocks.length := by have := (List.getElem?_eq_some_iff.1 hi).1; simpa using this
        obtain ⟨q1, q2, q3, _⟩ := PG2.ah.row i (by omega)
        rw [List.getElem?_map, List.getElem?_range hlt] at hi
        cases hi
        refine ⟨[.slice (some ⟨G2.a i, 0, none⟩) size size], ⟨_, _, size, _, rfl, q2, q3⟩, fun j v hj => ?_⟩
        have := (Own.get1 (g := sl3) PG2.ah.own q1).2
        match j, hj with
        | 0, hj => cases hj; exact this
      · have hlt : i < f.blocks.length := by have := (List.getElem?_eq_some_iff.1 hi).1; simpa using this
        obtain ⟨q1, q2, q3, _⟩ := PG2.be.row i (by omega)
        rw [List.getElem?_map, List.getElem?_range hlt] at hi
        cases hi
        refine ⟨[.slice (some ⟨G2.b i, 0, none⟩) size size], ⟨_, _, size, _, rfl, q2, q3⟩, fun j v hj => ?_⟩
        have := (Own.get1 (g := sl3) PG2.be.own q1).2
        match j, hj with
        | 0, hj => cases hj; exact this
      · exact (PG2.ah.row i (by omega)).2.2.1
      · exact (PG2.be.row i (by omega)).2.2.1
end Go.Proofs.Try

/- spans.block: the places of a block. -/
set_option maxRecDepth 100000
set_option linter.unusedVariables false
set_option linter.unusedSimpArgs false
open Go Go.Fw Go.Proofs
namespace Go.Proofs.Try

def blkEv2 (ta tb : List Int) (k : Int) (x : Blk) : List Ev := ta.map (fun r => (r, 2 * (k + 1))) ++ bodyEv k x.body ++ termEv (k + x.body.length) x.term.value ++ tb.map (fun r => (r, 2 * (k + x.body.length + 1) + 1))
theorem map_take_succ {α β : Type} {l : List α} {i : Nat} {x : α} {g : α → β} (hx : l[i]? = some x) : (l.take (i + 1)).map g = (l.take i).map g ++ [g x] := by
  rw [List.take_add_one, hx]; simp
theorem toldL_ok {f : Fnc} {P : Nat → Prop} {X names : List Int} (nm : NmOk f.regs.toNat P X names) {l : List W} {size : Nat} (hfar : ∀ j, names.length ≤ j → inR l j = false) : ∀ r ∈ toldL names l size, ∃ j : Nat, names[j]? = some r ∧ inR l j = true := by
  intro r hr
  unfold toldL listTo at hr
  obtain ⟨i, hi, rfl⟩ := List.mem_map.1 hr
  obtain ⟨j, hj, rfl⟩ := List.mem_map.1 hi
  have hj2 := (List.mem_filter.1 hj).2
  have hlt : j < names.length := by
    rcases Nat.lt_or_ge j names.length with h | h
    · exact h
    · rw [hfar j h] at hj2; cases hj2
  refine ⟨j, ?_, hj2⟩
  unfold nameOf
  simp [hlt]
theorem toldL_mem {f : Fnc} {P : Nat → Prop} {X names : List Int} (nm : NmOk f.regs.toNat P X names) {l : List W} {size : Nat} (hl : names.length ≤ 64 * size) (hfar : ∀ j, names.length ≤ j → inR l j = false) {r : Int} : r ∈ toldL names l size ↔ ∃ j : Nat, names[j]? = some r ∧ inR l j = true := by
  refine ⟨toldL_ok nm hfar r, fun ⟨j, hj, h⟩ => ?_⟩
  have hlt := (List.getElem?_eq_some_iff.1 hj).1
  unfold toldL listTo
  refine List.mem_map.2 ⟨(j : Int), List.mem_map.2 ⟨j, List.mem_filter.2 ⟨List.mem_range.2 (by omega), h⟩, rfl⟩, ?_⟩
  unfold nameOf
  simp [hj]
theorem toldL_len (names : List Int) (l : List W) (size : Nat) : (toldL names l size).length ≤ 64 * size := by
  unfold toldL; rw [List.length_map]; exact listTo_len _ _

theorem c31 {h0 h : H} {f : Fnc} {fb fo bw : Nat} {X names : List Int} {A B : Nat → List W} {size : Nat} {x : Blk} {b kk : Int} {sp : Option Addr} {sn sc sb : Nat} {l : List Itv}
    (ht : TabAt h0) (hf : FncAt h0 fb fo f) (fl : FlowAt h0 bw fb fo f X names A B size) (e0 : Ext h0 h) (hP : FncP f) (hz : SzF f) (hs : SzR f) (b0 : 0 ≤ b) (hx : f.blocks[b.toNat]? = some x) (k0 : 0 ≤ kk) (k1 : kk ≤ 1000000000)
    (w : OwnV h sp sb l) (hl : l.length = sn) (hR : sn = f.regs.toNat) (hb : l ≠ [] → h0.size ≤ sb) {R : Value → H → Prop}
    (k : ∀ h', OwnV h' sp sb (mts l (blkEv2 (toldL names (A b.toNat) size) (toldL names (B b.toNat) size) kk x)) → Mod (SB sb l) h h' → R (.tuple ⟨[]⟩) h') :
    HC Tryd.prog 31 [.slice sp sn sc, .pointer (some ⟨bw, 0, none⟩), .int .i64 b, .int .i64 kk] h R := by
  have hxm := List.mem_of_getElem? hx
  have okx := blkOk (hP.2.2.2 x hxm) (hz.2.2 x hxm)
  have hbx := hs.bd x hxm
  have hreg : 0 ≤ f.regs ∧ f.regs ≤ 262144 := ⟨hP.1.1, hP.1.2.1⟩
  obtain ⟨fp, fn, fc, fq, fm, fd, C0⟩ := hf.cells
  have hbl := C0.bs.len
  have hnb := hs.nb
  have bN : b.toNat < f.blocks.length := (List.getElem?_eq_some_iff.1 hx).1
  have blt : b < (fm : Int) := by omega
  obtain ⟨x', b', o', hx', hp, vs, ⟨bp, bn, bc, tp, tn, tc, rfl, hbody, hbc, hto, htc⟩, hcell⟩ := C0.bs.get b0 blt
  obtain rfl : x = x' := by rw [hx] at hx'; cases hx'; rfl
  have hbln := hbody.len
  obtain ⟨np, nn, nc, n1, n2⟩ := fl.nm
  obtain ⟨ap, an, ac, a1, a2⟩ := fl.ah
  obtain ⟨bp', bn', bc', b1, b2⟩ := fl.be
  have hal := a2.len
  have hbl' := b2.len
  simp only [List.length_map, List.length_range] at hal hbl'
  obtain ⟨sa1, sa2, sa3⟩ := fl.sa _ bN
  obtain ⟨sb1, sb2, sb3⟩ := fl.sb _ bN
  have hsz := fl.sz
  have hle := fl.le
  have hnl := n2.len
  have regT : ∀ (Y : List W), (∀ j, names.length ≤ j → inR Y j = false) → ∀ r ∈ toldL names Y size, RegP f r := fun Y hY r hr => by
    obtain ⟨j, hj, _⟩ := toldL_ok fl.ok hY r hr
    have := fl.ok.back j r hj
    unfold RegP; omega
  have mk : ∀ {h'}, Fw.Mod (SB sb l) h h' → Ext h0 h' := fun m => m.ext e0 fun c hc ⟨q1, q2⟩ => by have := hb q2; omega
  have mt : ∀ {h'} {l' : List Itv} {r place : Int} {RR : Value → H → Prop}, Fw.Mod (SB sb l) h h' → OwnV h' sp sb l' → l'.length = l.length → RegP f r → (∀ h'', OwnV h'' sp sb (mts l' [(r, place)]) → Fw.Mod (SB sb l) h h'' → Fw.Mod (SB sb l) h' h'' → RR (.tuple ⟨[]⟩) h'') → HC Tryd.prog 30 [.slice sp sn sc, .int .i64 r, .int .i64 place] h' RR := by
    intro h' l' r place RR m w' hl' hr kk'
    unfold RegP at hr
    refine c30 w' (by omega) hr.1 (by omega) fun h'' w'' m'' => ?_
    have m2 : Fw.Mod (SB sb l) h' h'' := m''.wid fun c _ hc => (SB_len hl').1 hc
    exact kk' h'' w'' (m.trans m2 fun _ _ h => h) m2
  apply hc31; unfold sh31
  obtain ⟨wa, oa, ba, hwa, hpa, _, ⟨pa, na, ca, qa, rfl, wA, hlA⟩, hca⟩ := a2.get b0 (by omega)
  obtain rfl : wa = A b.toNat := by rw [List.getElem?_map, List.getElem?_range bN] at hwa; simpa using hwa.symm
  obtain ⟨wb, ob, bb, hwb, hpb, _, ⟨pb, nb, cb, qb, rfl, wB, hlB⟩, hcb⟩ := b2.get b0 (by omega)
  obtain rfl : wb = B b.toNat := by rw [List.getElem?_map, List.getElem?_range bN] at hwb; simpa using hwb.symm
  obtain rfl : size = na := by omega
  obtain rfl : size = nb := by omega
  refine ⟨by simp, onP_at rfl ⟨_, e0.cell fl.fp, by simp, onP_at rfl ⟨_, _, _, (C0.ext e0).c4, b0, blt, onP_at hp ⟨by simp, onP_at rfl ⟨_, _, _, e0.cell a1, b0, by omega, onP_at hpa ⟨_, _, _, e0.cell (hca 0 _ rfl), ?_⟩⟩⟩⟩⟩⟩
  refine c48 (ht.ext e0) (wA.ext e0) hlA (by omega) (e0.cell n1) (n2.ext e0) (fun i hi => ?_) fun p1 n1' c1 q1 h1 w1 hl1 hb1 e1 => ⟨_, _, _, rfl, ?_⟩
  · rcases Nat.lt_or_ge i names.length with h | h
    · omega
    · rw [sa2 i h] at hi; cases hi
  have hTA := regT _ sa2
  have hTAl := toldL_len names (A b.toNat) size
  generalize hta : toldL names (A b.toNat) size = ta at w1 hl1 hb1 k hTA hTAl
  have lenM : ∀ (es : List Ev), (mts l es).length = l.length := fun es => mts_len es l
  refine fwd n1' (fun v h' => Fw.Mod (SB sb l) h h' ∧ OwnV h' sp sb (mts l ((ta.take v.toNat).map fun r => (r, 2 * (kk + 1)))) ∧ OwnI h' p1 q1 ta) (by omega) ⟨e1.mod.wid fun _ _ h => h.elim, by simp only [Int.toNat_zero, List.take_zero, List.map_nil]; exact w.ext e1, w1⟩ fun v h2 v0 v1 ⟨m2, w2, wt2⟩ => ⟨fun vlt => ⟨v0, vlt, ?_⟩, fun vge => ?_⟩
  · have hvl : v.toNat < ta.length := by omega
    obtain ⟨r, hr⟩ : ∃ r, ta[v.toNat]? = some r := ⟨ta[v.toNat], by simp [hvl]⟩
    obtain ⟨hp1, hc1⟩ := Own.cell (enc := fun x : Int => [Value.int .i64 x]) (k := 1) (fun _ => rfl) wt2 hr (j := 0) rfl
    have hq1 : h.size ≤ q1 := hb1 (by rintro rfl; simp at hvl)
    refine onP_at hp1 ⟨r, hc1, i64ok (by omega) (by omega), i64ok (by omega) (by omega), mt m2 w2 (lenM _) (hTA r (List.mem_of_getElem? hr)) fun h3 w3 m3 m23 => ⟨rfl, i64ok (by omega) (by omega), fwd_next v0 vlt ⟨m3, ?_, wt2.mod m23 fun ⟨h1, h2⟩ => by have := w.lt h2; omega⟩⟩⟩
    rw [← mts_append] at w3
    rw [show (v + 1).toNat = v.toNat + 1 by omega, map_take_succ hr]; exact w3
  · rw [show v.toNat = ta.length by omega, List.take_length] at w2
    clear wt2
    have e2 := mk m2
    refine ⟨by simp, _, _, _, e2.cell (hcell 0 _ rfl), ?_⟩
    refine ⟨fun a i => (fun h' => 0 ≤ i ∧ i ≤ bn ∧ a = kk + i ∧ Fw.Mod (SB sb l) h h' ∧ OwnV h' sp sb (mts l (ta.map (fun r => (r, 2 * (kk + 1))) ++ bodyEv kk (x.body.take i.toNat))), fun _ => (bn - i).toNat), ⟨by omega, by omega, by omega, m2, by simpa [bodyEv] using w2⟩, ?_⟩
    rintro a i h4 ⟨i0, i1, rfl, m4, w4⟩
    refine ⟨fun ilt => ⟨i0, ilt, ?_⟩, fun ige => ?_⟩
    · have e4 := mk m4
      obtain ⟨y, b3, o3, hy, hp3, _, ⟨q, m, d, rfl, hargs, hac⟩, hc3⟩ := hbody.get i0 ilt
      have oky := okx.ins y (List.mem_of_getElem? hy)
      have hzy := oky.2
      unfold SzI at hzy
      have hal' := hargs.len
      have hdst := insP_dst oky.1
      refine onP_at hp3 ⟨_, e4.cell (hc3 0 _ rfl), _, e4.cell (hc3 1 _ rfl), _, e4.cell (hc3 2 _ rfl), _, _, _, e4.cell (hc3 3 _ rfl), fun bx h5 hN5 => hN5.st rfl rfl rfl rfl fun h6 e6 gx => ⟨i64ok (by omega) (by omega), _, _, _, gx _ Ext.rfl' 3 _ rfl, ?_⟩⟩
      have hb5 := hN5.blk
      have hs4 := m4.size
      have m6 : Fw.Mod (SB sb l) h h6 := m4.trans (e6.mod.wid (S' := SB sb l) fun _ _ h => h.elim) fun _ _ h => h
      have hxn : l ≠ [] → bx ≠ sb := fun hne => by have := w.lt hne; omega
      refine fwd m (fun u h' => Fw.Mod (SB sb l) h h' ∧ Fw.Mod (SB sb l) h6 h' ∧ OwnV h' sp sb (mts l (ta.map (fun r => (r, 2 * (kk + 1))) ++ bodyEv kk (x.body.take i.toNat) ++ (y.args.take u.toNat).map fun r => (r, 2 * (kk + i + 1))))) (by omega) ⟨m6, Mod.refl _ _, by simpa using w4.ext e6⟩ fun u h7 u0 u1 ⟨m7, m67, w7⟩ => ⟨fun ult => ⟨u0, ult, ?_⟩, fun uge => ?_⟩
      · obtain ⟨r, b6, o6, hr, hp6, hc6⟩ := hargs.get u0 ult
        refine onP_at hp6 ⟨r, (mk m7).cell hc6, i64ok (by omega) (by omega), mt m7 w7 (lenM _) (oky.1.1 r (List.mem_of_getElem? hr)) fun h8 w8 m8 m78 => ⟨rfl, i64ok (by omega) (by omega), fwd_next u0 ult ⟨m8, m67.trans m78 fun _ _ h => h, ?_⟩⟩⟩
        rw [← mts_append] at w8
        rw [show (u + 1).toNat = u.toNat + 1 by omega, map_take_succ hr, ← List.append_assoc]; exact w8
      · rw [show u.toNat = y.args.length by omega, List.take_length] at w7
        have hev : bodyEv kk (x.body.take (i + 1).toNat) = bodyEv kk (x.body.take i.toNat) ++ insEv (kk + i) y := by
          rw [show (i + 1).toNat = i.toNat + 1 by omega, bodyEv_succ hy, show ((i.toNat : Nat) : Int) = i by omega]
        have g7 := m67.cl (gx _ Ext.rfl' 1 _ rfl) fun ⟨q1, q2⟩ => hxn q2 q1
        refine ⟨_, g7, fun d0 => ⟨_, g7, i64ok (by omega) (by omega), i64ok (by omega) (by omega), mt m7 w7 (lenM _) (by rcases hdst with h | h; omega; exact h) fun h9 w9 m9 m79 => ⟨rfl, i64ok (by omega) (by omega), ⟨by omega, by omega, by omega, m9, ?_⟩, ?_⟩⟩, fun d0 => ⟨i64ok (by omega) (by omega), ⟨by omega, by omega, by omega, m7, ?_⟩, ?_⟩⟩
        · rw [← mts_append] at w9
          rw [hev]; unfold insEv; rw [if_pos d0]
          simpa [List.append_assoc] using w9
        · show (bn - (i + 1)).toNat < (bn - i).toNat; omega
        · rw [hev]; unfold insEv; rw [if_neg d0]
          simpa [List.append_assoc] using w7
        · show (bn - (i + 1)).toNat < (bn - i).toNat; omega
    · have hi : i.toNat = x.body.length := by omega
      have hi' : i = (x.body.length : Int) := by omega
      subst hi'
      rw [hi, List.take_length] at w4
      have e4 := mk m4
      refine ⟨i64ok (by omega) (by omega), fun h' => Fw.Mod (SB sb l) h h' ∧ OwnV h' sp sb (mts l (ta.map (fun r => (r, 2 * (kk + 1))) ++ bodyEv kk x.body ++ termEv (kk + x.body.length) x.term.value)), ⟨by simp, _, e4.cell (hcell 2 _ rfl), fun v0 => ⟨by simp, _, e4.cell (hcell 2 _ rfl), i64ok (by omega) (by omega), mt m4 w4 (lenM _) (by rcases okx.val with h | h; omega; exact h) fun h10 w10 m10 _ => ⟨rfl, m10, ?_⟩⟩, fun v0 => ⟨m4, ?_⟩⟩, fun h5 ⟨m5, w5⟩ => ?_⟩
      · rw [← mts_append] at w10
        unfold termEv; rw [if_pos v0]; exact w10
      · unfold termEv; rw [if_neg v0, List.append_nil]; exact w4
      · have e5 := mk m5
        refine ⟨by simp, onP_at rfl ⟨_, _, _, e5.cell b1, b0, by omega, onP_at hpb ⟨_, _, _, e5.cell (hcb 0 _ rfl), ?_⟩⟩⟩
        refine c48 (ht.ext e5) (wB.ext e5) hlB (by omega) (e5.cell n1) (n2.ext e5) (fun i hi => ?_) fun p2 n2' c2 q2 h11 w11 hl2 hb2 e11 => ⟨_, _, _, rfl, ?_⟩
        · rcases Nat.lt_or_ge i names.length with h | h
          · omega
          · rw [sb2 i h] at hi; cases hi
        have hTB := regT _ sb2
        have hTBl := toldL_len names (B b.toNat) size
        generalize htb : toldL names (B b.toNat) size = tb at w11 hl2 hb2 k hTB hTBl
        have m11 : Fw.Mod (SB sb l) h h11 := m5.trans (e11.mod.wid (S' := SB sb l) fun _ _ h => h.elim) fun _ _ h => h
        have hs5 := m5.size
        refine fwd n2' (fun v h' => Fw.Mod (SB sb l) h h' ∧ OwnV h' sp sb (mts l (ta.map (fun r => (r, 2 * (kk + 1))) ++ bodyEv kk x.body ++ termEv (kk + x.body.length) x.term.value ++ (tb.take v.toNat).map fun r => (r, 2 * (kk + x.body.length + 1) + 1))) ∧ OwnI h' p2 q2 tb) (by omega) ⟨m11, by simpa using w5.ext e11, w11⟩ fun v h12 v0 v1 ⟨m12, w12, wt12⟩ => ⟨fun vlt => ⟨v0, vlt, ?_⟩, fun vge => ?_⟩
        · have hvl : v.toNat < tb.length := by omega
          obtain ⟨r, hr⟩ : ∃ r, tb[v.toNat]? = some r := ⟨tb[v.toNat], by simp [hvl]⟩
          obtain ⟨hp1, hc1⟩ := Own.cell (enc := fun x : Int => [Value.int .i64 x]) (k := 1) (fun _ => rfl) wt12 hr (j := 0) rfl
          have hq1 : h5.size ≤ q2 := hb2 (by rintro rfl; simp at hvl)
          refine onP_at hp1 ⟨r, hc1, i64ok (by omega) (by omega), i64ok (by omega) (by omega), mt m12 w12 (lenM _) (hTB r (List.mem_of_getElem? hr)) fun h3 w3 m3 m23 => ⟨rfl, i64ok (by omega) (by omega), fwd_next v0 vlt ⟨m3, ?_, wt12.mod m23 fun ⟨h1, h2⟩ => by have := w.lt h2; omega⟩⟩⟩
          rw [← mts_append] at w3
          rw [show (v + 1).toNat = v.toNat + 1 by omega, map_take_succ hr, ← List.append_assoc]; exact w3
        · rw [show v.toNat = tb.length by omega, List.take_length] at w12
          exact k h12 w12 m12
end Go.Proofs.Try

/- The functions 26 27 58 75 60 28 32 64 33 34 65 83 84 99 106 35 of the seat live: their text in the framework, and what each asks. -/
set_option maxRecDepth 100000
set_option linter.unusedVariables false
set_option linter.unusedSimpArgs false
open Go Go.Fw Go.Proofs
namespace Go.Proofs.Try
/- slices.Sorted[int] -/
def fl26 : FL := ⟨9, (.seq (.reg [sv 2 (.mov (.const (Go.Value.slice none 0 0)))]) (.seq (.reg [sv 4 (.mov (t 0)), se 5 (.call 58 [(t 4)] (.one .slice)), sv 3 (.mov (t 5))]) (.seq (.reg [sv 6 (.mov (t 3)), se 7 (.call 59 [(t 6)] .unit)]) (.seq (.reg [sv 8 (.mov (t 3)), sv 2 (.mov (t 8))]) .ret)))), [.tmp 2]⟩
theorem ck26 : chkFL Tryd.prog 26 fl26 = true := by kernel_rfl
def sh26 (bv_0 : Nat) (h : H) (R : Value → H → Prop) : Prop :=
 HC Tryd.prog 58 [(.func (.func 60) ⟨[]⟩ ⟨[(.pointer (some ⟨bv_0, 0, none⟩))]⟩)] h fun rv_5 h1 =>
 ∃ (av_5 : Option Addr) (nv_5 cv_5 : Nat), rv_5 = (.slice av_5 nv_5 cv_5) ∧
 HC Tryd.prog 59 [(.slice av_5 nv_5 cv_5)] h1 fun rv_7 h2 =>
 rv_7 = (.tuple ⟨[]⟩) ∧
 R (.slice av_5 nv_5 cv_5) h2
theorem hc26 {bv_0 : Nat} {h : H} {R : Value → H → Prop} (x : sh26 bv_0 h R) : HC Tryd.prog 26 [(.func (.func 60) ⟨[]⟩ ⟨[(.pointer (some ⟨bv_0, 0, none⟩))]⟩)] h R :=
  FL.sound mixed ck26 ⟨rfl, Eq.mp (by unfold sh26; kernel_rfl) x⟩
/- slices.Values[[]int,int] -/
def fl27 : FL := ⟨4, (.seq (.reg [se 1 (.box 22 (t 0)), sv 2 (.mov (.const Go.Value.nilFunc))]) (.seq (.reg [sv 3 (.fnv (Go.Fn.func 60) [] [(t 1)]), sv 2 (.mov (t 3))]) .ret)), [.tmp 2]⟩
theorem ck27 : chkFL Tryd.prog 27 fl27 = true := by kernel_rfl
def sh27 (as_0 : Option Addr) (ns_0 cs_0 : Nat) (h : H) (R : Value → H → Prop) : Prop :=
 ∀ (bs_1 : Nat) (h1 : H), New h (.cells ⟨[(.slice as_0 ns_0 cs_0)]⟩ 22) bs_1 h1 →
 R (.func (Go.Fn.func 60) ⟨[]⟩ ⟨[(.pointer (some ⟨bs_1, 0, none⟩))]⟩) h1
theorem hc27 {as_0 : Option Addr} {ns_0 cs_0 : Nat} {h : H} {R : Value → H → Prop} (x : sh27 as_0 ns_0 cs_0 h R) : HC Tryd.prog 27 [(.slice as_0 ns_0 cs_0)] h R :=
  FL.sound mixed ck27 ⟨rfl, Eq.mp (by unfold sh27; kernel_rfl) x⟩
/- slices.Collect[int] -/
def fl58 : FL := ⟨5, (.seq (.reg [sv 2 (.mov (.const (Go.Value.slice none 0 0)))]) (.seq (.reg [sv 3 (.mov (t 0)), se 4 (.call 75 [(.const (Go.Value.slice none 0 0)), (t 3)] (.one .slice)), sv 2 (.mov (t 4))]) .ret)), [.tmp 2]⟩
theorem ck58 : chkFL Tryd.prog 58 fl58 = true := by kernel_rfl
def sh58 (bv_0 : Nat) (h : H) (R : Value → H → Prop) : Prop :=
 HC Tryd.prog 75 [(.slice none 0 0), (.func (.func 60) ⟨[]⟩ ⟨[(.pointer (some ⟨bv_0, 0, none⟩))]⟩)] h fun rv_4 h1 =>
 ∃ (av_4 : Option Addr) (nv_4 cv_4 : Nat), rv_4 = (.slice av_4 nv_4 cv_4) ∧
 R (.slice av_4 nv_4 cv_4) h1
theorem hc58 {bv_0 : Nat} {h : H} {R : Value → H → Prop} (x : sh58 bv_0 h R) : HC Tryd.prog 58 [(.func (.func 60) ⟨[]⟩ ⟨[(.pointer (some ⟨bv_0, 0, none⟩))]⟩)] h R :=
  FL.sound mixed ck58 ⟨rfl, Eq.mp (by unfold sh58; kernel_rfl) x⟩
/- slices.AppendSeq[[]int,int] -/
def fl75 : TFL := ⟨13, (.seq (.il (.reg [se 2 (.box 22 (t 0)), sv 4 (.mov (.const (Go.Value.slice none 0 0)))])) (.seq (.seq (.il (.reg [sv 6 (.mov (t 1))])) (.blk 0 (.rng (t 6) [7] [(.one (.int .i64))] (.reg [sv 5 (.mov (t 7))]) (.block 1 (.reg [sv 8 (.ld .slice (t 2)), sv 9 (.mov (t 5)), se 10 (.bsl 3 1 [.int .i64 0] 1 [(0, 1, (t 9))]), se 11 (.app 3 1 8 [.int .i64 0] (t 8) (t 10)), ne (.sto 1 (t 2) (t 11))]))))) (.il (.seq (.reg [sv 12 (.ld .slice (t 2)), sv 4 (.mov (t 12))]) .ret)))), [.tmp 4]⟩
theorem ck75 : chkTFL Tryd.prog 75 fl75 = true := by kernel_rfl
def sh75 (as_0 : Option Addr) (ns_0 cs_0 : Nat) (bv_1 : Nat) (h : H) (R : Value → H → Prop) : Prop :=
 ∀ (bs_2 : Nat) (h1 : H), New h (.cells ⟨[(.slice as_0 ns_0 cs_0)]⟩ 22) bs_2 h1 →
 fnOk Tryd.prog 60 = true ∧
 ∀ (D l : Nat) (h2 h3 : H) (rec : Loop), New h1 (.deferred (some [])) D h2 → New h2 (.loop rec) l h3 →
 (∀ (v_7 : Int), ∀ (h4 : H) (Rr : Value → H → Prop), (h4[l]? = some (.loop rec) ∧ 1 = 1 ∧
 h4[l]? = some (.loop rec) ∧
 ∀ h5 : H, Up h4 l (.loop { rec with state := .busy }) h5 →
 ∃ (av_8 : Option Addr) (nv_8 cv_8 : Nat), cell h5 ⟨bs_2, 0, none⟩ = some (.slice av_8 nv_8 cv_8) ∧
 1 = 1 ∧ 0 + 1 ≤ 1 ∧
 ∀ (bv_10 : Nat) (h9 : H), New h5 (.cells ⟨[(.int .i64 v_7)]⟩ 3) bv_10 h9 →
 apQ 3 1 8 [.int .i64 0] h9 av_8 nv_8 cv_8 (some ⟨bv_10, 0, none⟩) 1 fun av_11 nv_11 cv_11 h10 =>
 stQ 1 h10 bs_2 0 [(.slice av_11 nv_11 cv_11)] fun h11 =>
 h11[l]? = some (.loop { rec with state := .busy }) ∧
 ∀ h6 : H, Up h11 l (.loop rec) h6 →
 Rr (.bool true) h6) → HY Tryd.prog l [(.int .i64 v_7)] h4 Rr) →
 HC Tryd.prog 60 [(.func (.yield l) ⟨[]⟩ ⟨[]⟩), (.pointer (some ⟨bv_1, 0, none⟩))] h3 fun rr h7 =>
 h7[l]? = some (.loop rec) ∧
 ∀ h8 : H, Up h7 l (.loop { rec with state := .exhausted }) h8 →
 ∃ (av_12 : Option Addr) (nv_12 cv_12 : Nat), cell h8 ⟨bs_2, 0, none⟩ = some (.slice av_12 nv_12 cv_12) ∧
 h8[D]? = some (.deferred (some [])) ∧
 ∀ h12 : H, Up h8 D (.deferred none) h12 →
 R (.slice av_12 nv_12 cv_12) h12
theorem hc75 {as_0 : Option Addr} {ns_0 cs_0 : Nat} {bv_1 : Nat} {h : H} {R : Value → H → Prop} (x : sh75 as_0 ns_0 cs_0 bv_1 h R) : HC Tryd.prog 75 [(.slice as_0 ns_0 cs_0), (.func (.func 60) ⟨[]⟩ ⟨[(.pointer (some ⟨bv_1, 0, none⟩))]⟩)] h R :=
  TFL.sound mixed ck75 ⟨rfl, Eq.mp (by unfold sh75; kernel_rfl) x⟩
/- slices.Values[[]int,int]$1 -/
def fl60 : FL := ⟨16, (.seq (.reg [sv 5 (.ld .slice (t 1)), sv 6 (.len (t 5)), sv 7 (.mov (ci 0))]) (.block 0 (.loop [(7, (.one (.int .i64)))] [4, 7, 8, 9, 10, 11, 12, 13, 14, 15] (.seq (.reg [sv 8 (.cmp .lss (t 7) (t 6))]) (.seq (.cond (t 8) .skip (.exit 0)) (.seq (.block 1 (.seq (.reg [sv 9 (.idx 1 (t 5) (t 7)), sv 10 (.ld (.int .i64) (t 9)), sv 4 (.mov (t 10))]) (.seq (.reg [sv 11 (.mov (t 0)), sv 12 (.mov (t 4)), se 13 (.cyl (t 11) [(t 12)] (.one .bool)), sv 14 (.no (t 13))]) (.cond (t 14) .ret .skip)))) (.reg [sv 15 (.ar .add true (t 7) (ci 1)), sv 7 (.mov (t 15))]))))))), []⟩
theorem ck60 : chkFL Tryd.prog 60 fl60 = true := by kernel_rfl
def sh60 (l_0 : Nat) (bf0 : Nat) (h : H) (R : Value → H → Prop) : Prop :=
 ∃ (av_5 : Option Addr) (nv_5 cv_5 : Nat), cell h ⟨bf0, 0, none⟩ = some (.slice av_5 nv_5 cv_5) ∧
 ∃ J : Int → LI, (J 0).1 h ∧
 ∀ (v_7 : Int), ∀ h1 : H, (J v_7).1 h1 →
 (((v_7 < (↑nv_5 : Int)) →
 0 ≤ v_7 ∧ v_7 < (↑nv_5 : Int) ∧
 (onP av_5 fun bv_9 ov_9 =>
 ∃ (v_10 : Int), cell h1 ⟨bv_9, (ov_9 + (v_7).toNat * 1), none⟩ = some (.int .i64 v_10) ∧
 HY Tryd.prog l_0 [(.int .i64 v_10)] h1 fun rv_13 h2 =>
 ∃ (v_13 : Bool), rv_13 = (.bool v_13) ∧
 (((!v_13) = true →
 R (.tuple ⟨[]⟩) h2) ∧
 ((!v_13) = false →
 InR .i64 (v_7 + 1) ∧
 (J (v_7 + 1)).1 h2 ∧ (J (v_7 + 1)).2 h2 < (J v_7).2 h1)))) ∧
 (¬ (v_7 < (↑nv_5 : Int)) →
 R (.tuple ⟨[]⟩) h1))
theorem hc60 {l_0 : Nat} {bf0 : Nat} {h : H} {R : Value → H → Prop} (x : sh60 l_0 bf0 h R) : HC Tryd.prog 60 [(.func (.yield l_0) ⟨[]⟩ ⟨[]⟩), (.pointer (some ⟨bf0, 0, none⟩))] h R :=
  FL.sound mixed ck60 ⟨rfl, Eq.mp (by unfold sh60; kernel_rfl) x⟩
/- slices.Compact[[]int,int] -/
def fl28 : FL := ⟨61, (.seq (.reg [sv 2 (.mov (.const (Go.Value.slice none 0 0)))]) (.seq (.seq (.reg [sv 6 (.mov (t 0)), sv 7 (.len (t 6)), sv 8 (.cmp .lss (t 7) (ci 2))]) (.cond (t 8) (.seq (.reg [sv 9 (.mov (t 0)), sv 2 (.mov (t 9))]) .ret) .skip)) (.seq (.seq (.reg [sv 3 (.mov (ci 1))]) (.block 0 (.loop [(3, (.one (.int .i64)))] [2, 3, 4, 5, 10, 11, 12, 13, 14, 15, 16, 17, 18, 19, 20, 21, 22, 23, 24, 25, 26, 27, 28, 29, 30, 31, 32, 33, 34, 35, 36, 37, 38, 39, 40, 41, 42, 43, 44, 45, 46, 47, 48, 49, 50, 51, 52, 53, 54, 55, 56, 57, 58, 59] (.seq (.seq (.reg [sv 10 (.mov (t 3)), sv 11 (.mov (t 0)), sv 12 (.len (t 11)), sv 13 (.cmp .lss (t 10) (t 12))]) (.cond (t 13) .skip (.exit 0))) (.seq (.block 1 (.seq (.drw .eq [] [16, 17, 18, 19, 20, 21, 22, 23, 24, 25] (.takeP 0 (sv 16 (.mov (t 0))) (.takeP 1 (sv 17 (.mov (t 3))) (.takeP 2 (sv 18 (.idx 1 (t 16) (t 17))) (.takeP 4 (sv 20 (.mov (t 0))) (.takeP 5 (sv 21 (.mov (t 3))) (.takeP 6 (sv 22 (.ar .sub true (t 21) (ci 1))) (.takeP 7 (sv 23 (.idx 1 (t 20) (t 22))) (.takeR 3 (sv 19 (.ld (.int .i64) (t 18))) (.takeR 8 (sv 24 (.ld (.int .i64) (t 23))) (.takeP 9 (sv 25 (.cmp .eql (t 19) (t 24))) .done))))))))))) (.cond (t 25) (.seq (.reg [sv 26 (.mov (t 0)), sv 27 (.mov (t 3)), sv 28 (.slc 1 (t 26) (some (t 27)) none), sv 4 (.mov (t 28))]) (.seq (.seq (.reg [sv 5 (.mov (ci 1))]) (.block 2 (.loop [(3, (.one (.int .i64))), (5, (.one (.int .i64)))] [3, 5, 29, 30, 31, 32, 33, 34, 35, 36, 37, 38, 39, 40, 41, 42, 43, 44, 45, 46, 47, 48, 49, 50, 51, 52, 53] (.seq (.seq (.reg [sv 29 (.mov (t 5)), sv 30 (.mov (t 4)), sv 31 (.len (t 30)), sv 32 (.cmp .lss (t 29) (t 31))]) (.cond (t 32) .skip (.exit 2))) (.seq (.block 3 (.seq (.drw .eq [] [35, 36, 37, 38, 39, 40, 41, 42, 43, 44] (.takeP 0 (sv 35 (.mov (t 4))) (.takeP 1 (sv 36 (.mov (t 5))) (.takeP 2 (sv 37 (.idx 1 (t 35) (t 36))) (.takeP 4 (sv 39 (.mov (t 4))) (.takeP 5 (sv 40 (.mov (t 5))) (.takeP 6 (sv 41 (.ar .sub true (t 40) (ci 1))) (.takeP 7 (sv 42 (.idx 1 (t 39) (t 41))) (.takeR 3 (sv 38 (.ld (.int .i64) (t 37))) (.takeR 8 (sv 43 (.ld (.int .i64) (t 42))) (.takeP 9 (sv 44 (.cmp .neq (t 38) (t 43))) .done))))))))))) (.cond (t 44) (.seq (.reg [sv 45 (.mov (t 0)), sv 46 (.mov (t 3)), sv 47 (.mov (t 4)), sv 48 (.mov (t 5)), sv 49 (.idx 1 (t 47) (t 48)), sv 50 (.ld (.int .i64) (t 49)), sv 51 (.idx 1 (t 45) (t 46)), ne (.sto 1 (t 51) (t 50))]) (.reg [sv 52 (.mov (t 3)), sv 53 (.ar .add true (t 52) (ci 1)), sv 3 (.mov (t 53))])) .skip))) (.reg [sv 33 (.mov (t 5)), sv 34 (.ar .add true (t 33) (ci 1)), sv 5 (.mov (t 34))])))))) (.seq (.reg [sv 54 (.mov (t 0)), sv 55 (.mov (t 3)), sv 56 (.slc 1 (t 54) (some (t 55)) none), ne (.clr 1 [.int .i64 0] (t 56))]) (.seq (.reg [sv 57 (.mov (t 0)), sv 58 (.mov (t 3)), sv 59 (.slc 1 (t 57) none (some (t 58))), sv 2 (.mov (t 59))]) .ret)))) .skip))) (.reg [sv 14 (.mov (t 3)), sv 15 (.ar .add true (t 14) (ci 1)), sv 3 (.mov (t 15))])))))) (.seq (.reg [sv 60 (.mov (t 0)), sv 2 (.mov (t 60))]) .ret)))), [.tmp 2]⟩
theorem ck28 : chkFL Tryd.prog 28 fl28 = true := by kernel_rfl
def sh28 (as_0 : Option Addr) (ns_0 cs_0 : Nat) (h : H) (R : Value → H → Prop) : Prop :=
 ((((↑ns_0 : Int) < 2) →
 R (.slice as_0 ns_0 cs_0) h) ∧
 (¬ ((↑ns_0 : Int) < 2) →
 ∃ J : Int → LI, (J 1).1 h ∧
 ∀ (k_3 : Int), ∀ h1 : H, (J k_3).1 h1 →
 (((k_3 < (↑ns_0 : Int)) →
 0 ≤ k_3 ∧ k_3 < (↑ns_0 : Int) ∧
 (onP as_0 fun bv_18 ov_18 =>
 InR .i64 (k_3 - 1) ∧
 0 ≤ (k_3 - 1) ∧ (k_3 - 1) < (↑ns_0 : Int) ∧
 (onP as_0 fun bv_23 ov_23 =>
 ∃ (v_19 : Int), cell h1 ⟨bv_18, (ov_18 + (k_3).toNat * 1), none⟩ = some (.int .i64 v_19) ∧
 ∃ (v_24 : Int), cell h1 ⟨bv_23, (ov_23 + ((k_3 - 1)).toNat * 1), none⟩ = some (.int .i64 v_24) ∧
 (((v_19 = v_24) →
 ns_0 ≤ cs_0 ∧ 0 ≤ k_3 ∧ k_3 ≤ (↑ns_0 : Int) ∧
 ∃ qv_28 : Option Addr, ((k_3 = (↑cs_0 : Int) → qv_28 = as_0) ∧ (k_3 < (↑cs_0 : Int) → qv_28 = Option.map (fun x => x.add ((k_3).toNat * 1)) as_0)) ∧
 ∃ J_1 : Int → Int → LI, (J_1 k_3 1).1 h1 ∧
 ∀ (k_3_1 : Int), ∀ (k2_5 : Int), ∀ h2 : H, (J_1 k_3_1 k2_5).1 h2 →
 (((k2_5 < (↑(((↑ns_0 : Int) - k_3).toNat) : Int)) →
 0 ≤ k2_5 ∧ k2_5 < (↑(((↑ns_0 : Int) - k_3).toNat) : Int) ∧
 (onP qv_28 fun bv_37 ov_37 =>
 InR .i64 (k2_5 - 1) ∧
 0 ≤ (k2_5 - 1) ∧ (k2_5 - 1) < (↑(((↑ns_0 : Int) - k_3).toNat) : Int) ∧
 (onP qv_28 fun bv_42 ov_42 =>
 ∃ (v_38 : Int), cell h2 ⟨bv_37, (ov_37 + (k2_5).toNat * 1), none⟩ = some (.int .i64 v_38) ∧
 ∃ (v_43 : Int), cell h2 ⟨bv_42, (ov_42 + ((k2_5 - 1)).toNat * 1), none⟩ = some (.int .i64 v_43) ∧
 (((¬ v_38 = v_43) →
 0 ≤ k2_5 ∧ k2_5 < (↑(((↑ns_0 : Int) - k_3).toNat) : Int) ∧
 (onP qv_28 fun bv_49 ov_49 =>
 ∃ (v_50 : Int), cell h2 ⟨bv_49, (ov_49 + (k2_5).toNat * 1), none⟩ = some (.int .i64 v_50) ∧
 0 ≤ k_3_1 ∧ k_3_1 < (↑ns_0 : Int) ∧
 (onP as_0 fun bv_51 ov_51 =>
 stQ 1 h2 bv_51 (ov_51 + (k_3_1).toNat * 1) [(.int .i64 v_50)] fun h3 =>
 InR .i64 (k_3_1 + 1) ∧
 InR .i64 (k2_5 + 1) ∧
 (J_1 (k_3_1 + 1) (k2_5 + 1)).1 h3 ∧ (J_1 (k_3_1 + 1) (k2_5 + 1)).2 h3 < (J_1 k_3_1 k2_5).2 h2))) ∧
 (¬ (¬ v_38 = v_43) →
 InR .i64 (k2_5 + 1) ∧
 (J_1 k_3_1 (k2_5 + 1)).1 h2 ∧ (J_1 k_3_1 (k2_5 + 1)).2 h2 < (J_1 k_3_1 k2_5).2 h2))))) ∧
 (¬ (k2_5 < (↑(((↑ns_0 : Int) - k_3).toNat) : Int)) →
 ns_0 ≤ cs_0 ∧ 0 ≤ k_3_1 ∧ k_3_1 ≤ (↑ns_0 : Int) ∧
 ∃ qv_56 : Option Addr, ((k_3_1 = (↑cs_0 : Int) → qv_56 = as_0) ∧ (k_3_1 < (↑cs_0 : Int) → qv_56 = Option.map (fun x => x.add ((k_3_1).toNat * 1)) as_0)) ∧
 (((((↑ns_0 : Int) - k_3_1).toNat) = 0 →
 ns_0 ≤ cs_0 ∧ 0 ≤ k_3_1 ∧ k_3_1 ≤ (↑cs_0 : Int) ∧ 
 ∃ qv_59 : Option Addr, qv_59 = as_0 ∧
 R (.slice qv_59 ((k_3_1 - 0).toNat) (((↑cs_0 : Int) - 0).toNat)) h2) ∧ (0 < (((↑ns_0 : Int) - k_3_1).toNat) →
 (onP qv_56 fun bv_x ov_x =>
 ∃ csv_x_1 ev_x_1, h2[bv_x]? = some (.cells ⟨csv_x_1⟩ ev_x_1 (0, 0)) ∧ ov_x + (((↑ns_0 : Int) - k_3_1).toNat) * 1 ≤ csv_x_1.length ∧
 ∀ (h4 : H), Up h2 bv_x (.cells ⟨setAt csv_x_1 ov_x (repV [.int .i64 0] (((↑ns_0 : Int) - k_3_1).toNat))⟩ ev_x_1 (0, 0)) h4 →
 ns_0 ≤ cs_0 ∧ 0 ≤ k_3_1 ∧ k_3_1 ≤ (↑cs_0 : Int) ∧ 
 ∃ qv_59_1 : Option Addr, qv_59_1 = as_0 ∧
 R (.slice qv_59_1 ((k_3_1 - 0).toNat) (((↑cs_0 : Int) - 0).toNat)) h4)))))) ∧
 (¬ (v_19 = v_24) →
 InR .i64 (k_3 + 1) ∧
 (J (k_3 + 1)).1 h1 ∧ (J (k_3 + 1)).2 h1 < (J k_3).2 h1))))) ∧
 (¬ (k_3 < (↑ns_0 : Int)) →
 R (.slice as_0 ns_0 cs_0) h1))))
theorem hc28 {as_0 : Option Addr} {ns_0 cs_0 : Nat} {h : H} {R : Value → H → Prop} (x : sh28 as_0 ns_0 cs_0 h R) : HC Tryd.prog 28 [(.slice as_0 ns_0 cs_0)] h R :=
  FL.sound mixed ck28 ⟨rfl, Eq.mp (by unfold sh28; kernel_rfl) x⟩
/- slices.DeleteFunc[[]quern/api.Interval,quern/api.Interval] -/
def fl32 : FL := ⟨42, (.seq (.reg [sv 4 (.mov (.const (Go.Value.slice none 0 0)))]) (.seq (.reg [sv 8 (.mov (t 0)), sv 9 (.mov (t 1)), se 10 (.call 64 [(t 8), (t 9)] (.one (.int .i64))), sv 5 (.mov (t 10))]) (.seq (.seq (.reg [sv 11 (.mov (t 5)), sv 12 (.cmp .eql (t 11) (ci (-1)))]) (.cond (t 12) (.seq (.reg [sv 13 (.mov (t 0)), sv 4 (.mov (t 13))]) .ret) .skip)) (.seq (.seq (.reg [sv 14 (.mov (t 5)), sv 15 (.ar .add true (t 14) (ci 1)), sv 6 (.mov (t 15))]) (.block 0 (.loop [(5, (.one (.int .i64))), (6, (.one (.int .i64)))] [5, 6, 7, 16, 17, 18, 19, 20, 21, 22, 23, 24, 25, 26, 27, 28, 29, 30, 31, 32, 33, 34, 35] (.seq (.seq (.reg [sv 16 (.mov (t 6)), sv 17 (.mov (t 0)), sv 18 (.len (t 17)), sv 19 (.cmp .lss (t 16) (t 18))]) (.cond (t 19) .skip (.exit 0))) (.seq (.block 1 (.seq (.reg [sv 22 (.mov (t 0)), sv 23 (.mov (t 6)), sv 24 (.idx 3 (t 22) (t 23)), sv 25 (.lda [(.int .i64), (.int .i64), (.int .i64)] (t 24)), se 7 (.alc 52 [.int .i64 0, .int .i64 0, .int .i64 0]), ne (.sto 3 (t 7) (t 25))]) (.seq (.reg [sv 26 (.mov (t 1)), sv 27 (.lda [(.int .i64), (.int .i64), (.int .i64)] (t 7)), se 28 (.cav (t 26) [(t 27)] (.one .bool)), sv 29 (.no (t 28))]) (.cond (t 29) (.seq (.reg [sv 30 (.mov (t 0)), sv 31 (.mov (t 5)), sv 32 (.lda [(.int .i64), (.int .i64), (.int .i64)] (t 7)), sv 33 (.idx 3 (t 30) (t 31)), ne (.sto 3 (t 33) (t 32))]) (.reg [sv 34 (.mov (t 5)), sv 35 (.ar .add true (t 34) (ci 1)), sv 5 (.mov (t 35))])) .skip)))) (.reg [sv 20 (.mov (t 6)), sv 21 (.ar .add true (t 20) (ci 1)), sv 6 (.mov (t 21))])))))) (.seq (.reg [sv 36 (.mov (t 0)), sv 37 (.mov (t 5)), sv 38 (.slc 3 (t 36) (some (t 37)) none), ne (.clr 3 [.int .i64 0, .int .i64 0, .int .i64 0] (t 38))]) (.seq (.reg [sv 39 (.mov (t 0)), sv 40 (.mov (t 5)), sv 41 (.slc 3 (t 39) none (some (t 40))), sv 4 (.mov (t 41))]) .ret)))))), [.tmp 4]⟩
theorem ck32 : chkFL Tryd.prog 32 fl32 = true := by kernel_rfl
def sh32 (as_0 : Option Addr) (ns_0 cs_0 : Nat) (h : H) (R : Value → H → Prop) : Prop :=
 HC Tryd.prog 64 [(.slice as_0 ns_0 cs_0), (.func (.func 33) ⟨[]⟩ ⟨[]⟩)] h fun rv_10 h1 =>
 ∃ (v_10 : Int), rv_10 = (.int .i64 v_10) ∧
 (((v_10 = (-1)) →
 R (.slice as_0 ns_0 cs_0) h1) ∧
 (¬ (v_10 = (-1)) →
 InR .i64 (v_10 + 1) ∧
 ∃ J : Int → Int → LI, (J v_10 (v_10 + 1)).1 h1 ∧
 ∀ (i_5 : Int), ∀ (j_6 : Int), ∀ h2 : H, (J i_5 j_6).1 h2 →
 (((j_6 < (↑ns_0 : Int)) →
 0 ≤ j_6 ∧ j_6 < (↑ns_0 : Int) ∧
 (onP as_0 fun bv_24 ov_24 =>
 ∃ (v_25 : Int), cell h2 ⟨bv_24, ((ov_24 + (j_6).toNat * 3) + 0), none⟩ = some (.int .i64 v_25) ∧
 ∃ (v_25_1 : Int), cell h2 ⟨bv_24, ((ov_24 + (j_6).toNat * 3) + 1), none⟩ = some (.int .i64 v_25_1) ∧
 ∃ (v_25_2 : Int), cell h2 ⟨bv_24, ((ov_24 + (j_6).toNat * 3) + 2), none⟩ = some (.int .i64 v_25_2) ∧
 ∀ (bv_7 : Nat) (h3 : H), New h2 (.cells ⟨[(.int .i64 0), (.int .i64 0), (.int .i64 0)]⟩ 52) bv_7 h3 →
 stQ 3 h3 bv_7 0 [(.int .i64 v_25), (.int .i64 v_25_1), (.int .i64 v_25_2)] fun h4 =>
 ∃ (v_27 : Int), cell h4 ⟨bv_7, (0 + 0), none⟩ = some (.int .i64 v_27) ∧
 ∃ (v_27_1 : Int), cell h4 ⟨bv_7, (0 + 1), none⟩ = some (.int .i64 v_27_1) ∧
 ∃ (v_27_2 : Int), cell h4 ⟨bv_7, (0 + 2), none⟩ = some (.int .i64 v_27_2) ∧
 fnOk Tryd.prog 33 = true ∧
 HC Tryd.prog 33 [(.agg ⟨[(.int .i64 v_27), (.int .i64 v_27_1), (.int .i64 v_27_2)]⟩)] h4 fun rv_28 h5 =>
 ∃ (v_28 : Bool), rv_28 = (.bool v_28) ∧
 (((!v_28) = true →
 ∃ (v_32 : Int), cell h5 ⟨bv_7, (0 + 0), none⟩ = some (.int .i64 v_32) ∧
 ∃ (v_32_1 : Int), cell h5 ⟨bv_7, (0 + 1), none⟩ = some (.int .i64 v_32_1) ∧
 ∃ (v_32_2 : Int), cell h5 ⟨bv_7, (0 + 2), none⟩ = some (.int .i64 v_32_2) ∧
 0 ≤ i_5 ∧ i_5 < (↑ns_0 : Int) ∧
 (onP as_0 fun bv_33 ov_33 =>
 stQ 3 h5 bv_33 (ov_33 + (i_5).toNat * 3) [(.int .i64 v_32), (.int .i64 v_32_1), (.int .i64 v_32_2)] fun h6 =>
 InR .i64 (i_5 + 1) ∧
 InR .i64 (j_6 + 1) ∧
 (J (i_5 + 1) (j_6 + 1)).1 h6 ∧ (J (i_5 + 1) (j_6 + 1)).2 h6 < (J i_5 j_6).2 h2)) ∧
 ((!v_28) = false →
 InR .i64 (j_6 + 1) ∧
 (J i_5 (j_6 + 1)).1 h5 ∧ (J i_5 (j_6 + 1)).2 h5 < (J i_5 j_6).2 h2)))) ∧
 (¬ (j_6 < (↑ns_0 : Int)) →
 ns_0 ≤ cs_0 ∧ 0 ≤ i_5 ∧ i_5 ≤ (↑ns_0 : Int) ∧
 ∃ qv_38 : Option Addr, ((i_5 = (↑cs_0 : Int) → qv_38 = as_0) ∧ (i_5 < (↑cs_0 : Int) → qv_38 = Option.map (fun x => x.add ((i_5).toNat * 3)) as_0)) ∧
 (((((↑ns_0 : Int) - i_5).toNat) = 0 →
 ns_0 ≤ cs_0 ∧ 0 ≤ i_5 ∧ i_5 ≤ (↑cs_0 : Int) ∧ 
 ∃ qv_41 : Option Addr, qv_41 = as_0 ∧
 R (.slice qv_41 ((i_5 - 0).toNat) (((↑cs_0 : Int) - 0).toNat)) h2) ∧ (0 < (((↑ns_0 : Int) - i_5).toNat) →
 (onP qv_38 fun bv_x ov_x =>
 ∃ csv_x_2 ev_x_2, h2[bv_x]? = some (.cells ⟨csv_x_2⟩ ev_x_2 (0, 0)) ∧ ov_x + (((↑ns_0 : Int) - i_5).toNat) * 3 ≤ csv_x_2.length ∧
 ∀ (h7 : H), Up h2 bv_x (.cells ⟨setAt csv_x_2 ov_x (repV [.int .i64 0, .int .i64 0, .int .i64 0] (((↑ns_0 : Int) - i_5).toNat))⟩ ev_x_2 (0, 0)) h7 →
 ns_0 ≤ cs_0 ∧ 0 ≤ i_5 ∧ i_5 ≤ (↑cs_0 : Int) ∧ 
 ∃ qv_41_1 : Option Addr, qv_41_1 = as_0 ∧
 R (.slice qv_41_1 ((i_5 - 0).toNat) (((↑cs_0 : Int) - 0).toNat)) h7)))))))
theorem hc32 {as_0 : Option Addr} {ns_0 cs_0 : Nat} {h : H} {R : Value → H → Prop} (x : sh32 as_0 ns_0 cs_0 h R) : HC Tryd.prog 32 [(.slice as_0 ns_0 cs_0), (.func (.func 33) ⟨[]⟩ ⟨[]⟩)] h R :=
  FL.sound mixed ck32 ⟨rfl, Eq.mp (by unfold sh32; kernel_rfl) x⟩
/- slices.IndexFunc[[]quern/api.Interval,quern/api.Interval] -/
def fl64 : FL := ⟨19, (.seq (.reg [sv 4 (.mov (ci 0))]) (.seq (.seq (.reg [sv 6 (.mov (t 0)), sv 7 (.len (t 6)), sv 8 (.mov (ci 0))]) (.block 0 (.loop [(8, (.one (.int .i64)))] [4, 5, 8, 9, 10, 11, 12, 13, 14, 15, 16, 17, 18] (.seq (.reg [sv 9 (.cmp .lss (t 8) (t 7))]) (.seq (.cond (t 9) .skip (.exit 0)) (.seq (.block 1 (.seq (.reg [sv 10 (.mov (t 8)), sv 5 (.mov (t 10))]) (.seq (.reg [sv 11 (.mov (t 1)), sv 12 (.mov (t 0)), sv 13 (.mov (t 5)), sv 14 (.idx 3 (t 12) (t 13)), sv 15 (.lda [(.int .i64), (.int .i64), (.int .i64)] (t 14)), se 16 (.cav (t 11) [(t 15)] (.one .bool))]) (.cond (t 16) (.seq (.reg [sv 17 (.mov (t 5)), sv 4 (.mov (t 17))]) .ret) .skip)))) (.reg [sv 18 (.ar .add true (t 8) (ci 1)), sv 8 (.mov (t 18))]))))))) (.seq (.reg [sv 4 (.mov (ci (-1)))]) .ret))), [.tmp 4]⟩
theorem ck64 : chkFL Tryd.prog 64 fl64 = true := by kernel_rfl
def sh64 (as_0 : Option Addr) (ns_0 cs_0 : Nat) (h : H) (R : Value → H → Prop) : Prop :=
 ∃ J : Int → LI, (J 0).1 h ∧
 ∀ (v_8 : Int), ∀ h1 : H, (J v_8).1 h1 →
 (((v_8 < (↑ns_0 : Int)) →
 0 ≤ v_8 ∧ v_8 < (↑ns_0 : Int) ∧
 (onP as_0 fun bv_14 ov_14 =>
 ∃ (v_15 : Int), cell h1 ⟨bv_14, ((ov_14 + (v_8).toNat * 3) + 0), none⟩ = some (.int .i64 v_15) ∧
 ∃ (v_15_1 : Int), cell h1 ⟨bv_14, ((ov_14 + (v_8).toNat * 3) + 1), none⟩ = some (.int .i64 v_15_1) ∧
 ∃ (v_15_2 : Int), cell h1 ⟨bv_14, ((ov_14 + (v_8).toNat * 3) + 2), none⟩ = some (.int .i64 v_15_2) ∧
 fnOk Tryd.prog 33 = true ∧
 HC Tryd.prog 33 [(.agg ⟨[(.int .i64 v_15), (.int .i64 v_15_1), (.int .i64 v_15_2)]⟩)] h1 fun rv_16 h2 =>
 ∃ (v_16 : Bool), rv_16 = (.bool v_16) ∧
 ((v_16 = true →
 R (.int .i64 v_8) h2) ∧
 (v_16 = false →
 InR .i64 (v_8 + 1) ∧
 (J (v_8 + 1)).1 h2 ∧ (J (v_8 + 1)).2 h2 < (J v_8).2 h1)))) ∧
 (¬ (v_8 < (↑ns_0 : Int)) →
 R (.int .i64 (-1)) h1))
theorem hc64 {as_0 : Option Addr} {ns_0 cs_0 : Nat} {h : H} {R : Value → H → Prop} (x : sh64 as_0 ns_0 cs_0 h R) : HC Tryd.prog 64 [(.slice as_0 ns_0 cs_0), (.func (.func 33) ⟨[]⟩ ⟨[]⟩)] h R :=
  FL.sound mixed ck64 ⟨rfl, Eq.mp (by unfold sh64; kernel_rfl) x⟩
/- quern/live.Intervals$1 -/
def fl33 : FL := ⟨6, (.seq (.reg [se 1 (.box 52 (t 0)), sv 2 (.mov (cb false))]) (.seq (.reg [sv 3 (.fad 0 (t 1)), sv 4 (.ld (.int .i64) (t 3)), sv 5 (.cmp .lss (t 4) (ci 0)), sv 2 (.mov (t 5))]) .ret)), [.tmp 2]⟩
theorem ck33 : chkFL Tryd.prog 33 fl33 = true := by kernel_rfl
def sh33 (x_0 : Int) (x_0_1 : Int) (x_0_2 : Int) (h : H) (R : Value → H → Prop) : Prop :=
 ∀ (bx_1 : Nat) (h1 : H), New h (.cells ⟨[(.int .i64 x_0), (.int .i64 x_0_1), (.int .i64 x_0_2)]⟩ 52) bx_1 h1 →
 ∃ (v_4 : Int), cell h1 ⟨bx_1, (0 + 0), none⟩ = some (.int .i64 v_4) ∧
 R (.bool (decide (v_4 < 0))) h1
theorem hc33 {x_0 : Int} {x_0_1 : Int} {x_0_2 : Int} {h : H} {R : Value → H → Prop} (x : sh33 x_0 x_0_1 x_0_2 h R) : HC Tryd.prog 33 [(.agg ⟨[(.int .i64 x_0), (.int .i64 x_0_1), (.int .i64 x_0_2)]⟩)] h R :=
  FL.sound mixed ck33 ⟨rfl, Eq.mp (by unfold sh33; kernel_rfl) x⟩
/- slices.SortStableFunc[[]quern/api.Interval,quern/api.Interval] -/
def fl34 : FL := ⟨9, (.reg [sv 4 (.mov (t 0)), sv 5 (.mov (t 0)), sv 6 (.len (t 5)), sv 7 (.mov (t 1)), se 8 (.call 65 [(t 4), (t 6), (t 7)] .unit)]), []⟩
theorem ck34 : chkFL Tryd.prog 34 fl34 = true := by kernel_rfl
def sh34 (ax_0 : Option Addr) (nx_0 cx_0 : Nat) (h : H) (R : Value → H → Prop) : Prop :=
 HC Tryd.prog 65 [(.slice ax_0 nx_0 cx_0), (.int .i64 (↑nx_0 : Int)), (.func (.func 35) ⟨[]⟩ ⟨[]⟩)] h fun rv_8 h1 =>
 rv_8 = (.tuple ⟨[]⟩) ∧
 R (.tuple ⟨[]⟩) h1
theorem hc34 {ax_0 : Option Addr} {nx_0 cx_0 : Nat} {h : H} {R : Value → H → Prop} (x : sh34 ax_0 nx_0 cx_0 h R) : HC Tryd.prog 34 [(.slice ax_0 nx_0 cx_0), (.func (.func 35) ⟨[]⟩ ⟨[]⟩)] h R :=
  FL.sound mixed ck34 ⟨rfl, Eq.mp (by unfold sh34; kernel_rfl) x⟩
/- slices.stableCmpFunc[quern/api.Interval] -/
def fl65 : FL := ⟨63, (.seq (.reg [sv 6 (.mov (ci 20))]) (.seq (.reg [sv 10 (.mov (t 6)), sv 7 (.mov (ci 0)), sv 8 (.mov (t 10))]) (.seq (.block 0 (.loop [(7, (.one (.int .i64))), (8, (.one (.int .i64)))] [7, 8, 11, 12, 13, 14, 15, 16, 17, 18, 19, 20, 21, 22] (.seq (.seq (.reg [sv 11 (.mov (t 8)), sv 12 (.mov (t 1)), sv 13 (.cmp .leq (t 11) (t 12))]) (.cond (t 13) .skip (.exit 0))) (.block 1 (.seq (.reg [sv 14 (.mov (t 0)), sv 15 (.mov (t 7)), sv 16 (.mov (t 8)), sv 17 (.mov (t 2)), se 18 (.call 83 [(t 14), (t 15), (t 16), (t 17)] .unit)]) (.seq (.reg [sv 19 (.mov (t 8)), sv 7 (.mov (t 19))]) (.reg [sv 20 (.mov (t 8)), sv 21 (.mov (t 6)), sv 22 (.ar .add true (t 20) (t 21)), sv 8 (.mov (t 22))]))))))) (.seq (.reg [sv 23 (.mov (t 0)), sv 24 (.mov (t 7)), sv 25 (.mov (t 1)), sv 26 (.mov (t 2)), se 27 (.call 83 [(t 23), (t 24), (t 25), (t 26)] .unit)]) (.block 2 (.loop [(6, (.one (.int .i64)))] [6, 7, 8, 9, 28, 29, 30, 31, 32, 33, 34, 35, 36, 37, 38, 39, 40, 41, 42, 43, 44, 45, 46, 47, 48, 49, 50, 51, 52, 53, 54, 55, 56, 57, 58, 59, 60, 61, 62] (.seq (.seq (.reg [sv 28 (.mov (t 6)), sv 29 (.mov (t 1)), sv 30 (.cmp .lss (t 28) (t 29))]) (.cond (t 30) .skip (.exit 2))) (.block 3 (.seq (.reg [sv 31 (.mov (t 6)), sv 32 (.ar .mul true (ci 2) (t 31)), sv 7 (.mov (ci 0)), sv 8 (.mov (t 32))]) (.seq (.block 4 (.loop [(7, (.one (.int .i64))), (8, (.one (.int .i64)))] [7, 8, 33, 34, 35, 36, 37, 38, 39, 40, 41, 42, 43, 44, 45, 46, 47, 48] (.seq (.seq (.reg [sv 33 (.mov (t 8)), sv 34 (.mov (t 1)), sv 35 (.cmp .leq (t 33) (t 34))]) (.cond (t 35) .skip (.exit 4))) (.block 5 (.seq (.reg [sv 36 (.mov (t 0)), sv 37 (.mov (t 7)), sv 38 (.mov (t 7)), sv 39 (.mov (t 6)), sv 40 (.ar .add true (t 38) (t 39)), sv 41 (.mov (t 8)), sv 42 (.mov (t 2)), se 43 (.call 84 [(t 36), (t 37), (t 40), (t 41), (t 42)] .unit)]) (.seq (.reg [sv 44 (.mov (t 8)), sv 7 (.mov (t 44))]) (.reg [sv 45 (.mov (t 8)), sv 46 (.mov (t 6)), sv 47 (.ar .mul true (ci 2) (t 46)), sv 48 (.ar .add true (t 45) (t 47)), sv 8 (.mov (t 48))]))))))) (.seq (.seq (.reg [sv 49 (.mov (t 7)), sv 50 (.mov (t 6)), sv 51 (.ar .add true (t 49) (t 50)), sv 9 (.mov (t 51))]) (.seq (.reg [sv 52 (.mov (t 9)), sv 53 (.mov (t 1)), sv 54 (.cmp .lss (t 52) (t 53))]) (.cond (t 54) (.reg [sv 55 (.mov (t 0)), sv 56 (.mov (t 7)), sv 57 (.mov (t 9)), sv 58 (.mov (t 1)), sv 59 (.mov (t 2)), se 60 (.call 84 [(t 55), (t 56), (t 57), (t 58), (t 59)] .unit)]) .skip))) (.reg [sv 61 (.mov (t 6)), sv 62 (.ar .mul true (t 61) (ci 2)), sv 6 (.mov (t 62))])))))))))))), []⟩
theorem ck65 : chkFL Tryd.prog 65 fl65 = true := by kernel_rfl
def sh65 (adata_0 : Option Addr) (ndata_0 cdata_0 : Nat) (n_1 : Int) (h : H) (R : Value → H → Prop) : Prop :=
 ∃ J : Int → Int → LI, (J 0 20).1 h ∧
 ∀ (a_7 : Int), ∀ (b_8 : Int), ∀ h1 : H, (J a_7 b_8).1 h1 →
 (((b_8 ≤ n_1) →
 HC Tryd.prog 83 [(.slice adata_0 ndata_0 cdata_0), (.int .i64 a_7), (.int .i64 b_8), (.func (.func 35) ⟨[]⟩ ⟨[]⟩)] h1 fun rv_18 h2 =>
 rv_18 = (.tuple ⟨[]⟩) ∧
 InR .i64 (b_8 + 20) ∧
 (J b_8 (b_8 + 20)).1 h2 ∧ (J b_8 (b_8 + 20)).2 h2 < (J a_7 b_8).2 h1) ∧
 (¬ (b_8 ≤ n_1) →
 HC Tryd.prog 83 [(.slice adata_0 ndata_0 cdata_0), (.int .i64 a_7), (.int .i64 n_1), (.func (.func 35) ⟨[]⟩ ⟨[]⟩)] h1 fun rv_27 h3 =>
 rv_27 = (.tuple ⟨[]⟩) ∧
 ∃ J_1 : Int → LI, (J_1 20).1 h3 ∧
 ∀ (blockSize_6 : Int), ∀ h4 : H, (J_1 blockSize_6).1 h4 →
 (((blockSize_6 < n_1) →
 InR .i64 (2 * blockSize_6) ∧
 ∃ J_2 : Int → Int → LI, (J_2 0 (2 * blockSize_6)).1 h4 ∧
 ∀ (a_7_1 : Int), ∀ (b_8_1 : Int), ∀ h5 : H, (J_2 a_7_1 b_8_1).1 h5 →
 (((b_8_1 ≤ n_1) →
 InR .i64 (a_7_1 + blockSize_6) ∧
 HC Tryd.prog 84 [(.slice adata_0 ndata_0 cdata_0), (.int .i64 a_7_1), (.int .i64 (a_7_1 + blockSize_6)), (.int .i64 b_8_1), (.func (.func 35) ⟨[]⟩ ⟨[]⟩)] h5 fun rv_43 h6 =>
 rv_43 = (.tuple ⟨[]⟩) ∧
 InR .i64 (2 * blockSize_6) ∧
 InR .i64 (b_8_1 + (2 * blockSize_6)) ∧
 (J_2 b_8_1 (b_8_1 + (2 * blockSize_6))).1 h6 ∧ (J_2 b_8_1 (b_8_1 + (2 * blockSize_6))).2 h6 < (J_2 a_7_1 b_8_1).2 h5) ∧
 (¬ (b_8_1 ≤ n_1) →
 InR .i64 (a_7_1 + blockSize_6) ∧
 ((((a_7_1 + blockSize_6) < n_1) →
 HC Tryd.prog 84 [(.slice adata_0 ndata_0 cdata_0), (.int .i64 a_7_1), (.int .i64 (a_7_1 + blockSize_6)), (.int .i64 n_1), (.func (.func 35) ⟨[]⟩ ⟨[]⟩)] h5 fun rv_60 h7 =>
 rv_60 = (.tuple ⟨[]⟩) ∧
 InR .i64 (blockSize_6 * 2) ∧
 (J_1 (blockSize_6 * 2)).1 h7 ∧ (J_1 (blockSize_6 * 2)).2 h7 < (J_1 blockSize_6).2 h4) ∧
 (¬ ((a_7_1 + blockSize_6) < n_1) →
 InR .i64 (blockSize_6 * 2) ∧
 (J_1 (blockSize_6 * 2)).1 h5 ∧ (J_1 (blockSize_6 * 2)).2 h5 < (J_1 blockSize_6).2 h4))))) ∧
 (¬ (blockSize_6 < n_1) →
 R (.tuple ⟨[]⟩) h4))))
theorem hc65 {adata_0 : Option Addr} {ndata_0 cdata_0 : Nat} {n_1 : Int} {h : H} {R : Value → H → Prop} (x : sh65 adata_0 ndata_0 cdata_0 n_1 h R) : HC Tryd.prog 65 [(.slice adata_0 ndata_0 cdata_0), (.int .i64 n_1), (.func (.func 35) ⟨[]⟩ ⟨[]⟩)] h R :=
  FL.sound mixed ck65 ⟨rfl, Eq.mp (by unfold sh65; kernel_rfl) x⟩
/- slices.insertionSortCmpFunc[quern/api.Interval] -/
def fl83 : FL := ⟨53, (.seq (.reg [sv 10 (.mov (t 1)), sv 11 (.ar .add true (t 10) (ci 1)), sv 8 (.mov (t 11))]) (.block 0 (.loop [(8, (.one (.int .i64)))] [8, 9, 12, 13, 14, 15, 16, 17, 18, 19, 20, 21, 22, 23, 24, 25, 26, 27, 28, 29, 30, 31, 32, 33, 34, 35, 36, 37, 38, 39, 40, 41, 42, 43, 44, 45, 46, 47, 48, 49, 50, 51, 52] (.seq (.seq (.reg [sv 12 (.mov (t 8)), sv 13 (.mov (t 2)), sv 14 (.cmp .lss (t 12) (t 13))]) (.cond (t 14) .skip (.exit 0))) (.seq (.block 1 (.seq (.reg [sv 17 (.mov (t 8)), sv 9 (.mov (t 17))]) (.block 2 (.loop [(9, (.one (.int .i64)))] [9, 18, 19, 20, 21, 22, 23, 24, 25, 26, 27, 28, 29, 30, 31, 32, 33, 34, 35, 36, 37, 38, 39, 40, 41, 42, 43, 44, 45, 46, 47, 48, 49, 50, 51, 52] (.seq (.seq (.drw .eq [14] [18, 19, 20, 21, 22, 23, 24, 25, 26, 27, 28, 29, 30, 31, 32, 33, 34] (.takeP 0 (sv 18 (.mov (t 9))) (.takeP 1 (sv 19 (.mov (t 1))) (.takeP 2 (sv 20 (.cmp .gtr (t 18) (t 19))) (.takeP 3 (sv 21 (.mov (t 20))) (.takeP 4 (⟨some 22, some (21, true), .v (.mov (t 3))⟩) (.takeP 5 (⟨some 23, some (21, true), .v (.mov (t 0))⟩) (.takeP 6 (⟨some 24, some (21, true), .v (.mov (t 9))⟩) (.takeP 7 (⟨some 25, some (21, true), .v (.idx 3 (t 23) (t 24))⟩) (.takeP 9 (⟨some 27, some (21, true), .v (.mov (t 0))⟩) (.takeP 10 (⟨some 28, some (21, true), .v (.mov (t 9))⟩) (.takeP 11 (⟨some 29, some (21, true), .v (.ar .sub true (t 28) (ci 1))⟩) (.takeP 12 (⟨some 30, some (21, true), .v (.idx 3 (t 27) (t 29))⟩) (.takeR 8 (⟨some 26, some (21, true), .v (.lda [(.int .i64), (.int .i64), (.int .i64)] (t 25))⟩) (.takeR 13 (⟨some 31, some (21, true), .v (.lda [(.int .i64), (.int .i64), (.int .i64)] (t 30))⟩) (.alt 14 (⟨some 32, some (21, true), .e (.cav (t 22) [(t 26), (t 31)] (.one (.int .i64)))⟩) (.takeP 15 (⟨some 33, some (21, true), .v (.cmp .lss (t 32) (ci 0))⟩) (.takeP 16 (sv 34 (.pick (t 21) (t 33) (cb false))) .done)) .stop)))))))))))))))) (.cond (t 34) .skip (.exit 2))) (.seq (.block 3 (.drw .eq [15, 17] [37, 38, 39, 40, 41, 42, 43, 44, 45, 46, 47, 48, 49, 50, 51, 52] (.takeP 0 (sv 37 (.mov (t 0))) (.takeP 1 (sv 38 (.mov (t 9))) (.takeP 2 (sv 39 (.mov (t 0))) (.takeP 3 (sv 40 (.mov (t 9))) (.takeP 4 (sv 41 (.ar .sub true (t 40) (ci 1))) (.takeP 5 (sv 42 (.mov (t 0))) (.takeP 6 (sv 43 (.mov (t 9))) (.takeP 7 (sv 44 (.ar .sub true (t 43) (ci 1))) (.takeP 8 (sv 45 (.idx 3 (t 42) (t 44))) (.takeP 10 (sv 47 (.mov (t 0))) (.takeP 11 (sv 48 (.mov (t 9))) (.takeP 12 (sv 49 (.idx 3 (t 47) (t 48))) (.takeR 9 (sv 46 (.lda [(.int .i64), (.int .i64), (.int .i64)] (t 45))) (.takeR 13 (sv 50 (.lda [(.int .i64), (.int .i64), (.int .i64)] (t 49))) (.takeP 14 (sv 51 (.idx 3 (t 37) (t 38))) (.alt 15 (ne (.sto 3 (t 51) (t 46))) (.takeP 16 (sv 52 (.idx 3 (t 39) (t 41))) (.alt 17 (ne (.sto 3 (t 52) (t 50))) .done .stop)) .stop)))))))))))))))))) (.reg [sv 35 (.mov (t 9)), sv 36 (.ar .sub true (t 35) (ci 1)), sv 9 (.mov (t 36))]))))))) (.reg [sv 15 (.mov (t 8)), sv 16 (.ar .add true (t 15) (ci 1)), sv 8 (.mov (t 16))])))))), []⟩
theorem ck83 : chkFL Tryd.prog 83 fl83 = true := by kernel_rfl
def sh83 (adata_0 : Option Addr) (ndata_0 cdata_0 : Nat) (a_1 : Int) (b_2 : Int) (h : H) (R : Value → H → Prop) : Prop :=
 InR .i64 (a_1 + 1) ∧
 ∃ J : Int → LI, (J (a_1 + 1)).1 h ∧
 ∀ (i_8 : Int), ∀ h1 : H, (J i_8).1 h1 →
 (((i_8 < b_2) →
 ∃ J_1 : Int → LI, (J_1 i_8).1 h1 ∧
 ∀ (j_9 : Int), ∀ h2 : H, (J_1 j_9).1 h2 →
 (((a_1 < j_9) →
 0 ≤ j_9 ∧ j_9 < (↑ndata_0 : Int) ∧
 (onP adata_0 fun bv_25 ov_25 =>
 InR .i64 (j_9 - 1) ∧
 0 ≤ (j_9 - 1) ∧ (j_9 - 1) < (↑ndata_0 : Int) ∧
 (onP adata_0 fun bv_30 ov_30 =>
 ∃ (v_26 : Int), cell h2 ⟨bv_25, ((ov_25 + (j_9).toNat * 3) + 0), none⟩ = some (.int .i64 v_26) ∧
 ∃ (v_26_1 : Int), cell h2 ⟨bv_25, ((ov_25 + (j_9).toNat * 3) + 1), none⟩ = some (.int .i64 v_26_1) ∧
 ∃ (v_26_2 : Int), cell h2 ⟨bv_25, ((ov_25 + (j_9).toNat * 3) + 2), none⟩ = some (.int .i64 v_26_2) ∧
 ∃ (v_31 : Int), cell h2 ⟨bv_30, ((ov_30 + ((j_9 - 1)).toNat * 3) + 0), none⟩ = some (.int .i64 v_31) ∧
 ∃ (v_31_1 : Int), cell h2 ⟨bv_30, ((ov_30 + ((j_9 - 1)).toNat * 3) + 1), none⟩ = some (.int .i64 v_31_1) ∧
 ∃ (v_31_2 : Int), cell h2 ⟨bv_30, ((ov_30 + ((j_9 - 1)).toNat * 3) + 2), none⟩ = some (.int .i64 v_31_2) ∧
 fnOk Tryd.prog 35 = true ∧
 HC Tryd.prog 35 [(.agg ⟨[(.int .i64 v_26), (.int .i64 v_26_1), (.int .i64 v_26_2)]⟩), (.agg ⟨[(.int .i64 v_31), (.int .i64 v_31_1), (.int .i64 v_31_2)]⟩)] h2 fun rv_32 h3 =>
 ∃ (v_32 : Int), rv_32 = (.int .i64 v_32) ∧
 (((v_32 < 0) →
 InR .i64 (j_9 - 1) ∧
 InR .i64 (j_9 - 1) ∧
 0 ≤ (j_9 - 1) ∧ (j_9 - 1) < (↑ndata_0 : Int) ∧
 (onP adata_0 fun bv_45 ov_45 =>
 0 ≤ j_9 ∧ j_9 < (↑ndata_0 : Int) ∧
 (onP adata_0 fun bv_49 ov_49 =>
 ∃ (v_46 : Int), cell h3 ⟨bv_45, ((ov_45 + ((j_9 - 1)).toNat * 3) + 0), none⟩ = some (.int .i64 v_46) ∧
 ∃ (v_46_1 : Int), cell h3 ⟨bv_45, ((ov_45 + ((j_9 - 1)).toNat * 3) + 1), none⟩ = some (.int .i64 v_46_1) ∧
 ∃ (v_46_2 : Int), cell h3 ⟨bv_45, ((ov_45 + ((j_9 - 1)).toNat * 3) + 2), none⟩ = some (.int .i64 v_46_2) ∧
 ∃ (v_50 : Int), cell h3 ⟨bv_49, ((ov_49 + (j_9).toNat * 3) + 0), none⟩ = some (.int .i64 v_50) ∧
 ∃ (v_50_1 : Int), cell h3 ⟨bv_49, ((ov_49 + (j_9).toNat * 3) + 1), none⟩ = some (.int .i64 v_50_1) ∧
 ∃ (v_50_2 : Int), cell h3 ⟨bv_49, ((ov_49 + (j_9).toNat * 3) + 2), none⟩ = some (.int .i64 v_50_2) ∧
 0 ≤ j_9 ∧ j_9 < (↑ndata_0 : Int) ∧
 (onP adata_0 fun bv_51 ov_51 =>
 stQ 3 h3 bv_51 (ov_51 + (j_9).toNat * 3) [(.int .i64 v_46), (.int .i64 v_46_1), (.int .i64 v_46_2)] fun h4 =>
 0 ≤ (j_9 - 1) ∧ (j_9 - 1) < (↑ndata_0 : Int) ∧
 (onP adata_0 fun bv_52 ov_52 =>
 stQ 3 h4 bv_52 (ov_52 + ((j_9 - 1)).toNat * 3) [(.int .i64 v_50), (.int .i64 v_50_1), (.int .i64 v_50_2)] fun h5 =>
 InR .i64 (j_9 - 1) ∧
 (J_1 (j_9 - 1)).1 h5 ∧ (J_1 (j_9 - 1)).2 h5 < (J_1 j_9).2 h2))))) ∧
 (¬ (v_32 < 0) →
 InR .i64 (i_8 + 1) ∧
 (J (i_8 + 1)).1 h3 ∧ (J (i_8 + 1)).2 h3 < (J i_8).2 h1))))) ∧
 (¬ (a_1 < j_9) →
 InR .i64 (i_8 + 1) ∧
 (J (i_8 + 1)).1 h2 ∧ (J (i_8 + 1)).2 h2 < (J i_8).2 h1))) ∧
 (¬ (i_8 < b_2) →
 R (.tuple ⟨[]⟩) h1))
theorem hc83 {adata_0 : Option Addr} {ndata_0 cdata_0 : Nat} {a_1 : Int} {b_2 : Int} {h : H} {R : Value → H → Prop} (x : sh83 adata_0 ndata_0 cdata_0 a_1 b_2 h R) : HC Tryd.prog 83 [(.slice adata_0 ndata_0 cdata_0), (.int .i64 a_1), (.int .i64 b_2), (.func (.func 35) ⟨[]⟩ ⟨[]⟩)] h R :=
  FL.sound mixed ck83 ⟨rfl, Eq.mp (by unfold sh83; kernel_rfl) x⟩
/- slices.symMergeCmpFunc[quern/api.Interval] -/
def fl84 : FL := ⟨220, (.seq (.seq (.reg [sv 25 (.mov (t 2)), sv 26 (.mov (t 1)), sv 27 (.ar .sub true (t 25) (t 26)), sv 28 (.cmp .eql (t 27) (ci 1))]) (.cond (t 28) (.seq (.reg [sv 29 (.mov (t 2)), sv 10 (.mov (t 29))]) (.seq (.reg [sv 30 (.mov (t 3)), sv 11 (.mov (t 30))]) (.seq (.block 0 (.loop [(10, (.one (.int .i64))), (11, (.one (.int .i64)))] [10, 11, 12, 31, 32, 33, 34, 35, 36, 37, 38, 39, 40, 41, 42, 43, 44, 45, 46, 47, 48, 49, 50, 51, 52, 53] (.seq (.seq (.reg [sv 31 (.mov (t 10)), sv 32 (.mov (t 11)), sv 33 (.cmp .lss (t 31) (t 32))]) (.cond (t 33) .skip (.exit 0))) (.block 1 (.seq (.reg [sv 34 (.mov (t 10)), sv 35 (.mov (t 11)), sv 36 (.ar .add true (t 34) (t 35)), sv 37 (.cvi .u64 (t 36)), sv 38 (.sh .shr (t 37) (.const (Go.Value.int Go.IntKind.u64 1))), sv 39 (.cvi .i64 (t 38)), sv 12 (.mov (t 39))]) (.seq (.drw .eq [9] [40, 41, 42, 43, 44, 45, 46, 47, 48, 49, 50] (.takeP 0 (sv 40 (.mov (t 4))) (.takeP 1 (sv 41 (.mov (t 0))) (.takeP 2 (sv 42 (.mov (t 12))) (.takeP 3 (sv 43 (.idx 3 (t 41) (t 42))) (.takeP 5 (sv 45 (.mov (t 0))) (.takeP 6 (sv 46 (.mov (t 1))) (.takeP 7 (sv 47 (.idx 3 (t 45) (t 46))) (.takeR 4 (sv 44 (.lda [(.int .i64), (.int .i64), (.int .i64)] (t 43))) (.takeR 8 (sv 48 (.lda [(.int .i64), (.int .i64), (.int .i64)] (t 47))) (.alt 9 (se 49 (.cav (t 40) [(t 44), (t 48)] (.one (.int .i64)))) (.takeP 10 (sv 50 (.cmp .lss (t 49) (ci 0))) .done) .stop))))))))))) (.cond (t 50) (.reg [sv 51 (.mov (t 12)), sv 52 (.ar .add true (t 51) (ci 1)), sv 10 (.mov (t 52))]) (.reg [sv 53 (.mov (t 12)), sv 11 (.mov (t 53))])))))))) (.seq (.seq (.reg [sv 54 (.mov (t 1)), sv 13 (.mov (t 54))]) (.block 2 (.loop [(13, (.one (.int .i64)))] [13, 55, 56, 57, 58, 59, 60, 61, 62, 63, 64, 65, 66, 67, 68, 69, 70, 71, 72, 73, 74, 75, 76] (.seq (.seq (.reg [sv 55 (.mov (t 13)), sv 56 (.mov (t 10)), sv 57 (.ar .sub true (t 56) (ci 1)), sv 58 (.cmp .lss (t 55) (t 57))]) (.cond (t 58) .skip (.exit 2))) (.seq (.block 3 (.drw .eq [15, 17] [61, 62, 63, 64, 65, 66, 67, 68, 69, 70, 71, 72, 73, 74, 75, 76] (.takeP 0 (sv 61 (.mov (t 0))) (.takeP 1 (sv 62 (.mov (t 13))) (.takeP 2 (sv 63 (.mov (t 0))) (.takeP 3 (sv 64 (.mov (t 13))) (.takeP 4 (sv 65 (.ar .add true (t 64) (ci 1))) (.takeP 5 (sv 66 (.mov (t 0))) (.takeP 6 (sv 67 (.mov (t 13))) (.takeP 7 (sv 68 (.ar .add true (t 67) (ci 1))) (.takeP 8 (sv 69 (.idx 3 (t 66) (t 68))) (.takeP 10 (sv 71 (.mov (t 0))) (.takeP 11 (sv 72 (.mov (t 13))) (.takeP 12 (sv 73 (.idx 3 (t 71) (t 72))) (.takeR 9 (sv 70 (.lda [(.int .i64), (.int .i64), (.int .i64)] (t 69))) (.takeR 13 (sv 74 (.lda [(.int .i64), (.int .i64), (.int .i64)] (t 73))) (.takeP 14 (sv 75 (.idx 3 (t 61) (t 62))) (.alt 15 (ne (.sto 3 (t 75) (t 70))) (.takeP 16 (sv 76 (.idx 3 (t 63) (t 65))) (.alt 17 (ne (.sto 3 (t 76) (t 74))) .done .stop)) .stop)))))))))))))))))) (.reg [sv 59 (.mov (t 13)), sv 60 (.ar .add true (t 59) (ci 1)), sv 13 (.mov (t 60))])))))) .ret)))) .skip)) (.seq (.seq (.reg [sv 77 (.mov (t 3)), sv 78 (.mov (t 2)), sv 79 (.ar .sub true (t 77) (t 78)), sv 80 (.cmp .eql (t 79) (ci 1))]) (.cond (t 80) (.seq (.reg [sv 81 (.mov (t 1)), sv 14 (.mov (t 81))]) (.seq (.reg [sv 82 (.mov (t 2)), sv 15 (.mov (t 82))]) (.seq (.block 4 (.loop [(14, (.one (.int .i64))), (15, (.one (.int .i64)))] [14, 15, 16, 83, 84, 85, 86, 87, 88, 89, 90, 91, 92, 93, 94, 95, 96, 97, 98, 99, 100, 101, 102, 103, 104, 105, 106] (.seq (.seq (.reg [sv 83 (.mov (t 14)), sv 84 (.mov (t 15)), sv 85 (.cmp .lss (t 83) (t 84))]) (.cond (t 85) .skip (.exit 4))) (.block 5 (.seq (.reg [sv 86 (.mov (t 14)), sv 87 (.mov (t 15)), sv 88 (.ar .add true (t 86) (t 87)), sv 89 (.cvi .u64 (t 88)), sv 90 (.sh .shr (t 89) (.const (Go.Value.int Go.IntKind.u64 1))), sv 91 (.cvi .i64 (t 90)), sv 16 (.mov (t 91))]) (.seq (.drw .eq [9] [92, 93, 94, 95, 96, 97, 98, 99, 100, 101, 102, 103] (.takeP 0 (sv 92 (.mov (t 4))) (.takeP 1 (sv 93 (.mov (t 0))) (.takeP 2 (sv 94 (.mov (t 2))) (.takeP 3 (sv 95 (.idx 3 (t 93) (t 94))) (.takeP 5 (sv 97 (.mov (t 0))) (.takeP 6 (sv 98 (.mov (t 16))) (.takeP 7 (sv 99 (.idx 3 (t 97) (t 98))) (.takeR 4 (sv 96 (.lda [(.int .i64), (.int .i64), (.int .i64)] (t 95))) (.takeR 8 (sv 100 (.lda [(.int .i64), (.int .i64), (.int .i64)] (t 99))) (.alt 9 (se 101 (.cav (t 92) [(t 96), (t 100)] (.one (.int .i64)))) (.takeP 10 (sv 102 (.cmp .lss (t 101) (ci 0))) (.takeP 11 (sv 103 (.no (t 102))) .done)) .stop))))))))))) (.cond (t 103) (.reg [sv 104 (.mov (t 16)), sv 105 (.ar .add true (t 104) (ci 1)), sv 14 (.mov (t 105))]) (.reg [sv 106 (.mov (t 16)), sv 15 (.mov (t 106))])))))))) (.seq (.seq (.reg [sv 107 (.mov (t 2)), sv 17 (.mov (t 107))]) (.block 6 (.loop [(17, (.one (.int .i64)))] [17, 108, 109, 110, 111, 112, 113, 114, 115, 116, 117, 118, 119, 120, 121, 122, 123, 124, 125, 126, 127, 128] (.seq (.seq (.reg [sv 108 (.mov (t 17)), sv 109 (.mov (t 14)), sv 110 (.cmp .gtr (t 108) (t 109))]) (.cond (t 110) .skip (.exit 6))) (.seq (.block 7 (.drw .eq [15, 17] [113, 114, 115, 116, 117, 118, 119, 120, 121, 122, 123, 124, 125, 126, 127, 128] (.takeP 0 (sv 113 (.mov (t 0))) (.takeP 1 (sv 114 (.mov (t 17))) (.takeP 2 (sv 115 (.mov (t 0))) (.takeP 3 (sv 116 (.mov (t 17))) (.takeP 4 (sv 117 (.ar .sub true (t 116) (ci 1))) (.takeP 5 (sv 118 (.mov (t 0))) (.takeP 6 (sv 119 (.mov (t 17))) (.takeP 7 (sv 120 (.ar .sub true (t 119) (ci 1))) (.takeP 8 (sv 121 (.idx 3 (t 118) (t 120))) (.takeP 10 (sv 123 (.mov (t 0))) (.takeP 11 (sv 124 (.mov (t 17))) (.takeP 12 (sv 125 (.idx 3 (t 123) (t 124))) (.takeR 9 (sv 122 (.lda [(.int .i64), (.int .i64), (.int .i64)] (t 121))) (.takeR 13 (sv 126 (.lda [(.int .i64), (.int .i64), (.int .i64)] (t 125))) (.takeP 14 (sv 127 (.idx 3 (t 113) (t 114))) (.alt 15 (ne (.sto 3 (t 127) (t 122))) (.takeP 16 (sv 128 (.idx 3 (t 115) (t 117))) (.alt 17 (ne (.sto 3 (t 128) (t 126))) .done .stop)) .stop)))))))))))))))))) (.reg [sv 111 (.mov (t 17)), sv 112 (.ar .sub true (t 111) (ci 1)), sv 17 (.mov (t 112))])))))) .ret)))) .skip)) (.cut [(18, (.one (.int .i64)))] [18, 129, 130, 131, 132, 133, 134] (.reg [sv 129 (.mov (t 1)), sv 130 (.mov (t 3)), sv 131 (.ar .add true (t 129) (t 130)), sv 132 (.cvi .u64 (t 131)), sv 133 (.sh .shr (t 132) (.const (Go.Value.int Go.IntKind.u64 1))), sv 134 (.cvi .i64 (t 133)), sv 18 (.mov (t 134))]) (.seq (.reg [sv 135 (.mov (t 18)), sv 136 (.mov (t 2)), sv 137 (.ar .add true (t 135) (t 136)), sv 19 (.mov (t 137))]) (.seq (.reg [sv 20 (.mov (ci 0)), sv 21 (.mov (ci 0))]) (.cut [(20, (.one (.int .i64))), (21, (.one (.int .i64)))] [20, 21, 138, 139, 140, 141, 142, 143, 144, 145, 146] (.seq (.reg [sv 138 (.mov (t 2)), sv 139 (.mov (t 18)), sv 140 (.cmp .gtr (t 138) (t 139))]) (.cond (t 140) (.seq (.reg [sv 141 (.mov (t 19)), sv 142 (.mov (t 3)), sv 143 (.ar .sub true (t 141) (t 142)), sv 20 (.mov (t 143))]) (.reg [sv 144 (.mov (t 18)), sv 21 (.mov (t 144))])) (.seq (.reg [sv 145 (.mov (t 1)), sv 20 (.mov (t 145))]) (.reg [sv 146 (.mov (t 2)), sv 21 (.mov (t 146))])))) (.seq (.reg [sv 147 (.mov (t 19)), sv 148 (.ar .sub true (t 147) (ci 1)), sv 22 (.mov (t 148))]) (.seq (.block 8 (.loop [(20, (.one (.int .i64))), (21, (.one (.int .i64)))] [20, 21, 23, 149, 150, 151, 152, 153, 154, 155, 156, 157, 158, 159, 160, 161, 162, 163, 164, 165, 166, 167, 168, 169, 170, 171, 172, 173, 174] (.seq (.seq (.reg [sv 149 (.mov (t 20)), sv 150 (.mov (t 21)), sv 151 (.cmp .lss (t 149) (t 150))]) (.cond (t 151) .skip (.exit 8))) (.block 9 (.seq (.reg [sv 152 (.mov (t 20)), sv 153 (.mov (t 21)), sv 154 (.ar .add true (t 152) (t 153)), sv 155 (.cvi .u64 (t 154)), sv 156 (.sh .shr (t 155) (.const (Go.Value.int Go.IntKind.u64 1))), sv 157 (.cvi .i64 (t 156)), sv 23 (.mov (t 157))]) (.seq (.drw .eq [11] [158, 159, 160, 161, 162, 163, 164, 165, 166, 167, 168, 169, 170, 171] (.takeP 0 (sv 158 (.mov (t 4))) (.takeP 1 (sv 159 (.mov (t 0))) (.takeP 2 (sv 160 (.mov (t 22))) (.takeP 3 (sv 161 (.mov (t 23))) (.takeP 4 (sv 162 (.ar .sub true (t 160) (t 161))) (.takeP 5 (sv 163 (.idx 3 (t 159) (t 162))) (.takeP 7 (sv 165 (.mov (t 0))) (.takeP 8 (sv 166 (.mov (t 23))) (.takeP 9 (sv 167 (.idx 3 (t 165) (t 166))) (.takeR 6 (sv 164 (.lda [(.int .i64), (.int .i64), (.int .i64)] (t 163))) (.takeR 10 (sv 168 (.lda [(.int .i64), (.int .i64), (.int .i64)] (t 167))) (.alt 11 (se 169 (.cav (t 158) [(t 164), (t 168)] (.one (.int .i64)))) (.takeP 12 (sv 170 (.cmp .lss (t 169) (ci 0))) (.takeP 13 (sv 171 (.no (t 170))) .done)) .stop))))))))))))) (.cond (t 171) (.reg [sv 172 (.mov (t 23)), sv 173 (.ar .add true (t 172) (ci 1)), sv 20 (.mov (t 173))]) (.reg [sv 174 (.mov (t 23)), sv 21 (.mov (t 174))])))))))) (.seq (.reg [sv 175 (.mov (t 19)), sv 176 (.mov (t 20)), sv 177 (.ar .sub true (t 175) (t 176)), sv 24 (.mov (t 177))]) (.cut [] [178, 179, 180, 181, 182, 183, 184, 185, 186, 187, 188, 189, 190, 191] (.seq (.reg [sv 178 (.mov (t 20)), sv 179 (.mov (t 2)), sv 180 (.cmp .lss (t 178) (t 179)), sv 181 (.mov (t 180)), ⟨some 182, some (181, true), .v (.mov (t 2))⟩, ⟨some 183, some (181, true), .v (.mov (t 24))⟩, ⟨some 184, some (181, true), .v (.cmp .lss (t 182) (t 183))⟩, sv 185 (.pick (t 181) (t 184) (cb false))]) (.cond (t 185) (.reg [sv 186 (.mov (t 0)), sv 187 (.mov (t 20)), sv 188 (.mov (t 2)), sv 189 (.mov (t 24)), sv 190 (.mov (t 4)), se 191 (.call 99 [(t 186), (t 187), (t 188), (t 189), (t 190)] .unit)]) .skip)) (.cut [] [192, 193, 194, 195, 196, 197, 198, 199, 200, 201, 202, 203, 204, 205] (.seq (.reg [sv 192 (.mov (t 1)), sv 193 (.mov (t 20)), sv 194 (.cmp .lss (t 192) (t 193)), sv 195 (.mov (t 194)), ⟨some 196, some (195, true), .v (.mov (t 20))⟩, ⟨some 197, some (195, true), .v (.mov (t 18))⟩, ⟨some 198, some (195, true), .v (.cmp .lss (t 196) (t 197))⟩, sv 199 (.pick (t 195) (t 198) (cb false))]) (.cond (t 199) (.reg [sv 200 (.mov (t 0)), sv 201 (.mov (t 1)), sv 202 (.mov (t 20)), sv 203 (.mov (t 18)), sv 204 (.mov (t 4)), se 205 (.call 84 [(t 200), (t 201), (t 202), (t 203), (t 204)] .unit)]) .skip)) (.seq (.reg [sv 206 (.mov (t 18)), sv 207 (.mov (t 24)), sv 208 (.cmp .lss (t 206) (t 207)), sv 209 (.mov (t 208)), ⟨some 210, some (209, true), .v (.mov (t 24))⟩, ⟨some 211, some (209, true), .v (.mov (t 3))⟩, ⟨some 212, some (209, true), .v (.cmp .lss (t 210) (t 211))⟩, sv 213 (.pick (t 209) (t 212) (cb false))]) (.cond (t 213) (.reg [sv 214 (.mov (t 0)), sv 215 (.mov (t 18)), sv 216 (.mov (t 24)), sv 217 (.mov (t 3)), sv 218 (.mov (t 4)), se 219 (.call 84 [(t 214), (t 215), (t 216), (t 217), (t 218)] .unit)]) .skip))))))))))))), []⟩
theorem ck84 : chkFL Tryd.prog 84 fl84 = true := by kernel_rfl
def sh84 (adata_0 : Option Addr) (ndata_0 cdata_0 : Nat) (a_1 : Int) (m_2 : Int) (b_3 : Int) (h : H) (R : Value → H → Prop) : Prop :=
 InR .i64 (m_2 - a_1) ∧
 ((((m_2 - a_1) = 1) →
 ∃ J : Int → Int → LI, (J m_2 b_3).1 h ∧
 ∀ (i_10 : Int), ∀ (j_11 : Int), ∀ h1 : H, (J i_10 j_11).1 h1 →
 (((i_10 < j_11) →
 InR .i64 (i_10 + j_11) ∧
 InR .u64 (i_10 + j_11) ∧
 0 ≤ (1 : Int) ∧
 InR .i64 (shF .shr .u64 (i_10 + j_11) 1) ∧
 0 ≤ (shF .shr .u64 (i_10 + j_11) 1) ∧ (shF .shr .u64 (i_10 + j_11) 1) < (↑ndata_0 : Int) ∧
 (onP adata_0 fun bv_43 ov_43 =>
 0 ≤ a_1 ∧ a_1 < (↑ndata_0 : Int) ∧
 (onP adata_0 fun bv_47 ov_47 =>
 ∃ (v_44 : Int), cell h1 ⟨bv_43, ((ov_43 + ((shF .shr .u64 (i_10 + j_11) 1)).toNat * 3) + 0), none⟩ = some (.int .i64 v_44) ∧
 ∃ (v_44_1 : Int), cell h1 ⟨bv_43, ((ov_43 + ((shF .shr .u64 (i_10 + j_11) 1)).toNat * 3) + 1), none⟩ = some (.int .i64 v_44_1) ∧
 ∃ (v_44_2 : Int), cell h1 ⟨bv_43, ((ov_43 + ((shF .shr .u64 (i_10 + j_11) 1)).toNat * 3) + 2), none⟩ = some (.int .i64 v_44_2) ∧
 ∃ (v_48 : Int), cell h1 ⟨bv_47, ((ov_47 + (a_1).toNat * 3) + 0), none⟩ = some (.int .i64 v_48) ∧
 ∃ (v_48_1 : Int), cell h1 ⟨bv_47, ((ov_47 + (a_1).toNat * 3) + 1), none⟩ = some (.int .i64 v_48_1) ∧
 ∃ (v_48_2 : Int), cell h1 ⟨bv_47, ((ov_47 + (a_1).toNat * 3) + 2), none⟩ = some (.int .i64 v_48_2) ∧
 fnOk Tryd.prog 35 = true ∧
 HC Tryd.prog 35 [(.agg ⟨[(.int .i64 v_44), (.int .i64 v_44_1), (.int .i64 v_44_2)]⟩), (.agg ⟨[(.int .i64 v_48), (.int .i64 v_48_1), (.int .i64 v_48_2)]⟩)] h1 fun rv_49 h2 =>
 ∃ (v_49 : Int), rv_49 = (.int .i64 v_49) ∧
 (((v_49 < 0) →
 InR .i64 ((shF .shr .u64 (i_10 + j_11) 1) + 1) ∧
 (J ((shF .shr .u64 (i_10 + j_11) 1) + 1) j_11).1 h2 ∧ (J ((shF .shr .u64 (i_10 + j_11) 1) + 1) j_11).2 h2 < (J i_10 j_11).2 h1) ∧
 (¬ (v_49 < 0) →
 (J i_10 (shF .shr .u64 (i_10 + j_11) 1)).1 h2 ∧ (J i_10 (shF .shr .u64 (i_10 + j_11) 1)).2 h2 < (J i_10 j_11).2 h1))))) ∧
 (¬ (i_10 < j_11) →
 ∃ J_1 : Int → LI, (J_1 a_1).1 h1 ∧
 ∀ (k_13 : Int), ∀ h3 : H, (J_1 k_13).1 h3 →
 InR .i64 (i_10 - 1) ∧
 (((k_13 < (i_10 - 1)) →
 InR .i64 (k_13 + 1) ∧
 InR .i64 (k_13 + 1) ∧
 0 ≤ (k_13 + 1) ∧ (k_13 + 1) < (↑ndata_0 : Int) ∧
 (onP adata_0 fun bv_69 ov_69 =>
 0 ≤ k_13 ∧ k_13 < (↑ndata_0 : Int) ∧
 (onP adata_0 fun bv_73 ov_73 =>
 ∃ (v_70 : Int), cell h3 ⟨bv_69, ((ov_69 + ((k_13 + 1)).toNat * 3) + 0), none⟩ = some (.int .i64 v_70) ∧
 ∃ (v_70_1 : Int), cell h3 ⟨bv_69, ((ov_69 + ((k_13 + 1)).toNat * 3) + 1), none⟩ = some (.int .i64 v_70_1) ∧
 ∃ (v_70_2 : Int), cell h3 ⟨bv_69, ((ov_69 + ((k_13 + 1)).toNat * 3) + 2), none⟩ = some (.int .i64 v_70_2) ∧
 ∃ (v_74 : Int), cell h3 ⟨bv_73, ((ov_73 + (k_13).toNat * 3) + 0), none⟩ = some (.int .i64 v_74) ∧
 ∃ (v_74_1 : Int), cell h3 ⟨bv_73, ((ov_73 + (k_13).toNat * 3) + 1), none⟩ = some (.int .i64 v_74_1) ∧
 ∃ (v_74_2 : Int), cell h3 ⟨bv_73, ((ov_73 + (k_13).toNat * 3) + 2), none⟩ = some (.int .i64 v_74_2) ∧
 0 ≤ k_13 ∧ k_13 < (↑ndata_0 : Int) ∧
 (onP adata_0 fun bv_75 ov_75 =>
 stQ 3 h3 bv_75 (ov_75 + (k_13).toNat * 3) [(.int .i64 v_70), (.int .i64 v_70_1), (.int .i64 v_70_2)] fun h4 =>
 0 ≤ (k_13 + 1) ∧ (k_13 + 1) < (↑ndata_0 : Int) ∧
 (onP adata_0 fun bv_76 ov_76 =>
 stQ 3 h4 bv_76 (ov_76 + ((k_13 + 1)).toNat * 3) [(.int .i64 v_74), (.int .i64 v_74_1), (.int .i64 v_74_2)] fun h5 =>
 InR .i64 (k_13 + 1) ∧
 (J_1 (k_13 + 1)).1 h5 ∧ (J_1 (k_13 + 1)).2 h5 < (J_1 k_13).2 h3))))) ∧
 (¬ (k_13 < (i_10 - 1)) →
 R (.tuple ⟨[]⟩) h3))))) ∧
 (¬ ((m_2 - a_1) = 1) →
 InR .i64 (b_3 - m_2) ∧
 ((((b_3 - m_2) = 1) →
 ∃ J_2 : Int → Int → LI, (J_2 a_1 m_2).1 h ∧
 ∀ (i_14 : Int), ∀ (j_15 : Int), ∀ h6 : H, (J_2 i_14 j_15).1 h6 →
 (((i_14 < j_15) →
 InR .i64 (i_14 + j_15) ∧
 InR .u64 (i_14 + j_15) ∧
 0 ≤ (1 : Int) ∧
 InR .i64 (shF .shr .u64 (i_14 + j_15) 1) ∧
 0 ≤ m_2 ∧ m_2 < (↑ndata_0 : Int) ∧
 (onP adata_0 fun bv_95 ov_95 =>
 0 ≤ (shF .shr .u64 (i_14 + j_15) 1) ∧ (shF .shr .u64 (i_14 + j_15) 1) < (↑ndata_0 : Int) ∧
 (onP adata_0 fun bv_99 ov_99 =>
 ∃ (v_96 : Int), cell h6 ⟨bv_95, ((ov_95 + (m_2).toNat * 3) + 0), none⟩ = some (.int .i64 v_96) ∧
 ∃ (v_96_1 : Int), cell h6 ⟨bv_95, ((ov_95 + (m_2).toNat * 3) + 1), none⟩ = some (.int .i64 v_96_1) ∧
 ∃ (v_96_2 : Int), cell h6 ⟨bv_95, ((ov_95 + (m_2).toNat * 3) + 2), none⟩ = some (.int .i64 v_96_2) ∧
 ∃ (v_100 : Int), cell h6 ⟨bv_99, ((ov_99 + ((shF .shr .u64 (i_14 + j_15) 1)).toNat * 3) + 0), none⟩ = some (.int .i64 v_100) ∧
 ∃ (v_100_1 : Int), cell h6 ⟨bv_99, ((ov_99 + ((shF .shr .u64 (i_14 + j_15) 1)).toNat * 3) + 1), none⟩ = some (.int .i64 v_100_1) ∧
 ∃ (v_100_2 : Int), cell h6 ⟨bv_99, ((ov_99 + ((shF .shr .u64 (i_14 + j_15) 1)).toNat * 3) + 2), none⟩ = some (.int .i64 v_100_2) ∧
 fnOk Tryd.prog 35 = true ∧
 HC Tryd.prog 35 [(.agg ⟨[(.int .i64 v_96), (.int .i64 v_96_1), (.int .i64 v_96_2)]⟩), (.agg ⟨[(.int .i64 v_100), (.int .i64 v_100_1), (.int .i64 v_100_2)]⟩)] h6 fun rv_101 h7 =>
 ∃ (v_101 : Int), rv_101 = (.int .i64 v_101) ∧
 (((¬ (v_101 < 0)) →
 InR .i64 ((shF .shr .u64 (i_14 + j_15) 1) + 1) ∧
 (J_2 ((shF .shr .u64 (i_14 + j_15) 1) + 1) j_15).1 h7 ∧ (J_2 ((shF .shr .u64 (i_14 + j_15) 1) + 1) j_15).2 h7 < (J_2 i_14 j_15).2 h6) ∧
 (¬ (¬ (v_101 < 0)) →
 (J_2 i_14 (shF .shr .u64 (i_14 + j_15) 1)).1 h7 ∧ (J_2 i_14 (shF .shr .u64 (i_14 + j_15) 1)).2 h7 < (J_2 i_14 j_15).2 h6))))) ∧
 (¬ (i_14 < j_15) →
 ∃ J_3 : Int → LI, (J_3 m_2).1 h6 ∧
 ∀ (k_17 : Int), ∀ h8 : H, (J_3 k_17).1 h8 →
 (((i_14 < k_17) →
 InR .i64 (k_17 - 1) ∧
 InR .i64 (k_17 - 1) ∧
 0 ≤ (k_17 - 1) ∧ (k_17 - 1) < (↑ndata_0 : Int) ∧
 (onP adata_0 fun bv_121 ov_121 =>
 0 ≤ k_17 ∧ k_17 < (↑ndata_0 : Int) ∧
 (onP adata_0 fun bv_125 ov_125 =>
 ∃ (v_122 : Int), cell h8 ⟨bv_121, ((ov_121 + ((k_17 - 1)).toNat * 3) + 0), none⟩ = some (.int .i64 v_122) ∧
 ∃ (v_122_1 : Int), cell h8 ⟨bv_121, ((ov_121 + ((k_17 - 1)).toNat * 3) + 1), none⟩ = some (.int .i64 v_122_1) ∧
 ∃ (v_122_2 : Int), cell h8 ⟨bv_121, ((ov_121 + ((k_17 - 1)).toNat * 3) + 2), none⟩ = some (.int .i64 v_122_2) ∧
 ∃ (v_126 : Int), cell h8 ⟨bv_125, ((ov_125 + (k_17).toNat * 3) + 0), none⟩ = some (.int .i64 v_126) ∧
 ∃ (v_126_1 : Int), cell h8 ⟨bv_125, ((ov_125 + (k_17).toNat * 3) + 1), none⟩ = some (.int .i64 v_126_1) ∧
 ∃ (v_126_2 : Int), cell h8 ⟨bv_125, ((ov_125 + (k_17).toNat * 3) + 2), none⟩ = some (.int .i64 v_126_2) ∧
 0 ≤ k_17 ∧ k_17 < (↑ndata_0 : Int) ∧
 (onP adata_0 fun bv_127 ov_127 =>
 stQ 3 h8 bv_127 (ov_127 + (k_17).toNat * 3) [(.int .i64 v_122), (.int .i64 v_122_1), (.int .i64 v_122_2)] fun h9 =>
 0 ≤ (k_17 - 1) ∧ (k_17 - 1) < (↑ndata_0 : Int) ∧
 (onP adata_0 fun bv_128 ov_128 =>
 stQ 3 h9 bv_128 (ov_128 + ((k_17 - 1)).toNat * 3) [(.int .i64 v_126), (.int .i64 v_126_1), (.int .i64 v_126_2)] fun h10 =>
 InR .i64 (k_17 - 1) ∧
 (J_3 (k_17 - 1)).1 h10 ∧ (J_3 (k_17 - 1)).2 h10 < (J_3 k_17).2 h8))))) ∧
 (¬ (i_14 < k_17) →
 R (.tuple ⟨[]⟩) h8))))) ∧
 (¬ ((b_3 - m_2) = 1) →
 ∃ J_4 : Int → H → Prop, (InR .i64 (a_1 + b_3) ∧
 InR .u64 (a_1 + b_3) ∧
 0 ≤ (1 : Int) ∧
 InR .i64 (shF .shr .u64 (a_1 + b_3) 1) ∧
 J_4 (shF .shr .u64 (a_1 + b_3) 1) h) ∧
 ∀ (mid_18 : Int), ∀ h11 : H, J_4 mid_18 h11 →
 InR .i64 (mid_18 + m_2) ∧
 ∃ J_5 : Int → Int → H → Prop, ((((mid_18 < m_2) →
 InR .i64 ((mid_18 + m_2) - b_3) ∧
 J_5 ((mid_18 + m_2) - b_3) mid_18 h11) ∧
 (¬ (mid_18 < m_2) →
 J_5 a_1 m_2 h11))) ∧
 ∀ (start_20 : Int), ∀ (r_21 : Int), ∀ h12 : H, J_5 start_20 r_21 h12 →
 InR .i64 ((mid_18 + m_2) - 1) ∧
 ∃ J_6 : Int → Int → LI, (J_6 start_20 r_21).1 h12 ∧
 ∀ (start_20_1 : Int), ∀ (r_21_1 : Int), ∀ h13 : H, (J_6 start_20_1 r_21_1).1 h13 →
 (((start_20_1 < r_21_1) →
 InR .i64 (start_20_1 + r_21_1) ∧
 InR .u64 (start_20_1 + r_21_1) ∧
 0 ≤ (1 : Int) ∧
 InR .i64 (shF .shr .u64 (start_20_1 + r_21_1) 1) ∧
 InR .i64 (((mid_18 + m_2) - 1) - (shF .shr .u64 (start_20_1 + r_21_1) 1)) ∧
 0 ≤ (((mid_18 + m_2) - 1) - (shF .shr .u64 (start_20_1 + r_21_1) 1)) ∧ (((mid_18 + m_2) - 1) - (shF .shr .u64 (start_20_1 + r_21_1) 1)) < (↑ndata_0 : Int) ∧
 (onP adata_0 fun bv_163 ov_163 =>
 0 ≤ (shF .shr .u64 (start_20_1 + r_21_1) 1) ∧ (shF .shr .u64 (start_20_1 + r_21_1) 1) < (↑ndata_0 : Int) ∧
 (onP adata_0 fun bv_167 ov_167 =>
 ∃ (v_164 : Int), cell h13 ⟨bv_163, ((ov_163 + ((((mid_18 + m_2) - 1) - (shF .shr .u64 (start_20_1 + r_21_1) 1))).toNat * 3) + 0), none⟩ = some (.int .i64 v_164) ∧
 ∃ (v_164_1 : Int), cell h13 ⟨bv_163, ((ov_163 + ((((mid_18 + m_2) - 1) - (shF .shr .u64 (start_20_1 + r_21_1) 1))).toNat * 3) + 1), none⟩ = some (.int .i64 v_164_1) ∧
 ∃ (v_164_2 : Int), cell h13 ⟨bv_163, ((ov_163 + ((((mid_18 + m_2) - 1) - (shF .shr .u64 (start_20_1 + r_21_1) 1))).toNat * 3) + 2), none⟩ = some (.int .i64 v_164_2) ∧
 ∃ (v_168 : Int), cell h13 ⟨bv_167, ((ov_167 + ((shF .shr .u64 (start_20_1 + r_21_1) 1)).toNat * 3) + 0), none⟩ = some (.int .i64 v_168) ∧
 ∃ (v_168_1 : Int), cell h13 ⟨bv_167, ((ov_167 + ((shF .shr .u64 (start_20_1 + r_21_1) 1)).toNat * 3) + 1), none⟩ = some (.int .i64 v_168_1) ∧
 ∃ (v_168_2 : Int), cell h13 ⟨bv_167, ((ov_167 + ((shF .shr .u64 (start_20_1 + r_21_1) 1)).toNat * 3) + 2), none⟩ = some (.int .i64 v_168_2) ∧
 fnOk Tryd.prog 35 = true ∧
 HC Tryd.prog 35 [(.agg ⟨[(.int .i64 v_164), (.int .i64 v_164_1), (.int .i64 v_164_2)]⟩), (.agg ⟨[(.int .i64 v_168), (.int .i64 v_168_1), (.int .i64 v_168_2)]⟩)] h13 fun rv_169 h14 =>
 ∃ (v_169 : Int), rv_169 = (.int .i64 v_169) ∧
 (((¬ (v_169 < 0)) →
 InR .i64 ((shF .shr .u64 (start_20_1 + r_21_1) 1) + 1) ∧
 (J_6 ((shF .shr .u64 (start_20_1 + r_21_1) 1) + 1) r_21_1).1 h14 ∧ (J_6 ((shF .shr .u64 (start_20_1 + r_21_1) 1) + 1) r_21_1).2 h14 < (J_6 start_20_1 r_21_1).2 h13) ∧
 (¬ (¬ (v_169 < 0)) →
 (J_6 start_20_1 (shF .shr .u64 (start_20_1 + r_21_1) 1)).1 h14 ∧ (J_6 start_20_1 (shF .shr .u64 (start_20_1 + r_21_1) 1)).2 h14 < (J_6 start_20_1 r_21_1).2 h13))))) ∧
 (¬ (start_20_1 < r_21_1) →
 InR .i64 ((mid_18 + m_2) - start_20_1) ∧
 ∃ J_7 : H → Prop, ((((start_20_1 < m_2) →
 (((m_2 < ((mid_18 + m_2) - start_20_1)) →
 HC Tryd.prog 99 [(.slice adata_0 ndata_0 cdata_0), (.int .i64 start_20_1), (.int .i64 m_2), (.int .i64 ((mid_18 + m_2) - start_20_1)), (.func (.func 35) ⟨[]⟩ ⟨[]⟩)] h13 fun rv_191 h16 =>
 rv_191 = (.tuple ⟨[]⟩) ∧
 J_7 h16) ∧
 (¬ (m_2 < ((mid_18 + m_2) - start_20_1)) →
 J_7 h13))) ∧
 (¬ (start_20_1 < m_2) →
 J_7 h13))) ∧
 ∀ h15 : H, J_7 h15 →
 ∃ J_8 : H → Prop, ((((a_1 < start_20_1) →
 (((start_20_1 < mid_18) →
 HC Tryd.prog 84 [(.slice adata_0 ndata_0 cdata_0), (.int .i64 a_1), (.int .i64 start_20_1), (.int .i64 mid_18), (.func (.func 35) ⟨[]⟩ ⟨[]⟩)] h15 fun rv_205 h18 =>
 rv_205 = (.tuple ⟨[]⟩) ∧
 J_8 h18) ∧
 (¬ (start_20_1 < mid_18) →
 J_8 h15))) ∧
 (¬ (a_1 < start_20_1) →
 J_8 h15))) ∧
 ∀ h17 : H, J_8 h17 →
 (((mid_18 < ((mid_18 + m_2) - start_20_1)) →
 (((((mid_18 + m_2) - start_20_1) < b_3) →
 HC Tryd.prog 84 [(.slice adata_0 ndata_0 cdata_0), (.int .i64 mid_18), (.int .i64 ((mid_18 + m_2) - start_20_1)), (.int .i64 b_3), (.func (.func 35) ⟨[]⟩ ⟨[]⟩)] h17 fun rv_219 h19 =>
 rv_219 = (.tuple ⟨[]⟩) ∧
 R (.tuple ⟨[]⟩) h19) ∧
 (¬ (((mid_18 + m_2) - start_20_1) < b_3) →
 R (.tuple ⟨[]⟩) h17))) ∧
 (¬ (mid_18 < ((mid_18 + m_2) - start_20_1)) →
 R (.tuple ⟨[]⟩) h17))))))))
theorem hc84 {adata_0 : Option Addr} {ndata_0 cdata_0 : Nat} {a_1 : Int} {m_2 : Int} {b_3 : Int} {h : H} {R : Value → H → Prop} (x : sh84 adata_0 ndata_0 cdata_0 a_1 m_2 b_3 h R) : HC Tryd.prog 84 [(.slice adata_0 ndata_0 cdata_0), (.int .i64 a_1), (.int .i64 m_2), (.int .i64 b_3), (.func (.func 35) ⟨[]⟩ ⟨[]⟩)] h R :=
  FL.sound mixed ck84 ⟨rfl, Eq.mp (by unfold sh84; kernel_rfl) x⟩
/- slices.rotateCmpFunc[quern/api.Interval] -/
def fl99 : FL := ⟨58, (.seq (.reg [sv 12 (.mov (t 2)), sv 13 (.mov (t 1)), sv 14 (.ar .sub true (t 12) (t 13)), sv 10 (.mov (t 14))]) (.seq (.reg [sv 15 (.mov (t 3)), sv 16 (.mov (t 2)), sv 17 (.ar .sub true (t 15) (t 16)), sv 11 (.mov (t 17))]) (.seq (.block 0 (.loop [(10, (.one (.int .i64))), (11, (.one (.int .i64)))] [10, 11, 18, 19, 20, 21, 22, 23, 24, 25, 26, 27, 28, 29, 30, 31, 32, 33, 34, 35, 36, 37, 38, 39, 40, 41, 42, 43, 44, 45, 46, 47, 48, 49] (.seq (.seq (.reg [sv 18 (.mov (t 10)), sv 19 (.mov (t 11)), sv 20 (.cmp .neq (t 18) (t 19))]) (.cond (t 20) .skip (.exit 0))) (.block 1 (.seq (.reg [sv 21 (.mov (t 10)), sv 22 (.mov (t 11)), sv 23 (.cmp .gtr (t 21) (t 22))]) (.cond (t 23) (.seq (.reg [sv 24 (.mov (t 0)), sv 25 (.mov (t 2)), sv 26 (.mov (t 10)), sv 27 (.ar .sub true (t 25) (t 26)), sv 28 (.mov (t 2)), sv 29 (.mov (t 11)), sv 30 (.mov (t 4)), se 31 (.call 106 [(t 24), (t 27), (t 28), (t 29), (t 30)] .unit)]) (.reg [sv 32 (.mov (t 10)), sv 33 (.mov (t 11)), sv 34 (.ar .sub true (t 32) (t 33)), sv 10 (.mov (t 34))])) (.seq (.reg [sv 35 (.mov (t 0)), sv 36 (.mov (t 2)), sv 37 (.mov (t 10)), sv 38 (.ar .sub true (t 36) (t 37)), sv 39 (.mov (t 2)), sv 40 (.mov (t 11)), sv 41 (.ar .add true (t 39) (t 40)), sv 42 (.mov (t 10)), sv 43 (.ar .sub true (t 41) (t 42)), sv 44 (.mov (t 10)), sv 45 (.mov (t 4)), se 46 (.call 106 [(t 35), (t 38), (t 43), (t 44), (t 45)] .unit)]) (.reg [sv 47 (.mov (t 11)), sv 48 (.mov (t 10)), sv 49 (.ar .sub true (t 47) (t 48)), sv 11 (.mov (t 49))])))))))) (.reg [sv 50 (.mov (t 0)), sv 51 (.mov (t 2)), sv 52 (.mov (t 10)), sv 53 (.ar .sub true (t 51) (t 52)), sv 54 (.mov (t 2)), sv 55 (.mov (t 10)), sv 56 (.mov (t 4)), se 57 (.call 106 [(t 50), (t 53), (t 54), (t 55), (t 56)] .unit)])))), []⟩
theorem ck99 : chkFL Tryd.prog 99 fl99 = true := by kernel_rfl
def sh99 (adata_0 : Option Addr) (ndata_0 cdata_0 : Nat) (a_1 : Int) (m_2 : Int) (b_3 : Int) (h : H) (R : Value → H → Prop) : Prop :=
 InR .i64 (m_2 - a_1) ∧
 InR .i64 (b_3 - m_2) ∧
 ∃ J : Int → Int → LI, (J (m_2 - a_1) (b_3 - m_2)).1 h ∧
 ∀ (i_10 : Int), ∀ (j_11 : Int), ∀ h1 : H, (J i_10 j_11).1 h1 →
 (((¬ i_10 = j_11) →
 (((j_11 < i_10) →
 InR .i64 (m_2 - i_10) ∧
 HC Tryd.prog 106 [(.slice adata_0 ndata_0 cdata_0), (.int .i64 (m_2 - i_10)), (.int .i64 m_2), (.int .i64 j_11), (.func (.func 35) ⟨[]⟩ ⟨[]⟩)] h1 fun rv_31 h2 =>
 rv_31 = (.tuple ⟨[]⟩) ∧
 InR .i64 (i_10 - j_11) ∧
 (J (i_10 - j_11) j_11).1 h2 ∧ (J (i_10 - j_11) j_11).2 h2 < (J i_10 j_11).2 h1) ∧
 (¬ (j_11 < i_10) →
 InR .i64 (m_2 - i_10) ∧
 InR .i64 (m_2 + j_11) ∧
 InR .i64 ((m_2 + j_11) - i_10) ∧
 HC Tryd.prog 106 [(.slice adata_0 ndata_0 cdata_0), (.int .i64 (m_2 - i_10)), (.int .i64 ((m_2 + j_11) - i_10)), (.int .i64 i_10), (.func (.func 35) ⟨[]⟩ ⟨[]⟩)] h1 fun rv_46 h3 =>
 rv_46 = (.tuple ⟨[]⟩) ∧
 InR .i64 (j_11 - i_10) ∧
 (J i_10 (j_11 - i_10)).1 h3 ∧ (J i_10 (j_11 - i_10)).2 h3 < (J i_10 j_11).2 h1))) ∧
 (¬ (¬ i_10 = j_11) →
 InR .i64 (m_2 - i_10) ∧
 HC Tryd.prog 106 [(.slice adata_0 ndata_0 cdata_0), (.int .i64 (m_2 - i_10)), (.int .i64 m_2), (.int .i64 i_10), (.func (.func 35) ⟨[]⟩ ⟨[]⟩)] h1 fun rv_57 h4 =>
 rv_57 = (.tuple ⟨[]⟩) ∧
 R (.tuple ⟨[]⟩) h4))
theorem hc99 {adata_0 : Option Addr} {ndata_0 cdata_0 : Nat} {a_1 : Int} {m_2 : Int} {b_3 : Int} {h : H} {R : Value → H → Prop} (x : sh99 adata_0 ndata_0 cdata_0 a_1 m_2 b_3 h R) : HC Tryd.prog 99 [(.slice adata_0 ndata_0 cdata_0), (.int .i64 a_1), (.int .i64 m_2), (.int .i64 b_3), (.func (.func 35) ⟨[]⟩ ⟨[]⟩)] h R :=
  FL.sound mixed ck99 ⟨rfl, Eq.mp (by unfold sh99; kernel_rfl) x⟩
/- slices.swapRangeCmpFunc[quern/api.Interval] -/
def fl106 : FL := ⟨38, (.seq (.reg [sv 10 (.mov (ci 0))]) (.block 0 (.loop [(10, (.one (.int .i64)))] [10, 11, 12, 13, 14, 15, 16, 17, 18, 19, 20, 21, 22, 23, 24, 25, 26, 27, 28, 29, 30, 31, 32, 33, 34, 35, 36, 37] (.seq (.seq (.reg [sv 11 (.mov (t 10)), sv 12 (.mov (t 3)), sv 13 (.cmp .lss (t 11) (t 12))]) (.cond (t 13) .skip (.exit 0))) (.seq (.block 1 (.drw .eq [21, 23] [16, 17, 18, 19, 20, 21, 22, 23, 24, 25, 26, 27, 28, 29, 30, 31, 32, 33, 34, 35, 36, 37] (.takeP 0 (sv 16 (.mov (t 0))) (.takeP 1 (sv 17 (.mov (t 1))) (.takeP 2 (sv 18 (.mov (t 10))) (.takeP 3 (sv 19 (.ar .add true (t 17) (t 18))) (.takeP 4 (sv 20 (.mov (t 0))) (.takeP 5 (sv 21 (.mov (t 2))) (.takeP 6 (sv 22 (.mov (t 10))) (.takeP 7 (sv 23 (.ar .add true (t 21) (t 22))) (.takeP 8 (sv 24 (.mov (t 0))) (.takeP 9 (sv 25 (.mov (t 2))) (.takeP 10 (sv 26 (.mov (t 10))) (.takeP 11 (sv 27 (.ar .add true (t 25) (t 26))) (.takeP 12 (sv 28 (.idx 3 (t 24) (t 27))) (.takeP 14 (sv 30 (.mov (t 0))) (.takeP 15 (sv 31 (.mov (t 1))) (.takeP 16 (sv 32 (.mov (t 10))) (.takeP 17 (sv 33 (.ar .add true (t 31) (t 32))) (.takeP 18 (sv 34 (.idx 3 (t 30) (t 33))) (.takeR 13 (sv 29 (.lda [(.int .i64), (.int .i64), (.int .i64)] (t 28))) (.takeR 19 (sv 35 (.lda [(.int .i64), (.int .i64), (.int .i64)] (t 34))) (.takeP 20 (sv 36 (.idx 3 (t 16) (t 19))) (.alt 21 (ne (.sto 3 (t 36) (t 29))) (.takeP 22 (sv 37 (.idx 3 (t 20) (t 23))) (.alt 23 (ne (.sto 3 (t 37) (t 35))) .done .stop)) .stop)))))))))))))))))))))))) (.reg [sv 14 (.mov (t 10)), sv 15 (.ar .add true (t 14) (ci 1)), sv 10 (.mov (t 15))])))))), []⟩
theorem ck106 : chkFL Tryd.prog 106 fl106 = true := by kernel_rfl
def sh106 (adata_0 : Option Addr) (ndata_0 cdata_0 : Nat) (a_1 : Int) (b_2 : Int) (n_3 : Int) (h : H) (R : Value → H → Prop) : Prop :=
 ∃ J : Int → LI, (J 0).1 h ∧
 ∀ (i_10 : Int), ∀ h1 : H, (J i_10).1 h1 →
 (((i_10 < n_3) →
 InR .i64 (a_1 + i_10) ∧
 InR .i64 (b_2 + i_10) ∧
 InR .i64 (b_2 + i_10) ∧
 0 ≤ (b_2 + i_10) ∧ (b_2 + i_10) < (↑ndata_0 : Int) ∧
 (onP adata_0 fun bv_28 ov_28 =>
 InR .i64 (a_1 + i_10) ∧
 0 ≤ (a_1 + i_10) ∧ (a_1 + i_10) < (↑ndata_0 : Int) ∧
 (onP adata_0 fun bv_34 ov_34 =>
 ∃ (v_29 : Int), cell h1 ⟨bv_28, ((ov_28 + ((b_2 + i_10)).toNat * 3) + 0), none⟩ = some (.int .i64 v_29) ∧
 ∃ (v_29_1 : Int), cell h1 ⟨bv_28, ((ov_28 + ((b_2 + i_10)).toNat * 3) + 1), none⟩ = some (.int .i64 v_29_1) ∧
 ∃ (v_29_2 : Int), cell h1 ⟨bv_28, ((ov_28 + ((b_2 + i_10)).toNat * 3) + 2), none⟩ = some (.int .i64 v_29_2) ∧
 ∃ (v_35 : Int), cell h1 ⟨bv_34, ((ov_34 + ((a_1 + i_10)).toNat * 3) + 0), none⟩ = some (.int .i64 v_35) ∧
 ∃ (v_35_1 : Int), cell h1 ⟨bv_34, ((ov_34 + ((a_1 + i_10)).toNat * 3) + 1), none⟩ = some (.int .i64 v_35_1) ∧
 ∃ (v_35_2 : Int), cell h1 ⟨bv_34, ((ov_34 + ((a_1 + i_10)).toNat * 3) + 2), none⟩ = some (.int .i64 v_35_2) ∧
 0 ≤ (a_1 + i_10) ∧ (a_1 + i_10) < (↑ndata_0 : Int) ∧
 (onP adata_0 fun bv_36 ov_36 =>
 stQ 3 h1 bv_36 (ov_36 + ((a_1 + i_10)).toNat * 3) [(.int .i64 v_29), (.int .i64 v_29_1), (.int .i64 v_29_2)] fun h2 =>
 0 ≤ (b_2 + i_10) ∧ (b_2 + i_10) < (↑ndata_0 : Int) ∧
 (onP adata_0 fun bv_37 ov_37 =>
 stQ 3 h2 bv_37 (ov_37 + ((b_2 + i_10)).toNat * 3) [(.int .i64 v_35), (.int .i64 v_35_1), (.int .i64 v_35_2)] fun h3 =>
 InR .i64 (i_10 + 1) ∧
 (J (i_10 + 1)).1 h3 ∧ (J (i_10 + 1)).2 h3 < (J i_10).2 h1))))) ∧
 (¬ (i_10 < n_3) →
 R (.tuple ⟨[]⟩) h1))
theorem hc106 {adata_0 : Option Addr} {ndata_0 cdata_0 : Nat} {a_1 : Int} {b_2 : Int} {n_3 : Int} {h : H} {R : Value → H → Prop} (x : sh106 adata_0 ndata_0 cdata_0 a_1 b_2 n_3 h R) : HC Tryd.prog 106 [(.slice adata_0 ndata_0 cdata_0), (.int .i64 a_1), (.int .i64 b_2), (.int .i64 n_3), (.func (.func 35) ⟨[]⟩ ⟨[]⟩)] h R :=
  FL.sound mixed ck106 ⟨rfl, Eq.mp (by unfold sh106; kernel_rfl) x⟩
/- quern/live.Intervals$2 -/
def fl35 : FL := ⟨10, (.seq (.reg [se 2 (.box 52 (t 0)), se 3 (.box 52 (t 1)), sv 4 (.mov (ci 0))]) (.seq (.reg [sv 5 (.fad 1 (t 2)), sv 6 (.ld (.int .i64) (t 5)), sv 7 (.fad 1 (t 3)), sv 8 (.ld (.int .i64) (t 7)), sv 9 (.ar .sub true (t 6) (t 8)), sv 4 (.mov (t 9))]) .ret)), [.tmp 4]⟩
theorem ck35 : chkFL Tryd.prog 35 fl35 = true := by kernel_rfl
def sh35 (x_0 : Int) (x_0_1 : Int) (x_0_2 : Int) (y_1 : Int) (y_1_1 : Int) (y_1_2 : Int) (h : H) (R : Value → H → Prop) : Prop :=
 ∀ (bx_2 : Nat) (h1 : H), New h (.cells ⟨[(.int .i64 x_0), (.int .i64 x_0_1), (.int .i64 x_0_2)]⟩ 52) bx_2 h1 →
 ∀ (by_3 : Nat) (h2 : H), New h1 (.cells ⟨[(.int .i64 y_1), (.int .i64 y_1_1), (.int .i64 y_1_2)]⟩ 52) by_3 h2 →
 ∃ (v_6 : Int), cell h2 ⟨bx_2, (0 + 1), none⟩ = some (.int .i64 v_6) ∧
 ∃ (v_8 : Int), cell h2 ⟨by_3, (0 + 1), none⟩ = some (.int .i64 v_8) ∧
 InR .i64 (v_6 - v_8) ∧
 R (.int .i64 (v_6 - v_8)) h2
theorem hc35 {x_0 : Int} {x_0_1 : Int} {x_0_2 : Int} {y_1 : Int} {y_1_1 : Int} {y_1_2 : Int} {h : H} {R : Value → H → Prop} (x : sh35 x_0 x_0_1 x_0_2 y_1 y_1_1 y_1_2 h R) : HC Tryd.prog 35 [(.agg ⟨[(.int .i64 x_0), (.int .i64 x_0_1), (.int .i64 x_0_2)]⟩), (.agg ⟨[(.int .i64 y_1), (.int .i64 y_1_1), (.int .i64 y_1_2)]⟩)] h R :=
  FL.sound mixed ck35 ⟨rfl, Eq.mp (by unfold sh35; kernel_rfl) x⟩
end Go.Proofs.Try

/- Sorting, plain: lists, their stretches, turns of stretches. -/
set_option maxRecDepth 100000
set_option linter.unusedVariables false
set_option linter.unusedSimpArgs false
open Go Go.Fw Go.Proofs
namespace Go.Proofs.Try

def seg {α : Type} (l : List α) (a b : Nat) : List α := (l.take b).drop a
theorem seg_get {α : Type} {l : List α} {a b q : Nat} : (seg l a b)[q]? = if a + q < b then l[a + q]? else none := by
  unfold seg; rw [List.getElem?_drop, List.getElem?_take]
theorem seg_len {α : Type} {l : List α} {a b : Nat} (hb : b ≤ l.length) : (seg l a b).length = b - a := by
  unfold seg; rw [List.length_drop, List.length_take]; omega
theorem split3 {α : Type} (l : List α) {a b : Nat} (h : a ≤ b) : l = l.take a ++ seg l a b ++ l.drop b := by
  have h1 : l.take a ++ seg l a b = l.take b := by
    unfold seg
    have := List.take_append_drop a (l.take b)
    rw [List.take_take, Nat.min_eq_left h] at this
    exact this
  rw [h1, List.take_append_drop]
/-- Where what stands at q has come from, when two neighbouring stretches change places. -/
def rho (a m b q : Nat) : Nat := if q < a then q else if q < a + (b - m) then q + (m - a) else if q < b then q - (b - m) else q
def rotS {α : Type} (l : List α) (a m b : Nat) : List α := l.take a ++ seg l m b ++ seg l a m ++ l.drop b
theorem rotS_len {α : Type} {l : List α} {a m b : Nat} (h1 : a ≤ m) (h2 : m ≤ b) (h3 : b ≤ l.length) : (rotS l a m b).length = l.length := by
  unfold rotS
  rw [List.length_append, List.length_append, List.length_append, seg_len h3, seg_len (by omega), List.length_take, List.length_drop]; omega
theorem rotS_get {α : Type} {l : List α} {a m b : Nat} (h1 : a ≤ m) (h2 : m ≤ b) (h3 : b ≤ l.length) (q : Nat) : (rotS l a m b)[q]? = l[rho a m b q]? := by
  unfold rotS rho
  have e1 : (l.take a).length = a := by rw [List.length_take]; omega
  have e2 := seg_len (l := l) (a := m) h3
  have e3 := seg_len (l := l) (a := a) (b := m) (by omega)
  by_cases c1 : q < a
  · rw [if_pos c1, List.append_assoc, List.append_assoc, List.getElem?_append_left (by omega), List.getElem?_take, if_pos c1]
  · rw [if_neg c1]
    by_cases c2 : q < a + (b - m)
    · rw [if_pos c2, List.append_assoc, List.append_assoc, List.getElem?_append_right (by omega), List.getElem?_append_left (by omega), seg_get, if_pos (by omega)]
      congr 1; omega
    · rw [if_neg c2]
      by_cases c3 : q < b
      · rw [if_pos c3, List.append_assoc, List.append_assoc, List.getElem?_append_right (by omega), List.getElem?_append_right (by omega), List.getElem?_append_left (by omega), seg_get, if_pos (by omega)]
        congr 1; omega
      · rw [if_neg c3, List.append_assoc, List.append_assoc, List.getElem?_append_right (by omega), List.getElem?_append_right (by omega), List.getElem?_append_right (by omega), List.getElem?_drop]
        congr 1; omega
theorem rotS_eq {α : Type} {L l : List α} {a m b : Nat} (h1 : a ≤ m) (h2 : m ≤ b) (h3 : b ≤ l.length) (h : ∀ q, L[q]? = l[rho a m b q]?) : L = rotS l a m b := by
  apply List.ext_getElem?
  intro q
  rw [h, rotS_get h1 h2 h3]
def swp (i j q : Nat) : Nat := if q = i then j else if q = j then i else q
theorem swap_get {α : Type} {L : List α} {i j : Nat} {x y : α} (hi : L[i]? = some x) (hj : L[j]? = some y) (q : Nat) : ((L.set i y).set j x)[q]? = L[swp i j q]? := by
  have li : i < L.length := (List.getElem?_eq_some_iff.1 hi).1
  have lj : j < L.length := (List.getElem?_eq_some_iff.1 hj).1
  unfold swp
  by_cases c2 : q = j
  · subst c2
    rw [List.getElem?_set_self (by rw [List.length_set]; exact lj)]
    by_cases c1 : q = i
    · subst c1; rw [if_pos rfl]; exact hi.symm
    · rw [if_neg c1, if_pos rfl]; exact hi.symm
  · rw [List.getElem?_set_ne (fun e => c2 e.symm)]
    by_cases c1 : q = i
    · subst c1; rw [if_pos rfl, List.getElem?_set_self li]; exact hj.symm
    · rw [if_neg c1, if_neg c2, List.getElem?_set_ne (fun e => c1 e.symm)]

/-! ### Stable, sorted -/
def Srt (l : List Itv) : Prop := l.Pairwise fun x y => x.frm ≤ y.frm
structure Stb (S' S : List Itv) : Prop where
  len : S'.length = S.length
  flt : ∀ v : Int, S'.filter (fun x => decide (x.frm = v)) = S.filter (fun x => decide (x.frm = v))
theorem Stb.refl (S : List Itv) : Stb S S := ⟨rfl, fun _ => rfl⟩
theorem Stb.trans {A B C : List Itv} (x : Stb A B) (y : Stb B C) : Stb A C := ⟨x.len.trans y.len, fun v => (x.flt v).trans (y.flt v)⟩
theorem Stb.app {A B C D : List Itv} (x : Stb A B) (y : Stb C D) : Stb (A ++ C) (B ++ D) :=
  ⟨by rw [List.length_append, List.length_append, x.len, y.len], fun v => by rw [List.filter_append, List.filter_append, x.flt, y.flt]⟩
theorem Stb.mem {A B : List Itv} (x : Stb A B) {z : Itv} : z ∈ A ↔ z ∈ B := by
  have h : ∀ (l : List Itv), z ∈ l ↔ z ∈ l.filter (fun x => decide (x.frm = z.frm)) := fun l => by simp [List.mem_filter]
  rw [h A, h B, x.flt]
/-- Two stretches of which all of the first stand over all of the second. -/
theorem Stb.comm {U V : List Itv} (h : ∀ x ∈ U, ∀ y ∈ V, y.frm < x.frm) : Stb (V ++ U) (U ++ V) := by
  refine ⟨by simp [Nat.add_comm], fun v => ?_⟩
  rw [List.filter_append, List.filter_append]
  by_cases hu : ∃ x ∈ U, x.frm = v
  · obtain ⟨x, hx, e⟩ := hu
    have : V.filter (fun x => decide (x.frm = v)) = [] := by
      rw [List.filter_eq_nil_iff]; intro y hy; have := h x hx y hy; simp; omega
    rw [this]; simp
  · have : U.filter (fun x => decide (x.frm = v)) = [] := by
      rw [List.filter_eq_nil_iff]; intro y hy; simp; intro e; exact hu ⟨y, hy, e⟩
    rw [this]; simp
theorem Stb.rot {l : List Itv} {a m b : Nat} (h1 : a ≤ m) (h2 : m ≤ b) (h : ∀ x ∈ seg l a m, ∀ y ∈ seg l m b, y.frm < x.frm) : Stb (seg l m b ++ seg l a m) (seg l a b) := by
  have e : seg l a b = seg l a m ++ seg l m b := by
    apply List.ext_getElem?
    intro q
    by_cases hm : m ≤ l.length
    · have e3 := seg_len (l := l) (a := a) (b := m) hm
      by_cases c : q < m - a
      · rw [List.getElem?_append_left (by omega), seg_get, seg_get, if_pos (by omega), if_pos (by omega)]
      · rw [List.getElem?_append_right (by omega), seg_get, seg_get, e3]
        rw [show m + (q - (m - a)) = a + q by omega]
    · have : seg l m b = [] := by unfold seg; rw [List.drop_eq_nil_of_le]; rw [List.length_take]; omega
      rw [this, List.append_nil, seg_get, seg_get]
      by_cases c : a + q < l.length
      · rw [if_pos (by omega), if_pos (by omega)]
      · rw [List.getElem?_eq_none (by omega)]; simp
  rw [e]; exact Stb.comm h
theorem seg_mem {l : List Itv} {a b : Nat} {x : Itv} : x ∈ seg l a b ↔ ∃ q, a ≤ q ∧ q < b ∧ l[q]? = some x := by
  rw [List.mem_iff_getElem?]
  constructor
  · rintro ⟨q, hq⟩
    rw [seg_get] at hq
    split at hq
    · exact ⟨a + q, by omega, by omega, hq⟩
    · cases hq
  · rintro ⟨q, h1, h2, h3⟩
    exact ⟨q - a, by rw [seg_get, if_pos (by omega), show a + (q - a) = q by omega]; exact h3⟩
theorem srt_iff {l : List Itv} : Srt l ↔ ∀ (i j : Nat) (x y : Itv), i < j → l[i]? = some x → l[j]? = some y → x.frm ≤ y.frm := by
  unfold Srt
  rw [List.pairwise_iff_getElem]
  constructor
  · intro h i j x y hij hi hj
    obtain ⟨h1, rfl⟩ := List.getElem?_eq_some_iff.1 hi
    obtain ⟨h2, rfl⟩ := List.getElem?_eq_some_iff.1 hj
    exact h i j h1 h2 hij
  · intro h i j h1 h2 hij
    exact h i j _ _ hij (by simp) (by simp)
theorem srt_seg {l : List Itv} {a b : Nat} : Srt (seg l a b) ↔ ∀ (i j : Nat) (x y : Itv), a ≤ i → i < j → j < b → l[i]? = some x → l[j]? = some y → x.frm ≤ y.frm := by
  rw [srt_iff]
  constructor
  · intro h i j x y h1 h2 h3 hi hj
    refine h (i - a) (j - a) x y (by omega) ?_ ?_
    · rw [seg_get, if_pos (by omega), show a + (i - a) = i by omega]; exact hi
    · rw [seg_get, if_pos (by omega), show a + (j - a) = j by omega]; exact hj
  · intro h i j x y hij hi hj
    rw [seg_get] at hi hj
    split at hi <;> split at hj <;> first | cases hi | cases hj | skip
    exact h _ _ x y (by omega) (by omega) (by omega) hi hj

/-- A stretch is put in another's place. -/
def putS (l : List Itv) (a : Nat) (S : List Itv) (b : Nat) : List Itv := l.take a ++ S ++ l.drop b
theorem putS_get {l S : List Itv} {a b : Nat} (h1 : a ≤ b) (h2 : b ≤ l.length) (hS : S.length = b - a) (q : Nat) : (putS l a S b)[q]? = if q < a then l[q]? else if q < b then S[q - a]? else l[q]? := by
  unfold putS
  have e1 : (l.take a).length = a := by rw [List.length_take]; omega
  by_cases c1 : q < a
  · rw [if_pos c1, List.append_assoc, List.getElem?_append_left (by omega), List.getElem?_take, if_pos c1]
  · rw [if_neg c1]
    by_cases c2 : q < b
    · rw [if_pos c2, List.append_assoc, List.getElem?_append_right (by omega), List.getElem?_append_left (by omega), e1]
    · rw [if_neg c2, List.append_assoc, List.getElem?_append_right (by omega), List.getElem?_append_right (by omega), List.getElem?_drop]
      congr 1; omega
theorem putS_len {l S : List Itv} {a b : Nat} (h1 : a ≤ b) (h2 : b ≤ l.length) (hS : S.length = b - a) : (putS l a S b).length = l.length := by
  unfold putS; rw [List.length_append, List.length_append, List.length_take, List.length_drop]; omega
theorem putS_self {l : List Itv} {a b : Nat} (h : a ≤ b) : putS l a (seg l a b) b = l := (split3 l h).symm
theorem rotS_put {l : List Itv} {a m b : Nat} : rotS l a m b = putS l a (seg l m b ++ seg l a m) b := by
  unfold rotS putS; simp [List.append_assoc]
theorem Stb.put {l S : List Itv} {a b : Nat} (h : a ≤ b) (s : Stb S (seg l a b)) : Stb (putS l a S b) l := by
  have := ((Stb.refl (l.take a)).app s).app (Stb.refl (l.drop b))
  rw [← split3 l h] at this
  exact this
end Go.Proofs.Try

/- Sorting: the walks of the library's parts that exchange, turn and insert. -/
set_option maxRecDepth 100000
set_option linter.unusedVariables false
set_option linter.unusedSimpArgs false
open Go Go.Fw Go.Proofs
namespace Go.Proofs.Try

theorem OwnV.whole {h : H} {p : Option Addr} {b : Nat} {l : List Itv} (w : OwnV h p b l) {i : Nat} {x : Itv} (hi : l[i]? = some x) (x' : Itv) {K : H → Prop} (hk : ∀ h', OwnV h' p b (l.set i x') → Mod (fun c => c = b) h h' → K h') :
    stQ 3 h b (0 + i * 3) [.int .i64 x'.reg, .int .i64 x'.frm, .int .i64 x'.to] K := by
  obtain ⟨cs, e, h1, h2, h3⟩ := Own.store (enc := ive) (k := 3) (fun _ => rfl) (by omega) w hi (j := 0) (vs := ive x') (x' := x') (by simp) rfl
  exact ⟨cs, e, h1, h2, rfl, rfl, fun h' hu => hk h' (h3 h' hu).1 (h3 h' hu).2⟩
theorem c35 {h : H} {x y : Itv} (hx : 0 ≤ x.frm ∧ x.frm ≤ 9000000000000) (hy : 0 ≤ y.frm ∧ y.frm ≤ 9000000000000) {R : Value → H → Prop} (k : ∀ h' d, (d < 0 ↔ x.frm < y.frm) → Ext h h' → R (.int .i64 d) h') :
    HC Tryd.prog 35 [.agg ⟨[.int .i64 x.reg, .int .i64 x.frm, .int .i64 x.to]⟩, .agg ⟨[.int .i64 y.reg, .int .i64 y.frm, .int .i64 y.to]⟩] h R := by
  apply hc35; unfold sh35; intro b1 h1 hN1 b2 h2 hN2
  exact ⟨_, hN1.keep _ hN2.ext 1 _ rfl, _, hN2.keep _ Ext.rfl' 1 _ rfl, i64ok (by omega) (by omega), k _ _ (by omega) (hN1.ext.trans hN2.ext)⟩
def Nng (l : List Itv) : Prop := ∀ x ∈ l, 0 ≤ x.frm ∧ x.frm ≤ 9000000000000
theorem Nng.get {l L : List Itv} (h : Nng l) {s : Nat → Nat} (e : ∀ q, L[q]? = l[s q]?) : Nng L := fun x hx => by
  obtain ⟨q, hq⟩ := List.getElem?_of_mem hx
  rw [e] at hq; exact h x (List.mem_of_getElem? hq)

/-- Two stretches of like length change places. -/
def blkS (a b n q : Nat) : Nat := if a ≤ q ∧ q < a + n then q + (b - a) else if b ≤ q ∧ q < b + n then q - (b - a) else q
theorem c106 {h : H} {p : Option Addr} {n c bl : Nat} {l : List Itv} {a b m : Int} (w : OwnV h p bl l) (hn : l.length = n) (hz : n ≤ 1000000) (a0 : 0 ≤ a) (m0 : 0 ≤ m) (hab : a + m ≤ b) (hb : b + m ≤ n) {R : Value → H → Prop}
    (k : ∀ h' L, OwnV h' p bl L → L.length = l.length → (∀ q, L[q]? = l[blkS a.toNat b.toNat m.toNat q]?) → Mod (fun c => c = bl) h h' → R (.tuple ⟨[]⟩) h') :
    HC Tryd.prog 106 [.slice p n c, .int .i64 a, .int .i64 b, .int .i64 m, .func (.func 35) ⟨[]⟩ ⟨[]⟩] h R := by
  apply hc106; unfold sh106
  refine fwd m (fun i h' => ∃ L, OwnV h' p bl L ∧ L.length = l.length ∧ (∀ q, L[q]? = l[blkS a.toNat b.toNat i.toNat q]?) ∧ Mod (fun c => c = bl) h h') m0 ⟨l, w, rfl, fun q => by unfold blkS; rw [if_neg (by omega), if_neg (by omega)], Mod.refl _ _⟩ fun i h1 i0 i1 ⟨L, wL, hL, hq, m1⟩ => ⟨fun ilt => ?_, fun ige => ?_⟩
  · obtain ⟨x, hx⟩ : ∃ x, L[(a + i).toNat]? = some x := ⟨L[(a + i).toNat]'(by omega), by simp⟩
    obtain ⟨y, hy⟩ : ∃ y, L[(b + i).toNat]? = some y := ⟨L[(b + i).toNat]'(by omega), by simp⟩
    obtain ⟨p1, x0, x1, x2⟩ := wL.cell hx
    obtain ⟨_, y0, y1, y2⟩ := wL.cell hy
    refine ⟨i64ok (by omega) (by omega), i64ok (by omega) (by omega), i64ok (by omega) (by omega), by omega, by omega, onP_at p1 ⟨i64ok (by omega) (by omega), by omega, by omega, onP_at p1 ⟨_, y0, _, y1, _, y2, _, x0, _, x1, _, x2, by omega, by omega, onP_at p1 (wL.whole hx y fun h2 w2 m2 => ⟨by omega, by omega, onP_at p1 ?_⟩)⟩⟩⟩
    have hy2 : (L.set (a + i).toNat y)[(b + i).toNat]? = some y := by rw [List.getElem?_set_ne (by omega)]; exact hy
    refine w2.whole hy2 x fun h3 w3 m3 => ⟨i64ok (by omega) (by omega), fwd_next i0 ilt ⟨_, w3, by rw [List.length_set, List.length_set]; exact hL, fun q => ?_, (m1.trans m2 fun _ _ h => h).trans m3 fun _ _ h => h⟩⟩
    rw [swap_get hx hy, hq]
    congr 1
    unfold blkS swp
    have : (i + 1).toNat = i.toNat + 1 := by omega
    rw [this]
    repeat' split
    all_goals omega
  · rw [show i.toNat = m.toNat by omega] at hq
    exact k h1 L wL hL hq m1

theorem c99 {h : H} {p : Option Addr} {n c bl : Nat} {l : List Itv} {a m b : Int} (w : OwnV h p bl l) (hn : l.length = n) (hz : n ≤ 1000000) (a0 : 0 ≤ a) (ham : a < m) (hmb : m < b) (hb : b ≤ n) {R : Value → H → Prop}
    (k : ∀ h', OwnV h' p bl (rotS l a.toNat m.toNat b.toNat) → Mod (fun c => c = bl) h h' → R (.tuple ⟨[]⟩) h') :
    HC Tryd.prog 99 [.slice p n c, .int .i64 a, .int .i64 m, .int .i64 b, .func (.func 35) ⟨[]⟩ ⟨[]⟩] h R := by
  apply hc99; unfold sh99
  refine ⟨i64ok (by omega) (by omega), i64ok (by omega) (by omega), fun i j => (fun h' => 0 < i ∧ 0 < j ∧ i ≤ m - a ∧ j ≤ b - m ∧ ∃ L, OwnV h' p bl L ∧ L.length = l.length ∧ (∀ q, L[rho (m - i).toNat m.toNat (m + j).toNat q]? = l[rho a.toNat m.toNat b.toNat q]?) ∧ Mod (fun c => c = bl) h h', fun _ => (i + j).toNat), ⟨by omega, by omega, by omega, by omega, l, w, rfl, fun q => by rw [show m - (m - a) = a by omega, show m + (b - m) = b by omega], Mod.refl _ _⟩, ?_⟩
  rintro i j h1 ⟨i0, j0, i1, j1, L, wL, hL, hq, m1⟩
  refine ⟨fun hne => ⟨fun hlt => ⟨i64ok (by omega) (by omega), ?_⟩, fun hge => ⟨i64ok (by omega) (by omega), i64ok (by omega) (by omega), i64ok (by omega) (by omega), ?_⟩⟩, fun heq => ⟨i64ok (by omega) (by omega), ?_⟩⟩
  · refine c106 wL (by omega) hz (by omega) (by omega) (by omega) (by omega) fun h2 L2 w2 hL2 hq2 m2 => ⟨rfl, i64ok (by omega) (by omega), ⟨by omega, by omega, by omega, by omega, L2, w2, by omega, fun q => ?_, m1.trans m2 fun _ _ h => h⟩, by show ((i - j) + j).toNat < (i + j).toNat; omega⟩
    rw [hq2, ← hq q]
    congr 1
    unfold blkS rho
    repeat' split
    all_goals omega
  · refine c106 wL (by omega) hz (by omega) (by omega) (by omega) (by omega) fun h2 L2 w2 hL2 hq2 m2 => ⟨rfl, i64ok (by omega) (by omega), ⟨by omega, by omega, by omega, by omega, L2, w2, by omega, fun q => ?_, m1.trans m2 fun _ _ h => h⟩, by show (i + (j - i)).toNat < (i + j).toNat; omega⟩
    rw [hq2, ← hq q]
    congr 1
    unfold blkS rho
    repeat' split
    all_goals omega
  · refine c106 wL (by omega) hz (by omega) (by omega) (by omega) (by omega) fun h2 L2 w2 hL2 hq2 m2 => ⟨rfl, k h2 ?_ (m1.trans m2 fun _ _ h => h)⟩
    have : L2 = rotS l a.toNat m.toNat b.toNat := rotS_eq (by omega) (by omega) (by omega) fun q => by
      rw [hq2, ← hq q]
      congr 1
      unfold blkS rho
      repeat' split
      all_goals omega
    rw [← this]; exact w2
end Go.Proofs.Try

/- Sorting: insertion. -/
set_option maxRecDepth 100000
set_option linter.unusedVariables false
set_option linter.unusedSimpArgs false
open Go Go.Fw Go.Proofs
namespace Go.Proofs.Try

theorem ins_get {S : List Itv} {t : Nat} {x : Itv} (ht : t ≤ S.length) (q : Nat) : (S.take t ++ ([x] ++ S.drop t))[q]? = if q < t then S[q]? else if q = t then some x else S[q - 1]? := by
  have e1 : (S.take t).length = t := by rw [List.length_take]; omega
  by_cases c1 : q < t
  · rw [if_pos c1, List.getElem?_append_left (by omega), List.getElem?_take, if_pos c1]
  · rw [if_neg c1, List.getElem?_append_right (by omega), e1]
    by_cases c2 : q = t
    · rw [if_pos c2, List.getElem?_append_left (by simp; omega), show q - t = 0 by omega]; rfl
    · rw [if_neg c2, List.getElem?_append_right (by simp; omega), List.getElem?_drop]
      simp only [List.length_singleton]
      congr 1; omega
theorem ins_srt {S : List Itv} {t : Nat} {x : Itv} (ht : t ≤ S.length) (so : Srt S) (hgt : ∀ q y, t ≤ q → S[q]? = some y → x.frm ≤ y.frm) (hle : ∀ q y, q < t → S[q]? = some y → y.frm ≤ x.frm) : Srt (S.take t ++ ([x] ++ S.drop t)) := by
  rw [srt_iff] at so ⊢
  intro i j u v hij hi hj
  rw [ins_get ht] at hi hj
  split at hi
  · split at hj
    · exact so i j u v hij hi hj
    · split at hj
      · cases hj; exact hle i u (by omega) hi
      · exact so i (j - 1) u v (by omega) hi hj
  · split at hi
    · cases hi
      split at hj
      · omega
      · split at hj
        · omega
        · exact hgt (j - 1) v (by omega) hj
    · split at hj
      · omega
      · split at hj
        · omega
        · exact so (i - 1) (j - 1) u v (by omega) hi hj
theorem seg_succ {l : List Itv} {a i : Nat} {x : Itv} (ha : a ≤ i) (hx : l[i]? = some x) : seg l a (i + 1) = seg l a i ++ [x] := by
  have hi := (List.getElem?_eq_some_iff.1 hx).1
  apply List.ext_getElem?
  intro q
  have e := seg_len (l := l) (a := a) (b := i) (by omega)
  rw [seg_get]
  by_cases c : q < i - a
  · rw [List.getElem?_append_left (by omega), seg_get, if_pos (by omega), if_pos (by omega)]
  · rw [List.getElem?_append_right (by omega), e]
    by_cases c2 : q = i - a
    · rw [if_pos (by omega), show a + q = i by omega, hx, show q - (i - a) = 0 by omega]; rfl
    · rw [if_neg (by omega), List.getElem?_eq_none (by simp; omega)]
def LeAt (S : List Itv) (j a : Nat) (x : Itv) : Prop := j = a ∨ ∃ y, S[j - 1 - a]? = some y ∧ y.frm ≤ x.frm
/-- One is put where it belongs among those ahead of it. -/
theorem ins_fin {l S : List Itv} {a j i : Nat} {x : Itv} (haj : a ≤ j) (hji : j ≤ i) (hS : S.length = i - a) (st : Stb S (seg l a i)) (so : Srt S) (hx : l[i]? = some x) (hgt : ∀ q y, j - a ≤ q → S[q]? = some y → x.frm < y.frm) (hle : LeAt S j a x) :
    ∃ S', rotS (putS l a S i) j i (i + 1) = putS l a S' (i + 1) ∧ S'.length = i + 1 - a ∧ Stb S' (seg l a (i + 1)) ∧ Srt S' := by
  have hi := (List.getElem?_eq_some_iff.1 hx).1
  have hpl := putS_len (l := l) (S := S) (a := a) (b := i) (by omega) (by omega) hS
  have hlen : (S.take (j - a) ++ ([x] ++ S.drop (j - a))).length = i + 1 - a := by rw [List.length_append, List.length_append, List.length_take, List.length_drop]; simp; omega
  refine ⟨S.take (j - a) ++ ([x] ++ S.drop (j - a)), ?_, hlen, ?_, ins_srt (by omega) so (fun q y hq hy => by have := hgt q y hq hy; omega) fun q y hq hy => ?_⟩
  · apply List.ext_getElem?
    intro q
    rw [rotS_get hji (by omega) (by omega), putS_get (by omega) (by omega) hS, putS_get (by omega) (by omega) hlen, ins_get (by omega)]
    by_cases c2 : q < j
    · rw [show rho j i (i + 1) q = q by unfold rho; rw [if_pos c2]]
      by_cases c1 : q < a
      · rw [if_pos c1, if_pos c1]
      · rw [if_neg c1, if_neg c1, if_pos (by omega), if_pos (by omega), if_pos (by omega)]
    · by_cases c3 : q = j
      · rw [show rho j i (i + 1) q = i by unfold rho; rw [if_neg c2, if_pos (by omega)]; omega, if_neg (by omega), if_neg (by omega), if_neg (by omega), if_pos (by omega), if_neg (by omega), if_pos (by omega), hx]
      · by_cases c4 : q < i + 1
        · rw [show rho j i (i + 1) q = q - 1 by unfold rho; rw [if_neg c2, if_neg (by omega), if_pos c4]; omega, if_neg (by omega), if_pos (by omega), if_neg (by omega), if_pos c4, if_neg (by omega), if_neg (by omega)]
          congr 1; omega
        · rw [show rho j i (i + 1) q = q by unfold rho; rw [if_neg c2, if_neg (by omega), if_neg c4], if_neg (by omega), if_neg (by omega), if_neg (by omega), if_neg c4]
  · rw [seg_succ (by omega) hx]
    have h1 : Stb ([x] ++ S.drop (j - a)) (S.drop (j - a) ++ [x]) := Stb.comm fun u hu v hv => by
      rw [List.mem_singleton] at hv; subst hv
      obtain ⟨q, hq⟩ := List.getElem?_of_mem hu
      rw [List.getElem?_drop] at hq
      exact hgt _ u (by omega) hq
    have h2 := (Stb.refl (S.take (j - a))).app h1
    rw [← List.append_assoc (S.take (j - a)) (S.drop (j - a)), List.take_append_drop] at h2
    exact h2.trans (st.app (Stb.refl [x]))
  · rcases hle with h | ⟨z, h1, h2⟩
    · omega
    · rcases Nat.lt_or_ge q (j - 1 - a) with h | h
      · have := (srt_iff.1 so) q _ y z h hy h1; omega
      · have : q = j - 1 - a := by omega
        subst this; rw [h1] at hy; cases hy; exact h2
theorem mem_putS {l S : List Itv} {a b : Nat} (s : Stb S (seg l a b)) {x : Itv} (h : x ∈ putS l a S b) : x ∈ l := by
  unfold putS at h
  rcases List.mem_append.1 h with h | h
  · rcases List.mem_append.1 h with h | h
    · exact List.mem_of_mem_take h
    · have := s.mem.1 h
      unfold seg at this
      exact List.mem_of_mem_take (List.mem_of_mem_drop this)
  · exact List.mem_of_mem_drop h

theorem c83 {h : H} {p : Option Addr} {n c bl : Nat} {l : List Itv} {a b : Int} (w : OwnV h p bl l) (hn : l.length = n) (hz : n ≤ 1000000) (ng : Nng l) (a0 : 0 ≤ a) (hab : a ≤ b) (hb : b ≤ n) {R : Value → H → Prop}
    (k : ∀ h' S, OwnV h' p bl (putS l a.toNat S b.toNat) → Stb S (seg l a.toNat b.toNat) → Srt S → Mod (fun c => c = bl) h h' → R (.tuple ⟨[]⟩) h') :
    HC Tryd.prog 83 [.slice p n c, .int .i64 a, .int .i64 b, .func (.func 35) ⟨[]⟩ ⟨[]⟩] h R := by
  apply hc83; unfold sh83
  refine ⟨i64ok (by omega) (by omega), fun i => (fun h' => a + 1 ≤ i ∧ (i ≤ b ∨ i = a + 1) ∧ ∃ S, OwnV h' p bl (putS l a.toNat S (min i.toNat b.toNat)) ∧ Stb S (seg l a.toNat (min i.toNat b.toNat)) ∧ Srt S ∧ Mod (fun c => c = bl) h h', fun _ => (b - i).toNat), ⟨by omega, by omega, seg l a.toNat (min (a + 1).toNat b.toNat), by rw [putS_self (by omega)]; exact w, Stb.refl _, ?_, Mod.refl _ _⟩, ?_⟩
  · rw [srt_seg]; intro i j x y h1 h2 h3; omega
  rintro i h1 ⟨i0, i1, S, wS, st, so, m1⟩
  refine ⟨fun ilt => ?_, fun ige => ?_⟩
  · have hmin : min i.toNat b.toNat = i.toNat := by omega
    rw [hmin] at wS st
    have hSl : S.length = i.toNat - a.toNat := by rw [st.len, seg_len (by omega)]
    obtain ⟨x, hx⟩ : ∃ x, l[i.toNat]? = some x := ⟨l[i.toNat]'(by omega), by simp⟩
    have hbl := putS_len (l := l) (a := a.toNat) (b := i.toNat) (by omega) (by omega) hSl
    have ngx := ng x (List.mem_of_getElem? hx)
    have ngS : ∀ y ∈ S, 0 ≤ y.frm ∧ y.frm ≤ 9000000000000 := fun y hy => ng y (by
      have := st.mem.1 hy; unfold seg at this; exact List.mem_of_mem_take (List.mem_of_mem_drop this))
    have fin : ∀ (j : Int) h3 L, a ≤ j → j ≤ i → OwnV h3 p bl L → (∀ q, L[q]? = (putS l a.toNat S i.toNat)[rho j.toNat i.toNat (i.toNat + 1) q]?) → (∀ q y, j.toNat - a.toNat ≤ q → S[q]? = some y → x.frm < y.frm) → Mod (fun c => c = bl) h h3 → LeAt S j.toNat a.toNat x →
        a + 1 ≤ i + 1 ∧ (i + 1 ≤ b ∨ i + 1 = a + 1) ∧ ∃ S, OwnV h3 p bl (putS l a.toNat S (min (i + 1).toNat b.toNat)) ∧ Stb S (seg l a.toNat (min (i + 1).toNat b.toNat)) ∧ Srt S ∧ Mod (fun c => c = bl) h h3 := by
      intro j h3 L j0 j1 wL hL hgt m3 hle
      obtain ⟨S', e, hl', st', so'⟩ := ins_fin (show a.toNat ≤ j.toNat by omega) (show j.toNat ≤ i.toNat by omega) hSl st so hx hgt hle
      have hLe : L = putS l a.toNat S' (i.toNat + 1) := by rw [← e]; exact rotS_eq (by omega) (by omega) (by omega) hL
      rw [hLe] at wL
      refine ⟨by omega, by omega, S', ?_, ?_, so', m3⟩
      · rw [show min (i + 1).toNat b.toNat = i.toNat + 1 by omega]; exact wL
      · rw [show min (i + 1).toNat b.toNat = i.toNat + 1 by omega]; exact st'
    refine ⟨fun j => (fun h' => a ≤ j ∧ j ≤ i ∧ ∃ L, OwnV h' p bl L ∧ L.length = l.length ∧ (∀ q, L[q]? = (putS l a.toNat S i.toNat)[rho j.toNat i.toNat (i.toNat + 1) q]?) ∧ (∀ q y, j.toNat - a.toNat ≤ q → S[q]? = some y → x.frm < y.frm) ∧ Mod (fun c => c = bl) h h', fun _ => (j - a).toNat), ⟨by omega, by omega, _, wS, hbl, fun q => ?_, fun q y hq hy => ?_, m1⟩, ?_⟩
    · congr 1; unfold rho; repeat' split
      all_goals omega
    · have := (List.getElem?_eq_some_iff.1 hy).1; omega
    rintro j h2 ⟨j0, j1, L, wL, hLl, hq, hgt, m2⟩
    refine ⟨fun jgt => ?_, fun jle => ⟨i64ok (by omega) (by omega), fin j h2 L j0 j1 wL hq hgt m2 (.inl (by omega)), by show (b - (i + 1)).toNat < (b - i).toNat; omega⟩⟩
    obtain ⟨y, hy⟩ : ∃ y, S[j.toNat - 1 - a.toNat]? = some y := ⟨S[j.toNat - 1 - a.toNat]'(by omega), by simp⟩
    have hxj : L[j.toNat]? = some x := by
      rw [hq, show rho j.toNat i.toNat (i.toNat + 1) j.toNat = i.toNat by unfold rho; rw [if_neg (by omega), if_pos (by omega)]; omega, putS_get (by omega) (by omega) hSl, if_neg (by omega), if_neg (by omega)]; exact hx
    have hyj : L[(j - 1).toNat]? = some y := by
      rw [hq, show rho j.toNat i.toNat (i.toNat + 1) (j - 1).toNat = (j - 1).toNat by unfold rho; rw [if_pos (by omega)], putS_get (by omega) (by omega) hSl, if_neg (by omega), if_pos (by omega), show (j - 1).toNat - a.toNat = j.toNat - 1 - a.toNat by omega]; exact hy
    obtain ⟨p1, x0, x1, x2⟩ := wL.cell hxj
    obtain ⟨_, y0, y1, y2⟩ := wL.cell hyj
    have ngy := ngS y (List.mem_of_getElem? hy)
    refine ⟨by omega, by omega, onP_at p1 ⟨i64ok (by omega) (by omega), by omega, by omega, onP_at p1 ⟨_, x0, _, x1, _, x2, _, y0, _, y1, _, y2, by kernel_rfl, c35 ngx ngy fun h3 d hd e3 => ⟨d, rfl, fun dneg => ?_, fun dnn => ?_⟩⟩⟩⟩
    · have w3 : OwnV h3 p bl L := wL.ext e3
      have hlt := hd.1 dneg
      obtain ⟨_, x0', x1', x2'⟩ := w3.cell hxj
      obtain ⟨_, y0', y1', y2'⟩ := w3.cell hyj
      refine ⟨i64ok (by omega) (by omega), i64ok (by omega) (by omega), by omega, by omega, onP_at p1 ⟨by omega, by omega, onP_at p1 ⟨_, y0', _, y1', _, y2', _, x0', _, x1', _, x2', by omega, by omega, onP_at p1 (w3.whole hxj y fun h4 w4 m4 => ⟨by omega, by omega, onP_at p1 ?_⟩)⟩⟩⟩
      have hy4 : (L.set j.toNat y)[(j - 1).toNat]? = some y := by rw [List.getElem?_set_ne (by omega)]; exact hyj
      refine w4.whole hy4 x fun h5 w5 m5 => ⟨i64ok (by omega) (by omega), ⟨by omega, by omega, _, w5, by rw [List.length_set, List.length_set]; exact hLl, fun q => ?_, fun q z hq' hz' => ?_, ((m2.trans (e3.mod.wid (S' := fun c => c = bl) fun _ _ h => h.elim) fun _ _ h => h).trans m4 fun _ _ h => h).trans m5 fun _ _ h => h⟩, by show (j - 1 - a).toNat < (j - a).toNat; omega⟩
      · rw [swap_get hxj hyj, hq]
        congr 1
        unfold rho swp
        repeat' split
        all_goals omega
      · rcases Nat.lt_or_ge q (j.toNat - a.toNat) with h | h
        · have : q = j.toNat - 1 - a.toNat := by omega
          subst this; rw [hy] at hz'; cases hz'; exact hlt
        · exact hgt q z h hz'
    · have hnl : ¬ x.frm < y.frm := fun h => dnn (hd.2 h)
      exact ⟨i64ok (by omega) (by omega), fin j h3 L j0 j1 (wL.ext e3) hq hgt (m2.trans (e3.mod.wid (S' := fun c => c = bl) fun _ _ h => h.elim) fun _ _ h => h) (.inr ⟨y, hy, by omega⟩), by show (b - (i + 1)).toNat < (b - i).toNat; omega⟩
  · have hmin : min i.toNat b.toNat = b.toNat := by omega
    rw [hmin] at wS st
    exact k h1 S wS st so m1
end Go.Proofs.Try
