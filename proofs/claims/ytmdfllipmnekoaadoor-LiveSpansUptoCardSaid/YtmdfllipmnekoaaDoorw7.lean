/-
  A part of the proof of: The statement LiveIntervals (quernlaw17) holds of the given program: for every function of blocks and every line that can be read as data, and laid where the program's own text lays the table math/bits.deBruijn64tab, it returns true, and its input reads as it did.
-/
import Derived.Test.YtmdfllipmnekoaaDoorw6
import Derived.Test.YtmdfllipmnekoaaDoorProg
set_option maxHeartbeats 1000000

/- The functions 24 13 14 9 8 12 49 20 19 6 7 3 of the seat live: their text in the framework, and what each asks. -/
set_option maxRecDepth 100000
set_option linter.unusedVariables false
set_option linter.unusedSimpArgs false
open Go Go.Fw Go.Proofs
namespace Go.Proofs.Try
/- quern/quernlaw17.lent -/
def fl24 : FL := ⟨149, (.seq (.reg [se 1 (.box 37 (t 0)), sv 2 (.mov (.const (Go.Value.pointer none)))]) (.seq (.reg [sv 12 (.bld [.slice none 0 0, .int .i64 0] []), se 13 (.box 39 (t 12)), sv 3 (.mov (t 13))]) (.seq (.seq (.reg [sv 4 (.mov (ci 0))]) (.block 0 (.loop [(4, (.one (.int .i64)))] [4, 5, 6, 7, 8, 9, 10, 11, 14, 15, 16, 17, 18, 19, 20, 21, 22, 23, 24, 25, 26, 27, 28, 29, 30, 31, 32, 33, 34, 35, 36, 37, 38, 39, 40, 41, 42, 43, 44, 45, 46, 47, 48, 49, 50, 51, 52, 53, 54, 55, 56, 57, 58, 59, 60, 61, 62, 63, 64, 65, 66, 67, 68, 69, 70, 71, 72, 73, 74, 75, 76, 77, 78, 79, 80, 81, 82, 83, 84, 85, 86, 87, 88, 89, 90, 91, 92, 93, 94, 95, 96, 97, 98, 99, 100, 101, 102, 103, 104, 105, 106, 107, 108, 109, 110, 111, 112, 113, 114, 115, 116, 117, 118, 119, 120, 121, 122, 123, 124, 125] (.seq (.seq (.reg [sv 14 (.mov (t 4)), sv 15 (.fad 0 (t 1)), sv 16 (.ld .slice (t 15)), sv 17 (.len (t 16)), sv 18 (.cmp .lss (t 14) (t 17))]) (.cond (t 18) .skip (.exit 0))) (.seq (.block 1 (.seq (.reg [sv 21 (.fad 0 (t 1)), sv 22 (.ld .slice (t 21)), sv 23 (.mov (t 4)), sv 24 (.idx 5 (t 22) (t 23)), sv 25 (.lda [.str, .slice, (.int .i64), (.int .i64), .slice] (t 24)), se 5 (.alc 25 [.string ⟨⟨[]⟩⟩, .slice none 0 0, .int .i64 0, .int .i64 0, .slice none 0 0]), ne (.sto 5 (t 5) (t 25))]) (.cut [(6, (.one .ptr))] [6, 26, 27, 28, 29, 30, 31, 32, 33, 34, 35] (.drw .gen [11] [6, 26, 27, 28, 29, 30, 31, 32, 33, 34, 35] (.takeP 0 (sv 26 (.fad 0 (t 5))) (.takeP 2 (sv 28 (.fad 1 (t 5))) (.takeP 5 (sv 31 (.fad 2 (t 5))) (.takeP 7 (sv 33 (.fad 3 (t 5))) (.takeR 1 (sv 27 (.ld .str (t 26))) (.takeR 3 (sv 29 (.ld .slice (t 28))) (.takeR 6 (sv 32 (.ld (.int .i64) (t 31))) (.takeR 8 (sv 34 (.ld (.int .i64) (t 33))) (.altS 4 (se 30 (.call 9 [(t 29)] (.one .slice))) (.takeP 9 (sv 35 (.bld [.string ⟨⟨[]⟩⟩, .slice none 0 0, .int .i64 0, .int .i64 0, .slice none 0 0] [(0, 1, (t 27)), (1, 1, (t 30)), (2, 1, (t 32)), (3, 1, (t 34))])) (.altS 10 (se 6 (.alc 25 [.string ⟨⟨[]⟩⟩, .slice none 0 0, .int .i64 0, .int .i64 0, .slice none 0 0])) (.alt 11 (ne (.sto 5 (t 6) (t 35))) .done .stop) .stop)) (.altS 10 (se 6 (.alc 25 [.string ⟨⟨[]⟩⟩, .slice none 0 0, .int .i64 0, .int .i64 0, .slice none 0 0])) (.altS 4 (se 30 (.call 9 [(t 29)] (.one .slice))) (.takeP 9 (sv 35 (.bld [.string ⟨⟨[]⟩⟩, .slice none 0 0, .int .i64 0, .int .i64 0, .slice none 0 0] [(0, 1, (t 27)), (1, 1, (t 30)), (2, 1, (t 32)), (3, 1, (t 34))])) (.alt 11 (ne (.sto 5 (t 6) (t 35))) .done .stop)) .stop) .stop))))))))))) (.seq (.seq (.reg [sv 7 (.mov (ci 0))]) (.block 2 (.loop [(7, (.one (.int .i64)))] [7, 8, 9, 10, 11, 36, 37, 38, 39, 40, 41, 42, 43, 44, 45, 46, 47, 48, 49, 50, 51, 52, 53, 54, 55, 56, 57, 58, 59, 60, 61, 62, 63, 64, 65, 66, 67, 68, 69, 70, 71, 72, 73, 74, 75, 76, 77, 78, 79, 80, 81, 82, 83, 84, 85, 86, 87, 88, 89, 90, 91, 92, 93, 94, 95, 96, 97, 98, 99, 100, 101, 102] (.seq (.seq (.reg [sv 36 (.mov (t 7)), sv 37 (.fad 4 (t 5)), sv 38 (.ld .slice (t 37)), sv 39 (.len (t 38)), sv 40 (.cmp .lss (t 36) (t 39))]) (.cond (t 40) .skip (.exit 2))) (.seq (.block 3 (.seq (.reg [sv 43 (.fad 4 (t 5)), sv 44 (.ld .slice (t 43)), sv 45 (.mov (t 7)), sv 46 (.idx 4 (t 44) (t 45)), sv 47 (.lda [.slice, (.int .i64), (.int .i64), .slice] (t 46)), se 8 (.alc 50 [.slice none 0 0, .int .i64 0, .int .i64 0, .slice none 0 0]), ne (.sto 4 (t 8) (t 47))]) (.cut [(9, (.one .ptr))] [9, 48, 49, 50, 51, 52, 53, 54, 55, 56, 57, 58, 59] (.drw .gen [13] [9, 48, 49, 50, 51, 52, 53, 54, 55, 56, 57, 58, 59] (.takeP 0 (sv 48 (.fad 1 (t 8))) (.takeP 1 (sv 49 (.fad 0 (t 48))) (.takeP 3 (sv 51 (.fad 1 (t 8))) (.takeP 4 (sv 52 (.fad 1 (t 51))) (.takeP 6 (sv 54 (.fad 1 (t 8))) (.takeP 7 (sv 55 (.fad 2 (t 54))) (.takeR 2 (sv 50 (.ld (.int .i64) (t 49))) (.takeR 5 (sv 53 (.ld (.int .i64) (t 52))) (.takeR 8 (sv 56 (.ld .slice (t 55))) (.altS 9 (se 57 (.call 9 [(t 56)] (.one .slice))) (.takeP 10 (sv 58 (.bld [.int .i64 0, .int .i64 0, .slice none 0 0] [(0, 1, (t 50)), (1, 1, (t 53)), (2, 1, (t 57))])) (.takeP 11 (sv 59 (.bld [.slice none 0 0, .int .i64 0, .int .i64 0, .slice none 0 0] [(1, 3, (t 58))])) (.altS 12 (se 9 (.alc 50 [.slice none 0 0, .int .i64 0, .int .i64 0, .slice none 0 0])) (.alt 13 (ne (.sto 4 (t 9) (t 59))) .done .stop) .stop))) (.altS 12 (se 9 (.alc 50 [.slice none 0 0, .int .i64 0, .int .i64 0, .slice none 0 0])) (.altS 9 (se 57 (.call 9 [(t 56)] (.one .slice))) (.takeP 10 (sv 58 (.bld [.int .i64 0, .int .i64 0, .slice none 0 0] [(0, 1, (t 50)), (1, 1, (t 53)), (2, 1, (t 57))])) (.takeP 11 (sv 59 (.bld [.slice none 0 0, .int .i64 0, .int .i64 0, .slice none 0 0] [(1, 3, (t 58))])) (.alt 13 (ne (.sto 4 (t 9) (t 59))) .done .stop))) .stop) .stop)))))))))))) (.seq (.seq (.reg [sv 10 (.mov (ci 0))]) (.block 4 (.loop [(10, (.one (.int .i64)))] [10, 11, 60, 61, 62, 63, 64, 65, 66, 67, 68, 69, 70, 71, 72, 73, 74, 75, 76, 77, 78, 79, 80, 81, 82, 83, 84, 85, 86] (.seq (.seq (.reg [sv 60 (.mov (t 10)), sv 61 (.fad 0 (t 8)), sv 62 (.ld .slice (t 61)), sv 63 (.len (t 62)), sv 64 (.cmp .lss (t 60) (t 63))]) (.cond (t 64) .skip (.exit 4))) (.seq (.block 5 (.seq (.reg [sv 67 (.fad 0 (t 8)), sv 68 (.ld .slice (t 67)), sv 69 (.mov (t 10)), sv 70 (.idx 4 (t 68) (t 69)), sv 71 (.lda [(.int .i64), (.int .i64), (.int .i64), .slice] (t 70)), se 11 (.alc 71 [.int .i64 0, .int .i64 0, .int .i64 0, .slice none 0 0]), ne (.sto 4 (t 11) (t 71))]) (.drw .gen [13, 15] [72, 73, 74, 75, 76, 77, 78, 79, 80, 81, 82, 83, 84, 85, 86] (.takeP 0 (sv 72 (.fad 0 (t 9))) (.takeP 2 (sv 74 (.fad 0 (t 11))) (.takeP 4 (sv 76 (.fad 1 (t 11))) (.takeP 6 (sv 78 (.fad 2 (t 11))) (.takeP 8 (sv 80 (.fad 3 (t 11))) (.takeR 1 (sv 73 (.ld .slice (t 72))) (.takeR 3 (sv 75 (.ld (.int .i64) (t 74))) (.takeR 5 (sv 77 (.ld (.int .i64) (t 76))) (.takeR 7 (sv 79 (.ld (.int .i64) (t 78))) (.alt 9 (sv 81 (.ld .slice (t 80))) (.altS 10 (se 82 (.call 9 [(t 81)] (.one .slice))) (.takeP 11 (sv 83 (.bld [.int .i64 0, .int .i64 0, .int .i64 0, .slice none 0 0] [(0, 1, (t 75)), (1, 1, (t 77)), (2, 1, (t 79)), (3, 1, (t 82))])) (.altS 12 (se 84 (.bsl 71 4 [.int .i64 0, .int .i64 0, .int .i64 0, .slice none 0 0] 1 [(0, 4, (t 83))])) (.alt 13 (se 85 (.app 71 4 48 [.int .i64 0, .int .i64 0, .int .i64 0, .slice none 0 0] (t 73) (t 84))) (.takeP 14 (sv 86 (.fad 0 (t 9))) (.alt 15 (ne (.sto 1 (t 86) (t 85))) .done .stop)) .stop) .stop)) .stop) .stop))))))))))))) (.reg [sv 65 (.mov (t 10)), sv 66 (.ar .add true (t 65) (ci 1)), sv 10 (.mov (t 66))])))))) (.seq (.drw .gen [10] [87, 88, 89, 90, 91, 92, 93, 94, 95, 96] (.takeP 0 (sv 87 (.fad 0 (t 9))) (.takeP 2 (sv 89 (.bld [.int .i64 0, .int .i64 0, .int .i64 0, .slice none 0 0] [(0, 1, (ci (-71)))])) (.takeP 5 (sv 92 (.fad 0 (t 8))) (.takeR 1 (sv 88 (.ld .slice (t 87))) (.takeR 6 (sv 93 (.ld .slice (t 92))) (.takeP 7 (sv 94 (.len (t 93))) (.altS 3 (se 90 (.bsl 71 4 [.int .i64 0, .int .i64 0, .int .i64 0, .slice none 0 0] 1 [(0, 4, (t 89))])) (.altS 4 (se 91 (.app 71 4 48 [.int .i64 0, .int .i64 0, .int .i64 0, .slice none 0 0] (t 88) (t 90))) (.takeP 8 (sv 95 (.slc 4 (t 91) none (some (t 94)))) (.takeP 9 (sv 96 (.fad 0 (t 9))) (.alt 10 (ne (.sto 1 (t 96) (t 95))) .done .stop))) .stop) .stop)))))))) (.reg [sv 97 (.fad 4 (t 6)), sv 98 (.ld .slice (t 97)), sv 99 (.lda [.slice, (.int .i64), (.int .i64), .slice] (t 9)), se 100 (.bsl 50 4 [.slice none 0 0, .int .i64 0, .int .i64 0, .slice none 0 0] 1 [(0, 4, (t 99))]), se 101 (.app 50 4 64 [.slice none 0 0, .int .i64 0, .int .i64 0, .slice none 0 0] (t 98) (t 100)), sv 102 (.fad 4 (t 6)), ne (.sto 1 (t 102) (t 101))])))))) (.reg [sv 41 (.mov (t 7)), sv 42 (.ar .add true (t 41) (ci 1)), sv 7 (.mov (t 42))])))))) (.seq (.drw .gen [11] [103, 104, 105, 106, 107, 108, 109, 110, 111, 112, 113] (.takeP 0 (sv 103 (.fad 4 (t 6))) (.takeP 2 (sv 105 (.bld [.int .i64 0, .int .i64 0, .slice none 0 0] [(0, 1, (ci (-71)))])) (.takeP 3 (sv 106 (.bld [.slice none 0 0, .int .i64 0, .int .i64 0, .slice none 0 0] [(1, 3, (t 105))])) (.takeP 6 (sv 109 (.fad 4 (t 5))) (.takeR 1 (sv 104 (.ld .slice (t 103))) (.takeR 7 (sv 110 (.ld .slice (t 109))) (.takeP 8 (sv 111 (.len (t 110))) (.altS 4 (se 107 (.bsl 50 4 [.slice none 0 0, .int .i64 0, .int .i64 0, .slice none 0 0] 1 [(0, 4, (t 106))])) (.altS 5 (se 108 (.app 50 4 64 [.slice none 0 0, .int .i64 0, .int .i64 0, .slice none 0 0] (t 104) (t 107))) (.takeP 9 (sv 112 (.slc 4 (t 108) none (some (t 111)))) (.takeP 10 (sv 113 (.fad 4 (t 6))) (.alt 11 (ne (.sto 1 (t 113) (t 112))) .done .stop))) .stop) .stop))))))))) (.drw .ext [8, 12] [114, 115, 116, 117, 118, 119, 120, 121, 122, 123, 124, 125] (.takeP 0 (sv 114 (.mov (t 3))) (.takeP 1 (sv 115 (.mov (t 3))) (.takeP 2 (sv 116 (.nck (t 115))) (.takeP 3 (sv 117 (.fad 0 (t 116))) (.takeP 4 (sv 118 (.fad 0 (t 117))) (.takeR 5 (sv 119 (.ld .slice (t 118))) (.alt 6 (sv 120 (.lda [.str, .slice, (.int .i64), (.int .i64), .slice] (t 6))) (.alt 7 (se 121 (.bsl 25 5 [.string ⟨⟨[]⟩⟩, .slice none 0 0, .int .i64 0, .int .i64 0, .slice none 0 0] 1 [(0, 5, (t 120))])) (.alt 8 (se 122 (.app 25 5 80 [.string ⟨⟨[]⟩⟩, .slice none 0 0, .int .i64 0, .int .i64 0, .slice none 0 0] (t 119) (t 121))) (.takeP 9 (sv 123 (.nck (t 114))) (.takeP 10 (sv 124 (.fad 0 (t 123))) (.takeP 11 (sv 125 (.fad 0 (t 124))) (.alt 12 (ne (.sto 1 (t 125) (t 122))) .done .stop)))) .stop) .stop) .stop))))))))))))) (.reg [sv 19 (.mov (t 4)), sv 20 (.ar .add true (t 19) (ci 1)), sv 4 (.mov (t 20))])))))) (.seq (.drw .gen [16] [126, 127, 128, 129, 130, 131, 132, 133, 134, 135, 136, 137, 138, 139, 140, 141] (.takeP 0 (sv 126 (.mov (t 3))) (.takeP 1 (sv 127 (.mov (t 3))) (.takeP 2 (sv 128 (.nck (t 127))) (.takeP 3 (sv 129 (.fad 0 (t 128))) (.takeP 4 (sv 130 (.fad 0 (t 129))) (.takeP 6 (sv 132 (.bld [.string ⟨⟨[]⟩⟩, .slice none 0 0, .int .i64 0, .int .i64 0, .slice none 0 0] [(0, 1, (.const (Go.Value.string ⟨#[109, 97, 114, 107]⟩)))])) (.takeP 9 (sv 135 (.fad 0 (t 1))) (.takeR 5 (sv 131 (.ld .slice (t 130))) (.takeR 10 (sv 136 (.ld .slice (t 135))) (.takeP 11 (sv 137 (.len (t 136))) (.altS 7 (se 133 (.bsl 25 5 [.string ⟨⟨[]⟩⟩, .slice none 0 0, .int .i64 0, .int .i64 0, .slice none 0 0] 1 [(0, 5, (t 132))])) (.altS 8 (se 134 (.app 25 5 80 [.string ⟨⟨[]⟩⟩, .slice none 0 0, .int .i64 0, .int .i64 0, .slice none 0 0] (t 131) (t 133))) (.takeP 12 (sv 138 (.slc 5 (t 134) none (some (t 137)))) (.takeP 13 (sv 139 (.nck (t 126))) (.takeP 14 (sv 140 (.fad 0 (t 139))) (.takeP 15 (sv 141 (.fad 0 (t 140))) (.alt 16 (ne (.sto 1 (t 141) (t 138))) .done .stop))))) .stop) .stop)))))))))))) (.seq (.reg [sv 142 (.mov (t 3)), sv 143 (.fad 1 (t 1)), sv 144 (.ld (.int .i64) (t 143)), sv 145 (.nck (t 142)), sv 146 (.fad 0 (t 145)), sv 147 (.fad 1 (t 146)), ne (.sto 1 (t 147) (t 144))]) (.seq (.reg [sv 148 (.mov (t 3)), sv 2 (.mov (t 148))]) .ret)))))), [.tmp 2]⟩
theorem ck24 : chkFL Tryd.prog 24 fl24 = true := by kernel_rfl
def sh24 (al_0 : Option Addr) (nl_0 cl_0 : Nat) (l_0 : Int) (h : H) (R : Value → H → Prop) : Prop :=
 ∀ (bl_1 : Nat) (h1 : H), New h (.cells ⟨[(.slice al_0 nl_0 cl_0), (.int .i64 l_0)]⟩ 37) bl_1 h1 →
 ∀ (bv_13 : Nat) (h2 : H), New h1 (.cells ⟨[(.slice none 0 0), (.int .i64 0)]⟩ 39) bv_13 h2 →
 ∃ J : Int → LI, (J 0).1 h2 ∧
 ∀ (i_4 : Int), ∀ h3 : H, (J i_4).1 h3 →
 ∃ (av_16 : Option Addr) (nv_16 cv_16 : Nat), cell h3 ⟨bl_1, (0 + 0), none⟩ = some (.slice av_16 nv_16 cv_16) ∧
 (((i_4 < (↑nv_16 : Int)) →
 ∃ (av_22 : Option Addr) (nv_22 cv_22 : Nat), cell h3 ⟨bl_1, (0 + 0), none⟩ = some (.slice av_22 nv_22 cv_22) ∧
 0 ≤ i_4 ∧ i_4 < (↑nv_22 : Int) ∧
 (onP av_22 fun bv_24 ov_24 =>
 ∃ (v_25 : ByteArray), cell h3 ⟨bv_24, ((ov_24 + (i_4).toNat * 5) + 0), none⟩ = some (.string v_25) ∧
 ∃ (av_25 : Option Addr) (nv_25 cv_25 : Nat), cell h3 ⟨bv_24, ((ov_24 + (i_4).toNat * 5) + 1), none⟩ = some (.slice av_25 nv_25 cv_25) ∧
 ∃ (v_25_1 : Int), cell h3 ⟨bv_24, ((ov_24 + (i_4).toNat * 5) + 2), none⟩ = some (.int .i64 v_25_1) ∧
 ∃ (v_25_2 : Int), cell h3 ⟨bv_24, ((ov_24 + (i_4).toNat * 5) + 3), none⟩ = some (.int .i64 v_25_2) ∧
 ∃ (av_25_1 : Option Addr) (nv_25_1 cv_25_1 : Nat), cell h3 ⟨bv_24, ((ov_24 + (i_4).toNat * 5) + 4), none⟩ = some (.slice av_25_1 nv_25_1 cv_25_1) ∧
 ∀ (bf_5 : Nat) (h4 : H), New h3 (.cells ⟨[(.string ⟨⟨[]⟩⟩), (.slice none 0 0), (.int .i64 0), (.int .i64 0), (.slice none 0 0)]⟩ 25) bf_5 h4 →
 stQ 5 h4 bf_5 0 [(.string v_25), (.slice av_25 nv_25 cv_25), (.int .i64 v_25_1), (.int .i64 v_25_2), (.slice av_25_1 nv_25_1 cv_25_1)] fun h5 =>
 ∃ J_1 : Option Addr → H → Prop, (∃ S : H → Prop, S h5 ∧
 ∃ (v_27 : ByteArray), cell h5 ⟨bf_5, (0 + 0), none⟩ = some (.string v_27) ∧
 (∀ h7, S h7 →
 ∃ (v_27_1 : ByteArray), cell h7 ⟨bf_5, (0 + 0), none⟩ = some (.string v_27_1) ∧
 Slot.v (.string v_27_1) = Slot.v (.string v_27) ∧ (Slot.v (.string v_27)).val ≠ none) ∧
 ∃ (av_29 : Option Addr) (nv_29 cv_29 : Nat), cell h5 ⟨bf_5, (0 + 1), none⟩ = some (.slice av_29 nv_29 cv_29) ∧
 (∀ h8, S h8 →
 ∃ (av_29_1 : Option Addr) (nv_29_1 cv_29_1 : Nat), cell h8 ⟨bf_5, (0 + 1), none⟩ = some (.slice av_29_1 nv_29_1 cv_29_1) ∧
 Slot.v (.slice av_29_1 nv_29_1 cv_29_1) = Slot.v (.slice av_29 nv_29 cv_29) ∧ (Slot.v (.slice av_29 nv_29 cv_29)).val ≠ none) ∧
 ∃ (v_32 : Int), cell h5 ⟨bf_5, (0 + 2), none⟩ = some (.int .i64 v_32) ∧
 (∀ h9, S h9 →
 ∃ (v_32_1 : Int), cell h9 ⟨bf_5, (0 + 2), none⟩ = some (.int .i64 v_32_1) ∧
 Slot.v (.int .i64 v_32_1) = Slot.v (.int .i64 v_32) ∧ (Slot.v (.int .i64 v_32)).val ≠ none) ∧
 ∃ (v_34 : Int), cell h5 ⟨bf_5, (0 + 3), none⟩ = some (.int .i64 v_34) ∧
 (∀ h10, S h10 →
 ∃ (v_34_1 : Int), cell h10 ⟨bf_5, (0 + 3), none⟩ = some (.int .i64 v_34_1) ∧
 Slot.v (.int .i64 v_34_1) = Slot.v (.int .i64 v_34) ∧ (Slot.v (.int .i64 v_34)).val ≠ none) ∧
 ((HC Tryd.prog 9 [(.slice av_29 nv_29 cv_29)] h5 fun rv_30 h11 =>
 ∃ (av_30 : Option Addr) (nv_30 cv_30 : Nat), rv_30 = (.slice av_30 nv_30 cv_30) ∧
 S h11 ∧
 1 = 1 ∧ 0 + 1 ≤ 5 ∧
 1 = 1 ∧ 1 + 1 ≤ 5 ∧
 1 = 1 ∧ 2 + 1 ≤ 5 ∧
 1 = 1 ∧ 3 + 1 ≤ 5 ∧
 ∀ (bg_6 : Nat) (h12 : H), New h11 (.cells ⟨[(.string ⟨⟨[]⟩⟩), (.slice none 0 0), (.int .i64 0), (.int .i64 0), (.slice none 0 0)]⟩ 25) bg_6 h12 →
 S h12 ∧
 stQ 5 h12 bg_6 0 [(.string v_27), (.slice av_30 nv_30 cv_30), (.int .i64 v_32), (.int .i64 v_34), (.slice none 0 0)] fun h13 =>
 J_1 (some ⟨bg_6, 0, none⟩) h13) ∧
 ∀ (bg_6_1 : Nat) (h14 : H), New h5 (.cells ⟨[(.string ⟨⟨[]⟩⟩), (.slice none 0 0), (.int .i64 0), (.int .i64 0), (.slice none 0 0)]⟩ 25) bg_6_1 h14 →
 S h14 ∧
 HC Tryd.prog 9 [(.slice av_29 nv_29 cv_29)] h14 fun rv_30_1 h15 =>
 ∃ (av_30_1 : Option Addr) (nv_30_1 cv_30_1 : Nat), rv_30_1 = (.slice av_30_1 nv_30_1 cv_30_1) ∧
 S h15 ∧
 1 = 1 ∧ 0 + 1 ≤ 5 ∧
 1 = 1 ∧ 1 + 1 ≤ 5 ∧
 1 = 1 ∧ 2 + 1 ≤ 5 ∧
 1 = 1 ∧ 3 + 1 ≤ 5 ∧
 stQ 5 h15 bg_6_1 0 [(.string v_27), (.slice av_30_1 nv_30_1 cv_30_1), (.int .i64 v_32), (.int .i64 v_34), (.slice none 0 0)] fun h16 =>
 J_1 (some ⟨bg_6_1, 0, none⟩) h16)) ∧
 ∀ (pg_6 : Option Addr), ∀ h6 : H, J_1 pg_6 h6 →
 ∃ J_2 : Int → LI, (J_2 0).1 h6 ∧
 ∀ (k_7 : Int), ∀ h17 : H, (J_2 k_7).1 h17 →
 ∃ (av_38 : Option Addr) (nv_38 cv_38 : Nat), cell h17 ⟨bf_5, (0 + 4), none⟩ = some (.slice av_38 nv_38 cv_38) ∧
 (((k_7 < (↑nv_38 : Int)) →
 ∃ (av_44 : Option Addr) (nv_44 cv_44 : Nat), cell h17 ⟨bf_5, (0 + 4), none⟩ = some (.slice av_44 nv_44 cv_44) ∧
 0 ≤ k_7 ∧ k_7 < (↑nv_44 : Int) ∧
 (onP av_44 fun bv_46 ov_46 =>
 ∃ (av_47 : Option Addr) (nv_47 cv_47 : Nat), cell h17 ⟨bv_46, ((ov_46 + (k_7).toNat * 4) + 0), none⟩ = some (.slice av_47 nv_47 cv_47) ∧
 ∃ (v_47 : Int), cell h17 ⟨bv_46, ((ov_46 + (k_7).toNat * 4) + 1), none⟩ = some (.int .i64 v_47) ∧
 ∃ (v_47_1 : Int), cell h17 ⟨bv_46, ((ov_46 + (k_7).toNat * 4) + 2), none⟩ = some (.int .i64 v_47_1) ∧
 ∃ (av_47_1 : Option Addr) (nv_47_1 cv_47_1 : Nat), cell h17 ⟨bv_46, ((ov_46 + (k_7).toNat * 4) + 3), none⟩ = some (.slice av_47_1 nv_47_1 cv_47_1) ∧
 ∀ (bb_8 : Nat) (h18 : H), New h17 (.cells ⟨[(.slice none 0 0), (.int .i64 0), (.int .i64 0), (.slice none 0 0)]⟩ 50) bb_8 h18 →
 stQ 4 h18 bb_8 0 [(.slice av_47 nv_47 cv_47), (.int .i64 v_47), (.int .i64 v_47_1), (.slice av_47_1 nv_47_1 cv_47_1)] fun h19 =>
 ∃ J_3 : Option Addr → H → Prop, (∃ S_1 : H → Prop, S_1 h19 ∧
 ∃ (v_50 : Int), cell h19 ⟨bb_8, ((0 + 1) + 0), none⟩ = some (.int .i64 v_50) ∧
 (∀ h21, S_1 h21 →
 ∃ (v_50_1 : Int), cell h21 ⟨bb_8, ((0 + 1) + 0), none⟩ = some (.int .i64 v_50_1) ∧
 Slot.v (.int .i64 v_50_1) = Slot.v (.int .i64 v_50) ∧ (Slot.v (.int .i64 v_50)).val ≠ none) ∧
 ∃ (v_53 : Int), cell h19 ⟨bb_8, ((0 + 1) + 1), none⟩ = some (.int .i64 v_53) ∧
 (∀ h22, S_1 h22 →
 ∃ (v_53_1 : Int), cell h22 ⟨bb_8, ((0 + 1) + 1), none⟩ = some (.int .i64 v_53_1) ∧
 Slot.v (.int .i64 v_53_1) = Slot.v (.int .i64 v_53) ∧ (Slot.v (.int .i64 v_53)).val ≠ none) ∧
 ∃ (av_56 : Option Addr) (nv_56 cv_56 : Nat), cell h19 ⟨bb_8, ((0 + 1) + 2), none⟩ = some (.slice av_56 nv_56 cv_56) ∧
 (∀ h23, S_1 h23 →
 ∃ (av_56_1 : Option Addr) (nv_56_1 cv_56_1 : Nat), cell h23 ⟨bb_8, ((0 + 1) + 2), none⟩ = some (.slice av_56_1 nv_56_1 cv_56_1) ∧
 Slot.v (.slice av_56_1 nv_56_1 cv_56_1) = Slot.v (.slice av_56 nv_56 cv_56) ∧ (Slot.v (.slice av_56 nv_56 cv_56)).val ≠ none) ∧
 ((HC Tryd.prog 9 [(.slice av_56 nv_56 cv_56)] h19 fun rv_57 h24 =>
 ∃ (av_57 : Option Addr) (nv_57 cv_57 : Nat), rv_57 = (.slice av_57 nv_57 cv_57) ∧
 S_1 h24 ∧
 1 = 1 ∧ 0 + 1 ≤ 3 ∧
 1 = 1 ∧ 1 + 1 ≤ 3 ∧
 1 = 1 ∧ 2 + 1 ≤ 3 ∧
 3 = 3 ∧ 1 + 3 ≤ 4 ∧
 ∀ (bc_9 : Nat) (h25 : H), New h24 (.cells ⟨[(.slice none 0 0), (.int .i64 0), (.int .i64 0), (.slice none 0 0)]⟩ 50) bc_9 h25 →
 S_1 h25 ∧
 stQ 4 h25 bc_9 0 [(.slice none 0 0), (.int .i64 v_50), (.int .i64 v_53), (.slice av_57 nv_57 cv_57)] fun h26 =>
 J_3 (some ⟨bc_9, 0, none⟩) h26) ∧
 ∀ (bc_9_1 : Nat) (h27 : H), New h19 (.cells ⟨[(.slice none 0 0), (.int .i64 0), (.int .i64 0), (.slice none 0 0)]⟩ 50) bc_9_1 h27 →
 S_1 h27 ∧
 HC Tryd.prog 9 [(.slice av_56 nv_56 cv_56)] h27 fun rv_57_1 h28 =>
 ∃ (av_57_1 : Option Addr) (nv_57_1 cv_57_1 : Nat), rv_57_1 = (.slice av_57_1 nv_57_1 cv_57_1) ∧
 S_1 h28 ∧
 1 = 1 ∧ 0 + 1 ≤ 3 ∧
 1 = 1 ∧ 1 + 1 ≤ 3 ∧
 1 = 1 ∧ 2 + 1 ≤ 3 ∧
 3 = 3 ∧ 1 + 3 ≤ 4 ∧
 stQ 4 h28 bc_9_1 0 [(.slice none 0 0), (.int .i64 v_50), (.int .i64 v_53), (.slice av_57_1 nv_57_1 cv_57_1)] fun h29 =>
 J_3 (some ⟨bc_9_1, 0, none⟩) h29)) ∧
 ∀ (pc_9 : Option Addr), ∀ h20 : H, J_3 pc_9 h20 →
 ∃ J_4 : Int → LI, (J_4 0).1 h20 ∧
 ∀ (j_10 : Int), ∀ h30 : H, (J_4 j_10).1 h30 →
 ∃ (av_62 : Option Addr) (nv_62 cv_62 : Nat), cell h30 ⟨bb_8, (0 + 0), none⟩ = some (.slice av_62 nv_62 cv_62) ∧
 (((j_10 < (↑nv_62 : Int)) →
 ∃ (av_68 : Option Addr) (nv_68 cv_68 : Nat), cell h30 ⟨bb_8, (0 + 0), none⟩ = some (.slice av_68 nv_68 cv_68) ∧
 0 ≤ j_10 ∧ j_10 < (↑nv_68 : Int) ∧
 (onP av_68 fun bv_70 ov_70 =>
 ∃ (v_71 : Int), cell h30 ⟨bv_70, ((ov_70 + (j_10).toNat * 4) + 0), none⟩ = some (.int .i64 v_71) ∧
 ∃ (v_71_1 : Int), cell h30 ⟨bv_70, ((ov_70 + (j_10).toNat * 4) + 1), none⟩ = some (.int .i64 v_71_1) ∧
 ∃ (v_71_2 : Int), cell h30 ⟨bv_70, ((ov_70 + (j_10).toNat * 4) + 2), none⟩ = some (.int .i64 v_71_2) ∧
 ∃ (av_71 : Option Addr) (nv_71 cv_71 : Nat), cell h30 ⟨bv_70, ((ov_70 + (j_10).toNat * 4) + 3), none⟩ = some (.slice av_71 nv_71 cv_71) ∧
 ∀ (by_11 : Nat) (h31 : H), New h30 (.cells ⟨[(.int .i64 0), (.int .i64 0), (.int .i64 0), (.slice none 0 0)]⟩ 71) by_11 h31 →
 stQ 4 h31 by_11 0 [(.int .i64 v_71), (.int .i64 v_71_1), (.int .i64 v_71_2), (.slice av_71 nv_71 cv_71)] fun h32 =>
 ∃ S_2 : H → Prop, S_2 h32 ∧
 (onP pc_9 fun bv_72 ov_72 =>
 ∃ (av_73 : Option Addr) (nv_73 cv_73 : Nat), cell h32 ⟨bv_72, (ov_72 + 0), none⟩ = some (.slice av_73 nv_73 cv_73) ∧
 (∀ h33, S_2 h33 →
 ∃ (av_73_1 : Option Addr) (nv_73_1 cv_73_1 : Nat), cell h33 ⟨bv_72, (ov_72 + 0), none⟩ = some (.slice av_73_1 nv_73_1 cv_73_1) ∧
 Slot.v (.slice av_73_1 nv_73_1 cv_73_1) = Slot.v (.slice av_73 nv_73 cv_73) ∧ (Slot.v (.slice av_73 nv_73 cv_73)).val ≠ none) ∧
 ∃ (v_75 : Int), cell h32 ⟨by_11, (0 + 0), none⟩ = some (.int .i64 v_75) ∧
 (∀ h34, S_2 h34 →
 ∃ (v_75_1 : Int), cell h34 ⟨by_11, (0 + 0), none⟩ = some (.int .i64 v_75_1) ∧
 Slot.v (.int .i64 v_75_1) = Slot.v (.int .i64 v_75) ∧ (Slot.v (.int .i64 v_75)).val ≠ none) ∧
 ∃ (v_77 : Int), cell h32 ⟨by_11, (0 + 1), none⟩ = some (.int .i64 v_77) ∧
 (∀ h35, S_2 h35 →
 ∃ (v_77_1 : Int), cell h35 ⟨by_11, (0 + 1), none⟩ = some (.int .i64 v_77_1) ∧
 Slot.v (.int .i64 v_77_1) = Slot.v (.int .i64 v_77) ∧ (Slot.v (.int .i64 v_77)).val ≠ none) ∧
 ∃ (v_79 : Int), cell h32 ⟨by_11, (0 + 2), none⟩ = some (.int .i64 v_79) ∧
 (∀ h36, S_2 h36 →
 ∃ (v_79_1 : Int), cell h36 ⟨by_11, (0 + 2), none⟩ = some (.int .i64 v_79_1) ∧
 Slot.v (.int .i64 v_79_1) = Slot.v (.int .i64 v_79) ∧ (Slot.v (.int .i64 v_79)).val ≠ none) ∧
 ∃ (av_81 : Option Addr) (nv_81 cv_81 : Nat), cell h32 ⟨by_11, (0 + 3), none⟩ = some (.slice av_81 nv_81 cv_81) ∧
 HC Tryd.prog 9 [(.slice av_81 nv_81 cv_81)] h32 fun rv_82 h37 =>
 ∃ (av_82 : Option Addr) (nv_82 cv_82 : Nat), rv_82 = (.slice av_82 nv_82 cv_82) ∧
 S_2 h37 ∧
 1 = 1 ∧ 0 + 1 ≤ 4 ∧
 1 = 1 ∧ 1 + 1 ≤ 4 ∧
 1 = 1 ∧ 2 + 1 ≤ 4 ∧
 1 = 1 ∧ 3 + 1 ≤ 4 ∧
 4 = 4 ∧ 0 + 4 ≤ 4 ∧
 ∀ (bv_84 : Nat) (h38 : H), New h37 (.cells ⟨[(.int .i64 v_75), (.int .i64 v_77), (.int .i64 v_79), (.slice av_82 nv_82 cv_82)]⟩ 71) bv_84 h38 →
 S_2 h38 ∧
 apQ 71 4 48 [.int .i64 0, .int .i64 0, .int .i64 0, .slice none 0 0] h38 av_73 nv_73 cv_73 (some ⟨bv_84, 0, none⟩) 1 fun av_85 nv_85 cv_85 h39 =>
 (onP pc_9 fun bv_86 ov_86 =>
 stQ 1 h39 bv_86 (ov_86 + 0) [(.slice av_85 nv_85 cv_85)] fun h40 =>
 InR .i64 (j_10 + 1) ∧
 (J_4 (j_10 + 1)).1 h40 ∧ (J_4 (j_10 + 1)).2 h40 < (J_4 j_10).2 h30)))) ∧
 (¬ (j_10 < (↑nv_62 : Int)) →
 ∃ S_3 : H → Prop, S_3 h30 ∧
 (onP pc_9 fun bv_87 ov_87 =>
 1 = 1 ∧ 0 + 1 ≤ 4 ∧
 ∃ (av_88 : Option Addr) (nv_88 cv_88 : Nat), cell h30 ⟨bv_87, (ov_87 + 0), none⟩ = some (.slice av_88 nv_88 cv_88) ∧
 (∀ h41, S_3 h41 →
 ∃ (av_88_1 : Option Addr) (nv_88_1 cv_88_1 : Nat), cell h41 ⟨bv_87, (ov_87 + 0), none⟩ = some (.slice av_88_1 nv_88_1 cv_88_1) ∧
 Slot.v (.slice av_88_1 nv_88_1 cv_88_1) = Slot.v (.slice av_88 nv_88 cv_88) ∧ (Slot.v (.slice av_88 nv_88 cv_88)).val ≠ none) ∧
 ∃ (av_93 : Option Addr) (nv_93 cv_93 : Nat), cell h30 ⟨bb_8, (0 + 0), none⟩ = some (.slice av_93 nv_93 cv_93) ∧
 (∀ h42, S_3 h42 →
 ∃ (av_93_1 : Option Addr) (nv_93_1 cv_93_1 : Nat), cell h42 ⟨bb_8, (0 + 0), none⟩ = some (.slice av_93_1 nv_93_1 cv_93_1) ∧
 Slot.v (.slice av_93_1 nv_93_1 cv_93_1) = Slot.v (.slice av_93 nv_93 cv_93) ∧ (Slot.v (.slice av_93 nv_93 cv_93)).val ≠ none) ∧
 4 = 4 ∧ 0 + 4 ≤ 4 ∧
 ∀ (bv_90 : Nat) (h43 : H), New h30 (.cells ⟨[(.int .i64 (-71)), (.int .i64 0), (.int .i64 0), (.slice none 0 0)]⟩ 71) bv_90 h43 →
 S_3 h43 ∧
 apQ 71 4 48 [.int .i64 0, .int .i64 0, .int .i64 0, .slice none 0 0] h43 av_88 nv_88 cv_88 (some ⟨bv_90, 0, none⟩) 1 fun av_91 nv_91 cv_91 h44 =>
 S_3 h44 ∧
 nv_91 ≤ cv_91 ∧ 0 ≤ (↑nv_93 : Int) ∧ (↑nv_93 : Int) ≤ (↑cv_91 : Int) ∧ 
 ∃ qv_95 : Option Addr, qv_95 = av_91 ∧
 (onP pc_9 fun bv_96 ov_96 =>
 stQ 1 h44 bv_96 (ov_96 + 0) [(.slice qv_95 (((↑nv_93 : Int) - 0).toNat) (((↑cv_91 : Int) - 0).toNat))] fun h45 =>
 (onP pg_6 fun bv_97 ov_97 =>
 ∃ (av_98 : Option Addr) (nv_98 cv_98 : Nat), cell h45 ⟨bv_97, (ov_97 + 4), none⟩ = some (.slice av_98 nv_98 cv_98) ∧
 (onP pc_9 fun bv_99 ov_99 =>
 ∃ (av_99 : Option Addr) (nv_99 cv_99 : Nat), cell h45 ⟨bv_99, (ov_99 + 0), none⟩ = some (.slice av_99 nv_99 cv_99) ∧
 ∃ (v_99 : Int), cell h45 ⟨bv_99, (ov_99 + 1), none⟩ = some (.int .i64 v_99) ∧
 ∃ (v_99_1 : Int), cell h45 ⟨bv_99, (ov_99 + 2), none⟩ = some (.int .i64 v_99_1) ∧
 ∃ (av_99_1 : Option Addr) (nv_99_1 cv_99_1 : Nat), cell h45 ⟨bv_99, (ov_99 + 3), none⟩ = some (.slice av_99_1 nv_99_1 cv_99_1) ∧
 4 = 4 ∧ 0 + 4 ≤ 4 ∧
 ∀ (bv_100 : Nat) (h46 : H), New h45 (.cells ⟨[(.slice av_99 nv_99 cv_99), (.int .i64 v_99), (.int .i64 v_99_1), (.slice av_99_1 nv_99_1 cv_99_1)]⟩ 50) bv_100 h46 →
 apQ 50 4 64 [.slice none 0 0, .int .i64 0, .int .i64 0, .slice none 0 0] h46 av_98 nv_98 cv_98 (some ⟨bv_100, 0, none⟩) 1 fun av_101 nv_101 cv_101 h47 =>
 (onP pg_6 fun bv_102 ov_102 =>
 stQ 1 h47 bv_102 (ov_102 + 4) [(.slice av_101 nv_101 cv_101)] fun h48 =>
 InR .i64 (k_7 + 1) ∧
 (J_2 (k_7 + 1)).1 h48 ∧ (J_2 (k_7 + 1)).2 h48 < (J_2 k_7).2 h17))))))))) ∧
 (¬ (k_7 < (↑nv_38 : Int)) →
 ∃ S_4 : H → Prop, S_4 h17 ∧
 (onP pg_6 fun bv_103 ov_103 =>
 1 = 1 ∧ 0 + 1 ≤ 3 ∧
 3 = 3 ∧ 1 + 3 ≤ 4 ∧
 ∃ (av_104 : Option Addr) (nv_104 cv_104 : Nat), cell h17 ⟨bv_103, (ov_103 + 4), none⟩ = some (.slice av_104 nv_104 cv_104) ∧
 (∀ h49, S_4 h49 →
 ∃ (av_104_1 : Option Addr) (nv_104_1 cv_104_1 : Nat), cell h49 ⟨bv_103, (ov_103 + 4), none⟩ = some (.slice av_104_1 nv_104_1 cv_104_1) ∧
 Slot.v (.slice av_104_1 nv_104_1 cv_104_1) = Slot.v (.slice av_104 nv_104 cv_104) ∧ (Slot.v (.slice av_104 nv_104 cv_104)).val ≠ none) ∧
 ∃ (av_110 : Option Addr) (nv_110 cv_110 : Nat), cell h17 ⟨bf_5, (0 + 4), none⟩ = some (.slice av_110 nv_110 cv_110) ∧
 (∀ h50, S_4 h50 →
 ∃ (av_110_1 : Option Addr) (nv_110_1 cv_110_1 : Nat), cell h50 ⟨bf_5, (0 + 4), none⟩ = some (.slice av_110_1 nv_110_1 cv_110_1) ∧
 Slot.v (.slice av_110_1 nv_110_1 cv_110_1) = Slot.v (.slice av_110 nv_110 cv_110) ∧ (Slot.v (.slice av_110 nv_110 cv_110)).val ≠ none) ∧
 4 = 4 ∧ 0 + 4 ≤ 4 ∧
 ∀ (bv_107 : Nat) (h51 : H), New h17 (.cells ⟨[(.slice none 0 0), (.int .i64 (-71)), (.int .i64 0), (.slice none 0 0)]⟩ 50) bv_107 h51 →
 S_4 h51 ∧
 apQ 50 4 64 [.slice none 0 0, .int .i64 0, .int .i64 0, .slice none 0 0] h51 av_104 nv_104 cv_104 (some ⟨bv_107, 0, none⟩) 1 fun av_108 nv_108 cv_108 h52 =>
 S_4 h52 ∧
 nv_108 ≤ cv_108 ∧ 0 ≤ (↑nv_110 : Int) ∧ (↑nv_110 : Int) ≤ (↑cv_108 : Int) ∧ 
 ∃ qv_112 : Option Addr, qv_112 = av_108 ∧
 (onP pg_6 fun bv_113 ov_113 =>
 stQ 1 h52 bv_113 (ov_113 + 4) [(.slice qv_112 (((↑nv_110 : Int) - 0).toNat) (((↑cv_108 : Int) - 0).toNat))] fun h53 =>
 ((some ⟨bv_13, 0, none⟩) : Option Addr) ≠ none ∧
 ∃ (av_119 : Option Addr) (nv_119 cv_119 : Nat), cell h53 ⟨bv_13, ((0 + 0) + 0), none⟩ = some (.slice av_119 nv_119 cv_119) ∧
 (onP pg_6 fun bv_120 ov_120 =>
 ∃ (v_120 : ByteArray), cell h53 ⟨bv_120, (ov_120 + 0), none⟩ = some (.string v_120) ∧
 ∃ (av_120 : Option Addr) (nv_120 cv_120 : Nat), cell h53 ⟨bv_120, (ov_120 + 1), none⟩ = some (.slice av_120 nv_120 cv_120) ∧
 ∃ (v_120_1 : Int), cell h53 ⟨bv_120, (ov_120 + 2), none⟩ = some (.int .i64 v_120_1) ∧
 ∃ (v_120_2 : Int), cell h53 ⟨bv_120, (ov_120 + 3), none⟩ = some (.int .i64 v_120_2) ∧
 ∃ (av_120_1 : Option Addr) (nv_120_1 cv_120_1 : Nat), cell h53 ⟨bv_120, (ov_120 + 4), none⟩ = some (.slice av_120_1 nv_120_1 cv_120_1) ∧
 5 = 5 ∧ 0 + 5 ≤ 5 ∧
 ∀ (bv_121 : Nat) (h54 : H), New h53 (.cells ⟨[(.string v_120), (.slice av_120 nv_120 cv_120), (.int .i64 v_120_1), (.int .i64 v_120_2), (.slice av_120_1 nv_120_1 cv_120_1)]⟩ 25) bv_121 h54 →
 apQ 25 5 80 [.string ⟨⟨[]⟩⟩, .slice none 0 0, .int .i64 0, .int .i64 0, .slice none 0 0] h54 av_119 nv_119 cv_119 (some ⟨bv_121, 0, none⟩) 1 fun av_122 nv_122 cv_122 h55 =>
 ((some ⟨bv_13, 0, none⟩) : Option Addr) ≠ none ∧
 stQ 1 h55 bv_13 ((0 + 0) + 0) [(.slice av_122 nv_122 cv_122)] fun h56 =>
 InR .i64 (i_4 + 1) ∧
 (J (i_4 + 1)).1 h56 ∧ (J (i_4 + 1)).2 h56 < (J i_4).2 h3))))))) ∧
 (¬ (i_4 < (↑nv_16 : Int)) →
 ∃ S_6 : H → Prop, S_6 h3 ∧
 ((some ⟨bv_13, 0, none⟩) : Option Addr) ≠ none ∧
 1 = 1 ∧ 0 + 1 ≤ 5 ∧
 ∃ (av_131 : Option Addr) (nv_131 cv_131 : Nat), cell h3 ⟨bv_13, ((0 + 0) + 0), none⟩ = some (.slice av_131 nv_131 cv_131) ∧
 (∀ h57, S_6 h57 →
 ∃ (av_131_1 : Option Addr) (nv_131_1 cv_131_1 : Nat), cell h57 ⟨bv_13, ((0 + 0) + 0), none⟩ = some (.slice av_131_1 nv_131_1 cv_131_1) ∧
 Slot.v (.slice av_131_1 nv_131_1 cv_131_1) = Slot.v (.slice av_131 nv_131 cv_131) ∧ (Slot.v (.slice av_131 nv_131 cv_131)).val ≠ none) ∧
 ∃ (av_136 : Option Addr) (nv_136 cv_136 : Nat), cell h3 ⟨bl_1, (0 + 0), none⟩ = some (.slice av_136 nv_136 cv_136) ∧
 (∀ h58, S_6 h58 →
 ∃ (av_136_1 : Option Addr) (nv_136_1 cv_136_1 : Nat), cell h58 ⟨bl_1, (0 + 0), none⟩ = some (.slice av_136_1 nv_136_1 cv_136_1) ∧
 Slot.v (.slice av_136_1 nv_136_1 cv_136_1) = Slot.v (.slice av_136 nv_136 cv_136) ∧ (Slot.v (.slice av_136 nv_136 cv_136)).val ≠ none) ∧
 5 = 5 ∧ 0 + 5 ≤ 5 ∧
 ∀ (bv_133 : Nat) (h59 : H), New h3 (.cells ⟨[(.string ⟨#[109, 97, 114, 107]⟩), (.slice none 0 0), (.int .i64 0), (.int .i64 0), (.slice none 0 0)]⟩ 25) bv_133 h59 →
 S_6 h59 ∧
 apQ 25 5 80 [.string ⟨⟨[]⟩⟩, .slice none 0 0, .int .i64 0, .int .i64 0, .slice none 0 0] h59 av_131 nv_131 cv_131 (some ⟨bv_133, 0, none⟩) 1 fun av_134 nv_134 cv_134 h60 =>
 S_6 h60 ∧
 nv_134 ≤ cv_134 ∧ 0 ≤ (↑nv_136 : Int) ∧ (↑nv_136 : Int) ≤ (↑cv_134 : Int) ∧ 
 ∃ qv_138 : Option Addr, qv_138 = av_134 ∧
 ((some ⟨bv_13, 0, none⟩) : Option Addr) ≠ none ∧
 stQ 1 h60 bv_13 ((0 + 0) + 0) [(.slice qv_138 (((↑nv_136 : Int) - 0).toNat) (((↑cv_134 : Int) - 0).toNat))] fun h61 =>
 ∃ (v_144 : Int), cell h61 ⟨bl_1, (0 + 1), none⟩ = some (.int .i64 v_144) ∧
 ((some ⟨bv_13, 0, none⟩) : Option Addr) ≠ none ∧
 stQ 1 h61 bv_13 ((0 + 0) + 1) [(.int .i64 v_144)] fun h62 =>
 R (.pointer (some ⟨bv_13, 0, none⟩)) h62))
theorem hc24 {al_0 : Option Addr} {nl_0 cl_0 : Nat} {l_0 : Int} {h : H} {R : Value → H → Prop} (x : sh24 al_0 nl_0 cl_0 l_0 h R) : HC Tryd.prog 24 [(.agg ⟨[(.slice al_0 nl_0 cl_0), (.int .i64 l_0)]⟩)] h R :=
  FL.sound mixed ck24 ⟨rfl, Eq.mp (by unfold sh24; kernel_rfl) x⟩
/- (*quern/quernlaw17.lease).stays -/
def fl13 : FL := ⟨228, (.seq (.reg [se 3 (.box 37 (t 1)), sv 4 (.mov (cb false))]) (.seq (.cut [(42, (.one .bool))] [14, 15, 16, 17, 18, 19, 20, 21, 22, 23, 24, 25, 26, 27, 28, 29, 30, 31, 32, 33, 34, 35, 36, 37, 38, 39, 40, 41, 42] (.drw .eq [] [14, 15, 16, 17, 18, 19, 20, 21, 22, 23, 24, 25, 26, 27, 28, 29, 30, 31, 32, 33, 34, 35, 36, 37, 38, 39, 40, 41, 42] (.takeP 0 (sv 14 (.mov (t 0))) (.takeP 1 (sv 15 (.nck (t 14))) (.takeP 2 (sv 16 (.fad 0 (t 15))) (.takeP 3 (sv 17 (.fad 0 (t 16))) (.takeP 6 (sv 20 (.fad 0 (t 3))) (.takeR 4 (sv 18 (.ld .slice (t 17))) (.takeP 5 (sv 19 (.len (t 18))) (.takeR 7 (sv 21 (.ld .slice (t 20))) (.takeP 8 (sv 22 (.len (t 21))) (.takeP 9 (sv 23 (.cmp .neq (t 19) (t 22))) (.takeP 10 (sv 24 (.mov (t 23))) (.takeP 11 (⟨some 25, some (24, false), .v (.mov (t 0))⟩) (.takeP 12 (⟨some 26, some (24, false), .v (.nck (t 25))⟩) (.takeP 13 (⟨some 27, some (24, false), .v (.fad 0 (t 26))⟩) (.takeP 14 (⟨some 28, some (24, false), .v (.fad 0 (t 27))⟩) (.takeP 16 (⟨some 30, some (24, false), .v (.fad 0 (t 3))⟩) (.takeP 21 (⟨some 35, some (24, false), .v (.fad 0 (t 3))⟩) (.takeR 15 (⟨some 29, some (24, false), .v (.ld .slice (t 28))⟩) (.takeR 17 (⟨some 31, some (24, false), .v (.ld .slice (t 30))⟩) (.takeP 18 (⟨some 32, some (24, false), .v (.len (t 31))⟩) (.takeP 19 (⟨some 33, some (24, false), .v (.ar .add true (t 32) (ci 1))⟩) (.takeP 20 (⟨some 34, some (24, false), .v (.slc 5 (t 29) none (some (t 33)))⟩) (.takeR 22 (⟨some 36, some (24, false), .v (.ld .slice (t 35))⟩) (.takeP 23 (⟨some 37, some (24, false), .v (.len (t 36))⟩) (.takeP 24 (⟨some 38, some (24, false), .v (.idx 5 (t 34) (t 37))⟩) (.takeP 25 (⟨some 39, some (24, false), .v (.fad 0 (t 38))⟩) (.takeR 26 (⟨some 40, some (24, false), .v (.ld .str (t 39))⟩) (.takeP 27 (⟨some 41, some (24, false), .v (.cms .neq (t 40) (.const (Go.Value.string ⟨#[109, 97, 114, 107]⟩)))⟩) (.takeP 28 (sv 42 (.pick (t 24) (cb true) (t 41))) .done)))))))))))))))))))))))))))))) (.cond (t 42) (.seq (.reg [sv 4 (.mov (cb false))]) .ret) .skip)) (.seq (.seq (.reg [sv 5 (.mov (ci 0))]) (.block 0 (.loop [(5, (.one (.int .i64)))] [4, 5, 6, 7, 8, 9, 10, 11, 12, 13, 43, 44, 45, 46, 47, 48, 49, 50, 51, 52, 53, 54, 55, 56, 57, 58, 59, 60, 61, 62, 63, 64, 65, 66, 67, 68, 69, 70, 71, 72, 73, 74, 75, 76, 77, 78, 79, 80, 81, 82, 83, 84, 85, 86, 87, 88, 89, 90, 91, 92, 93, 94, 95, 96, 97, 98, 99, 100, 101, 102, 103, 104, 105, 106, 107, 108, 109, 110, 111, 112, 113, 114, 115, 116, 117, 118, 119, 120, 121, 122, 123, 124, 125, 126, 127, 128, 129, 130, 131, 132, 133, 134, 135, 136, 137, 138, 139, 140, 141, 142, 143, 144, 145, 146, 147, 148, 149, 150, 151, 152, 153, 154, 155, 156, 157, 158, 159, 160, 161, 162, 163, 164, 165, 166, 167, 168, 169, 170, 171, 172, 173, 174, 175, 176, 177, 178, 179, 180, 181, 182, 183, 184, 185, 186, 187, 188, 189, 190, 191, 192, 193, 194, 195, 196, 197, 198, 199, 200, 201, 202, 203, 204, 205, 206, 207, 208, 209, 210, 211, 212, 213, 214, 215, 216, 217, 218, 219, 220, 221, 222, 223, 224, 225, 226, 227] (.seq (.seq (.reg [sv 43 (.mov (t 5)), sv 44 (.fad 0 (t 3)), sv 45 (.ld .slice (t 44)), sv 46 (.len (t 45)), sv 47 (.cmp .lss (t 43) (t 46))]) (.cond (t 47) .skip (.exit 0))) (.seq (.block 1 (.cut [(6, (.one .ptr)), (7, (.one .ptr))] [6, 7, 50, 51, 52, 53, 54, 55, 56, 57, 58, 59, 60, 61, 62] (.drw .gen [16] [6, 7, 50, 51, 52, 53, 54, 55, 56, 57, 58, 59, 60, 61, 62] (.takeP 0 (sv 50 (.fad 0 (t 3))) (.takeP 2 (sv 52 (.mov (t 5))) (.takeP 5 (sv 55 (.mov (t 0))) (.takeP 6 (sv 56 (.nck (t 55))) (.takeP 7 (sv 57 (.fad 0 (t 56))) (.takeP 8 (sv 58 (.fad 0 (t 57))) (.takeP 10 (sv 60 (.mov (t 5))) (.takeR 1 (sv 51 (.ld .slice (t 50))) (.takeP 3 (sv 53 (.idx 5 (t 51) (t 52))) (.takeR 4 (sv 54 (.lda [.str, .slice, (.int .i64), (.int .i64), .slice] (t 53))) (.takeR 9 (sv 59 (.ld .slice (t 58))) (.takeP 11 (sv 61 (.idx 5 (t 59) (t 60))) (.takeR 12 (sv 62 (.lda [.str, .slice, (.int .i64), (.int .i64), .slice] (t 61))) (.altS 13 (se 6 (.alc 25 [.string ⟨⟨[]⟩⟩, .slice none 0 0, .int .i64 0, .int .i64 0, .slice none 0 0])) (.altS 14 (se 7 (.alc 25 [.string ⟨⟨[]⟩⟩, .slice none 0 0, .int .i64 0, .int .i64 0, .slice none 0 0])) (.altS 15 (ne (.sto 5 (t 6) (t 54))) (.alt 16 (ne (.sto 5 (t 7) (t 62))) .done .stop) .stop) .stop) (.altS 14 (se 7 (.alc 25 [.string ⟨⟨[]⟩⟩, .slice none 0 0, .int .i64 0, .int .i64 0, .slice none 0 0])) (.altS 13 (se 6 (.alc 25 [.string ⟨⟨[]⟩⟩, .slice none 0 0, .int .i64 0, .int .i64 0, .slice none 0 0])) (.altS 15 (ne (.sto 5 (t 6) (t 54))) (.alt 16 (ne (.sto 5 (t 7) (t 62))) .done .stop) .stop) .stop) .stop)))))))))))))))) (.seq (.cut [(115, (.one .bool))] [63, 64, 65, 66, 67, 68, 69, 70, 71, 72, 73, 74, 75, 76, 77, 78, 79, 80, 81, 82, 83, 84, 85, 86, 87, 88, 89, 90, 91, 92, 93, 94, 95, 96, 97, 98, 99, 100, 101, 102, 103, 104, 105, 106, 107, 108, 109, 110, 111, 112, 113, 114, 115] (.drw .eq [24] [63, 64, 65, 66, 67, 68, 69, 70, 71, 72, 73, 74, 75, 76, 77, 78, 79, 80, 81, 82, 83, 84, 85, 86, 87, 88, 89, 90, 91, 92, 93, 94, 95, 96, 97, 98, 99, 100, 101, 102, 103, 104, 105, 106, 107, 108, 109, 110, 111, 112, 113, 114, 115] (.takeP 0 (sv 63 (.fad 0 (t 7))) (.takeP 2 (sv 65 (.fad 0 (t 6))) (.takeR 1 (sv 64 (.ld .str (t 63))) (.takeR 3 (sv 66 (.ld .str (t 65))) (.takeP 4 (sv 67 (.cms .neq (t 64) (t 66))) (.takeP 5 (sv 68 (.mov (t 67))) (.takeP 6 (⟨some 69, some (68, false), .v (.fad 2 (t 7))⟩) (.takeP 8 (⟨some 71, some (68, false), .v (.fad 2 (t 6))⟩) (.takeR 7 (⟨some 70, some (68, false), .v (.ld (.int .i64) (t 69))⟩) (.takeR 9 (⟨some 72, some (68, false), .v (.ld (.int .i64) (t 71))⟩) (.takeP 10 (⟨some 73, some (68, false), .v (.cmp .neq (t 70) (t 72))⟩) (.takeP 11 (sv 74 (.pick (t 68) (cb true) (t 73))) (.takeP 12 (sv 75 (.mov (t 74))) (.takeP 13 (⟨some 76, some (75, false), .v (.fad 3 (t 7))⟩) (.takeP 15 (⟨some 78, some (75, false), .v (.fad 3 (t 6))⟩) (.takeR 14 (⟨some 77, some (75, false), .v (.ld (.int .i64) (t 76))⟩) (.takeR 16 (⟨some 79, some (75, false), .v (.ld (.int .i64) (t 78))⟩) (.takeP 17 (⟨some 80, some (75, false), .v (.cmp .neq (t 77) (t 79))⟩) (.takeP 18 (sv 81 (.pick (t 75) (cb true) (t 80))) (.takeP 19 (sv 82 (.mov (t 81))) (.takeP 20 (⟨some 83, some (82, false), .v (.fad 1 (t 7))⟩) (.takeP 22 (⟨some 85, some (82, false), .v (.fad 1 (t 6))⟩) (.takeR 21 (⟨some 84, some (82, false), .v (.ld .slice (t 83))⟩) (.takeR 23 (⟨some 86, some (82, false), .v (.ld .slice (t 85))⟩) (.alt 24 (⟨some 87, some (82, false), .e (.call 14 [(t 84), (t 86)] (.one .bool))⟩) (.takeP 25 (⟨some 88, some (82, false), .v (.no (t 87))⟩) (.takeP 26 (sv 89 (.pick (t 82) (cb true) (t 88))) (.takeP 27 (sv 90 (.mov (t 89))) (.takeP 28 (⟨some 91, some (90, false), .v (.fad 4 (t 7))⟩) (.takeP 31 (⟨some 94, some (90, false), .v (.fad 4 (t 6))⟩) (.re [] (.takeR 29 (⟨some 92, some (90, false), .v (.ld .slice (t 91))⟩) (.takeP 30 (⟨some 93, some (90, false), .v (.len (t 92))⟩) (.takeR 32 (⟨some 95, some (90, false), .v (.ld .slice (t 94))⟩) (.takeP 33 (⟨some 96, some (90, false), .v (.len (t 95))⟩) (.takeP 34 (⟨some 97, some (90, false), .v (.cmp .neq (t 93) (t 96))⟩) (.takeP 35 (sv 98 (.pick (t 90) (cb true) (t 97))) (.takeP 36 (sv 99 (.mov (t 98))) (.takeP 37 (⟨some 100, some (99, false), .v (.fad 4 (t 7))⟩) (.takeP 39 (⟨some 102, some (99, false), .v (.fad 4 (t 6))⟩) (.takeP 44 (⟨some 107, some (99, false), .v (.fad 4 (t 6))⟩) (.takeR 38 (⟨some 101, some (99, false), .v (.ld .slice (t 100))⟩) (.takeR 40 (⟨some 103, some (99, false), .v (.ld .slice (t 102))⟩) (.takeP 41 (⟨some 104, some (99, false), .v (.len (t 103))⟩) (.takeP 42 (⟨some 105, some (99, false), .v (.ar .add true (t 104) (ci 1))⟩) (.takeP 43 (⟨some 106, some (99, false), .v (.slc 4 (t 101) none (some (t 105)))⟩) (.takeR 45 (⟨some 108, some (99, false), .v (.ld .slice (t 107))⟩) (.takeP 46 (⟨some 109, some (99, false), .v (.len (t 108))⟩) (.takeP 47 (⟨some 110, some (99, false), .v (.idx 4 (t 106) (t 109))⟩) (.takeP 48 (⟨some 111, some (99, false), .v (.fad 1 (t 110))⟩) (.takeP 49 (⟨some 112, some (99, false), .v (.fad 0 (t 111))⟩) (.takeR 50 (⟨some 113, some (99, false), .v (.ld (.int .i64) (t 112))⟩) (.takeP 51 (⟨some 114, some (99, false), .v (.cmp .neq (t 113) (ci (-71)))⟩) (.takeP 52 (sv 115 (.pick (t 99) (cb true) (t 114))) .done))))))))))))))))))))))))))))) .stop)))))))))))))))))))))))))) (.cond (t 115) (.seq (.reg [sv 4 (.mov (cb false))]) .ret) .skip)) (.seq (.reg [sv 8 (.mov (ci 0))]) (.block 2 (.loop [(8, (.one (.int .i64)))] [4, 8, 9, 10, 11, 12, 13, 116, 117, 118, 119, 120, 121, 122, 123, 124, 125, 126, 127, 128, 129, 130, 131, 132, 133, 134, 135, 136, 137, 138, 139, 140, 141, 142, 143, 144, 145, 146, 147, 148, 149, 150, 151, 152, 153, 154, 155, 156, 157, 158, 159, 160, 161, 162, 163, 164, 165, 166, 167, 168, 169, 170, 171, 172, 173, 174, 175, 176, 177, 178, 179, 180, 181, 182, 183, 184, 185, 186, 187, 188, 189, 190, 191, 192, 193, 194, 195, 196, 197, 198, 199, 200, 201, 202, 203, 204, 205, 206, 207, 208, 209, 210, 211, 212, 213, 214, 215, 216, 217, 218, 219, 220, 221, 222, 223, 224, 225, 226, 227] (.seq (.seq (.reg [sv 116 (.mov (t 8)), sv 117 (.fad 4 (t 6)), sv 118 (.ld .slice (t 117)), sv 119 (.len (t 118)), sv 120 (.cmp .lss (t 116) (t 119))]) (.cond (t 120) .skip (.exit 2))) (.seq (.block 3 (.cut [(9, (.one .ptr)), (10, (.one .ptr))] [9, 10, 123, 124, 125, 126, 127, 128, 129, 130, 131, 132] (.drw .gen [13] [9, 10, 123, 124, 125, 126, 127, 128, 129, 130, 131, 132] (.takeP 0 (sv 123 (.fad 4 (t 6))) (.takeP 2 (sv 125 (.mov (t 8))) (.takeP 5 (sv 128 (.fad 4 (t 7))) (.takeP 7 (sv 130 (.mov (t 8))) (.takeR 1 (sv 124 (.ld .slice (t 123))) (.takeP 3 (sv 126 (.idx 4 (t 124) (t 125))) (.takeR 4 (sv 127 (.lda [.slice, (.int .i64), (.int .i64), .slice] (t 126))) (.takeR 6 (sv 129 (.ld .slice (t 128))) (.takeP 8 (sv 131 (.idx 4 (t 129) (t 130))) (.takeR 9 (sv 132 (.lda [.slice, (.int .i64), (.int .i64), .slice] (t 131))) (.altS 10 (se 9 (.alc 50 [.slice none 0 0, .int .i64 0, .int .i64 0, .slice none 0 0])) (.altS 11 (se 10 (.alc 50 [.slice none 0 0, .int .i64 0, .int .i64 0, .slice none 0 0])) (.altS 12 (ne (.sto 4 (t 9) (t 127))) (.alt 13 (ne (.sto 4 (t 10) (t 132))) .done .stop) .stop) .stop) (.altS 11 (se 10 (.alc 50 [.slice none 0 0, .int .i64 0, .int .i64 0, .slice none 0 0])) (.altS 10 (se 9 (.alc 50 [.slice none 0 0, .int .i64 0, .int .i64 0, .slice none 0 0])) (.altS 12 (ne (.sto 4 (t 9) (t 127))) (.alt 13 (ne (.sto 4 (t 10) (t 132))) .done .stop) .stop) .stop) .stop))))))))))))) (.seq (.cut [(183, (.one .bool))] [133, 134, 135, 136, 137, 138, 139, 140, 141, 142, 143, 144, 145, 146, 147, 148, 149, 150, 151, 152, 153, 154, 155, 156, 157, 158, 159, 160, 161, 162, 163, 164, 165, 166, 167, 168, 169, 170, 171, 172, 173, 174, 175, 176, 177, 178, 179, 180, 181, 182, 183] (.drw .eq [48] [133, 134, 135, 136, 137, 138, 139, 140, 141, 142, 143, 144, 145, 146, 147, 148, 149, 150, 151, 152, 153, 154, 155, 156, 157, 158, 159, 160, 161, 162, 163, 164, 165, 166, 167, 168, 169, 170, 171, 172, 173, 174, 175, 176, 177, 178, 179, 180, 181, 182, 183] (.takeP 0 (sv 133 (.fad 0 (t 9))) (.takeP 3 (sv 136 (.fad 0 (t 10))) (.takeR 1 (sv 134 (.ld .slice (t 133))) (.takeP 2 (sv 135 (.len (t 134))) (.takeR 4 (sv 137 (.ld .slice (t 136))) (.takeP 5 (sv 138 (.len (t 137))) (.takeP 6 (sv 139 (.cmp .neq (t 135) (t 138))) (.takeP 7 (sv 140 (.mov (t 139))) (.takeP 8 (⟨some 141, some (140, false), .v (.fad 0 (t 10))⟩) (.takeP 10 (⟨some 143, some (140, false), .v (.fad 0 (t 9))⟩) (.takeP 15 (⟨some 148, some (140, false), .v (.fad 0 (t 9))⟩) (.takeR 9 (⟨some 142, some (140, false), .v (.ld .slice (t 141))⟩) (.takeR 11 (⟨some 144, some (140, false), .v (.ld .slice (t 143))⟩) (.takeP 12 (⟨some 145, some (140, false), .v (.len (t 144))⟩) (.takeP 13 (⟨some 146, some (140, false), .v (.ar .add true (t 145) (ci 1))⟩) (.takeP 14 (⟨some 147, some (140, false), .v (.slc 4 (t 142) none (some (t 146)))⟩) (.takeR 16 (⟨some 149, some (140, false), .v (.ld .slice (t 148))⟩) (.takeP 17 (⟨some 150, some (140, false), .v (.len (t 149))⟩) (.takeP 18 (⟨some 151, some (140, false), .v (.idx 4 (t 147) (t 150))⟩) (.takeP 19 (⟨some 152, some (140, false), .v (.fad 0 (t 151))⟩) (.takeR 20 (⟨some 153, some (140, false), .v (.ld (.int .i64) (t 152))⟩) (.takeP 21 (⟨some 154, some (140, false), .v (.cmp .neq (t 153) (ci (-71)))⟩) (.takeP 22 (sv 155 (.pick (t 140) (cb true) (t 154))) (.takeP 23 (sv 156 (.mov (t 155))) (.takeP 24 (⟨some 157, some (156, false), .v (.fad 1 (t 9))⟩) (.takeP 25 (⟨some 158, some (156, false), .v (.fad 0 (t 157))⟩) (.takeP 27 (⟨some 160, some (156, false), .v (.fad 1 (t 10))⟩) (.takeP 28 (⟨some 161, some (156, false), .v (.fad 0 (t 160))⟩) (.takeR 26 (⟨some 159, some (156, false), .v (.ld (.int .i64) (t 158))⟩) (.takeR 29 (⟨some 162, some (156, false), .v (.ld (.int .i64) (t 161))⟩) (.takeP 30 (⟨some 163, some (156, false), .v (.cmp .neq (t 159) (t 162))⟩) (.takeP 31 (sv 164 (.pick (t 156) (cb true) (t 163))) (.takeP 32 (sv 165 (.mov (t 164))) (.takeP 33 (⟨some 166, some (165, false), .v (.fad 1 (t 9))⟩) (.takeP 34 (⟨some 167, some (165, false), .v (.fad 1 (t 166))⟩) (.takeP 36 (⟨some 169, some (165, false), .v (.fad 1 (t 10))⟩) (.takeP 37 (⟨some 170, some (165, false), .v (.fad 1 (t 169))⟩) (.takeR 35 (⟨some 168, some (165, false), .v (.ld (.int .i64) (t 167))⟩) (.takeR 38 (⟨some 171, some (165, false), .v (.ld (.int .i64) (t 170))⟩) (.takeP 39 (⟨some 172, some (165, false), .v (.cmp .neq (t 168) (t 171))⟩) (.takeP 40 (sv 173 (.pick (t 165) (cb true) (t 172))) (.takeP 41 (sv 174 (.mov (t 173))) (.takeP 42 (⟨some 175, some (174, false), .v (.fad 1 (t 10))⟩) (.takeP 43 (⟨some 176, some (174, false), .v (.fad 2 (t 175))⟩) (.takeP 45 (⟨some 178, some (174, false), .v (.fad 1 (t 9))⟩) (.takeP 46 (⟨some 179, some (174, false), .v (.fad 2 (t 178))⟩) (.takeR 44 (⟨some 177, some (174, false), .v (.ld .slice (t 176))⟩) (.takeR 47 (⟨some 180, some (174, false), .v (.ld .slice (t 179))⟩) (.alt 48 (⟨some 181, some (174, false), .e (.call 14 [(t 177), (t 180)] (.one .bool))⟩) (.takeP 49 (⟨some 182, some (174, false), .v (.no (t 181))⟩) (.takeP 50 (sv 183 (.pick (t 174) (cb true) (t 182))) .done)) .stop)))))))))))))))))))))))))))))))))))))))))))))))))) (.cond (t 183) (.seq (.reg [sv 4 (.mov (cb false))]) .ret) .skip)) (.seq (.reg [sv 11 (.mov (ci 0))]) (.block 4 (.loop [(11, (.one (.int .i64)))] [4, 11, 12, 13, 184, 185, 186, 187, 188, 189, 190, 191, 192, 193, 194, 195, 196, 197, 198, 199, 200, 201, 202, 203, 204, 205, 206, 207, 208, 209, 210, 211, 212, 213, 214, 215, 216, 217, 218, 219, 220, 221, 222, 223, 224, 225, 226, 227] (.seq (.seq (.reg [sv 184 (.mov (t 11)), sv 185 (.fad 0 (t 9)), sv 186 (.ld .slice (t 185)), sv 187 (.len (t 186)), sv 188 (.cmp .lss (t 184) (t 187))]) (.cond (t 188) .skip (.exit 4))) (.seq (.block 5 (.cut [(12, (.one .ptr)), (13, (.one .ptr))] [12, 13, 191, 192, 193, 194, 195, 196, 197, 198, 199, 200] (.drw .gen [13] [12, 13, 191, 192, 193, 194, 195, 196, 197, 198, 199, 200] (.takeP 0 (sv 191 (.fad 0 (t 9))) (.takeP 2 (sv 193 (.mov (t 11))) (.takeP 5 (sv 196 (.fad 0 (t 10))) (.takeP 7 (sv 198 (.mov (t 11))) (.takeR 1 (sv 192 (.ld .slice (t 191))) (.takeP 3 (sv 194 (.idx 4 (t 192) (t 193))) (.takeR 4 (sv 195 (.lda [(.int .i64), (.int .i64), (.int .i64), .slice] (t 194))) (.takeR 6 (sv 197 (.ld .slice (t 196))) (.takeP 8 (sv 199 (.idx 4 (t 197) (t 198))) (.takeR 9 (sv 200 (.lda [(.int .i64), (.int .i64), (.int .i64), .slice] (t 199))) (.altS 10 (se 12 (.alc 71 [.int .i64 0, .int .i64 0, .int .i64 0, .slice none 0 0])) (.altS 11 (se 13 (.alc 71 [.int .i64 0, .int .i64 0, .int .i64 0, .slice none 0 0])) (.altS 12 (ne (.sto 4 (t 12) (t 195))) (.alt 13 (ne (.sto 4 (t 13) (t 200))) .done .stop) .stop) .stop) (.altS 11 (se 13 (.alc 71 [.int .i64 0, .int .i64 0, .int .i64 0, .slice none 0 0])) (.altS 10 (se 12 (.alc 71 [.int .i64 0, .int .i64 0, .int .i64 0, .slice none 0 0])) (.altS 12 (ne (.sto 4 (t 12) (t 195))) (.alt 13 (ne (.sto 4 (t 13) (t 200))) .done .stop) .stop) .stop) .stop))))))))))))) (.seq (.reg [sv 201 (.fad 0 (t 12)), sv 202 (.ld (.int .i64) (t 201)), sv 203 (.fad 0 (t 13)), sv 204 (.ld (.int .i64) (t 203)), sv 205 (.cmp .neq (t 202) (t 204)), sv 206 (.mov (t 205)), ⟨some 207, some (206, false), .v (.fad 1 (t 12))⟩, ⟨some 208, some (206, false), .v (.ld (.int .i64) (t 207))⟩, ⟨some 209, some (206, false), .v (.fad 1 (t 13))⟩, ⟨some 210, some (206, false), .v (.ld (.int .i64) (t 209))⟩, ⟨some 211, some (206, false), .v (.cmp .neq (t 208) (t 210))⟩, sv 212 (.pick (t 206) (cb true) (t 211)), sv 213 (.mov (t 212)), ⟨some 214, some (213, false), .v (.fad 2 (t 12))⟩, ⟨some 215, some (213, false), .v (.ld (.int .i64) (t 214))⟩, ⟨some 216, some (213, false), .v (.fad 2 (t 13))⟩, ⟨some 217, some (213, false), .v (.ld (.int .i64) (t 216))⟩, ⟨some 218, some (213, false), .v (.cmp .neq (t 215) (t 217))⟩, sv 219 (.pick (t 213) (cb true) (t 218)), sv 220 (.mov (t 219)), ⟨some 221, some (220, false), .v (.fad 3 (t 13))⟩, ⟨some 222, some (220, false), .v (.ld .slice (t 221))⟩, ⟨some 223, some (220, false), .v (.fad 3 (t 12))⟩, ⟨some 224, some (220, false), .v (.ld .slice (t 223))⟩, ⟨some 225, some (220, false), .e (.call 14 [(t 222), (t 224)] (.one .bool))⟩, ⟨some 226, some (220, false), .v (.no (t 225))⟩, sv 227 (.pick (t 220) (cb true) (t 226))]) (.cond (t 227) (.seq (.reg [sv 4 (.mov (cb false))]) .ret) .skip)))) (.reg [sv 189 (.mov (t 11)), sv 190 (.ar .add true (t 189) (ci 1)), sv 11 (.mov (t 190))]))))))))) (.reg [sv 121 (.mov (t 8)), sv 122 (.ar .add true (t 121) (ci 1)), sv 8 (.mov (t 122))]))))))))) (.reg [sv 48 (.mov (t 5)), sv 49 (.ar .add true (t 48) (ci 1)), sv 5 (.mov (t 49))])))))) (.seq (.reg [sv 4 (.mov (cb true))]) .ret)))), [.tmp 4]⟩
theorem ck13 : chkFL Tryd.prog 13 fl13 = true := by kernel_rfl
def sh13 (px_0 : Option Addr) (al_1 : Option Addr) (nl_1 cl_1 : Nat) (l_1 : Int) (h : H) (R : Value → H → Prop) : Prop :=
 ∀ (bl_3 : Nat) (h1 : H), New h (.cells ⟨[(.slice al_1 nl_1 cl_1), (.int .i64 l_1)]⟩ 37) bl_3 h1 →
 ∃ J : Bool → H → Prop, ((px_0 : Option Addr) ≠ none ∧
 (onP px_0 fun bv_16 ov_16 =>
 ∃ (av_18 : Option Addr) (nv_18 cv_18 : Nat), cell h1 ⟨bv_16, ((ov_16 + 0) + 0), none⟩ = some (.slice av_18 nv_18 cv_18) ∧
 ∃ (av_21 : Option Addr) (nv_21 cv_21 : Nat), cell h1 ⟨bl_3, (0 + 0), none⟩ = some (.slice av_21 nv_21 cv_21) ∧
 (((¬ (↑nv_18 : Int) = (↑nv_21 : Int)) →
 J true h1) ∧
 (¬ (¬ (↑nv_18 : Int) = (↑nv_21 : Int)) →
 (px_0 : Option Addr) ≠ none ∧
 (onP px_0 fun bv_27 ov_27 =>
 ∃ (av_29 : Option Addr) (nv_29 cv_29 : Nat), cell h1 ⟨bv_27, ((ov_27 + 0) + 0), none⟩ = some (.slice av_29 nv_29 cv_29) ∧
 ∃ (av_31 : Option Addr) (nv_31 cv_31 : Nat), cell h1 ⟨bl_3, (0 + 0), none⟩ = some (.slice av_31 nv_31 cv_31) ∧
 InR .i64 ((↑nv_31 : Int) + 1) ∧
 nv_29 ≤ cv_29 ∧ 0 ≤ ((↑nv_31 : Int) + 1) ∧ ((↑nv_31 : Int) + 1) ≤ (↑cv_29 : Int) ∧ 
 ∃ qv_34 : Option Addr, qv_34 = av_29 ∧
 ∃ (av_36 : Option Addr) (nv_36 cv_36 : Nat), cell h1 ⟨bl_3, (0 + 0), none⟩ = some (.slice av_36 nv_36 cv_36) ∧
 0 ≤ (↑nv_36 : Int) ∧ (↑nv_36 : Int) < (↑((((↑nv_31 : Int) + 1) - 0).toNat) : Int) ∧
 (onP qv_34 fun bv_38 ov_38 =>
 ∃ (v_40 : ByteArray), cell h1 ⟨bv_38, ((ov_38 + ((↑nv_36 : Int)).toNat * 5) + 0), none⟩ = some (.string v_40) ∧
 J (decide (¬ v_40.toList = (⟨#[109, 97, 114, 107]⟩ : ByteArray).toList)) h1)))))) ∧
 ∀ (v_42 : Bool), ∀ h2 : H, J v_42 h2 →
 ((v_42 = true →
 R (.bool false) h2) ∧
 (v_42 = false →
 ∃ J_1 : Int → LI, (J_1 0).1 h2 ∧
 ∀ (i_5 : Int), ∀ h3 : H, (J_1 i_5).1 h3 →
 ∃ (av_45 : Option Addr) (nv_45 cv_45 : Nat), cell h3 ⟨bl_3, (0 + 0), none⟩ = some (.slice av_45 nv_45 cv_45) ∧
 (((i_5 < (↑nv_45 : Int)) →
 ∃ J_2 : Option Addr → Option Addr → H → Prop, (∃ S_1 : H → Prop, S_1 h3 ∧
 (px_0 : Option Addr) ≠ none ∧
 (onP px_0 fun bv_57 ov_57 =>
 ∃ (av_51 : Option Addr) (nv_51 cv_51 : Nat), cell h3 ⟨bl_3, (0 + 0), none⟩ = some (.slice av_51 nv_51 cv_51) ∧
 (∀ h5, S_1 h5 →
 ∃ (av_51_1 : Option Addr) (nv_51_1 cv_51_1 : Nat), cell h5 ⟨bl_3, (0 + 0), none⟩ = some (.slice av_51_1 nv_51_1 cv_51_1) ∧
 Slot.v (.slice av_51_1 nv_51_1 cv_51_1) = Slot.v (.slice av_51 nv_51 cv_51) ∧ (Slot.v (.slice av_51 nv_51 cv_51)).val ≠ none) ∧
 0 ≤ i_5 ∧ i_5 < (↑nv_51 : Int) ∧
 (onP av_51 fun bv_53 ov_53 =>
 ∃ (v_54 : ByteArray), cell h3 ⟨bv_53, ((ov_53 + (i_5).toNat * 5) + 0), none⟩ = some (.string v_54) ∧
 ∃ (av_54 : Option Addr) (nv_54 cv_54 : Nat), cell h3 ⟨bv_53, ((ov_53 + (i_5).toNat * 5) + 1), none⟩ = some (.slice av_54 nv_54 cv_54) ∧
 ∃ (v_54_1 : Int), cell h3 ⟨bv_53, ((ov_53 + (i_5).toNat * 5) + 2), none⟩ = some (.int .i64 v_54_1) ∧
 ∃ (v_54_2 : Int), cell h3 ⟨bv_53, ((ov_53 + (i_5).toNat * 5) + 3), none⟩ = some (.int .i64 v_54_2) ∧
 ∃ (av_54_1 : Option Addr) (nv_54_1 cv_54_1 : Nat), cell h3 ⟨bv_53, ((ov_53 + (i_5).toNat * 5) + 4), none⟩ = some (.slice av_54_1 nv_54_1 cv_54_1) ∧
 (∀ h6, S_1 h6 →
 ∃ (v_54_3 : ByteArray), cell h6 ⟨bv_53, ((ov_53 + (i_5).toNat * 5) + 0), none⟩ = some (.string v_54_3) ∧
 ∃ (av_54_2 : Option Addr) (nv_54_2 cv_54_2 : Nat), cell h6 ⟨bv_53, ((ov_53 + (i_5).toNat * 5) + 1), none⟩ = some (.slice av_54_2 nv_54_2 cv_54_2) ∧
 ∃ (v_54_4 : Int), cell h6 ⟨bv_53, ((ov_53 + (i_5).toNat * 5) + 2), none⟩ = some (.int .i64 v_54_4) ∧
 ∃ (v_54_5 : Int), cell h6 ⟨bv_53, ((ov_53 + (i_5).toNat * 5) + 3), none⟩ = some (.int .i64 v_54_5) ∧
 ∃ (av_54_3 : Option Addr) (nv_54_3 cv_54_3 : Nat), cell h6 ⟨bv_53, ((ov_53 + (i_5).toNat * 5) + 4), none⟩ = some (.slice av_54_3 nv_54_3 cv_54_3) ∧
 Slot.v (.agg ⟨[(.string v_54_3), (.slice av_54_2 nv_54_2 cv_54_2), (.int .i64 v_54_4), (.int .i64 v_54_5), (.slice av_54_3 nv_54_3 cv_54_3)]⟩) = Slot.v (.agg ⟨[(.string v_54), (.slice av_54 nv_54 cv_54), (.int .i64 v_54_1), (.int .i64 v_54_2), (.slice av_54_1 nv_54_1 cv_54_1)]⟩) ∧ (Slot.v (.agg ⟨[(.string v_54), (.slice av_54 nv_54 cv_54), (.int .i64 v_54_1), (.int .i64 v_54_2), (.slice av_54_1 nv_54_1 cv_54_1)]⟩)).val ≠ none) ∧
 ∃ (av_59 : Option Addr) (nv_59 cv_59 : Nat), cell h3 ⟨bv_57, ((ov_57 + 0) + 0), none⟩ = some (.slice av_59 nv_59 cv_59) ∧
 (∀ h7, S_1 h7 →
 ∃ (av_59_1 : Option Addr) (nv_59_1 cv_59_1 : Nat), cell h7 ⟨bv_57, ((ov_57 + 0) + 0), none⟩ = some (.slice av_59_1 nv_59_1 cv_59_1) ∧
 Slot.v (.slice av_59_1 nv_59_1 cv_59_1) = Slot.v (.slice av_59 nv_59 cv_59) ∧ (Slot.v (.slice av_59 nv_59 cv_59)).val ≠ none) ∧
 0 ≤ i_5 ∧ i_5 < (↑nv_59 : Int) ∧
 (onP av_59 fun bv_61 ov_61 =>
 ∃ (v_62 : ByteArray), cell h3 ⟨bv_61, ((ov_61 + (i_5).toNat * 5) + 0), none⟩ = some (.string v_62) ∧
 ∃ (av_62 : Option Addr) (nv_62 cv_62 : Nat), cell h3 ⟨bv_61, ((ov_61 + (i_5).toNat * 5) + 1), none⟩ = some (.slice av_62 nv_62 cv_62) ∧
 ∃ (v_62_1 : Int), cell h3 ⟨bv_61, ((ov_61 + (i_5).toNat * 5) + 2), none⟩ = some (.int .i64 v_62_1) ∧
 ∃ (v_62_2 : Int), cell h3 ⟨bv_61, ((ov_61 + (i_5).toNat * 5) + 3), none⟩ = some (.int .i64 v_62_2) ∧
 ∃ (av_62_1 : Option Addr) (nv_62_1 cv_62_1 : Nat), cell h3 ⟨bv_61, ((ov_61 + (i_5).toNat * 5) + 4), none⟩ = some (.slice av_62_1 nv_62_1 cv_62_1) ∧
 (∀ h8, S_1 h8 →
 ∃ (v_62_3 : ByteArray), cell h8 ⟨bv_61, ((ov_61 + (i_5).toNat * 5) + 0), none⟩ = some (.string v_62_3) ∧
 ∃ (av_62_2 : Option Addr) (nv_62_2 cv_62_2 : Nat), cell h8 ⟨bv_61, ((ov_61 + (i_5).toNat * 5) + 1), none⟩ = some (.slice av_62_2 nv_62_2 cv_62_2) ∧
 ∃ (v_62_4 : Int), cell h8 ⟨bv_61, ((ov_61 + (i_5).toNat * 5) + 2), none⟩ = some (.int .i64 v_62_4) ∧
 ∃ (v_62_5 : Int), cell h8 ⟨bv_61, ((ov_61 + (i_5).toNat * 5) + 3), none⟩ = some (.int .i64 v_62_5) ∧
 ∃ (av_62_3 : Option Addr) (nv_62_3 cv_62_3 : Nat), cell h8 ⟨bv_61, ((ov_61 + (i_5).toNat * 5) + 4), none⟩ = some (.slice av_62_3 nv_62_3 cv_62_3) ∧
 Slot.v (.agg ⟨[(.string v_62_3), (.slice av_62_2 nv_62_2 cv_62_2), (.int .i64 v_62_4), (.int .i64 v_62_5), (.slice av_62_3 nv_62_3 cv_62_3)]⟩) = Slot.v (.agg ⟨[(.string v_62), (.slice av_62 nv_62 cv_62), (.int .i64 v_62_1), (.int .i64 v_62_2), (.slice av_62_1 nv_62_1 cv_62_1)]⟩) ∧ (Slot.v (.agg ⟨[(.string v_62), (.slice av_62 nv_62 cv_62), (.int .i64 v_62_1), (.int .i64 v_62_2), (.slice av_62_1 nv_62_1 cv_62_1)]⟩)).val ≠ none) ∧
 ((∀ (bf_6 : Nat) (h9 : H), New h3 (.cells ⟨[(.string ⟨⟨[]⟩⟩), (.slice none 0 0), (.int .i64 0), (.int .i64 0), (.slice none 0 0)]⟩ 25) bf_6 h9 →
 S_1 h9 ∧
 ∀ (bg_7 : Nat) (h10 : H), New h9 (.cells ⟨[(.string ⟨⟨[]⟩⟩), (.slice none 0 0), (.int .i64 0), (.int .i64 0), (.slice none 0 0)]⟩ 25) bg_7 h10 →
 S_1 h10 ∧
 stQ 5 h10 bf_6 0 [(.string v_54), (.slice av_54 nv_54 cv_54), (.int .i64 v_54_1), (.int .i64 v_54_2), (.slice av_54_1 nv_54_1 cv_54_1)] fun h11 =>
 S_1 h11 ∧
 stQ 5 h11 bg_7 0 [(.string v_62), (.slice av_62 nv_62 cv_62), (.int .i64 v_62_1), (.int .i64 v_62_2), (.slice av_62_1 nv_62_1 cv_62_1)] fun h12 =>
 J_2 (some ⟨bf_6, 0, none⟩) (some ⟨bg_7, 0, none⟩) h12) ∧
 ∀ (bg_7_1 : Nat) (h13 : H), New h3 (.cells ⟨[(.string ⟨⟨[]⟩⟩), (.slice none 0 0), (.int .i64 0), (.int .i64 0), (.slice none 0 0)]⟩ 25) bg_7_1 h13 →
 S_1 h13 ∧
 ∀ (bf_6_1 : Nat) (h14 : H), New h13 (.cells ⟨[(.string ⟨⟨[]⟩⟩), (.slice none 0 0), (.int .i64 0), (.int .i64 0), (.slice none 0 0)]⟩ 25) bf_6_1 h14 →
 S_1 h14 ∧
 stQ 5 h14 bf_6_1 0 [(.string v_54), (.slice av_54 nv_54 cv_54), (.int .i64 v_54_1), (.int .i64 v_54_2), (.slice av_54_1 nv_54_1 cv_54_1)] fun h15 =>
 S_1 h15 ∧
 stQ 5 h15 bg_7_1 0 [(.string v_62), (.slice av_62 nv_62 cv_62), (.int .i64 v_62_1), (.int .i64 v_62_2), (.slice av_62_1 nv_62_1 cv_62_1)] fun h16 =>
 J_2 (some ⟨bf_6_1, 0, none⟩) (some ⟨bg_7_1, 0, none⟩) h16))))) ∧
 ∀ (pf_6 : Option Addr), ∀ (pg_7 : Option Addr), ∀ h4 : H, J_2 pf_6 pg_7 h4 →
 ∃ J_3 : Bool → H → Prop, ((onP pg_7 fun bv_63 ov_63 =>
 (onP pf_6 fun bv_65 ov_65 =>
 ∃ (v_64 : ByteArray), cell h4 ⟨bv_63, (ov_63 + 0), none⟩ = some (.string v_64) ∧
 ∃ (v_66 : ByteArray), cell h4 ⟨bv_65, (ov_65 + 0), none⟩ = some (.string v_66) ∧
 (((¬ v_64.toList = v_66.toList) →
 J_3 true h4) ∧
 (¬ (¬ v_64.toList = v_66.toList) →
 (onP pg_7 fun bv_69 ov_69 =>
 (onP pf_6 fun bv_71 ov_71 =>
 ∃ (v_70 : Int), cell h4 ⟨bv_69, (ov_69 + 2), none⟩ = some (.int .i64 v_70) ∧
 ∃ (v_72 : Int), cell h4 ⟨bv_71, (ov_71 + 2), none⟩ = some (.int .i64 v_72) ∧
 (((¬ v_70 = v_72) →
 J_3 true h4) ∧
 (¬ (¬ v_70 = v_72) →
 (onP pg_7 fun bv_76 ov_76 =>
 (onP pf_6 fun bv_78 ov_78 =>
 ∃ (v_77 : Int), cell h4 ⟨bv_76, (ov_76 + 3), none⟩ = some (.int .i64 v_77) ∧
 ∃ (v_79 : Int), cell h4 ⟨bv_78, (ov_78 + 3), none⟩ = some (.int .i64 v_79) ∧
 (((¬ v_77 = v_79) →
 J_3 true h4) ∧
 (¬ (¬ v_77 = v_79) →
 (onP pg_7 fun bv_83 ov_83 =>
 (onP pf_6 fun bv_85 ov_85 =>
 ∃ (av_84 : Option Addr) (nv_84 cv_84 : Nat), cell h4 ⟨bv_83, (ov_83 + 1), none⟩ = some (.slice av_84 nv_84 cv_84) ∧
 ∃ (av_86 : Option Addr) (nv_86 cv_86 : Nat), cell h4 ⟨bv_85, (ov_85 + 1), none⟩ = some (.slice av_86 nv_86 cv_86) ∧
 HC Tryd.prog 14 [(.slice av_84 nv_84 cv_84), (.slice av_86 nv_86 cv_86)] h4 fun rv_87 h18 =>
 ∃ (v_87 : Bool), rv_87 = (.bool v_87) ∧
 (((!v_87) = true →
 J_3 true h18) ∧
 ((!v_87) = false →
 (onP pg_7 fun bv_91 ov_91 =>
 (onP pf_6 fun bv_94 ov_94 =>
 ∃ (av_92 : Option Addr) (nv_92 cv_92 : Nat), cell h18 ⟨bv_91, (ov_91 + 4), none⟩ = some (.slice av_92 nv_92 cv_92) ∧
 ∃ (av_95 : Option Addr) (nv_95 cv_95 : Nat), cell h18 ⟨bv_94, (ov_94 + 4), none⟩ = some (.slice av_95 nv_95 cv_95) ∧
 (((¬ (↑nv_92 : Int) = (↑nv_95 : Int)) →
 J_3 true h18) ∧
 (¬ (¬ (↑nv_92 : Int) = (↑nv_95 : Int)) →
 (onP pg_7 fun bv_100 ov_100 =>
 (onP pf_6 fun bv_102 ov_102 =>
 (onP pf_6 fun bv_107 ov_107 =>
 ∃ (av_101 : Option Addr) (nv_101 cv_101 : Nat), cell h18 ⟨bv_100, (ov_100 + 4), none⟩ = some (.slice av_101 nv_101 cv_101) ∧
 ∃ (av_103 : Option Addr) (nv_103 cv_103 : Nat), cell h18 ⟨bv_102, (ov_102 + 4), none⟩ = some (.slice av_103 nv_103 cv_103) ∧
 InR .i64 ((↑nv_103 : Int) + 1) ∧
 nv_101 ≤ cv_101 ∧ 0 ≤ ((↑nv_103 : Int) + 1) ∧ ((↑nv_103 : Int) + 1) ≤ (↑cv_101 : Int) ∧ 
 ∃ qv_106 : Option Addr, qv_106 = av_101 ∧
 ∃ (av_108 : Option Addr) (nv_108 cv_108 : Nat), cell h18 ⟨bv_107, (ov_107 + 4), none⟩ = some (.slice av_108 nv_108 cv_108) ∧
 0 ≤ (↑nv_108 : Int) ∧ (↑nv_108 : Int) < (↑((((↑nv_103 : Int) + 1) - 0).toNat) : Int) ∧
 (onP qv_106 fun bv_110 ov_110 =>
 ∃ (v_113 : Int), cell h18 ⟨bv_110, (((ov_110 + ((↑nv_108 : Int)).toNat * 4) + 1) + 0), none⟩ = some (.int .i64 v_113) ∧
 J_3 (decide (¬ v_113 = (-71))) h18))))))))))))))))))))))))) ∧
 ∀ (v_115 : Bool), ∀ h17 : H, J_3 v_115 h17 →
 ((v_115 = true →
 R (.bool false) h17) ∧
 (v_115 = false →
 ∃ J_4 : Int → LI, (J_4 0).1 h17 ∧
 ∀ (k_8 : Int), ∀ h19 : H, (J_4 k_8).1 h19 →
 (onP pf_6 fun bv_117 ov_117 =>
 ∃ (av_118 : Option Addr) (nv_118 cv_118 : Nat), cell h19 ⟨bv_117, (ov_117 + 4), none⟩ = some (.slice av_118 nv_118 cv_118) ∧
 (((k_8 < (↑nv_118 : Int)) →
 ∃ J_5 : Option Addr → Option Addr → H → Prop, (∃ S_3 : H → Prop, S_3 h19 ∧
 (onP pf_6 fun bv_123 ov_123 =>
 (onP pg_7 fun bv_128 ov_128 =>
 ∃ (av_124 : Option Addr) (nv_124 cv_124 : Nat), cell h19 ⟨bv_123, (ov_123 + 4), none⟩ = some (.slice av_124 nv_124 cv_124) ∧
 (∀ h21, S_3 h21 →
 ∃ (av_124_1 : Option Addr) (nv_124_1 cv_124_1 : Nat), cell h21 ⟨bv_123, (ov_123 + 4), none⟩ = some (.slice av_124_1 nv_124_1 cv_124_1) ∧
 Slot.v (.slice av_124_1 nv_124_1 cv_124_1) = Slot.v (.slice av_124 nv_124 cv_124) ∧ (Slot.v (.slice av_124 nv_124 cv_124)).val ≠ none) ∧
 0 ≤ k_8 ∧ k_8 < (↑nv_124 : Int) ∧
 (onP av_124 fun bv_126 ov_126 =>
 ∃ (av_127 : Option Addr) (nv_127 cv_127 : Nat), cell h19 ⟨bv_126, ((ov_126 + (k_8).toNat * 4) + 0), none⟩ = some (.slice av_127 nv_127 cv_127) ∧
 ∃ (v_127 : Int), cell h19 ⟨bv_126, ((ov_126 + (k_8).toNat * 4) + 1), none⟩ = some (.int .i64 v_127) ∧
 ∃ (v_127_1 : Int), cell h19 ⟨bv_126, ((ov_126 + (k_8).toNat * 4) + 2), none⟩ = some (.int .i64 v_127_1) ∧
 ∃ (av_127_1 : Option Addr) (nv_127_1 cv_127_1 : Nat), cell h19 ⟨bv_126, ((ov_126 + (k_8).toNat * 4) + 3), none⟩ = some (.slice av_127_1 nv_127_1 cv_127_1) ∧
 (∀ h22, S_3 h22 →
 ∃ (av_127_2 : Option Addr) (nv_127_2 cv_127_2 : Nat), cell h22 ⟨bv_126, ((ov_126 + (k_8).toNat * 4) + 0), none⟩ = some (.slice av_127_2 nv_127_2 cv_127_2) ∧
 ∃ (v_127_2 : Int), cell h22 ⟨bv_126, ((ov_126 + (k_8).toNat * 4) + 1), none⟩ = some (.int .i64 v_127_2) ∧
 ∃ (v_127_3 : Int), cell h22 ⟨bv_126, ((ov_126 + (k_8).toNat * 4) + 2), none⟩ = some (.int .i64 v_127_3) ∧
 ∃ (av_127_3 : Option Addr) (nv_127_3 cv_127_3 : Nat), cell h22 ⟨bv_126, ((ov_126 + (k_8).toNat * 4) + 3), none⟩ = some (.slice av_127_3 nv_127_3 cv_127_3) ∧
 Slot.v (.agg ⟨[(.slice av_127_2 nv_127_2 cv_127_2), (.int .i64 v_127_2), (.int .i64 v_127_3), (.slice av_127_3 nv_127_3 cv_127_3)]⟩) = Slot.v (.agg ⟨[(.slice av_127 nv_127 cv_127), (.int .i64 v_127), (.int .i64 v_127_1), (.slice av_127_1 nv_127_1 cv_127_1)]⟩) ∧ (Slot.v (.agg ⟨[(.slice av_127 nv_127 cv_127), (.int .i64 v_127), (.int .i64 v_127_1), (.slice av_127_1 nv_127_1 cv_127_1)]⟩)).val ≠ none) ∧
 ∃ (av_129 : Option Addr) (nv_129 cv_129 : Nat), cell h19 ⟨bv_128, (ov_128 + 4), none⟩ = some (.slice av_129 nv_129 cv_129) ∧
 (∀ h23, S_3 h23 →
 ∃ (av_129_1 : Option Addr) (nv_129_1 cv_129_1 : Nat), cell h23 ⟨bv_128, (ov_128 + 4), none⟩ = some (.slice av_129_1 nv_129_1 cv_129_1) ∧
 Slot.v (.slice av_129_1 nv_129_1 cv_129_1) = Slot.v (.slice av_129 nv_129 cv_129) ∧ (Slot.v (.slice av_129 nv_129 cv_129)).val ≠ none) ∧
 0 ≤ k_8 ∧ k_8 < (↑nv_129 : Int) ∧
 (onP av_129 fun bv_131 ov_131 =>
 ∃ (av_132 : Option Addr) (nv_132 cv_132 : Nat), cell h19 ⟨bv_131, ((ov_131 + (k_8).toNat * 4) + 0), none⟩ = some (.slice av_132 nv_132 cv_132) ∧
 ∃ (v_132 : Int), cell h19 ⟨bv_131, ((ov_131 + (k_8).toNat * 4) + 1), none⟩ = some (.int .i64 v_132) ∧
 ∃ (v_132_1 : Int), cell h19 ⟨bv_131, ((ov_131 + (k_8).toNat * 4) + 2), none⟩ = some (.int .i64 v_132_1) ∧
 ∃ (av_132_1 : Option Addr) (nv_132_1 cv_132_1 : Nat), cell h19 ⟨bv_131, ((ov_131 + (k_8).toNat * 4) + 3), none⟩ = some (.slice av_132_1 nv_132_1 cv_132_1) ∧
 (∀ h24, S_3 h24 →
 ∃ (av_132_2 : Option Addr) (nv_132_2 cv_132_2 : Nat), cell h24 ⟨bv_131, ((ov_131 + (k_8).toNat * 4) + 0), none⟩ = some (.slice av_132_2 nv_132_2 cv_132_2) ∧
 ∃ (v_132_2 : Int), cell h24 ⟨bv_131, ((ov_131 + (k_8).toNat * 4) + 1), none⟩ = some (.int .i64 v_132_2) ∧
 ∃ (v_132_3 : Int), cell h24 ⟨bv_131, ((ov_131 + (k_8).toNat * 4) + 2), none⟩ = some (.int .i64 v_132_3) ∧
 ∃ (av_132_3 : Option Addr) (nv_132_3 cv_132_3 : Nat), cell h24 ⟨bv_131, ((ov_131 + (k_8).toNat * 4) + 3), none⟩ = some (.slice av_132_3 nv_132_3 cv_132_3) ∧
 Slot.v (.agg ⟨[(.slice av_132_2 nv_132_2 cv_132_2), (.int .i64 v_132_2), (.int .i64 v_132_3), (.slice av_132_3 nv_132_3 cv_132_3)]⟩) = Slot.v (.agg ⟨[(.slice av_132 nv_132 cv_132), (.int .i64 v_132), (.int .i64 v_132_1), (.slice av_132_1 nv_132_1 cv_132_1)]⟩) ∧ (Slot.v (.agg ⟨[(.slice av_132 nv_132 cv_132), (.int .i64 v_132), (.int .i64 v_132_1), (.slice av_132_1 nv_132_1 cv_132_1)]⟩)).val ≠ none) ∧
 ((∀ (bb_9 : Nat) (h25 : H), New h19 (.cells ⟨[(.slice none 0 0), (.int .i64 0), (.int .i64 0), (.slice none 0 0)]⟩ 50) bb_9 h25 →
 S_3 h25 ∧
 ∀ (bc_10 : Nat) (h26 : H), New h25 (.cells ⟨[(.slice none 0 0), (.int .i64 0), (.int .i64 0), (.slice none 0 0)]⟩ 50) bc_10 h26 →
 S_3 h26 ∧
 stQ 4 h26 bb_9 0 [(.slice av_127 nv_127 cv_127), (.int .i64 v_127), (.int .i64 v_127_1), (.slice av_127_1 nv_127_1 cv_127_1)] fun h27 =>
 S_3 h27 ∧
 stQ 4 h27 bc_10 0 [(.slice av_132 nv_132 cv_132), (.int .i64 v_132), (.int .i64 v_132_1), (.slice av_132_1 nv_132_1 cv_132_1)] fun h28 =>
 J_5 (some ⟨bb_9, 0, none⟩) (some ⟨bc_10, 0, none⟩) h28) ∧
 ∀ (bc_10_1 : Nat) (h29 : H), New h19 (.cells ⟨[(.slice none 0 0), (.int .i64 0), (.int .i64 0), (.slice none 0 0)]⟩ 50) bc_10_1 h29 →
 S_3 h29 ∧
 ∀ (bb_9_1 : Nat) (h30 : H), New h29 (.cells ⟨[(.slice none 0 0), (.int .i64 0), (.int .i64 0), (.slice none 0 0)]⟩ 50) bb_9_1 h30 →
 S_3 h30 ∧
 stQ 4 h30 bb_9_1 0 [(.slice av_127 nv_127 cv_127), (.int .i64 v_127), (.int .i64 v_127_1), (.slice av_127_1 nv_127_1 cv_127_1)] fun h31 =>
 S_3 h31 ∧
 stQ 4 h31 bc_10_1 0 [(.slice av_132 nv_132 cv_132), (.int .i64 v_132), (.int .i64 v_132_1), (.slice av_132_1 nv_132_1 cv_132_1)] fun h32 =>
 J_5 (some ⟨bb_9_1, 0, none⟩) (some ⟨bc_10_1, 0, none⟩) h32)))))) ∧
 ∀ (pb_9 : Option Addr), ∀ (pc_10 : Option Addr), ∀ h20 : H, J_5 pb_9 pc_10 h20 →
 ∃ J_6 : Bool → H → Prop, ((onP pb_9 fun bv_133 ov_133 =>
 (onP pc_10 fun bv_136 ov_136 =>
 ∃ (av_134 : Option Addr) (nv_134 cv_134 : Nat), cell h20 ⟨bv_133, (ov_133 + 0), none⟩ = some (.slice av_134 nv_134 cv_134) ∧
 ∃ (av_137 : Option Addr) (nv_137 cv_137 : Nat), cell h20 ⟨bv_136, (ov_136 + 0), none⟩ = some (.slice av_137 nv_137 cv_137) ∧
 (((¬ (↑nv_134 : Int) = (↑nv_137 : Int)) →
 J_6 true h20) ∧
 (¬ (¬ (↑nv_134 : Int) = (↑nv_137 : Int)) →
 (onP pc_10 fun bv_141 ov_141 =>
 (onP pb_9 fun bv_143 ov_143 =>
 (onP pb_9 fun bv_148 ov_148 =>
 ∃ (av_142 : Option Addr) (nv_142 cv_142 : Nat), cell h20 ⟨bv_141, (ov_141 + 0), none⟩ = some (.slice av_142 nv_142 cv_142) ∧
 ∃ (av_144 : Option Addr) (nv_144 cv_144 : Nat), cell h20 ⟨bv_143, (ov_143 + 0), none⟩ = some (.slice av_144 nv_144 cv_144) ∧
 InR .i64 ((↑nv_144 : Int) + 1) ∧
 nv_142 ≤ cv_142 ∧ 0 ≤ ((↑nv_144 : Int) + 1) ∧ ((↑nv_144 : Int) + 1) ≤ (↑cv_142 : Int) ∧ 
 ∃ qv_147 : Option Addr, qv_147 = av_142 ∧
 ∃ (av_149 : Option Addr) (nv_149 cv_149 : Nat), cell h20 ⟨bv_148, (ov_148 + 0), none⟩ = some (.slice av_149 nv_149 cv_149) ∧
 0 ≤ (↑nv_149 : Int) ∧ (↑nv_149 : Int) < (↑((((↑nv_144 : Int) + 1) - 0).toNat) : Int) ∧
 (onP qv_147 fun bv_151 ov_151 =>
 ∃ (v_153 : Int), cell h20 ⟨bv_151, ((ov_151 + ((↑nv_149 : Int)).toNat * 4) + 0), none⟩ = some (.int .i64 v_153) ∧
 (((¬ v_153 = (-71)) →
 J_6 true h20) ∧
 (¬ (¬ v_153 = (-71)) →
 (onP pb_9 fun bv_157 ov_157 =>
 (onP pc_10 fun bv_160 ov_160 =>
 ∃ (v_159 : Int), cell h20 ⟨bv_157, ((ov_157 + 1) + 0), none⟩ = some (.int .i64 v_159) ∧
 ∃ (v_162 : Int), cell h20 ⟨bv_160, ((ov_160 + 1) + 0), none⟩ = some (.int .i64 v_162) ∧
 (((¬ v_159 = v_162) →
 J_6 true h20) ∧
 (¬ (¬ v_159 = v_162) →
 (onP pb_9 fun bv_166 ov_166 =>
 (onP pc_10 fun bv_169 ov_169 =>
 ∃ (v_168 : Int), cell h20 ⟨bv_166, ((ov_166 + 1) + 1), none⟩ = some (.int .i64 v_168) ∧
 ∃ (v_171 : Int), cell h20 ⟨bv_169, ((ov_169 + 1) + 1), none⟩ = some (.int .i64 v_171) ∧
 (((¬ v_168 = v_171) →
 J_6 true h20) ∧
 (¬ (¬ v_168 = v_171) →
 (onP pc_10 fun bv_175 ov_175 =>
 (onP pb_9 fun bv_178 ov_178 =>
 ∃ (av_177 : Option Addr) (nv_177 cv_177 : Nat), cell h20 ⟨bv_175, ((ov_175 + 1) + 2), none⟩ = some (.slice av_177 nv_177 cv_177) ∧
 ∃ (av_180 : Option Addr) (nv_180 cv_180 : Nat), cell h20 ⟨bv_178, ((ov_178 + 1) + 2), none⟩ = some (.slice av_180 nv_180 cv_180) ∧
 HC Tryd.prog 14 [(.slice av_177 nv_177 cv_177), (.slice av_180 nv_180 cv_180)] h20 fun rv_181 h34 =>
 ∃ (v_181 : Bool), rv_181 = (.bool v_181) ∧
 J_6 (!v_181) h34))))))))))))))))))))) ∧
 ∀ (v_183 : Bool), ∀ h33 : H, J_6 v_183 h33 →
 ((v_183 = true →
 R (.bool false) h33) ∧
 (v_183 = false →
 ∃ J_7 : Int → LI, (J_7 0).1 h33 ∧
 ∀ (j_11 : Int), ∀ h35 : H, (J_7 j_11).1 h35 →
 (onP pb_9 fun bv_185 ov_185 =>
 ∃ (av_186 : Option Addr) (nv_186 cv_186 : Nat), cell h35 ⟨bv_185, (ov_185 + 0), none⟩ = some (.slice av_186 nv_186 cv_186) ∧
 (((j_11 < (↑nv_186 : Int)) →
 ∃ J_8 : Option Addr → Option Addr → H → Prop, (∃ S_5 : H → Prop, S_5 h35 ∧
 (onP pb_9 fun bv_191 ov_191 =>
 (onP pc_10 fun bv_196 ov_196 =>
 ∃ (av_192 : Option Addr) (nv_192 cv_192 : Nat), cell h35 ⟨bv_191, (ov_191 + 0), none⟩ = some (.slice av_192 nv_192 cv_192) ∧
 (∀ h37, S_5 h37 →
 ∃ (av_192_1 : Option Addr) (nv_192_1 cv_192_1 : Nat), cell h37 ⟨bv_191, (ov_191 + 0), none⟩ = some (.slice av_192_1 nv_192_1 cv_192_1) ∧
 Slot.v (.slice av_192_1 nv_192_1 cv_192_1) = Slot.v (.slice av_192 nv_192 cv_192) ∧ (Slot.v (.slice av_192 nv_192 cv_192)).val ≠ none) ∧
 0 ≤ j_11 ∧ j_11 < (↑nv_192 : Int) ∧
 (onP av_192 fun bv_194 ov_194 =>
 ∃ (v_195 : Int), cell h35 ⟨bv_194, ((ov_194 + (j_11).toNat * 4) + 0), none⟩ = some (.int .i64 v_195) ∧
 ∃ (v_195_1 : Int), cell h35 ⟨bv_194, ((ov_194 + (j_11).toNat * 4) + 1), none⟩ = some (.int .i64 v_195_1) ∧
 ∃ (v_195_2 : Int), cell h35 ⟨bv_194, ((ov_194 + (j_11).toNat * 4) + 2), none⟩ = some (.int .i64 v_195_2) ∧
 ∃ (av_195 : Option Addr) (nv_195 cv_195 : Nat), cell h35 ⟨bv_194, ((ov_194 + (j_11).toNat * 4) + 3), none⟩ = some (.slice av_195 nv_195 cv_195) ∧
 (∀ h38, S_5 h38 →
 ∃ (v_195_3 : Int), cell h38 ⟨bv_194, ((ov_194 + (j_11).toNat * 4) + 0), none⟩ = some (.int .i64 v_195_3) ∧
 ∃ (v_195_4 : Int), cell h38 ⟨bv_194, ((ov_194 + (j_11).toNat * 4) + 1), none⟩ = some (.int .i64 v_195_4) ∧
 ∃ (v_195_5 : Int), cell h38 ⟨bv_194, ((ov_194 + (j_11).toNat * 4) + 2), none⟩ = some (.int .i64 v_195_5) ∧
 ∃ (av_195_1 : Option Addr) (nv_195_1 cv_195_1 : Nat), cell h38 ⟨bv_194, ((ov_194 + (j_11).toNat * 4) + 3), none⟩ = some (.slice av_195_1 nv_195_1 cv_195_1) ∧
 Slot.v (.agg ⟨[(.int .i64 v_195_3), (.int .i64 v_195_4), (.int .i64 v_195_5), (.slice av_195_1 nv_195_1 cv_195_1)]⟩) = Slot.v (.agg ⟨[(.int .i64 v_195), (.int .i64 v_195_1), (.int .i64 v_195_2), (.slice av_195 nv_195 cv_195)]⟩) ∧ (Slot.v (.agg ⟨[(.int .i64 v_195), (.int .i64 v_195_1), (.int .i64 v_195_2), (.slice av_195 nv_195 cv_195)]⟩)).val ≠ none) ∧
 ∃ (av_197 : Option Addr) (nv_197 cv_197 : Nat), cell h35 ⟨bv_196, (ov_196 + 0), none⟩ = some (.slice av_197 nv_197 cv_197) ∧
 (∀ h39, S_5 h39 →
 ∃ (av_197_1 : Option Addr) (nv_197_1 cv_197_1 : Nat), cell h39 ⟨bv_196, (ov_196 + 0), none⟩ = some (.slice av_197_1 nv_197_1 cv_197_1) ∧
 Slot.v (.slice av_197_1 nv_197_1 cv_197_1) = Slot.v (.slice av_197 nv_197 cv_197) ∧ (Slot.v (.slice av_197 nv_197 cv_197)).val ≠ none) ∧
 0 ≤ j_11 ∧ j_11 < (↑nv_197 : Int) ∧
 (onP av_197 fun bv_199 ov_199 =>
 ∃ (v_200 : Int), cell h35 ⟨bv_199, ((ov_199 + (j_11).toNat * 4) + 0), none⟩ = some (.int .i64 v_200) ∧
 ∃ (v_200_1 : Int), cell h35 ⟨bv_199, ((ov_199 + (j_11).toNat * 4) + 1), none⟩ = some (.int .i64 v_200_1) ∧
 ∃ (v_200_2 : Int), cell h35 ⟨bv_199, ((ov_199 + (j_11).toNat * 4) + 2), none⟩ = some (.int .i64 v_200_2) ∧
 ∃ (av_200 : Option Addr) (nv_200 cv_200 : Nat), cell h35 ⟨bv_199, ((ov_199 + (j_11).toNat * 4) + 3), none⟩ = some (.slice av_200 nv_200 cv_200) ∧
 (∀ h40, S_5 h40 →
 ∃ (v_200_3 : Int), cell h40 ⟨bv_199, ((ov_199 + (j_11).toNat * 4) + 0), none⟩ = some (.int .i64 v_200_3) ∧
 ∃ (v_200_4 : Int), cell h40 ⟨bv_199, ((ov_199 + (j_11).toNat * 4) + 1), none⟩ = some (.int .i64 v_200_4) ∧
 ∃ (v_200_5 : Int), cell h40 ⟨bv_199, ((ov_199 + (j_11).toNat * 4) + 2), none⟩ = some (.int .i64 v_200_5) ∧
 ∃ (av_200_1 : Option Addr) (nv_200_1 cv_200_1 : Nat), cell h40 ⟨bv_199, ((ov_199 + (j_11).toNat * 4) + 3), none⟩ = some (.slice av_200_1 nv_200_1 cv_200_1) ∧
 Slot.v (.agg ⟨[(.int .i64 v_200_3), (.int .i64 v_200_4), (.int .i64 v_200_5), (.slice av_200_1 nv_200_1 cv_200_1)]⟩) = Slot.v (.agg ⟨[(.int .i64 v_200), (.int .i64 v_200_1), (.int .i64 v_200_2), (.slice av_200 nv_200 cv_200)]⟩) ∧ (Slot.v (.agg ⟨[(.int .i64 v_200), (.int .i64 v_200_1), (.int .i64 v_200_2), (.slice av_200 nv_200 cv_200)]⟩)).val ≠ none) ∧
 ((∀ (by_12 : Nat) (h41 : H), New h35 (.cells ⟨[(.int .i64 0), (.int .i64 0), (.int .i64 0), (.slice none 0 0)]⟩ 71) by_12 h41 →
 S_5 h41 ∧
 ∀ (bz_13 : Nat) (h42 : H), New h41 (.cells ⟨[(.int .i64 0), (.int .i64 0), (.int .i64 0), (.slice none 0 0)]⟩ 71) bz_13 h42 →
 S_5 h42 ∧
 stQ 4 h42 by_12 0 [(.int .i64 v_195), (.int .i64 v_195_1), (.int .i64 v_195_2), (.slice av_195 nv_195 cv_195)] fun h43 =>
 S_5 h43 ∧
 stQ 4 h43 bz_13 0 [(.int .i64 v_200), (.int .i64 v_200_1), (.int .i64 v_200_2), (.slice av_200 nv_200 cv_200)] fun h44 =>
 J_8 (some ⟨by_12, 0, none⟩) (some ⟨bz_13, 0, none⟩) h44) ∧
 ∀ (bz_13_1 : Nat) (h45 : H), New h35 (.cells ⟨[(.int .i64 0), (.int .i64 0), (.int .i64 0), (.slice none 0 0)]⟩ 71) bz_13_1 h45 →
 S_5 h45 ∧
 ∀ (by_12_1 : Nat) (h46 : H), New h45 (.cells ⟨[(.int .i64 0), (.int .i64 0), (.int .i64 0), (.slice none 0 0)]⟩ 71) by_12_1 h46 →
 S_5 h46 ∧
 stQ 4 h46 by_12_1 0 [(.int .i64 v_195), (.int .i64 v_195_1), (.int .i64 v_195_2), (.slice av_195 nv_195 cv_195)] fun h47 =>
 S_5 h47 ∧
 stQ 4 h47 bz_13_1 0 [(.int .i64 v_200), (.int .i64 v_200_1), (.int .i64 v_200_2), (.slice av_200 nv_200 cv_200)] fun h48 =>
 J_8 (some ⟨by_12_1, 0, none⟩) (some ⟨bz_13_1, 0, none⟩) h48)))))) ∧
 ∀ (py_12 : Option Addr), ∀ (pz_13 : Option Addr), ∀ h36 : H, J_8 py_12 pz_13 h36 →
 (onP py_12 fun bv_201 ov_201 =>
 ∃ (v_202 : Int), cell h36 ⟨bv_201, (ov_201 + 0), none⟩ = some (.int .i64 v_202) ∧
 (onP pz_13 fun bv_203 ov_203 =>
 ∃ (v_204 : Int), cell h36 ⟨bv_203, (ov_203 + 0), none⟩ = some (.int .i64 v_204) ∧
 (((¬ v_202 = v_204) →
 R (.bool false) h36) ∧
 (¬ (¬ v_202 = v_204) →
 (onP py_12 fun bv_207 ov_207 =>
 ∃ (v_208 : Int), cell h36 ⟨bv_207, (ov_207 + 1), none⟩ = some (.int .i64 v_208) ∧
 (onP pz_13 fun bv_209 ov_209 =>
 ∃ (v_210 : Int), cell h36 ⟨bv_209, (ov_209 + 1), none⟩ = some (.int .i64 v_210) ∧
 (((¬ v_208 = v_210) →
 R (.bool false) h36) ∧
 (¬ (¬ v_208 = v_210) →
 (onP py_12 fun bv_214 ov_214 =>
 ∃ (v_215 : Int), cell h36 ⟨bv_214, (ov_214 + 2), none⟩ = some (.int .i64 v_215) ∧
 (onP pz_13 fun bv_216 ov_216 =>
 ∃ (v_217 : Int), cell h36 ⟨bv_216, (ov_216 + 2), none⟩ = some (.int .i64 v_217) ∧
 (((¬ v_215 = v_217) →
 R (.bool false) h36) ∧
 (¬ (¬ v_215 = v_217) →
 (onP pz_13 fun bv_221 ov_221 =>
 ∃ (av_222 : Option Addr) (nv_222 cv_222 : Nat), cell h36 ⟨bv_221, (ov_221 + 3), none⟩ = some (.slice av_222 nv_222 cv_222) ∧
 (onP py_12 fun bv_223 ov_223 =>
 ∃ (av_224 : Option Addr) (nv_224 cv_224 : Nat), cell h36 ⟨bv_223, (ov_223 + 3), none⟩ = some (.slice av_224 nv_224 cv_224) ∧
 HC Tryd.prog 14 [(.slice av_222 nv_222 cv_222), (.slice av_224 nv_224 cv_224)] h36 fun rv_225 h49 =>
 ∃ (v_225 : Bool), rv_225 = (.bool v_225) ∧
 (((!v_225) = true →
 R (.bool false) h49) ∧
 ((!v_225) = false →
 InR .i64 (j_11 + 1) ∧
 (J_7 (j_11 + 1)).1 h49 ∧ (J_7 (j_11 + 1)).2 h49 < (J_7 j_11).2 h35))))))))))))))))) ∧
 (¬ (j_11 < (↑nv_186 : Int)) →
 InR .i64 (k_8 + 1) ∧
 (J_4 (k_8 + 1)).1 h35 ∧ (J_4 (k_8 + 1)).2 h35 < (J_4 k_8).2 h19)))))) ∧
 (¬ (k_8 < (↑nv_118 : Int)) →
 InR .i64 (i_5 + 1) ∧
 (J_1 (i_5 + 1)).1 h19 ∧ (J_1 (i_5 + 1)).2 h19 < (J_1 i_5).2 h3)))))) ∧
 (¬ (i_5 < (↑nv_45 : Int)) →
 R (.bool true) h3))))
theorem hc13 {px_0 : Option Addr} {al_1 : Option Addr} {nl_1 cl_1 : Nat} {l_1 : Int} {h : H} {R : Value → H → Prop} (x : sh13 px_0 al_1 nl_1 cl_1 l_1 h R) : HC Tryd.prog 13 [(.pointer px_0), (.agg ⟨[(.slice al_1 nl_1 cl_1), (.int .i64 l_1)]⟩)] h R :=
  FL.sound mixed ck13 ⟨rfl, Eq.mp (by unfold sh13; kernel_rfl) x⟩
/- quern/quernlaw17.kept -/
def fl14 : FL := ⟨47, (.seq (.reg [sv 4 (.mov (cb false))]) (.seq (.seq (.reg [sv 7 (.mov (t 0)), sv 8 (.len (t 7)), sv 9 (.mov (t 1)), sv 10 (.len (t 9)), sv 11 (.cmp .neq (t 8) (t 10))]) (.cond (t 11) (.seq (.reg [sv 4 (.mov (cb false))]) .ret) .skip)) (.seq (.reg [sv 12 (.mov (t 0)), sv 13 (.mov (t 0)), sv 14 (.len (t 13)), sv 15 (.ar .add true (t 14) (ci 2)), sv 16 (.slc 1 (t 12) none (some (t 15))), sv 5 (.mov (t 16))]) (.seq (.seq (.reg [sv 6 (.mov (ci 0))]) (.block 0 (.loop [(6, (.one (.int .i64)))] [4, 6, 17, 18, 19, 20, 21, 22, 23, 24, 25, 26, 27, 28, 29, 30, 31] (.seq (.seq (.reg [sv 17 (.mov (t 6)), sv 18 (.mov (t 1)), sv 19 (.len (t 18)), sv 20 (.cmp .lss (t 17) (t 19))]) (.cond (t 20) .skip (.exit 0))) (.seq (.block 1 (.seq (.drw .eq [] [23, 24, 25, 26, 27, 28, 29, 30, 31] (.takeP 0 (sv 23 (.mov (t 5))) (.takeP 1 (sv 24 (.mov (t 6))) (.takeP 2 (sv 25 (.idx 1 (t 23) (t 24))) (.takeP 4 (sv 27 (.mov (t 1))) (.takeP 5 (sv 28 (.mov (t 6))) (.takeP 6 (sv 29 (.idx 1 (t 27) (t 28))) (.takeR 3 (sv 26 (.ld (.int .i64) (t 25))) (.takeR 7 (sv 30 (.ld (.int .i64) (t 29))) (.takeP 8 (sv 31 (.cmp .neq (t 26) (t 30))) .done)))))))))) (.cond (t 31) (.seq (.reg [sv 4 (.mov (cb false))]) .ret) .skip))) (.reg [sv 21 (.mov (t 6)), sv 22 (.ar .add true (t 21) (ci 1)), sv 6 (.mov (t 22))])))))) (.seq (.reg [sv 32 (.mov (t 5)), sv 33 (.mov (t 1)), sv 34 (.len (t 33)), sv 35 (.idx 1 (t 32) (t 34)), sv 36 (.ld (.int .i64) (t 35)), sv 37 (.cmp .eql (t 36) (ci (-71))), sv 38 (.mov (t 37)), ⟨some 39, some (38, true), .v (.mov (t 5))⟩, ⟨some 40, some (38, true), .v (.mov (t 1))⟩, ⟨some 41, some (38, true), .v (.len (t 40))⟩, ⟨some 42, some (38, true), .v (.ar .add true (t 41) (ci 1))⟩, ⟨some 43, some (38, true), .v (.idx 1 (t 39) (t 42))⟩, ⟨some 44, some (38, true), .v (.ld (.int .i64) (t 43))⟩, ⟨some 45, some (38, true), .v (.cmp .eql (t 44) (ci (-72)))⟩, sv 46 (.pick (t 38) (t 45) (cb false)), sv 4 (.mov (t 46))]) .ret))))), [.tmp 4]⟩
theorem ck14 : chkFL Tryd.prog 14 fl14 = true := by kernel_rfl
def sh14 (al_0 : Option Addr) (nl_0 cl_0 : Nat) (awas_1 : Option Addr) (nwas_1 cwas_1 : Nat) (h : H) (R : Value → H → Prop) : Prop :=
 (((¬ (↑nl_0 : Int) = (↑nwas_1 : Int)) →
 R (.bool false) h) ∧
 (¬ (¬ (↑nl_0 : Int) = (↑nwas_1 : Int)) →
 InR .i64 ((↑nl_0 : Int) + 2) ∧
 nl_0 ≤ cl_0 ∧ 0 ≤ ((↑nl_0 : Int) + 2) ∧ ((↑nl_0 : Int) + 2) ≤ (↑cl_0 : Int) ∧ 
 ∃ qv_16 : Option Addr, qv_16 = al_0 ∧
 ∃ J : Int → LI, (J 0).1 h ∧
 ∀ (i_6 : Int), ∀ h1 : H, (J i_6).1 h1 →
 (((i_6 < (↑nwas_1 : Int)) →
 0 ≤ i_6 ∧ i_6 < (↑((((↑nl_0 : Int) + 2) - 0).toNat) : Int) ∧
 (onP qv_16 fun bv_25 ov_25 =>
 0 ≤ i_6 ∧ i_6 < (↑nwas_1 : Int) ∧
 (onP awas_1 fun bv_29 ov_29 =>
 ∃ (v_26 : Int), cell h1 ⟨bv_25, (ov_25 + (i_6).toNat * 1), none⟩ = some (.int .i64 v_26) ∧
 ∃ (v_30 : Int), cell h1 ⟨bv_29, (ov_29 + (i_6).toNat * 1), none⟩ = some (.int .i64 v_30) ∧
 (((¬ v_26 = v_30) →
 R (.bool false) h1) ∧
 (¬ (¬ v_26 = v_30) →
 InR .i64 (i_6 + 1) ∧
 (J (i_6 + 1)).1 h1 ∧ (J (i_6 + 1)).2 h1 < (J i_6).2 h1))))) ∧
 (¬ (i_6 < (↑nwas_1 : Int)) →
 0 ≤ (↑nwas_1 : Int) ∧ (↑nwas_1 : Int) < (↑((((↑nl_0 : Int) + 2) - 0).toNat) : Int) ∧
 (onP qv_16 fun bv_35 ov_35 =>
 ∃ (v_36 : Int), cell h1 ⟨bv_35, (ov_35 + ((↑nwas_1 : Int)).toNat * 1), none⟩ = some (.int .i64 v_36) ∧
 (((v_36 = (-71)) →
 InR .i64 ((↑nwas_1 : Int) + 1) ∧
 0 ≤ ((↑nwas_1 : Int) + 1) ∧ ((↑nwas_1 : Int) + 1) < (↑((((↑nl_0 : Int) + 2) - 0).toNat) : Int) ∧
 (onP qv_16 fun bv_43 ov_43 =>
 ∃ (v_44 : Int), cell h1 ⟨bv_43, (ov_43 + (((↑nwas_1 : Int) + 1)).toNat * 1), none⟩ = some (.int .i64 v_44) ∧
 R (.bool (decide (v_44 = (-72)))) h1)) ∧
 (¬ (v_36 = (-71)) →
 R (.bool false) h1)))))))
theorem hc14 {al_0 : Option Addr} {nl_0 cl_0 : Nat} {awas_1 : Option Addr} {nwas_1 cwas_1 : Nat} {h : H} {R : Value → H → Prop} (x : sh14 al_0 nl_0 cl_0 awas_1 nwas_1 cwas_1 h R) : HC Tryd.prog 14 [(.slice al_0 nl_0 cl_0), (.slice awas_1 nwas_1 cwas_1)] h R :=
  FL.sound mixed ck14 ⟨rfl, Eq.mp (by unfold sh14; kernel_rfl) x⟩
/- quern/quernlaw17.room -/
def fl9 : FL := ⟨12, (.seq (.reg [sv 2 (.mov (.const (Go.Value.slice none 0 0)))]) (.seq (.reg [sv 4 (.mov (t 0)), se 5 (.app 3 1 8 [.int .i64 0] (.const (Go.Value.slice none 0 0)) (t 4)), se 6 (.bsl 3 1 [.int .i64 0] 2 [(0, 1, (ci (-71))), (1, 1, (ci (-72)))]), se 7 (.app 3 1 8 [.int .i64 0] (t 5) (t 6)), sv 3 (.mov (t 7))]) (.seq (.reg [sv 8 (.mov (t 3)), sv 9 (.mov (t 0)), sv 10 (.len (t 9)), sv 11 (.slc 1 (t 8) none (some (t 10))), sv 2 (.mov (t 11))]) .ret))), [.tmp 2]⟩
theorem ck9 : chkFL Tryd.prog 9 fl9 = true := by kernel_rfl
def sh9 (al_0 : Option Addr) (nl_0 cl_0 : Nat) (h : H) (R : Value → H → Prop) : Prop :=
 apQ 3 1 8 [.int .i64 0] h none 0 0 al_0 nl_0 fun av_5 nv_5 cv_5 h1 =>
 1 = 1 ∧ 0 + 1 ≤ 2 ∧
 1 = 1 ∧ 1 + 1 ≤ 2 ∧
 ∀ (bv_6 : Nat) (h2 : H), New h1 (.cells ⟨[(.int .i64 (-71)), (.int .i64 (-72))]⟩ 3) bv_6 h2 →
 apQ 3 1 8 [.int .i64 0] h2 av_5 nv_5 cv_5 (some ⟨bv_6, 0, none⟩) 2 fun av_7 nv_7 cv_7 h3 =>
 nv_7 ≤ cv_7 ∧ 0 ≤ (↑nl_0 : Int) ∧ (↑nl_0 : Int) ≤ (↑cv_7 : Int) ∧ 
 ∃ qv_11 : Option Addr, qv_11 = av_7 ∧
 R (.slice qv_11 (((↑nl_0 : Int) - 0).toNat) (((↑cv_7 : Int) - 0).toNat)) h3
theorem hc9 {al_0 : Option Addr} {nl_0 cl_0 : Nat} {h : H} {R : Value → H → Prop} (x : sh9 al_0 nl_0 cl_0 h R) : HC Tryd.prog 9 [(.slice al_0 nl_0 cl_0)] h R :=
  FL.sound mixed ck9 ⟨rfl, Eq.mp (by unfold sh9; kernel_rfl) x⟩
/- quern/quernlaw17.one -/
def fl8 : FL := ⟨7, (.seq (.reg [se 1 (.box 25 (t 0)), sv 2 (.mov (.const (Go.Value.pointer none)))]) (.seq (.reg [sv 3 (.lda [.str, .slice, (.int .i64), (.int .i64), .slice] (t 1)), se 4 (.bsl 25 5 [.string ⟨⟨[]⟩⟩, .slice none 0 0, .int .i64 0, .int .i64 0, .slice none 0 0] 1 [(0, 5, (t 3))]), sv 5 (.bld [.slice none 0 0, .int .i64 0] [(0, 1, (t 4))]), se 6 (.call 24 [(t 5)] (.one .ptr)), sv 2 (.mov (t 6))]) .ret)), [.tmp 2]⟩
theorem ck8 : chkFL Tryd.prog 8 fl8 = true := by kernel_rfl
def sh8 (f_0 : ByteArray) (af_0 : Option Addr) (nf_0 cf_0 : Nat) (f_0_1 : Int) (f_0_2 : Int) (af_0_1 : Option Addr) (nf_0_1 cf_0_1 : Nat) (h : H) (R : Value → H → Prop) : Prop :=
 ∀ (bf_1 : Nat) (h1 : H), New h (.cells ⟨[(.string f_0), (.slice af_0 nf_0 cf_0), (.int .i64 f_0_1), (.int .i64 f_0_2), (.slice af_0_1 nf_0_1 cf_0_1)]⟩ 25) bf_1 h1 →
 ∃ (v_3 : ByteArray), cell h1 ⟨bf_1, (0 + 0), none⟩ = some (.string v_3) ∧
 ∃ (av_3 : Option Addr) (nv_3 cv_3 : Nat), cell h1 ⟨bf_1, (0 + 1), none⟩ = some (.slice av_3 nv_3 cv_3) ∧
 ∃ (v_3_1 : Int), cell h1 ⟨bf_1, (0 + 2), none⟩ = some (.int .i64 v_3_1) ∧
 ∃ (v_3_2 : Int), cell h1 ⟨bf_1, (0 + 3), none⟩ = some (.int .i64 v_3_2) ∧
 ∃ (av_3_1 : Option Addr) (nv_3_1 cv_3_1 : Nat), cell h1 ⟨bf_1, (0 + 4), none⟩ = some (.slice av_3_1 nv_3_1 cv_3_1) ∧
 5 = 5 ∧ 0 + 5 ≤ 5 ∧
 ∀ (bv_4 : Nat) (h2 : H), New h1 (.cells ⟨[(.string v_3), (.slice av_3 nv_3 cv_3), (.int .i64 v_3_1), (.int .i64 v_3_2), (.slice av_3_1 nv_3_1 cv_3_1)]⟩ 25) bv_4 h2 →
 1 = 1 ∧ 0 + 1 ≤ 2 ∧
 HC Tryd.prog 24 [(.agg ⟨[(.slice (some ⟨bv_4, 0, none⟩) 1 1), (.int .i64 0)]⟩)] h2 fun rv_6 h3 =>
 ∃ (pv_6 : Option Addr), rv_6 = (.pointer pv_6) ∧
 R (.pointer pv_6) h3
theorem hc8 {f_0 : ByteArray} {af_0 : Option Addr} {nf_0 cf_0 : Nat} {f_0_1 : Int} {f_0_2 : Int} {af_0_1 : Option Addr} {nf_0_1 cf_0_1 : Nat} {h : H} {R : Value → H → Prop} (x : sh8 f_0 af_0 nf_0 cf_0 f_0_1 f_0_2 af_0_1 nf_0_1 cf_0_1 h R) : HC Tryd.prog 8 [(.agg ⟨[(.string f_0), (.slice af_0 nf_0 cf_0), (.int .i64 f_0_1), (.int .i64 f_0_2), (.slice af_0_1 nf_0_1 cf_0_1)]⟩)] h R :=
  FL.sound mixed ck8 ⟨rfl, Eq.mp (by unfold sh8; kernel_rfl) x⟩
/- quern/quernlaw17.sameSpans -/
def fl12 : FL := ⟨26, (.seq (.reg [sv 4 (.mov (cb false))]) (.seq (.seq (.reg [sv 6 (.mov (t 0)), sv 7 (.len (t 6)), sv 8 (.mov (t 1)), sv 9 (.len (t 8)), sv 10 (.cmp .neq (t 7) (t 9))]) (.cond (t 10) (.seq (.reg [sv 4 (.mov (cb false))]) .ret) .skip)) (.seq (.seq (.reg [sv 5 (.mov (ci 0))]) (.block 0 (.loop [(5, (.one (.int .i64)))] [4, 5, 11, 12, 13, 14, 15, 16, 17, 18, 19, 20, 21, 22, 23, 24, 25] (.seq (.seq (.reg [sv 11 (.mov (t 5)), sv 12 (.mov (t 0)), sv 13 (.len (t 12)), sv 14 (.cmp .lss (t 11) (t 13))]) (.cond (t 14) .skip (.exit 0))) (.seq (.block 1 (.seq (.drw .eq [] [17, 18, 19, 20, 21, 22, 23, 24, 25] (.takeP 0 (sv 17 (.mov (t 0))) (.takeP 1 (sv 18 (.mov (t 5))) (.takeP 2 (sv 19 (.idx 3 (t 17) (t 18))) (.takeP 4 (sv 21 (.mov (t 1))) (.takeP 5 (sv 22 (.mov (t 5))) (.takeP 6 (sv 23 (.idx 3 (t 21) (t 22))) (.takeR 3 (sv 20 (.lda [(.int .i64), (.int .i64), (.int .i64)] (t 19))) (.takeR 7 (sv 24 (.lda [(.int .i64), (.int .i64), (.int .i64)] (t 23))) (.takeP 8 (sv 25 (.eqa .neq [(.int .i64), (.int .i64), (.int .i64)] (t 20) (t 24))) .done)))))))))) (.cond (t 25) (.seq (.reg [sv 4 (.mov (cb false))]) .ret) .skip))) (.reg [sv 15 (.mov (t 5)), sv 16 (.ar .add true (t 15) (ci 1)), sv 5 (.mov (t 16))])))))) (.seq (.reg [sv 4 (.mov (cb true))]) .ret)))), [.tmp 4]⟩
theorem ck12 : chkFL Tryd.prog 12 fl12 = true := by kernel_rfl
def sh12 (aa_0 : Option Addr) (na_0 ca_0 : Nat) (ab_1 : Option Addr) (nb_1 cb_1 : Nat) (h : H) (R : Value → H → Prop) : Prop :=
 (((¬ (↑na_0 : Int) = (↑nb_1 : Int)) →
 R (.bool false) h) ∧
 (¬ (¬ (↑na_0 : Int) = (↑nb_1 : Int)) →
 ∃ J : Int → LI, (J 0).1 h ∧
 ∀ (i_5 : Int), ∀ h1 : H, (J i_5).1 h1 →
 (((i_5 < (↑na_0 : Int)) →
 0 ≤ i_5 ∧ i_5 < (↑na_0 : Int) ∧
 (onP aa_0 fun bv_19 ov_19 =>
 0 ≤ i_5 ∧ i_5 < (↑nb_1 : Int) ∧
 (onP ab_1 fun bv_23 ov_23 =>
 ∃ (v_20 : Int), cell h1 ⟨bv_19, ((ov_19 + (i_5).toNat * 3) + 0), none⟩ = some (.int .i64 v_20) ∧
 ∃ (v_20_1 : Int), cell h1 ⟨bv_19, ((ov_19 + (i_5).toNat * 3) + 1), none⟩ = some (.int .i64 v_20_1) ∧
 ∃ (v_20_2 : Int), cell h1 ⟨bv_19, ((ov_19 + (i_5).toNat * 3) + 2), none⟩ = some (.int .i64 v_20_2) ∧
 ∃ (v_24 : Int), cell h1 ⟨bv_23, ((ov_23 + (i_5).toNat * 3) + 0), none⟩ = some (.int .i64 v_24) ∧
 ∃ (v_24_1 : Int), cell h1 ⟨bv_23, ((ov_23 + (i_5).toNat * 3) + 1), none⟩ = some (.int .i64 v_24_1) ∧
 ∃ (v_24_2 : Int), cell h1 ⟨bv_23, ((ov_23 + (i_5).toNat * 3) + 2), none⟩ = some (.int .i64 v_24_2) ∧
 (((¬ (v_20 = v_24 ∧ (v_20_1 = v_24_1 ∧ v_20_2 = v_24_2))) →
 R (.bool false) h1) ∧
 (¬ (¬ (v_20 = v_24 ∧ (v_20_1 = v_24_1 ∧ v_20_2 = v_24_2))) →
 InR .i64 (i_5 + 1) ∧
 (J (i_5 + 1)).1 h1 ∧ (J (i_5 + 1)).2 h1 < (J i_5).2 h1))))) ∧
 (¬ (i_5 < (↑na_0 : Int)) →
 R (.bool true) h1))))
theorem hc12 {aa_0 : Option Addr} {na_0 ca_0 : Nat} {ab_1 : Option Addr} {nb_1 cb_1 : Nat} {h : H} {R : Value → H → Prop} (x : sh12 aa_0 na_0 ca_0 ab_1 nb_1 cb_1 h R) : HC Tryd.prog 12 [(.slice aa_0 na_0 ca_0), (.slice ab_1 nb_1 cb_1)] h R :=
  FL.sound mixed ck12 ⟨rfl, Eq.mp (by unfold sh12; kernel_rfl) x⟩
/- quern/quernlaw17.sameInts -/
def fl49 : FL := ⟨26, (.seq (.reg [sv 4 (.mov (cb false))]) (.seq (.seq (.reg [sv 6 (.mov (t 0)), sv 7 (.len (t 6)), sv 8 (.mov (t 1)), sv 9 (.len (t 8)), sv 10 (.cmp .neq (t 7) (t 9))]) (.cond (t 10) (.seq (.reg [sv 4 (.mov (cb false))]) .ret) .skip)) (.seq (.seq (.reg [sv 5 (.mov (ci 0))]) (.block 0 (.loop [(5, (.one (.int .i64)))] [4, 5, 11, 12, 13, 14, 15, 16, 17, 18, 19, 20, 21, 22, 23, 24, 25] (.seq (.seq (.reg [sv 11 (.mov (t 5)), sv 12 (.mov (t 0)), sv 13 (.len (t 12)), sv 14 (.cmp .lss (t 11) (t 13))]) (.cond (t 14) .skip (.exit 0))) (.seq (.block 1 (.seq (.drw .eq [] [17, 18, 19, 20, 21, 22, 23, 24, 25] (.takeP 0 (sv 17 (.mov (t 0))) (.takeP 1 (sv 18 (.mov (t 5))) (.takeP 2 (sv 19 (.idx 1 (t 17) (t 18))) (.takeP 4 (sv 21 (.mov (t 1))) (.takeP 5 (sv 22 (.mov (t 5))) (.takeP 6 (sv 23 (.idx 1 (t 21) (t 22))) (.takeR 3 (sv 20 (.ld (.int .i64) (t 19))) (.takeR 7 (sv 24 (.ld (.int .i64) (t 23))) (.takeP 8 (sv 25 (.cmp .neq (t 20) (t 24))) .done)))))))))) (.cond (t 25) (.seq (.reg [sv 4 (.mov (cb false))]) .ret) .skip))) (.reg [sv 15 (.mov (t 5)), sv 16 (.ar .add true (t 15) (ci 1)), sv 5 (.mov (t 16))])))))) (.seq (.reg [sv 4 (.mov (cb true))]) .ret)))), [.tmp 4]⟩
theorem ck49 : chkFL Tryd.prog 49 fl49 = true := by kernel_rfl
def sh49 (aa_0 : Option Addr) (na_0 ca_0 : Nat) (ab_1 : Option Addr) (nb_1 cb_1 : Nat) (h : H) (R : Value → H → Prop) : Prop :=
 (((¬ (↑na_0 : Int) = (↑nb_1 : Int)) →
 R (.bool false) h) ∧
 (¬ (¬ (↑na_0 : Int) = (↑nb_1 : Int)) →
 ∃ J : Int → LI, (J 0).1 h ∧
 ∀ (i_5 : Int), ∀ h1 : H, (J i_5).1 h1 →
 (((i_5 < (↑na_0 : Int)) →
 0 ≤ i_5 ∧ i_5 < (↑na_0 : Int) ∧
 (onP aa_0 fun bv_19 ov_19 =>
 0 ≤ i_5 ∧ i_5 < (↑nb_1 : Int) ∧
 (onP ab_1 fun bv_23 ov_23 =>
 ∃ (v_20 : Int), cell h1 ⟨bv_19, (ov_19 + (i_5).toNat * 1), none⟩ = some (.int .i64 v_20) ∧
 ∃ (v_24 : Int), cell h1 ⟨bv_23, (ov_23 + (i_5).toNat * 1), none⟩ = some (.int .i64 v_24) ∧
 (((¬ v_20 = v_24) →
 R (.bool false) h1) ∧
 (¬ (¬ v_20 = v_24) →
 InR .i64 (i_5 + 1) ∧
 (J (i_5 + 1)).1 h1 ∧ (J (i_5 + 1)).2 h1 < (J i_5).2 h1))))) ∧
 (¬ (i_5 < (↑na_0 : Int)) →
 R (.bool true) h1))))
theorem hc49 {aa_0 : Option Addr} {na_0 ca_0 : Nat} {ab_1 : Option Addr} {nb_1 cb_1 : Nat} {h : H} {R : Value → H → Prop} (x : sh49 aa_0 na_0 ca_0 ab_1 nb_1 cb_1 h R) : HC Tryd.prog 49 [(.slice aa_0 na_0 ca_0), (.slice ab_1 nb_1 cb_1)] h R :=
  FL.sound mixed ck49 ⟨rfl, Eq.mp (by unfold sh49; kernel_rfl) x⟩
/- quern/quernlaw17.sameLists -/
def fl20 : FL := ⟨27, (.seq (.reg [sv 4 (.mov (cb false))]) (.seq (.seq (.reg [sv 6 (.mov (t 0)), sv 7 (.len (t 6)), sv 8 (.mov (t 1)), sv 9 (.len (t 8)), sv 10 (.cmp .neq (t 7) (t 9))]) (.cond (t 10) (.seq (.reg [sv 4 (.mov (cb false))]) .ret) .skip)) (.seq (.seq (.reg [sv 5 (.mov (ci 0))]) (.block 0 (.loop [(5, (.one (.int .i64)))] [4, 5, 11, 12, 13, 14, 15, 16, 17, 18, 19, 20, 21, 22, 23, 24, 25, 26] (.seq (.seq (.reg [sv 11 (.mov (t 5)), sv 12 (.mov (t 0)), sv 13 (.len (t 12)), sv 14 (.cmp .lss (t 11) (t 13))]) (.cond (t 14) .skip (.exit 0))) (.seq (.block 1 (.seq (.drw .eq [8] [17, 18, 19, 20, 21, 22, 23, 24, 25, 26] (.takeP 0 (sv 17 (.mov (t 0))) (.takeP 1 (sv 18 (.mov (t 5))) (.takeP 2 (sv 19 (.idx 1 (t 17) (t 18))) (.takeP 4 (sv 21 (.mov (t 1))) (.takeP 5 (sv 22 (.mov (t 5))) (.takeP 6 (sv 23 (.idx 1 (t 21) (t 22))) (.takeR 3 (sv 20 (.ld .slice (t 19))) (.takeR 7 (sv 24 (.ld .slice (t 23))) (.alt 8 (se 25 (.call 49 [(t 20), (t 24)] (.one .bool))) (.takeP 9 (sv 26 (.no (t 25))) .done) .stop)))))))))) (.cond (t 26) (.seq (.reg [sv 4 (.mov (cb false))]) .ret) .skip))) (.reg [sv 15 (.mov (t 5)), sv 16 (.ar .add true (t 15) (ci 1)), sv 5 (.mov (t 16))])))))) (.seq (.reg [sv 4 (.mov (cb true))]) .ret)))), [.tmp 4]⟩
theorem ck20 : chkFL Tryd.prog 20 fl20 = true := by kernel_rfl
def sh20 (aa_0 : Option Addr) (na_0 ca_0 : Nat) (ab_1 : Option Addr) (nb_1 cb_1 : Nat) (h : H) (R : Value → H → Prop) : Prop :=
 (((¬ (↑na_0 : Int) = (↑nb_1 : Int)) →
 R (.bool false) h) ∧
 (¬ (¬ (↑na_0 : Int) = (↑nb_1 : Int)) →
 ∃ J : Int → LI, (J 0).1 h ∧
 ∀ (i_5 : Int), ∀ h1 : H, (J i_5).1 h1 →
 (((i_5 < (↑na_0 : Int)) →
 0 ≤ i_5 ∧ i_5 < (↑na_0 : Int) ∧
 (onP aa_0 fun bv_19 ov_19 =>
 0 ≤ i_5 ∧ i_5 < (↑nb_1 : Int) ∧
 (onP ab_1 fun bv_23 ov_23 =>
 ∃ (av_20 : Option Addr) (nv_20 cv_20 : Nat), cell h1 ⟨bv_19, (ov_19 + (i_5).toNat * 1), none⟩ = some (.slice av_20 nv_20 cv_20) ∧
 ∃ (av_24 : Option Addr) (nv_24 cv_24 : Nat), cell h1 ⟨bv_23, (ov_23 + (i_5).toNat * 1), none⟩ = some (.slice av_24 nv_24 cv_24) ∧
 HC Tryd.prog 49 [(.slice av_20 nv_20 cv_20), (.slice av_24 nv_24 cv_24)] h1 fun rv_25 h2 =>
 ∃ (v_25 : Bool), rv_25 = (.bool v_25) ∧
 (((!v_25) = true →
 R (.bool false) h2) ∧
 ((!v_25) = false →
 InR .i64 (i_5 + 1) ∧
 (J (i_5 + 1)).1 h2 ∧ (J (i_5 + 1)).2 h2 < (J i_5).2 h1))))) ∧
 (¬ (i_5 < (↑na_0 : Int)) →
 R (.bool true) h1))))
theorem hc20 {aa_0 : Option Addr} {na_0 ca_0 : Nat} {ab_1 : Option Addr} {nb_1 cb_1 : Nat} {h : H} {R : Value → H → Prop} (x : sh20 aa_0 na_0 ca_0 ab_1 nb_1 cb_1 h R) : HC Tryd.prog 20 [(.slice aa_0 na_0 ca_0), (.slice ab_1 nb_1 cb_1)] h R :=
  FL.sound mixed ck20 ⟨rfl, Eq.mp (by unfold sh20; kernel_rfl) x⟩
/- quern/live.Live -/
def fl19 : FL := ⟨45, (.seq (.reg [se 1 (.box 25 (t 0)), sv 2 (.mov (.const (Go.Value.slice none 0 0))), sv 3 (.mov (.const (Go.Value.slice none 0 0))), sv 4 (.mov (ci 0))]) (.seq (.seq (.reg [se 9 (.call 25 [(t 1)] (.one .bool)), sv 10 (.no (t 9))]) (.cond (t 10) (.seq (.reg [sv 2 (.mov (.const (Go.Value.slice none 0 0))), sv 3 (.mov (.const (Go.Value.slice none 0 0))), sv 4 (.mov (ci 140))]) .ret) .skip)) (.seq (.reg [se 11 (.call 29 [(t 1)] (.one .ptr)), sv 5 (.mov (t 11))]) (.seq (.reg [sv 6 (.mov (.const (Go.Value.slice none 0 0))), sv 7 (.mov (.const (Go.Value.slice none 0 0)))]) (.seq (.seq (.reg [sv 12 (.fad 4 (t 1)), sv 13 (.ld .slice (t 12)), sv 14 (.len (t 13)), sv 15 (.mov (ci 0))]) (.block 0 (.loop [(6, (.one .slice)), (7, (.one .slice)), (15, (.one (.int .i64)))] [6, 7, 8, 15, 16, 17, 18, 19, 20, 21, 22, 23, 24, 25, 26, 27, 28, 29, 30, 31, 32, 33, 34, 35, 36, 37, 38, 39, 40, 41, 42] (.seq (.reg [sv 16 (.cmp .lss (t 15) (t 14))]) (.seq (.cond (t 16) .skip (.exit 0)) (.seq (.block 1 (.seq (.reg [sv 17 (.mov (t 15)), sv 8 (.mov (t 17))]) (.seq (.reg [sv 18 (.mov (t 6)), sv 19 (.mov (t 5)), sv 20 (.mov (t 5)), sv 21 (.nck (t 20)), sv 22 (.fad 3 (t 21)), sv 23 (.ld .slice (t 22)), sv 24 (.mov (t 8)), sv 25 (.idx 1 (t 23) (t 24)), sv 26 (.ld .slice (t 25)), se 27 (.call 48 [(t 19), (t 26)] (.one .slice)), se 28 (.bsl 22 1 [.slice none 0 0] 1 [(0, 1, (t 27))]), se 29 (.app 22 1 24 [.slice none 0 0] (t 18) (t 28)), sv 6 (.mov (t 29))]) (.reg [sv 30 (.mov (t 7)), sv 31 (.mov (t 5)), sv 32 (.mov (t 5)), sv 33 (.nck (t 32)), sv 34 (.fad 4 (t 33)), sv 35 (.ld .slice (t 34)), sv 36 (.mov (t 8)), sv 37 (.idx 1 (t 35) (t 36)), sv 38 (.ld .slice (t 37)), se 39 (.call 48 [(t 31), (t 38)] (.one .slice)), se 40 (.bsl 22 1 [.slice none 0 0] 1 [(0, 1, (t 39))]), se 41 (.app 22 1 24 [.slice none 0 0] (t 30) (t 40)), sv 7 (.mov (t 41))])))) (.reg [sv 42 (.ar .add true (t 15) (ci 1)), sv 15 (.mov (t 42))]))))))) (.seq (.reg [sv 43 (.mov (t 6)), sv 44 (.mov (t 7)), sv 2 (.mov (t 43)), sv 3 (.mov (t 44)), sv 4 (.mov (ci 0))]) .ret)))))), [.tmp 2, .tmp 3, .tmp 4]⟩
theorem ck19 : chkFL Tryd.prog 19 fl19 = true := by kernel_rfl
def sh19 (f_0 : ByteArray) (af_0 : Option Addr) (nf_0 cf_0 : Nat) (f_0_1 : Int) (f_0_2 : Int) (af_0_1 : Option Addr) (nf_0_1 cf_0_1 : Nat) (h : H) (R : Value → H → Prop) : Prop :=
 ∀ (bf_1 : Nat) (h1 : H), New h (.cells ⟨[(.string f_0), (.slice af_0 nf_0 cf_0), (.int .i64 f_0_1), (.int .i64 f_0_2), (.slice af_0_1 nf_0_1 cf_0_1)]⟩ 25) bf_1 h1 →
 HC Tryd.prog 25 [(.pointer (some ⟨bf_1, 0, none⟩))] h1 fun rv_9 h2 =>
 ∃ (v_9 : Bool), rv_9 = (.bool v_9) ∧
 (((!v_9) = true →
 R (.tuple ⟨[(.slice none 0 0), (.slice none 0 0), (.int .i64 140)]⟩) h2) ∧
 ((!v_9) = false →
 HC Tryd.prog 29 [(.pointer (some ⟨bf_1, 0, none⟩))] h2 fun rv_11 h3 =>
 ∃ (pv_11 : Option Addr), rv_11 = (.pointer pv_11) ∧
 ∃ (av_13 : Option Addr) (nv_13 cv_13 : Nat), cell h3 ⟨bf_1, (0 + 4), none⟩ = some (.slice av_13 nv_13 cv_13) ∧
 ∃ J : Option Addr → Nat → Nat → Option Addr → Nat → Nat → Int → LI, (J none 0 0 none 0 0 0).1 h3 ∧
 ∀ (aahead_6 : Option Addr) (nahead_6 cahead_6 : Nat), ∀ (abehind_7 : Option Addr) (nbehind_7 cbehind_7 : Nat), ∀ (v_15 : Int), ∀ h4 : H, (J aahead_6 nahead_6 cahead_6 abehind_7 nbehind_7 cbehind_7 v_15).1 h4 →
 (((v_15 < (↑nv_13 : Int)) →
 (pv_11 : Option Addr) ≠ none ∧
 (onP pv_11 fun bv_22 ov_22 =>
 ∃ (av_23 : Option Addr) (nv_23 cv_23 : Nat), cell h4 ⟨bv_22, (ov_22 + 3), none⟩ = some (.slice av_23 nv_23 cv_23) ∧
 0 ≤ v_15 ∧ v_15 < (↑nv_23 : Int) ∧
 (onP av_23 fun bv_25 ov_25 =>
 ∃ (av_26 : Option Addr) (nv_26 cv_26 : Nat), cell h4 ⟨bv_25, (ov_25 + (v_15).toNat * 1), none⟩ = some (.slice av_26 nv_26 cv_26) ∧
 HC Tryd.prog 48 [(.pointer pv_11), (.slice av_26 nv_26 cv_26)] h4 fun rv_27 h5 =>
 ∃ (av_27 : Option Addr) (nv_27 cv_27 : Nat), rv_27 = (.slice av_27 nv_27 cv_27) ∧
 1 = 1 ∧ 0 + 1 ≤ 1 ∧
 ∀ (bv_28 : Nat) (h6 : H), New h5 (.cells ⟨[(.slice av_27 nv_27 cv_27)]⟩ 22) bv_28 h6 →
 apQ 22 1 24 [.slice none 0 0] h6 aahead_6 nahead_6 cahead_6 (some ⟨bv_28, 0, none⟩) 1 fun av_29 nv_29 cv_29 h7 =>
 (pv_11 : Option Addr) ≠ none ∧
 (onP pv_11 fun bv_34 ov_34 =>
 ∃ (av_35 : Option Addr) (nv_35 cv_35 : Nat), cell h7 ⟨bv_34, (ov_34 + 4), none⟩ = some (.slice av_35 nv_35 cv_35) ∧
 0 ≤ v_15 ∧ v_15 < (↑nv_35 : Int) ∧
 (onP av_35 fun bv_37 ov_37 =>
 ∃ (av_38 : Option Addr) (nv_38 cv_38 : Nat), cell h7 ⟨bv_37, (ov_37 + (v_15).toNat * 1), none⟩ = some (.slice av_38 nv_38 cv_38) ∧
 HC Tryd.prog 48 [(.pointer pv_11), (.slice av_38 nv_38 cv_38)] h7 fun rv_39 h8 =>
 ∃ (av_39 : Option Addr) (nv_39 cv_39 : Nat), rv_39 = (.slice av_39 nv_39 cv_39) ∧
 1 = 1 ∧ 0 + 1 ≤ 1 ∧
 ∀ (bv_40 : Nat) (h9 : H), New h8 (.cells ⟨[(.slice av_39 nv_39 cv_39)]⟩ 22) bv_40 h9 →
 apQ 22 1 24 [.slice none 0 0] h9 abehind_7 nbehind_7 cbehind_7 (some ⟨bv_40, 0, none⟩) 1 fun av_41 nv_41 cv_41 h10 =>
 InR .i64 (v_15 + 1) ∧
 (J av_29 nv_29 cv_29 av_41 nv_41 cv_41 (v_15 + 1)).1 h10 ∧ (J av_29 nv_29 cv_29 av_41 nv_41 cv_41 (v_15 + 1)).2 h10 < (J aahead_6 nahead_6 cahead_6 abehind_7 nbehind_7 cbehind_7 v_15).2 h4))))) ∧
 (¬ (v_15 < (↑nv_13 : Int)) →
 R (.tuple ⟨[(.slice aahead_6 nahead_6 cahead_6), (.slice abehind_7 nbehind_7 cbehind_7), (.int .i64 0)]⟩) h4))))
theorem hc19 {f_0 : ByteArray} {af_0 : Option Addr} {nf_0 cf_0 : Nat} {f_0_1 : Int} {f_0_2 : Int} {af_0_1 : Option Addr} {nf_0_1 cf_0_1 : Nat} {h : H} {R : Value → H → Prop} (x : sh19 f_0 af_0 nf_0 cf_0 f_0_1 f_0_2 af_0_1 nf_0_1 cf_0_1 h R) : HC Tryd.prog 19 [(.agg ⟨[(.string f_0), (.slice af_0 nf_0 cf_0), (.int .i64 f_0_1), (.int .i64 f_0_2), (.slice af_0_1 nf_0_1 cf_0_1)]⟩)] h R :=
  FL.sound mixed ck19 ⟨rfl, Eq.mp (by unfold sh19; kernel_rfl) x⟩
/- quern/quernlaw17.alive -/
def fl6 : FL := ⟨55, (.seq (.reg [sv 0 (.mov (cb false))]) (.seq (.reg [sv 7 (.bld [.int .i64 0, .int .i64 0, .int .i64 0, .slice none 0 0] [(0, 1, (ci 1)), (1, 1, (ci 1)), (2, 1, (ci 7))]), se 8 (.bsl 71 4 [.int .i64 0, .int .i64 0, .int .i64 0, .slice none 0 0] 1 [(0, 4, (t 7))]), se 9 (.bsl 3 1 [.int .i64 0] 1 [(0, 1, (ci 1))]), sv 10 (.bld [.int .i64 0, .int .i64 0, .slice none 0 0] [(0, 1, (ci 1)), (1, 1, (ci (-1))), (2, 1, (t 9))]), sv 11 (.bld [.slice none 0 0, .int .i64 0, .int .i64 0, .slice none 0 0] [(0, 1, (t 8)), (1, 3, (t 10))]), se 12 (.bsl 3 1 [.int .i64 0] 1 [(0, 1, (ci 1))]), sv 13 (.bld [.int .i64 0, .int .i64 0, .int .i64 0, .slice none 0 0] [(0, 1, (ci 26)), (1, 1, (ci (-1))), (3, 1, (t 12))]), se 14 (.bsl 71 4 [.int .i64 0, .int .i64 0, .int .i64 0, .slice none 0 0] 1 [(0, 4, (t 13))]), sv 15 (.bld [.int .i64 0, .int .i64 0, .slice none 0 0] [(0, 1, (ci 3)), (1, 1, (ci (-1)))]), sv 16 (.bld [.slice none 0 0, .int .i64 0, .int .i64 0, .slice none 0 0] [(0, 1, (t 14)), (1, 3, (t 15))]), se 17 (.bsl 50 4 [.slice none 0 0, .int .i64 0, .int .i64 0, .slice none 0 0] 2 [(0, 4, (t 11)), (4, 4, (t 16))]), sv 18 (.bld [.string ⟨⟨[]⟩⟩, .slice none 0 0, .int .i64 0, .int .i64 0, .slice none 0 0] [(0, 1, (.const (Go.Value.string ⟨#[102]⟩))), (2, 1, (ci 2)), (4, 1, (t 17))]), se 1 (.alc 25 [.string ⟨⟨[]⟩⟩, .slice none 0 0, .int .i64 0, .int .i64 0, .slice none 0 0]), ne (.sto 5 (t 1) (t 18))]) (.seq (.reg [sv 20 (.lda [.str, .slice, (.int .i64), (.int .i64), .slice] (t 1)), se 21 (.call 19 [(t 20)] (.tup [(.one .slice), (.one .slice), (.one (.int .i64))])), sv 19 (.mov (t 21)), sv 22 (.ext (t 19) 0), sv 23 (.ext (t 19) 1), sv 24 (.ext (t 19) 2), sv 2 (.mov (t 22)), sv 3 (.mov (t 23)), sv 4 (.mov (t 24))]) (.seq (.reg [sv 26 (.lda [.str, .slice, (.int .i64), (.int .i64), .slice] (t 1)), se 27 (.bsl 3 1 [.int .i64 0] 2 [(0, 1, (ci 0)), (1, 1, (ci 1))]), se 28 (.call 10 [(t 26), (t 27)] (.tup [(.one .slice), (.one (.int .i64))])), sv 25 (.mov (t 28)), sv 29 (.ext (t 25) 0), sv 30 (.ext (t 25) 1), sv 5 (.mov (t 29)), sv 6 (.mov (t 30))]) (.seq (.reg [sv 31 (.mov (t 4)), sv 32 (.cmp .eql (t 31) (ci 0)), sv 33 (.mov (t 32)), ⟨some 34, some (33, true), .v (.mov (t 6))⟩, ⟨some 35, some (33, true), .v (.cmp .eql (t 34) (ci 0))⟩, sv 36 (.pick (t 33) (t 35) (cb false)), sv 37 (.mov (t 36)), ⟨some 38, some (37, true), .v (.mov (t 2))⟩, ⟨some 39, some (37, true), .e (.bsl 3 1 [.int .i64 0] 1 [(0, 1, (ci 1))])⟩, ⟨some 40, some (37, true), .e (.bsl 22 1 [.slice none 0 0] 2 [(0, 1, (.const (Go.Value.slice none 0 0))), (1, 1, (t 39))])⟩, ⟨some 41, some (37, true), .e (.call 20 [(t 38), (t 40)] (.one .bool))⟩, sv 42 (.pick (t 37) (t 41) (cb false)), sv 43 (.mov (t 42)), ⟨some 44, some (43, true), .v (.mov (t 3))⟩, ⟨some 45, some (43, true), .e (.bsl 3 1 [.int .i64 0] 1 [(0, 1, (ci 1))])⟩, ⟨some 46, some (43, true), .e (.bsl 22 1 [.slice none 0 0] 2 [(0, 1, (t 45)), (1, 1, (.const (Go.Value.slice none 0 0)))])⟩, ⟨some 47, some (43, true), .e (.call 20 [(t 44), (t 46)] (.one .bool))⟩, sv 48 (.pick (t 43) (t 47) (cb false)), sv 49 (.mov (t 48)), ⟨some 50, some (49, true), .v (.mov (t 5))⟩, ⟨some 51, some (49, true), .v (.bld [.int .i64 0, .int .i64 0, .int .i64 0] [(0, 1, (ci 1)), (1, 1, (ci 3)), (2, 1, (ci 6))])⟩, ⟨some 52, some (49, true), .e (.bsl 52 3 [.int .i64 0, .int .i64 0, .int .i64 0] 1 [(0, 3, (t 51))])⟩, ⟨some 53, some (49, true), .e (.call 12 [(t 50), (t 52)] (.one .bool))⟩, sv 54 (.pick (t 49) (t 53) (cb false)), sv 0 (.mov (t 54))]) .ret))))), [.tmp 0]⟩
theorem ck6 : chkFL Tryd.prog 6 fl6 = true := by kernel_rfl
def sh6  (h : H) (R : Value → H → Prop) : Prop :=
 1 = 1 ∧ 0 + 1 ≤ 4 ∧
 1 = 1 ∧ 1 + 1 ≤ 4 ∧
 1 = 1 ∧ 2 + 1 ≤ 4 ∧
 4 = 4 ∧ 0 + 4 ≤ 4 ∧
 ∀ (bv_8 : Nat) (h1 : H), New h (.cells ⟨[(.int .i64 1), (.int .i64 1), (.int .i64 7), (.slice none 0 0)]⟩ 71) bv_8 h1 →
 1 = 1 ∧ 0 + 1 ≤ 1 ∧
 ∀ (bv_9 : Nat) (h2 : H), New h1 (.cells ⟨[(.int .i64 1)]⟩ 3) bv_9 h2 →
 1 = 1 ∧ 0 + 1 ≤ 3 ∧
 1 = 1 ∧ 1 + 1 ≤ 3 ∧
 1 = 1 ∧ 2 + 1 ≤ 3 ∧
 1 = 1 ∧ 0 + 1 ≤ 4 ∧
 3 = 3 ∧ 1 + 3 ≤ 4 ∧
 1 = 1 ∧ 0 + 1 ≤ 1 ∧
 ∀ (bv_12 : Nat) (h3 : H), New h2 (.cells ⟨[(.int .i64 1)]⟩ 3) bv_12 h3 →
 1 = 1 ∧ 0 + 1 ≤ 4 ∧
 1 = 1 ∧ 1 + 1 ≤ 4 ∧
 1 = 1 ∧ 3 + 1 ≤ 4 ∧
 4 = 4 ∧ 0 + 4 ≤ 4 ∧
 ∀ (bv_14 : Nat) (h4 : H), New h3 (.cells ⟨[(.int .i64 26), (.int .i64 (-1)), (.int .i64 0), (.slice (some ⟨bv_12, 0, none⟩) 1 1)]⟩ 71) bv_14 h4 →
 1 = 1 ∧ 0 + 1 ≤ 3 ∧
 1 = 1 ∧ 1 + 1 ≤ 3 ∧
 1 = 1 ∧ 0 + 1 ≤ 4 ∧
 3 = 3 ∧ 1 + 3 ≤ 4 ∧
 4 = 4 ∧ 0 + 4 ≤ 8 ∧
 4 = 4 ∧ 4 + 4 ≤ 8 ∧
 ∀ (bv_17 : Nat) (h5 : H), New h4 (.cells ⟨[(.slice (some ⟨bv_8, 0, none⟩) 1 1), (.int .i64 1), (.int .i64 (-1)), (.slice (some ⟨bv_9, 0, none⟩) 1 1), (.slice (some ⟨bv_14, 0, none⟩) 1 1), (.int .i64 3), (.int .i64 (-1)), (.slice none 0 0)]⟩ 50) bv_17 h5 →
 1 = 1 ∧ 0 + 1 ≤ 5 ∧
 1 = 1 ∧ 2 + 1 ≤ 5 ∧
 1 = 1 ∧ 4 + 1 ≤ 5 ∧
 ∀ (bf_1 : Nat) (h6 : H), New h5 (.cells ⟨[(.string ⟨⟨[]⟩⟩), (.slice none 0 0), (.int .i64 0), (.int .i64 0), (.slice none 0 0)]⟩ 25) bf_1 h6 →
 stQ 5 h6 bf_1 0 [(.string ⟨#[102]⟩), (.slice none 0 0), (.int .i64 2), (.int .i64 0), (.slice (some ⟨bv_17, 0, none⟩) 2 2)] fun h7 =>
 ∃ (v_20 : ByteArray), cell h7 ⟨bf_1, (0 + 0), none⟩ = some (.string v_20) ∧
 ∃ (av_20 : Option Addr) (nv_20 cv_20 : Nat), cell h7 ⟨bf_1, (0 + 1), none⟩ = some (.slice av_20 nv_20 cv_20) ∧
 ∃ (v_20_1 : Int), cell h7 ⟨bf_1, (0 + 2), none⟩ = some (.int .i64 v_20_1) ∧
 ∃ (v_20_2 : Int), cell h7 ⟨bf_1, (0 + 3), none⟩ = some (.int .i64 v_20_2) ∧
 ∃ (av_20_1 : Option Addr) (nv_20_1 cv_20_1 : Nat), cell h7 ⟨bf_1, (0 + 4), none⟩ = some (.slice av_20_1 nv_20_1 cv_20_1) ∧
 HC Tryd.prog 19 [(.agg ⟨[(.string v_20), (.slice av_20 nv_20 cv_20), (.int .i64 v_20_1), (.int .i64 v_20_2), (.slice av_20_1 nv_20_1 cv_20_1)]⟩)] h7 fun rv_21 h8 =>
 ∃ (av_21 : Option Addr) (nv_21 cv_21 : Nat), ∃ (av_21_1 : Option Addr) (nv_21_1 cv_21_1 : Nat), ∃ (v_21 : Int), rv_21 = (.tuple ⟨[(.slice av_21 nv_21 cv_21), (.slice av_21_1 nv_21_1 cv_21_1), (.int .i64 v_21)]⟩) ∧
 ∃ (v_26 : ByteArray), cell h8 ⟨bf_1, (0 + 0), none⟩ = some (.string v_26) ∧
 ∃ (av_26 : Option Addr) (nv_26 cv_26 : Nat), cell h8 ⟨bf_1, (0 + 1), none⟩ = some (.slice av_26 nv_26 cv_26) ∧
 ∃ (v_26_1 : Int), cell h8 ⟨bf_1, (0 + 2), none⟩ = some (.int .i64 v_26_1) ∧
 ∃ (v_26_2 : Int), cell h8 ⟨bf_1, (0 + 3), none⟩ = some (.int .i64 v_26_2) ∧
 ∃ (av_26_1 : Option Addr) (nv_26_1 cv_26_1 : Nat), cell h8 ⟨bf_1, (0 + 4), none⟩ = some (.slice av_26_1 nv_26_1 cv_26_1) ∧
 1 = 1 ∧ 0 + 1 ≤ 2 ∧
 1 = 1 ∧ 1 + 1 ≤ 2 ∧
 ∀ (bv_27 : Nat) (h9 : H), New h8 (.cells ⟨[(.int .i64 0), (.int .i64 1)]⟩ 3) bv_27 h9 →
 HC Tryd.prog 10 [(.agg ⟨[(.string v_26), (.slice av_26 nv_26 cv_26), (.int .i64 v_26_1), (.int .i64 v_26_2), (.slice av_26_1 nv_26_1 cv_26_1)]⟩), (.slice (some ⟨bv_27, 0, none⟩) 2 2)] h9 fun rv_28 h10 =>
 ∃ (av_28 : Option Addr) (nv_28 cv_28 : Nat), ∃ (v_28 : Int), rv_28 = (.tuple ⟨[(.slice av_28 nv_28 cv_28), (.int .i64 v_28)]⟩) ∧
 (((v_21 = 0) →
 (((v_28 = 0) →
 1 = 1 ∧ 0 + 1 ≤ 1 ∧
 ∀ (bv_39 : Nat) (h11 : H), New h10 (.cells ⟨[(.int .i64 1)]⟩ 3) bv_39 h11 →
 1 = 1 ∧ 0 + 1 ≤ 2 ∧
 1 = 1 ∧ 1 + 1 ≤ 2 ∧
 ∀ (bv_40 : Nat) (h12 : H), New h11 (.cells ⟨[(.slice none 0 0), (.slice (some ⟨bv_39, 0, none⟩) 1 1)]⟩ 22) bv_40 h12 →
 HC Tryd.prog 20 [(.slice av_21 nv_21 cv_21), (.slice (some ⟨bv_40, 0, none⟩) 2 2)] h12 fun rv_41 h13 =>
 ∃ (v_41 : Bool), rv_41 = (.bool v_41) ∧
 ((v_41 = true →
 1 = 1 ∧ 0 + 1 ≤ 1 ∧
 ∀ (bv_45 : Nat) (h14 : H), New h13 (.cells ⟨[(.int .i64 1)]⟩ 3) bv_45 h14 →
 1 = 1 ∧ 0 + 1 ≤ 2 ∧
 1 = 1 ∧ 1 + 1 ≤ 2 ∧
 ∀ (bv_46 : Nat) (h15 : H), New h14 (.cells ⟨[(.slice (some ⟨bv_45, 0, none⟩) 1 1), (.slice none 0 0)]⟩ 22) bv_46 h15 →
 HC Tryd.prog 20 [(.slice av_21_1 nv_21_1 cv_21_1), (.slice (some ⟨bv_46, 0, none⟩) 2 2)] h15 fun rv_47 h16 =>
 ∃ (v_47 : Bool), rv_47 = (.bool v_47) ∧
 ((v_47 = true →
 1 = 1 ∧ 0 + 1 ≤ 3 ∧
 1 = 1 ∧ 1 + 1 ≤ 3 ∧
 1 = 1 ∧ 2 + 1 ≤ 3 ∧
 3 = 3 ∧ 0 + 3 ≤ 3 ∧
 ∀ (bv_52 : Nat) (h17 : H), New h16 (.cells ⟨[(.int .i64 1), (.int .i64 3), (.int .i64 6)]⟩ 52) bv_52 h17 →
 HC Tryd.prog 12 [(.slice av_28 nv_28 cv_28), (.slice (some ⟨bv_52, 0, none⟩) 1 1)] h17 fun rv_53 h18 =>
 ∃ (v_53 : Bool), rv_53 = (.bool v_53) ∧
 R (.bool v_53) h18) ∧
 (v_47 = false →
 R (.bool false) h16))) ∧
 (v_41 = false →
 R (.bool false) h13))) ∧
 (¬ (v_28 = 0) →
 R (.bool false) h10))) ∧
 (¬ (v_21 = 0) →
 R (.bool false) h10))
theorem hc6  {h : H} {R : Value → H → Prop} (x : sh6  h R) : HC Tryd.prog 6 [] h R :=
  FL.sound mixed ck6 ⟨rfl, Eq.mp (by unfold sh6; kernel_rfl) x⟩
/- quern/quernlaw17.small -/
def fl7 : FL := ⟨92, (.seq (.reg [se 1 (.box 25 (t 0)), sv 2 (.mov (cb false))]) (.seq (.reg [sv 6 (.fad 0 (t 1)), sv 7 (.ld .str (t 6)), sv 8 (.lns (t 7)), sv 9 (.dv .quo (t 8) (ci 65)), sv 10 (.fad 4 (t 1)), sv 11 (.ld .slice (t 10)), sv 12 (.len (t 11)), sv 13 (.ar .add true (t 9) (t 12)), sv 14 (.fad 1 (t 1)), sv 15 (.ld .slice (t 14)), sv 16 (.len (t 15)), sv 17 (.ar .add true (t 13) (t 16)), sv 3 (.mov (t 17))]) (.cut [(3, (.one (.int .i64)))] [3, 18, 19, 20, 21, 22, 23, 24, 25, 26, 27, 28, 29, 30, 31, 32, 33] (.seq (.reg [sv 18 (.fad 2 (t 1)), sv 19 (.ld (.int .i64) (t 18)), sv 20 (.cmp .gtr (t 19) (ci 0)), sv 21 (.mov (t 20)), ⟨some 22, some (21, true), .v (.fad 2 (t 1))⟩, ⟨some 23, some (21, true), .v (.ld (.int .i64) (t 22))⟩, ⟨some 24, some (21, true), .v (.cmp .leq (t 23) (ci 262144))⟩, sv 25 (.pick (t 21) (t 24) (cb false))]) (.cond (t 25) (.reg [sv 26 (.mov (t 3)), sv 27 (.fad 4 (t 1)), sv 28 (.ld .slice (t 27)), sv 29 (.len (t 28)), sv 30 (.fad 2 (t 1)), sv 31 (.ld (.int .i64) (t 30)), sv 32 (.ar .mul true (t 29) (t 31)), sv 33 (.ar .add true (t 26) (t 32)), sv 3 (.mov (t 33))]) .skip)) (.seq (.seq (.reg [sv 4 (.mov (ci 0))]) (.block 0 (.loop [(3, (.one (.int .i64))), (4, (.one (.int .i64)))] [3, 4, 5, 34, 35, 36, 37, 38, 39, 40, 41, 42, 43, 44, 45, 46, 47, 48, 49, 50, 51, 52, 53, 54, 55, 56, 57, 58, 59, 60, 61, 62, 63, 64, 65, 66, 67, 68, 69, 70, 71, 72, 73, 74, 75, 76, 77, 78, 79, 80, 81, 82, 83] (.seq (.seq (.reg [sv 34 (.mov (t 4)), sv 35 (.fad 4 (t 1)), sv 36 (.ld .slice (t 35)), sv 37 (.len (t 36)), sv 38 (.cmp .lss (t 34) (t 37)), sv 39 (.mov (t 38)), ⟨some 40, some (39, true), .v (.mov (t 3))⟩, ⟨some 41, some (39, true), .v (.cmp .leq (t 40) (ci 300000))⟩, sv 42 (.pick (t 39) (t 41) (cb false))]) (.cond (t 42) .skip (.exit 0))) (.seq (.block 1 (.seq (.reg [sv 45 (.mov (t 3)), sv 46 (.fad 4 (t 1)), sv 47 (.ld .slice (t 46)), sv 48 (.mov (t 4)), sv 49 (.idx 4 (t 47) (t 48)), sv 50 (.fad 1 (t 49)), sv 51 (.fad 2 (t 50)), sv 52 (.ld .slice (t 51)), sv 53 (.len (t 52)), sv 54 (.ar .add true (t 45) (t 53)), sv 3 (.mov (t 54))]) (.seq (.reg [sv 5 (.mov (ci 0))]) (.block 2 (.loop [(3, (.one (.int .i64))), (5, (.one (.int .i64)))] [3, 5, 55, 56, 57, 58, 59, 60, 61, 62, 63, 64, 65, 66, 67, 68, 69, 70, 71, 72, 73, 74, 75, 76, 77, 78, 79, 80, 81, 82, 83] (.seq (.seq (.reg [sv 55 (.mov (t 5)), sv 56 (.fad 4 (t 1)), sv 57 (.ld .slice (t 56)), sv 58 (.mov (t 4)), sv 59 (.idx 4 (t 57) (t 58)), sv 60 (.fad 0 (t 59)), sv 61 (.ld .slice (t 60)), sv 62 (.len (t 61)), sv 63 (.cmp .lss (t 55) (t 62)), sv 64 (.mov (t 63)), ⟨some 65, some (64, true), .v (.mov (t 3))⟩, ⟨some 66, some (64, true), .v (.cmp .leq (t 65) (ci 300000))⟩, sv 67 (.pick (t 64) (t 66) (cb false))]) (.cond (t 67) .skip (.exit 2))) (.seq (.block 3 (.reg [sv 70 (.mov (t 3)), sv 71 (.fad 4 (t 1)), sv 72 (.ld .slice (t 71)), sv 73 (.mov (t 4)), sv 74 (.idx 4 (t 72) (t 73)), sv 75 (.fad 0 (t 74)), sv 76 (.ld .slice (t 75)), sv 77 (.mov (t 5)), sv 78 (.idx 4 (t 76) (t 77)), sv 79 (.fad 3 (t 78)), sv 80 (.ld .slice (t 79)), sv 81 (.len (t 80)), sv 82 (.ar .add true (ci 1) (t 81)), sv 83 (.ar .add true (t 70) (t 82)), sv 3 (.mov (t 83))])) (.reg [sv 68 (.mov (t 5)), sv 69 (.ar .add true (t 68) (ci 1)), sv 5 (.mov (t 69))])))))))) (.reg [sv 43 (.mov (t 4)), sv 44 (.ar .add true (t 43) (ci 1)), sv 4 (.mov (t 44))])))))) (.seq (.reg [sv 84 (.mov (t 3)), sv 85 (.cmp .leq (t 84) (ci 300000)), sv 86 (.mov (t 85)), ⟨some 87, some (86, true), .v (.fad 4 (t 1))⟩, ⟨some 88, some (86, true), .v (.ld .slice (t 87))⟩, ⟨some 89, some (86, true), .v (.len (t 88))⟩, ⟨some 90, some (86, true), .v (.cmp .leq (t 89) (ci 600))⟩, sv 91 (.pick (t 86) (t 90) (cb false)), sv 2 (.mov (t 91))]) .ret))))), [.tmp 2]⟩
theorem ck7 : chkFL Tryd.prog 7 fl7 = true := by kernel_rfl
def sh7 (f_0 : ByteArray) (af_0 : Option Addr) (nf_0 cf_0 : Nat) (f_0_1 : Int) (f_0_2 : Int) (af_0_1 : Option Addr) (nf_0_1 cf_0_1 : Nat) (h : H) (R : Value → H → Prop) : Prop :=
 ∀ (bf_1 : Nat) (h1 : H), New h (.cells ⟨[(.string f_0), (.slice af_0 nf_0 cf_0), (.int .i64 f_0_1), (.int .i64 f_0_2), (.slice af_0_1 nf_0_1 cf_0_1)]⟩ 25) bf_1 h1 →
 ∃ (v_7 : ByteArray), cell h1 ⟨bf_1, (0 + 0), none⟩ = some (.string v_7) ∧
 0 ≤ (↑v_7.size : Int) ∧ (↑v_7.size : Int) ≤ hi .i64 ∧ 0 < (65 : Int) ∧
 ∃ (av_11 : Option Addr) (nv_11 cv_11 : Nat), cell h1 ⟨bf_1, (0 + 4), none⟩ = some (.slice av_11 nv_11 cv_11) ∧
 InR .i64 (((↑v_7.size : Int) / 65) + (↑nv_11 : Int)) ∧
 ∃ (av_15 : Option Addr) (nv_15 cv_15 : Nat), cell h1 ⟨bf_1, (0 + 1), none⟩ = some (.slice av_15 nv_15 cv_15) ∧
 InR .i64 ((((↑v_7.size : Int) / 65) + (↑nv_11 : Int)) + (↑nv_15 : Int)) ∧
 ∃ J : Int → H → Prop, (∃ (v_19 : Int), cell h1 ⟨bf_1, (0 + 2), none⟩ = some (.int .i64 v_19) ∧
 (((0 < v_19) →
 ∃ (v_23 : Int), cell h1 ⟨bf_1, (0 + 2), none⟩ = some (.int .i64 v_23) ∧
 (((v_23 ≤ 262144) →
 ∃ (av_28 : Option Addr) (nv_28 cv_28 : Nat), cell h1 ⟨bf_1, (0 + 4), none⟩ = some (.slice av_28 nv_28 cv_28) ∧
 ∃ (v_31 : Int), cell h1 ⟨bf_1, (0 + 2), none⟩ = some (.int .i64 v_31) ∧
 InR .i64 ((↑nv_28 : Int) * v_31) ∧
 InR .i64 (((((↑v_7.size : Int) / 65) + (↑nv_11 : Int)) + (↑nv_15 : Int)) + ((↑nv_28 : Int) * v_31)) ∧
 J (((((↑v_7.size : Int) / 65) + (↑nv_11 : Int)) + (↑nv_15 : Int)) + ((↑nv_28 : Int) * v_31)) h1) ∧
 (¬ (v_23 ≤ 262144) →
 J ((((↑v_7.size : Int) / 65) + (↑nv_11 : Int)) + (↑nv_15 : Int)) h1))) ∧
 (¬ (0 < v_19) →
 J ((((↑v_7.size : Int) / 65) + (↑nv_11 : Int)) + (↑nv_15 : Int)) h1))) ∧
 ∀ (n_3 : Int), ∀ h2 : H, J n_3 h2 →
 ∃ J_1 : Int → Int → LI, (J_1 n_3 0).1 h2 ∧
 ∀ (n_3_1 : Int), ∀ (i_4 : Int), ∀ h3 : H, (J_1 n_3_1 i_4).1 h3 →
 ∃ (av_36 : Option Addr) (nv_36 cv_36 : Nat), cell h3 ⟨bf_1, (0 + 4), none⟩ = some (.slice av_36 nv_36 cv_36) ∧
 (((i_4 < (↑nv_36 : Int)) →
 (((n_3_1 ≤ 300000) →
 ∃ (av_47 : Option Addr) (nv_47 cv_47 : Nat), cell h3 ⟨bf_1, (0 + 4), none⟩ = some (.slice av_47 nv_47 cv_47) ∧
 0 ≤ i_4 ∧ i_4 < (↑nv_47 : Int) ∧
 (onP av_47 fun bv_49 ov_49 =>
 ∃ (av_52 : Option Addr) (nv_52 cv_52 : Nat), cell h3 ⟨bv_49, (((ov_49 + (i_4).toNat * 4) + 1) + 2), none⟩ = some (.slice av_52 nv_52 cv_52) ∧
 InR .i64 (n_3_1 + (↑nv_52 : Int)) ∧
 ∃ J_2 : Int → Int → LI, (J_2 (n_3_1 + (↑nv_52 : Int)) 0).1 h3 ∧
 ∀ (n_3_2 : Int), ∀ (k_5 : Int), ∀ h4 : H, (J_2 n_3_2 k_5).1 h4 →
 ∃ (av_57 : Option Addr) (nv_57 cv_57 : Nat), cell h4 ⟨bf_1, (0 + 4), none⟩ = some (.slice av_57 nv_57 cv_57) ∧
 0 ≤ i_4 ∧ i_4 < (↑nv_57 : Int) ∧
 (onP av_57 fun bv_59 ov_59 =>
 ∃ (av_61 : Option Addr) (nv_61 cv_61 : Nat), cell h4 ⟨bv_59, ((ov_59 + (i_4).toNat * 4) + 0), none⟩ = some (.slice av_61 nv_61 cv_61) ∧
 (((k_5 < (↑nv_61 : Int)) →
 (((n_3_2 ≤ 300000) →
 ∃ (av_72 : Option Addr) (nv_72 cv_72 : Nat), cell h4 ⟨bf_1, (0 + 4), none⟩ = some (.slice av_72 nv_72 cv_72) ∧
 0 ≤ i_4 ∧ i_4 < (↑nv_72 : Int) ∧
 (onP av_72 fun bv_74 ov_74 =>
 ∃ (av_76 : Option Addr) (nv_76 cv_76 : Nat), cell h4 ⟨bv_74, ((ov_74 + (i_4).toNat * 4) + 0), none⟩ = some (.slice av_76 nv_76 cv_76) ∧
 0 ≤ k_5 ∧ k_5 < (↑nv_76 : Int) ∧
 (onP av_76 fun bv_78 ov_78 =>
 ∃ (av_80 : Option Addr) (nv_80 cv_80 : Nat), cell h4 ⟨bv_78, ((ov_78 + (k_5).toNat * 4) + 3), none⟩ = some (.slice av_80 nv_80 cv_80) ∧
 InR .i64 (1 + (↑nv_80 : Int)) ∧
 InR .i64 (n_3_2 + (1 + (↑nv_80 : Int))) ∧
 InR .i64 (k_5 + 1) ∧
 (J_2 (n_3_2 + (1 + (↑nv_80 : Int))) (k_5 + 1)).1 h4 ∧ (J_2 (n_3_2 + (1 + (↑nv_80 : Int))) (k_5 + 1)).2 h4 < (J_2 n_3_2 k_5).2 h4))) ∧
 (¬ (n_3_2 ≤ 300000) →
 InR .i64 (i_4 + 1) ∧
 (J_1 n_3_2 (i_4 + 1)).1 h4 ∧ (J_1 n_3_2 (i_4 + 1)).2 h4 < (J_1 n_3_1 i_4).2 h3))) ∧
 (¬ (k_5 < (↑nv_61 : Int)) →
 InR .i64 (i_4 + 1) ∧
 (J_1 n_3_2 (i_4 + 1)).1 h4 ∧ (J_1 n_3_2 (i_4 + 1)).2 h4 < (J_1 n_3_1 i_4).2 h3))))) ∧
 (¬ (n_3_1 ≤ 300000) →
 (((n_3_1 ≤ 300000) →
 ∃ (av_88 : Option Addr) (nv_88 cv_88 : Nat), cell h3 ⟨bf_1, (0 + 4), none⟩ = some (.slice av_88 nv_88 cv_88) ∧
 R (.bool (decide ((↑nv_88 : Int) ≤ 600))) h3) ∧
 (¬ (n_3_1 ≤ 300000) →
 R (.bool false) h3))))) ∧
 (¬ (i_4 < (↑nv_36 : Int)) →
 (((n_3_1 ≤ 300000) →
 ∃ (av_88_1 : Option Addr) (nv_88_1 cv_88_1 : Nat), cell h3 ⟨bf_1, (0 + 4), none⟩ = some (.slice av_88_1 nv_88_1 cv_88_1) ∧
 R (.bool (decide ((↑nv_88_1 : Int) ≤ 600))) h3) ∧
 (¬ (n_3_1 ≤ 300000) →
 R (.bool false) h3))))
theorem hc7 {f_0 : ByteArray} {af_0 : Option Addr} {nf_0 cf_0 : Nat} {f_0_1 : Int} {f_0_2 : Int} {af_0_1 : Option Addr} {nf_0_1 cf_0_1 : Nat} {h : H} {R : Value → H → Prop} (x : sh7 f_0 af_0 nf_0 cf_0 f_0_1 f_0_2 af_0_1 nf_0_1 cf_0_1 h R) : HC Tryd.prog 7 [(.agg ⟨[(.string f_0), (.slice af_0 nf_0 cf_0), (.int .i64 f_0_1), (.int .i64 f_0_2), (.slice af_0_1 nf_0_1 cf_0_1)]⟩)] h R :=
  FL.sound mixed ck7 ⟨rfl, Eq.mp (by unfold sh7; kernel_rfl) x⟩
/- quern/quernlaw17.LiveIntervals -/
def fl3 : FL := ⟨65, (.seq (.reg [se 2 (.box 25 (t 0)), sv 4 (.mov (cb false))]) (.seq (.reg [se 13 (.call 6 [] (.one .bool)), sv 5 (.mov (t 13))]) (.seq (.reg [sv 14 (.lda [.str, .slice, (.int .i64), (.int .i64), .slice] (t 2)), se 15 (.call 7 [(t 14)] (.one .bool)), sv 6 (.mov (t 15))]) (.seq (.seq (.reg [sv 16 (.mov (t 5)), sv 17 (.no (t 16)), sv 18 (.mov (t 17)), ⟨some 19, some (18, false), .v (.mov (t 6))⟩, ⟨some 20, some (18, false), .v (.no (t 19))⟩, sv 21 (.pick (t 18) (cb true) (t 20))]) (.cond (t 21) (.seq (.reg [sv 22 (.mov (t 5)), sv 4 (.mov (t 22))]) .ret) .skip)) (.seq (.reg [sv 23 (.lda [.str, .slice, (.int .i64), (.int .i64), .slice] (t 2)), se 24 (.call 8 [(t 23)] (.one .ptr)), sv 7 (.mov (t 24))]) (.seq (.reg [sv 25 (.mov (t 1)), se 26 (.call 9 [(t 25)] (.one .slice)), sv 8 (.mov (t 26))]) (.seq (.reg [sv 28 (.mov (t 7)), sv 29 (.nck (t 28)), sv 30 (.fad 0 (t 29)), sv 31 (.fad 0 (t 30)), sv 32 (.ld .slice (t 31)), sv 33 (.idx 5 (t 32) (ci 0)), sv 34 (.lda [.str, .slice, (.int .i64), (.int .i64), .slice] (t 33)), sv 35 (.mov (t 8)), se 36 (.call 10 [(t 34), (t 35)] (.tup [(.one .slice), (.one (.int .i64))])), sv 27 (.mov (t 36)), sv 37 (.ext (t 27) 0), sv 38 (.ext (t 27) 1), sv 9 (.mov (t 37)), sv 10 (.mov (t 38))]) (.seq (.reg [sv 40 (.lda [.str, .slice, (.int .i64), (.int .i64), .slice] (t 2)), sv 41 (.mov (t 1)), se 42 (.call 11 [(t 40), (t 41)] (.tup [(.one .slice), (.one (.int .i64))])), sv 39 (.mov (t 42)), sv 43 (.ext (t 39) 0), sv 44 (.ext (t 39) 1), sv 11 (.mov (t 43)), sv 12 (.mov (t 44))]) (.seq (.reg [sv 45 (.mov (t 10)), sv 46 (.mov (t 12)), sv 47 (.cmp .eql (t 45) (t 46)), sv 48 (.mov (t 47)), ⟨some 49, some (48, true), .v (.mov (t 9))⟩, ⟨some 50, some (48, true), .v (.mov (t 11))⟩, ⟨some 51, some (48, true), .e (.call 12 [(t 49), (t 50)] (.one .bool))⟩, sv 52 (.pick (t 48) (t 51) (cb false)), sv 53 (.mov (t 52)), ⟨some 54, some (53, true), .v (.mov (t 7))⟩, ⟨some 55, some (53, true), .v (.lda [.str, .slice, (.int .i64), (.int .i64), .slice] (t 2))⟩, ⟨some 56, some (53, true), .e (.bsl 25 5 [.string ⟨⟨[]⟩⟩, .slice none 0 0, .int .i64 0, .int .i64 0, .slice none 0 0] 1 [(0, 5, (t 55))])⟩, ⟨some 57, some (53, true), .v (.bld [.slice none 0 0, .int .i64 0] [(0, 1, (t 56))])⟩, ⟨some 58, some (53, true), .e (.call 13 [(t 54), (t 57)] (.one .bool))⟩, sv 59 (.pick (t 53) (t 58) (cb false)), sv 60 (.mov (t 59)), ⟨some 61, some (60, true), .v (.mov (t 8))⟩, ⟨some 62, some (60, true), .v (.mov (t 1))⟩, ⟨some 63, some (60, true), .e (.call 14 [(t 61), (t 62)] (.one .bool))⟩, sv 64 (.pick (t 60) (t 63) (cb false)), sv 4 (.mov (t 64))]) .ret))))))))), [.tmp 4]⟩
theorem ck3 : chkFL Tryd.prog 3 fl3 = true := by kernel_rfl
def sh3 (f_0 : ByteArray) (af_0 : Option Addr) (nf_0 cf_0 : Nat) (f_0_1 : Int) (f_0_2 : Int) (af_0_1 : Option Addr) (nf_0_1 cf_0_1 : Nat) (aline_1 : Option Addr) (nline_1 cline_1 : Nat) (h : H) (R : Value → H → Prop) : Prop :=
 ∀ (bf_2 : Nat) (h1 : H), New h (.cells ⟨[(.string f_0), (.slice af_0 nf_0 cf_0), (.int .i64 f_0_1), (.int .i64 f_0_2), (.slice af_0_1 nf_0_1 cf_0_1)]⟩ 25) bf_2 h1 →
 HC Tryd.prog 6 [] h1 fun rv_13 h2 =>
 ∃ (v_13 : Bool), rv_13 = (.bool v_13) ∧
 ∃ (v_14 : ByteArray), cell h2 ⟨bf_2, (0 + 0), none⟩ = some (.string v_14) ∧
 ∃ (av_14 : Option Addr) (nv_14 cv_14 : Nat), cell h2 ⟨bf_2, (0 + 1), none⟩ = some (.slice av_14 nv_14 cv_14) ∧
 ∃ (v_14_1 : Int), cell h2 ⟨bf_2, (0 + 2), none⟩ = some (.int .i64 v_14_1) ∧
 ∃ (v_14_2 : Int), cell h2 ⟨bf_2, (0 + 3), none⟩ = some (.int .i64 v_14_2) ∧
 ∃ (av_14_1 : Option Addr) (nv_14_1 cv_14_1 : Nat), cell h2 ⟨bf_2, (0 + 4), none⟩ = some (.slice av_14_1 nv_14_1 cv_14_1) ∧
 HC Tryd.prog 7 [(.agg ⟨[(.string v_14), (.slice av_14 nv_14 cv_14), (.int .i64 v_14_1), (.int .i64 v_14_2), (.slice av_14_1 nv_14_1 cv_14_1)]⟩)] h2 fun rv_15 h3 =>
 ∃ (v_15 : Bool), rv_15 = (.bool v_15) ∧
 (((!v_13) = true →
 R (.bool v_13) h3) ∧
 ((!v_13) = false →
 (((!v_15) = true →
 R (.bool v_13) h3) ∧
 ((!v_15) = false →
 ∃ (v_23 : ByteArray), cell h3 ⟨bf_2, (0 + 0), none⟩ = some (.string v_23) ∧
 ∃ (av_23 : Option Addr) (nv_23 cv_23 : Nat), cell h3 ⟨bf_2, (0 + 1), none⟩ = some (.slice av_23 nv_23 cv_23) ∧
 ∃ (v_23_1 : Int), cell h3 ⟨bf_2, (0 + 2), none⟩ = some (.int .i64 v_23_1) ∧
 ∃ (v_23_2 : Int), cell h3 ⟨bf_2, (0 + 3), none⟩ = some (.int .i64 v_23_2) ∧
 ∃ (av_23_1 : Option Addr) (nv_23_1 cv_23_1 : Nat), cell h3 ⟨bf_2, (0 + 4), none⟩ = some (.slice av_23_1 nv_23_1 cv_23_1) ∧
 HC Tryd.prog 8 [(.agg ⟨[(.string v_23), (.slice av_23 nv_23 cv_23), (.int .i64 v_23_1), (.int .i64 v_23_2), (.slice av_23_1 nv_23_1 cv_23_1)]⟩)] h3 fun rv_24 h4 =>
 ∃ (pv_24 : Option Addr), rv_24 = (.pointer pv_24) ∧
 HC Tryd.prog 9 [(.slice aline_1 nline_1 cline_1)] h4 fun rv_26 h5 =>
 ∃ (av_26 : Option Addr) (nv_26 cv_26 : Nat), rv_26 = (.slice av_26 nv_26 cv_26) ∧
 (pv_24 : Option Addr) ≠ none ∧
 (onP pv_24 fun bv_30 ov_30 =>
 ∃ (av_32 : Option Addr) (nv_32 cv_32 : Nat), cell h5 ⟨bv_30, ((ov_30 + 0) + 0), none⟩ = some (.slice av_32 nv_32 cv_32) ∧
 0 ≤ (0 : Int) ∧ 0 < (↑nv_32 : Int) ∧
 (onP av_32 fun bv_33 ov_33 =>
 ∃ (v_34 : ByteArray), cell h5 ⟨bv_33, ((ov_33 + ((0 : Int)).toNat * 5) + 0), none⟩ = some (.string v_34) ∧
 ∃ (av_34 : Option Addr) (nv_34 cv_34 : Nat), cell h5 ⟨bv_33, ((ov_33 + ((0 : Int)).toNat * 5) + 1), none⟩ = some (.slice av_34 nv_34 cv_34) ∧
 ∃ (v_34_1 : Int), cell h5 ⟨bv_33, ((ov_33 + ((0 : Int)).toNat * 5) + 2), none⟩ = some (.int .i64 v_34_1) ∧
 ∃ (v_34_2 : Int), cell h5 ⟨bv_33, ((ov_33 + ((0 : Int)).toNat * 5) + 3), none⟩ = some (.int .i64 v_34_2) ∧
 ∃ (av_34_1 : Option Addr) (nv_34_1 cv_34_1 : Nat), cell h5 ⟨bv_33, ((ov_33 + ((0 : Int)).toNat * 5) + 4), none⟩ = some (.slice av_34_1 nv_34_1 cv_34_1) ∧
 HC Tryd.prog 10 [(.agg ⟨[(.string v_34), (.slice av_34 nv_34 cv_34), (.int .i64 v_34_1), (.int .i64 v_34_2), (.slice av_34_1 nv_34_1 cv_34_1)]⟩), (.slice av_26 nv_26 cv_26)] h5 fun rv_36 h6 =>
 ∃ (av_36 : Option Addr) (nv_36 cv_36 : Nat), ∃ (v_36 : Int), rv_36 = (.tuple ⟨[(.slice av_36 nv_36 cv_36), (.int .i64 v_36)]⟩) ∧
 ∃ (v_40 : ByteArray), cell h6 ⟨bf_2, (0 + 0), none⟩ = some (.string v_40) ∧
 ∃ (av_40 : Option Addr) (nv_40 cv_40 : Nat), cell h6 ⟨bf_2, (0 + 1), none⟩ = some (.slice av_40 nv_40 cv_40) ∧
 ∃ (v_40_1 : Int), cell h6 ⟨bf_2, (0 + 2), none⟩ = some (.int .i64 v_40_1) ∧
 ∃ (v_40_2 : Int), cell h6 ⟨bf_2, (0 + 3), none⟩ = some (.int .i64 v_40_2) ∧
 ∃ (av_40_1 : Option Addr) (nv_40_1 cv_40_1 : Nat), cell h6 ⟨bf_2, (0 + 4), none⟩ = some (.slice av_40_1 nv_40_1 cv_40_1) ∧
 HC Tryd.prog 11 [(.agg ⟨[(.string v_40), (.slice av_40 nv_40 cv_40), (.int .i64 v_40_1), (.int .i64 v_40_2), (.slice av_40_1 nv_40_1 cv_40_1)]⟩), (.slice aline_1 nline_1 cline_1)] h6 fun rv_42 h7 =>
 ∃ (av_42 : Option Addr) (nv_42 cv_42 : Nat), ∃ (v_42 : Int), rv_42 = (.tuple ⟨[(.slice av_42 nv_42 cv_42), (.int .i64 v_42)]⟩) ∧
 (((v_36 = v_42) →
 HC Tryd.prog 12 [(.slice av_36 nv_36 cv_36), (.slice av_42 nv_42 cv_42)] h7 fun rv_51 h8 =>
 ∃ (v_51 : Bool), rv_51 = (.bool v_51) ∧
 ((v_51 = true →
 ∃ (v_55 : ByteArray), cell h8 ⟨bf_2, (0 + 0), none⟩ = some (.string v_55) ∧
 ∃ (av_55 : Option Addr) (nv_55 cv_55 : Nat), cell h8 ⟨bf_2, (0 + 1), none⟩ = some (.slice av_55 nv_55 cv_55) ∧
 ∃ (v_55_1 : Int), cell h8 ⟨bf_2, (0 + 2), none⟩ = some (.int .i64 v_55_1) ∧
 ∃ (v_55_2 : Int), cell h8 ⟨bf_2, (0 + 3), none⟩ = some (.int .i64 v_55_2) ∧
 ∃ (av_55_1 : Option Addr) (nv_55_1 cv_55_1 : Nat), cell h8 ⟨bf_2, (0 + 4), none⟩ = some (.slice av_55_1 nv_55_1 cv_55_1) ∧
 5 = 5 ∧ 0 + 5 ≤ 5 ∧
 ∀ (bv_56 : Nat) (h9 : H), New h8 (.cells ⟨[(.string v_55), (.slice av_55 nv_55 cv_55), (.int .i64 v_55_1), (.int .i64 v_55_2), (.slice av_55_1 nv_55_1 cv_55_1)]⟩ 25) bv_56 h9 →
 1 = 1 ∧ 0 + 1 ≤ 2 ∧
 HC Tryd.prog 13 [(.pointer pv_24), (.agg ⟨[(.slice (some ⟨bv_56, 0, none⟩) 1 1), (.int .i64 0)]⟩)] h9 fun rv_58 h10 =>
 ∃ (v_58 : Bool), rv_58 = (.bool v_58) ∧
 ((v_58 = true →
 HC Tryd.prog 14 [(.slice av_26 nv_26 cv_26), (.slice aline_1 nline_1 cline_1)] h10 fun rv_63 h11 =>
 ∃ (v_63 : Bool), rv_63 = (.bool v_63) ∧
 R (.bool v_63) h11) ∧
 (v_58 = false →
 R (.bool false) h10))) ∧
 (v_51 = false →
 R (.bool false) h8))) ∧
 (¬ (v_36 = v_42) →
 R (.bool false) h7))))))))
theorem hc3 {f_0 : ByteArray} {af_0 : Option Addr} {nf_0 cf_0 : Nat} {f_0_1 : Int} {f_0_2 : Int} {af_0_1 : Option Addr} {nf_0_1 cf_0_1 : Nat} {aline_1 : Option Addr} {nline_1 cline_1 : Nat} {h : H} {R : Value → H → Prop} (x : sh3 f_0 af_0 nf_0 cf_0 f_0_1 f_0_2 af_0_1 nf_0_1 cf_0_1 aline_1 nline_1 cline_1 h R) : HC Tryd.prog 3 [(.agg ⟨[(.string f_0), (.slice af_0 nf_0 cf_0), (.int .i64 f_0_1), (.int .i64 f_0_2), (.slice af_0_1 nf_0_1 cf_0_1)]⟩), (.slice aline_1 nline_1 cline_1)] h R :=
  FL.sound mixed ck3 ⟨rfl, Eq.mp (by unfold sh3; kernel_rfl) x⟩
end Go.Proofs.Try

/- Functions as they are lent: each list with its marks behind it; room, kept. -/
set_option maxRecDepth 100000
set_option linter.unusedVariables false
set_option linter.unusedSimpArgs false
open Go Go.Fw Go.Proofs
namespace Go.Proofs.Try

/-- P holds, and goes on to while nothing but T changes. -/
def Held (T : Nat → Prop) (h : H) (P : H → Prop) : Prop := ∀ h', Fw.Mod T h h' → P h'
theorem Held.now {T : Nat → Prop} {h : H} {P : H → Prop} (x : Held T h P) : P h := x h (Mod.refl _ _)
theorem Held.step {T T' : Nat → Prop} {h h1 : H} {P : H → Prop} (x : Held T h P) (m : Fw.Mod T h h1) (hT : ∀ b, b < h.size → T' b → T b) : Held T' h1 P :=
  fun h' m' => x h' (m.trans m' hT)
theorem Held.less {T T' : Nat → Prop} {h : H} {P : H → Prop} (x : Held T h P) (hT : ∀ b, b < h.size → T' b → T b) : Held T' h P := x.step (Mod.refl _ _) hT
theorem Held.imp {T : Nat → Prop} {h : H} {P Q : H → Prop} (x : Held T h P) (f : ∀ h, P h → Q h) : Held T h Q := fun h' m => f _ (x h' m)
theorem Held.and {T : Nat → Prop} {h : H} {P Q : H → Prop} (x : Held T h P) (y : Held T h Q) : Held T h fun h => P h ∧ Q h := fun h' m => ⟨x h' m, y h' m⟩
theorem Held.ext {T T' : Nat → Prop} {h h1 : H} {P : H → Prop} (x : Held T h P) (e : Ext h h1) (hT : ∀ b, b < h.size → T' b → T b) : Held T' h1 P := x.step (e.mod.wid fun _ _ x => x.elim) hT

def All2 {α β : Type} (D : α → β → Prop) (vs : List α) (xs : List β) : Prop := vs.length = xs.length ∧ ∀ (i : Nat) v x, vs[i]? = some v → xs[i]? = some x → D v x
theorem All2.nil {α β : Type} (D : α → β → Prop) : All2 D [] [] := ⟨rfl, fun i v x h => by simp at h⟩
theorem All2.imp {α β : Type} {D D' : α → β → Prop} {vs : List α} {xs : List β} (a : All2 D vs xs) (f : ∀ v x, D v x → D' v x) : All2 D' vs xs := ⟨a.1, fun i v x h1 h2 => f v x (a.2 i v x h1 h2)⟩
theorem All2.snoc {α β : Type} {D : α → β → Prop} {vs : List α} {xs : List β} {v : α} {x : β} (a : All2 D vs xs) (d : D v x) : All2 D (vs ++ [v]) (xs ++ [x]) := by
  refine ⟨by simp [a.1], fun i v' x' h1 h2 => ?_⟩
  by_cases hi : i < vs.length
  · rw [List.getElem?_append_left hi] at h1
    rw [List.getElem?_append_left (by rw [← a.1]; exact hi)] at h2
    exact a.2 i _ _ h1 h2
  · rw [List.getElem?_append_right (by omega)] at h1
    rw [List.getElem?_append_right (by have := a.1; omega)] at h2
    have hl := a.1
    by_cases h0 : i - vs.length = 0
    · rw [h0] at h1; rw [show i - xs.length = 0 by omega] at h2
      simp at h1 h2; subst h1; subst h2; exact d
    · rw [List.getElem?_eq_none (by simp; omega)] at h1; cases h1
theorem All2.get {α β : Type} {D : α → β → Prop} {vs : List α} {xs : List β} (a : All2 D vs xs) {i : Nat} {x : β} (hx : xs[i]? = some x) : ∃ v, vs[i]? = some v ∧ D v x := by
  have hi : i < vs.length := by rw [a.1]; exact (List.getElem?_eq_some_iff.1 hx).1
  exact ⟨vs[i], by simp, a.2 i _ _ (by simp) hx⟩

structure InV where
  op : Int
  dst : Int
  imm : Int
  p : Option Addr
  n : Nat
  c : Nat
structure BlV where
  p : Option Addr
  n : Nat
  c : Nat
  kind : Int
  value : Int
  q : Option Addr
  m : Nat
  d : Nat
structure FnV where
  name : ByteArray
  p : Option Addr
  n : Nat
  c : Nat
  regs : Int
  res : Int
  q : Option Addr
  m : Nat
  d : Nat
def ienc (v : InV) : List Value := [.int .i64 v.op, .int .i64 v.dst, .int .i64 v.imm, .slice v.p v.n v.c]
def benc (v : BlV) : List Value := [.slice v.p v.n v.c, .int .i64 v.kind, .int .i64 v.value, .slice v.q v.m v.d]
def fenc (v : FnV) : List Value := [.string v.name, .slice v.p v.n v.c, .int .i64 v.regs, .int .i64 v.res, .slice v.q v.m v.d]
theorem ienc4 (v : InV) : (ienc v).length = 4 := rfl
theorem benc4 (v : BlV) : (benc v).length = 4 := rfl
theorem fenc5 (v : FnV) : (fenc v).length = 5 := rfl

def RoomD (h : H) (p : Option Addr) (n c : Nat) (l : List Int) : Prop := IntsAt h p (n + 2) (l ++ [-71, -72]) ∧ n + 2 ≤ c
def MRow {α β : Type} (enc : α → List Value) (k : Nat) (D : H → α → β → Prop) (M : α → Prop) (h : H) (p : Option Addr) (n c : Nat) (xs : List β) : Prop :=
  ∃ vs last, SlAt enc k h p (n + 1) (vs ++ [last]) ∧ M last ∧ n + 1 ≤ c ∧ All2 (D h) vs xs
def InsM (h : H) (v : InV) (x : Ins) : Prop := v.op = x.op ∧ v.dst = x.dst ∧ v.imm = x.imm ∧ RoomD h v.p v.n v.c x.args
def InsX (v : InV) : Prop := v.op = -71
def BlkM (h : H) (v : BlV) (x : Blk) : Prop := MRow ienc 4 InsM InsX h v.p v.n v.c x.body ∧ v.kind = x.term.kind ∧ v.value = x.term.value ∧ RoomD h v.q v.m v.d x.term.to
def BlkX (v : BlV) : Prop := v.kind = -71
def FncM (h : H) (v : FnV) (x : Fnc) : Prop := v.name = x.name ∧ RoomD h v.p v.n v.c x.params ∧ v.regs = x.regs ∧ v.res = x.result ∧ MRow benc 4 BlkM BlkX h v.q v.m v.d x.blocks
def FncX (v : FnV) : Prop := v.name = ⟨#[109, 97, 114, 107]⟩
def LirM (h : H) (p : Option Addr) (n c : Nat) (fs : List Fnc) : Prop := MRow fenc 5 FncM FncX h p n c fs
theorem RoomD.ext {h h' : H} {p : Option Addr} {n c : Nat} {l : List Int} (e : Ext h h') (x : RoomD h p n c l) : RoomD h' p n c l := ⟨x.1.ext e, x.2⟩
theorem RoomD.len {h : H} {p : Option Addr} {n c : Nat} {l : List Int} (x : RoomD h p n c l) : l.length = n := by have := x.1.len; simp at this; exact this
theorem _root_.Go.Fw.SlAt.left {α : Type} {enc : α → List Value} {k : Nat} {h : H} {p : Option Addr} {n m : Nat} {l l' : List α} (s : SlAt enc k h p n (l ++ l')) (hm : l.length = m) : SlAt enc k h p m l := by
  refine ⟨hm, fun h0 => ?_⟩
  have := s.len
  simp only [List.length_append] at this
  obtain ⟨b, o, hp, hc⟩ := s.at_ (by omega)
  refine ⟨b, o, hp, fun i x hi => hc i x ?_⟩
  rw [List.getElem?_append_left (List.getElem?_eq_some_iff.1 hi).1]; exact hi
theorem RoomD.ints {h : H} {p : Option Addr} {n c : Nat} {l : List Int} (x : RoomD h p n c l) : IntsAt h p n l := x.1.left x.len
theorem MRow.ext {α β : Type} {enc : α → List Value} {k : Nat} {D : H → α → β → Prop} {M : α → Prop} {h h' : H} {p : Option Addr} {n c : Nat} {xs : List β} (hD : ∀ v x, D h v x → D h' v x) (e : Ext h h') (x : MRow enc k D M h p n c xs) : MRow enc k D M h' p n c xs :=
  let ⟨vs, l, a, b, c, d⟩ := x; ⟨vs, l, a.ext e, b, c, d.imp hD⟩
theorem MRow.len {α β : Type} {enc : α → List Value} {k : Nat} {D : H → α → β → Prop} {M : α → Prop} {h : H} {p : Option Addr} {n c : Nat} {xs : List β} (x : MRow enc k D M h p n c xs) : xs.length = n := by
  obtain ⟨vs, l, a, b, c, d⟩ := x
  have := a.len; have := d.1; simp at *; omega
theorem InsM.ext {h h' : H} (e : Ext h h') {v : InV} {x : Ins} (a : InsM h v x) : InsM h' v x := ⟨a.1, a.2.1, a.2.2.1, a.2.2.2.ext e⟩
theorem BlkM.ext {h h' : H} (e : Ext h h') {v : BlV} {x : Blk} (a : BlkM h v x) : BlkM h' v x := ⟨a.1.ext (fun _ _ => InsM.ext e) e, a.2.1, a.2.2.1, a.2.2.2.ext e⟩
theorem FncM.ext {h h' : H} (e : Ext h h') {v : FnV} {x : Fnc} (a : FncM h v x) : FncM h' v x := ⟨a.1, a.2.1.ext e, a.2.2.1, a.2.2.2.1, a.2.2.2.2.ext (fun _ _ => BlkM.ext e) e⟩
theorem LirM.ext {h h' : H} (e : Ext h h') {p : Option Addr} {n c : Nat} {fs : List Fnc} (a : LirM h p n c fs) : LirM h' p n c fs := MRow.ext (fun _ _ => FncM.ext e) e a
/-- What is lent is a row of what is handed in. -/
theorem MRow.row {α β : Type} {enc : α → List Value} {k : Nat} {D : H → α → β → Prop} {M : α → Prop} {h : H} {p : Option Addr} {n c : Nat} {xs : List β} (x : MRow enc k D M h p n c xs) {D' : H → List Value → β → Prop} (hD : ∀ v x, D h v x → D' h (enc v) x) : RowAt D' k h p n xs ∧ n ≤ c := by
  have hl := x.len
  obtain ⟨vs, l, a, b, c, d⟩ := x
  have hvl : vs.length = n := by rw [d.1, hl]
  refine ⟨⟨hl, fun h0 => ?_⟩, by omega⟩
  obtain ⟨bb, o, hp, hc⟩ := (a.left hvl).at_ h0
  refine ⟨bb, o, hp, fun i x hi => ?_⟩
  obtain ⟨v, hv, dv⟩ := d.get hi
  exact ⟨enc v, hD v x dv, hc i v hv⟩
theorem InsM.d {h : H} {v : InV} {x : Ins} (a : InsM h v x) : InsD h (ienc v) x := by
  obtain ⟨h1, h2, h3, h4⟩ := a
  exact ⟨v.p, v.n, v.c, by rw [← h1, ← h2, ← h3]; rfl, h4.ints, by have := h4.2; omega⟩
theorem BlkM.d {h : H} {v : BlV} {x : Blk} (a : BlkM h v x) : BlkD h (benc v) x := by
  obtain ⟨h1, h2, h3, h4⟩ := a
  obtain ⟨r, rc⟩ := h1.row fun _ _ => InsM.d
  exact ⟨v.p, v.n, v.c, v.q, v.m, v.d, by rw [← h2, ← h3]; rfl, r, rc, h4.ints, by have := h4.2; omega⟩
theorem FncM.d {h : H} {v : FnV} {x : Fnc} (a : FncM h v x) : FncD h (fenc v) x := by
  obtain ⟨h1, h2, h3, h4, h5⟩ := a
  obtain ⟨r, rc⟩ := h5.row fun _ _ => BlkM.d
  exact ⟨v.p, v.n, v.c, v.q, v.m, v.d, by rw [← h1, ← h3, ← h4]; rfl, h2.ints, by have := h2.2; omega, r, rc⟩

/-- room: a list of its own, with two marks. -/
theorem c9 {h : H} {p : Option Addr} {n c : Nat} {l : List Int} (hl : IntsAt h p n l) (hs : (n + 2) * 8 ≤ 140737488355328) {R : Value → H → Prop}
    (k : ∀ p' c' h', Ext h h' → Held (fun b => b < h.size) h' (fun h => RoomD h p' n c' l) → R (.slice p' n c') h') : HC Tryd.prog 9 [.slice p n c] h R := by
  have hn := hl.len
  apply hc9; unfold sh9
  refine Grow.app (enc := fun x : Int => [Value.int .i64 x]) (fun _ => rfl) (Grow.nil _ _ h h none) (Nat.le_refl _) rfl hn (by rw [flat1]; exact hl.rdc) (by rw [flat1]; exact oneA_map (fun _ => rfl) _) (by omega) fun p1 c1 h1 g1 m1 l1 => ?_
  refine ⟨rfl, by omega, rfl, by omega, fun bv h2 hN => ?_⟩
  have e1 : Ext h h1 := m1.ext (fun _ _ x => x) fun c _ hc => absurd hc.2 (Nat.lt_irrefl 0)
  refine Grow.app (enc := fun x : Int => [Value.int .i64 x]) (fun _ => rfl) (g1.ext hN.ext) (by have := e1.size; have := hN.size; omega) rfl (m := 2) (l' := [-71, -72]) rfl ⟨rfl, fun _ => ⟨bv, 0, rfl, fun j hj => by rw [cell_of hN.get]; rw [Nat.zero_add]; rfl⟩⟩ rfl (by omega) fun p2 c2 h3 g2 m2 l2 => ?_
  have hle := g2.le
  refine ⟨hle, by omega, by omega, p2, rfl, ?_⟩
  have e2 : Ext h h3 := (m2.ext (h0 := h) (e1.trans hN.ext) fun b hb hh => absurd (g1.lo hh.1 hh.2).1 (by omega))
  have := k p2 c2 h3 e2 ?_
  · rw [show ((n : Int) - 0).toNat = n by omega, show ((c2 : Int) - 0).toNat = c2 by omega]; exact this
  · intro h' m'
    have g3 := g2.mod m' fun b hb hc => by have := (g2.lo hb hc).1; omega
    refine ⟨?_, by have := g2.le; omega⟩
    have := g3.sl (enc := fun x : Int => [Value.int .i64 x]) (k := 1) (fun _ => rfl)
    rw [l.nil_append, Nat.zero_add] at this
    exact this
theorem c14 {h : H} {p : Option Addr} {n c : Nat} {l : List Int} (hl : RoomD h p n c l) {q : Option Addr} {m d : Nat} (hq : IntsAt h q m l) (hs : (n + 2) * 8 ≤ 140737488355328) {R : Value → H → Prop}
    (k : R (.bool true) h) : HC Tryd.prog 14 [.slice p n c, .slice q m d] h R := by
  have hn := hl.len
  have hm := hq.len
  obtain ⟨hr, hc⟩ := hl
  have hnm : n = m := by omega
  subst hnm
  apply hc14; unfold sh14
  refine ⟨fun hne => absurd rfl hne, fun _ => ⟨i64ok (by omega) (by omega), by omega, by omega, by omega, p, rfl, ?_⟩⟩
  refine fwd n (fun v h' => h = h') (by omega) rfl fun v h2 v0 v1 hh => ?_
  subst hh
  have hlen : ((((n : Int) + 2) - 0).toNat : Int) = n + 2 := by omega
  refine ⟨fun hlt => ⟨v0, by omega, ?_⟩, fun hge => ⟨by omega, by omega, ?_⟩⟩
  · obtain ⟨r, b', o', hr', hp', hcell'⟩ := hr.get v0 (by omega)
    obtain ⟨r2, b2, o2, hr2, hp2, hcell2⟩ := hq.get v0 hlt
    have : r = r2 := by
      rw [List.getElem?_append_left (by omega)] at hr'
      rw [hr2] at hr'; exact (Option.some.inj hr').symm
    subst this
    exact onP_at hp' ⟨v0, hlt, onP_at hp2 ⟨r, hcell', r, hcell2, fun hne => absurd rfl hne, fun _ => ⟨i64ok (by omega) (by omega), fwd_next v0 hlt rfl⟩⟩⟩
  · obtain ⟨r, b', o', hr', hp', hcell'⟩ := hr.get (i := (n : Int)) (by omega) (by omega)
    obtain ⟨r2, b2, o2, hr2, hp2, hcell2⟩ := hr.get (i := (n : Int) + 1) (by omega) (by omega)
    have h1 : r = -71 := by
      rw [List.getElem?_append_right (by omega), show (n : Int).toNat - l.length = 0 by omega] at hr'; simpa using hr'.symm
    have h2 : r2 = -72 := by
      rw [List.getElem?_append_right (by omega), show ((n : Int) + 1).toNat - l.length = 1 by omega] at hr2; simpa using hr2.symm
    subst h1; subst h2
    exact onP_at hp' ⟨_, hcell', fun _ => ⟨i64ok (by omega) (by omega), by omega, by omega, onP_at hp2 ⟨_, hcell2, by simpa using k⟩⟩, fun hne => absurd rfl hne⟩
end Go.Proofs.Try

/- lent: a program of its own lists, each with marks behind it. -/
set_option maxRecDepth 100000
set_option linter.unusedVariables false
set_option linter.unusedSimpArgs false
open Go Go.Fw Go.Proofs
namespace Go.Proofs.Try

theorem _root_.Go.Fw.Mod.seq {S S' T : Nat → Prop} {h h1 h2 : H} (x : Fw.Mod S h h1) (y : Fw.Mod S' h1 h2) (f : ∀ b, b < h.size → S b → T b) (g : ∀ b, b < h.size → S' b → T b) : Fw.Mod T h h2 := (x.wid f).trans y g
theorem _root_.Go.Fw.Mod.seqE {S : Nat → Prop} {h h1 h2 : H} (x : Fw.Mod S h h1) (y : Ext h1 h2) : Fw.Mod S h h2 := x.trans y.mod fun _ _ h => h.elim
theorem bcell {h : H} {b o : Nat} {cs : List Value} {e : TypeId} {fr : Nat × Nat} {v : Value} (hb : h[b]? = some (.cells ⟨cs⟩ e fr)) (hv : cs[o]? = some v) : cell h ⟨b, o, none⟩ = some v := by rw [cell_of hb]; exact hv
theorem st_blk {h : H} {b o n : Nat} {cs cs' vs : List Value} {e : TypeId} {K : H → Prop} (hb : h[b]? = some (.cells ⟨cs⟩ e (0, 0))) (hc : setAt cs o vs = cs') (hl : o + n ≤ cs.length) (ho : oneA vs = true) (hn : vs.length = n)
    (k : ∀ h', h'[b]? = some (.cells ⟨cs'⟩ e (0, 0)) → Fw.Mod (fun c => c = b) h h' → K h') : stQ n h b o vs K :=
  ⟨cs, e, hb, hl, ho, hn, fun h' hu => k h' (by rw [hc] at hu; exact hu.get hb) (hu.mod rfl)⟩
theorem st_new {h h1 : H} {b n : Nat} {cs vs : List Value} {e : TypeId} {K : H → Prop} (hN : New h (.cells ⟨cs⟩ e (0, 0)) b h1) (hc : setAt cs 0 vs = vs) (hl : n ≤ cs.length) (ho : oneA vs = true) (hn : vs.length = n)
    (k : ∀ h', h'[b]? = some (.cells ⟨vs⟩ e (0, 0)) → Ext h h' → K h') : stQ n h1 b 0 vs K :=
  st_blk hN.get hc (by omega) ho hn fun h' hb m => k h' hb (m.ext hN.ext fun c hc' he => by have := hN.blk; omega)
theorem rdc_new {h h' : H} {b : Nat} {cs : List Value} {e : TypeId} {fr : Nat × Nat} (hN : New h (.cells ⟨cs⟩ e fr) b h') {k : Nat} (hk : cs.length = k) : Fw.rdc h' (some ⟨b, 0, none⟩) k cs :=
  ⟨hk, fun _ => ⟨b, 0, rfl, fun j hj => by rw [cell_of hN.get]; rw [Nat.zero_add]⟩⟩
theorem _root_.Go.Fw.Grow.put {α : Type} {enc : α → List Value} {k : Nat} (hk : ∀ x, (enc x).length = k) {hs h : H} {p : Option Addr} {n c : Nat} {vs : List α} (G : Grow enc k hs h p n c vs) (hsz : hs.size ≤ h.size)
    {e : TypeId} {bytes : Nat} {z : List Value} {q : Option Addr} {v : α} (hz : z.length = k) (hq : Fw.rdc h q (1 * k) (enc v)) (ho : oneA (enc v) = true) (hb : (n + 1) * bytes ≤ 140737488355328) (X : Nat → Prop)
    {K : Option Addr → Nat → Nat → H → Prop} (hK : ∀ p' c' h', Grow enc k hs h' p' (n + 1) c' (vs ++ [v]) → Fw.Mod (fun b => AtP p b ∧ 0 < c) h h' →
      (∀ P, Held (fun b => X b ∨ (AtP p b ∧ 0 < c)) h P → Held (fun b => X b ∨ (AtP p' b ∧ 0 < c')) h' P) → K p' (n + 1) c' h') : apQ e k bytes z h p n c q 1 K := by
  refine Grow.app hk G hsz (m := 1) (l' := [v]) hz rfl (by simpa [flat] using hq) (by simpa [flat] using ho) hb fun p' c' h' g m l => hK p' c' h' g m fun P x => ?_
  refine x.step (m.wid fun b _ hx => .inr hx) fun b hb hx => ?_
  rcases hx with hx | hx
  · exact .inl hx
  · rcases l (by omega) b hx.1 with y | y
    · exact .inr y
    · omega
theorem _root_.Go.Fw.Grow.row {α β : Type} {enc : α → List Value} {k : Nat} (hk : ∀ x, (enc x).length = k) {hs h : H} {p : Option Addr} {n c : Nat} {vs : List α} {last : α} (G : Grow enc k hs h p (n + 1) c (vs ++ [last])) {X : Nat → Prop} {D : H → α → β → Prop} {xs : List β} {M : α → Prop}
    (A : Held (fun b => X b ∨ (AtP p b ∧ 0 < c)) h (fun h => All2 (D h) vs xs)) (hX : ∀ b, X b → b < hs.size) (hM : M last) : Held X h (fun h => MRow enc k D M h p n c xs) := by
  intro h' m
  have g := G.mod m fun b hb hc hx => by have := (G.lo hb hc).1; have := hX b hx; omega
  exact ⟨vs, last, g.sl hk, hM, g.le, A h' (m.wid fun b _ hx => .inl hx)⟩

def SzL (f : Fnc) : Prop := (f.params.length + 2) * 8 ≤ 140737488355328 ∧ (f.blocks.length + 1) * 64 ≤ 140737488355328 ∧
  ∀ b ∈ f.blocks, (b.body.length + 1) * 48 ≤ 140737488355328 ∧ (b.term.to.length + 2) * 8 ≤ 140737488355328 ∧ ∀ x ∈ b.body, (x.args.length + 2) * 8 ≤ 140737488355328

set_option maxHeartbeats 4000000 in
theorem c24 {h : H} {p : Option Addr} {n c : Nat} {fs : List Fnc} {main : Int} (hl : RowAt FncD 5 h p n fs) (hz : (n + 1) * 80 ≤ 140737488355328) (hz2 : ∀ f ∈ fs, SzL f) {R : Value → H → Prop}
    (k : ∀ b p' c' h', Ext h h' → h.size ≤ b → h'[b]? = some (.cells ⟨[.slice p' n c', .int .i64 main]⟩ 39 (0, 0)) → Held (fun x => x < h.size ∨ x = b) h' (fun h => LirM h p' n c' fs) → R (.pointer (some ⟨b, 0, none⟩)) h') :
    HC Tryd.prog 24 [.agg ⟨[.slice p n c, .int .i64 main]⟩] h R := by
  have hfl := hl.len
  apply hc24; unfold sh24; intro bl h1 hN1 bv h2 hN2
  have e01 := hN1.ext
  have e12 := hN2.ext
  have b1 := hN1.blk
  have s1 := hN1.size
  have b2 := hN2.blk
  have s2 := hN2.size
  refine fwd n (fun i h3 => Fw.Mod (fun b => b = bv) h2 h3 ∧ ∃ av cv vs, h3[bv]? = some (.cells ⟨[.slice av i.toNat cv, .int .i64 0]⟩ 39 (0, 0)) ∧ Grow fenc 5 h2 h3 av i.toNat cv vs ∧
    Held (fun b => (b < h.size ∨ b = bv) ∨ (AtP av b ∧ 0 < cv)) h3 (fun h => All2 (FncM h) vs (fs.take i.toNat))) (by omega) ⟨Mod.refl _ _, none, 0, [], hN2.get, Grow.nil _ _ _ _ _, fun h' m => All2.nil _⟩ fun i h3 i0 i1 ⟨m3, av, cv, vs, hb3, G3, A3⟩ => ?_
  have e13 : Ext h1 h3 := m3.ext e12 fun b hb he => by omega
  have e03 := e01.trans e13
  have s3 := m3.size
  have hbl : cell h3 ⟨bl, 0 + 0, none⟩ = some (.slice p n c) := e13.cell (hN1.cell (o := 0) rfl)
  refine ⟨_, _, _, hbl, fun hlt => ?_, fun hge => ?_⟩
  · refine ⟨_, _, _, hbl, i0, hlt, ?_⟩
    obtain ⟨f, b', o', hf, hp', _, ⟨fp, fn, fc, fq, fm, fd, rfl, fps, fpc, fbs, fbc⟩, hcells⟩ := (hl.mono e03 (fun _ _ _ => FncD.ext e03)).get i0 hlt
    have hzf := hz2 f (List.mem_of_getElem? hf)
    have hpl := fps.len
    have hbln := fbs.len
    refine onP_at hp' ⟨_, hcells 0 _ rfl, _, _, _, hcells 1 _ rfl, _, hcells 2 _ rfl, _, hcells 3 _ rfl, _, _, _, hcells 4 _ rfl, fun bf h4 hN4 => st_new hN4 rfl (by simp) rfl rfl fun h5 hb5 e35 => ?_⟩
    have b4 := hN4.blk
    have l5 := lt_of hb5
    have s5 := e35.size
    refine ⟨fun pg hh => ∃ bg q c', pg = some ⟨bg, 0, none⟩ ∧ hh[bg]? = some (.cells ⟨[.string f.name, .slice q fn c', .int .i64 f.regs, .int .i64 f.result, .slice none 0 0]⟩ 25 (0, 0)) ∧ h5.size ≤ bg ∧ Ext h5 hh ∧ Held (fun b => b < h5.size ∨ b = bg) hh (fun h => RoomD h q fn c' f.params),
      ⟨fun hh => Ext h5 hh, Ext.rfl', _, bcell hb5 rfl, fun h7 s => ⟨_, s.cell (bcell hb5 rfl), rfl, by simp [Slot.val]⟩, _, _, _, bcell hb5 rfl, fun h8 s => ⟨_, _, _, s.cell (bcell hb5 rfl), rfl, by simp [Slot.val]⟩,
        _, bcell hb5 rfl, fun h9 s => ⟨_, s.cell (bcell hb5 rfl), rfl, by simp [Slot.val]⟩, _, bcell hb5 rfl, fun h10 s => ⟨_, s.cell (bcell hb5 rfl), rfl, by simp [Slot.val]⟩, ?_, ?_⟩, ?_⟩
    · refine c9 (fps.ext e35) (by rw [← hpl]; exact hzf.1) fun p' c' h11 e11 H11 => ⟨_, _, _, rfl, e11, rfl, by omega, rfl, by omega, rfl, by omega, rfl, by omega, fun bg h12 hN12 => ⟨e11.trans hN12.ext, ?_⟩⟩
      have b12 := hN12.blk
      have s11 := e11.size
      exact st_new hN12 rfl (by simp) rfl rfl fun h13 hb13 e13' => ⟨bg, p', c', rfl, hb13, by omega, e11.trans e13', H11.ext e13' fun b hb hx => by omega⟩
    · intro bg h14 hN14
      have b14 := hN14.blk
      have s14 := hN14.size
      refine ⟨hN14.ext, c9 (fps.ext (e35.trans hN14.ext)) (by rw [← hpl]; exact hzf.1) fun p' c' h15 e15 H15 => ⟨_, _, _, rfl, hN14.ext.trans e15, rfl, by omega, rfl, by omega, rfl, by omega, rfl, by omega, ?_⟩⟩
      refine st_blk (e15 _ _ hN14.get) rfl (by simp) rfl rfl fun h16 hb16 m16 => ⟨bg, p', c', rfl, hb16, by omega, m16.ext (hN14.ext.trans e15) fun b hb he => by omega, H15.step (m16.wid fun b hb he => by omega) fun b hb hx => by omega⟩
    rintro pg h6 ⟨bg, q, qc, rfl, hb6, lo6, e56, H6⟩
    have l6 := lt_of hb6
    have s6 := e56.size
    refine fwd fm (fun k hh => Fw.Mod (fun b => b = bg) h6 hh ∧ ∃ av cv vs, hh[bg]? = some (.cells ⟨[.string f.name, .slice q fn qc, .int .i64 f.regs, .int .i64 f.result, .slice av k.toNat cv]⟩ 25 (0, 0)) ∧ Grow benc 4 h6 hh av k.toNat cv vs ∧
      Held (fun b => (b < h5.size ∨ b = bg) ∨ (AtP av b ∧ 0 < cv)) hh (fun h => All2 (BlkM h) vs (f.blocks.take k.toNat))) (by omega) ⟨Mod.refl _ _, none, 0, [], hb6, Grow.nil _ _ _ _ _, fun h' m => All2.nil _⟩ fun k2 h17 k0 k1 ⟨m17, av2, cv2, vs2, hb17, G17, A17⟩ => ?_
    have e17 : Ext h5 h17 := m17.ext e56 fun b hb he => by omega
    have s17 := m17.size
    have hbf : cell h17 ⟨bf, 0 + 4, none⟩ = some (.slice fq fm fd) := e17.cell (bcell hb5 rfl)
    refine ⟨_, _, _, hbf, fun hlt2 => ?_, fun hge2 => ?_⟩
    · refine ⟨_, _, _, hbf, k0, hlt2, ?_⟩
      have e317 := e35.trans e17
      obtain ⟨b, b2', o2', hb, hp2', _, ⟨bp, bn, bc0, tq, tm, td, rfl, bbs, bbc, bts, btc⟩, hcells2⟩ := (fbs.mono e317 (fun _ _ _ => BlkD.ext e317)).get k0 hlt2
      have hzb := hzf.2.2 b (List.mem_of_getElem? hb)
      have htl := bts.len
      have hbdl := bbs.len
      refine onP_at hp2' ⟨_, _, _, hcells2 0 _ rfl, _, hcells2 1 _ rfl, _, hcells2 2 _ rfl, _, _, _, hcells2 3 _ rfl, fun bb h18 hN18 => st_new hN18 rfl (by simp) rfl rfl fun h19 hb19 e19 => ?_⟩
      have b18 := hN18.blk
      have l19 := lt_of hb19
      have s19 := e19.size
      refine ⟨fun pc hh => ∃ bc q c', pc = some ⟨bc, 0, none⟩ ∧ hh[bc]? = some (.cells ⟨[.slice none 0 0, .int .i64 b.term.kind, .int .i64 b.term.value, .slice q tm c']⟩ 50 (0, 0)) ∧ h19.size ≤ bc ∧ Ext h19 hh ∧ Held (fun b => b < h19.size ∨ b = bc) hh (fun h => RoomD h q tm c' b.term.to),
        ⟨fun hh => Ext h19 hh, Ext.rfl', _, bcell hb19 rfl, fun h7 s => ⟨_, s.cell (bcell hb19 rfl), rfl, by simp [Slot.val]⟩, _, bcell hb19 rfl, fun h8 s => ⟨_, s.cell (bcell hb19 rfl), rfl, by simp [Slot.val]⟩,
          _, _, _, bcell hb19 rfl, fun h9 s => ⟨_, _, _, s.cell (bcell hb19 rfl), rfl, by simp [Slot.val]⟩, ?_, ?_⟩, ?_⟩
      · refine c9 (bts.ext e19) (by rw [← htl]; exact hzb.2.1) fun p' c' h24 e24 H24 => ⟨_, _, _, rfl, e24, rfl, by omega, rfl, by omega, rfl, by omega, rfl, by omega, fun bc h25 hN25 => ⟨e24.trans hN25.ext, ?_⟩⟩
        have b25 := hN25.blk
        have s24 := e24.size
        exact st_new hN25 rfl (by simp) rfl rfl fun h26 hb26 e26 => ⟨bc, p', c', rfl, hb26, by omega, e24.trans e26, H24.ext e26 fun b hb hx => by omega⟩
      · intro bc h27 hN27
        have b27 := hN27.blk
        have s27 := hN27.size
        refine ⟨hN27.ext, c9 (bts.ext (e19.trans hN27.ext)) (by rw [← htl]; exact hzb.2.1) fun p' c' h28 e28 H28 => ⟨_, _, _, rfl, hN27.ext.trans e28, rfl, by omega, rfl, by omega, rfl, by omega, rfl, by omega, ?_⟩⟩
        refine st_blk (e28 _ _ hN27.get) rfl (by simp) rfl rfl fun h29 hb29 m29 => ⟨bc, p', c', rfl, hb29, by omega, m29.ext (hN27.ext.trans e28) fun b hb he => by omega, H28.step (m29.wid fun b hb he => by omega) fun b hb hx => by omega⟩
      rintro pc h20 ⟨bc, t2, tc, rfl, hb20, lo20, e20, H20⟩
      have l20 := lt_of hb20
      have s20 := e20.size
      refine fwd bn (fun j hh => Fw.Mod (fun b => b = bc) h20 hh ∧ ∃ av cv vs, hh[bc]? = some (.cells ⟨[.slice av j.toNat cv, .int .i64 b.term.kind, .int .i64 b.term.value, .slice t2 tm tc]⟩ 50 (0, 0)) ∧ Grow ienc 4 h20 hh av j.toNat cv vs ∧
        Held (fun x => (x < h19.size ∨ x = bc) ∨ (AtP av x ∧ 0 < cv)) hh (fun h => All2 (InsM h) vs (b.body.take j.toNat))) (by omega) ⟨Mod.refl _ _, none, 0, [], hb20, Grow.nil _ _ _ _ _, fun h' m => All2.nil _⟩ fun j h30 j0 j1 ⟨m30, av1, cv1, vs1, hb30, G30, A30⟩ => ?_
      have e30 : Ext h19 h30 := m30.ext e20 fun b hb he => by omega
      have s30 := m30.size
      have hbb : cell h30 ⟨bb, 0 + 0, none⟩ = some (.slice bp bn bc0) := e30.cell (bcell hb19 rfl)
      refine ⟨_, _, _, hbb, fun hlt3 => ?_, fun hge3 => ?_⟩
      · refine ⟨_, _, _, hbb, j0, hlt3, ?_⟩
        have e1930 := e19.trans e30
        obtain ⟨x, b3', o3', hx, hp3', _, ⟨ap, an, ac, rfl, aas, aac⟩, hcells3⟩ := (bbs.mono e1930 (fun _ _ _ => InsD.ext e1930)).get j0 hlt3
        have hzx := hzb.2.2 x (List.mem_of_getElem? hx)
        have hal := aas.len
        refine onP_at hp3' ⟨_, hcells3 0 _ rfl, _, hcells3 1 _ rfl, _, hcells3 2 _ rfl, _, _, _, hcells3 3 _ rfl, fun byb h31 hN31 => st_new hN31 rfl (by simp) rfl rfl fun h32 hb32 e32 => ?_⟩
        have s32 := e32.size
        refine ⟨fun hh => Ext h32 hh, Ext.rfl', _, _, _, e32.cell (bcell (o := 0 + 0) hb30 rfl), fun h33 s => ⟨_, _, _, s.cell (e32.cell (bcell (o := 0 + 0) hb30 rfl)), rfl, by simp [Slot.val]⟩,
          _, bcell hb32 rfl, fun h34 s => ⟨_, s.cell (bcell hb32 rfl), rfl, by simp [Slot.val]⟩, _, bcell hb32 rfl, fun h35 s => ⟨_, s.cell (bcell hb32 rfl), rfl, by simp [Slot.val]⟩,
          _, bcell hb32 rfl, fun h36 s => ⟨_, s.cell (bcell hb32 rfl), rfl, by simp [Slot.val]⟩, _, _, _, bcell hb32 rfl, ?_⟩
        refine c9 (aas.ext e32) (by rw [← hal]; exact hzx) fun p' c' h37 e37 H37 => ⟨_, _, _, rfl, e37, rfl, by omega, rfl, by omega, rfl, by omega, rfl, by omega, rfl, by omega, fun bn2 h38 hN38 => ⟨e37.trans hN38.ext, ?_⟩⟩
        have e3038 := (e32.trans e37).trans hN38.ext
        have s38 := e3038.size
        have s37 := e37.size
        refine Grow.put ienc4 (v := ⟨x.op, x.dst, x.imm, p', an, c'⟩) (G30.ext e3038) (by omega) rfl (rdc_new hN38 rfl) rfl (by have := hzb.1; omega) (fun x => x < h19.size ∨ x = bc) fun av' cv' h39 G39 m39 tr39 => ?_
        have hb39 := m39.get (e3038 _ _ hb30) fun hx => by have := (G30.lo hx.1 hx.2).1; omega
        refine st_blk (o := 0 + 0) hb39 rfl (by simp) rfl rfl fun h40 hb40 m40 => ⟨i64ok (by omega) (by omega), fwd_next j0 hlt3 ⟨?_, av', cv', vs1 ++ [⟨x.op, x.dst, x.imm, p', an, c'⟩], ?_, ?_, ?_⟩⟩
        · exact ((m30.seqE e3038).seq m39 (fun b _ h => h) (fun b hb h => absurd (G30.lo h.1 h.2).1 (by omega))).seq m40 (fun b _ h => h) (fun b _ h => h)
        · rw [show (j + 1).toNat = j.toNat + 1 by omega]; exact hb40
        · rw [show (j + 1).toNat = j.toNat + 1 by omega]; exact G39.mod m40 fun b hb hc hx => by have := (G39.lo hb hc).1; omega
        · rw [show (j + 1).toNat = j.toNat + 1 by omega, List.take_add_one, hx]
          have A39 := tr39 _ (A30.ext e3038 fun b _ hx => hx)
          have B39 := tr39 _ (H37.ext (T' := fun x => (x < h19.size ∨ x = bc) ∨ (AtP av1 x ∧ 0 < cv1)) hN38.ext fun b hb hx => by
            rcases hx with (hx | hx) | hx
            · omega
            · omega
            · have := (G30.lo hx.1 hx.2).2; omega)
          exact ((A39.and B39).imp fun h ⟨u1, u2⟩ => All2.snoc u1 (show InsM h ⟨x.op, x.dst, x.imm, p', an, c'⟩ x from ⟨rfl, rfl, rfl, u2⟩)).step (m40.wid fun b _ hx => .inl (.inr hx)) fun b _ hx => hx
      · have hjn : j.toNat = bn := by omega
        have hbc0 : cell h30 ⟨bc, 0 + 0, none⟩ = some (.slice av1 j.toNat cv1) := bcell hb30 rfl
        have hM : ∀ h', Fw.Mod (fun b => h20.size ≤ b) h30 h' → cell h' ⟨bc, 0 + 0, none⟩ = some (.slice av1 j.toNat cv1) ∧ cell h' ⟨bb, 0 + 0, none⟩ = some (.slice bp bn bc0) := fun h' m => ⟨m.cell hbc0 (by show ¬ h20.size ≤ bc; omega), m.cell hbb (by show ¬ h20.size ≤ bb; omega)⟩
        refine ⟨fun hh => Fw.Mod (fun b => h20.size ≤ b) h30 hh, Mod.refl _ _, rfl, by omega, _, _, _, hbc0, fun h41 s => ⟨_, _, _, (hM _ s).1, rfl, by simp [Slot.val]⟩, _, _, _, hbb, fun h42 s => ⟨_, _, _, (hM _ s).2, rfl, by simp [Slot.val]⟩, rfl, by omega, fun bm h43 hN43 => ⟨hN43.mod _, ?_⟩⟩
        have s43 := hN43.size
        refine Grow.put ienc4 (v := ⟨-71, 0, 0, none, 0, 0⟩) (G30.ext hN43.ext) (by omega) rfl (rdc_new hN43 rfl) rfl (by have := hzb.1; omega) (fun x => x < h19.size ∨ x = bc) fun av' cv' h44 G44 m44 tr44 => ?_
        have lo44 : ∀ b, AtP av1 b ∧ 0 < cv1 → h20.size ≤ b := fun b hx => (G30.lo hx.1 hx.2).1
        have g44 := G44.le
        refine ⟨(hN43.mod _).trans m44 fun b _ hx => lo44 b hx, g44, by omega, by omega, _, rfl, ?_⟩
        have hb44 := m44.get (hN43.ext _ _ hb30) fun hx => by have := lo44 _ hx; omega
        have A44 := tr44 _ (A30.ext hN43.ext fun b _ hx => hx)
        have hbody : b.body.take j.toNat = b.body := List.take_of_length_le (by omega)
        rw [hbody] at A44
        have hsl : Value.slice av' (((bn : Int) - 0).toNat) (((cv' : Int) - 0).toNat) = .slice av' bn cv' := by rw [show ((bn : Int) - 0).toNat = bn by omega, show ((cv' : Int) - 0).toNat = cv' by omega]
        rw [hsl]
        rw [hjn] at G44
        have D44 := G44.row (M := InsX) ienc4 A44 (fun b hb => by rcases hb with hb | hb <;> omega) rfl
        refine st_blk (o := 0 + 0) hb44 rfl (by simp) rfl rfl fun h45 hb45 m45 => ?_
        have D45 := D44.step (T' := fun x => x < h19.size ∨ x = bc) (m45.wid fun b _ hx => .inr hx) fun b _ hx => hx
        have m2045 : Fw.Mod (fun b => b = bc) h20 h45 := ((m30.seqE hN43.ext).seq m44 (fun b _ h => h) (fun b hb h => absurd (lo44 b h) (by omega))).seq m45 (fun b _ h => h) (fun b _ h => h)
        have T45 := H20.step (T' := fun x => x < h19.size ∨ x = bc) (m2045.wid fun b _ hx => .inr hx) fun b _ hx => hx
        have e1945 : Ext h19 h45 := m2045.ext e20 fun b hb he => by omega
        have e1745 := e19.trans e1945
        have s45 := m2045.size
        have e46v : BlkM h45 ⟨av', bn, cv', b.term.kind, b.term.value, t2, tm, tc⟩ b := ⟨D45.now, rfl, rfl, T45.now⟩
        refine ⟨_, _, _, bcell (o := 0 + 4) (e1745 _ _ hb17) rfl, _, _, _, bcell (o := 0 + 0) hb45 rfl, _, bcell (o := 0 + 1) hb45 rfl, _, bcell (o := 0 + 2) hb45 rfl, _, _, _, bcell (o := 0 + 3) hb45 rfl, rfl, by omega, fun bn3 h46 hN46 => ?_⟩
        have e1746 := e1745.trans hN46.ext
        have s46 := e1746.size
        have s46' := hN46.size
        refine Grow.put benc4 (v := ⟨av', bn, cv', b.term.kind, b.term.value, t2, tm, tc⟩) (G17.ext e1746) (by omega) rfl (rdc_new hN46 rfl) rfl (by have := hzf.2.1; omega) (fun x => x < h5.size ∨ x = bg) fun av3 cv3 h47 G47 m47 tr47 => ?_
        have hb47 := m47.get (e1746 _ _ hb17) fun hx => by have := (G17.lo hx.1 hx.2).1; omega
        refine st_blk (o := 0 + 4) hb47 rfl (by simp) rfl rfl fun h48 hb48 m48 => ⟨i64ok (by omega) (by have := hzf.2.1; omega), fwd_next k0 hlt2 ⟨?_, av3, cv3, vs2 ++ [⟨av', bn, cv', b.term.kind, b.term.value, t2, tm, tc⟩], ?_, ?_, ?_⟩⟩
        · exact ((m17.seqE e1746).seq m47 (fun b _ h => h) (fun b hb h => absurd (G17.lo h.1 h.2).1 (by omega))).seq m48 (fun b _ h => h) (fun b _ h => h)
        · rw [show (k2 + 1).toNat = k2.toNat + 1 by omega]; exact hb48
        · rw [show (k2 + 1).toNat = k2.toNat + 1 by omega]; exact G47.mod m48 fun b hb hc hx => by have := (G47.lo hb hc).1; omega
        · rw [show (k2 + 1).toNat = k2.toNat + 1 by omega, List.take_add_one, hb]
          have A47 := tr47 _ (A17.ext e1746 fun b _ hx => hx)
          have B47 := tr47 _ ((D45.and T45).ext (T' := fun x => (x < h5.size ∨ x = bg) ∨ (AtP av2 x ∧ 0 < cv2)) hN46.ext fun b hb hx => by
            rcases hx with (hx | hx) | hx
            · left; omega
            · left; omega
            · left; have := (G17.lo hx.1 hx.2).2; omega)
          exact ((A47.and B47).imp fun h ⟨u1, u2, u3⟩ => All2.snoc u1 (show BlkM h ⟨av', bn, cv', b.term.kind, b.term.value, t2, tm, tc⟩ b from ⟨u2, rfl, rfl, u3⟩)).step (m48.wid fun b _ hx => .inl (.inr hx)) fun b _ hx => hx
    · have hkn : k2.toNat = fm := by omega
      have hbg0 : cell h17 ⟨bg, 0 + 4, none⟩ = some (.slice av2 k2.toNat cv2) := bcell hb17 rfl
      have hM : ∀ h', Fw.Mod (fun b => h6.size ≤ b) h17 h' → cell h' ⟨bg, 0 + 4, none⟩ = some (.slice av2 k2.toNat cv2) ∧ cell h' ⟨bf, 0 + 4, none⟩ = some (.slice fq fm fd) := fun h' m => ⟨m.cell hbg0 (by show ¬ h6.size ≤ bg; omega), m.cell hbf (by show ¬ h6.size ≤ bf; omega)⟩
      refine ⟨fun hh => Fw.Mod (fun b => h6.size ≤ b) h17 hh, Mod.refl _ _, rfl, by omega, rfl, by omega, _, _, _, hbg0, fun h41 s => ⟨_, _, _, (hM _ s).1, rfl, by simp [Slot.val]⟩, _, _, _, hbf, fun h42 s => ⟨_, _, _, (hM _ s).2, rfl, by simp [Slot.val]⟩, rfl, by omega, fun bm h43 hN43 => ⟨hN43.mod _, ?_⟩⟩
      have s43 := hN43.size
      refine Grow.put benc4 (v := ⟨none, 0, 0, -71, 0, none, 0, 0⟩) (G17.ext hN43.ext) (by omega) rfl (rdc_new hN43 rfl) rfl (by have := hzf.2.1; omega) (fun x => x < h5.size ∨ x = bg) fun av' cv' h44 G44 m44 tr44 => ?_
      have lo44 : ∀ b, AtP av2 b ∧ 0 < cv2 → h6.size ≤ b := fun b hx => (G17.lo hx.1 hx.2).1
      have g44 := G44.le
      refine ⟨(hN43.mod _).trans m44 fun b _ hx => lo44 b hx, g44, by omega, by omega, _, rfl, ?_⟩
      have hb44 := m44.get (hN43.ext _ _ hb17) fun hx => by have := lo44 _ hx; omega
      have A44 := tr44 _ (A17.ext hN43.ext fun b _ hx => hx)
      have hblks : f.blocks.take k2.toNat = f.blocks := List.take_of_length_le (by omega)
      rw [hblks] at A44
      have hsl : Value.slice av' (((fm : Int) - 0).toNat) (((cv' : Int) - 0).toNat) = .slice av' fm cv' := by rw [show ((fm : Int) - 0).toNat = fm by omega, show ((cv' : Int) - 0).toNat = cv' by omega]
      rw [hsl]
      rw [hkn] at G44
      have D44 := G44.row (M := BlkX) benc4 A44 (fun b hb => by rcases hb with hb | hb <;> omega) rfl
      refine st_blk (o := 0 + 4) hb44 rfl (by simp) rfl rfl fun h45 hb45 m45 => ?_
      have D45 := D44.step (T' := fun x => x < h5.size ∨ x = bg) (m45.wid fun b _ hx => .inr hx) fun b _ hx => hx
      have m2045 : Fw.Mod (fun b => b = bg) h6 h45 := ((m17.seqE hN43.ext).seq m44 (fun b _ h => h) (fun b hb h => absurd (lo44 b h) (by omega))).seq m45 (fun b _ h => h) (fun b _ h => h)
      have T45 := H6.step (T' := fun x => x < h5.size ∨ x = bg) (m2045.wid fun b _ hx => .inr hx) fun b _ hx => hx
      have e545 : Ext h5 h45 := m2045.ext e56 fun b hb he => by omega
      have e345 := e35.trans e545
      have s45 := m2045.size
      have hbv := e345 _ _ hb3
      refine ⟨by simp, _, _, _, bcell (o := (0 + 0) + 0) hbv rfl, _, bcell (o := 0 + 0) hb45 rfl, _, _, _, bcell (o := 0 + 1) hb45 rfl, _, bcell (o := 0 + 2) hb45 rfl, _, bcell (o := 0 + 3) hb45 rfl, _, _, _, bcell (o := 0 + 4) hb45 rfl, rfl, by omega, fun bn3 h46 hN46 => ?_⟩
      have e346 := e345.trans hN46.ext
      have s46 := e346.size
      have s46' := hN46.size
      refine Grow.put fenc5 (v := ⟨f.name, q, fn, qc, f.regs, f.result, av', fm, cv'⟩) (G3.ext e346) (by omega) rfl (rdc_new hN46 rfl) rfl (by omega) (fun x => x < h.size ∨ x = bv) fun av3 cv3 h47 G47 m47 tr47 => ?_
      have hb47 := m47.get (e346 _ _ hb3) fun hx => by have := (G3.lo hx.1 hx.2).1; omega
      refine ⟨by simp, st_blk (o := (0 + 0) + 0) hb47 rfl (by simp) rfl rfl fun h48 hb48 m48 => ⟨i64ok (by omega) (by omega), fwd_next i0 hlt ⟨?_, av3, cv3, vs ++ [⟨f.name, q, fn, qc, f.regs, f.result, av', fm, cv'⟩], ?_, ?_, ?_⟩⟩⟩
      · exact ((m3.seqE e346).seq m47 (fun b _ h => h) (fun b hb h => absurd (G3.lo h.1 h.2).1 (by omega))).seq m48 (fun b _ h => h) (fun b _ h => h)
      · rw [show (i + 1).toNat = i.toNat + 1 by omega]; exact hb48
      · rw [show (i + 1).toNat = i.toNat + 1 by omega]; exact G47.mod m48 fun b hb hc hx => by have := (G47.lo hb hc).1; omega
      · rw [show (i + 1).toNat = i.toNat + 1 by omega, List.take_add_one, hf]
        have A47 := tr47 _ (A3.ext e346 fun b _ hx => hx)
        have B47 := tr47 _ ((D45.and T45).ext (T' := fun x => (x < h.size ∨ x = bv) ∨ (AtP av x ∧ 0 < cv)) hN46.ext fun b hb hx => by
          rcases hx with (hx | hx) | hx
          · left; omega
          · left; omega
          · left; have := (G3.lo hx.1 hx.2).2; omega)
        exact ((A47.and B47).imp fun h ⟨u1, u2, u3⟩ => All2.snoc u1 (show FncM h ⟨f.name, q, fn, qc, f.regs, f.result, av', fm, cv'⟩ f from ⟨rfl, u3, rfl, rfl, u2⟩)).step (m48.wid fun b _ hx => .inl (.inr hx)) fun b _ hx => hx
  · have hin : i.toNat = n := by omega
    have hbv0 : cell h3 ⟨bv, (0 + 0) + 0, none⟩ = some (.slice av i.toNat cv) := bcell hb3 rfl
    have hM : ∀ h', Fw.Mod (fun b => h2.size ≤ b) h3 h' → cell h' ⟨bv, (0 + 0) + 0, none⟩ = some (.slice av i.toNat cv) ∧ cell h' ⟨bl, 0 + 0, none⟩ = some (.slice p n c) := fun h' m => ⟨m.cell hbv0 (by show ¬ h2.size ≤ bv; omega), m.cell hbl (by show ¬ h2.size ≤ bl; omega)⟩
    refine ⟨fun hh => Fw.Mod (fun b => h2.size ≤ b) h3 hh, Mod.refl _ _, by simp, rfl, by omega, _, _, _, hbv0, fun h41 s => ⟨_, _, _, (hM _ s).1, rfl, by simp [Slot.val]⟩, _, _, _, hbl, fun h42 s => ⟨_, _, _, (hM _ s).2, rfl, by simp [Slot.val]⟩, rfl, by omega, fun bm h43 hN43 => ⟨hN43.mod _, ?_⟩⟩
    have s43 := hN43.size
    refine Grow.put fenc5 (v := ⟨⟨#[109, 97, 114, 107]⟩, none, 0, 0, 0, 0, none, 0, 0⟩) (G3.ext hN43.ext) (by omega) rfl (rdc_new hN43 rfl) rfl (by omega) (fun x => x < h.size ∨ x = bv) fun av' cv' h44 G44 m44 tr44 => ?_
    have lo44 : ∀ b, AtP av b ∧ 0 < cv → h2.size ≤ b := fun b hx => (G3.lo hx.1 hx.2).1
    have g44 := G44.le
    refine ⟨(hN43.mod _).trans m44 fun b _ hx => lo44 b hx, g44, by omega, by omega, _, rfl, by simp, ?_⟩
    have hb44 := m44.get (hN43.ext _ _ hb3) fun hx => by have := lo44 _ hx; omega
    have A44 := tr44 _ (A3.ext hN43.ext fun b _ hx => hx)
    have hfs : fs.take i.toNat = fs := List.take_of_length_le (by omega)
    rw [hfs] at A44
    have hsl : Value.slice av' (((n : Int) - 0).toNat) (((cv' : Int) - 0).toNat) = .slice av' n cv' := by rw [show ((n : Int) - 0).toNat = n by omega, show ((cv' : Int) - 0).toNat = cv' by omega]
    rw [hsl]
    rw [hin] at G44
    have D44 := G44.row (M := FncX) fenc5 A44 (fun b hb => by rcases hb with hb | hb <;> omega) rfl
    refine st_blk (o := (0 + 0) + 0) hb44 rfl (by simp) rfl rfl fun h45 hb45 m45 => ?_
    have D45 := D44.step (T' := fun x => x < h.size ∨ x = bv) (m45.wid fun b _ hx => .inr hx) fun b _ hx => hx
    have m2045 : Fw.Mod (fun b => b = bv) h2 h45 := ((m3.seqE hN43.ext).seq m44 (fun b _ h => h) (fun b hb h => absurd (lo44 b h) (by omega))).seq m45 (fun b _ h => h) (fun b _ h => h)
    have e145 : Ext h1 h45 := m2045.ext e12 fun b hb he => by omega
    refine ⟨_, e145.cell (hN1.cell (o := 0 + 1) rfl), by simp, st_blk (o := (0 + 0) + 1) hb45 rfl (Nat.le_refl 2) rfl rfl fun h46 hb46 m46 => ?_⟩
    have m2046 := m2045.trans m46 fun b _ hx => hx
    exact k bv av' cv' h46 (m2046.ext (e01.trans e12) fun b hb he => by omega) (by omega) hb46 (D45.step (m46.wid fun b _ hx => .inr hx) fun b _ hx => hx)
end Go.Proofs.Try

/- stays: what was lent is as it was, its marks too. -/
set_option maxRecDepth 100000
set_option linter.unusedVariables false
set_option linter.unusedSimpArgs false
open Go Go.Fw Go.Proofs
namespace Go.Proofs.Try

theorem MRow.mark {α β : Type} {enc : α → List Value} {k : Nat} {D : H → α → β → Prop} {M : α → Prop} {h : H} {p : Option Addr} {n c : Nat} {xs : List β} (x : MRow enc k D M h p n c xs) :
    ∃ last b o, M last ∧ p = some ⟨b, o, none⟩ ∧ n + 1 ≤ c ∧ ∀ j v, (enc last)[j]? = some v → cell h ⟨b, o + n * k + j, none⟩ = some v := by
  have hl := x.len
  obtain ⟨vs, l, a, b, c, d⟩ := x
  obtain ⟨bb, o, hp, hc⟩ := a.at_ (by omega)
  have hd := d.1
  exact ⟨l, bb, o, b, hp, c, hc n l (by rw [List.getElem?_append_right (by omega), show n - vs.length = 0 by omega]; rfl)⟩
theorem MRow.get {α β : Type} {enc : α → List Value} {k : Nat} {D : H → α → β → Prop} {M : α → Prop} {h : H} {p : Option Addr} {n c : Nat} {xs : List β} (x : MRow enc k D M h p n c xs) {i : Int} (h0 : 0 ≤ i) (h1 : i < n) {y : β} (hy : xs[i.toNat]? = some y) :
    ∃ v b o, D h v y ∧ p = some ⟨b, o, none⟩ ∧ ∀ j w, (enc v)[j]? = some w → cell h ⟨b, o + i.toNat * k + j, none⟩ = some w := by
  have hl := x.len
  obtain ⟨vs, l, a, b, c, d⟩ := x
  obtain ⟨bb, o, hp, hc⟩ := a.at_ (by omega)
  obtain ⟨v, hv, dv⟩ := d.get hy
  exact ⟨v, bb, o, dv, hp, hc _ v (by rw [List.getElem?_append_left (by rw [d.1]; omega)]; exact hv)⟩
theorem st_pair {h h2 : H} {ba bb n m : Nat} {csa csb vsa vsb : List Value} {ea eb : TypeId} {S K : H → Prop} (ha : h2[ba]? = some (.cells ⟨csa⟩ ea (0, 0))) (hb : h2[bb]? = some (.cells ⟨csb⟩ eb (0, 0))) (e : Ext h h2) (la : h.size ≤ ba) (lb : h.size ≤ bb) (hab : ba ≠ bb)
    (hca : setAt csa 0 vsa = vsa) (hcb : setAt csb 0 vsb = vsb) (hla : n ≤ csa.length) (hlb : m ≤ csb.length) (hoa : oneA vsa = true) (hob : oneA vsb = true) (hna : vsa.length = n) (hnb : vsb.length = m)
    (hS : ∀ h', Ext h h' → S h') (k : ∀ h', Ext h h' → h'[ba]? = some (.cells ⟨vsa⟩ ea (0, 0)) → h'[bb]? = some (.cells ⟨vsb⟩ eb (0, 0)) → K h') : stQ n h2 ba 0 vsa fun h3 => S h3 ∧ stQ m h3 bb 0 vsb K := by
  refine st_blk ha hca (by omega) hoa hna fun h3 h3a m3 => ?_
  have e3 : Ext h h3 := m3.ext e fun b hb he => by omega
  refine ⟨hS _ e3, st_blk (m3.get hb (Ne.symm hab)) hcb (by omega) hob hnb fun h4 h4b m4 => k h4 (m4.ext e3 fun b hb he => by omega) (m4.get h3a hab) h4b⟩

set_option maxHeartbeats 4000000 in
theorem c13 {h : H} {bx : Nat} {p : Option Addr} {n c : Nat} {q : Option Addr} {m d : Nat} {fs : List Fnc} {main : Int} (hx : cell h ⟨bx, 0, none⟩ = some (.slice p n c)) (hM : LirM h p n c fs) (hl : RowAt FncD 5 h q m fs) (hz : (m + 1) * 80 ≤ 140737488355328) (hz2 : ∀ f ∈ fs, SzL f) {R : Value → H → Prop}
    (k : ∀ h', Ext h h' → R (.bool true) h') : HC Tryd.prog 13 [.pointer (some ⟨bx, 0, none⟩), .agg ⟨[.slice q m d, .int .i64 main]⟩] h R := by
  have hn := hM.len
  have hm := hl.len
  obtain rfl : n = m := by omega
  apply hc13; unfold sh13; intro bl h1 hN1
  have e1 := hN1.ext
  have hbl : ∀ h', Ext h1 h' → cell h' ⟨bl, 0 + 0, none⟩ = some (.slice q n d) := fun h' e => e.cell (hN1.cell (o := 0) rfl)
  have hbx : ∀ h', Ext h1 h' → cell h' ⟨bx, (0 + 0) + 0, none⟩ = some (.slice p n c) := fun h' e => (e1.trans e).cell hx
  refine ⟨fun b hh => b = false ∧ h1 = hh, ⟨by simp, _, _, _, hbx _ Ext.rfl', _, _, _, hbl _ Ext.rfl', fun hne => absurd rfl hne, fun _ => ⟨by simp, ?_⟩⟩, ?_⟩
  · obtain ⟨last, b', o', hlast, hp', hnc, hcells⟩ := (hM.ext e1).mark
    refine ⟨_, _, _, hbx _ Ext.rfl', _, _, _, hbl _ Ext.rfl', i64ok (by omega) (by omega), by omega, by omega, by omega, _, rfl, _, _, _, hbl _ Ext.rfl', by omega, by omega, onP_at hp' ⟨_, hcells 0 _ rfl, ?_, rfl⟩⟩
    rw [show last.name = _ from hlast]; simp
  rintro _ _ ⟨rfl, rfl⟩
  refine ⟨fun h => by simp at h, fun _ => ?_⟩
  refine fwd n (fun i hh => Ext h1 hh) (by omega) Ext.rfl' fun i h3 i0 i1 e3 => ⟨_, _, _, hbl _ e3, fun hlt => ?_, fun hge => k _ (e1.trans e3)⟩
  have e03 := e1.trans e3
  obtain ⟨f, b', o', hf, hp', _, ⟨fp, fn, fc, fq, fm, fd, rfl, fps, fpc, fbs, fbc⟩, hcells⟩ := (hl.mono e03 (fun _ _ _ => FncD.ext e03)).get i0 hlt
  have hzf := hz2 f (List.mem_of_getElem? hf)
  have hpl := fps.len
  have hbln := fbs.len
  obtain ⟨g, b2, o2, hg, hp2, hcellg⟩ := (hM.ext e03).get i0 hlt hf
  obtain ⟨g1, g2, g3, g4, g5⟩ := hg
  refine ⟨fun pf pg hh => ∃ bf bg, pf = some ⟨bf, 0, none⟩ ∧ pg = some ⟨bg, 0, none⟩ ∧ hh[bf]? = some (.cells ⟨[.string f.name, .slice fp fn fc, .int .i64 f.regs, .int .i64 f.result, .slice fq fm fd]⟩ 25 (0, 0)) ∧ hh[bg]? = some (.cells ⟨fenc g⟩ 25 (0, 0)) ∧ Ext h3 hh,
    ⟨fun hh => Ext h3 hh, Ext.rfl', by simp, _, _, _, hbl _ e3, fun h5 s => ⟨_, _, _, hbl _ (e3.trans s), rfl, by simp [Slot.val]⟩, i0, hlt, onP_at hp' ⟨_, hcells 0 _ rfl, _, _, _, hcells 1 _ rfl, _, hcells 2 _ rfl, _, hcells 3 _ rfl, _, _, _, hcells 4 _ rfl,
      fun h6 s => ⟨_, s.cell (hcells 0 _ rfl), _, _, _, s.cell (hcells 1 _ rfl), _, s.cell (hcells 2 _ rfl), _, s.cell (hcells 3 _ rfl), _, _, _, s.cell (hcells 4 _ rfl), rfl, by simp [Slot.val]⟩,
      _, _, _, hbx _ e3, fun h7 s => ⟨_, _, _, hbx _ (e3.trans s), rfl, by simp [Slot.val]⟩, i0, hlt, onP_at hp2 ⟨_, hcellg 0 _ rfl, _, _, _, hcellg 1 _ rfl, _, hcellg 2 _ rfl, _, hcellg 3 _ rfl, _, _, _, hcellg 4 _ rfl,
      fun h6 s => ⟨_, s.cell (hcellg 0 _ rfl), _, _, _, s.cell (hcellg 1 _ rfl), _, s.cell (hcellg 2 _ rfl), _, s.cell (hcellg 3 _ rfl), _, _, _, s.cell (hcellg 4 _ rfl), rfl, by simp [Slot.val]⟩, ?_, ?_⟩⟩⟩, ?_⟩
  · intro bf h9 hN9
    refine ⟨hN9.ext, fun bg h10 hN10 => ⟨hN9.ext.trans hN10.ext, ?_⟩⟩
    have q1 := hN9.blk; have q2 := hN10.blk; have q3 := hN9.size
    exact st_pair (hN10.ext _ _ hN9.get) hN10.get (hN9.ext.trans hN10.ext) (by omega) (by omega) (by omega) rfl rfl (by simp) (by simp) rfl rfl rfl rfl (fun h' e => e) fun h' e ha hb => ⟨bf, bg, rfl, rfl, ha, hb, e⟩
  · intro bg h9 hN9
    refine ⟨hN9.ext, fun bf h10 hN10 => ⟨hN9.ext.trans hN10.ext, ?_⟩⟩
    have q1 := hN9.blk; have q2 := hN10.blk; have q3 := hN9.size
    exact st_pair hN10.get (hN10.ext _ _ hN9.get) (hN9.ext.trans hN10.ext) (by omega) (by omega) (by omega) rfl rfl (by simp) (by simp) rfl rfl rfl rfl (fun h' e => e) fun h' e ha hb => ⟨bf, bg, rfl, rfl, ha, hb, e⟩
  rintro _ _ h4 ⟨bf, bg, rfl, rfl, hbf, hbg, e34⟩
  have e04 := e03.trans e34
  have F : ∀ h', Ext h4 h' → ∀ j y, [Value.string f.name, .slice fp fn fc, .int .i64 f.regs, .int .i64 f.result, .slice fq fm fd][j]? = some y → cell h' ⟨bf, 0 + j, none⟩ = some y := fun h' e j y hj => e.cell (bcell hbf (by rw [Nat.zero_add]; exact hj))
  have G : ∀ h', Ext h4 h' → ∀ j y, (fenc g)[j]? = some y → cell h' ⟨bg, 0 + j, none⟩ = some y := fun h' e j y hj => e.cell (bcell hbg (by rw [Nat.zero_add]; exact hj))
  obtain ⟨last, bL, oL, hlast, hpL, hncL, hcellL⟩ := (g5.ext (fun _ _ => BlkM.ext e34) e34).mark
  have g5l := g5.len
  have g2l := g2.len
  refine ⟨fun b hh => b = false ∧ h4 = hh, ⟨_, G _ Ext.rfl' 0 _ rfl, _, F _ Ext.rfl' 0 _ rfl, fun hne => absurd (by rw [g1]) hne, fun _ => ⟨_, G _ Ext.rfl' 2 _ rfl, _, F _ Ext.rfl' 2 _ rfl, fun hne => absurd g3 hne, fun _ => ⟨_, G _ Ext.rfl' 3 _ rfl, _, F _ Ext.rfl' 3 _ rfl, fun hne => absurd g4 hne, fun _ =>
    ⟨_, _, _, G _ Ext.rfl' 1 _ rfl, _, _, _, F _ Ext.rfl' 1 _ rfl, c14 (g2.ext e34) (fps.ext e34) (by rw [← g2l]; exact hzf.1) ⟨_, rfl, fun h => by simp at h, fun _ => ⟨_, _, _, G _ Ext.rfl' 4 _ rfl, _, _, _, F _ Ext.rfl' 4 _ rfl, fun hne => absurd (by omega) hne, fun _ =>
      ⟨_, _, _, G _ Ext.rfl' 4 _ rfl, _, _, _, F _ Ext.rfl' 4 _ rfl, i64ok (by omega) (by have := hzf.2.1; omega), by omega, by omega, by omega, _, rfl, _, _, _, F _ Ext.rfl' 4 _ rfl, by omega, by omega, onP_at hpL ⟨last.kind, ?_, ?_, rfl⟩⟩⟩⟩⟩⟩⟩⟩, ?_⟩
  · have := hcellL 1 _ rfl
    rw [show g.m = fm by omega] at this
    exact this
  · rw [show last.kind = -71 from hlast]; simp
  rintro _ _ ⟨rfl, rfl⟩
  refine ⟨fun h => by simp at h, fun _ => ?_⟩
  refine fwd fm (fun i hh => Ext h4 hh) (by omega) Ext.rfl' fun k2 h19 k0 k1 e19 => ⟨_, _, _, F _ e19 4 _ rfl, fun hlt2 => ?_, fun hge2 => ⟨i64ok (by omega) (by omega), fwd_next i0 hlt ((e3.trans e34).trans e19)⟩⟩
  have e319 := e34.trans e19
  obtain ⟨b, b3, o3, hb, hp3, _, ⟨bp, bn, bc0, tq, tm, td, rfl, bbs, bbc, bts, btc⟩, hcells3⟩ := (fbs.mono e319 (fun _ _ _ => BlkD.ext e319)).get k0 hlt2
  have hzb := hzf.2.2 b (List.mem_of_getElem? hb)
  have htl := bts.len
  have hbdl := bbs.len
  obtain ⟨w, b4, o4, hw, hp4, hcellw⟩ := (g5.ext (fun _ _ => BlkM.ext e319) e319).get k0 (by omega) hb
  obtain ⟨w1, w2, w3, w4⟩ := hw
  have gm : (k2 : Int) < g.m := by omega
  refine ⟨fun pf pg hh => ∃ bf bg, pf = some ⟨bf, 0, none⟩ ∧ pg = some ⟨bg, 0, none⟩ ∧ hh[bf]? = some (.cells ⟨[.slice bp bn bc0, .int .i64 b.term.kind, .int .i64 b.term.value, .slice tq tm td]⟩ 50 (0, 0)) ∧ hh[bg]? = some (.cells ⟨benc w⟩ 50 (0, 0)) ∧ Ext h19 hh,
    ⟨fun hh => Ext h19 hh, Ext.rfl', _, _, _, F _ e19 4 _ rfl, fun h5 s => ⟨_, _, _, F _ (e19.trans s) 4 _ rfl, rfl, by simp [Slot.val]⟩, k0, hlt2, onP_at hp3 ⟨_, _, _, hcells3 0 _ rfl, _, hcells3 1 _ rfl, _, hcells3 2 _ rfl, _, _, _, hcells3 3 _ rfl,
      fun h6 s => ⟨_, _, _, s.cell (hcells3 0 _ rfl), _, s.cell (hcells3 1 _ rfl), _, s.cell (hcells3 2 _ rfl), _, _, _, s.cell (hcells3 3 _ rfl), rfl, by simp [Slot.val]⟩,
      _, _, _, G _ e19 4 _ rfl, fun h7 s => ⟨_, _, _, G _ (e19.trans s) 4 _ rfl, rfl, by simp [Slot.val]⟩, k0, gm, onP_at hp4 ⟨_, _, _, hcellw 0 _ rfl, _, hcellw 1 _ rfl, _, hcellw 2 _ rfl, _, _, _, hcellw 3 _ rfl,
      fun h6 s => ⟨_, _, _, s.cell (hcellw 0 _ rfl), _, s.cell (hcellw 1 _ rfl), _, s.cell (hcellw 2 _ rfl), _, _, _, s.cell (hcellw 3 _ rfl), rfl, by simp [Slot.val]⟩, ?_, ?_⟩⟩⟩, ?_⟩
  · intro bf2 h9 hN9
    refine ⟨hN9.ext, fun bg2 h10 hN10 => ⟨hN9.ext.trans hN10.ext, ?_⟩⟩
    have q1 := hN9.blk; have q2 := hN10.blk; have q3 := hN9.size
    exact st_pair (hN10.ext _ _ hN9.get) hN10.get (hN9.ext.trans hN10.ext) (by omega) (by omega) (by omega) rfl rfl (by simp) (by simp) rfl rfl rfl rfl (fun h' e => e) fun h' e ha hb => ⟨bf2, bg2, rfl, rfl, ha, hb, e⟩
  · intro bg2 h9 hN9
    refine ⟨hN9.ext, fun bf2 h10 hN10 => ⟨hN9.ext.trans hN10.ext, ?_⟩⟩
    have q1 := hN9.blk; have q2 := hN10.blk; have q3 := hN9.size
    exact st_pair hN10.get (hN10.ext _ _ hN9.get) (hN9.ext.trans hN10.ext) (by omega) (by omega) (by omega) rfl rfl (by simp) (by simp) rfl rfl rfl rfl (fun h' e => e) fun h' e ha hb => ⟨bf2, bg2, rfl, rfl, ha, hb, e⟩
  rintro _ _ h20 ⟨bb, bc, rfl, rfl, hbb, hbc, e20⟩
  have e420 := e319.trans e20
  have F2 : ∀ h', Ext h20 h' → ∀ j y, [Value.slice bp bn bc0, .int .i64 b.term.kind, .int .i64 b.term.value, .slice tq tm td][j]? = some y → cell h' ⟨bb, 0 + j, none⟩ = some y := fun h' e j y hj => e.cell (bcell hbb (by rw [Nat.zero_add]; exact hj))
  have G2 : ∀ h', Ext h20 h' → ∀ j y, (benc w)[j]? = some y → cell h' ⟨bc, 0 + j, none⟩ = some y := fun h' e j y hj => e.cell (bcell hbc (by rw [Nat.zero_add]; exact hj))
  obtain ⟨last2, bL2, oL2, hlast2, hpL2, hncL2, hcellL2⟩ := (w1.ext (fun _ _ => InsM.ext e20) e20).mark
  have w1l := w1.len
  have w4l := w4.len
  refine ⟨fun b hh => b = false ∧ h20 = hh, ⟨_, _, _, F2 _ Ext.rfl' 0 _ rfl, _, _, _, G2 _ Ext.rfl' 0 _ rfl, fun hne => absurd (by omega) hne, fun _ =>
    ⟨_, _, _, G2 _ Ext.rfl' 0 _ rfl, _, _, _, F2 _ Ext.rfl' 0 _ rfl, i64ok (by omega) (by have := hzb.1; omega), by omega, by omega, by omega, _, rfl, _, _, _, F2 _ Ext.rfl' 0 _ rfl, by omega, by omega, onP_at hpL2 ⟨last2.op, ?_, fun hne => absurd hlast2 hne, fun _ =>
      ⟨_, F2 _ Ext.rfl' 1 _ rfl, _, G2 _ Ext.rfl' 1 _ rfl, fun hne => absurd w2.symm hne, fun _ => ⟨_, F2 _ Ext.rfl' 2 _ rfl, _, G2 _ Ext.rfl' 2 _ rfl, fun hne => absurd w3.symm hne, fun _ =>
        ⟨_, _, _, G2 _ Ext.rfl' 3 _ rfl, _, _, _, F2 _ Ext.rfl' 3 _ rfl, c14 (w4.ext e20) (bts.ext e20) (by rw [← w4l]; exact hzb.2.1) ⟨_, rfl, rfl, rfl⟩⟩⟩⟩⟩⟩⟩, ?_⟩
  · have := hcellL2 0 _ rfl
    rw [show w.n = bn by omega] at this
    exact this
  rintro _ _ ⟨rfl, rfl⟩
  refine ⟨fun h => by simp at h, fun _ => ?_⟩
  refine fwd bn (fun i hh => Ext h20 hh) (by omega) Ext.rfl' fun j h35 j0 j1 e35 => ⟨_, _, _, F2 _ e35 0 _ rfl, fun hlt3 => ?_, fun hge3 => ⟨i64ok (by omega) (by have := hzf.2.1; omega), fwd_next k0 hlt2 ((e19.trans e20).trans e35)⟩⟩
  have e2035 := e20.trans e35
  obtain ⟨x, b5, o5, hx, hp5, _, ⟨ap, an, ac, rfl, aas, aac⟩, hcells5⟩ := (bbs.mono e2035 (fun _ _ _ => InsD.ext e2035)).get j0 hlt3
  have hzx := hzb.2.2 x (List.mem_of_getElem? hx)
  have hal := aas.len
  obtain ⟨v, b6, o6, hv, hp6, hcellv⟩ := (w1.ext (fun _ _ => InsM.ext e2035) e2035).get j0 (by omega) hx
  obtain ⟨v1, v2, v3, v4⟩ := hv
  have wn : (j : Int) < w.n := by omega
  refine ⟨fun pf pg hh => ∃ bf bg, pf = some ⟨bf, 0, none⟩ ∧ pg = some ⟨bg, 0, none⟩ ∧ hh[bf]? = some (.cells ⟨[.int .i64 x.op, .int .i64 x.dst, .int .i64 x.imm, .slice ap an ac]⟩ 71 (0, 0)) ∧ hh[bg]? = some (.cells ⟨ienc v⟩ 71 (0, 0)) ∧ Ext h35 hh,
    ⟨fun hh => Ext h35 hh, Ext.rfl', _, _, _, F2 _ e35 0 _ rfl, fun h5 s => ⟨_, _, _, F2 _ (e35.trans s) 0 _ rfl, rfl, by simp [Slot.val]⟩, j0, hlt3, onP_at hp5 ⟨_, hcells5 0 _ rfl, _, hcells5 1 _ rfl, _, hcells5 2 _ rfl, _, _, _, hcells5 3 _ rfl,
      fun h6 s => ⟨_, s.cell (hcells5 0 _ rfl), _, s.cell (hcells5 1 _ rfl), _, s.cell (hcells5 2 _ rfl), _, _, _, s.cell (hcells5 3 _ rfl), rfl, by simp [Slot.val]⟩,
      _, _, _, G2 _ e35 0 _ rfl, fun h7 s => ⟨_, _, _, G2 _ (e35.trans s) 0 _ rfl, rfl, by simp [Slot.val]⟩, j0, wn, onP_at hp6 ⟨_, hcellv 0 _ rfl, _, hcellv 1 _ rfl, _, hcellv 2 _ rfl, _, _, _, hcellv 3 _ rfl,
      fun h6 s => ⟨_, s.cell (hcellv 0 _ rfl), _, s.cell (hcellv 1 _ rfl), _, s.cell (hcellv 2 _ rfl), _, _, _, s.cell (hcellv 3 _ rfl), rfl, by simp [Slot.val]⟩, ?_, ?_⟩⟩⟩, ?_⟩
  · intro bf2 h9 hN9
    refine ⟨hN9.ext, fun bg2 h10 hN10 => ⟨hN9.ext.trans hN10.ext, ?_⟩⟩
    have q1 := hN9.blk; have q2 := hN10.blk; have q3 := hN9.size
    exact st_pair (hN10.ext _ _ hN9.get) hN10.get (hN9.ext.trans hN10.ext) (by omega) (by omega) (by omega) rfl rfl (by simp) (by simp) rfl rfl rfl rfl (fun h' e => e) fun h' e ha hb => ⟨bf2, bg2, rfl, rfl, ha, hb, e⟩
  · intro bg2 h9 hN9
    refine ⟨hN9.ext, fun bf2 h10 hN10 => ⟨hN9.ext.trans hN10.ext, ?_⟩⟩
    have q1 := hN9.blk; have q2 := hN10.blk; have q3 := hN9.size
    exact st_pair hN10.get (hN10.ext _ _ hN9.get) (hN9.ext.trans hN10.ext) (by omega) (by omega) (by omega) rfl rfl (by simp) (by simp) rfl rfl rfl rfl (fun h' e => e) fun h' e ha hb => ⟨bf2, bg2, rfl, rfl, ha, hb, e⟩
  rintro _ _ h36 ⟨byb, bz, rfl, rfl, hby, hbz, e36⟩
  refine ⟨_, bcell hby rfl, _, bcell hbz rfl, fun hne => absurd v1.symm hne, fun _ => ⟨_, bcell hby rfl, _, bcell hbz rfl, fun hne => absurd v2.symm hne, fun _ => ⟨_, bcell hby rfl, _, bcell hbz rfl, fun hne => absurd v3.symm hne, fun _ =>
    ⟨_, _, _, bcell hbz rfl, _, _, _, bcell hby rfl, c14 (v4.ext e36) (aas.ext e36) (by rw [← v4.len]; exact hzx) ⟨_, rfl, fun h => by simp at h, fun _ => ⟨i64ok (by omega) (by omega), fwd_next j0 hlt3 (e35.trans e36)⟩⟩⟩⟩⟩⟩
end Go.Proofs.Try

/- The law's helpers: one, sameSpans, sameInts, sameLists, small. -/
set_option maxRecDepth 100000
set_option linter.unusedVariables false
set_option linter.unusedSimpArgs false
open Go Go.Fw Go.Proofs
namespace Go.Proofs.Try

theorem row_new {α : Type} {D : H → List Value → α → Prop} {h h' : H} {b k : Nat} {vs : List Value} {e : TypeId} {fr : Nat × Nat} {x : α} (hN : New h (.cells ⟨vs⟩ e fr) b h') (hd : D h' vs x) : RowAt D k h' (some ⟨b, 0, none⟩) 1 [x] := by
  refine ⟨rfl, fun _ => ⟨b, 0, rfl, fun i y hi => ?_⟩⟩
  cases i with
  | zero =>
    simp at hi; subst hi
    exact ⟨vs, hd, fun j v hj => by rw [Nat.zero_mul, Nat.zero_add]; exact hN.cell hj⟩
  | succ i => simp at hi
theorem c8 {h : H} {f : Fnc} {fp : Option Addr} {fn fc : Nat} {fq : Option Addr} {fm fd : Nat} (hF : FncD h (fv f fp fn fc fq fm fd) f) (hz : SzL f) {R : Value → H → Prop}
    (k : ∀ b p' c' h', Ext h h' → h'[b]? = some (.cells ⟨[.slice p' 1 c', .int .i64 0]⟩ 39 (0, 0)) → LirM h' p' 1 c' [f] → R (.pointer (some ⟨b, 0, none⟩)) h') :
    HC Tryd.prog 8 [.agg ⟨fv f fp fn fc fq fm fd⟩] h R := by
  apply hc8; unfold sh8; intro bf h1 hN1
  have g := hN1.keep _ Ext.rfl'
  refine ⟨_, g 0 _ rfl, _, _, _, g 1 _ rfl, _, g 2 _ rfl, _, g 3 _ rfl, _, _, _, g 4 _ rfl, rfl, by omega, fun bv h2 hN2 => ⟨rfl, by omega, ?_⟩⟩
  have e2 := hN1.ext.trans hN2.ext
  refine c24 (fs := [f]) (row_new hN2 (hF.ext e2)) (by omega) (fun x hx => by simp at hx; subst hx; exact hz) fun b p' c' h3 e3 _ hb hH => ⟨_, rfl, k b p' c' h3 (e2.trans e3) hb hH.now⟩

theorem c12 {h : H} {p : Option Addr} {n c : Nat} {l : List Itv} {q : Option Addr} {m d : Nat} (hl : SlAt ive 3 h p n l) (hq : SlAt ive 3 h q m l) (hz : (n : Int) < 9223372036854775807) {R : Value → H → Prop} (k : R (.bool true) h) : HC Tryd.prog 12 [.slice p n c, .slice q m d] h R := by
  have h1 := hl.len
  have h2 := hq.len
  obtain rfl : n = m := by omega
  apply hc12; unfold sh12
  refine ⟨fun hne => absurd rfl hne, fun _ => ?_⟩
  refine fwd n (fun v h' => h = h') (by omega) rfl fun v h2 v0 v1 hh => ?_
  subst hh
  refine ⟨fun hlt => ⟨v0, by omega, ?_⟩, fun hge => k⟩
  obtain ⟨x, hx⟩ := get_ex h1 v0 hlt
  obtain ⟨b, o, hp, hc⟩ := hl.at_ (by omega)
  obtain ⟨b2, o2, hp2, hc2⟩ := hq.at_ (by omega)
  have g := hc _ _ hx
  have g2 := hc2 _ _ hx
  exact onP_at hp ⟨v0, hlt, onP_at hp2 ⟨_, g 0 _ rfl, _, g 1 _ rfl, _, g 2 _ rfl, _, g2 0 _ rfl, _, g2 1 _ rfl, _, g2 2 _ rfl, fun hne => absurd ⟨rfl, rfl, rfl⟩ hne, fun _ => ⟨i64ok (by omega) (by omega), fwd_next v0 hlt rfl⟩⟩⟩
theorem c49 {h : H} {p : Option Addr} {n c : Nat} {l : List Int} {q : Option Addr} {m d : Nat} (hl : IntsAt h p n l) (hq : IntsAt h q m l) (hz : (n : Int) < 9223372036854775807) {R : Value → H → Prop} (k : R (.bool true) h) : HC Tryd.prog 49 [.slice p n c, .slice q m d] h R := by
  have h1 := hl.len
  have h2 := hq.len
  obtain rfl : n = m := by omega
  apply hc49; unfold sh49
  refine ⟨fun hne => absurd rfl hne, fun _ => ?_⟩
  refine fwd n (fun v h' => h = h') (by omega) rfl fun v h2 v0 v1 hh => ?_
  subst hh
  refine ⟨fun hlt => ⟨v0, by omega, ?_⟩, fun hge => k⟩
  obtain ⟨x, hx⟩ := get_ex h1 v0 hlt
  obtain ⟨b, o, hp, hc⟩ := hl.at_ (by omega)
  obtain ⟨b2, o2, hp2, hc2⟩ := hq.at_ (by omega)
  have g := hc _ _ hx
  have g2 := hc2 _ _ hx
  exact onP_at hp ⟨v0, hlt, onP_at hp2 ⟨_, g 0 _ rfl, _, g2 0 _ rfl, fun hne => absurd rfl hne, fun _ => ⟨i64ok (by omega) (by omega), fwd_next v0 hlt rfl⟩⟩⟩
/-- A slice in a row of slices. -/
def LstD (h : H) (vs : List Value) (l : List Int) : Prop := ∃ p n c, vs = [.slice p n c] ∧ IntsAt h p n l
theorem LstD.ext {h h' : H} (e : Ext h h') {vs : List Value} {l : List Int} : LstD h vs l → LstD h' vs l := fun ⟨p, n, c, a, b⟩ => ⟨p, n, c, a, b.ext e⟩
theorem c20 {h : H} {p : Option Addr} {n c : Nat} {l : List (List Int)} {q : Option Addr} {m d : Nat} (hl : RowAt LstD 1 h p n l) (hq : RowAt LstD 1 h q m l) (hz : (n : Int) < 9223372036854775807) (hz2 : ∀ x ∈ l, (x.length : Int) < 9223372036854775807) {R : Value → H → Prop} (k : R (.bool true) h) : HC Tryd.prog 20 [.slice p n c, .slice q m d] h R := by
  have h1 := hl.len
  have h2 := hq.len
  obtain rfl : n = m := by omega
  apply hc20; unfold sh20
  refine ⟨fun hne => absurd rfl hne, fun _ => ?_⟩
  refine fwd n (fun v h' => h = h') (by omega) rfl fun v h2 v0 v1 hh => ?_
  subst hh
  refine ⟨fun hlt => ⟨v0, by omega, ?_⟩, fun hge => k⟩
  obtain ⟨x, b, o, hx, hp, _, ⟨p1, n1, c1, rfl, i1⟩, hc⟩ := hl.get v0 hlt
  obtain ⟨x', b2, o2, hx', hp2, _, ⟨p2, n2, c2, rfl, i2⟩, hc2⟩ := hq.get v0 hlt
  obtain rfl : x = x' := by rw [hx] at hx'; exact Option.some.inj hx'
  have hxl := hz2 x (List.mem_of_getElem? hx)
  rw [i1.len] at hxl
  exact onP_at hp ⟨v0, hlt, onP_at hp2 ⟨_, _, _, hc 0 _ rfl, _, _, _, hc2 0 _ rfl, c49 i1 i2 hxl ⟨_, rfl, fun h => by simp at h, fun _ => ⟨i64ok (by omega) (by omega), fwd_next v0 hlt rfl⟩⟩⟩⟩

/-- What small tells. -/
def BlkS (b : Blk) : Prop := b.term.to.length ≤ 300000 ∧ b.body.length ≤ 300000 ∧ ∀ x ∈ b.body, x.args.length ≤ 300000
def Small (f : Fnc) : Prop := f.blocks.length ≤ 600 ∧ f.params.length ≤ 300000 ∧ ∀ b ∈ f.blocks, BlkS b
def S44 (n : Nat) : Prop := n ≤ 17592186044416
/-- What is laid is not so great that the sums come past the numbers. -/
def SzQ (f : Fnc) : Prop := S44 f.params.length ∧ S44 f.blocks.length ∧ ∀ b ∈ f.blocks, S44 b.term.to.length ∧ S44 b.body.length ∧ ∀ x ∈ b.body, S44 x.args.length
theorem c7 {h : H} {f : Fnc} {fp : Option Addr} {fn fc : Nat} {fq : Option Addr} {fm fd : Nat} (hF : FncD h (fv f fp fn fc fq fm fd) f) (hz : SzQ f) (hnm : (f.name.size : Int) ≤ 9223372036854775807) {R : Value → H → Prop}
    (k : ∀ q h', Ext h h' → (q = true → Small f) → R (.bool q) h') : HC Tryd.prog 7 [.agg ⟨fv f fp fn fc fq fm fd⟩] h R := by
  have hF0 := hF
  obtain ⟨_, _, _, _, _, _, he, hps, hpc, hbs, hbc⟩ := hF
  cases he
  have hpl := hps.len
  have hbl := hbs.len
  obtain ⟨z1, z2, z3⟩ := hz
  have z1' : fn ≤ 17592186044416 := by rw [← hpl]; exact z1
  have z2' : fm ≤ 17592186044416 := by rw [← hbl]; exact z2
  apply hc7; unfold sh7; intro bf h1 hN1
  have e1 := hN1.ext
  have g := hN1.keep
  have gq : ∀ h', Ext h1 h' → cell h' ⟨bf, 0 + 4, none⟩ = some (.slice fq fm fd) := fun h' e => g h' e 4 _ rfl
  have h65 : 0 ≤ (f.name.size : Int) / 65 ∧ (f.name.size : Int) / 65 ≤ 141898800566997412 := by omega
  refine ⟨_, g _ Ext.rfl' 0 _ rfl, by omega, by simpa [hi] using hnm, by omega, _, _, _, g _ Ext.rfl' 4 _ rfl, i64ok (by omega) (by omega), _, _, _, g _ Ext.rfl' 1 _ rfl, i64ok (by omega) (by omega), ?_⟩
  have hN0 : (f.name.size : Int) / 65 + fm + fn ≤ 141934000000000000 := by omega
  refine ⟨fun n hh => h1 = hh ∧ (f.name.size : Int) / 65 + fm + fn ≤ n ∧ n ≤ 5000000000000000000, ⟨_, g _ Ext.rfl' 2 _ rfl, fun hr => ⟨_, g _ Ext.rfl' 2 _ rfl, fun hr2 => ⟨_, _, _, g _ Ext.rfl' 4 _ rfl, _, g _ Ext.rfl' 2 _ rfl, ?_⟩, fun hr2 => ⟨rfl, by omega, by omega⟩⟩, fun hr => ⟨rfl, by omega, by omega⟩⟩, ?_⟩
  · have hmul : 0 ≤ (fm : Int) * f.regs ∧ (fm : Int) * f.regs ≤ 17592186044416 * 262144 := ⟨Int.mul_nonneg (by omega) (by omega), Int.mul_le_mul (by omega) hr2 (by omega) (by omega)⟩
    exact ⟨i64ok (by omega) (by omega), i64ok (by omega) (by omega), rfl, by omega, by omega⟩
  rintro n0 _ ⟨rfl, hn0, hn1⟩
  refine ⟨fun n i => (fun hh => h1 = hh ∧ 0 ≤ i ∧ i ≤ fm ∧ n0 ≤ n ∧ n ≤ 6000000000000000000 ∧ (n ≤ 300000 → ∀ b ∈ f.blocks.take i.toNat, BlkS b), fun _ => ((fm : Int) - i).toNat), ⟨rfl, by omega, by omega, by omega, by omega, fun _ b hb => by simp at hb⟩, ?_⟩
  rintro n i _ ⟨rfl, i0, i1, hn2, hn3, hall⟩
  have endd : (∀ b ∈ f.blocks, n ≤ 300000 → BlkS b) → n ≤ 300000 → R (.bool (decide ((fm : Int) ≤ 600))) h1 := fun hb hle =>
    k _ _ e1 fun hq => ⟨by have := of_decide_eq_true hq; omega, by omega, fun b hb' => hb b hb' hle⟩
  refine ⟨_, _, _, gq _ Ext.rfl', fun hlt => ⟨fun hle => ?_, fun hgt => ⟨fun hle => absurd hle hgt, fun _ => k _ _ e1 fun hq => by simp at hq⟩⟩, fun hge => ⟨fun hle => ⟨_, _, _, gq _ Ext.rfl', ?_⟩, fun hgt => k _ _ e1 fun hq => by simp at hq⟩⟩
  · obtain ⟨b, b', o', hb, hp', _, ⟨bp, bn, bc0, tq, tm, td, rfl, bbs, bbc, bts, btc⟩, hcells⟩ := (hbs.mono e1 (fun _ _ _ => BlkD.ext e1)).get i0 hlt
    obtain ⟨y1, y2, y3⟩ := z3 b (List.mem_of_getElem? hb)
    have htl := bts.len
    have hbdl := bbs.len
    have y1' : tm ≤ 17592186044416 := by rw [← htl]; exact y1
    have y2' : bn ≤ 17592186044416 := by rw [← hbdl]; exact y2
    refine ⟨_, _, _, gq _ Ext.rfl', i0, hlt, onP_at hp' ⟨_, _, _, hcells 3 _ rfl, i64ok (by omega) (by omega), ?_⟩⟩
    refine ⟨fun n' j => (fun hh => h1 = hh ∧ 0 ≤ j ∧ j ≤ bn ∧ n + tm + j ≤ n' ∧ n' ≤ 5500000000000000000 ∧ (n' ≤ 300000 → ∀ x ∈ b.body.take j.toNat, x.args.length ≤ 300000), fun _ => ((bn : Int) - j).toNat), ⟨rfl, by omega, by omega, by omega, by omega, fun _ x hx => by simp at hx⟩, ?_⟩
    rintro n' j _ ⟨rfl, j0, j1, hm2, hm3, hall2⟩
    have nx : (n' ≤ 300000 → j = bn) → (h1 = h1 ∧ 0 ≤ i + 1 ∧ i + 1 ≤ fm ∧ n0 ≤ n' ∧ n' ≤ 6000000000000000000 ∧ (n' ≤ 300000 → ∀ b ∈ f.blocks.take (i + 1).toNat, BlkS b)) ∧ ((fm : Int) - (i + 1)).toNat < ((fm : Int) - i).toNat := fun hj => by
      refine ⟨⟨rfl, by omega, by omega, by omega, by omega, fun hle' => ?_⟩, by omega⟩
      rw [show (i + 1).toNat = i.toNat + 1 by omega, take_succ_all hb]
      have := hj hle'
      refine ⟨hall (by omega), by omega, by omega, fun x hx => hall2 hle' x ?_⟩
      rw [List.take_of_length_le (by omega)]; exact hx
    refine ⟨_, _, _, gq _ Ext.rfl', i0, hlt, onP_at hp' ⟨_, _, _, hcells 0 _ rfl, fun hlt2 => ⟨fun hle2 => ?_, fun hgt2 => ⟨i64ok (by omega) (by omega), nx fun h => absurd h hgt2⟩⟩, fun hge2 => ⟨i64ok (by omega) (by omega), nx fun _ => by omega⟩⟩⟩
    obtain ⟨x, b5, o5, hx, hp5, _, ⟨ap, an, ac, rfl, aas, aac⟩, hcells5⟩ := bbs.get j0 hlt2
    have hal := aas.len
    have y3' : an ≤ 17592186044416 := by rw [← hal]; exact y3 x (List.mem_of_getElem? hx)
    refine ⟨_, _, _, gq _ Ext.rfl', i0, hlt, onP_at hp' ⟨_, _, _, hcells 0 _ rfl, j0, hlt2, onP_at hp5 ⟨_, _, _, hcells5 3 _ rfl, i64ok (by omega) (by omega), i64ok (by omega) (by omega), i64ok (by omega) (by omega), ⟨rfl, by omega, by omega, by omega, by omega, fun hle' => ?_⟩, ?_⟩⟩⟩
    · rw [show (j + 1).toNat = j.toNat + 1 by omega, take_succ_all hx]
      exact ⟨hall2 (by omega), by omega⟩
    · show ((bn : Int) - (j + 1)).toNat < ((bn : Int) - j).toNat
      omega
  · have : f.blocks.take i.toNat = f.blocks := List.take_of_length_le (by omega)
    rw [this] at hall
    exact endd (fun b hb hle' => hall hle' b hb) hle
end Go.Proofs.Try
