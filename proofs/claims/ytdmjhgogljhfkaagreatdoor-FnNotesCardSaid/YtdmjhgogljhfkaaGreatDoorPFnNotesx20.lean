import Derived.Test.YtdmjhgogljhfkaaGreatDoorPFnNotesx0
import Derived.Test.YtdmjhgogljhfkaaGreatDoorPFnNotesx4
import Derived.Test.YtdmjhgogljhfkaaGreatDoorPFnNotesx7
import Derived.Test.YtdmjhgogljhfkaaGreatDoorPFnNotesx10
import Derived.Test.YtdmjhgogljhfkaaGreatDoorPFnNotesx16
namespace Go.Proofs.YtdmjhgogljhfkaaGreatDoor.PFnNotes
open Go.RowKit Go.Proofs.YtdmjhgogljhfkaaGreatDoorW.PrintWords Go.Proofs.YtdmjhgogljhfkaaGreatDoorW.PrintLast Go.Proofs.YtdmjhgogljhfkaaGreatDoorW.PrintMore
attribute [local go_sem] max2_int min2_int max_two min_two max_three min_three max_four min_four
attribute [local go_sem] cell_in frozen_in cell_g cell_p cell_r cell_q
set_option synthInstance.maxSize 1000000
set_option synthInstance.maxHeartbeats 2000000
set_option linter.unusedVariables false
set_option linter.unusedSimpArgs false
def laws_FnNotes.cd (k : Nat) (q0 : Bool) (q1 : Int) (q2 : Int) (q3 : Int) (q4 : Int) (q5 : Int) (q6 : ByteArray) (q7 : List Int) (q8 : ByteArray) (q9 : List Int) (q10 : Bool) (q11 : Int) (q12 : Int) (q13 : Int) (q14 : ByteArray) (q15 : List Int) (q16 : Int) (q17 : Int) (q18 : List Int) : Option Bool := (if q0 = true then ((impl_SafeBytes.f k q1 q2 q3 q4 q5 q6 q7 q8).bind fun t1477 => (if (strOfNums t1477).toList = (strOfNums q9).toList then (if q10 = true then ((impl_QcBytes.f k q11 q12 q13 q14 q15).bind fun t1480 => (if 0 ≤ q16 then (if q16 ≤ q17 then (if q17 ≤ (q18.length : Int) then (if (strOfNums t1480).toList = (strOfNums ((q18.take (q17 : Int).toNat).drop (q16 : Int).toNat)).toList then (some false) else (some true)) else (none)) else (none)) else (none))) else (some false)) else (some true))) else (if q10 = true then ((impl_QcBytes.f k q11 q12 q13 q14 q15).bind fun t1609 => (if 0 ≤ q16 then (if q16 ≤ q17 then (if q17 ≤ (q18.length : Int) then (if (strOfNums t1609).toList = (strOfNums ((q18.take (q17 : Int).toNat).drop (q16 : Int).toNat)).toList then (some false) else (some true)) else (none)) else (none)) else (none))) else (some false)))
def laws_FnNotes.tl (k : Nat) (q0 : Int) (q1 : List Int) (q2 : Int) (q3 : Int) (q4 : Int) (q5 : Int) (q6 : Int) (q7 : ByteArray) (q8 : List Int) (q9 : ByteArray) (q10 : Int) (q11 : Int) (q12 : Int) (q13 : Int) (q14 : Int) (q15 : ByteArray) (q16 : List Int) (q17 : ByteArray) (q18 : List Int) (q19 : List Int) : Option Bool := (if 0 ≤ q0 then (if q0 ≤ (q1.length : Int) then ((impl_LastNote.f k q2 q3 (q1.take (q0 : Int).toNat)).bind fun bt1681 => (if bt1681.2.2.2.2.2.2 = q0 then ((impl_SafeSame.f k bt1681.1 bt1681.2.1 bt1681.2.2.1 bt1681.2.2.2.1 bt1681.2.2.2.2.1 bt1681.2.2.2.2.2.1 q4 q5 q6 q7 q8 q9).bind fun t1691 => (if t1691 = true then ((impl_SafeOk.f k q10 q11 q12 q13 q14 q15 q16 q17).bind fun t1692 => (if t1692 = true then ((impl_SafeOf.f k q10 q11 q18).bind fun bt1693 => ((impl_LastNote.f k q10 q11 q19).bind fun bt1703 => (if 0 ≤ (wrap64 ((q19.length : Int) - 1)) then (if (wrap64 ((q19.length : Int) - 1)) ≤ (q19.length : Int) then ((impl_LastNote.f k q10 q11 (q19.take ((wrap64 ((q19.length : Int) - 1)) : Int).toNat)).bind fun bt1717 => (if bt1693.2.2.2.2.2.2 = true then ((impl_SafeSame.f k bt1693.1 bt1693.2.1 bt1693.2.2.1 bt1693.2.2.2.1 bt1693.2.2.2.2.1 bt1693.2.2.2.2.2.1 q12 q13 q14 q15 q16 q17).bind fun t1727 => (if t1727 = true then ((impl_SafeSame.f k bt1703.1 bt1703.2.1 bt1703.2.2.1 bt1703.2.2.2.1 bt1703.2.2.2.2.1 bt1703.2.2.2.2.2.1 q12 q13 q14 q15 q16 q17).bind fun t1728 => (if t1728 = true then (if bt1703.2.2.2.2.2.2 = (q19.length : Int) then (if bt1717.2.2.2.2.2.2 = 0 then ((impl_SafeNew.f).bind fun bt1729 => ((impl_SafeSame.f k bt1717.1 bt1717.2.1 bt1717.2.2.1 bt1717.2.2.2.1 bt1717.2.2.2.2.1 bt1717.2.2.2.2.2.1 bt1729.1 bt1729.2.1 bt1729.2.2.1 bt1729.2.2.2.1 bt1729.2.2.2.2.1 bt1729.2.2.2.2.2).bind fun t1737 => (some t1737))) else (some false)) else (some false)) else (some false))) else (some false))) else (some false))) else (none)) else (none)))) else (if (q18.length : Int) = 0 then (some ((q19.length : Int) == 0)) else (some false)))) else (some false))) else (some false))) else (none)) else (none))
def laws_FnNotes.f (k : Nat) (l0 : List Int) : Option (Bool) := (laws_big.f l0).bind fun t1359 => (if t1359 = true then (some true) else ((spec_DrawSafeBytes.f k l0).bind fun bt1360 => ((impl_SafeBytes.f k bt1360.1 bt1360.2.1 bt1360.2.2.1 bt1360.2.2.2.1 bt1360.2.2.2.2.1 bt1360.2.2.2.2.2.1 bt1360.2.2.2.2.2.2.1 bt1360.2.2.2.2.2.2.2).bind fun t1372 => ((impl_NoteBytes.f k bt1360.1 bt1360.2.1 bt1360.2.2.1 bt1360.2.2.2.1 bt1360.2.2.2.2.1 bt1360.2.2.2.2.2.1 bt1360.2.2.2.2.2.2.1 bt1360.2.2.2.2.2.2.2).bind fun t1375 => ((spec_DrawSafeOf.f k l0).bind fun bt1378 => ((impl_SafeOf.f k bt1378.1 bt1378.2.1 bt1378.2.2).bind fun bt1384 => ((spec_SafeOf.f k bt1378.1 bt1378.2.1 bt1378.2.2).bind fun bt1394 => ((spec_DrawLastNote.f k l0).bind fun bt1404 => ((impl_LastNote.f k bt1404.1 bt1404.2.1 bt1404.2.2).bind fun bt1410 => ((spec_LastNote.f k bt1404.1 bt1404.2.1 bt1404.2.2).bind fun bt1420 => ((spec_DrawQcBytes.f k l0).bind fun bt1430 => ((spec_DrawQcOf.f k l0).bind fun bt1439 => ((impl_QcOf.f k bt1439.1 bt1439.2.1 bt1439.2.2.1 bt1439.2.2.2).bind fun bt1446 => ((spec_QcOf.f k bt1439.1 bt1439.2.1 bt1439.2.2.1 bt1439.2.2.2).bind fun bt1454 => ((spec_SafeBytes.f k bt1360.1 bt1360.2.1 bt1360.2.2.1 bt1360.2.2.2.1 bt1360.2.2.2.2.1 bt1360.2.2.2.2.2.1 bt1360.2.2.2.2.2.2.1 bt1360.2.2.2.2.2.2.2).bind fun t1462 => (if (strOfNums t1372).toList = (strOfNums t1462).toList then ((spec_NoteBytes.f k bt1360.1 bt1360.2.1 bt1360.2.2.1 bt1360.2.2.2.1 bt1360.2.2.2.2.1 bt1360.2.2.2.2.2.1 bt1360.2.2.2.2.2.2.1 bt1360.2.2.2.2.2.2.2).bind fun t1465 => (if (strOfNums t1375).toList = (strOfNums t1465).toList then (if (bt1384.2.2.2.2.2.2 != bt1394.2.2.2.2.2.2) = true then (some false) else ((impl_SafeSame.f k bt1384.1 bt1384.2.1 bt1384.2.2.1 bt1384.2.2.2.1 bt1384.2.2.2.2.1 bt1384.2.2.2.2.2.1 bt1394.1 bt1394.2.1 bt1394.2.2.1 bt1394.2.2.2.1 bt1394.2.2.2.2.1 bt1394.2.2.2.2.2.1).bind fun t1468 => (if t1468 = true then (if bt1410.2.2.2.2.2.2 = bt1420.2.2.2.2.2.2 then ((impl_SafeSame.f k bt1410.1 bt1410.2.1 bt1410.2.2.1 bt1410.2.2.2.1 bt1410.2.2.2.2.1 bt1410.2.2.2.2.2.1 bt1420.1 bt1420.2.1 bt1420.2.2.1 bt1420.2.2.2.1 bt1420.2.2.2.2.1 bt1420.2.2.2.2.2.1).bind fun t1469 => (if t1469 = true then ((impl_QcBytes.f k bt1430.1 bt1430.2.1 bt1430.2.2.1 bt1430.2.2.2.1 bt1430.2.2.2.2).bind fun t1470 => ((spec_QcBytes.f k bt1430.1 bt1430.2.1 bt1430.2.2.1 bt1430.2.2.2.1 bt1430.2.2.2.2).bind fun t1473 => (if (strOfNums t1470).toList = (strOfNums t1473).toList then (if (bt1446.2.2.2.2 != bt1454.2.2.2.2) = true then (some false) else (if bt1446.2.2.2.1 = bt1454.2.2.2.1 then ((impl_QcSame.f k bt1446.1 bt1446.2.1 bt1446.2.2.1 bt1454.1 bt1454.2.1 bt1454.2.2.1).bind fun t1476 => (if t1476 = true then ((laws_FnNotes.cd k bt1384.2.2.2.2.2.2 bt1378.1 bt1378.2.1 bt1384.1 bt1384.2.1 bt1384.2.2.1 bt1384.2.2.2.1 bt1384.2.2.2.2.1 bt1384.2.2.2.2.2.1 bt1378.2.2 bt1446.2.2.2.2 bt1439.1 bt1439.2.1 bt1446.1 bt1446.2.1 bt1446.2.2.1 bt1439.2.2.2 bt1446.2.2.2.1 bt1439.2.2.1).bind fun t9000 => (if t9000 = true then (some false) else (laws_FnNotes.tl k bt1410.2.2.2.2.2.2 bt1404.2.2 bt1404.1 bt1404.2.1 bt1410.1 bt1410.2.1 bt1410.2.2.1 bt1410.2.2.2.1 bt1410.2.2.2.2.1 bt1410.2.2.2.2.2.1 bt1360.1 bt1360.2.1 bt1360.2.2.1 bt1360.2.2.2.1 bt1360.2.2.2.2.1 bt1360.2.2.2.2.2.1 bt1360.2.2.2.2.2.2.1 bt1360.2.2.2.2.2.2.2 t1372 t1375))) else (some false))) else (some false))) else (some false)))) else (some false))) else (some false)) else (some false)))) else (some false))) else (some false)))))))))))))))))
def laws_FnNotes.T16 : Bool × List (List Nat × List Nat) := (true, [([], []), ([0], [0]), ([], []), ([], []), ([2, 3], [2, 3]), ([4], [4]), ([1, 5], [1, 5]), ([6, 4], [6]), ([7], [7]), ([8, 7], [7, 8]), ([7], [7]), ([7], [7]), ([10, 11, 7, 7], [7, 10, 11]), ([12, 7], [7, 12]), ([9, 13, 7], [7, 9, 13]), ([7, 14], [7, 14]), ([15, 12], [15]), ([16], [16]), ([16], [16]), ([17, 18, 16], [16, 17, 18]), ([16, 19], [16, 19]), ([20, 16], [20]), ([21], [21]), ([21], [21]), ([22, 23, 21, 21], [21, 22, 23]), ([24, 21], [21, 24]), ([21, 25], [21, 25]), ([26, 24], [26]), ([27], [27]), ([27], [27]), ([28, 29, 27], [27, 28, 29]), ([27, 30], [27, 30]), ([31, 27], [31]), ([32], [32]), ([32], [32]), ([33, 34, 32, 32], [32, 33, 34]), ([35, 32], [32, 35]), ([32, 36], [32, 36]), ([37, 35], [37]), ([38], [38]), ([38], [38]), ([39, 40, 38, 38], [38, 39, 40]), ([41, 38], [38, 41]), ([38], [38]), ([38], [38]), ([43, 44, 41, 38], [38, 43, 44]), ([45, 38], [38, 45]), ([42, 46, 38], [38, 42, 46]), ([38, 47], [38, 47]), ([48, 45], [48]), ([49], [49]), ([49], [49]), ([50, 51, 49], [49, 50, 51]), ([49, 52], [49, 52]), ([53, 49], [53]), ([54], [54]), ([54], [54]), ([55, 56, 54], [54, 55, 56]), ([54, 57], [54, 57]), ([58, 54], [58]), ([59], [59]), ([59], [59]), ([60, 61, 59, 59], [59, 60, 61]), ([62, 59], [59, 62]), ([59, 63], [59, 63])])
def laws_FnNotes.B16 : List Nat := [0, 1, 0, 0, 12, 28, 63, 127, 255, 511, 255, 255, 3327, 7423, 16383, 32767, 65535, 131071, 131071, 524287, 1048575, 2097151, 4194303, 4194303, 16777215, 33554431, 67108863, 134217727, 268435455, 268435455, 1073741823, 2147483647, 4294967295, 8589934591, 8589934591, 34359738367, 68719476735, 137438953471, 274877906943, 549755813887, 549755813887, 2199023255551, 4398046511103, 549755813887, 549755813887, 30786325577727, 65970697666559, 140737488355327, 281474976710655, 562949953421311, 1125899906842623, 1125899906842623, 4503599627370495, 9007199254740991, 18014398509481983, 36028797018963967, 36028797018963967, 144115188075855871, 288230376151711743, 576460752303423487, 1152921504606846975, 1152921504606846975, 4611686018427387903, 9223372036854775807, 18446744073709551615]
theorem laws_FnNotes.tab16 : rtab .any (opsOf Tryz.f6 16) = laws_FnNotes.T16 := by kernel_rfl
theorem laws_FnNotes.bits16 : waitsOk laws_FnNotes.T16.2 laws_FnNotes.B16 = true := by kernel_rfl
def laws_FnNotes.T18 : Bool × List (List Nat × List Nat) := (true, [([], []), ([0], [0]), ([1], [1]), ([1], [1]), ([2, 3, 1, 1], [1, 2, 3]), ([4, 1], [1, 4]), ([1], [1]), ([6, 1], [1, 6]), ([5, 7, 1], [1, 5, 7]), ([1, 8], [1, 8]), ([9, 4], [9]), ([10], [10]), ([11, 10, 10], [10, 11]), ([12], [12]), ([12], [12]), ([13, 14, 12, 12], [12, 13, 14]), ([15, 12], [12, 15]), ([12], [12]), ([12], [12]), ([12], [12]), ([17, 18, 19, 12], [12, 17, 18, 19]), ([20, 12], [12, 20]), ([16, 21, 12], [12, 16, 21]), ([12, 22, 10], [10, 12, 22]), ([10, 23], [10, 23])])
def laws_FnNotes.B18 : List Nat := [0, 1, 3, 3, 15, 31, 3, 67, 255, 511, 1023, 2047, 4095, 8191, 8191, 32767, 65535, 8191, 8191, 8191, 925695, 1974271, 4194303, 8388607, 16777215]
theorem laws_FnNotes.tab18 : rtab .any (opsOf Tryz.f6 18) = laws_FnNotes.T18 := by kernel_rfl
theorem laws_FnNotes.bits18 : waitsOk laws_FnNotes.T18.2 laws_FnNotes.B18 = true := by kernel_rfl
def laws_FnNotes.T20 : Bool × List (List Nat × List Nat) := (true, [([], []), ([], []), ([], []), ([1, 2], [1, 2]), ([0, 3], [0, 3]), ([4], [4]), ([5], [5]), ([5], [5]), ([], []), ([8, 6, 4, 0, 1, 2, 3, 4, 5, 6, 8], [6, 8]), ([7, 9, 0, 1, 2, 3, 4, 5, 6, 7, 8, 9], [7])])
def laws_FnNotes.B20 : List Nat := [0, 0, 0, 6, 15, 31, 63, 63, 0, 383, 1023]
theorem laws_FnNotes.tab20 : rtab .any (opsOf Tryz.f6 20) = laws_FnNotes.T20 := by kernel_rfl
theorem laws_FnNotes.bits20 : waitsOk laws_FnNotes.T20.2 laws_FnNotes.B20 = true := by kernel_rfl
def laws_FnNotes.T27 : Bool × List (List Nat × List Nat) := (true, [([], []), ([], []), ([], []), ([2], [2]), ([3], [3]), ([1, 4], [1, 4]), ([0, 5], [0, 5]), ([6], [6]), ([7], [7]), ([7], [7]), ([], []), ([10, 8, 6, 0, 1, 2, 3, 4, 5, 6, 7, 8, 10], [8, 10]), ([9, 11, 0, 1, 2, 3, 4, 5, 6, 7, 8, 9, 10, 11], [9])])
def laws_FnNotes.B27 : List Nat := [0, 0, 0, 4, 12, 30, 63, 127, 255, 255, 0, 1535, 4095]
theorem laws_FnNotes.tab27 : rtab .any (opsOf Tryz.f6 27) = laws_FnNotes.T27 := by kernel_rfl
theorem laws_FnNotes.bits27 : waitsOk laws_FnNotes.T27.2 laws_FnNotes.B27 = true := by kernel_rfl
def laws_FnNotes.T28 : Bool × List (List Nat × List Nat) := (true, [([], []), ([0], [0]), ([1], [1]), ([1], [1]), ([2, 3, 1, 1], [1, 2, 3]), ([1, 4], [1, 4]), ([5, 4], [5]), ([6], [6]), ([6], [6]), ([7, 8, 6, 6], [6, 7, 8]), ([6, 9], [6, 9]), ([10, 9], [10]), ([11], [11]), ([11], [11]), ([13, 11], [11, 13]), ([12, 14, 11], [11, 12, 14]), ([11, 15], [11, 15]), ([16, 11], [16]), ([17], [17]), ([18, 17], [17, 18]), ([17, 19], [17, 19]), ([20, 17], [20]), ([21], [21]), ([21, 21], [21]), ([22, 23, 23, 21], [21, 22, 23]), ([21, 24], [21, 24]), ([25, 24, 0, 1, 2, 3, 4, 5, 6, 7, 8, 9, 10, 11, 12, 13, 14, 15, 16, 17, 18, 19, 20, 21, 22, 23, 24, 25], [25])])
def laws_FnNotes.B28 : List Nat := [0, 1, 3, 3, 15, 31, 63, 127, 127, 511, 1023, 2047, 4095, 4095, 12287, 32767, 65535, 131071, 262143, 524287, 1048575, 2097151, 4194303, 4194303, 16777215, 33554431, 67108863]
theorem laws_FnNotes.tab28 : rtab .any (opsOf Tryz.f6 28) = laws_FnNotes.T28 := by kernel_rfl
theorem laws_FnNotes.bits28 : waitsOk laws_FnNotes.T28.2 laws_FnNotes.B28 = true := by kernel_rfl
set_option maxHeartbeats 80000000 in
set_option maxRecDepth 100000 in
theorem laws_FnNotes.calls (k : Nat) (A0 : Option Addr) (c0 : Nat) (l0 : List Int) (r : Bool) (hrt : Aside0 (r = true)) (w : World) (hr0 : Kd.C (Kd.int .u8) w A0 l0.length l0) (hc0 : l0.length ≤ c0) (h : laws_FnNotes.f k l0 = some r) (hG : Glob w := by exact gG HG HB) :
  Calls Tryz.prog 6 #[.slice A0 l0.length c0] w fun e w' => e = .returned (.bool r) ∧ Below w.heap.size w w' := by
 have HG := Aside0.mk hG; clear hG; have hu32 := Tryz.underlying32; have hu29 := Tryz.underlying29; have hu27 := Tryz.underlying27; have HR0 := Aside0.mk hr0; have HC0 := Aside0.mk hc0; clear hr0 hc0; have HB := Aside0.mk (Below.refl w.heap.size w)
 have H := h; unfold laws_FnNotes.f at H
 clear h; obtain ⟨t1359, A2, H⟩ := oB H; (try dsimp only at H)
 go_enter Tryz.func6, Tryz.ntmps6
 have H' := Aside0.mk H; clear H
 go_upto_if 39 with (first | ((with_reducible refine gate_callee (f := 27) rfl ?_); refine gD (some 39) Tryz.func27 (laws_big.calls (hr0 := pC HR0) (hc0 := HC0.out) (w := _) (h := A2.out)) ?_; intro w3 _))
 have H := H'.out; clear H'
 by_cases c4 : t1359 = true
 ·
  subst c4
  rw [if_pos rfl] at H
  obtain rfl := Option.some.inj H
  go_wp2
  go_ret
  exact ⟨y0_8, UpW.out⟩
 replace c4 := Bool.eq_false_iff.mpr c4; subst c4
 rw [if_neg Bool.false_ne_true] at H
 obtain ⟨⟨t1360, t1361, t1362, t1363, t1364, t1365, t1366, t1369⟩, A5, H⟩ := oB H; (try dsimp only at H); obtain ⟨t1372, A6, H⟩ := oB H; (try dsimp only at H); obtain ⟨t1375, A7, H⟩ := oB H; (try dsimp only at H); obtain ⟨⟨t1378, t1379, t1380⟩, A8, H⟩ := oB H; (try dsimp only at H); obtain ⟨⟨t1384, t1385, t1386, t1387, t1388, t1391, t1392⟩, A9, H⟩ := oB H; (try dsimp only at H); obtain ⟨⟨t1394, t1395, t1396, t1397, t1398, t1401, t1402⟩, A10, H⟩ := oB H; (try dsimp only at H); obtain ⟨⟨t1404, t1405, t1406⟩, A11, H⟩ := oB H; (try dsimp only at H); obtain ⟨⟨t1410, t1411, t1412, t1413, t1414, t1417, t1418⟩, A12, H⟩ := oB H; (try dsimp only at H); obtain ⟨⟨t1420, t1421, t1422, t1423, t1424, t1427, t1428⟩, A13, H⟩ := oB H; (try dsimp only at H); obtain ⟨⟨t1430, t1431, t1432, t1433, t1434⟩, A14, H⟩ := oB H; (try dsimp only at H); obtain ⟨⟨t1439, t1440, t1441, t1444⟩, A15, H⟩ := oB H; (try dsimp only at H); obtain ⟨⟨t1446, t1447, t1448, t1451, t1452⟩, A16, H⟩ := oB H; (try dsimp only at H); obtain ⟨⟨t1454, t1455, t1456, t1459, t1460⟩, A17, H⟩ := oB H; (try dsimp only at H); have H' := Aside0.mk H; clear H
 go_upto_region 16 with (first | ((with_reducible refine gate_callee (f := 53) rfl ?_); refine gC1 (some 42) Tryz.func53 (spec_DrawSafeBytes.calls (hr0 := pC HR0) (hc0 := HC0.out) (w := _) (h := A5.out)) ?_; intro Ao1367 co1367 w18 _ HO1368) | ((with_reducible refine gd 3 ?_); refine bL 3 #[.int .i64 0, .int .i64 0] 32 ?_; intro gb1370 w19 _ _ _) | ((with_reducible refine gd 4 ?_); refine bL 4 #[.int .i64 0, .int .i64 0, .int .i64 0, .string (⟨#[]⟩ : ByteArray), .slice none 0 0, .string (⟨#[]⟩ : ByteArray)] 29 ?_; intro gb1371 w20 _ _ _) | ((with_reducible refine gate_callee (f := 54) rfl ?_); refine gC1 (some 47) Tryz.func54 (impl_SafeBytes.calls (hr1_4 := rC HO1368) (hc1_4 := rL HO1368) (w := _) (h := A6.out)) ?_; intro Ao1373 co1373 w21 _ HO1374) | ((with_reducible refine gate_callee (f := 55) rfl ?_); refine gC1 (some 50) Tryz.func55 (impl_NoteBytes.calls (hr1_4 := rC HO1368) (hc1_4 := rL HO1368) (w := _) (h := A7.out)) ?_; intro Ao1376 co1376 w22 _ HO1377) | ((with_reducible refine gate_callee (f := 56) rfl ?_); refine gC1 (some 53) Tryz.func56 (spec_DrawSafeOf.calls (hr0 := pC HR0) (hc0 := HC0.out) (w := _) (h := A8.out)) ?_; intro Ao1381 co1381 w23 _ HO1382) | ((with_reducible refine gd 7 ?_); refine bL 7 #[.int .i64 0, .int .i64 0] 32 ?_; intro gb1383 w24 _ _ _) | ((with_reducible refine gate_callee (f := 57) rfl ?_); refine gC1 (some 59) Tryz.func57 (impl_SafeOf.calls (hr1 := rC HO1382) (hc1 := rL HO1382) (w := _) (h := A9.out)) ?_; intro Ao1389 co1389 w25 _ HO1390) | ((with_reducible refine gd 9 ?_); refine bL 9 #[.int .i64 0, .int .i64 0, .int .i64 0, .string (⟨#[]⟩ : ByteArray), .slice none 0 0, .string (⟨#[]⟩ : ByteArray)] 29 ?_; intro gb1393 w26 _ _ _) | ((with_reducible refine gate_callee (f := 58) rfl ?_); refine gC1 (some 65) Tryz.func58 (spec_SafeOf.calls (hr1 := rC HO1382) (hc1 := rL HO1382) (w := _) (h := A10.out)) ?_; intro Ao1399 co1399 w27 _ HO1400) | ((with_reducible refine gd 11 ?_); refine bL 11 #[.int .i64 0, .int .i64 0, .int .i64 0, .string (⟨#[]⟩ : ByteArray), .slice none 0 0, .string (⟨#[]⟩ : ByteArray)] 29 ?_; intro gb1403 w28 _ _ _) | ((with_reducible refine gate_callee (f := 59) rfl ?_); refine gC1 (some 70) Tryz.func59 (spec_DrawLastNote.calls (hr0 := pC HR0) (hc0 := HC0.out) (w := _) (h := A11.out)) ?_; intro Ao1407 co1407 w29 _ HO1408) | ((with_reducible refine gd 13 ?_); refine bL 13 #[.int .i64 0, .int .i64 0] 32 ?_; intro gb1409 w30 _ _ _) | ((with_reducible refine gate_callee (f := 10) rfl ?_); refine gC1 (some 76) Tryz.func10 (impl_LastNote.calls (hr1 := rC HO1408) (hc1 := rL HO1408) (w := _) (h := A12.out)) ?_; intro Ao1415 co1415 w31 _ HO1416) | ((with_reducible refine gd 15 ?_); refine bL 15 #[.int .i64 0, .int .i64 0, .int .i64 0, .string (⟨#[]⟩ : ByteArray), .slice none 0 0, .string (⟨#[]⟩ : ByteArray)] 29 ?_; intro gb1419 w32 _ _ _) | ((with_reducible refine gate_callee (f := 7) rfl ?_); refine gC1 (some 82) Tryz.func7 (spec_LastNote.calls (hr1 := rC HO1408) (hc1 := rL HO1408) (w := _) (h := A13.out)) ?_; intro Ao1425 co1425 w33 _ HO1426) | ((with_reducible refine gd 17 ?_); refine bL 17 #[.int .i64 0, .int .i64 0, .int .i64 0, .string (⟨#[]⟩ : ByteArray), .slice none 0 0, .string (⟨#[]⟩ : ByteArray)] 29 ?_; intro gb1429 w34 _ _ _) | ((with_reducible refine gate_callee (f := 60) rfl ?_); refine gC1 (some 87) Tryz.func60 (spec_DrawQcBytes.calls (hr0 := pC HR0) (hc0 := HC0.out) (w := _) (h := A14.out)) ?_; intro Ao1435 co1435 w35 _ HO1436) | ((with_reducible refine gd 19 ?_); refine bL 19 #[.int .i64 0, .int .i64 0] 32 ?_; intro gb1437 w36 _ _ _) | ((with_reducible refine gd 20 ?_); refine bL 20 #[.int .i64 0, .string (⟨#[]⟩ : ByteArray), .slice none 0 0] 27 ?_; intro gb1438 w37 _ _ _) | ((with_reducible refine gate_callee (f := 61) rfl ?_); refine gC1 (some 92) Tryz.func61 (spec_DrawQcOf.calls (hr0 := pC HR0) (hc0 := HC0.out) (w := _) (h := A15.out)) ?_; intro Ao1442 co1442 w38 _ HO1443) | ((with_reducible refine gd 21 ?_); refine bL 21 #[.int .i64 0, .int .i64 0] 32 ?_; intro gb1445 w39 _ _ _) | ((with_reducible refine gate_callee (f := 62) rfl ?_); refine gC1 (some 100) Tryz.func62 (impl_QcOf.calls (hr1 := rC HO1443) (hc1 := rL HO1443) (w := _) (h := A16.out)) ?_; intro Ao1449 co1449 w40 _ HO1450) | ((with_reducible refine gd 24 ?_); refine bL 24 #[.int .i64 0, .string (⟨#[]⟩ : ByteArray), .slice none 0 0] 27 ?_; intro gb1453 w41 _ _ _) | ((with_reducible refine gate_callee (f := 63) rfl ?_); refine gC1 (some 108) Tryz.func63 (spec_QcOf.calls (hr1 := rC HO1443) (hc1 := rL HO1443) (w := _) (h := A17.out)) ?_; intro Ao1457 co1457 w42 _ HO1458) | ((with_reducible refine gd 27 ?_); refine bL 27 #[.int .i64 0, .string (⟨#[]⟩ : ByteArray), .slice none 0 0] 27 ?_; intro gb1461 w43 _ _ _))
 have H := H'.out; clear H'; obtain ⟨t1462, A44, H⟩ := oB H; (try dsimp only at H)
 by_cases c45 : (strOfNums t1372).toList = (strOfNums t1462).toList
 ·
  rw [if_pos c45] at H
  have c45b0 : ((strOfNums t1372).toList == (strOfNums t1462).toList) = true := beq_iff_eq.mpr c45; have c45b1 : ((strOfNums t1372).toList != (strOfNums t1462).toList) = false := bne_eq_false_iff_eq.mpr c45; clear c45
  (first | rw [c45b0] | (simp only [i64_w, i32_w]; rw [c45b0]) | skip)
  obtain ⟨t1465, A46, H⟩ := oB H; (try dsimp only at H)
  by_cases c47 : (strOfNums t1375).toList = (strOfNums t1465).toList
  rotate_left
  ·
   rw [if_neg c47] at H
   have c47b0 : ((strOfNums t1375).toList == (strOfNums t1465).toList) = false := beq_eq_false_iff_ne.mpr c47; have c47b1 : ((strOfNums t1375).toList != (strOfNums t1465).toList) = true := bne_iff_ne.mpr c47
   exact absurd (hrt.out.symm.trans (Option.some.inj H).symm) (by decide)
  rw [if_pos c47] at H
  have c47b0 : ((strOfNums t1375).toList == (strOfNums t1465).toList) = true := beq_iff_eq.mpr c47; have c47b1 : ((strOfNums t1375).toList != (strOfNums t1465).toList) = false := bne_eq_false_iff_eq.mpr c47; clear c47
  by_cases c48 : (t1392 != t1402) = true
  ·
   rw [if_pos c48] at H
   have c48b0 : (t1392 != t1402) = true := c48
   (try (have c48b1 : decide (t1392 = t1402) = false := by simpa using c48))
   (try (have c48b2 : (t1392 == t1402) = false := by simpa using c48))
   (try (have c48b3 : ¬ (t1392 = t1402) := by simpa using c48))
   clear c48
   exact absurd (hrt.out.symm.trans (Option.some.inj H).symm) (by decide)
  rw [if_neg c48] at H
  have c48b0 : (t1392 != t1402) = false := by simpa using c48
  (try (have c48b1 : decide (t1392 = t1402) = true := by simpa using c48))
  (try (have c48b2 : (t1392 == t1402) = true := by simpa using c48))
  clear c48; obtain ⟨t1468, A49, H⟩ := oB H; (try dsimp only at H)
  by_cases c50 : t1468 = true
  rotate_left
  ·
   replace c50 := Bool.eq_false_iff.mpr c50; subst c50
   rw [if_neg Bool.false_ne_true] at H
   exact absurd (hrt.out.symm.trans (Option.some.inj H).symm) (by decide)
  subst c50
  rw [if_pos rfl] at H
  by_cases c51 : t1418 = t1428
  rotate_left
  ·
   rw [if_neg c51] at H
   have c51b0 : (t1418 == t1428) = false := beq_eq_false_iff_ne.mpr c51; have c51b1 : (t1418 != t1428) = true := bne_iff_ne.mpr c51
   exact absurd (hrt.out.symm.trans (Option.some.inj H).symm) (by decide)
  rw [if_pos c51] at H
  have c51b0 : (t1418 == t1428) = true := beq_iff_eq.mpr c51; have c51b1 : (t1418 != t1428) = false := bne_eq_false_iff_eq.mpr c51; clear c51; obtain ⟨t1469, A52, H⟩ := oB H; (try dsimp only at H)
  by_cases c53 : t1469 = true
  rotate_left
  ·
   replace c53 := Bool.eq_false_iff.mpr c53; subst c53
   rw [if_neg Bool.false_ne_true] at H
   exact absurd (hrt.out.symm.trans (Option.some.inj H).symm) (by decide)
  subst c53
  rw [if_pos rfl] at H
  obtain ⟨t1470, A54, H⟩ := oB H; (try dsimp only at H); obtain ⟨t1473, A55, H⟩ := oB H; (try dsimp only at H)
  by_cases c56 : (strOfNums t1470).toList = (strOfNums t1473).toList
  rotate_left
  ·
   rw [if_neg c56] at H
   have c56b0 : ((strOfNums t1470).toList == (strOfNums t1473).toList) = false := beq_eq_false_iff_ne.mpr c56; have c56b1 : ((strOfNums t1470).toList != (strOfNums t1473).toList) = true := bne_iff_ne.mpr c56
   exact absurd (hrt.out.symm.trans (Option.some.inj H).symm) (by decide)
  rw [if_pos c56] at H
  have c56b0 : ((strOfNums t1470).toList == (strOfNums t1473).toList) = true := beq_iff_eq.mpr c56; have c56b1 : ((strOfNums t1470).toList != (strOfNums t1473).toList) = false := bne_eq_false_iff_eq.mpr c56; clear c56
  by_cases c57 : (t1452 != t1460) = true
  ·
   rw [if_pos c57] at H
   have c57b0 : (t1452 != t1460) = true := c57
   (try (have c57b1 : decide (t1452 = t1460) = false := by simpa using c57))
   (try (have c57b2 : (t1452 == t1460) = false := by simpa using c57))
   (try (have c57b3 : ¬ (t1452 = t1460) := by simpa using c57))
   clear c57
   exact absurd (hrt.out.symm.trans (Option.some.inj H).symm) (by decide)
  rw [if_neg c57] at H
  have c57b0 : (t1452 != t1460) = false := by simpa using c57
  (try (have c57b1 : decide (t1452 = t1460) = true := by simpa using c57))
  (try (have c57b2 : (t1452 == t1460) = true := by simpa using c57))
  clear c57
  by_cases c58 : t1451 = t1459
  rotate_left
  ·
   rw [if_neg c58] at H
   have c58b0 : (t1451 == t1459) = false := beq_eq_false_iff_ne.mpr c58; have c58b1 : (t1451 != t1459) = true := bne_iff_ne.mpr c58
   exact absurd (hrt.out.symm.trans (Option.some.inj H).symm) (by decide)
  rw [if_pos c58] at H
  have c58b0 : (t1451 == t1459) = true := beq_iff_eq.mpr c58; have c58b1 : (t1451 != t1459) = false := bne_eq_false_iff_eq.mpr c58; clear c58; obtain ⟨t1476, A59, H⟩ := oB H; (try dsimp only at H); have H' := Aside0.mk H; clear H
  try go_wp2
  refine sB [] laws_FnNotes.tab16 laws_FnNotes.bits16 ?_; intro w60 _ HT_ HW_
  refine pA 0 (some 112) (bz 65 1) HT_ ?_
  refine tB 2 (some 114) (bz 65 5) HT_ HW_ ?_
  refine tB 3 (some 115) (bz 65 13) HT_ HW_ ?_
  refine join_ (σ := Option Addr × Nat) 54 (bz 65 3583) (fun s_ => [(113, .string (strOfNums t1372)), (116, .slice s_.1 t1462.length s_.2), (117, .string (strOfNums t1462)), (118, .bool false), (119, .bool false), (120, .slice Ao1376 t1375.length co1376), (122, .agg #[.int .i64 t1360, .int .i64 t1361]), (123, .agg #[.int .i64 t1362, .int .i64 t1363, .int .i64 t1364, .string t1365, .slice Ao1367 t1366.length co1367, .string t1369])]) (fun s_ w' => Aside0 (Kd.R (Kd.int .u8) 5 w' w60.heap.size (iv w60 w') (.slice s_.1 t1462.length s_.2) t1462) ∧ UB w60 w') ?_ ?_
  rotate_left
  ·
   as_aux_lemma =>
    intro hCont
    refine o2 1 4 (some 113) (some 116) (bz 65 15) (bz 65 29) HT_ rfl rfl (kV (Kd.C_string (P := Tryz.prog) Tryz.underlying24 Tryz.underlying5 Tryz.underlying9 (rC HO1374)) ?_) (kC1 Tryz.func64 (spec_SafeBytes.calls (hr1_4 := rC HO1368) (hc1_4 := rL HO1368) (w := _) (h := A44.out)) ?_)
    ·
     skip
     refine o1 4 (some 116) (bz 65 31) HT_ rfl (kC1 Tryz.func64 (spec_SafeBytes.calls (hr1_4 := rC HO1368) (hc1_4 := rL HO1368) (w := _) (h := A44.out)) ?_); intro Ao1463 co1463 w62 _ HO1464
     refine nA (some 116) ?_
     refine o1 5 (some 117) (bz 65 63) HT_ rfl (kV (Kd.C_string (P := Tryz.prog) Tryz.underlying24 Tryz.underlying5 Tryz.underlying9 (rC HO1464)) ?_)
     refine pA 6 (some 118) (bz 65 127) HT_ ?_
     refine pA 7 (some 119) (bz 65 255) HT_ ?_
     refine pA 8 (some 120) (bz 65 511) HT_ ?_
     refine tB 10 (some 122) (bz 65 1535) HT_ HW_ ?_
     refine tB 11 (some 123) (bz 65 3583) HT_ HW_ ?_
     exact hJ (hCont (Ao1463, co1463) _ ⟨⟨rJ HO1464⟩, ⟨UpW.out⟩⟩)
    intro Ao1463 co1463 w61 _ HO1464
    refine nA (some 116) ?_
    refine o2 1 5 (some 113) (some 117) (bz 65 31) (bz 65 61) HT_ rfl rfl (kV (Kd.C_string (P := Tryz.prog) Tryz.underlying24 Tryz.underlying5 Tryz.underlying9 (rC HO1374)) ?_) (kV (Kd.C_string (P := Tryz.prog) Tryz.underlying24 Tryz.underlying5 Tryz.underlying9 (rC HO1464)) ?_)
    ·
     skip
     refine o1 5 (some 117) (bz 65 63) HT_ rfl (kV (Kd.C_string (P := Tryz.prog) Tryz.underlying24 Tryz.underlying5 Tryz.underlying9 (rC HO1464)) ?_)
     refine pA 6 (some 118) (bz 65 127) HT_ ?_
     refine pA 7 (some 119) (bz 65 255) HT_ ?_
     refine pA 8 (some 120) (bz 65 511) HT_ ?_
     refine tB 10 (some 122) (bz 65 1535) HT_ HW_ ?_
     refine tB 11 (some 123) (bz 65 3583) HT_ HW_ ?_
     exact hJ (hCont (Ao1463, co1463) _ ⟨⟨rJ HO1464⟩, ⟨UpW.out⟩⟩)
    skip
    refine o1 1 (some 113) (bz 65 63) HT_ rfl (kV (Kd.C_string (P := Tryz.prog) Tryz.underlying24 Tryz.underlying5 Tryz.underlying9 (rC HO1374)) ?_)
    refine pA 6 (some 118) (bz 65 127) HT_ ?_
    refine pA 7 (some 119) (bz 65 255) HT_ ?_
    refine pA 8 (some 120) (bz 65 511) HT_ ?_
    refine tB 10 (some 122) (bz 65 1535) HT_ HW_ ?_
    refine tB 11 (some 123) (bz 65 3583) HT_ HW_ ?_
    exact hJ (hCont (Ao1463, co1463) _ ⟨⟨rJ HO1464⟩, ⟨UpW.out⟩⟩)
  rintro ⟨Ao1463, co1463⟩ w63 ⟨HO1464, _⟩
  refine nP ?_
  refine join_ (σ := Option Addr × Nat) 41 (bz 65 0xffffff) (fun s_ => [(121, .string (strOfNums t1375)), (124, .slice s_.1 t1465.length s_.2), (125, .string (strOfNums t1465)), (126, .bool false), (127, .bool false), (128, .bool false), (129, .bool t1392), (130, .bool t1402), (131, .bool false), (132, .bool false), (133, .bool false), (134, .agg #[.int .i64 t1384, .int .i64 t1385, .int .i64 t1386, .string t1387, .slice Ao1389 t1388.length co1389, .string t1391]), (135, .agg #[.int .i64 t1394, .int .i64 t1395, .int .i64 t1396, .string t1397, .slice Ao1399 t1398.length co1399, .string t1401])]) (fun s_ w' => Aside0 (Kd.R (Kd.int .u8) 5 w' w63.heap.size (iv w63 w') (.slice s_.1 t1465.length s_.2) t1465) ∧ UB w63 w') ?_ ?_
  rotate_left
  ·
   as_aux_lemma =>
    intro hCont
    refine o2 9 12 (some 121) (some 124) (bz 65 4095) (bz 65 0x1dff) HT_ rfl rfl (kV (Kd.C_string (P := Tryz.prog) Tryz.underlying24 Tryz.underlying5 Tryz.underlying9 (rC HO1377)) ?_) (kC1 Tryz.func65 (spec_NoteBytes.calls (hr1_4 := rC HO1368) (hc1_4 := rL HO1368) (w := _) (h := A46.out)) ?_)
    ·
     skip
     refine o1 12 (some 124) (bz 65 0x1fff) HT_ rfl (kC1 Tryz.func65 (spec_NoteBytes.calls (hr1_4 := rC HO1368) (hc1_4 := rL HO1368) (w := _) (h := A46.out)) ?_); intro Ao1466 co1466 w65 _ HO1467
     refine nA (some 124) ?_
     refine o1 13 (some 125) (bz 65 0x3fff) HT_ rfl (kV (Kd.C_string (P := Tryz.prog) Tryz.underlying24 Tryz.underlying5 Tryz.underlying9 (rC HO1467)) ?_)
     refine pA 14 (some 126) (bz 65 0x7fff) HT_ ?_
     refine pA 15 (some 127) (bz 65 0xffff) HT_ ?_
     refine pA 16 (some 128) (bz 65 0x1ffff) HT_ ?_
     refine pA 17 (some 129) (bz 65 0x3ffff) HT_ ?_
     refine pA 18 (some 130) (bz 65 0x7ffff) HT_ ?_
     refine pA 19 (some 131) (bz 65 0xfffff) HT_ ?_
     refine pA 20 (some 132) (bz 65 0x1fffff) HT_ ?_
     refine pA 21 (some 133) (bz 65 0x3fffff) HT_ ?_
     refine tB 22 (some 134) (bz 65 0x7fffff) HT_ HW_ ?_
     refine tB 23 (some 135) (bz 65 0xffffff) HT_ HW_ ?_
     exact hJ (hCont (Ao1466, co1466) _ ⟨⟨rJ HO1467⟩, ⟨UpW.out⟩⟩)
    intro Ao1466 co1466 w64 _ HO1467
    refine nA (some 124) ?_
    refine o2 9 13 (some 121) (some 125) (bz 65 0x1fff) (bz 65 0x3dff) HT_ rfl rfl (kV (Kd.C_string (P := Tryz.prog) Tryz.underlying24 Tryz.underlying5 Tryz.underlying9 (rC HO1377)) ?_) (kV (Kd.C_string (P := Tryz.prog) Tryz.underlying24 Tryz.underlying5 Tryz.underlying9 (rC HO1467)) ?_)
    ·
     skip
     refine o1 13 (some 125) (bz 65 0x3fff) HT_ rfl (kV (Kd.C_string (P := Tryz.prog) Tryz.underlying24 Tryz.underlying5 Tryz.underlying9 (rC HO1467)) ?_)
     refine pA 14 (some 126) (bz 65 0x7fff) HT_ ?_
     refine pA 15 (some 127) (bz 65 0xffff) HT_ ?_
     refine pA 16 (some 128) (bz 65 0x1ffff) HT_ ?_
     refine pA 17 (some 129) (bz 65 0x3ffff) HT_ ?_
     refine pA 18 (some 130) (bz 65 0x7ffff) HT_ ?_
     refine pA 19 (some 131) (bz 65 0xfffff) HT_ ?_
     refine pA 20 (some 132) (bz 65 0x1fffff) HT_ ?_
     refine pA 21 (some 133) (bz 65 0x3fffff) HT_ ?_
     refine tB 22 (some 134) (bz 65 0x7fffff) HT_ HW_ ?_
     refine tB 23 (some 135) (bz 65 0xffffff) HT_ HW_ ?_
     exact hJ (hCont (Ao1466, co1466) _ ⟨⟨rJ HO1467⟩, ⟨UpW.out⟩⟩)
    skip
    refine o1 9 (some 121) (bz 65 0x3fff) HT_ rfl (kV (Kd.C_string (P := Tryz.prog) Tryz.underlying24 Tryz.underlying5 Tryz.underlying9 (rC HO1377)) ?_)
    refine pA 14 (some 126) (bz 65 0x7fff) HT_ ?_
    refine pA 15 (some 127) (bz 65 0xffff) HT_ ?_
    refine pA 16 (some 128) (bz 65 0x1ffff) HT_ ?_
    refine pA 17 (some 129) (bz 65 0x3ffff) HT_ ?_
    refine pA 18 (some 130) (bz 65 0x7ffff) HT_ ?_
    refine pA 19 (some 131) (bz 65 0xfffff) HT_ ?_
    refine pA 20 (some 132) (bz 65 0x1fffff) HT_ ?_
    refine pA 21 (some 133) (bz 65 0x3fffff) HT_ ?_
    refine tB 22 (some 134) (bz 65 0x7fffff) HT_ HW_ ?_
    refine tB 23 (some 135) (bz 65 0xffffff) HT_ HW_ ?_
    exact hJ (hCont (Ao1466, co1466) _ ⟨⟨rJ HO1467⟩, ⟨UpW.out⟩⟩)
  rintro ⟨Ao1466, co1466⟩ w66 ⟨HO1467, _⟩
  refine nP ?_
  refine o1 24 (some 136) (bz 65 0x1ffffff) HT_ rfl (kC Tryz.func66 (impl_SafeSame.calls (hr0_4 := rC HO1390) (hc0_4 := rL HO1390) (hr1_4 := rC HO1400) (hc1_4 := rL HO1400) (w := _) (h := A49.out)) ?_); intro w67 _
  refine nA (some 136) ?_
  refine pA 25 (some 137) (bz 65 0x3ffffff) HT_ ?_
  refine pA 26 (some 138) (bz 65 0x7ffffff) HT_ ?_
  refine pA 27 (some 139) (bz 65 0xfffffff) HT_ ?_
  refine pA 28 (some 140) (bz 65 0x1fffffff) HT_ ?_
  refine pA 29 (some 141) (bz 65 0x3fffffff) HT_ ?_
  refine pA 30 (some 142) (bz 65 0x7fffffff) HT_ ?_
  refine pA 31 (some 143) (bz 65 0xffffffff) HT_ ?_
  refine pA 32 (some 144) (bz 65 0x1ffffffff) HT_ ?_
  refine tB 33 (some 145) (bz 65 0x3ffffffff) HT_ HW_ ?_
  refine tB 34 (some 146) (bz 65 0x7ffffffff) HT_ HW_ ?_
  refine o1 35 (some 147) (bz 65 0xfffffffff) HT_ rfl (kC Tryz.func66 (impl_SafeSame.calls (hr0_4 := rC HO1416) (hc0_4 := rL HO1416) (hr1_4 := rC HO1426) (hc1_4 := rL HO1426) (w := _) (h := A52.out)) ?_); intro w68 _
  refine nA (some 147) ?_
  refine pA 36 (some 148) (bz 65 0x1fffffffff) HT_ ?_
  refine pA 37 (some 149) (bz 65 0x3fffffffff) HT_ ?_
  refine pA 38 (some 150) (bz 65 0x7fffffffff) HT_ ?_
  refine tB 39 (some 151) (bz 65 0xffffffffff) HT_ HW_ ?_
  refine tB 40 (some 152) (bz 65 0x1ffffffffff) HT_ HW_ ?_
  refine tB 43 (some 155) (bz 65 0x9ffffffffff) HT_ HW_ ?_
  refine tB 44 (some 156) (bz 65 0x19ffffffffff) HT_ HW_ ?_
  refine o1 41 (some 153) (bz 65 0x1bffffffffff) HT_ rfl (kC1 Tryz.func67 (impl_QcBytes.calls (hr1_2 := rC HO1436) (hc1_2 := rL HO1436) (w := _) (h := A54.out)) ?_); intro Ao1471 co1471 w69 _ HO1472
  refine nA (some 153) ?_
  refine join_ (σ := Option Addr × Nat) 3 (bz 65 0x3fffffffffffffff) (fun s_ => [(154, .string (strOfNums t1470)), (157, .slice s_.1 t1473.length s_.2), (158, .string (strOfNums t1473)), (159, .bool false), (160, .bool false), (161, .bool false), (162, .bool t1452), (163, .bool t1460), (164, .bool false), (165, .bool false), (166, .bool false), (167, .int .i64 t1451), (168, .int .i64 t1459), (169, .bool false), (170, .bool false), (171, .bool false), (172, .agg #[.int .i64 t1446, .string t1447, .slice Ao1449 t1448.length co1449]), (173, .agg #[.int .i64 t1454, .string t1455, .slice Ao1457 t1456.length co1457])]) (fun s_ w' => Aside0 (Kd.R (Kd.int .u8) 5 w' w69.heap.size (iv w69 w') (.slice s_.1 t1473.length s_.2) t1473) ∧ UB w69 w') ?_ ?_
  rotate_left
  ·
   as_aux_lemma =>
    intro hCont
    refine o2 42 45 (some 154) (some 157) (bz 65 0x1fffffffffff) (bz 65 0x3bffffffffff) HT_ rfl rfl (kV (Kd.C_string (P := Tryz.prog) Tryz.underlying24 Tryz.underlying5 Tryz.underlying9 (rC HO1472)) ?_) (kC1 Tryz.func68 (spec_QcBytes.calls (hr1_2 := rC HO1436) (hc1_2 := rL HO1436) (w := _) (h := A55.out)) ?_)
    ·
     skip
     refine o1 45 (some 157) (bz 65 0x3fffffffffff) HT_ rfl (kC1 Tryz.func68 (spec_QcBytes.calls (hr1_2 := rC HO1436) (hc1_2 := rL HO1436) (w := _) (h := A55.out)) ?_); intro Ao1474 co1474 w71 _ HO1475
     refine nA (some 157) ?_
     refine o1 46 (some 158) (bz 65 0x7fffffffffff) HT_ rfl (kV (Kd.C_string (P := Tryz.prog) Tryz.underlying24 Tryz.underlying5 Tryz.underlying9 (rC HO1475)) ?_)
     refine pA 47 (some 159) (bz 65 0xffffffffffff) HT_ ?_
     refine pA 48 (some 160) (bz 65 0x1ffffffffffff) HT_ ?_
     refine pA 49 (some 161) (bz 65 0x3ffffffffffff) HT_ ?_
     refine pA 50 (some 162) (bz 65 0x7ffffffffffff) HT_ ?_
     refine pA 51 (some 163) (bz 65 0xfffffffffffff) HT_ ?_
     refine pA 52 (some 164) (bz 65 0x1fffffffffffff) HT_ ?_
     refine pA 53 (some 165) (bz 65 0x3fffffffffffff) HT_ ?_
     refine pA 54 (some 166) (bz 65 0x7fffffffffffff) HT_ ?_
     refine pA 55 (some 167) (bz 65 0xffffffffffffff) HT_ ?_
     refine pA 56 (some 168) (bz 65 0x1ffffffffffffff) HT_ ?_
     refine pA 57 (some 169) (bz 65 0x3ffffffffffffff) HT_ ?_
     refine pA 58 (some 170) (bz 65 0x7ffffffffffffff) HT_ ?_
     refine pA 59 (some 171) (bz 65 0xfffffffffffffff) HT_ ?_
     refine tB 60 (some 172) (bz 65 0x1fffffffffffffff) HT_ HW_ ?_
     refine tB 61 (some 173) (bz 65 0x3fffffffffffffff) HT_ HW_ ?_
     exact hJ (hCont (Ao1474, co1474) _ ⟨⟨rJ HO1475⟩, ⟨UpW.out⟩⟩)
    intro Ao1474 co1474 w70 _ HO1475
    refine nA (some 157) ?_
    refine o2 42 46 (some 154) (some 158) (bz 65 0x3fffffffffff) (bz 65 0x7bffffffffff) HT_ rfl rfl (kV (Kd.C_string (P := Tryz.prog) Tryz.underlying24 Tryz.underlying5 Tryz.underlying9 (rC HO1472)) ?_) (kV (Kd.C_string (P := Tryz.prog) Tryz.underlying24 Tryz.underlying5 Tryz.underlying9 (rC HO1475)) ?_)
    ·
     skip
     refine o1 46 (some 158) (bz 65 0x7fffffffffff) HT_ rfl (kV (Kd.C_string (P := Tryz.prog) Tryz.underlying24 Tryz.underlying5 Tryz.underlying9 (rC HO1475)) ?_)
     refine pA 47 (some 159) (bz 65 0xffffffffffff) HT_ ?_
     refine pA 48 (some 160) (bz 65 0x1ffffffffffff) HT_ ?_
     refine pA 49 (some 161) (bz 65 0x3ffffffffffff) HT_ ?_
     refine pA 50 (some 162) (bz 65 0x7ffffffffffff) HT_ ?_
     refine pA 51 (some 163) (bz 65 0xfffffffffffff) HT_ ?_
     refine pA 52 (some 164) (bz 65 0x1fffffffffffff) HT_ ?_
     refine pA 53 (some 165) (bz 65 0x3fffffffffffff) HT_ ?_
     refine pA 54 (some 166) (bz 65 0x7fffffffffffff) HT_ ?_
     refine pA 55 (some 167) (bz 65 0xffffffffffffff) HT_ ?_
     refine pA 56 (some 168) (bz 65 0x1ffffffffffffff) HT_ ?_
     refine pA 57 (some 169) (bz 65 0x3ffffffffffffff) HT_ ?_
     refine pA 58 (some 170) (bz 65 0x7ffffffffffffff) HT_ ?_
     refine pA 59 (some 171) (bz 65 0xfffffffffffffff) HT_ ?_
     refine tB 60 (some 172) (bz 65 0x1fffffffffffffff) HT_ HW_ ?_
     refine tB 61 (some 173) (bz 65 0x3fffffffffffffff) HT_ HW_ ?_
     exact hJ (hCont (Ao1474, co1474) _ ⟨⟨rJ HO1475⟩, ⟨UpW.out⟩⟩)
    skip
    refine o1 42 (some 154) (bz 65 0x7fffffffffff) HT_ rfl (kV (Kd.C_string (P := Tryz.prog) Tryz.underlying24 Tryz.underlying5 Tryz.underlying9 (rC HO1472)) ?_)
    refine pA 47 (some 159) (bz 65 0xffffffffffff) HT_ ?_
    refine pA 48 (some 160) (bz 65 0x1ffffffffffff) HT_ ?_
    refine pA 49 (some 161) (bz 65 0x3ffffffffffff) HT_ ?_
    refine pA 50 (some 162) (bz 65 0x7ffffffffffff) HT_ ?_
    refine pA 51 (some 163) (bz 65 0xfffffffffffff) HT_ ?_
    refine pA 52 (some 164) (bz 65 0x1fffffffffffff) HT_ ?_
    refine pA 53 (some 165) (bz 65 0x3fffffffffffff) HT_ ?_
    refine pA 54 (some 166) (bz 65 0x7fffffffffffff) HT_ ?_
    refine pA 55 (some 167) (bz 65 0xffffffffffffff) HT_ ?_
    refine pA 56 (some 168) (bz 65 0x1ffffffffffffff) HT_ ?_
    refine pA 57 (some 169) (bz 65 0x3ffffffffffffff) HT_ ?_
    refine pA 58 (some 170) (bz 65 0x7ffffffffffffff) HT_ ?_
    refine pA 59 (some 171) (bz 65 0xfffffffffffffff) HT_ ?_
    refine tB 60 (some 172) (bz 65 0x1fffffffffffffff) HT_ HW_ ?_
    refine tB 61 (some 173) (bz 65 0x3fffffffffffffff) HT_ HW_ ?_
    exact hJ (hCont (Ao1474, co1474) _ ⟨⟨rJ HO1475⟩, ⟨UpW.out⟩⟩)
  rintro ⟨Ao1474, co1474⟩ w72 ⟨HO1475, _⟩
  refine nP ?_
  refine o1 62 (some 174) (bz 65 0x7fffffffffffffff) HT_ rfl (kC Tryz.func41 (impl_QcSame.calls (hr0_2 := rC HO1450) (hc0_2 := rL HO1450) (hr1_2 := rC HO1458) (hc1_2 := rL HO1458) (w := _) (h := A59.out)) ?_); intro w73 _
  refine nA (some 174) ?_
  refine pA 63 (some 175) (bz 65 0xffffffffffffffff) HT_ ?_
  refine pA 64 (some 176) (bz 65 0x1ffffffffffffffff) HT_ ?_
  refine done_ (done_of HT_.out (by kernel_rfl)) ?_
  go_upto_if 176 with fail
  have H := H'.out; clear H'
  by_cases c74 : t1476 = true
  rotate_left
  ·
   replace c74 := Bool.eq_false_iff.mpr c74; subst c74
   rw [if_neg Bool.false_ne_true] at H
   exact absurd (hrt.out.symm.trans (Option.some.inj H).symm) (by decide)
  subst c74
  rw [if_pos rfl] at H
  obtain ⟨t9000, A9000, H⟩ := oB H; (try dsimp only at H)
  by_cases c9000 : t9000 = true
  ·
   subst c9000
   rw [if_pos rfl] at H
   exact absurd (hrt.out.symm.trans (Option.some.inj H).symm) (by decide)
  replace c9000 := Bool.eq_false_iff.mpr c9000; subst c9000
  rw [if_neg Bool.false_ne_true] at H
  have HH := Aside0.mk H; clear H
  go_upto_region 18 with fail
  go_cut [201] from 112 to 201 (fun s w' => s = .bool false ∧ UB w73 w')
  case first =>
   have H := A9000.out; unfold laws_FnNotes.cd at H; clear A9000
   by_cases c75 : t1392 = true
   ·
    subst c75
    rw [if_pos rfl] at H
    obtain ⟨t1477, A76, H⟩ := oB H; (try dsimp only at H)
    by_cases c77 : (strOfNums t1477).toList = (strOfNums t1380).toList
    rotate_left
    ·
     rw [if_neg c77] at H
     have c77b0 : ((strOfNums t1477).toList == (strOfNums t1380).toList) = false := beq_eq_false_iff_ne.mpr c77; have c77b1 : ((strOfNums t1477).toList != (strOfNums t1380).toList) = true := bne_iff_ne.mpr c77
     (first | rw [c77b0] | (simp only [i64_w, i32_w]; rw [c77b0]) | skip)
     exact absurd (Option.some.inj H) (by decide)
    rw [if_pos c77] at H
    have c77b0 : ((strOfNums t1477).toList == (strOfNums t1380).toList) = true := beq_iff_eq.mpr c77; have c77b1 : ((strOfNums t1477).toList != (strOfNums t1380).toList) = false := bne_eq_false_iff_eq.mpr c77; clear c77
    (first | rw [c77b0] | (simp only [i64_w, i32_w]; rw [c77b0]) | skip)
    by_cases c78 : t1452 = true
    ·
     subst c78
     rw [if_pos rfl] at H
     obtain ⟨t1480, A79, H⟩ := oB H; (try dsimp only at H)
     by_cases c80 : 0 ≤ t1444
     rotate_left
     ·
      rw [if_neg c80] at H
      exact absurd H (by simp)
     rw [if_pos c80] at H
     have c80b0 := eq_true c80; have c80b1 : decide (0 ≤ t1444) = true := decide_eq_true c80; clear c80
     by_cases c81 : t1444 ≤ t1451
     rotate_left
     ·
      rw [if_neg c81] at H
      exact absurd H (by simp)
     rw [if_pos c81] at H
     have c81b0 := eq_true c81; have c81b1 : decide (t1444 ≤ t1451) = true := decide_eq_true c81; clear c81
     by_cases c82 : t1451 ≤ (t1441.length : Int)
     rotate_left
     ·
      rw [if_neg c82] at H
      exact absurd H (by simp)
     rw [if_pos c82] at H
     have c82b0 := eq_true c82; have c82b1 : decide (t1451 ≤ (t1441.length : Int)) = true := decide_eq_true c82; clear c82; obtain ⟨y1483, hy1483⟩ : ∃ y_ : List Int, y_ = ((t1441.take (t1451 : Int).toNat).drop (t1444 : Int).toNat) := ⟨_, rfl⟩
     replace H : (if (strOfNums t1480).toList = (strOfNums y1483).toList then (some false) else (some true)) = some false := by first | (rw [hy1483]; with_reducible exact H) | (rw [hy1483]; with_reducible exact (Option.bind_some _ _).symm.trans H) | (rw [hy1483]; exact H) | exact H
     have Ny1483 := Aside0.mk hy1483; clear hy1483; have H' := Aside0.mk H; clear H
     try go_wp2
     have q83 : (t1451 : Int) ≤ (t1441.length : Int) := of_decide_eq_true y0_7; have ql83 : (t1444 : Int) ≤ (t1451 : Int) := of_decide_eq_true y0_7; have q083 : 0 ≤ (t1444 : Int) := of_decide_eq_true y0_7; obtain ⟨i083, hi083, _, hsz83, _⟩ := info_parts info5; obtain ⟨A83, hcut83, hr83, _⟩ := print_mid_of (P := Tryz.prog) (Value.int .u8) 0 24 5 .i64 .i64 Tryz.underlying24 hi083 hsz83 Ao1442 co1442 t1441 (t1444 : Int) t1451 q083 ql83 q83 (rL HO1443)
     rw [← Ny1483.out] at hcut83 hr83
     have HR1486 : ∀ W_ : World, (Kd.int .u8).C W_ Ao1442 t1441.length t1441 → (Kd.int .u8).C W_ A83 y1483.length y1483 := fun W_ h_ => Kd.C_of_reads (h1 := fun _ => rfl) (hr83 W_ (Kd.reads_of_C h_))
     clear hi083 hsz83 hr83; replace q83 := eq_true q83; replace ql83 := eq_true ql83; replace q083 := eq_true q083
     refine sB [] laws_FnNotes.tab18 laws_FnNotes.bits18 ?_; intro w84 _ HT_ HW_
     refine pA 0 (some 177) (bz 25 1) HT_ ?_
     refine pA 1 (some 178) (bz 25 3) HT_ ?_
     refine tB 2 (some 179) (bz 25 7) HT_ HW_ ?_
     refine tB 3 (some 180) (bz 25 15) HT_ HW_ ?_
     refine pA 6 (some 183) (bz 25 79) HT_ ?_
     refine join_ (σ := Option Addr × Nat) 6 (bz 25 0x1e7fff) (fun s_ => [(181, .slice s_.1 t1477.length s_.2), (182, .string (strOfNums t1477)), (184, .string (strOfNums t1380)), (185, .bool false), (186, .bool false), (187, .bool false), (188, .bool true), (189, .bool true), (190, .agg #[.int .i64 t1439, .int .i64 t1440]), (191, .agg #[.int .i64 t1446, .string t1447, .slice Ao1449 t1448.length co1449]), (194, .slice Ao1442 t1441.length co1442), (195, .int .i64 t1444), (196, .int .i64 t1451), (197, .slice A83 y1483.length (co1442 - (t1444 : Int).toNat))]) (fun s_ w' => Aside0 (Kd.R (Kd.int .u8) 5 w' w84.heap.size (iv w84 w') (.slice s_.1 t1477.length s_.2) t1477) ∧ UB w84 w') ?_ ?_
     rotate_left
     ·
      as_aux_lemma =>
       intro hCont
       refine o2 4 7 (some 181) (some 184) (bz 25 95) (bz 25 207) HT_ rfl rfl (kC1 Tryz.func54 (impl_SafeBytes.calls (hr1_4 := rC HO1390) (hc1_4 := rL HO1390) (w := _) (h := A76.out)) ?_) (kV (Kd.C_string (P := Tryz.prog) Tryz.underlying24 Tryz.underlying5 Tryz.underlying9 (rC HO1382)) ?_)
       ·
        intro Ao1478 co1478 w85 _ HO1479
        refine nA (some 181) ?_
        refine o2 5 7 (some 182) (some 184) (bz 25 127) (bz 25 223) HT_ rfl rfl (kV (Kd.C_string (P := Tryz.prog) Tryz.underlying24 Tryz.underlying5 Tryz.underlying9 (rC HO1479)) ?_) (kV (Kd.C_string (P := Tryz.prog) Tryz.underlying24 Tryz.underlying5 Tryz.underlying9 (rC HO1382)) ?_)
        ·
         skip
         refine o1 7 (some 184) (bz 25 255) HT_ rfl (kV (Kd.C_string (P := Tryz.prog) Tryz.underlying24 Tryz.underlying5 Tryz.underlying9 (rC HO1382)) ?_)
         refine pA 8 (some 185) (bz 25 511) HT_ ?_
         refine pA 9 (some 186) (bz 25 1023) HT_ ?_
         refine pA 10 (some 187) (bz 25 2047) HT_ ?_
         refine pA 11 (some 188) (bz 25 4095) HT_ ?_
         refine pA 12 (some 189) (bz 25 0x1fff) HT_ ?_
         refine tB 13 (some 190) (bz 25 0x3fff) HT_ HW_ ?_
         refine tB 14 (some 191) (bz 25 0x7fff) HT_ HW_ ?_
         refine pA 17 (some 194) (bz 25 0x27fff) HT_ ?_
         refine pA 18 (some 195) (bz 25 0x67fff) HT_ ?_
         refine pA 19 (some 196) (bz 25 0xe7fff) HT_ ?_
         refine pA 20 (some 197) (bz 25 0x1e7fff) HT_ ?_
         exact hJ (hCont (Ao1478, co1478) _ ⟨⟨rJ HO1479⟩, ⟨UpW.out⟩⟩)
        skip
        refine o1 5 (some 182) (bz 25 255) HT_ rfl (kV (Kd.C_string (P := Tryz.prog) Tryz.underlying24 Tryz.underlying5 Tryz.underlying9 (rC HO1479)) ?_)
        refine pA 8 (some 185) (bz 25 511) HT_ ?_
        refine pA 9 (some 186) (bz 25 1023) HT_ ?_
        refine pA 10 (some 187) (bz 25 2047) HT_ ?_
        refine pA 11 (some 188) (bz 25 4095) HT_ ?_
        refine pA 12 (some 189) (bz 25 0x1fff) HT_ ?_
        refine tB 13 (some 190) (bz 25 0x3fff) HT_ HW_ ?_
        refine tB 14 (some 191) (bz 25 0x7fff) HT_ HW_ ?_
        refine pA 17 (some 194) (bz 25 0x27fff) HT_ ?_
        refine pA 18 (some 195) (bz 25 0x67fff) HT_ ?_
        refine pA 19 (some 196) (bz 25 0xe7fff) HT_ ?_
        refine pA 20 (some 197) (bz 25 0x1e7fff) HT_ ?_
        exact hJ (hCont (Ao1478, co1478) _ ⟨⟨rJ HO1479⟩, ⟨UpW.out⟩⟩)
       skip
       refine o1 4 (some 181) (bz 25 223) HT_ rfl (kC1 Tryz.func54 (impl_SafeBytes.calls (hr1_4 := rC HO1390) (hc1_4 := rL HO1390) (w := _) (h := A76.out)) ?_); intro Ao1478 co1478 w86 _ HO1479
       refine nA (some 181) ?_
       refine o1 5 (some 182) (bz 25 255) HT_ rfl (kV (Kd.C_string (P := Tryz.prog) Tryz.underlying24 Tryz.underlying5 Tryz.underlying9 (rC HO1479)) ?_)
       refine pA 8 (some 185) (bz 25 511) HT_ ?_
       refine pA 9 (some 186) (bz 25 1023) HT_ ?_
       refine pA 10 (some 187) (bz 25 2047) HT_ ?_
       refine pA 11 (some 188) (bz 25 4095) HT_ ?_
       refine pA 12 (some 189) (bz 25 0x1fff) HT_ ?_
       refine tB 13 (some 190) (bz 25 0x3fff) HT_ HW_ ?_
       refine tB 14 (some 191) (bz 25 0x7fff) HT_ HW_ ?_
       refine pA 17 (some 194) (bz 25 0x27fff) HT_ ?_
       refine pA 18 (some 195) (bz 25 0x67fff) HT_ ?_
       refine pA 19 (some 196) (bz 25 0xe7fff) HT_ ?_
       refine pA 20 (some 197) (bz 25 0x1e7fff) HT_ ?_
       exact hJ (hCont (Ao1478, co1478) _ ⟨⟨rJ HO1479⟩, ⟨UpW.out⟩⟩)
     rintro ⟨Ao1478, co1478⟩ w87 ⟨HO1479, _⟩
     refine nP ?_
     refine join_ (σ := Option Addr × Nat) 0 (bz 25 0x1ffffff) (fun s_ => [(192, .slice s_.1 t1480.length s_.2), (193, .string (strOfNums t1480)), (198, .string (strOfNums y1483)), (199, .bool ((strOfNums t1480).toList != (strOfNums y1483).toList)), (200, .bool ((strOfNums t1480).toList != (strOfNums y1483).toList)), (201, .bool ((strOfNums t1480).toList != (strOfNums y1483).toList))]) (fun s_ w' => Aside0 (Kd.R (Kd.int .u8) 5 w' w87.heap.size (iv w87 w') (.slice s_.1 t1480.length s_.2) t1480) ∧ UB w87 w') ?_ ?_
     rotate_left
     ·
      as_aux_lemma =>
       intro hCont
       refine o2 15 21 (some 192) (some 198) (bz 25 0x1effff) (bz 25 0x3e7fff) HT_ rfl rfl (kC1 Tryz.func67 (impl_QcBytes.calls (hr1_2 := rC HO1450) (hc1_2 := rL HO1450) (w := _) (h := A79.out)) ?_) (kV (Kd.C_string (P := Tryz.prog) Tryz.underlying24 Tryz.underlying5 Tryz.underlying9 (HR1486 _ (rC HO1443))) ?_)
       ·
        intro Ao1481 co1481 w88 _ HO1482
        refine nA (some 192) ?_
        refine o2 16 21 (some 193) (some 198) (bz 25 0x1fffff) (bz 25 0x3effff) HT_ rfl rfl (kV (Kd.C_string (P := Tryz.prog) Tryz.underlying24 Tryz.underlying5 Tryz.underlying9 (rC HO1482)) ?_) (kV (Kd.C_string (P := Tryz.prog) Tryz.underlying24 Tryz.underlying5 Tryz.underlying9 (HR1486 _ (rC HO1443))) ?_)
        ·
         skip
         refine o1 21 (some 198) (bz 25 0x3fffff) HT_ rfl (kV (Kd.C_string (P := Tryz.prog) Tryz.underlying24 Tryz.underlying5 Tryz.underlying9 (HR1486 _ (rC HO1443))) ?_)
         refine pA 22 (some 199) (bz 25 0x7fffff) HT_ ?_
         refine pA 23 (some 200) (bz 25 0xffffff) HT_ ?_
         refine pA 24 (some 201) (bz 25 0x1ffffff) HT_ ?_
         exact hJ (hCont (Ao1481, co1481) _ ⟨⟨rJ HO1482⟩, ⟨UpW.out⟩⟩)
        skip
        refine o1 16 (some 193) (bz 25 0x3fffff) HT_ rfl (kV (Kd.C_string (P := Tryz.prog) Tryz.underlying24 Tryz.underlying5 Tryz.underlying9 (rC HO1482)) ?_)
        refine pA 22 (some 199) (bz 25 0x7fffff) HT_ ?_
        refine pA 23 (some 200) (bz 25 0xffffff) HT_ ?_
        refine pA 24 (some 201) (bz 25 0x1ffffff) HT_ ?_
        exact hJ (hCont (Ao1481, co1481) _ ⟨⟨rJ HO1482⟩, ⟨UpW.out⟩⟩)
       skip
       refine o1 15 (some 192) (bz 25 0x3effff) HT_ rfl (kC1 Tryz.func67 (impl_QcBytes.calls (hr1_2 := rC HO1450) (hc1_2 := rL HO1450) (w := _) (h := A79.out)) ?_); intro Ao1481 co1481 w89 _ HO1482
       refine nA (some 192) ?_
       refine o1 16 (some 193) (bz 25 0x3fffff) HT_ rfl (kV (Kd.C_string (P := Tryz.prog) Tryz.underlying24 Tryz.underlying5 Tryz.underlying9 (rC HO1482)) ?_)
       refine pA 22 (some 199) (bz 25 0x7fffff) HT_ ?_
       refine pA 23 (some 200) (bz 25 0xffffff) HT_ ?_
       refine pA 24 (some 201) (bz 25 0x1ffffff) HT_ ?_
       exact hJ (hCont (Ao1481, co1481) _ ⟨⟨rJ HO1482⟩, ⟨UpW.out⟩⟩)
     rintro ⟨Ao1481, co1481⟩ w90 ⟨HO1482, _⟩
     refine nP ?_
     refine done_ (done_of HT_.out (by kernel_rfl)) ?_
     have H := H'.out; clear H'
     by_cases c91 : (strOfNums t1480).toList = (strOfNums y1483).toList
     rotate_left
     ·
      rw [if_neg c91] at H
      exact absurd (Option.some.inj H) (by decide)
     have c91b1 : ((strOfNums t1480).toList != (strOfNums y1483).toList) = false := bne_eq_false_iff_eq.mpr c91
     go_wp2
     go_meet
     case rel => exact ⟨rfl, ⟨UpW.out⟩⟩
    replace c78 := Bool.eq_false_iff.mpr c78; subst c78
    rw [if_neg Bool.false_ne_true] at H
    have H' := Aside0.mk H; clear H
    try go_wp2
    refine sB [] laws_FnNotes.tab18 laws_FnNotes.bits18 ?_; intro w141 _ HT_ HW_
    refine pA 0 (some 177) (bz 25 1) HT_ ?_
    refine pA 1 (some 178) (bz 25 3) HT_ ?_
    refine tB 2 (some 179) (bz 25 7) HT_ HW_ ?_
    refine tB 3 (some 180) (bz 25 15) HT_ HW_ ?_
    refine pA 6 (some 183) (bz 25 79) HT_ ?_
    refine join_ (σ := Option Addr × Nat) 0 (bz 25 0x1ffffff) (fun s_ => [(181, .slice s_.1 t1477.length s_.2), (182, .string (strOfNums t1477)), (184, .string (strOfNums t1380)), (185, .bool false), (186, .bool false), (187, .bool false), (188, .bool false), (189, .bool false), (190, undef), (191, undef), (192, undef), (193, undef), (194, undef), (195, undef), (196, undef), (197, undef), (198, undef), (199, undef), (200, .bool false), (201, .bool false)]) (fun s_ w' => Aside0 (Kd.R (Kd.int .u8) 5 w' w141.heap.size (iv w141 w') (.slice s_.1 t1477.length s_.2) t1477) ∧ UB w141 w') ?_ ?_
    rotate_left
    ·
     as_aux_lemma =>
      intro hCont
      refine o2 4 7 (some 181) (some 184) (bz 25 95) (bz 25 207) HT_ rfl rfl (kC1 Tryz.func54 (impl_SafeBytes.calls (hr1_4 := rC HO1390) (hc1_4 := rL HO1390) (w := _) (h := A76.out)) ?_) (kV (Kd.C_string (P := Tryz.prog) Tryz.underlying24 Tryz.underlying5 Tryz.underlying9 (rC HO1382)) ?_)
      ·
       intro Ao1478 co1478 w142 _ HO1479
       refine nA (some 181) ?_
       refine o2 5 7 (some 182) (some 184) (bz 25 127) (bz 25 223) HT_ rfl rfl (kV (Kd.C_string (P := Tryz.prog) Tryz.underlying24 Tryz.underlying5 Tryz.underlying9 (rC HO1479)) ?_) (kV (Kd.C_string (P := Tryz.prog) Tryz.underlying24 Tryz.underlying5 Tryz.underlying9 (rC HO1382)) ?_)
       ·
        skip
        refine o1 7 (some 184) (bz 25 255) HT_ rfl (kV (Kd.C_string (P := Tryz.prog) Tryz.underlying24 Tryz.underlying5 Tryz.underlying9 (rC HO1382)) ?_)
        refine pA 8 (some 185) (bz 25 511) HT_ ?_
        refine pA 9 (some 186) (bz 25 1023) HT_ ?_
        refine pA 10 (some 187) (bz 25 2047) HT_ ?_
        refine pA 11 (some 188) (bz 25 4095) HT_ ?_
        refine pA 12 (some 189) (bz 25 0x1fff) HT_ ?_
        refine pU 13 (some 190) (bz 25 0x3fff) HT_ ?_
        refine pU 14 (some 191) (bz 25 0x7fff) HT_ ?_
        refine pU 15 (some 192) (bz 25 0xffff) HT_ ?_
        refine pU 16 (some 193) (bz 25 0x1ffff) HT_ ?_
        refine pU 17 (some 194) (bz 25 0x3ffff) HT_ ?_
        refine pU 18 (some 195) (bz 25 0x7ffff) HT_ ?_
        refine pU 19 (some 196) (bz 25 0xfffff) HT_ ?_
        refine pU 20 (some 197) (bz 25 0x1fffff) HT_ ?_
        refine pU 21 (some 198) (bz 25 0x3fffff) HT_ ?_
        refine pU 22 (some 199) (bz 25 0x7fffff) HT_ ?_
        refine pA 23 (some 200) (bz 25 0xffffff) HT_ ?_
        refine pA 24 (some 201) (bz 25 0x1ffffff) HT_ ?_
        exact hJ (hCont (Ao1478, co1478) _ ⟨⟨rJ HO1479⟩, ⟨UpW.out⟩⟩)
       skip
       refine o1 5 (some 182) (bz 25 255) HT_ rfl (kV (Kd.C_string (P := Tryz.prog) Tryz.underlying24 Tryz.underlying5 Tryz.underlying9 (rC HO1479)) ?_)
       refine pA 8 (some 185) (bz 25 511) HT_ ?_
       refine pA 9 (some 186) (bz 25 1023) HT_ ?_
       refine pA 10 (some 187) (bz 25 2047) HT_ ?_
       refine pA 11 (some 188) (bz 25 4095) HT_ ?_
       refine pA 12 (some 189) (bz 25 0x1fff) HT_ ?_
       refine pU 13 (some 190) (bz 25 0x3fff) HT_ ?_
       refine pU 14 (some 191) (bz 25 0x7fff) HT_ ?_
       refine pU 15 (some 192) (bz 25 0xffff) HT_ ?_
       refine pU 16 (some 193) (bz 25 0x1ffff) HT_ ?_
       refine pU 17 (some 194) (bz 25 0x3ffff) HT_ ?_
       refine pU 18 (some 195) (bz 25 0x7ffff) HT_ ?_
       refine pU 19 (some 196) (bz 25 0xfffff) HT_ ?_
       refine pU 20 (some 197) (bz 25 0x1fffff) HT_ ?_
       refine pU 21 (some 198) (bz 25 0x3fffff) HT_ ?_
       refine pU 22 (some 199) (bz 25 0x7fffff) HT_ ?_
       refine pA 23 (some 200) (bz 25 0xffffff) HT_ ?_
       refine pA 24 (some 201) (bz 25 0x1ffffff) HT_ ?_
       exact hJ (hCont (Ao1478, co1478) _ ⟨⟨rJ HO1479⟩, ⟨UpW.out⟩⟩)
      skip
      refine o1 4 (some 181) (bz 25 223) HT_ rfl (kC1 Tryz.func54 (impl_SafeBytes.calls (hr1_4 := rC HO1390) (hc1_4 := rL HO1390) (w := _) (h := A76.out)) ?_); intro Ao1478 co1478 w143 _ HO1479
      refine nA (some 181) ?_
      refine o1 5 (some 182) (bz 25 255) HT_ rfl (kV (Kd.C_string (P := Tryz.prog) Tryz.underlying24 Tryz.underlying5 Tryz.underlying9 (rC HO1479)) ?_)
      refine pA 8 (some 185) (bz 25 511) HT_ ?_
      refine pA 9 (some 186) (bz 25 1023) HT_ ?_
      refine pA 10 (some 187) (bz 25 2047) HT_ ?_
      refine pA 11 (some 188) (bz 25 4095) HT_ ?_
      refine pA 12 (some 189) (bz 25 0x1fff) HT_ ?_
      refine pU 13 (some 190) (bz 25 0x3fff) HT_ ?_
      refine pU 14 (some 191) (bz 25 0x7fff) HT_ ?_
      refine pU 15 (some 192) (bz 25 0xffff) HT_ ?_
      refine pU 16 (some 193) (bz 25 0x1ffff) HT_ ?_
      refine pU 17 (some 194) (bz 25 0x3ffff) HT_ ?_
      refine pU 18 (some 195) (bz 25 0x7ffff) HT_ ?_
      refine pU 19 (some 196) (bz 25 0xfffff) HT_ ?_
      refine pU 20 (some 197) (bz 25 0x1fffff) HT_ ?_
      refine pU 21 (some 198) (bz 25 0x3fffff) HT_ ?_
      refine pU 22 (some 199) (bz 25 0x7fffff) HT_ ?_
      refine pA 23 (some 200) (bz 25 0xffffff) HT_ ?_
      refine pA 24 (some 201) (bz 25 0x1ffffff) HT_ ?_
      exact hJ (hCont (Ao1478, co1478) _ ⟨⟨rJ HO1479⟩, ⟨UpW.out⟩⟩)
    rintro ⟨Ao1478, co1478⟩ w144 ⟨HO1479, _⟩
    refine nP ?_
    refine done_ (done_of HT_.out (by kernel_rfl)) ?_
    have H := H'.out; clear H'
    go_wp2
    go_meet
    case rel => exact ⟨rfl, ⟨UpW.out⟩⟩
   replace c75 := Bool.eq_false_iff.mpr c75; subst c75
   rw [if_neg Bool.false_ne_true] at H
   by_cases c194 : t1452 = true
   ·
    subst c194
    rw [if_pos rfl] at H
    obtain ⟨t1609, A195, H⟩ := oB H; (try dsimp only at H)
    by_cases c196 : 0 ≤ t1444
    rotate_left
    ·
     rw [if_neg c196] at H
     exact absurd H (by simp)
    rw [if_pos c196] at H
    have c196b0 := eq_true c196; have c196b1 : decide (0 ≤ t1444) = true := decide_eq_true c196; clear c196
    by_cases c197 : t1444 ≤ t1451
    rotate_left
    ·
     rw [if_neg c197] at H
     exact absurd H (by simp)
    rw [if_pos c197] at H
    have c197b0 := eq_true c197; have c197b1 : decide (t1444 ≤ t1451) = true := decide_eq_true c197; clear c197
    by_cases c198 : t1451 ≤ (t1441.length : Int)
    rotate_left
    ·
     rw [if_neg c198] at H
     exact absurd H (by simp)
    rw [if_pos c198] at H
    have c198b0 := eq_true c198; have c198b1 : decide (t1451 ≤ (t1441.length : Int)) = true := decide_eq_true c198; clear c198; obtain ⟨y1612, hy1612⟩ : ∃ y_ : List Int, y_ = ((t1441.take (t1451 : Int).toNat).drop (t1444 : Int).toNat) := ⟨_, rfl⟩
    replace H : (if (strOfNums t1609).toList = (strOfNums y1612).toList then (some false) else (some true)) = some false := by first | (rw [hy1612]; with_reducible exact H) | (rw [hy1612]; with_reducible exact (Option.bind_some _ _).symm.trans H) | (rw [hy1612]; exact H) | exact H
    have Ny1612 := Aside0.mk hy1612; clear hy1612; have H' := Aside0.mk H; clear H
    try go_wp2
    have q199 : (t1451 : Int) ≤ (t1441.length : Int) := of_decide_eq_true y0_7; have ql199 : (t1444 : Int) ≤ (t1451 : Int) := of_decide_eq_true y0_7; have q0199 : 0 ≤ (t1444 : Int) := of_decide_eq_true y0_7; obtain ⟨i0199, hi0199, _, hsz199, _⟩ := info_parts info5; obtain ⟨A199, hcut199, hr199, _⟩ := print_mid_of (P := Tryz.prog) (Value.int .u8) 0 24 5 .i64 .i64 Tryz.underlying24 hi0199 hsz199 Ao1442 co1442 t1441 (t1444 : Int) t1451 q0199 ql199 q199 (rL HO1443)
    rw [← Ny1612.out] at hcut199 hr199
    have HR1615 : ∀ W_ : World, (Kd.int .u8).C W_ Ao1442 t1441.length t1441 → (Kd.int .u8).C W_ A199 y1612.length y1612 := fun W_ h_ => Kd.C_of_reads (h1 := fun _ => rfl) (hr199 W_ (Kd.reads_of_C h_))
    clear hi0199 hsz199 hr199; replace q199 := eq_true q199; replace ql199 := eq_true ql199; replace q0199 := eq_true q0199
    refine sB [] laws_FnNotes.tab18 laws_FnNotes.bits18 ?_; intro w200 _ HT_ HW_
    refine pA 0 (some 177) (bz 25 1) HT_ ?_
    refine pA 1 (some 178) (bz 25 3) HT_ ?_
    refine pU 2 (some 179) (bz 25 7) HT_ ?_
    refine pU 3 (some 180) (bz 25 15) HT_ ?_
    refine pU 4 (some 181) (bz 25 31) HT_ ?_
    refine pU 5 (some 182) (bz 25 63) HT_ ?_
    refine pU 6 (some 183) (bz 25 127) HT_ ?_
    refine pU 7 (some 184) (bz 25 255) HT_ ?_
    refine pU 8 (some 185) (bz 25 511) HT_ ?_
    refine pA 9 (some 186) (bz 25 1023) HT_ ?_
    refine pA 10 (some 187) (bz 25 2047) HT_ ?_
    refine pA 11 (some 188) (bz 25 4095) HT_ ?_
    refine pA 12 (some 189) (bz 25 0x1fff) HT_ ?_
    refine tB 13 (some 190) (bz 25 0x3fff) HT_ HW_ ?_
    refine tB 14 (some 191) (bz 25 0x7fff) HT_ HW_ ?_
    refine pA 17 (some 194) (bz 25 0x27fff) HT_ ?_
    refine pA 18 (some 195) (bz 25 0x67fff) HT_ ?_
    refine pA 19 (some 196) (bz 25 0xe7fff) HT_ ?_
    refine pA 20 (some 197) (bz 25 0x1e7fff) HT_ ?_
    refine join_ (σ := Option Addr × Nat) 0 (bz 25 0x1ffffff) (fun s_ => [(192, .slice s_.1 t1609.length s_.2), (193, .string (strOfNums t1609)), (198, .string (strOfNums y1612)), (199, .bool ((strOfNums t1609).toList != (strOfNums y1612).toList)), (200, .bool ((strOfNums t1609).toList != (strOfNums y1612).toList)), (201, .bool ((strOfNums t1609).toList != (strOfNums y1612).toList))]) (fun s_ w' => Aside0 (Kd.R (Kd.int .u8) 5 w' w200.heap.size (iv w200 w') (.slice s_.1 t1609.length s_.2) t1609) ∧ UB w200 w') ?_ ?_
    rotate_left
    ·
     as_aux_lemma =>
      intro hCont
      refine o2 15 21 (some 192) (some 198) (bz 25 0x1effff) (bz 25 0x3e7fff) HT_ rfl rfl (kC1 Tryz.func67 (impl_QcBytes.calls (hr1_2 := rC HO1450) (hc1_2 := rL HO1450) (w := _) (h := A195.out)) ?_) (kV (Kd.C_string (P := Tryz.prog) Tryz.underlying24 Tryz.underlying5 Tryz.underlying9 (HR1615 _ (rC HO1443))) ?_)
      ·
       intro Ao1610 co1610 w201 _ HO1611
       refine nA (some 192) ?_
       refine o2 16 21 (some 193) (some 198) (bz 25 0x1fffff) (bz 25 0x3effff) HT_ rfl rfl (kV (Kd.C_string (P := Tryz.prog) Tryz.underlying24 Tryz.underlying5 Tryz.underlying9 (rC HO1611)) ?_) (kV (Kd.C_string (P := Tryz.prog) Tryz.underlying24 Tryz.underlying5 Tryz.underlying9 (HR1615 _ (rC HO1443))) ?_)
       ·
        skip
        refine o1 21 (some 198) (bz 25 0x3fffff) HT_ rfl (kV (Kd.C_string (P := Tryz.prog) Tryz.underlying24 Tryz.underlying5 Tryz.underlying9 (HR1615 _ (rC HO1443))) ?_)
        refine pA 22 (some 199) (bz 25 0x7fffff) HT_ ?_
        refine pA 23 (some 200) (bz 25 0xffffff) HT_ ?_
        refine pA 24 (some 201) (bz 25 0x1ffffff) HT_ ?_
        exact hJ (hCont (Ao1610, co1610) _ ⟨⟨rJ HO1611⟩, ⟨UpW.out⟩⟩)
       skip
       refine o1 16 (some 193) (bz 25 0x3fffff) HT_ rfl (kV (Kd.C_string (P := Tryz.prog) Tryz.underlying24 Tryz.underlying5 Tryz.underlying9 (rC HO1611)) ?_)
       refine pA 22 (some 199) (bz 25 0x7fffff) HT_ ?_
       refine pA 23 (some 200) (bz 25 0xffffff) HT_ ?_
       refine pA 24 (some 201) (bz 25 0x1ffffff) HT_ ?_
       exact hJ (hCont (Ao1610, co1610) _ ⟨⟨rJ HO1611⟩, ⟨UpW.out⟩⟩)
      skip
      refine o1 15 (some 192) (bz 25 0x3effff) HT_ rfl (kC1 Tryz.func67 (impl_QcBytes.calls (hr1_2 := rC HO1450) (hc1_2 := rL HO1450) (w := _) (h := A195.out)) ?_); intro Ao1610 co1610 w202 _ HO1611
      refine nA (some 192) ?_
      refine o1 16 (some 193) (bz 25 0x3fffff) HT_ rfl (kV (Kd.C_string (P := Tryz.prog) Tryz.underlying24 Tryz.underlying5 Tryz.underlying9 (rC HO1611)) ?_)
      refine pA 22 (some 199) (bz 25 0x7fffff) HT_ ?_
      refine pA 23 (some 200) (bz 25 0xffffff) HT_ ?_
      refine pA 24 (some 201) (bz 25 0x1ffffff) HT_ ?_
      exact hJ (hCont (Ao1610, co1610) _ ⟨⟨rJ HO1611⟩, ⟨UpW.out⟩⟩)
    rintro ⟨Ao1610, co1610⟩ w203 ⟨HO1611, _⟩
    refine nP ?_
    refine done_ (done_of HT_.out (by kernel_rfl)) ?_
    have H := H'.out; clear H'
    by_cases c204 : (strOfNums t1609).toList = (strOfNums y1612).toList
    rotate_left
    ·
     rw [if_neg c204] at H
     exact absurd (Option.some.inj H) (by decide)
    have c204b1 : ((strOfNums t1609).toList != (strOfNums y1612).toList) = false := bne_eq_false_iff_eq.mpr c204
    go_wp2
    go_meet
    case rel => exact ⟨rfl, ⟨UpW.out⟩⟩
   replace c194 := Bool.eq_false_iff.mpr c194; subst c194
   rw [if_neg Bool.false_ne_true] at H
   have H' := Aside0.mk H; clear H
   try go_wp2
   refine sB [] laws_FnNotes.tab18 laws_FnNotes.bits18 ?_; intro w254 _ HT_ HW_
   refine pA 0 (some 177) (bz 25 1) HT_ ?_
   refine pA 1 (some 178) (bz 25 3) HT_ ?_
   refine pU 2 (some 179) (bz 25 7) HT_ ?_
   refine pU 3 (some 180) (bz 25 15) HT_ ?_
   refine pU 4 (some 181) (bz 25 31) HT_ ?_
   refine pU 5 (some 182) (bz 25 63) HT_ ?_
   refine pU 6 (some 183) (bz 25 127) HT_ ?_
   refine pU 7 (some 184) (bz 25 255) HT_ ?_
   refine pU 8 (some 185) (bz 25 511) HT_ ?_
   refine pA 9 (some 186) (bz 25 1023) HT_ ?_
   refine pA 10 (some 187) (bz 25 2047) HT_ ?_
   refine pA 11 (some 188) (bz 25 4095) HT_ ?_
   refine pA 12 (some 189) (bz 25 0x1fff) HT_ ?_
   refine pU 13 (some 190) (bz 25 0x3fff) HT_ ?_
   refine pU 14 (some 191) (bz 25 0x7fff) HT_ ?_
   refine pU 15 (some 192) (bz 25 0xffff) HT_ ?_
   refine pU 16 (some 193) (bz 25 0x1ffff) HT_ ?_
   refine pU 17 (some 194) (bz 25 0x3ffff) HT_ ?_
   refine pU 18 (some 195) (bz 25 0x7ffff) HT_ ?_
   refine pU 19 (some 196) (bz 25 0xfffff) HT_ ?_
   refine pU 20 (some 197) (bz 25 0x1fffff) HT_ ?_
   refine pU 21 (some 198) (bz 25 0x3fffff) HT_ ?_
   refine pU 22 (some 199) (bz 25 0x7fffff) HT_ ?_
   refine pA 23 (some 200) (bz 25 0xffffff) HT_ ?_
   refine pA 24 (some 201) (bz 25 0x1ffffff) HT_ ?_
   refine done_ (done_of HT_.out (by kernel_rfl)) ?_
   have H := H'.out; clear H'
   go_wp2
   go_meet
   case rel => exact ⟨rfl, ⟨UpW.out⟩⟩
  case rest =>
   obtain ⟨hs_, hub_⟩ := hcut
   subst hs_
   go_upto_if 201 with fail
   have H := HH.out; clear HH; unfold laws_FnNotes.tl at H; (try dsimp only at H)
   by_cases c255 : 0 ≤ t1418
   rotate_left
   ·
    rw [if_neg c255] at H
    exact absurd H (by simp)
   rw [if_pos c255] at H
   have c255b0 := eq_true c255; have c255b1 : decide (0 ≤ t1418) = true := decide_eq_true c255; clear c255
   by_cases c256 : t1418 ≤ (t1406.length : Int)
   rotate_left
   ·
    rw [if_neg c256] at H
    exact absurd H (by simp)
   rw [if_pos c256] at H
   have c256b0 := eq_true c256; have c256b1 : decide (t1418 ≤ (t1406.length : Int)) = true := decide_eq_true c256; clear c256; obtain ⟨y1677, hy1677⟩ : ∃ y_ : List Int, y_ = (t1406.take (t1418 : Int).toNat) := ⟨_, rfl⟩
   replace H : ((impl_LastNote.f k t1404 t1405 y1677).bind fun bt1681 => (if bt1681.2.2.2.2.2.2 = t1418 then ((impl_SafeSame.f k bt1681.1 bt1681.2.1 bt1681.2.2.1 bt1681.2.2.2.1 bt1681.2.2.2.2.1 bt1681.2.2.2.2.2.1 t1410 t1411 t1412 t1413 t1414 t1417).bind fun t1691 => (if t1691 = true then ((impl_SafeOk.f k t1360 t1361 t1362 t1363 t1364 t1365 t1366 t1369).bind fun t1692 => (if t1692 = true then ((impl_SafeOf.f k t1360 t1361 t1372).bind fun bt1693 => ((impl_LastNote.f k t1360 t1361 t1375).bind fun bt1703 => (if 0 ≤ (wrap64 ((t1375.length : Int) - 1)) then (if (wrap64 ((t1375.length : Int) - 1)) ≤ (t1375.length : Int) then ((impl_LastNote.f k t1360 t1361 (t1375.take ((wrap64 ((t1375.length : Int) - 1)) : Int).toNat)).bind fun bt1717 => (if bt1693.2.2.2.2.2.2 = true then ((impl_SafeSame.f k bt1693.1 bt1693.2.1 bt1693.2.2.1 bt1693.2.2.2.1 bt1693.2.2.2.2.1 bt1693.2.2.2.2.2.1 t1362 t1363 t1364 t1365 t1366 t1369).bind fun t1727 => (if t1727 = true then ((impl_SafeSame.f k bt1703.1 bt1703.2.1 bt1703.2.2.1 bt1703.2.2.2.1 bt1703.2.2.2.2.1 bt1703.2.2.2.2.2.1 t1362 t1363 t1364 t1365 t1366 t1369).bind fun t1728 => (if t1728 = true then (if bt1703.2.2.2.2.2.2 = (t1375.length : Int) then (if bt1717.2.2.2.2.2.2 = 0 then ((impl_SafeNew.f).bind fun bt1729 => ((impl_SafeSame.f k bt1717.1 bt1717.2.1 bt1717.2.2.1 bt1717.2.2.2.1 bt1717.2.2.2.2.1 bt1717.2.2.2.2.2.1 bt1729.1 bt1729.2.1 bt1729.2.2.1 bt1729.2.2.2.1 bt1729.2.2.2.2.1 bt1729.2.2.2.2.2).bind fun t1737 => (some t1737))) else (some false)) else (some false)) else (some false))) else (some false))) else (some false))) else (none)) else (none)))) else (if (t1372.length : Int) = 0 then (some ((t1375.length : Int) == 0)) else (some false)))) else (some false))) else (some false))) = some r := by first | (rw [hy1677]; with_reducible exact H) | (rw [hy1677]; with_reducible exact (Option.bind_some _ _).symm.trans H) | (rw [hy1677]; exact H) | exact H
   have Ny1677 := Aside0.mk hy1677; clear hy1677; obtain ⟨⟨t1681, t1682, t1683, t1684, t1685, t1688, t1689⟩, A257, H⟩ := oB H; (try dsimp only at H); have H' := Aside0.mk H; clear H
   try go_wp2
   have q258 : (t1418 : Int) ≤ (t1406.length : Int) := of_decide_eq_true y0_7; obtain ⟨i0258, hi0258, _, hsz258, _⟩ := info_parts info5; have hcut258 := cut_to (P := Tryz.prog) 24 5 .i64 Tryz.underlying24 hi0258 Ao1407 t1406.length co1407 t1418 (of_decide_eq_true y0_7) q258 (rL HO1408); have hr258 := Kd.R_take (m := (t1418 : Int).toNat) HO1408.out (Int.toNat_le.mpr q258)
   have hy258 : y1677.length = (t1418 : Int).toNat := (by rw [Ny1677.out, List.length_take]; exact Nat.min_eq_left (Int.toNat_le.mpr q258))
   rw [← Ny1677.out] at hr258
   rw [← hy258] at hr258 hcut258
   have HR1680 := Aside0.mk hr258; clear hy258 hi0258 hsz258 hr258; replace q258 := eq_true q258
   refine sB [] laws_FnNotes.tab20 laws_FnNotes.bits20 ?_; intro w259 _ HT_ HW_
   refine tB 0 (some 203) (bz 11 1) HT_ HW_ ?_
   refine pA 1 (some 204) (bz 11 3) HT_ ?_
   refine pA 2 (some 205) (bz 11 7) HT_ ?_
   refine pA 3 (some 206) (bz 11 15) HT_ ?_
   refine join_ (σ := Option Addr × Nat × Nat) 2 (bz 11 511) (fun s_ => [(207, .tuple #[.agg #[.int .i64 t1681, .int .i64 t1682, .int .i64 t1683, .string t1684, .slice s_.1 t1685.length s_.2.1, .string t1688], .int .i64 t1689]), (202, .tuple #[.agg #[.int .i64 t1681, .int .i64 t1682, .int .i64 t1683, .string t1684, .slice s_.1 t1685.length s_.2.1, .string t1688], .int .i64 t1689]), (208, .agg #[.int .i64 t1681, .int .i64 t1682, .int .i64 t1683, .string t1684, .slice s_.1 t1685.length s_.2.1, .string t1688]), (209, .int .i64 t1689), (30, .pointer (some ⟨s_.2.2, 0, none⟩))]) (fun s_ w' => Aside0 (Kd.R (Kd.int .i64) 3 w' w259.heap.size (iv w259 w') (.slice s_.1 t1685.length s_.2.1) t1685) ∧ BkI (s_.2.2) w' #[.int .i64 0, .int .i64 0, .int .i64 0, .string (⟨#[]⟩ : ByteArray), .slice none 0 0, .string (⟨#[]⟩ : ByteArray)] 29 ∧ BornI (s_.2.2) w259 ∧ UB w259 w') ?_ ?_
   rotate_left
   ·
    as_aux_lemma =>
     intro hCont
     refine o2 4 8 (some 207) (some 30) (bz 11 31) (bz 11 271) HT_ rfl rfl (kC1 Tryz.func10 (impl_LastNote.calls (hr1 := rC HR1680) (hc1 := rL HR1680) (w := _) (h := A257.out)) ?_) (kB #[.int .i64 0, .int .i64 0, .int .i64 0, .string (⟨#[]⟩ : ByteArray), .slice none 0 0, .string (⟨#[]⟩ : ByteArray)] 29 ?_)
     ·
      intro Ao1686 co1686 w260 _ HO1687
      refine nA (some 207) ?_
      refine pA 5 (some 202) (bz 11 63) HT_ ?_
      refine pA 6 (some 208) (bz 11 127) HT_ ?_
      refine pA 7 (some 209) (bz 11 255) HT_ ?_
      refine o1 8 (some 30) (bz 11 511) HT_ rfl (kB #[.int .i64 0, .int .i64 0, .int .i64 0, .string (⟨#[]⟩ : ByteArray), .slice none 0 0, .string (⟨#[]⟩ : ByteArray)] 29 ?_); intro gb1690 w262 _ _ _
      refine nA (some 30) ?_
      exact hJ (hCont (Ao1686, co1686, gb1690) _ ⟨⟨rJ HO1687⟩, ⟨xB⟩, ⟨GeI.out⟩, ⟨UpW.out⟩⟩)
     intro gb1690 w261 _ _ _
     refine nA (some 30) ?_
     refine o1 4 (some 207) (bz 11 287) HT_ rfl (kC1 Tryz.func10 (impl_LastNote.calls (hr1 := rC HR1680) (hc1 := rL HR1680) (w := _) (h := A257.out)) ?_); intro Ao1686 co1686 w263 _ HO1687
     refine nA (some 207) ?_
     refine pA 5 (some 202) (bz 11 319) HT_ ?_
     refine pA 6 (some 208) (bz 11 383) HT_ ?_
     refine pA 7 (some 209) (bz 11 511) HT_ ?_
     exact hJ (hCont (Ao1686, co1686, gb1690) _ ⟨⟨rJ HO1687⟩, ⟨xB⟩, ⟨GeI.out⟩, ⟨UpW.out⟩⟩)
   rintro ⟨Ao1686, co1686, gb1690⟩ w264 ⟨HO1687, _, _, _⟩
   refine nP ?_
   refine o1 9 none (bz 11 1023) HT_ rfl (kS ?_)
   refine pA 10 (some 31) (bz 11 2047) HT_ ?_
   refine done_ (done_of HT_.out (by kernel_rfl)) ?_
   go_upto_region 21 with fail
   have H := H'.out; clear H'
   by_cases c265 : t1689 = t1418
   rotate_left
   ·
    rw [if_neg c265] at H
    have c265b0 : (t1689 == t1418) = false := beq_eq_false_iff_ne.mpr c265; have c265b1 : (t1689 != t1418) = true := bne_iff_ne.mpr c265
    (first | rw [c265b0] | (simp only [i64_w, i32_w]; rw [c265b0]) | skip)
    exact absurd (hrt.out.symm.trans (Option.some.inj H).symm) (by decide)
   rw [if_pos c265] at H
   have c265b0 : (t1689 == t1418) = true := beq_iff_eq.mpr c265; have c265b1 : (t1689 != t1418) = false := bne_eq_false_iff_eq.mpr c265; clear c265
   (first | rw [c265b0] | (simp only [i64_w, i32_w]; rw [c265b0]) | skip)
   obtain ⟨t1691, A266, H⟩ := oB H; (try dsimp only at H); have H' := Aside0.mk H; clear H
   go_upto_if 218 with (first | (go_at_call 66; refine aC (impl_SafeSame.calls (hr0_4 := rC HO1687) (hc0_4 := rL HO1687) (hr1_4 := rC HO1416) (hc1_4 := rL HO1416) (w := _) (h := A266.out)) ?_; intro w267 _))
   have H := H'.out; clear H'
   by_cases c268 : t1691 = true
   rotate_left
   ·
    replace c268 := Bool.eq_false_iff.mpr c268; subst c268
    rw [if_neg Bool.false_ne_true] at H
    exact absurd (hrt.out.symm.trans (Option.some.inj H).symm) (by decide)
   subst c268
   rw [if_pos rfl] at H
   obtain ⟨t1692, A269, H⟩ := oB H; (try dsimp only at H); have H' := Aside0.mk H; clear H
   go_upto_if 222 with (first | ((with_reducible refine gate_callee (f := 69) rfl ?_); refine gC (some 221) Tryz.func69 (impl_SafeOk.calls (hr1_4 := rC HO1368) (hc1_4 := rL HO1368) (w := _) (h := A269.out)) ?_; intro w270 _))
   have H := H'.out; clear H'
   by_cases c271 : t1692 = true
   ·
    subst c271
    rw [if_pos rfl] at H
    obtain ⟨⟨t1693, t1694, t1695, t1696, t1697, t1700, t1701⟩, A272, H⟩ := oB H; (try dsimp only at H); obtain ⟨⟨t1703, t1704, t1705, t1706, t1707, t1710, t1711⟩, A273, H⟩ := oB H; (try dsimp only at H); obtain ⟨ji274, hji274⟩ : ∃ j_ : Int, (wrap64 ((t1375.length : Int) - 1)) = j_ := ⟨_, rfl⟩
    replace H : (if 0 ≤ (ji274) then (if (ji274) ≤ (t1375.length : Int) then ((impl_LastNote.f k t1360 t1361 (t1375.take ((ji274) : Int).toNat)).bind fun bt1717 => (if t1701 = true then ((impl_SafeSame.f k t1693 t1694 t1695 t1696 t1697 t1700 t1362 t1363 t1364 t1365 t1366 t1369).bind fun t1727 => (if t1727 = true then ((impl_SafeSame.f k t1703 t1704 t1705 t1706 t1707 t1710 t1362 t1363 t1364 t1365 t1366 t1369).bind fun t1728 => (if t1728 = true then (if t1711 = (t1375.length : Int) then (if bt1717.2.2.2.2.2.2 = 0 then ((impl_SafeNew.f).bind fun bt1729 => ((impl_SafeSame.f k bt1717.1 bt1717.2.1 bt1717.2.2.1 bt1717.2.2.2.1 bt1717.2.2.2.2.1 bt1717.2.2.2.2.2.1 bt1729.1 bt1729.2.1 bt1729.2.2.1 bt1729.2.2.2.1 bt1729.2.2.2.2.1 bt1729.2.2.2.2.2).bind fun t1737 => (some t1737))) else (some false)) else (some false)) else (some false))) else (some false))) else (some false))) else (none)) else (none)) = some r := by first | (rw [hji274] at H; exact H) | (simp only [hji274] at H ⊢; exact H)
    (try rw [hji274] at A272)
    (try rw [hji274] at A273)
    have hji274w : (IntKind.i64.wrap ((t1375.length : Int) - 1)) = ji274 := (i64_w _).trans hji274
    by_cases c275 : 0 ≤ (ji274)
    rotate_left
    ·
     rw [if_neg c275] at H
     exact absurd H (by simp)
    rw [if_pos c275] at H
    have c275b0 := eq_true c275; have c275b1 : decide (0 ≤ (ji274)) = true := decide_eq_true c275; clear c275
    by_cases c276 : (ji274) ≤ (t1375.length : Int)
    rotate_left
    ·
     rw [if_neg c276] at H
     exact absurd H (by simp)
    rw [if_pos c276] at H
    have c276b0 := eq_true c276; have c276b1 : decide ((ji274) ≤ (t1375.length : Int)) = true := decide_eq_true c276; clear c276; obtain ⟨y1713, hy1713⟩ : ∃ y_ : List Int, y_ = (t1375.take ((ji274) : Int).toNat) := ⟨_, rfl⟩
    replace H : ((impl_LastNote.f k t1360 t1361 y1713).bind fun bt1717 => (if t1701 = true then ((impl_SafeSame.f k t1693 t1694 t1695 t1696 t1697 t1700 t1362 t1363 t1364 t1365 t1366 t1369).bind fun t1727 => (if t1727 = true then ((impl_SafeSame.f k t1703 t1704 t1705 t1706 t1707 t1710 t1362 t1363 t1364 t1365 t1366 t1369).bind fun t1728 => (if t1728 = true then (if t1711 = (t1375.length : Int) then (if bt1717.2.2.2.2.2.2 = 0 then ((impl_SafeNew.f).bind fun bt1729 => ((impl_SafeSame.f k bt1717.1 bt1717.2.1 bt1717.2.2.1 bt1717.2.2.2.1 bt1717.2.2.2.2.1 bt1717.2.2.2.2.2.1 bt1729.1 bt1729.2.1 bt1729.2.2.1 bt1729.2.2.2.1 bt1729.2.2.2.2.1 bt1729.2.2.2.2.2).bind fun t1737 => (some t1737))) else (some false)) else (some false)) else (some false))) else (some false))) else (some false))) = some r := by first | (rw [hy1713]; with_reducible exact H) | (rw [hy1713]; with_reducible exact (Option.bind_some _ _).symm.trans H) | (rw [hy1713]; exact H) | exact H
    have Ny1713 := Aside0.mk hy1713; clear hy1713; obtain ⟨⟨t1717, t1718, t1719, t1720, t1721, t1724, t1725⟩, A277, H⟩ := oB H; (try dsimp only at H); have H' := Aside0.mk H; clear H
    try go_wp2_with (first | ((with_reducible refine gate_callee (f := 57) rfl ?_); refine gC1 (some 234) Tryz.func57 (impl_SafeOf.calls (hr1 := rC HO1374) (hc1 := rL HO1374) (w := _) (h := A272.out)) ?_; intro Ao1698 co1698 w278 _ HO1699) | ((with_reducible refine gd 32 ?_); refine bL 32 #[.int .i64 0, .int .i64 0, .int .i64 0, .string (⟨#[]⟩ : ByteArray), .slice none 0 0, .string (⟨#[]⟩ : ByteArray)] 29 ?_; intro gb1702 w279 _ _ _) | ((with_reducible refine gate_callee (f := 10) rfl ?_); refine gC1 (some 240) Tryz.func10 (impl_LastNote.calls (hr1 := rC HO1377) (hc1 := rL HO1377) (w := _) (h := A273.out)) ?_; intro Ao1708 co1708 w280 _ HO1709) | ((with_reducible refine gd 34 ?_); refine bL 34 #[.int .i64 0, .int .i64 0, .int .i64 0, .string (⟨#[]⟩ : ByteArray), .slice none 0 0, .string (⟨#[]⟩ : ByteArray)] 29 ?_; intro gb1712 w281 _ _ _))
    have q282 : ((ji274) : Int) ≤ (t1375.length : Int) := of_decide_eq_true y0_7; obtain ⟨i0282, hi0282, _, hsz282, _⟩ := info_parts info5; have hcut282 := cut_to (P := Tryz.prog) 24 5 .i64 Tryz.underlying24 hi0282 Ao1376 t1375.length co1376 (ji274) (of_decide_eq_true y0_7) q282 (rL HO1377); have hr282 := Kd.R_take (m := ((ji274) : Int).toNat) HO1377.out (Int.toNat_le.mpr q282)
    have hy282 : y1713.length = ((ji274) : Int).toNat := (by rw [Ny1713.out, List.length_take]; exact Nat.min_eq_left (Int.toNat_le.mpr q282))
    rw [← Ny1713.out] at hr282
    rw [← hy282] at hr282 hcut282
    have HR1716 := Aside0.mk hr282; clear hy282 hi0282 hsz282 hr282; replace q282 := eq_true q282; have hcut282_ := hcut282
    (try rw [← hji274] at hcut282_)
    refine sB [] laws_FnNotes.tab27 laws_FnNotes.bits27 ?_; intro w283 _ HT_ HW_
    refine tB 0 (some 244) (bz 13 1) HT_ HW_ ?_
    refine pA 1 (some 245) (bz 13 3) HT_ ?_
    refine pA 2 (some 246) (bz 13 7) HT_ ?_
    refine pA 3 (some 247) (bz 13 15) HT_ ?_
    refine pA 4 (some 248) (bz 13 31) HT_ ?_
    refine pA 5 (some 249) (bz 13 63) HT_ ?_
    refine join_ (σ := Option Addr × Nat × Nat) 2 (bz 13 2047) (fun s_ => [(250, .tuple #[.agg #[.int .i64 t1717, .int .i64 t1718, .int .i64 t1719, .string t1720, .slice s_.1 t1721.length s_.2.1, .string t1724], .int .i64 t1725]), (243, .tuple #[.agg #[.int .i64 t1717, .int .i64 t1718, .int .i64 t1719, .string t1720, .slice s_.1 t1721.length s_.2.1, .string t1724], .int .i64 t1725]), (251, .agg #[.int .i64 t1717, .int .i64 t1718, .int .i64 t1719, .string t1720, .slice s_.1 t1721.length s_.2.1, .string t1724]), (252, .int .i64 t1725), (36, .pointer (some ⟨s_.2.2, 0, none⟩))]) (fun s_ w' => Aside0 (Kd.R (Kd.int .i64) 3 w' w283.heap.size (iv w283 w') (.slice s_.1 t1721.length s_.2.1) t1721) ∧ BkI (s_.2.2) w' #[.int .i64 0, .int .i64 0, .int .i64 0, .string (⟨#[]⟩ : ByteArray), .slice none 0 0, .string (⟨#[]⟩ : ByteArray)] 29 ∧ BornI (s_.2.2) w283 ∧ UB w283 w') ?_ ?_
    rotate_left
    ·
     as_aux_lemma =>
      intro hCont
      refine o2 6 10 (some 250) (some 36) (bz 13 127) (bz 13 1087) HT_ rfl rfl (kC1 Tryz.func10 (impl_LastNote.calls (hr1 := rC HR1716) (hc1 := rL HR1716) (w := _) (h := A277.out)) ?_) (kB #[.int .i64 0, .int .i64 0, .int .i64 0, .string (⟨#[]⟩ : ByteArray), .slice none 0 0, .string (⟨#[]⟩ : ByteArray)] 29 ?_)
      ·
       intro Ao1722 co1722 w284 _ HO1723
       refine nA (some 250) ?_
       refine pA 7 (some 243) (bz 13 255) HT_ ?_
       refine pA 8 (some 251) (bz 13 511) HT_ ?_
       refine pA 9 (some 252) (bz 13 1023) HT_ ?_
       refine o1 10 (some 36) (bz 13 2047) HT_ rfl (kB #[.int .i64 0, .int .i64 0, .int .i64 0, .string (⟨#[]⟩ : ByteArray), .slice none 0 0, .string (⟨#[]⟩ : ByteArray)] 29 ?_); intro gb1726 w286 _ _ _
       refine nA (some 36) ?_
       exact hJ (hCont (Ao1722, co1722, gb1726) _ ⟨⟨rJ HO1723⟩, ⟨xB⟩, ⟨GeI.out⟩, ⟨UpW.out⟩⟩)
      intro gb1726 w285 _ _ _
      refine nA (some 36) ?_
      refine o1 6 (some 250) (bz 13 1151) HT_ rfl (kC1 Tryz.func10 (impl_LastNote.calls (hr1 := rC HR1716) (hc1 := rL HR1716) (w := _) (h := A277.out)) ?_); intro Ao1722 co1722 w287 _ HO1723
      refine nA (some 250) ?_
      refine pA 7 (some 243) (bz 13 1279) HT_ ?_
      refine pA 8 (some 251) (bz 13 1535) HT_ ?_
      refine pA 9 (some 252) (bz 13 2047) HT_ ?_
      exact hJ (hCont (Ao1722, co1722, gb1726) _ ⟨⟨rJ HO1723⟩, ⟨xB⟩, ⟨GeI.out⟩, ⟨UpW.out⟩⟩)
    rintro ⟨Ao1722, co1722, gb1726⟩ w288 ⟨HO1723, _, _, _⟩
    refine nP ?_
    refine o1 11 none (bz 13 4095) HT_ rfl (kS ?_)
    refine pA 12 (some 37) (bz 13 0x1fff) HT_ ?_
    refine done_ (done_of HT_.out (by kernel_rfl)) ?_
    go_upto_region 28 with fail
    have H := H'.out; clear H'
    by_cases c289 : t1701 = true
    rotate_left
    ·
     replace c289 := Bool.eq_false_iff.mpr c289; subst c289
     rw [if_neg Bool.false_ne_true] at H
     exact absurd (hrt.out.symm.trans (Option.some.inj H).symm) (by decide)
    subst c289
    rw [if_pos rfl] at H
    obtain ⟨t1727, A290, H⟩ := oB H; (try dsimp only at H)
    by_cases c291 : t1727 = true
    rotate_left
    ·
     replace c291 := Bool.eq_false_iff.mpr c291; subst c291
     rw [if_neg Bool.false_ne_true] at H
     exact absurd (hrt.out.symm.trans (Option.some.inj H).symm) (by decide)
    subst c291
    rw [if_pos rfl] at H
    obtain ⟨t1728, A292, H⟩ := oB H; (try dsimp only at H)
    by_cases c293 : t1728 = true
    rotate_left
    ·
     replace c293 := Bool.eq_false_iff.mpr c293; subst c293
     rw [if_neg Bool.false_ne_true] at H
     exact absurd (hrt.out.symm.trans (Option.some.inj H).symm) (by decide)
    subst c293
    rw [if_pos rfl] at H
    by_cases c294 : t1711 = (t1375.length : Int)
    rotate_left
    ·
     rw [if_neg c294] at H
     have c294b0 : (t1711 == (t1375.length : Int)) = false := beq_eq_false_iff_ne.mpr c294; have c294b1 : (t1711 != (t1375.length : Int)) = true := bne_iff_ne.mpr c294
     (first | rw [c294b0] | (simp only [i64_w, i32_w]; rw [c294b0]) | skip)
     exact absurd (hrt.out.symm.trans (Option.some.inj H).symm) (by decide)
    rw [if_pos c294] at H
    have c294b0 : (t1711 == (t1375.length : Int)) = true := beq_iff_eq.mpr c294; have c294b1 : (t1711 != (t1375.length : Int)) = false := bne_eq_false_iff_eq.mpr c294; clear c294
    (first | rw [c294b0] | (simp only [i64_w, i32_w]; rw [c294b0]) | skip)
    by_cases c295 : t1725 = 0
    rotate_left
    ·
     rw [if_neg c295] at H
     have c295b0 : (t1725 == 0) = false := beq_eq_false_iff_ne.mpr c295; have c295b1 : (t1725 != 0) = true := bne_iff_ne.mpr c295
     exact absurd (hrt.out.symm.trans (Option.some.inj H).symm) (by decide)
    rw [if_pos c295] at H
    have c295b0 : (t1725 == 0) = true := beq_iff_eq.mpr c295; have c295b1 : (t1725 != 0) = false := bne_eq_false_iff_eq.mpr c295; clear c295; obtain ⟨⟨t1729, t1730, t1731, t1732, t1733, t1736⟩, A296, H⟩ := oB H; (try dsimp only at H); obtain ⟨t1737, A297, H⟩ := oB H; (try dsimp only at H); obtain rfl := Option.some.inj H
    try go_wp2
    refine sB [] laws_FnNotes.tab28 laws_FnNotes.bits28 ?_; intro w298 _ HT_ HW_
    refine pA 0 (some 253) (bz 27 1) HT_ ?_
    refine pA 1 (some 254) (bz 27 3) HT_ ?_
    refine tB 2 (some 255) (bz 27 7) HT_ HW_ ?_
    refine tB 3 (some 256) (bz 27 15) HT_ HW_ ?_
    refine o1 4 (some 257) (bz 27 31) HT_ rfl (kC Tryz.func66 (impl_SafeSame.calls (hr0_4 := rC HO1699) (hc0_4 := rL HO1699) (hr1_4 := rC HO1368) (hc1_4 := rL HO1368) (w := _) (h := A290.out)) ?_); intro w299 _
    refine nA (some 257) ?_
    refine pA 5 (some 258) (bz 27 63) HT_ ?_
    refine pA 6 (some 259) (bz 27 127) HT_ ?_
    refine tB 7 (some 260) (bz 27 255) HT_ HW_ ?_
    refine tB 8 (some 261) (bz 27 511) HT_ HW_ ?_
    refine o1 9 (some 262) (bz 27 1023) HT_ rfl (kC Tryz.func66 (impl_SafeSame.calls (hr0_4 := rC HO1709) (hc0_4 := rL HO1709) (hr1_4 := rC HO1368) (hc1_4 := rL HO1368) (w := _) (h := A292.out)) ?_); intro w300 _
    refine nA (some 262) ?_
    refine pA 10 (some 263) (bz 27 2047) HT_ ?_
    refine pA 11 (some 264) (bz 27 4095) HT_ ?_
    refine pA 12 (some 265) (bz 27 0x1fff) HT_ ?_
    refine pA 13 (some 266) (bz 27 0x3fff) HT_ ?_
    refine pA 14 (some 267) (bz 27 0x7fff) HT_ ?_
    refine pA 15 (some 268) (bz 27 0xffff) HT_ ?_
    refine pA 16 (some 269) (bz 27 0x1ffff) HT_ ?_
    refine pA 17 (some 270) (bz 27 0x3ffff) HT_ ?_
    refine pA 18 (some 271) (bz 27 0x7ffff) HT_ ?_
    refine pA 19 (some 272) (bz 27 0xfffff) HT_ ?_
    refine pA 20 (some 273) (bz 27 0x1fffff) HT_ ?_
    refine pA 21 (some 274) (bz 27 0x3fffff) HT_ ?_
    refine tB 22 (some 275) (bz 27 0x7fffff) HT_ HW_ ?_
    refine o1 23 (some 276) (bz 27 0xffffff) HT_ rfl (kC1 Tryz.func70 (impl_SafeNew.calls (w := _) (h := A296.out)) ?_); intro Ao1734 co1734 w301 _ HO1735
    refine nA (some 276) ?_
    refine o1 24 (some 277) (bz 27 0x1ffffff) HT_ rfl (kC Tryz.func66 (impl_SafeSame.calls (hr0_4 := rC HO1723) (hc0_4 := rL HO1723) (hr1_4 := rC HO1735) (hc1_4 := rL HO1735) (w := _) (h := A297.out)) ?_); intro w302 _
    refine nA (some 277) ?_
    refine pA 25 (some 278) (bz 27 0x3ffffff) HT_ ?_
    refine pA 26 (some 2) (bz 27 0x7ffffff) HT_ ?_
    refine done_ (done_of HT_.out (by kernel_rfl)) ?_
    try go_wp2
    go_ret
    exact ⟨by first | rfl | (simp; done) | (simp only [← hji274] <;> (first | rfl | simp)) | (simp [*]; done), UpW.out⟩
   replace c271 := Bool.eq_false_iff.mpr c271; subst c271
   rw [if_neg Bool.false_ne_true] at H
   by_cases c303 : (t1372.length : Int) = 0
   rotate_left
   ·
    rw [if_neg c303] at H
    have c303b0 : ((t1372.length : Int) == 0) = false := beq_eq_false_iff_ne.mpr c303; have c303b1 : ((t1372.length : Int) != 0) = true := bne_iff_ne.mpr c303
    have c303b2 : ¬ (t1372 = []) := fun h_ => c303 (by rw [h_]; rfl)
    exact absurd (hrt.out.symm.trans (Option.some.inj H).symm) (by decide)
   rw [if_pos c303] at H
   have c303b0 : ((t1372.length : Int) == 0) = true := beq_iff_eq.mpr c303; have c303b1 : ((t1372.length : Int) != 0) = false := bne_eq_false_iff_eq.mpr c303; clear c303; obtain rfl := Option.some.inj H
   go_wp2
   go_ret
   exact ⟨y0_8, UpW.out⟩
 rw [if_neg c45] at H
 have c45b0 : ((strOfNums t1372).toList == (strOfNums t1462).toList) = false := beq_eq_false_iff_ne.mpr c45; have c45b1 : ((strOfNums t1372).toList != (strOfNums t1462).toList) = true := bne_iff_ne.mpr c45
 (first | rw [c45b0] | (simp only [i64_w, i32_w]; rw [c45b0]) | skip)
 exact absurd (hrt.out.symm.trans (Option.some.inj H).symm) (by decide)
end Go.Proofs.YtdmjhgogljhfkaaGreatDoor.PFnNotes
