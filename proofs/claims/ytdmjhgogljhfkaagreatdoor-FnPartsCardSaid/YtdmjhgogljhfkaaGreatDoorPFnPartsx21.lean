import Derived.Test.YtdmjhgogljhfkaaGreatDoorPFnPartsx0
import Derived.Test.YtdmjhgogljhfkaaGreatDoorPFnPartsx1
import Derived.Test.YtdmjhgogljhfkaaGreatDoorPFnPartsx4
import Derived.Test.YtdmjhgogljhfkaaGreatDoorPFnPartsx6
import Derived.Test.YtdmjhgogljhfkaaGreatDoorPFnPartsx8
import Derived.Test.YtdmjhgogljhfkaaGreatDoorPFnPartsx9
import Derived.Test.YtdmjhgogljhfkaaGreatDoorPFnPartsx11
import Derived.Test.YtdmjhgogljhfkaaGreatDoorPFnPartsx14
import Derived.Test.YtdmjhgogljhfkaaGreatDoorPFnPartsx16
import Derived.Test.YtdmjhgogljhfkaaGreatDoorPFnPartsx17
import Derived.Test.YtdmjhgogljhfkaaGreatDoorPFnPartsx19
namespace Go.Proofs.YtdmjhgogljhfkaaGreatDoor.PFnParts
open Go.RowKit Go.Proofs.YtdmjhgogljhfkaaGreatDoorW.PrintWords Go.Proofs.YtdmjhgogljhfkaaGreatDoorW.PrintLast Go.Proofs.YtdmjhgogljhfkaaGreatDoorW.PrintMore
attribute [local go_sem] max2_int min2_int max_two min_two max_three min_three max_four min_four
attribute [local go_sem] cell_in frozen_in cell_g cell_p cell_r cell_q
set_option synthInstance.maxSize 1000000
set_option synthInstance.maxHeartbeats 2000000
set_option linter.unusedVariables false
set_option linter.unusedSimpArgs false
set_option maxHeartbeats 8000000
set_option maxRecDepth 100000
def laws_FnParts.f (k : Nat) (l0 : List Int) : Option (Bool) := (laws_big.f l0).bind fun t1099 => (if t1099 = true then (some true) else ((spec_DrawPartJoin.f k l0).bind fun bt1100 => ((impl_PartJoin.f k bt1100.1 bt1100.2.1 bt1100.2.2.1 bt1100.2.2.2.1 bt1100.2.2.2.2.1 bt1100.2.2.2.2.2).bind fun bt1112 => ((spec_PartJoin.f k bt1100.1 bt1100.2.1 bt1100.2.2.1 bt1100.2.2.2.1 bt1100.2.2.2.2.1 bt1100.2.2.2.2.2).bind fun bt1119 => ((spec_DrawTableAdd.f k l0).bind fun bt1126 => ((impl_TableAdd.f k bt1126.1 bt1126.2.1 bt1126.2.2.1 bt1126.2.2.2.1 bt1126.2.2.2.2.1 bt1126.2.2.2.2.2).bind fun bt1138 => ((spec_TableAdd.f k bt1126.1 bt1126.2.1 bt1126.2.2.1 bt1126.2.2.2.1 bt1126.2.2.2.2.1 bt1126.2.2.2.2.2).bind fun bt1142 => ((spec_DrawPartQc.f k l0).bind fun bt1146 => ((impl_PartQc.f k bt1146.1 bt1146.2.1 bt1146.2.2.1 bt1146.2.2.2.1 bt1146.2.2.2.2).bind fun bt1155 => ((spec_PartQc.f k bt1146.1 bt1146.2.1 bt1146.2.2.1 bt1146.2.2.2.1 bt1146.2.2.2.2).bind fun bt1162 => ((spec_DrawTableGet.f k l0).bind fun bt1169 => ((spec_DrawTableDrop.f k l0).bind fun bt1174 => ((spec_DrawTableOk.f k l0).bind fun bt1178 => ((spec_DrawPartOk.f k l0).bind fun bt1184 => (if (bt1112.2.2.2 != bt1119.2.2.2) = true then (some false) else ((laws_samePart.f k bt1112.1 bt1112.2.1 bt1112.2.2.1 bt1119.1 bt1119.2.1 bt1119.2.2.1).bind fun t1193 => (if t1193 = true then (if (bt1138.2 != bt1142.2) = true then (some false) else ((laws_sameTable.f k bt1138.1 bt1142.1).bind fun t1194 => (if t1194 = true then (if (bt1155.2.2.2 != bt1162.2.2.2) = true then (some false) else ((impl_QcSame.f k bt1155.1 bt1155.2.1 bt1155.2.2.1 bt1162.1 bt1162.2.1 bt1162.2.2.1).bind fun t1195 => (if t1195 = true then ((impl_TableGet.f k bt1169.1 bt1169.2.1 bt1169.2.2).bind fun bt1196 => ((spec_TableGet.f k bt1169.1 bt1169.2.1 bt1169.2.2).bind fun bt1201 => ((laws_samePart.f k bt1196.1 bt1196.2.1 bt1196.2.2 bt1201.1 bt1201.2.1 bt1201.2.2).bind fun t1206 => (if t1206 = true then ((impl_TableDrop.f k bt1174.1 bt1174.2).bind fun t1207 => ((spec_TableDrop.f k bt1174.1 bt1174.2).bind fun t1210 => ((laws_sameTable.f k t1207 t1210).bind fun t1213 => (if t1213 = true then ((impl_TableOk.f k bt1178.1 bt1178.2.1 bt1178.2.2).bind fun t1214 => ((spec_TableOk.f k bt1178.1 bt1178.2.1 bt1178.2.2).bind fun t1215 => (if (t1214 != t1215) = true then (some false) else ((impl_PartOk.f k bt1184.1 bt1184.2.1 bt1184.2.2.1 bt1184.2.2.2.1 bt1184.2.2.2.2).bind fun t1216 => ((spec_PartOk.f k bt1184.1 bt1184.2.1 bt1184.2.2.1 bt1184.2.2.2.1 bt1184.2.2.2.2).bind fun t1217 => (if (t1216 != t1217) = true then (some false) else (if bt1155.2.2.2 = true then ((impl_QcOk.f k bt1146.1 bt1146.2.1 bt1155.1 bt1155.2.1 bt1155.2.2.1).bind fun t1218 => (if t1218 = true then (if bt1112.2.2.2 = true then ((impl_SetOk.f k 7 bt1100.2.2.1).bind fun t1219 => (if t1219 = true then ((impl_SetOk.f k 7 bt1100.2.2.2.2.2).bind fun t1220 => (if t1220 = true then ((impl_PartJoin.f k bt1100.2.2.2.1 bt1100.2.2.2.2.1 bt1100.2.2.2.2.2 bt1100.1 bt1100.2.1 bt1100.2.2.1).bind fun bt1221 => (if bt1221.2.2.2 = true then ((laws_samePart.f k bt1221.1 bt1221.2.1 bt1221.2.2.1 bt1112.1 bt1112.2.1 bt1112.2.2.1).bind fun t1228 => (if t1228 = true then (if bt1138.2 = true then ((impl_TableGet.f k bt1138.1 bt1126.2.2.2.1 bt1126.2.2.2.2.1).bind fun bt1229 => ((impl_TableOk.f k bt1126.1 bt1126.2.1 bt1138.1).bind fun t1235 => (if t1235 = true then ((impl_Common.f k bt1126.2.2.2.2.2 bt1229.2.2).bind fun t1236 => (some (t1236 == (bt1126.2.2.2.2.2.length : Int)))) else (some false)))) else ((laws_sameTable.f k bt1138.1 bt1126.2.2.1).bind fun t1237 => (some t1237))) else (some false))) else (some false))) else (if bt1138.2 = true then ((impl_TableGet.f k bt1138.1 bt1126.2.2.2.1 bt1126.2.2.2.2.1).bind fun bt1238 => ((impl_TableOk.f k bt1126.1 bt1126.2.1 bt1138.1).bind fun t1244 => (if t1244 = true then ((impl_Common.f k bt1126.2.2.2.2.2 bt1238.2.2).bind fun t1245 => (some (t1245 == (bt1126.2.2.2.2.2.length : Int)))) else (some false)))) else ((laws_sameTable.f k bt1138.1 bt1126.2.2.1).bind fun t1246 => (some t1246))))) else (if bt1138.2 = true then ((impl_TableGet.f k bt1138.1 bt1126.2.2.2.1 bt1126.2.2.2.2.1).bind fun bt1247 => ((impl_TableOk.f k bt1126.1 bt1126.2.1 bt1138.1).bind fun t1253 => (if t1253 = true then ((impl_Common.f k bt1126.2.2.2.2.2 bt1247.2.2).bind fun t1254 => (some (t1254 == (bt1126.2.2.2.2.2.length : Int)))) else (some false)))) else ((laws_sameTable.f k bt1138.1 bt1126.2.2.1).bind fun t1255 => (some t1255))))) else (if bt1138.2 = true then ((impl_TableGet.f k bt1138.1 bt1126.2.2.2.1 bt1126.2.2.2.2.1).bind fun bt1256 => ((impl_TableOk.f k bt1126.1 bt1126.2.1 bt1138.1).bind fun t1262 => (if t1262 = true then ((impl_Common.f k bt1126.2.2.2.2.2 bt1256.2.2).bind fun t1263 => (some (t1263 == (bt1126.2.2.2.2.2.length : Int)))) else (some false)))) else ((laws_sameTable.f k bt1138.1 bt1126.2.2.1).bind fun t1264 => (some t1264)))) else (some false))) else (if bt1112.2.2.2 = true then ((impl_SetOk.f k 7 bt1100.2.2.1).bind fun t1265 => (if t1265 = true then ((impl_SetOk.f k 7 bt1100.2.2.2.2.2).bind fun t1266 => (if t1266 = true then ((impl_PartJoin.f k bt1100.2.2.2.1 bt1100.2.2.2.2.1 bt1100.2.2.2.2.2 bt1100.1 bt1100.2.1 bt1100.2.2.1).bind fun bt1267 => (if bt1267.2.2.2 = true then ((laws_samePart.f k bt1267.1 bt1267.2.1 bt1267.2.2.1 bt1112.1 bt1112.2.1 bt1112.2.2.1).bind fun t1274 => (if t1274 = true then (if bt1138.2 = true then ((impl_TableGet.f k bt1138.1 bt1126.2.2.2.1 bt1126.2.2.2.2.1).bind fun bt1275 => ((impl_TableOk.f k bt1126.1 bt1126.2.1 bt1138.1).bind fun t1281 => (if t1281 = true then ((impl_Common.f k bt1126.2.2.2.2.2 bt1275.2.2).bind fun t1282 => (some (t1282 == (bt1126.2.2.2.2.2.length : Int)))) else (some false)))) else ((laws_sameTable.f k bt1138.1 bt1126.2.2.1).bind fun t1283 => (some t1283))) else (some false))) else (some false))) else (if bt1138.2 = true then ((impl_TableGet.f k bt1138.1 bt1126.2.2.2.1 bt1126.2.2.2.2.1).bind fun bt1284 => ((impl_TableOk.f k bt1126.1 bt1126.2.1 bt1138.1).bind fun t1290 => (if t1290 = true then ((impl_Common.f k bt1126.2.2.2.2.2 bt1284.2.2).bind fun t1291 => (some (t1291 == (bt1126.2.2.2.2.2.length : Int)))) else (some false)))) else ((laws_sameTable.f k bt1138.1 bt1126.2.2.1).bind fun t1292 => (some t1292))))) else (if bt1138.2 = true then ((impl_TableGet.f k bt1138.1 bt1126.2.2.2.1 bt1126.2.2.2.2.1).bind fun bt1293 => ((impl_TableOk.f k bt1126.1 bt1126.2.1 bt1138.1).bind fun t1299 => (if t1299 = true then ((impl_Common.f k bt1126.2.2.2.2.2 bt1293.2.2).bind fun t1300 => (some (t1300 == (bt1126.2.2.2.2.2.length : Int)))) else (some false)))) else ((laws_sameTable.f k bt1138.1 bt1126.2.2.1).bind fun t1301 => (some t1301))))) else (if bt1138.2 = true then ((impl_TableGet.f k bt1138.1 bt1126.2.2.2.1 bt1126.2.2.2.2.1).bind fun bt1302 => ((impl_TableOk.f k bt1126.1 bt1126.2.1 bt1138.1).bind fun t1308 => (if t1308 = true then ((impl_Common.f k bt1126.2.2.2.2.2 bt1302.2.2).bind fun t1309 => (some (t1309 == (bt1126.2.2.2.2.2.length : Int)))) else (some false)))) else ((laws_sameTable.f k bt1138.1 bt1126.2.2.1).bind fun t1310 => (some t1310))))))))))) else (some false))))) else (some false))))) else (some false)))) else (some false)))) else (some false))))))))))))))))))
def laws_FnParts.T16 : Bool × List (List Nat × List Nat) := (true, [([], []), ([], []), ([0, 1], [0, 1]), ([2], [2]), ([3], [3]), ([3], [3]), ([4, 5, 3, 3], [3, 4, 5]), ([6, 3], [3, 6]), ([3, 7], [3, 7]), ([8, 6], [8]), ([9], [9]), ([9], [9]), ([10, 11, 9], [9, 10, 11]), ([9, 12], [9, 12]), ([13, 9], [13]), ([14], [14]), ([14], [14]), ([15, 16, 14, 14], [14, 15, 16]), ([17, 14], [14, 17]), ([14, 18], [14, 18]), ([19, 17], [19]), ([20], [20]), ([20], [20]), ([21, 22, 20], [20, 21, 22]), ([20, 23], [20, 23]), ([24, 20], [24]), ([25], [25]), ([25], [25]), ([26, 27, 25, 25], [25, 26, 27]), ([28, 25], [25, 28]), ([25, 29], [25, 29]), ([30, 28], [30]), ([31], [31]), ([31], [31]), ([31], [31]), ([32, 33, 34, 31, 31], [31, 32, 33, 34]), ([31], [31]), ([31], [31]), ([31], [31]), ([36, 37, 38, 35, 31], [31, 36, 37, 38]), ([35, 39, 39, 31], [31, 35, 39]), ([40, 31], [31, 40]), ([31, 41], [31, 41]), ([42, 40], [42]), ([43], [43]), ([43], [43]), ([44, 45, 43, 43], [43, 44, 45]), ([43], [43]), ([43], [43]), ([47, 48, 46, 43], [43, 47, 48]), ([46, 49, 49, 43], [43, 46, 49]), ([50, 43], [43, 50]), ([43, 51], [43, 51]), ([52, 50], [52]), ([53], [53]), ([53], [53]), ([54, 55, 53, 53], [53, 54, 55]), ([53], [53]), ([53], [53]), ([57, 58, 56, 53], [53, 57, 58]), ([56, 59, 53], [53, 56, 59]), ([53, 60], [53, 60]), ([61, 59], [61]), ([62], [62]), ([62], [62]), ([63, 64, 62, 62], [62, 63, 64]), ([62], [62]), ([62], [62]), ([66, 67, 65, 62], [62, 66, 67]), ([65, 68, 62], [62, 65, 68]), ([62, 69], [62, 69])])
def laws_FnParts.B16 : List Nat := [0, 0, 3, 7, 15, 15, 63, 127, 255, 511, 1023, 1023, 4095, 8191, 16383, 32767, 32767, 131071, 262143, 524287, 1048575, 2097151, 2097151, 8388607, 16777215, 33554431, 67108863, 67108863, 268435455, 536870911, 1073741823, 2147483647, 4294967295, 4294967295, 4294967295, 34359738367, 4294967295, 4294967295, 4294967295, 549755813887, 1099511627775, 2199023255551, 4398046511103, 8796093022207, 17592186044415, 17592186044415, 70368744177663, 17592186044415, 17592186044415, 562949953421311, 1125899906842623, 2251799813685247, 4503599627370495, 9007199254740991, 18014398509481983, 18014398509481983, 72057594037927935, 18014398509481983, 18014398509481983, 576460752303423487, 1152921504606846975, 2305843009213693951, 4611686018427387903, 9223372036854775807, 9223372036854775807, 36893488147419103231, 9223372036854775807, 9223372036854775807, 295147905179352825855, 590295810358705651711, 1180591620717411303423]
theorem laws_FnParts.tab16 : rtab .any (opsOf Tryz.f5 16) = laws_FnParts.T16 := by kernel_rfl
theorem laws_FnParts.bits16 : waitsOk laws_FnParts.T16.2 laws_FnParts.B16 = true := by kernel_rfl
def laws_FnParts.T27 : Bool × List (List Nat × List Nat) := (true, [([], []), ([], []), ([0, 1], [0, 1]), ([2, 2], [2]), ([3], [3]), ([4, 3], [3, 4]), ([3], [3]), ([6, 3], [3, 6]), ([5, 7, 3, 3], [3, 5, 7]), ([3], [3]), ([9, 3], [3, 9]), ([10, 3], [3, 10]), ([8, 11, 3], [3, 8, 11]), ([3, 12], [3, 12]), ([13, 8, 0, 1, 2, 3, 4, 5, 6, 7, 8, 9, 10, 11, 12, 13], [13])])
def laws_FnParts.B27 : List Nat := [0, 0, 3, 7, 15, 31, 15, 79, 255, 15, 527, 1551, 4095, 8191, 16383]
theorem laws_FnParts.tab27 : rtab .any (opsOf Tryz.f5 27) = laws_FnParts.T27 := by kernel_rfl
theorem laws_FnParts.bits27 : waitsOk laws_FnParts.T27.2 laws_FnParts.B27 = true := by kernel_rfl
theorem laws_FnParts.calls (k : Nat) (A0 : Option Addr) (c0 : Nat) (l0 : List Int) (r : Bool) (hrt : Aside0 (r = true)) (w : World) (hr0 : Kd.C (Kd.int .u8) w A0 l0.length l0) (hc0 : l0.length ≤ c0) (h : laws_FnParts.f k l0 = some r) (hG : Glob w := by exact gG HG HB) :
  Calls Tryz.prog 5 #[.slice A0 l0.length c0] w fun e w' => e = .returned (.bool r) ∧ Below w.heap.size w w' := by
 have HG := Aside0.mk hG; clear hG; have hu48 := Tryz.underlying48; have hu32 := Tryz.underlying32; have hu27 := Tryz.underlying27; have HR0 := Aside0.mk hr0; have HC0 := Aside0.mk hc0; clear hr0 hc0; have HB := Aside0.mk (Below.refl w.heap.size w)
 have H := h; unfold laws_FnParts.f at H
 clear h; obtain ⟨t1099, A2, H⟩ := oB H; (try dsimp only at H)
 go_enter Tryz.func5, Tryz.ntmps5
 have H' := Aside0.mk H; clear H
 go_upto_if 35 with (first | ((with_reducible refine gate_callee (f := 27) rfl ?_); refine gD (some 35) Tryz.func27 (laws_big.calls (hr0 := pC HR0) (hc0 := HC0.out) (w := _) (h := A2.out)) ?_; intro w3 _))
 have H := H'.out; clear H'
 by_cases c4 : t1099 = true
 ·
  subst c4
  rw [if_pos rfl] at H
  obtain rfl := Option.some.inj H
  go_wp2
  go_ret
  exact ⟨y0_17, UpW.out⟩
 replace c4 := Bool.eq_false_iff.mpr c4; subst c4
 rw [if_neg Bool.false_ne_true] at H
 obtain ⟨⟨t1100, t1101, t1102, t1105, t1106, t1107⟩, A5, H⟩ := oB H; (try dsimp only at H); obtain ⟨⟨t1112, t1113, t1114, t1117⟩, A6, H⟩ := oB H; (try dsimp only at H); obtain ⟨⟨t1119, t1120, t1121, t1124⟩, A7, H⟩ := oB H; (try dsimp only at H); obtain ⟨⟨t1126, t1127, t1128, t1131, t1132, t1133⟩, A8, H⟩ := oB H; (try dsimp only at H); obtain ⟨⟨t1138, t1141⟩, A9, H⟩ := oB H; (try dsimp only at H); obtain ⟨⟨t1142, t1145⟩, A10, H⟩ := oB H; (try dsimp only at H); obtain ⟨⟨t1146, t1147, t1148, t1149, t1150⟩, A11, H⟩ := oB H; (try dsimp only at H); obtain ⟨⟨t1155, t1156, t1157, t1160⟩, A12, H⟩ := oB H; (try dsimp only at H); obtain ⟨⟨t1162, t1163, t1164, t1167⟩, A13, H⟩ := oB H; (try dsimp only at H); obtain ⟨⟨t1169, t1170, t1171⟩, A14, H⟩ := oB H; (try dsimp only at H); obtain ⟨⟨t1174, t1175⟩, A15, H⟩ := oB H; (try dsimp only at H); obtain ⟨⟨t1178, t1179, t1180⟩, A16, H⟩ := oB H; (try dsimp only at H); obtain ⟨⟨t1184, t1185, t1186, t1187, t1188⟩, A17, H⟩ := oB H; (try dsimp only at H); have H' := Aside0.mk H; clear H
 go_upto_region 16 with (first | ((with_reducible refine gate_callee (f := 28) rfl ?_); refine gC2 (some 38) Tryz.func28 (spec_DrawPartJoin.calls (hr0 := pC HR0) (hc0 := HC0.out) (w := _) (h := A5.out)) ?_; intro Ao1103 co1103 Ao1108 co1108 w18 _ HO1104 HO1109) | ((with_reducible refine gd 3 ?_); refine bL 3 #[.int .i64 0, .string (⟨#[]⟩ : ByteArray), .slice none 0 0] 48 ?_; intro gb1110 w19 _ _ _) | ((with_reducible refine gd 4 ?_); refine bL 4 #[.int .i64 0, .string (⟨#[]⟩ : ByteArray), .slice none 0 0] 48 ?_; intro gb1111 w20 _ _ _) | ((with_reducible refine gate_callee (f := 29) rfl ?_); refine gC1 (some 44) Tryz.func29 (impl_PartJoin.calls (hr0_2 := rC HO1104) (hc0_2 := rL HO1104) (hr1_2 := rC HO1109) (hc1_2 := rL HO1109) (w := _) (h := A6.out)) ?_; intro Ao1115 co1115 w21 _ HO1116) | ((with_reducible refine gd 5 ?_); refine bL 5 #[.int .i64 0, .string (⟨#[]⟩ : ByteArray), .slice none 0 0] 48 ?_; intro gb1118 w22 _ _ _) | ((with_reducible refine gate_callee (f := 30) rfl ?_); refine gC1 (some 50) Tryz.func30 (spec_PartJoin.calls (hr0_2 := rC HO1104) (hc0_2 := rL HO1104) (hr1_2 := rC HO1109) (hc1_2 := rL HO1109) (w := _) (h := A7.out)) ?_; intro Ao1122 co1122 w23 _ HO1123) | ((with_reducible refine gd 7 ?_); refine bL 7 #[.int .i64 0, .string (⟨#[]⟩ : ByteArray), .slice none 0 0] 48 ?_; intro gb1125 w24 _ _ _) | ((with_reducible refine gate_callee (f := 31) rfl ?_); refine gSR (some 55) Tryz.func31 (spec_DrawTableAdd.calls (hr0 := pC HR0) (hc0 := HC0.out) (w := _) (h := A8.out)) ?_; intro Ao1129 co1129 Ao1134 co1134 w25 _ HO1130 HO1135) | ((with_reducible refine gd 9 ?_); refine bL 9 #[.int .i64 0, .int .i64 0] 32 ?_; intro gb1136 w26 _ _ _) | ((with_reducible refine gd 11 ?_); refine bL 11 #[.int .i64 0, .string (⟨#[]⟩ : ByteArray), .slice none 0 0] 48 ?_; intro gb1137 w27 _ _ _) | ((with_reducible refine gate_callee (f := 21) rfl ?_); refine gS1 (some 63) Tryz.func21 (impl_TableAdd.calls (hr1 := sC HO1130) (hc1 := sL HO1130) (hr2_2 := rC HO1135) (hc2_2 := rL HO1135) (w := _) (h := A9.out)) ?_; intro Ao1139 co1139 w28 _ HO1140) | ((with_reducible refine gate_callee (f := 18) rfl ?_); refine gS1 (some 70) Tryz.func18 (spec_TableAdd.calls (hr1 := sC HO1130) (hc1 := sL HO1130) (hr2_2 := rC HO1135) (hc2_2 := rL HO1135) (w := _) (h := A10.out)) ?_; intro Ao1143 co1143 w29 _ HO1144) | ((with_reducible refine gate_callee (f := 32) rfl ?_); refine gC1 (some 75) Tryz.func32 (spec_DrawPartQc.calls (hr0 := pC HR0) (hc0 := HC0.out) (w := _) (h := A11.out)) ?_; intro Ao1151 co1151 w30 _ HO1152) | ((with_reducible refine gd 16 ?_); refine bL 16 #[.int .i64 0, .int .i64 0] 32 ?_; intro gb1153 w31 _ _ _) | ((with_reducible refine gd 17 ?_); refine bL 17 #[.int .i64 0, .string (⟨#[]⟩ : ByteArray), .slice none 0 0] 48 ?_; intro gb1154 w32 _ _ _) | ((with_reducible refine gate_callee (f := 33) rfl ?_); refine gC1 (some 81) Tryz.func33 (impl_PartQc.calls (hr1_2 := rC HO1152) (hc1_2 := rL HO1152) (w := _) (h := A12.out)) ?_; intro Ao1158 co1158 w33 _ HO1159) | ((with_reducible refine gd 18 ?_); refine bL 18 #[.int .i64 0, .string (⟨#[]⟩ : ByteArray), .slice none 0 0] 27 ?_; intro gb1161 w34 _ _ _) | ((with_reducible refine gate_callee (f := 34) rfl ?_); refine gC1 (some 87) Tryz.func34 (spec_PartQc.calls (hr1_2 := rC HO1152) (hc1_2 := rL HO1152) (w := _) (h := A13.out)) ?_; intro Ao1165 co1165 w35 _ HO1166) | ((with_reducible refine gd 20 ?_); refine bL 20 #[.int .i64 0, .string (⟨#[]⟩ : ByteArray), .slice none 0 0] 27 ?_; intro gb1168 w36 _ _ _) | ((with_reducible refine gate_callee (f := 35) rfl ?_); refine gS1 (some 92) Tryz.func35 (spec_DrawTableGet.calls (hr0 := pC HR0) (hc0 := HC0.out) (w := _) (h := A14.out)) ?_; intro Ao1172 co1172 w37 _ HO1173) | ((with_reducible refine gate_callee (f := 36) rfl ?_); refine gS1 (some 98) Tryz.func36 (spec_DrawTableDrop.calls (hr0 := pC HR0) (hc0 := HC0.out) (w := _) (h := A15.out)) ?_; intro Ao1176 co1176 w38 _ HO1177) | ((with_reducible refine gate_callee (f := 37) rfl ?_); refine gS1 (some 103) Tryz.func37 (spec_DrawTableOk.calls (hr0 := pC HR0) (hc0 := HC0.out) (w := _) (h := A16.out)) ?_; intro Ao1181 co1181 w39 _ HO1182) | ((with_reducible refine gd 27 ?_); refine bL 27 #[.int .i64 0, .int .i64 0] 32 ?_; intro gb1183 w40 _ _ _) | ((with_reducible refine gate_callee (f := 38) rfl ?_); refine gC1 (some 108) Tryz.func38 (spec_DrawPartOk.calls (hr0 := pC HR0) (hc0 := HC0.out) (w := _) (h := A17.out)) ?_; intro Ao1189 co1189 w41 _ HO1190) | ((with_reducible refine gd 29 ?_); refine bL 29 #[.int .i64 0, .int .i64 0] 32 ?_; intro gb1191 w42 _ _ _) | ((with_reducible refine gd 30 ?_); refine bL 30 #[.int .i64 0, .string (⟨#[]⟩ : ByteArray), .slice none 0 0] 48 ?_; intro gb1192 w43 _ _ _))
 have H := H'.out; clear H'
 by_cases c44 : (t1117 != t1124) = true
 ·
  rw [if_pos c44] at H
  have c44b0 : (t1117 != t1124) = true := c44
  (try (have c44b1 : decide (t1117 = t1124) = false := by simpa using c44))
  (try (have c44b2 : (t1117 == t1124) = false := by simpa using c44))
  (try (have c44b3 : ¬ (t1117 = t1124) := by simpa using c44))
  clear c44
  (first | rw [c44b0] | (simp only [i64_w, i32_w]; rw [c44b0]) | rw [show (!(t1117 == t1124)) = true from c44b0] | skip)
  exact absurd (hrt.out.symm.trans (Option.some.inj H).symm) (by decide)
 rw [if_neg c44] at H
 have c44b0 : (t1117 != t1124) = false := by simpa using c44
 (try (have c44b1 : decide (t1117 = t1124) = true := by simpa using c44))
 (try (have c44b2 : (t1117 == t1124) = true := by simpa using c44))
 clear c44
 (first | rw [c44b0] | (simp only [i64_w, i32_w]; rw [c44b0]) | rw [show (!(t1117 == t1124)) = false from c44b0] | skip)
 obtain ⟨t1193, A45, H⟩ := oB H; (try dsimp only at H)
 by_cases c46 : t1193 = true
 ·
  subst c46
  rw [if_pos rfl] at H
  by_cases c47 : (t1141 != t1145) = true
  ·
   rw [if_pos c47] at H
   have c47b0 : (t1141 != t1145) = true := c47
   (try (have c47b1 : decide (t1141 = t1145) = false := by simpa using c47))
   (try (have c47b2 : (t1141 == t1145) = false := by simpa using c47))
   (try (have c47b3 : ¬ (t1141 = t1145) := by simpa using c47))
   clear c47
   exact absurd (hrt.out.symm.trans (Option.some.inj H).symm) (by decide)
  rw [if_neg c47] at H
  have c47b0 : (t1141 != t1145) = false := by simpa using c47
  (try (have c47b1 : decide (t1141 = t1145) = true := by simpa using c47))
  (try (have c47b2 : (t1141 == t1145) = true := by simpa using c47))
  clear c47; obtain ⟨t1194, A48, H⟩ := oB H; (try dsimp only at H)
  by_cases c49 : t1194 = true
  rotate_left
  ·
   replace c49 := Bool.eq_false_iff.mpr c49; subst c49
   rw [if_neg Bool.false_ne_true] at H
   exact absurd (hrt.out.symm.trans (Option.some.inj H).symm) (by decide)
  subst c49
  rw [if_pos rfl] at H
  by_cases c50 : (t1160 != t1167) = true
  ·
   rw [if_pos c50] at H
   have c50b0 : (t1160 != t1167) = true := c50
   (try (have c50b1 : decide (t1160 = t1167) = false := by simpa using c50))
   (try (have c50b2 : (t1160 == t1167) = false := by simpa using c50))
   (try (have c50b3 : ¬ (t1160 = t1167) := by simpa using c50))
   clear c50
   exact absurd (hrt.out.symm.trans (Option.some.inj H).symm) (by decide)
  rw [if_neg c50] at H
  have c50b0 : (t1160 != t1167) = false := by simpa using c50
  (try (have c50b1 : decide (t1160 = t1167) = true := by simpa using c50))
  (try (have c50b2 : (t1160 == t1167) = true := by simpa using c50))
  clear c50; obtain ⟨t1195, A51, H⟩ := oB H; (try dsimp only at H)
  by_cases c52 : t1195 = true
  rotate_left
  ·
   replace c52 := Bool.eq_false_iff.mpr c52; subst c52
   rw [if_neg Bool.false_ne_true] at H
   exact absurd (hrt.out.symm.trans (Option.some.inj H).symm) (by decide)
  subst c52
  rw [if_pos rfl] at H
  obtain ⟨⟨t1196, t1197, t1198⟩, A53, H⟩ := oB H; (try dsimp only at H); obtain ⟨⟨t1201, t1202, t1203⟩, A54, H⟩ := oB H; (try dsimp only at H); obtain ⟨t1206, A55, H⟩ := oB H; (try dsimp only at H)
  by_cases c56 : t1206 = true
  rotate_left
  ·
   replace c56 := Bool.eq_false_iff.mpr c56; subst c56
   rw [if_neg Bool.false_ne_true] at H
   exact absurd (hrt.out.symm.trans (Option.some.inj H).symm) (by decide)
  subst c56
  rw [if_pos rfl] at H
  obtain ⟨t1207, A57, H⟩ := oB H; (try dsimp only at H); obtain ⟨t1210, A58, H⟩ := oB H; (try dsimp only at H); obtain ⟨t1213, A59, H⟩ := oB H; (try dsimp only at H)
  by_cases c60 : t1213 = true
  rotate_left
  ·
   replace c60 := Bool.eq_false_iff.mpr c60; subst c60
   rw [if_neg Bool.false_ne_true] at H
   exact absurd (hrt.out.symm.trans (Option.some.inj H).symm) (by decide)
  subst c60
  rw [if_pos rfl] at H
  obtain ⟨t1214, A61, H⟩ := oB H; (try dsimp only at H); obtain ⟨t1215, A62, H⟩ := oB H; (try dsimp only at H)
  by_cases c63 : (t1214 != t1215) = true
  ·
   rw [if_pos c63] at H
   have c63b0 : (t1214 != t1215) = true := c63
   (try (have c63b1 : decide (t1214 = t1215) = false := by simpa using c63))
   (try (have c63b2 : (t1214 == t1215) = false := by simpa using c63))
   (try (have c63b3 : ¬ (t1214 = t1215) := by simpa using c63))
   clear c63
   exact absurd (hrt.out.symm.trans (Option.some.inj H).symm) (by decide)
  rw [if_neg c63] at H
  have c63b0 : (t1214 != t1215) = false := by simpa using c63
  (try (have c63b1 : decide (t1214 = t1215) = true := by simpa using c63))
  (try (have c63b2 : (t1214 == t1215) = true := by simpa using c63))
  clear c63; obtain ⟨t1216, A64, H⟩ := oB H; (try dsimp only at H); obtain ⟨t1217, A65, H⟩ := oB H; (try dsimp only at H); have H' := Aside0.mk H; clear H
  try go_wp2
  refine sB [] laws_FnParts.tab16 laws_FnParts.bits16 ?_; intro w66 _ HT_ HW_
  refine pA 0 (some 111) (bz 71 1) HT_ ?_
  refine pA 1 (some 112) (bz 71 3) HT_ ?_
  refine pA 2 (some 113) (bz 71 7) HT_ ?_
  refine pA 3 (some 114) (bz 71 15) HT_ ?_
  refine tB 4 (some 115) (bz 71 31) HT_ HW_ ?_
  refine tB 5 (some 116) (bz 71 63) HT_ HW_ ?_
  refine o1 6 (some 117) (bz 71 127) HT_ rfl (kC Tryz.func39 (laws_samePart.calls (hr0_2 := rC HO1116) (hc0_2 := rL HO1116) (hr1_2 := rC HO1123) (hc1_2 := rL HO1123) (w := _) (h := A45.out)) ?_); intro w67 _
  refine nA (some 117) ?_
  refine pA 7 (some 118) (bz 71 255) HT_ ?_
  refine pA 8 (some 119) (bz 71 511) HT_ ?_
  refine pA 9 (some 120) (bz 71 1023) HT_ ?_
  refine pA 10 (some 121) (bz 71 2047) HT_ ?_
  refine pA 11 (some 122) (bz 71 4095) HT_ ?_
  refine pA 12 (some 123) (bz 71 0x1fff) HT_ ?_
  refine pA 13 (some 124) (bz 71 0x3fff) HT_ ?_
  refine pA 14 (some 125) (bz 71 0x7fff) HT_ ?_
  refine pA 15 (some 126) (bz 71 0xffff) HT_ ?_
  refine pA 16 (some 127) (bz 71 0x1ffff) HT_ ?_
  refine o1 17 (some 128) (bz 71 0x3ffff) HT_ rfl (kC Tryz.func40 (laws_sameTable.calls (hr0 := sC HO1140) (hc0 := sL HO1140) (hr1 := sC HO1144) (hc1 := sL HO1144) (w := _) (h := A48.out)) ?_); intro w68 _
  refine nA (some 128) ?_
  refine pA 18 (some 129) (bz 71 0x7ffff) HT_ ?_
  refine pA 19 (some 130) (bz 71 0xfffff) HT_ ?_
  refine pA 20 (some 131) (bz 71 0x1fffff) HT_ ?_
  refine pA 21 (some 132) (bz 71 0x3fffff) HT_ ?_
  refine pA 22 (some 133) (bz 71 0x7fffff) HT_ ?_
  refine pA 23 (some 134) (bz 71 0xffffff) HT_ ?_
  refine pA 24 (some 135) (bz 71 0x1ffffff) HT_ ?_
  refine pA 25 (some 136) (bz 71 0x3ffffff) HT_ ?_
  refine tB 26 (some 137) (bz 71 0x7ffffff) HT_ HW_ ?_
  refine tB 27 (some 138) (bz 71 0xfffffff) HT_ HW_ ?_
  refine o1 28 (some 139) (bz 71 0x1fffffff) HT_ rfl (kC Tryz.func41 (impl_QcSame.calls (hr0_2 := rC HO1159) (hc0_2 := rL HO1159) (hr1_2 := rC HO1166) (hc1_2 := rL HO1166) (w := _) (h := A51.out)) ?_); intro w69 _
  refine nA (some 139) ?_
  refine pA 29 (some 140) (bz 71 0x3fffffff) HT_ ?_
  refine pA 30 (some 141) (bz 71 0x7fffffff) HT_ ?_
  refine pA 31 (some 142) (bz 71 0xffffffff) HT_ ?_
  refine pA 32 (some 143) (bz 71 0x1ffffffff) HT_ ?_
  refine pA 33 (some 144) (bz 71 0x3ffffffff) HT_ ?_
  refine pA 34 (some 145) (bz 71 0x7ffffffff) HT_ ?_
  refine pA 36 (some 147) (bz 71 0x17ffffffff) HT_ ?_
  refine pA 37 (some 148) (bz 71 0x37ffffffff) HT_ ?_
  refine pA 38 (some 149) (bz 71 0x77ffffffff) HT_ ?_
  refine o1 35 (some 146) (bz 71 0x7fffffffff) HT_ rfl (kC1 Tryz.func42 (impl_TableGet.calls (hr0 := sC HO1173) (hc0 := sL HO1173) (w := _) (h := A53.out)) ?_); intro Ao1199 co1199 w70 _ HO1200
  refine nA (some 146) ?_
  refine o1 39 (some 150) (bz 71 0xffffffffff) HT_ rfl (kC1 Tryz.func43 (spec_TableGet.calls (hr0 := sC HO1173) (hc0 := sL HO1173) (w := _) (h := A54.out)) ?_); intro Ao1204 co1204 w71 _ HO1205
  refine nA (some 150) ?_
  refine o1 40 (some 151) (bz 71 0x1ffffffffff) HT_ rfl (kC Tryz.func39 (laws_samePart.calls (hr0_2 := rC HO1200) (hc0_2 := rL HO1200) (hr1_2 := rC HO1205) (hc1_2 := rL HO1205) (w := _) (h := A55.out)) ?_); intro w72 _
  refine nA (some 151) ?_
  refine pA 41 (some 152) (bz 71 0x3ffffffffff) HT_ ?_
  refine pA 42 (some 153) (bz 71 0x7ffffffffff) HT_ ?_
  refine pA 43 (some 154) (bz 71 0xfffffffffff) HT_ ?_
  refine pA 44 (some 155) (bz 71 0x1fffffffffff) HT_ ?_
  refine pA 45 (some 156) (bz 71 0x3fffffffffff) HT_ ?_
  refine pA 47 (some 158) (bz 71 0xbfffffffffff) HT_ ?_
  refine pA 48 (some 159) (bz 71 0x1bfffffffffff) HT_ ?_
  refine o1 46 (some 157) (bz 71 0x1ffffffffffff) HT_ rfl (kS1 Tryz.func44 (impl_TableDrop.calls (hr0 := sC HO1177) (hc0 := sL HO1177) (w := _) (h := A57.out)) ?_); intro Ao1208 co1208 w73 _ HO1209
  refine nA (some 157) ?_
  refine o1 49 (some 160) (bz 71 0x3ffffffffffff) HT_ rfl (kS1 Tryz.func45 (spec_TableDrop.calls (hr0 := sC HO1177) (hc0 := sL HO1177) (w := _) (h := A58.out)) ?_); intro Ao1211 co1211 w74 _ HO1212
  refine nA (some 160) ?_
  refine o1 50 (some 161) (bz 71 0x7ffffffffffff) HT_ rfl (kC Tryz.func40 (laws_sameTable.calls (hr0 := sC HO1209) (hc0 := sL HO1209) (hr1 := sC HO1212) (hc1 := sL HO1212) (w := _) (h := A59.out)) ?_); intro w75 _
  refine nA (some 161) ?_
  refine pA 51 (some 162) (bz 71 0xfffffffffffff) HT_ ?_
  refine pA 52 (some 163) (bz 71 0x1fffffffffffff) HT_ ?_
  refine pA 53 (some 164) (bz 71 0x3fffffffffffff) HT_ ?_
  refine tB 54 (some 165) (bz 71 0x7fffffffffffff) HT_ HW_ ?_
  refine pA 55 (some 166) (bz 71 0xffffffffffffff) HT_ ?_
  refine tB 57 (some 168) (bz 71 0x2ffffffffffffff) HT_ HW_ ?_
  refine pA 58 (some 169) (bz 71 0x6ffffffffffffff) HT_ ?_
  refine o1 56 (some 167) (bz 71 0x7ffffffffffffff) HT_ rfl (kC Tryz.func46 (impl_TableOk.calls (hr1 := sC HO1182) (hc1 := sL HO1182) (w := _) (h := A61.out)) ?_); intro w76 _
  refine nA (some 167) ?_
  refine o1 59 (some 170) (bz 71 0xfffffffffffffff) HT_ rfl (kC Tryz.func47 (spec_TableOk.calls (hr1 := sC HO1182) (hc1 := sL HO1182) (w := _) (h := A62.out)) ?_); intro w77 _
  refine nA (some 170) ?_
  refine pA 60 (some 171) (bz 71 0x1fffffffffffffff) HT_ ?_
  refine pA 61 (some 172) (bz 71 0x3fffffffffffffff) HT_ ?_
  refine pA 62 (some 173) (bz 71 0x7fffffffffffffff) HT_ ?_
  refine tB 63 (some 174) (bz 71 0xffffffffffffffff) HT_ HW_ ?_
  refine tB 64 (some 175) (bz 71 0x1ffffffffffffffff) HT_ HW_ ?_
  refine tB 66 (some 177) (bz 71 0x5ffffffffffffffff) HT_ HW_ ?_
  refine tB 67 (some 178) (bz 71 0xdffffffffffffffff) HT_ HW_ ?_
  refine o1 65 (some 176) (bz 71 0xfffffffffffffffff) HT_ rfl (kC Tryz.func48 (impl_PartOk.calls (hr1_2 := rC HO1190) (hc1_2 := rL HO1190) (w := _) (h := A64.out)) ?_); intro w78 _
  refine nA (some 176) ?_
  refine o1 68 (some 179) (bz 71 0x1fffffffffffffffff) HT_ rfl (kC Tryz.func49 (spec_PartOk.calls (hr1_2 := rC HO1190) (hc1_2 := rL HO1190) (w := _) (h := A65.out)) ?_); intro w79 _
  refine nA (some 179) ?_
  refine pA 69 (some 180) (bz 71 0x3fffffffffffffffff) HT_ ?_
  refine pA 70 (some 181) (bz 71 0x7fffffffffffffffff) HT_ ?_
  refine done_ (done_of HT_.out (by kernel_rfl)) ?_
  go_upto_if 181 with fail
  have H := H'.out; clear H'
  by_cases c80 : (t1216 != t1217) = true
  ·
   rw [if_pos c80] at H
   have c80b0 : (t1216 != t1217) = true := c80
   (try (have c80b1 : decide (t1216 = t1217) = false := by simpa using c80))
   (try (have c80b2 : (t1216 == t1217) = false := by simpa using c80))
   (try (have c80b3 : ¬ (t1216 = t1217) := by simpa using c80))
   clear c80
   (first | rw [c80b0] | (simp only [i64_w, i32_w]; rw [c80b0]) | rw [show (!(t1216 == t1217)) = true from c80b0] | skip)
   exact absurd (hrt.out.symm.trans (Option.some.inj H).symm) (by decide)
  rw [if_neg c80] at H
  have c80b0 : (t1216 != t1217) = false := by simpa using c80
  (try (have c80b1 : decide (t1216 = t1217) = true := by simpa using c80))
  (try (have c80b2 : (t1216 == t1217) = true := by simpa using c80))
  clear c80
  (first | rw [c80b0] | (simp only [i64_w, i32_w]; rw [c80b0]) | rw [show (!(t1216 == t1217)) = false from c80b0] | skip)
  by_cases c81 : t1160 = true
  ·
   subst c81
   rw [if_pos rfl] at H
   obtain ⟨t1218, A82, H⟩ := oB H; (try dsimp only at H); have H' := Aside0.mk H; clear H
   go_upto_if 188 with (first | (go_at_call 50; refine aC (impl_QcOk.calls (hr1_2 := rC HO1159) (hc1_2 := rL HO1159) (w := _) (h := A82.out)) ?_; intro w83 _))
   have H := H'.out; clear H'
   by_cases c84 : t1218 = true
   rotate_left
   ·
    replace c84 := Bool.eq_false_iff.mpr c84; subst c84
    rw [if_neg Bool.false_ne_true] at H
    exact absurd (hrt.out.symm.trans (Option.some.inj H).symm) (by decide)
   subst c84
   rw [if_pos rfl] at H
   by_cases c85 : t1117 = true
   ·
    subst c85
    rw [if_pos rfl] at H
    obtain ⟨t1219, A86, H⟩ := oB H; (try dsimp only at H)
    by_cases c87 : t1219 = true
    ·
     subst c87
     rw [if_pos rfl] at H
     obtain ⟨t1220, A88, H⟩ := oB H; (try dsimp only at H); have H' := Aside0.mk H; clear H
     go_upto_if 199 with (first | (go_at_call 51; refine aD (impl_SetOk.calls (hr1 := rC HO1104) (hc1 := rL HO1104) (w := _) (h := A86.out)) ?_; intro w89 _) | (go_at_call 51; refine aD (impl_SetOk.calls (hr1 := rC HO1109) (hc1 := rL HO1109) (w := _) (h := A88.out)) ?_; intro w90 _))
     have H := H'.out; clear H'
     by_cases c91 : t1220 = true
     ·
      subst c91
      rw [if_pos rfl] at H
      obtain ⟨⟨t1221, t1222, t1223, t1226⟩, A92, H⟩ := oB H; (try dsimp only at H); have H' := Aside0.mk H; clear H
      go_upto_region 22 with (first | ((with_reducible refine gate_callee (f := 29) rfl ?_); refine gC1 (some 203) Tryz.func29 (impl_PartJoin.calls (hr0_2 := rC HO1109) (hc0_2 := rL HO1109) (hr1_2 := rC HO1104) (hc1_2 := rL HO1104) (w := _) (h := A92.out)) ?_; intro Ao1224 co1224 w93 _ HO1225) | ((with_reducible refine gd 31 ?_); refine bL 31 #[.int .i64 0, .string (⟨#[]⟩ : ByteArray), .slice none 0 0] 48 ?_; intro gb1227 w94 _ _ _))
      have H := H'.out; clear H'
      by_cases c95 : t1226 = true
      rotate_left
      ·
       replace c95 := Bool.eq_false_iff.mpr c95; subst c95
       rw [if_neg Bool.false_ne_true] at H
       exact absurd (hrt.out.symm.trans (Option.some.inj H).symm) (by decide)
      subst c95
      rw [if_pos rfl] at H
      obtain ⟨t1228, A96, H⟩ := oB H; (try dsimp only at H); have H' := Aside0.mk H; clear H
      go_upto_if 213 with (first | (go_at_call 39; refine aC (laws_samePart.calls (hr0_2 := rC HO1225) (hc0_2 := rL HO1225) (hr1_2 := rC HO1116) (hc1_2 := rL HO1116) (w := _) (h := A96.out)) ?_; intro w97 _))
      have H := H'.out; clear H'
      by_cases c98 : t1228 = true
      rotate_left
      ·
       replace c98 := Bool.eq_false_iff.mpr c98; subst c98
       rw [if_neg Bool.false_ne_true] at H
       exact absurd (hrt.out.symm.trans (Option.some.inj H).symm) (by decide)
      subst c98
      rw [if_pos rfl] at H
      by_cases c99 : t1141 = true
      ·
       subst c99
       rw [if_pos rfl] at H
       obtain ⟨⟨t1229, t1230, t1231⟩, A100, H⟩ := oB H; (try dsimp only at H); have H' := Aside0.mk H; clear H
       go_upto_region 27 with (first | ((with_reducible refine gate_callee (f := 42) rfl ?_); refine gC1 (some 224) Tryz.func42 (impl_TableGet.calls (hr0 := sC HO1140) (hc0 := sL HO1140) (w := _) (h := A100.out)) ?_; intro Ao1232 co1232 w101 _ HO1233) | ((with_reducible refine gd 33 ?_); refine bL 33 #[.int .i64 0, .string (⟨#[]⟩ : ByteArray), .slice none 0 0] 48 ?_; intro gb1234 w102 _ _ _))
       have H := H'.out; clear H'; obtain ⟨t1235, A103, H⟩ := oB H; (try dsimp only at H)
       by_cases c104 : t1235 = true
       rotate_left
       ·
        replace c104 := Bool.eq_false_iff.mpr c104; subst c104
        rw [if_neg Bool.false_ne_true] at H
        exact absurd (hrt.out.symm.trans (Option.some.inj H).symm) (by decide)
       subst c104
       rw [if_pos rfl] at H
       obtain ⟨t1236, A105, H⟩ := oB H; (try dsimp only at H); obtain rfl := Option.some.inj H
       try go_wp2
       refine sB [] laws_FnParts.tab27 laws_FnParts.bits27 ?_; intro w106 _ HT_ HW_
       refine tB 0 (some 225) (bz 15 1) HT_ HW_ ?_
       refine pA 1 (some 226) (bz 15 3) HT_ ?_
       refine o1 2 (some 227) (bz 15 7) HT_ rfl (kC Tryz.func46 (impl_TableOk.calls (hr1 := sC HO1140) (hc1 := sL HO1140) (w := _) (h := A103.out)) ?_); intro w107 _
       refine nA (some 227) ?_
       refine pA 3 (some 228) (bz 15 15) HT_ ?_
       refine pA 4 (some 229) (bz 15 31) HT_ ?_
       refine tB 5 (some 230) (bz 15 63) HT_ HW_ ?_
       refine pA 6 (some 231) (bz 15 127) HT_ ?_
       refine tB 7 (some 232) (bz 15 255) HT_ HW_ ?_
       refine pA 9 (some 234) (bz 15 767) HT_ ?_
       refine tB 10 (some 235) (bz 15 1791) HT_ HW_ ?_
       refine pA 11 (some 236) (bz 15 3839) HT_ ?_
       refine o1 8 (some 233) (bz 15 4095) HT_ rfl (kD Tryz.func52 (impl_Common.calls (hr0 := rC HO1135) (hc0 := rL HO1135) (hr1 := rC HO1233) (hc1 := rL HO1233) (w := _) (h := A105.out)) ?_); intro w108 _
       refine nA (some 233) ?_
       refine pA 12 (some 237) (bz 15 0x1fff) HT_ ?_
       refine pA 13 (some 238) (bz 15 0x3fff) HT_ ?_
       refine pA 14 (some 2) (bz 15 0x7fff) HT_ ?_
       refine done_ (done_of HT_.out (by kernel_rfl)) ?_
       try go_wp2
       go_ret
       exact ⟨y0_17, UpW.out⟩
      replace c99 := Bool.eq_false_iff.mpr c99; subst c99
      rw [if_neg Bool.false_ne_true] at H
      obtain ⟨t1237, A109, H⟩ := oB H; (try dsimp only at H); obtain rfl := Option.some.inj H
      go_wp2_with (first | ((with_reducible refine gate_callee (f := 40) rfl ?_); refine gC (some 218) Tryz.func40 (laws_sameTable.calls (hr0 := sC HO1140) (hc0 := sL HO1140) (hr1 := sC HO1130) (hc1 := sL HO1130) (w := _) (h := A109.out)) ?_; intro w110 _))
      go_ret
      exact ⟨y0_17, UpW.out⟩
     replace c91 := Bool.eq_false_iff.mpr c91; subst c91
     rw [if_neg Bool.false_ne_true] at H
     by_cases c111 : t1141 = true
     ·
      subst c111
      rw [if_pos rfl] at H
      obtain ⟨⟨t1238, t1239, t1240⟩, A112, H⟩ := oB H; (try dsimp only at H); have H' := Aside0.mk H; clear H
      go_upto_region 27 with (first | ((with_reducible refine gate_callee (f := 42) rfl ?_); refine gC1 (some 224) Tryz.func42 (impl_TableGet.calls (hr0 := sC HO1140) (hc0 := sL HO1140) (w := _) (h := A112.out)) ?_; intro Ao1241 co1241 w113 _ HO1242) | ((with_reducible refine gd 33 ?_); refine bL 33 #[.int .i64 0, .string (⟨#[]⟩ : ByteArray), .slice none 0 0] 48 ?_; intro gb1243 w114 _ _ _))
      have H := H'.out; clear H'; obtain ⟨t1244, A115, H⟩ := oB H; (try dsimp only at H)
      by_cases c116 : t1244 = true
      rotate_left
      ·
       replace c116 := Bool.eq_false_iff.mpr c116; subst c116
       rw [if_neg Bool.false_ne_true] at H
       exact absurd (hrt.out.symm.trans (Option.some.inj H).symm) (by decide)
      subst c116
      rw [if_pos rfl] at H
      obtain ⟨t1245, A117, H⟩ := oB H; (try dsimp only at H); obtain rfl := Option.some.inj H
      try go_wp2
      refine sB [] laws_FnParts.tab27 laws_FnParts.bits27 ?_; intro w118 _ HT_ HW_
      refine tB 0 (some 225) (bz 15 1) HT_ HW_ ?_
      refine pA 1 (some 226) (bz 15 3) HT_ ?_
      refine o1 2 (some 227) (bz 15 7) HT_ rfl (kC Tryz.func46 (impl_TableOk.calls (hr1 := sC HO1140) (hc1 := sL HO1140) (w := _) (h := A115.out)) ?_); intro w119 _
      refine nA (some 227) ?_
      refine pA 3 (some 228) (bz 15 15) HT_ ?_
      refine pA 4 (some 229) (bz 15 31) HT_ ?_
      refine tB 5 (some 230) (bz 15 63) HT_ HW_ ?_
      refine pA 6 (some 231) (bz 15 127) HT_ ?_
      refine tB 7 (some 232) (bz 15 255) HT_ HW_ ?_
      refine pA 9 (some 234) (bz 15 767) HT_ ?_
      refine tB 10 (some 235) (bz 15 1791) HT_ HW_ ?_
      refine pA 11 (some 236) (bz 15 3839) HT_ ?_
      refine o1 8 (some 233) (bz 15 4095) HT_ rfl (kD Tryz.func52 (impl_Common.calls (hr0 := rC HO1135) (hc0 := rL HO1135) (hr1 := rC HO1242) (hc1 := rL HO1242) (w := _) (h := A117.out)) ?_); intro w120 _
      refine nA (some 233) ?_
      refine pA 12 (some 237) (bz 15 0x1fff) HT_ ?_
      refine pA 13 (some 238) (bz 15 0x3fff) HT_ ?_
      refine pA 14 (some 2) (bz 15 0x7fff) HT_ ?_
      refine done_ (done_of HT_.out (by kernel_rfl)) ?_
      try go_wp2
      go_ret
      exact ⟨y0_17, UpW.out⟩
     replace c111 := Bool.eq_false_iff.mpr c111; subst c111
     rw [if_neg Bool.false_ne_true] at H
     obtain ⟨t1246, A121, H⟩ := oB H; (try dsimp only at H); obtain rfl := Option.some.inj H
     go_wp2_with (first | ((with_reducible refine gate_callee (f := 40) rfl ?_); refine gC (some 218) Tryz.func40 (laws_sameTable.calls (hr0 := sC HO1140) (hc0 := sL HO1140) (hr1 := sC HO1130) (hc1 := sL HO1130) (w := _) (h := A121.out)) ?_; intro w122 _))
     go_ret
     exact ⟨y0_17, UpW.out⟩
    replace c87 := Bool.eq_false_iff.mpr c87; subst c87
    rw [if_neg Bool.false_ne_true] at H
    have H' := Aside0.mk H; clear H
    go_upto_if 199 with (first | (go_at_call 51; refine aD (impl_SetOk.calls (hr1 := rC HO1104) (hc1 := rL HO1104) (w := _) (h := A86.out)) ?_; intro w123 _))
    have H := H'.out; clear H'
    by_cases c124 : t1141 = true
    ·
     subst c124
     rw [if_pos rfl] at H
     obtain ⟨⟨t1247, t1248, t1249⟩, A125, H⟩ := oB H; (try dsimp only at H); have H' := Aside0.mk H; clear H
     go_upto_region 27 with (first | ((with_reducible refine gate_callee (f := 42) rfl ?_); refine gC1 (some 224) Tryz.func42 (impl_TableGet.calls (hr0 := sC HO1140) (hc0 := sL HO1140) (w := _) (h := A125.out)) ?_; intro Ao1250 co1250 w126 _ HO1251) | ((with_reducible refine gd 33 ?_); refine bL 33 #[.int .i64 0, .string (⟨#[]⟩ : ByteArray), .slice none 0 0] 48 ?_; intro gb1252 w127 _ _ _))
     have H := H'.out; clear H'; obtain ⟨t1253, A128, H⟩ := oB H; (try dsimp only at H)
     by_cases c129 : t1253 = true
     rotate_left
     ·
      replace c129 := Bool.eq_false_iff.mpr c129; subst c129
      rw [if_neg Bool.false_ne_true] at H
      exact absurd (hrt.out.symm.trans (Option.some.inj H).symm) (by decide)
     subst c129
     rw [if_pos rfl] at H
     obtain ⟨t1254, A130, H⟩ := oB H; (try dsimp only at H); obtain rfl := Option.some.inj H
     try go_wp2
     refine sB [] laws_FnParts.tab27 laws_FnParts.bits27 ?_; intro w131 _ HT_ HW_
     refine tB 0 (some 225) (bz 15 1) HT_ HW_ ?_
     refine pA 1 (some 226) (bz 15 3) HT_ ?_
     refine o1 2 (some 227) (bz 15 7) HT_ rfl (kC Tryz.func46 (impl_TableOk.calls (hr1 := sC HO1140) (hc1 := sL HO1140) (w := _) (h := A128.out)) ?_); intro w132 _
     refine nA (some 227) ?_
     refine pA 3 (some 228) (bz 15 15) HT_ ?_
     refine pA 4 (some 229) (bz 15 31) HT_ ?_
     refine tB 5 (some 230) (bz 15 63) HT_ HW_ ?_
     refine pA 6 (some 231) (bz 15 127) HT_ ?_
     refine tB 7 (some 232) (bz 15 255) HT_ HW_ ?_
     refine pA 9 (some 234) (bz 15 767) HT_ ?_
     refine tB 10 (some 235) (bz 15 1791) HT_ HW_ ?_
     refine pA 11 (some 236) (bz 15 3839) HT_ ?_
     refine o1 8 (some 233) (bz 15 4095) HT_ rfl (kD Tryz.func52 (impl_Common.calls (hr0 := rC HO1135) (hc0 := rL HO1135) (hr1 := rC HO1251) (hc1 := rL HO1251) (w := _) (h := A130.out)) ?_); intro w133 _
     refine nA (some 233) ?_
     refine pA 12 (some 237) (bz 15 0x1fff) HT_ ?_
     refine pA 13 (some 238) (bz 15 0x3fff) HT_ ?_
     refine pA 14 (some 2) (bz 15 0x7fff) HT_ ?_
     refine done_ (done_of HT_.out (by kernel_rfl)) ?_
     try go_wp2
     go_ret
     exact ⟨y0_17, UpW.out⟩
    replace c124 := Bool.eq_false_iff.mpr c124; subst c124
    rw [if_neg Bool.false_ne_true] at H
    obtain ⟨t1255, A134, H⟩ := oB H; (try dsimp only at H); obtain rfl := Option.some.inj H
    go_wp2_with (first | ((with_reducible refine gate_callee (f := 40) rfl ?_); refine gC (some 218) Tryz.func40 (laws_sameTable.calls (hr0 := sC HO1140) (hc0 := sL HO1140) (hr1 := sC HO1130) (hc1 := sL HO1130) (w := _) (h := A134.out)) ?_; intro w135 _))
    go_ret
    exact ⟨y0_17, UpW.out⟩
   replace c85 := Bool.eq_false_iff.mpr c85; subst c85
   rw [if_neg Bool.false_ne_true] at H
   by_cases c136 : t1141 = true
   ·
    subst c136
    rw [if_pos rfl] at H
    obtain ⟨⟨t1256, t1257, t1258⟩, A137, H⟩ := oB H; (try dsimp only at H); have H' := Aside0.mk H; clear H
    go_upto_region 27 with (first | ((with_reducible refine gate_callee (f := 42) rfl ?_); refine gC1 (some 224) Tryz.func42 (impl_TableGet.calls (hr0 := sC HO1140) (hc0 := sL HO1140) (w := _) (h := A137.out)) ?_; intro Ao1259 co1259 w138 _ HO1260) | ((with_reducible refine gd 33 ?_); refine bL 33 #[.int .i64 0, .string (⟨#[]⟩ : ByteArray), .slice none 0 0] 48 ?_; intro gb1261 w139 _ _ _))
    have H := H'.out; clear H'; obtain ⟨t1262, A140, H⟩ := oB H; (try dsimp only at H)
    by_cases c141 : t1262 = true
    rotate_left
    ·
     replace c141 := Bool.eq_false_iff.mpr c141; subst c141
     rw [if_neg Bool.false_ne_true] at H
     exact absurd (hrt.out.symm.trans (Option.some.inj H).symm) (by decide)
    subst c141
    rw [if_pos rfl] at H
    obtain ⟨t1263, A142, H⟩ := oB H; (try dsimp only at H); obtain rfl := Option.some.inj H
    try go_wp2
    refine sB [] laws_FnParts.tab27 laws_FnParts.bits27 ?_; intro w143 _ HT_ HW_
    refine tB 0 (some 225) (bz 15 1) HT_ HW_ ?_
    refine pA 1 (some 226) (bz 15 3) HT_ ?_
    refine o1 2 (some 227) (bz 15 7) HT_ rfl (kC Tryz.func46 (impl_TableOk.calls (hr1 := sC HO1140) (hc1 := sL HO1140) (w := _) (h := A140.out)) ?_); intro w144 _
    refine nA (some 227) ?_
    refine pA 3 (some 228) (bz 15 15) HT_ ?_
    refine pA 4 (some 229) (bz 15 31) HT_ ?_
    refine tB 5 (some 230) (bz 15 63) HT_ HW_ ?_
    refine pA 6 (some 231) (bz 15 127) HT_ ?_
    refine tB 7 (some 232) (bz 15 255) HT_ HW_ ?_
    refine pA 9 (some 234) (bz 15 767) HT_ ?_
    refine tB 10 (some 235) (bz 15 1791) HT_ HW_ ?_
    refine pA 11 (some 236) (bz 15 3839) HT_ ?_
    refine o1 8 (some 233) (bz 15 4095) HT_ rfl (kD Tryz.func52 (impl_Common.calls (hr0 := rC HO1135) (hc0 := rL HO1135) (hr1 := rC HO1260) (hc1 := rL HO1260) (w := _) (h := A142.out)) ?_); intro w145 _
    refine nA (some 233) ?_
    refine pA 12 (some 237) (bz 15 0x1fff) HT_ ?_
    refine pA 13 (some 238) (bz 15 0x3fff) HT_ ?_
    refine pA 14 (some 2) (bz 15 0x7fff) HT_ ?_
    refine done_ (done_of HT_.out (by kernel_rfl)) ?_
    try go_wp2
    go_ret
    exact ⟨y0_17, UpW.out⟩
   replace c136 := Bool.eq_false_iff.mpr c136; subst c136
   rw [if_neg Bool.false_ne_true] at H
   obtain ⟨t1264, A146, H⟩ := oB H; (try dsimp only at H); obtain rfl := Option.some.inj H
   go_wp2_with (first | ((with_reducible refine gate_callee (f := 40) rfl ?_); refine gC (some 218) Tryz.func40 (laws_sameTable.calls (hr0 := sC HO1140) (hc0 := sL HO1140) (hr1 := sC HO1130) (hc1 := sL HO1130) (w := _) (h := A146.out)) ?_; intro w147 _))
   go_ret
   exact ⟨y0_17, UpW.out⟩
  replace c81 := Bool.eq_false_iff.mpr c81; subst c81
  rw [if_neg Bool.false_ne_true] at H
  by_cases c148 : t1117 = true
  ·
   subst c148
   rw [if_pos rfl] at H
   obtain ⟨t1265, A149, H⟩ := oB H; (try dsimp only at H)
   by_cases c150 : t1265 = true
   ·
    subst c150
    rw [if_pos rfl] at H
    obtain ⟨t1266, A151, H⟩ := oB H; (try dsimp only at H); have H' := Aside0.mk H; clear H
    go_upto_if 199 with (first | (go_at_call 51; refine aD (impl_SetOk.calls (hr1 := rC HO1104) (hc1 := rL HO1104) (w := _) (h := A149.out)) ?_; intro w152 _) | (go_at_call 51; refine aD (impl_SetOk.calls (hr1 := rC HO1109) (hc1 := rL HO1109) (w := _) (h := A151.out)) ?_; intro w153 _))
    have H := H'.out; clear H'
    by_cases c154 : t1266 = true
    ·
     subst c154
     rw [if_pos rfl] at H
     obtain ⟨⟨t1267, t1268, t1269, t1272⟩, A155, H⟩ := oB H; (try dsimp only at H); have H' := Aside0.mk H; clear H
     go_upto_region 22 with (first | ((with_reducible refine gate_callee (f := 29) rfl ?_); refine gC1 (some 203) Tryz.func29 (impl_PartJoin.calls (hr0_2 := rC HO1109) (hc0_2 := rL HO1109) (hr1_2 := rC HO1104) (hc1_2 := rL HO1104) (w := _) (h := A155.out)) ?_; intro Ao1270 co1270 w156 _ HO1271) | ((with_reducible refine gd 31 ?_); refine bL 31 #[.int .i64 0, .string (⟨#[]⟩ : ByteArray), .slice none 0 0] 48 ?_; intro gb1273 w157 _ _ _))
     have H := H'.out; clear H'
     by_cases c158 : t1272 = true
     rotate_left
     ·
      replace c158 := Bool.eq_false_iff.mpr c158; subst c158
      rw [if_neg Bool.false_ne_true] at H
      exact absurd (hrt.out.symm.trans (Option.some.inj H).symm) (by decide)
     subst c158
     rw [if_pos rfl] at H
     obtain ⟨t1274, A159, H⟩ := oB H; (try dsimp only at H); have H' := Aside0.mk H; clear H
     go_upto_if 213 with (first | (go_at_call 39; refine aC (laws_samePart.calls (hr0_2 := rC HO1271) (hc0_2 := rL HO1271) (hr1_2 := rC HO1116) (hc1_2 := rL HO1116) (w := _) (h := A159.out)) ?_; intro w160 _))
     have H := H'.out; clear H'
     by_cases c161 : t1274 = true
     rotate_left
     ·
      replace c161 := Bool.eq_false_iff.mpr c161; subst c161
      rw [if_neg Bool.false_ne_true] at H
      exact absurd (hrt.out.symm.trans (Option.some.inj H).symm) (by decide)
     subst c161
     rw [if_pos rfl] at H
     by_cases c162 : t1141 = true
     ·
      subst c162
      rw [if_pos rfl] at H
      obtain ⟨⟨t1275, t1276, t1277⟩, A163, H⟩ := oB H; (try dsimp only at H); have H' := Aside0.mk H; clear H
      go_upto_region 27 with (first | ((with_reducible refine gate_callee (f := 42) rfl ?_); refine gC1 (some 224) Tryz.func42 (impl_TableGet.calls (hr0 := sC HO1140) (hc0 := sL HO1140) (w := _) (h := A163.out)) ?_; intro Ao1278 co1278 w164 _ HO1279) | ((with_reducible refine gd 33 ?_); refine bL 33 #[.int .i64 0, .string (⟨#[]⟩ : ByteArray), .slice none 0 0] 48 ?_; intro gb1280 w165 _ _ _))
      have H := H'.out; clear H'; obtain ⟨t1281, A166, H⟩ := oB H; (try dsimp only at H)
      by_cases c167 : t1281 = true
      rotate_left
      ·
       replace c167 := Bool.eq_false_iff.mpr c167; subst c167
       rw [if_neg Bool.false_ne_true] at H
       exact absurd (hrt.out.symm.trans (Option.some.inj H).symm) (by decide)
      subst c167
      rw [if_pos rfl] at H
      obtain ⟨t1282, A168, H⟩ := oB H; (try dsimp only at H); obtain rfl := Option.some.inj H
      try go_wp2
      refine sB [] laws_FnParts.tab27 laws_FnParts.bits27 ?_; intro w169 _ HT_ HW_
      refine tB 0 (some 225) (bz 15 1) HT_ HW_ ?_
      refine pA 1 (some 226) (bz 15 3) HT_ ?_
      refine o1 2 (some 227) (bz 15 7) HT_ rfl (kC Tryz.func46 (impl_TableOk.calls (hr1 := sC HO1140) (hc1 := sL HO1140) (w := _) (h := A166.out)) ?_); intro w170 _
      refine nA (some 227) ?_
      refine pA 3 (some 228) (bz 15 15) HT_ ?_
      refine pA 4 (some 229) (bz 15 31) HT_ ?_
      refine tB 5 (some 230) (bz 15 63) HT_ HW_ ?_
      refine pA 6 (some 231) (bz 15 127) HT_ ?_
      refine tB 7 (some 232) (bz 15 255) HT_ HW_ ?_
      refine pA 9 (some 234) (bz 15 767) HT_ ?_
      refine tB 10 (some 235) (bz 15 1791) HT_ HW_ ?_
      refine pA 11 (some 236) (bz 15 3839) HT_ ?_
      refine o1 8 (some 233) (bz 15 4095) HT_ rfl (kD Tryz.func52 (impl_Common.calls (hr0 := rC HO1135) (hc0 := rL HO1135) (hr1 := rC HO1279) (hc1 := rL HO1279) (w := _) (h := A168.out)) ?_); intro w171 _
      refine nA (some 233) ?_
      refine pA 12 (some 237) (bz 15 0x1fff) HT_ ?_
      refine pA 13 (some 238) (bz 15 0x3fff) HT_ ?_
      refine pA 14 (some 2) (bz 15 0x7fff) HT_ ?_
      refine done_ (done_of HT_.out (by kernel_rfl)) ?_
      try go_wp2
      go_ret
      exact ⟨y0_17, UpW.out⟩
     replace c162 := Bool.eq_false_iff.mpr c162; subst c162
     rw [if_neg Bool.false_ne_true] at H
     obtain ⟨t1283, A172, H⟩ := oB H; (try dsimp only at H); obtain rfl := Option.some.inj H
     go_wp2_with (first | ((with_reducible refine gate_callee (f := 40) rfl ?_); refine gC (some 218) Tryz.func40 (laws_sameTable.calls (hr0 := sC HO1140) (hc0 := sL HO1140) (hr1 := sC HO1130) (hc1 := sL HO1130) (w := _) (h := A172.out)) ?_; intro w173 _))
     go_ret
     exact ⟨y0_17, UpW.out⟩
    replace c154 := Bool.eq_false_iff.mpr c154; subst c154
    rw [if_neg Bool.false_ne_true] at H
    by_cases c174 : t1141 = true
    ·
     subst c174
     rw [if_pos rfl] at H
     obtain ⟨⟨t1284, t1285, t1286⟩, A175, H⟩ := oB H; (try dsimp only at H); have H' := Aside0.mk H; clear H
     go_upto_region 27 with (first | ((with_reducible refine gate_callee (f := 42) rfl ?_); refine gC1 (some 224) Tryz.func42 (impl_TableGet.calls (hr0 := sC HO1140) (hc0 := sL HO1140) (w := _) (h := A175.out)) ?_; intro Ao1287 co1287 w176 _ HO1288) | ((with_reducible refine gd 33 ?_); refine bL 33 #[.int .i64 0, .string (⟨#[]⟩ : ByteArray), .slice none 0 0] 48 ?_; intro gb1289 w177 _ _ _))
     have H := H'.out; clear H'; obtain ⟨t1290, A178, H⟩ := oB H; (try dsimp only at H)
     by_cases c179 : t1290 = true
     rotate_left
     ·
      replace c179 := Bool.eq_false_iff.mpr c179; subst c179
      rw [if_neg Bool.false_ne_true] at H
      exact absurd (hrt.out.symm.trans (Option.some.inj H).symm) (by decide)
     subst c179
     rw [if_pos rfl] at H
     obtain ⟨t1291, A180, H⟩ := oB H; (try dsimp only at H); obtain rfl := Option.some.inj H
     try go_wp2
     refine sB [] laws_FnParts.tab27 laws_FnParts.bits27 ?_; intro w181 _ HT_ HW_
     refine tB 0 (some 225) (bz 15 1) HT_ HW_ ?_
     refine pA 1 (some 226) (bz 15 3) HT_ ?_
     refine o1 2 (some 227) (bz 15 7) HT_ rfl (kC Tryz.func46 (impl_TableOk.calls (hr1 := sC HO1140) (hc1 := sL HO1140) (w := _) (h := A178.out)) ?_); intro w182 _
     refine nA (some 227) ?_
     refine pA 3 (some 228) (bz 15 15) HT_ ?_
     refine pA 4 (some 229) (bz 15 31) HT_ ?_
     refine tB 5 (some 230) (bz 15 63) HT_ HW_ ?_
     refine pA 6 (some 231) (bz 15 127) HT_ ?_
     refine tB 7 (some 232) (bz 15 255) HT_ HW_ ?_
     refine pA 9 (some 234) (bz 15 767) HT_ ?_
     refine tB 10 (some 235) (bz 15 1791) HT_ HW_ ?_
     refine pA 11 (some 236) (bz 15 3839) HT_ ?_
     refine o1 8 (some 233) (bz 15 4095) HT_ rfl (kD Tryz.func52 (impl_Common.calls (hr0 := rC HO1135) (hc0 := rL HO1135) (hr1 := rC HO1288) (hc1 := rL HO1288) (w := _) (h := A180.out)) ?_); intro w183 _
     refine nA (some 233) ?_
     refine pA 12 (some 237) (bz 15 0x1fff) HT_ ?_
     refine pA 13 (some 238) (bz 15 0x3fff) HT_ ?_
     refine pA 14 (some 2) (bz 15 0x7fff) HT_ ?_
     refine done_ (done_of HT_.out (by kernel_rfl)) ?_
     try go_wp2
     go_ret
     exact ⟨y0_17, UpW.out⟩
    replace c174 := Bool.eq_false_iff.mpr c174; subst c174
    rw [if_neg Bool.false_ne_true] at H
    obtain ⟨t1292, A184, H⟩ := oB H; (try dsimp only at H); obtain rfl := Option.some.inj H
    go_wp2_with (first | ((with_reducible refine gate_callee (f := 40) rfl ?_); refine gC (some 218) Tryz.func40 (laws_sameTable.calls (hr0 := sC HO1140) (hc0 := sL HO1140) (hr1 := sC HO1130) (hc1 := sL HO1130) (w := _) (h := A184.out)) ?_; intro w185 _))
    go_ret
    exact ⟨y0_17, UpW.out⟩
   replace c150 := Bool.eq_false_iff.mpr c150; subst c150
   rw [if_neg Bool.false_ne_true] at H
   have H' := Aside0.mk H; clear H
   go_upto_if 199 with (first | (go_at_call 51; refine aD (impl_SetOk.calls (hr1 := rC HO1104) (hc1 := rL HO1104) (w := _) (h := A149.out)) ?_; intro w186 _))
   have H := H'.out; clear H'
   by_cases c187 : t1141 = true
   ·
    subst c187
    rw [if_pos rfl] at H
    obtain ⟨⟨t1293, t1294, t1295⟩, A188, H⟩ := oB H; (try dsimp only at H); have H' := Aside0.mk H; clear H
    go_upto_region 27 with (first | ((with_reducible refine gate_callee (f := 42) rfl ?_); refine gC1 (some 224) Tryz.func42 (impl_TableGet.calls (hr0 := sC HO1140) (hc0 := sL HO1140) (w := _) (h := A188.out)) ?_; intro Ao1296 co1296 w189 _ HO1297) | ((with_reducible refine gd 33 ?_); refine bL 33 #[.int .i64 0, .string (⟨#[]⟩ : ByteArray), .slice none 0 0] 48 ?_; intro gb1298 w190 _ _ _))
    have H := H'.out; clear H'; obtain ⟨t1299, A191, H⟩ := oB H; (try dsimp only at H)
    by_cases c192 : t1299 = true
    rotate_left
    ·
     replace c192 := Bool.eq_false_iff.mpr c192; subst c192
     rw [if_neg Bool.false_ne_true] at H
     exact absurd (hrt.out.symm.trans (Option.some.inj H).symm) (by decide)
    subst c192
    rw [if_pos rfl] at H
    obtain ⟨t1300, A193, H⟩ := oB H; (try dsimp only at H); obtain rfl := Option.some.inj H
    try go_wp2
    refine sB [] laws_FnParts.tab27 laws_FnParts.bits27 ?_; intro w194 _ HT_ HW_
    refine tB 0 (some 225) (bz 15 1) HT_ HW_ ?_
    refine pA 1 (some 226) (bz 15 3) HT_ ?_
    refine o1 2 (some 227) (bz 15 7) HT_ rfl (kC Tryz.func46 (impl_TableOk.calls (hr1 := sC HO1140) (hc1 := sL HO1140) (w := _) (h := A191.out)) ?_); intro w195 _
    refine nA (some 227) ?_
    refine pA 3 (some 228) (bz 15 15) HT_ ?_
    refine pA 4 (some 229) (bz 15 31) HT_ ?_
    refine tB 5 (some 230) (bz 15 63) HT_ HW_ ?_
    refine pA 6 (some 231) (bz 15 127) HT_ ?_
    refine tB 7 (some 232) (bz 15 255) HT_ HW_ ?_
    refine pA 9 (some 234) (bz 15 767) HT_ ?_
    refine tB 10 (some 235) (bz 15 1791) HT_ HW_ ?_
    refine pA 11 (some 236) (bz 15 3839) HT_ ?_
    refine o1 8 (some 233) (bz 15 4095) HT_ rfl (kD Tryz.func52 (impl_Common.calls (hr0 := rC HO1135) (hc0 := rL HO1135) (hr1 := rC HO1297) (hc1 := rL HO1297) (w := _) (h := A193.out)) ?_); intro w196 _
    refine nA (some 233) ?_
    refine pA 12 (some 237) (bz 15 0x1fff) HT_ ?_
    refine pA 13 (some 238) (bz 15 0x3fff) HT_ ?_
    refine pA 14 (some 2) (bz 15 0x7fff) HT_ ?_
    refine done_ (done_of HT_.out (by kernel_rfl)) ?_
    try go_wp2
    go_ret
    exact ⟨y0_17, UpW.out⟩
   replace c187 := Bool.eq_false_iff.mpr c187; subst c187
   rw [if_neg Bool.false_ne_true] at H
   obtain ⟨t1301, A197, H⟩ := oB H; (try dsimp only at H); obtain rfl := Option.some.inj H
   go_wp2_with (first | ((with_reducible refine gate_callee (f := 40) rfl ?_); refine gC (some 218) Tryz.func40 (laws_sameTable.calls (hr0 := sC HO1140) (hc0 := sL HO1140) (hr1 := sC HO1130) (hc1 := sL HO1130) (w := _) (h := A197.out)) ?_; intro w198 _))
   go_ret
   exact ⟨y0_17, UpW.out⟩
  replace c148 := Bool.eq_false_iff.mpr c148; subst c148
  rw [if_neg Bool.false_ne_true] at H
  by_cases c199 : t1141 = true
  ·
   subst c199
   rw [if_pos rfl] at H
   obtain ⟨⟨t1302, t1303, t1304⟩, A200, H⟩ := oB H; (try dsimp only at H); have H' := Aside0.mk H; clear H
   go_upto_region 27 with (first | ((with_reducible refine gate_callee (f := 42) rfl ?_); refine gC1 (some 224) Tryz.func42 (impl_TableGet.calls (hr0 := sC HO1140) (hc0 := sL HO1140) (w := _) (h := A200.out)) ?_; intro Ao1305 co1305 w201 _ HO1306) | ((with_reducible refine gd 33 ?_); refine bL 33 #[.int .i64 0, .string (⟨#[]⟩ : ByteArray), .slice none 0 0] 48 ?_; intro gb1307 w202 _ _ _))
   have H := H'.out; clear H'; obtain ⟨t1308, A203, H⟩ := oB H; (try dsimp only at H)
   by_cases c204 : t1308 = true
   rotate_left
   ·
    replace c204 := Bool.eq_false_iff.mpr c204; subst c204
    rw [if_neg Bool.false_ne_true] at H
    exact absurd (hrt.out.symm.trans (Option.some.inj H).symm) (by decide)
   subst c204
   rw [if_pos rfl] at H
   obtain ⟨t1309, A205, H⟩ := oB H; (try dsimp only at H); obtain rfl := Option.some.inj H
   try go_wp2
   refine sB [] laws_FnParts.tab27 laws_FnParts.bits27 ?_; intro w206 _ HT_ HW_
   refine tB 0 (some 225) (bz 15 1) HT_ HW_ ?_
   refine pA 1 (some 226) (bz 15 3) HT_ ?_
   refine o1 2 (some 227) (bz 15 7) HT_ rfl (kC Tryz.func46 (impl_TableOk.calls (hr1 := sC HO1140) (hc1 := sL HO1140) (w := _) (h := A203.out)) ?_); intro w207 _
   refine nA (some 227) ?_
   refine pA 3 (some 228) (bz 15 15) HT_ ?_
   refine pA 4 (some 229) (bz 15 31) HT_ ?_
   refine tB 5 (some 230) (bz 15 63) HT_ HW_ ?_
   refine pA 6 (some 231) (bz 15 127) HT_ ?_
   refine tB 7 (some 232) (bz 15 255) HT_ HW_ ?_
   refine pA 9 (some 234) (bz 15 767) HT_ ?_
   refine tB 10 (some 235) (bz 15 1791) HT_ HW_ ?_
   refine pA 11 (some 236) (bz 15 3839) HT_ ?_
   refine o1 8 (some 233) (bz 15 4095) HT_ rfl (kD Tryz.func52 (impl_Common.calls (hr0 := rC HO1135) (hc0 := rL HO1135) (hr1 := rC HO1306) (hc1 := rL HO1306) (w := _) (h := A205.out)) ?_); intro w208 _
   refine nA (some 233) ?_
   refine pA 12 (some 237) (bz 15 0x1fff) HT_ ?_
   refine pA 13 (some 238) (bz 15 0x3fff) HT_ ?_
   refine pA 14 (some 2) (bz 15 0x7fff) HT_ ?_
   refine done_ (done_of HT_.out (by kernel_rfl)) ?_
   try go_wp2
   go_ret
   exact ⟨y0_17, UpW.out⟩
  replace c199 := Bool.eq_false_iff.mpr c199; subst c199
  rw [if_neg Bool.false_ne_true] at H
  obtain ⟨t1310, A209, H⟩ := oB H; (try dsimp only at H); obtain rfl := Option.some.inj H
  go_wp2_with (first | ((with_reducible refine gate_callee (f := 40) rfl ?_); refine gC (some 218) Tryz.func40 (laws_sameTable.calls (hr0 := sC HO1140) (hc0 := sL HO1140) (hr1 := sC HO1130) (hc1 := sL HO1130) (w := _) (h := A209.out)) ?_; intro w210 _))
  go_ret
  exact ⟨y0_17, UpW.out⟩
 replace c46 := Bool.eq_false_iff.mpr c46; subst c46
 rw [if_neg Bool.false_ne_true] at H
 exact absurd (hrt.out.symm.trans (Option.some.inj H).symm) (by decide)
end Go.Proofs.YtdmjhgogljhfkaaGreatDoor.PFnParts
