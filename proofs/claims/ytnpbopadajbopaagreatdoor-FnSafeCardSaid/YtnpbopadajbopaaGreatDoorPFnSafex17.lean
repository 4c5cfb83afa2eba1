-- By a program of this session, out of the translation (the print of the kit, with turns of its own). Lean checks it.
import Derived.Test.YtnpbopadajbopaaGreatDoorPFnSafex0
import Derived.Test.YtnpbopadajbopaaGreatDoorPFnSafex1
import Derived.Test.YtnpbopadajbopaaGreatDoorPFnSafex7
import Derived.Test.YtnpbopadajbopaaGreatDoorPFnSafex8
import Derived.Test.YtnpbopadajbopaaGreatDoorPFnSafex9
import Derived.Test.YtnpbopadajbopaaGreatDoorPFnSafex10
import Derived.Test.YtnpbopadajbopaaGreatDoorPFnSafex12
import Derived.Test.YtnpbopadajbopaaGreatDoorPFnSafex13
import Derived.Test.YtnpbopadajbopaaGreatDoorPFnSafex14
import Derived.Test.YtnpbopadajbopaaGreatDoorPFnSafex15
import Derived.Test.YtnpbopadajbopaaGreatDoorPFnSafex16
namespace Go.Proofs.YtnpbopadajbopaaGreatDoor.PFnSafe
open Go.RowKit Go.Proofs.YtnpbopadajbopaaGreatDoorW.PrintWords Go.Proofs.YtnpbopadajbopaaGreatDoorW.PrintLast Go.Proofs.YtnpbopadajbopaaGreatDoorW.PrintMore
attribute [local go_sem] max2_int min2_int max_two min_two max_three min_three max_four min_four   -- for this text's walks alone
attribute [local go_sem] cell_in frozen_in
set_option synthInstance.maxSize 1000000
set_option synthInstance.maxHeartbeats 2000000
set_option linter.unusedVariables false
set_option linter.unusedSimpArgs false

/-! ### laws_FnSafe: function 5 -/
def laws_FnSafe.f (k : Nat) (l0 : List Int) : Option (Bool) := (laws_big.f l0).bind fun t1042 => (if t1042 = true then (some true) else ((spec_DrawSee.f k l0).bind fun bt1043 => ((impl_See.f k bt1043.1 bt1043.2.1 bt1043.2.2.1 bt1043.2.2.2.1 bt1043.2.2.2.2.1 bt1043.2.2.2.2.2.1 bt1043.2.2.2.2.2.2.1 bt1043.2.2.2.2.2.2.2.1 bt1043.2.2.2.2.2.2.2.2.1 bt1043.2.2.2.2.2.2.2.2.2.1 bt1043.2.2.2.2.2.2.2.2.2.2).bind fun bt1061 => ((spec_DrawVote.f k l0).bind fun bt1070 => ((impl_Vote.f k bt1070.1 bt1070.2.1 bt1070.2.2.1 bt1070.2.2.2.1 bt1070.2.2.2.2.1 bt1070.2.2.2.2.2.1 bt1070.2.2.2.2.2.2.1 bt1070.2.2.2.2.2.2.2.1 bt1070.2.2.2.2.2.2.2.2.1 bt1070.2.2.2.2.2.2.2.2.2.1 bt1070.2.2.2.2.2.2.2.2.2.2.1 bt1070.2.2.2.2.2.2.2.2.2.2.2).bind fun bt1089 => ((spec_Vote.f k bt1070.1 bt1070.2.1 bt1070.2.2.1 bt1070.2.2.2.1 bt1070.2.2.2.2.1 bt1070.2.2.2.2.2.1 bt1070.2.2.2.2.2.2.1 bt1070.2.2.2.2.2.2.2.1 bt1070.2.2.2.2.2.2.2.2.1 bt1070.2.2.2.2.2.2.2.2.2.1 bt1070.2.2.2.2.2.2.2.2.2.2.1 bt1070.2.2.2.2.2.2.2.2.2.2.2).bind fun bt1099 => ((spec_DrawSafeSame.f k l0).bind fun bt1109 => ((spec_DrawSettles.f k l0).bind fun t1127 => ((impl_Settles.f k t1127).bind fun bt1128 => ((spec_Settles.f k t1127).bind fun bt1130 => ((spec_See.f k bt1043.1 bt1043.2.1 bt1043.2.2.1 bt1043.2.2.2.1 bt1043.2.2.2.2.1 bt1043.2.2.2.2.2.1 bt1043.2.2.2.2.2.2.1 bt1043.2.2.2.2.2.2.2.1 bt1043.2.2.2.2.2.2.2.2.1 bt1043.2.2.2.2.2.2.2.2.2.1 bt1043.2.2.2.2.2.2.2.2.2.2).bind fun bt1132 => ((impl_SafeSame.f k bt1061.1 bt1061.2.1 bt1061.2.2.1 bt1061.2.2.2.1 bt1061.2.2.2.2.1 bt1061.2.2.2.2.2 bt1132.1 bt1132.2.1 bt1132.2.2.1 bt1132.2.2.2.1 bt1132.2.2.2.2.1 bt1132.2.2.2.2.2).bind fun t1140 => (if t1140 = true then (if (bt1089.2.2.2.2.2.2 != bt1099.2.2.2.2.2.2) = true then (some false) else ((impl_SafeSame.f k bt1089.1 bt1089.2.1 bt1089.2.2.1 bt1089.2.2.2.1 bt1089.2.2.2.2.1 bt1089.2.2.2.2.2.1 bt1099.1 bt1099.2.1 bt1099.2.2.1 bt1099.2.2.2.1 bt1099.2.2.2.2.1 bt1099.2.2.2.2.2.1).bind fun t1141 => (if t1141 = true then ((impl_SafeSame.f k bt1109.1 bt1109.2.1 bt1109.2.2.1 bt1109.2.2.2.1 bt1109.2.2.2.2.1 bt1109.2.2.2.2.2.1 bt1109.2.2.2.2.2.2.1 bt1109.2.2.2.2.2.2.2.1 bt1109.2.2.2.2.2.2.2.2.1 bt1109.2.2.2.2.2.2.2.2.2.1 bt1109.2.2.2.2.2.2.2.2.2.2.1 bt1109.2.2.2.2.2.2.2.2.2.2.2).bind fun t1142 => ((spec_SafeSame.f k bt1109.1 bt1109.2.1 bt1109.2.2.1 bt1109.2.2.2.1 bt1109.2.2.2.2.1 bt1109.2.2.2.2.2.1 bt1109.2.2.2.2.2.2.1 bt1109.2.2.2.2.2.2.2.1 bt1109.2.2.2.2.2.2.2.2.1 bt1109.2.2.2.2.2.2.2.2.2.1 bt1109.2.2.2.2.2.2.2.2.2.2.1 bt1109.2.2.2.2.2.2.2.2.2.2.2).bind fun t1143 => (if (t1142 != t1143) = true then (some false) else ((impl_SafeOk.f k bt1043.1 bt1043.2.1 bt1043.2.2.1 bt1043.2.2.2.1 bt1043.2.2.2.2.1 bt1043.2.2.2.2.2.1 bt1043.2.2.2.2.2.2.1 bt1043.2.2.2.2.2.2.2.1).bind fun t1144 => ((spec_SafeOk.f k bt1043.1 bt1043.2.1 bt1043.2.2.1 bt1043.2.2.2.1 bt1043.2.2.2.2.1 bt1043.2.2.2.2.2.1 bt1043.2.2.2.2.2.2.1 bt1043.2.2.2.2.2.2.2.1).bind fun t1145 => (if (t1144 != t1145) = true then (some false) else (if bt1128.1.toList = bt1130.1.toList then (if (bt1128.2 != bt1130.2) = true then (some false) else ((impl_MayVote.f k bt1070.1 bt1070.2.1 bt1070.2.2.1 bt1070.2.2.2.1 bt1070.2.2.2.2.1 bt1070.2.2.2.2.2.1 bt1070.2.2.2.2.2.2.1 bt1070.2.2.2.2.2.2.2.1 bt1070.2.2.2.2.2.2.2.2.1 bt1070.2.2.2.2.2.2.2.2.2.1 bt1070.2.2.2.2.2.2.2.2.2.2.1 bt1070.2.2.2.2.2.2.2.2.2.2.2).bind fun t1146 => (if (t1146 != bt1089.2.2.2.2.2.2) = true then (some false) else ((impl_SafeNew.f).bind fun bt1147 => ((spec_SafeNew.f).bind fun bt1155 => ((impl_SafeSame.f k bt1147.1 bt1147.2.1 bt1147.2.2.1 bt1147.2.2.2.1 bt1147.2.2.2.2.1 bt1147.2.2.2.2.2 bt1155.1 bt1155.2.1 bt1155.2.2.1 bt1155.2.2.2.1 bt1155.2.2.2.2.1 bt1155.2.2.2.2.2).bind fun t1163 => (if t1163 = true then (if bt1128.2 = true then ((impl_Extends.f k t1127 bt1128.1).bind fun t1164 => (if t1164 = true then ((impl_Height.f k bt1128.1).bind fun t1165 => ((impl_Height.f k t1127).bind fun t1166 => (if t1165 = (wrap64 (t1166 - 2)) then (if bt1089.2.2.2.2.2.2 = true then (if bt1089.1 ≤ bt1070.2.2.1 then (some false) else ((impl_MayVote.f k bt1070.1 bt1070.2.1 bt1089.1 bt1089.2.1 bt1089.2.2.1 bt1089.2.2.2.1 bt1089.2.2.2.2.1 bt1089.2.2.2.2.2.1 bt1070.2.2.2.2.2.2.2.2.1 bt1070.2.2.2.2.2.2.2.2.2.1 bt1070.2.2.2.2.2.2.2.2.2.2.1 bt1070.2.2.2.2.2.2.2.2.2.2.2).bind fun t1167 => (if t1167 = true then (some false) else ((impl_SafeOk.f k bt1043.1 bt1043.2.1 bt1043.2.2.1 bt1043.2.2.2.1 bt1043.2.2.2.2.1 bt1043.2.2.2.2.2.1 bt1043.2.2.2.2.2.2.1 bt1043.2.2.2.2.2.2.2.1).bind fun t1168 => (if t1168 = true then ((impl_QcOk.f k bt1043.1 bt1043.2.1 bt1043.2.2.2.2.2.2.2.2.1 bt1043.2.2.2.2.2.2.2.2.2.1 bt1043.2.2.2.2.2.2.2.2.2.2).bind fun t1169 => (if t1169 = true then ((impl_SafeOk.f k bt1043.1 bt1043.2.1 bt1061.1 bt1061.2.1 bt1061.2.2.1 bt1061.2.2.2.1 bt1061.2.2.2.2.1 bt1061.2.2.2.2.2).bind fun t1170 => (if t1170 = true then (if bt1061.2.1 ≥ bt1043.2.2.2.1 then (if bt1061.2.2.1 ≥ bt1043.2.2.2.2.1 then (if bt1061.2.2.1 ≥ bt1043.2.2.2.2.2.2.2.2.1 then ((impl_Extends.f k bt1061.2.2.2.2.2 bt1043.2.2.2.2.2.2.2.1).bind fun t1171 => (if t1171 = true then ((impl_See.f k bt1043.1 bt1043.2.1 bt1061.1 bt1061.2.1 bt1061.2.2.1 bt1061.2.2.2.1 bt1061.2.2.2.2.1 bt1061.2.2.2.2.2 bt1043.2.2.2.2.2.2.2.2.1 bt1043.2.2.2.2.2.2.2.2.2.1 bt1043.2.2.2.2.2.2.2.2.2.2).bind fun bt1172 => ((impl_SafeSame.f k bt1172.1 bt1172.2.1 bt1172.2.2.1 bt1172.2.2.2.1 bt1172.2.2.2.2.1 bt1172.2.2.2.2.2 bt1061.1 bt1061.2.1 bt1061.2.2.1 bt1061.2.2.2.1 bt1061.2.2.2.2.1 bt1061.2.2.2.2.2).bind fun t1180 => (some t1180))) else (some false))) else (some false)) else (some false)) else (some false)) else (some false))) else ((impl_SafeSame.f k bt1061.1 bt1061.2.1 bt1061.2.2.1 bt1061.2.2.2.1 bt1061.2.2.2.2.1 bt1061.2.2.2.2.2 bt1043.2.2.1 bt1043.2.2.2.1 bt1043.2.2.2.2.1 bt1043.2.2.2.2.2.1 bt1043.2.2.2.2.2.2.1 bt1043.2.2.2.2.2.2.2.1).bind fun t1181 => (some t1181)))) else ((impl_SafeSame.f k bt1061.1 bt1061.2.1 bt1061.2.2.1 bt1061.2.2.2.1 bt1061.2.2.2.2.1 bt1061.2.2.2.2.2 bt1043.2.2.1 bt1043.2.2.2.1 bt1043.2.2.2.2.1 bt1043.2.2.2.2.2.1 bt1043.2.2.2.2.2.2.1 bt1043.2.2.2.2.2.2.2.1).bind fun t1182 => (some t1182))))))) else ((impl_SafeOk.f k bt1043.1 bt1043.2.1 bt1043.2.2.1 bt1043.2.2.2.1 bt1043.2.2.2.2.1 bt1043.2.2.2.2.2.1 bt1043.2.2.2.2.2.2.1 bt1043.2.2.2.2.2.2.2.1).bind fun t1183 => (if t1183 = true then ((impl_QcOk.f k bt1043.1 bt1043.2.1 bt1043.2.2.2.2.2.2.2.2.1 bt1043.2.2.2.2.2.2.2.2.2.1 bt1043.2.2.2.2.2.2.2.2.2.2).bind fun t1184 => (if t1184 = true then ((impl_SafeOk.f k bt1043.1 bt1043.2.1 bt1061.1 bt1061.2.1 bt1061.2.2.1 bt1061.2.2.2.1 bt1061.2.2.2.2.1 bt1061.2.2.2.2.2).bind fun t1185 => (if t1185 = true then (if bt1061.2.1 ≥ bt1043.2.2.2.1 then (if bt1061.2.2.1 ≥ bt1043.2.2.2.2.1 then (if bt1061.2.2.1 ≥ bt1043.2.2.2.2.2.2.2.2.1 then ((impl_Extends.f k bt1061.2.2.2.2.2 bt1043.2.2.2.2.2.2.2.1).bind fun t1186 => (if t1186 = true then ((impl_See.f k bt1043.1 bt1043.2.1 bt1061.1 bt1061.2.1 bt1061.2.2.1 bt1061.2.2.2.1 bt1061.2.2.2.2.1 bt1061.2.2.2.2.2 bt1043.2.2.2.2.2.2.2.2.1 bt1043.2.2.2.2.2.2.2.2.2.1 bt1043.2.2.2.2.2.2.2.2.2.2).bind fun bt1187 => ((impl_SafeSame.f k bt1187.1 bt1187.2.1 bt1187.2.2.1 bt1187.2.2.2.1 bt1187.2.2.2.2.1 bt1187.2.2.2.2.2 bt1061.1 bt1061.2.1 bt1061.2.2.1 bt1061.2.2.2.1 bt1061.2.2.2.2.1 bt1061.2.2.2.2.2).bind fun t1195 => (some t1195))) else (some false))) else (some false)) else (some false)) else (some false)) else (some false))) else ((impl_SafeSame.f k bt1061.1 bt1061.2.1 bt1061.2.2.1 bt1061.2.2.2.1 bt1061.2.2.2.2.1 bt1061.2.2.2.2.2 bt1043.2.2.1 bt1043.2.2.2.1 bt1043.2.2.2.2.1 bt1043.2.2.2.2.2.1 bt1043.2.2.2.2.2.2.1 bt1043.2.2.2.2.2.2.2.1).bind fun t1196 => (some t1196)))) else ((impl_SafeSame.f k bt1061.1 bt1061.2.1 bt1061.2.2.1 bt1061.2.2.2.1 bt1061.2.2.2.2.1 bt1061.2.2.2.2.2 bt1043.2.2.1 bt1043.2.2.2.1 bt1043.2.2.2.2.1 bt1043.2.2.2.2.2.1 bt1043.2.2.2.2.2.2.1 bt1043.2.2.2.2.2.2.2.1).bind fun t1197 => (some t1197))))) else (some false)))) else (some false))) else (if bt1089.2.2.2.2.2.2 = true then (if bt1089.1 ≤ bt1070.2.2.1 then (some false) else ((impl_MayVote.f k bt1070.1 bt1070.2.1 bt1089.1 bt1089.2.1 bt1089.2.2.1 bt1089.2.2.2.1 bt1089.2.2.2.2.1 bt1089.2.2.2.2.2.1 bt1070.2.2.2.2.2.2.2.2.1 bt1070.2.2.2.2.2.2.2.2.2.1 bt1070.2.2.2.2.2.2.2.2.2.2.1 bt1070.2.2.2.2.2.2.2.2.2.2.2).bind fun t1198 => (if t1198 = true then (some false) else ((impl_SafeOk.f k bt1043.1 bt1043.2.1 bt1043.2.2.1 bt1043.2.2.2.1 bt1043.2.2.2.2.1 bt1043.2.2.2.2.2.1 bt1043.2.2.2.2.2.2.1 bt1043.2.2.2.2.2.2.2.1).bind fun t1199 => (if t1199 = true then ((impl_QcOk.f k bt1043.1 bt1043.2.1 bt1043.2.2.2.2.2.2.2.2.1 bt1043.2.2.2.2.2.2.2.2.2.1 bt1043.2.2.2.2.2.2.2.2.2.2).bind fun t1200 => (if t1200 = true then ((impl_SafeOk.f k bt1043.1 bt1043.2.1 bt1061.1 bt1061.2.1 bt1061.2.2.1 bt1061.2.2.2.1 bt1061.2.2.2.2.1 bt1061.2.2.2.2.2).bind fun t1201 => (if t1201 = true then (if bt1061.2.1 ≥ bt1043.2.2.2.1 then (if bt1061.2.2.1 ≥ bt1043.2.2.2.2.1 then (if bt1061.2.2.1 ≥ bt1043.2.2.2.2.2.2.2.2.1 then ((impl_Extends.f k bt1061.2.2.2.2.2 bt1043.2.2.2.2.2.2.2.1).bind fun t1202 => (if t1202 = true then ((impl_See.f k bt1043.1 bt1043.2.1 bt1061.1 bt1061.2.1 bt1061.2.2.1 bt1061.2.2.2.1 bt1061.2.2.2.2.1 bt1061.2.2.2.2.2 bt1043.2.2.2.2.2.2.2.2.1 bt1043.2.2.2.2.2.2.2.2.2.1 bt1043.2.2.2.2.2.2.2.2.2.2).bind fun bt1203 => ((impl_SafeSame.f k bt1203.1 bt1203.2.1 bt1203.2.2.1 bt1203.2.2.2.1 bt1203.2.2.2.2.1 bt1203.2.2.2.2.2 bt1061.1 bt1061.2.1 bt1061.2.2.1 bt1061.2.2.2.1 bt1061.2.2.2.2.1 bt1061.2.2.2.2.2).bind fun t1211 => (some t1211))) else (some false))) else (some false)) else (some false)) else (some false)) else (some false))) else ((impl_SafeSame.f k bt1061.1 bt1061.2.1 bt1061.2.2.1 bt1061.2.2.2.1 bt1061.2.2.2.2.1 bt1061.2.2.2.2.2 bt1043.2.2.1 bt1043.2.2.2.1 bt1043.2.2.2.2.1 bt1043.2.2.2.2.2.1 bt1043.2.2.2.2.2.2.1 bt1043.2.2.2.2.2.2.2.1).bind fun t1212 => (some t1212)))) else ((impl_SafeSame.f k bt1061.1 bt1061.2.1 bt1061.2.2.1 bt1061.2.2.2.1 bt1061.2.2.2.2.1 bt1061.2.2.2.2.2 bt1043.2.2.1 bt1043.2.2.2.1 bt1043.2.2.2.2.1 bt1043.2.2.2.2.2.1 bt1043.2.2.2.2.2.2.1 bt1043.2.2.2.2.2.2.2.1).bind fun t1213 => (some t1213))))))) else ((impl_SafeOk.f k bt1043.1 bt1043.2.1 bt1043.2.2.1 bt1043.2.2.2.1 bt1043.2.2.2.2.1 bt1043.2.2.2.2.2.1 bt1043.2.2.2.2.2.2.1 bt1043.2.2.2.2.2.2.2.1).bind fun t1214 => (if t1214 = true then ((impl_QcOk.f k bt1043.1 bt1043.2.1 bt1043.2.2.2.2.2.2.2.2.1 bt1043.2.2.2.2.2.2.2.2.2.1 bt1043.2.2.2.2.2.2.2.2.2.2).bind fun t1215 => (if t1215 = true then ((impl_SafeOk.f k bt1043.1 bt1043.2.1 bt1061.1 bt1061.2.1 bt1061.2.2.1 bt1061.2.2.2.1 bt1061.2.2.2.2.1 bt1061.2.2.2.2.2).bind fun t1216 => (if t1216 = true then (if bt1061.2.1 ≥ bt1043.2.2.2.1 then (if bt1061.2.2.1 ≥ bt1043.2.2.2.2.1 then (if bt1061.2.2.1 ≥ bt1043.2.2.2.2.2.2.2.2.1 then ((impl_Extends.f k bt1061.2.2.2.2.2 bt1043.2.2.2.2.2.2.2.1).bind fun t1217 => (if t1217 = true then ((impl_See.f k bt1043.1 bt1043.2.1 bt1061.1 bt1061.2.1 bt1061.2.2.1 bt1061.2.2.2.1 bt1061.2.2.2.2.1 bt1061.2.2.2.2.2 bt1043.2.2.2.2.2.2.2.2.1 bt1043.2.2.2.2.2.2.2.2.2.1 bt1043.2.2.2.2.2.2.2.2.2.2).bind fun bt1218 => ((impl_SafeSame.f k bt1218.1 bt1218.2.1 bt1218.2.2.1 bt1218.2.2.2.1 bt1218.2.2.2.2.1 bt1218.2.2.2.2.2 bt1061.1 bt1061.2.1 bt1061.2.2.1 bt1061.2.2.2.1 bt1061.2.2.2.2.1 bt1061.2.2.2.2.2).bind fun t1226 => (some t1226))) else (some false))) else (some false)) else (some false)) else (some false)) else (some false))) else ((impl_SafeSame.f k bt1061.1 bt1061.2.1 bt1061.2.2.1 bt1061.2.2.2.1 bt1061.2.2.2.2.1 bt1061.2.2.2.2.2 bt1043.2.2.1 bt1043.2.2.2.1 bt1043.2.2.2.2.1 bt1043.2.2.2.2.2.1 bt1043.2.2.2.2.2.2.1 bt1043.2.2.2.2.2.2.2.1).bind fun t1227 => (some t1227)))) else ((impl_SafeSame.f k bt1061.1 bt1061.2.1 bt1061.2.2.1 bt1061.2.2.2.1 bt1061.2.2.2.2.1 bt1061.2.2.2.2.2 bt1043.2.2.1 bt1043.2.2.2.1 bt1043.2.2.2.2.1 bt1043.2.2.2.2.2.1 bt1043.2.2.2.2.2.2.1 bt1043.2.2.2.2.2.2.2.1).bind fun t1228 => (some t1228)))))) else (some false)))))))) else (some false)))))))) else (some false)))) else (some false))))))))))))))
theorem laws_FnSafe.mono : ∀ a0 k, LeO (laws_FnSafe.f k a0) (laws_FnSafe.f (k + 1) a0) := by
 intro a0 k
 unfold laws_FnSafe.f
 repeat' first | (with_reducible exact impl_Extends.mono _ _ _) | (with_reducible exact impl_Height.mono _ _) | (with_reducible exact impl_MayVote.mono _ _ _ _ _ _ _ _ _ _ _ _ _) | (with_reducible exact impl_QcOk.mono _ _ _ _ _ _) | (with_reducible exact impl_SafeOk.mono _ _ _ _ _ _ _ _ _) | (with_reducible exact impl_SafeSame.mono _ _ _ _ _ _ _ _ _ _ _ _ _) | (with_reducible exact impl_See.mono _ _ _ _ _ _ _ _ _ _ _ _) | (with_reducible exact impl_Settles.mono _ _) | (with_reducible exact impl_Vote.mono _ _ _ _ _ _ _ _ _ _ _ _ _) | (with_reducible exact spec_DrawSafeSame.mono _ _) | (with_reducible exact spec_DrawSee.mono _ _) | (with_reducible exact spec_DrawSettles.mono _ _) | (with_reducible exact spec_DrawVote.mono _ _) | (with_reducible exact spec_SafeOk.mono _ _ _ _ _ _ _ _ _) | (with_reducible exact spec_SafeSame.mono _ _ _ _ _ _ _ _ _ _ _ _ _) | (with_reducible exact spec_See.mono _ _ _ _ _ _ _ _ _ _ _ _) | (with_reducible exact spec_Settles.mono _ _) | (with_reducible exact spec_Vote.mono _ _ _ _ _ _ _ _ _ _ _ _ _) | (with_reducible exact LeO.refl _) | (with_reducible exact LeO.none _) | (with_reducible refine LeO.ite ?_ ?_) | (with_reducible refine LeO.bind ?_ (fun _ => ?_))
def laws_FnSafe.T12 : Bool × List (List Nat × List Nat) := (true, [([], []), ([], []), ([], []), ([], []), ([1, 2, 3], [1, 2, 3]), ([0, 4, 4], [0, 4]), ([5], [5]), ([6, 5], [6]), ([7], [7]), ([7], [7]), ([8, 9, 7], [7, 8, 9]), ([7, 10], [7, 10]), ([11, 7], [11]), ([12], [12]), ([12], [12]), ([13, 14, 12, 12], [12, 13, 14]), ([15, 12], [12, 15]), ([12, 16], [12, 16]), ([17, 15], [17]), ([18], [18]), ([18], [18]), ([19, 20, 18, 18], [18, 19, 20]), ([18], [18]), ([18], [18]), ([22, 23, 21, 18], [18, 22, 23]), ([21, 24, 18], [18, 21, 24]), ([18, 25], [18, 25]), ([26, 24], [26]), ([27], [27]), ([27], [27]), ([28, 29, 27, 27], [27, 28, 29]), ([27], [27]), ([27], [27]), ([31, 32, 30, 27], [27, 31, 32]), ([30, 33, 27], [27, 30, 33]), ([27, 34], [27, 34]), ([35, 33], [35]), ([36], [36]), ([36], [36]), ([37, 38, 36], [36, 37, 38]), ([36, 39], [36, 39]), ([40, 36], [40]), ([41], [41]), ([41], [41]), ([42, 43, 41], [41, 42, 43]), ([41, 44], [41, 44]), ([45, 41], [45]), ([46], [46]), ([46], [46]), ([46], [46]), ([47, 48, 49, 46, 46], [46, 47, 48, 49]), ([46], [46]), ([50, 51, 46], [46, 50, 51]), ([46, 52], [46, 52]), ([53, 50], [53]), ([54, 54], [54]), ([55, 54], [54]), ([55, 56, 56, 54], [54, 55, 56]), ([57, 54], [54, 57]), ([54, 58], [54, 58])])
def laws_FnSafe.B12 : List Nat := [0, 0, 0, 0, 14, 31, 63, 127, 255, 255, 1023, 2047, 4095, 8191, 8191, 32767, 65535, 131071, 262143, 524287, 524287, 2097151, 524287, 524287, 16777215, 33554431, 67108863, 134217727, 268435455, 268435455, 1073741823, 268435455, 268435455, 8589934591, 17179869183, 34359738367, 68719476735, 137438953471, 137438953471, 549755813887, 1099511627775, 2199023255551, 4398046511103, 4398046511103, 17592186044415, 35184372088831, 70368744177663, 140737488355327, 140737488355327, 140737488355327, 1125899906842623, 140737488355327, 4503599627370495, 9007199254740991, 18014398509481983, 36028797018963967, 72057594037927935, 144115188075855871, 288230376151711743, 576460752303423487]
theorem laws_FnSafe.tab12 : rtab .any (opsOf Tryz.f5 12) = laws_FnSafe.T12 := by kernel_rfl
theorem laws_FnSafe.bits12 : waitsOk laws_FnSafe.T12.2 laws_FnSafe.B12 = true := by kernel_rfl
def laws_FnSafe.T20 : Bool × List (List Nat × List Nat) := (true, [([], []), ([], []), ([0, 1], [0, 1]), ([2, 2], [2]), ([3], [3]), ([4, 3], [3, 4]), ([3], [3]), ([6, 3], [3, 6]), ([5, 7, 3], [3, 5, 7]), ([3, 8], [3, 8]), ([9, 3], [9]), ([10], [10]), ([11, 10], [10, 11]), ([12, 10], [10, 12]), ([10], [10]), ([14, 10], [10, 14]), ([15, 10], [10, 15]), ([13, 16, 10], [10, 13, 16]), ([10, 17], [10, 17]), ([18, 10], [18]), ([19], [19]), ([20, 19], [19, 20]), ([21, 19], [19, 21]), ([19], [19]), ([23, 19], [19, 23]), ([22, 24, 19], [19, 22, 24]), ([19, 25], [19, 25]), ([26, 19], [26]), ([27], [27]), ([28, 27], [27, 28]), ([27], [27]), ([30, 27], [27, 30]), ([29, 31, 27, 27], [27, 29, 31]), ([27, 32], [27, 32]), ([33, 32], [33]), ([34], [34]), ([34], [34]), ([34], [34]), ([35, 36, 37, 34, 34], [34, 35, 36, 37]), ([34], [34]), ([38, 39, 38, 34], [34, 38, 39]), ([34, 40], [34, 40]), ([41, 40, 0, 1, 2, 3, 4, 5, 6, 7, 8, 9, 10, 11, 12, 13, 14, 15, 16, 17, 18, 19, 20, 21, 22, 23, 24, 25, 26, 27, 28, 29, 30, 31, 32, 33, 34, 35, 36, 37, 38, 39, 40, 41], [41])])
def laws_FnSafe.B20 : List Nat := [0, 0, 3, 7, 15, 31, 15, 79, 255, 511, 1023, 2047, 4095, 8191, 2047, 18431, 51199, 131071, 262143, 524287, 1048575, 2097151, 4194303, 1048575, 9437183, 33554431, 67108863, 134217727, 268435455, 536870911, 268435455, 1342177279, 4294967295, 8589934591, 17179869183, 34359738367, 34359738367, 34359738367, 274877906943, 34359738367, 1099511627775, 2199023255551, 4398046511103]
theorem laws_FnSafe.tab20 : rtab .any (opsOf Tryz.f5 20) = laws_FnSafe.T20 := by kernel_rfl
theorem laws_FnSafe.bits20 : waitsOk laws_FnSafe.T20.2 laws_FnSafe.B20 = true := by kernel_rfl
set_option maxHeartbeats 8000000 in
set_option maxRecDepth 100000 in
theorem laws_FnSafe.calls (k : Nat) (A0 : Option Addr) (c0 : Nat) (l0 : List Int) (r : Bool) (hrt : Aside0 (r = true)) (w : World) (hr0 : Kd.C (Kd.int .u8) w A0 l0.length l0) (hc0 : l0.length ≤ c0) (h : laws_FnSafe.f k l0 = some r) (hG : Glob w := by exact gG HG HB) :
  Calls Tryz.prog 5 #[.slice A0 l0.length c0] w fun e w' => e = .returned (.bool r) ∧ Below w.heap.size w w' := by
 have HG := Aside0.mk hG; clear hG; have hu32 := Tryz.underlying32; have hu29 := Tryz.underlying29; have hu27 := Tryz.underlying27; have hu60 := Tryz.underlying60; have HR0 := Aside0.mk hr0; have HC0 := Aside0.mk hc0; clear hr0 hc0; have HB := Aside0.mk (Below.refl w.heap.size w)
 have H := h; unfold laws_FnSafe.f at H
 clear h; obtain ⟨t1042, A2, H⟩ := oB H; (try dsimp only at H)
 go_enter Tryz.func5, Tryz.ntmps5
 have H' := Aside0.mk H; clear H
 go_upto_if 22 with (first | ((with_reducible refine gate_callee (f := 29) rfl ?_); refine gD (some 22) Tryz.func29 (laws_big.calls (hr0 := pC HR0) (hc0 := HC0.out) (w := _) (h := A2.out)) ?_; intro w3 _))
 have H := H'.out; clear H'
 by_cases c4 : t1042 = true
 ·
  subst c4
  rw [if_pos rfl] at H
  obtain rfl := Option.some.inj H
  go_wp2
  go_ret
  exact ⟨y0_16, UpW.out⟩
 replace c4 := Bool.eq_false_iff.mpr c4; subst c4
 rw [if_neg (show ¬ (false = true) by decide)] at H
 obtain ⟨⟨t1043, t1044, t1045, t1046, t1047, t1048, t1049, t1052, t1053, t1054, t1055⟩, A5, H⟩ := oB H; (try dsimp only at H); obtain ⟨⟨t1061, t1062, t1063, t1064, t1065, t1068⟩, A6, H⟩ := oB H; (try dsimp only at H); obtain ⟨⟨t1070, t1071, t1072, t1073, t1074, t1075, t1076, t1079, t1080, t1081, t1082, t1083⟩, A7, H⟩ := oB H; (try dsimp only at H); obtain ⟨⟨t1089, t1090, t1091, t1092, t1093, t1096, t1097⟩, A8, H⟩ := oB H; (try dsimp only at H); obtain ⟨⟨t1099, t1100, t1101, t1102, t1103, t1106, t1107⟩, A9, H⟩ := oB H; (try dsimp only at H); obtain ⟨⟨t1109, t1110, t1111, t1112, t1113, t1116, t1117, t1118, t1119, t1120, t1121, t1124⟩, A10, H⟩ := oB H; (try dsimp only at H); obtain ⟨t1127, A11, H⟩ := oB H; (try dsimp only at H); obtain ⟨⟨t1128, t1129⟩, A12, H⟩ := oB H; (try dsimp only at H); obtain ⟨⟨t1130, t1131⟩, A13, H⟩ := oB H; (try dsimp only at H); have H' := Aside0.mk H; clear H
 go_upto_region 12 with (first | ((with_reducible refine gate_callee (f := 30) rfl ?_); refine gC2 (some 25) Tryz.func30 (spec_DrawSee.calls (hr0 := pC HR0) (hc0 := HC0.out) (w := _) (h := A5.out)) ?_; intro Ao1050 co1050 Ao1056 co1056 w14 _ HO1051 HO1057) | ((with_reducible refine gd 3 ?_); refine bL 3 #[.int .i64 0, .int .i64 0] 32 ?_; intro gb1058 w15 _ _ _) | ((with_reducible refine gd 4 ?_); refine bL 4 #[.int .i64 0, .int .i64 0, .int .i64 0, .string (⟨#[]⟩ : ByteArray), .slice none 0 0, .string (⟨#[]⟩ : ByteArray)] 29 ?_; intro gb1059 w16 _ _ _) | ((with_reducible refine gd 5 ?_); refine bL 5 #[.int .i64 0, .string (⟨#[]⟩ : ByteArray), .slice none 0 0] 27 ?_; intro gb1060 w17 _ _ _) | ((with_reducible refine gate_callee (f := 31) rfl ?_); refine gC1 (some 32) Tryz.func31 (impl_See.calls (hr1_4 := rC HO1051) (hc1_4 := rL HO1051) (hr2_2 := rC HO1057) (hc2_2 := rL HO1057) (w := _) (h := A6.out)) ?_; intro Ao1066 co1066 w18 _ HO1067) | ((with_reducible refine gd 6 ?_); refine bL 6 #[.int .i64 0, .int .i64 0, .int .i64 0, .string (⟨#[]⟩ : ByteArray), .slice none 0 0, .string (⟨#[]⟩ : ByteArray)] 29 ?_; intro gb1069 w19 _ _ _) | ((with_reducible refine gate_callee (f := 32) rfl ?_); refine gC2 (some 35) Tryz.func32 (spec_DrawVote.calls (hr0 := pC HR0) (hc0 := HC0.out) (w := _) (h := A7.out)) ?_; intro Ao1077 co1077 Ao1084 co1084 w20 _ HO1078 HO1085) | ((with_reducible refine gd 7 ?_); refine bL 7 #[.int .i64 0, .int .i64 0] 32 ?_; intro gb1086 w21 _ _ _) | ((with_reducible refine gd 8 ?_); refine bL 8 #[.int .i64 0, .int .i64 0, .int .i64 0, .string (⟨#[]⟩ : ByteArray), .slice none 0 0, .string (⟨#[]⟩ : ByteArray)] 29 ?_; intro gb1087 w22 _ _ _) | ((with_reducible refine gd 9 ?_); refine bL 9 #[.string (⟨#[]⟩ : ByteArray), .int .i64 0, .string (⟨#[]⟩ : ByteArray), .slice none 0 0] 60 ?_; intro gb1088 w23 _ _ _) | ((with_reducible refine gate_callee (f := 33) rfl ?_); refine gC1 (some 43) Tryz.func33 (impl_Vote.calls (hr1_4 := rC HO1078) (hc1_4 := rL HO1078) (hr2_3 := rC HO1085) (hc2_3 := rL HO1085) (w := _) (h := A8.out)) ?_; intro Ao1094 co1094 w24 _ HO1095) | ((with_reducible refine gd 10 ?_); refine bL 10 #[.int .i64 0, .int .i64 0, .int .i64 0, .string (⟨#[]⟩ : ByteArray), .slice none 0 0, .string (⟨#[]⟩ : ByteArray)] 29 ?_; intro gb1098 w25 _ _ _) | ((with_reducible refine gate_callee (f := 34) rfl ?_); refine gC1 (some 50) Tryz.func34 (spec_Vote.calls (hr1_4 := rC HO1078) (hc1_4 := rL HO1078) (hr2_3 := rC HO1085) (hc2_3 := rL HO1085) (w := _) (h := A9.out)) ?_; intro Ao1104 co1104 w26 _ HO1105) | ((with_reducible refine gd 12 ?_); refine bL 12 #[.int .i64 0, .int .i64 0, .int .i64 0, .string (⟨#[]⟩ : ByteArray), .slice none 0 0, .string (⟨#[]⟩ : ByteArray)] 29 ?_; intro gb1108 w27 _ _ _) | ((with_reducible refine gate_callee (f := 35) rfl ?_); refine gC2 (some 55) Tryz.func35 (spec_DrawSafeSame.calls (hr0 := pC HR0) (hc0 := HC0.out) (w := _) (h := A10.out)) ?_; intro Ao1114 co1114 Ao1122 co1122 w28 _ HO1115 HO1123) | ((with_reducible refine gd 14 ?_); refine bL 14 #[.int .i64 0, .int .i64 0, .int .i64 0, .string (⟨#[]⟩ : ByteArray), .slice none 0 0, .string (⟨#[]⟩ : ByteArray)] 29 ?_; intro gb1125 w29 _ _ _) | ((with_reducible refine gd 15 ?_); refine bL 15 #[.int .i64 0, .int .i64 0, .int .i64 0, .string (⟨#[]⟩ : ByteArray), .slice none 0 0, .string (⟨#[]⟩ : ByteArray)] 29 ?_; intro gb1126 w30 _ _ _) | ((with_reducible refine gate_callee (f := 36) rfl ?_); refine gC (some 59) Tryz.func36 (spec_DrawSettles.calls (hr0 := pC HR0) (hc0 := HC0.out) (w := _) (h := A11.out)) ?_; intro w31 _) | ((with_reducible refine gate_callee (f := 37) rfl ?_); refine gC (some 62) Tryz.func37 (impl_Settles.calls (w := _) (h := A12.out)) ?_; intro w32 _) | ((with_reducible refine gate_callee (f := 38) rfl ?_); refine gC (some 67) Tryz.func38 (spec_Settles.calls (w := _) (h := A13.out)) ?_; intro w33 _))
 have H := H'.out; clear H'; obtain ⟨⟨t1132, t1133, t1134, t1135, t1136, t1139⟩, A34, H⟩ := oB H; (try dsimp only at H); obtain ⟨t1140, A35, H⟩ := oB H; (try dsimp only at H)
 by_cases c36 : t1140 = true
 ·
  subst c36
  rw [if_pos rfl] at H
  by_cases c37 : (t1097 != t1107) = true
  ·
   rw [if_pos c37] at H
   have c37b0 : (t1097 != t1107) = true := c37
   (try (have c37b1 : decide (t1097 = t1107) = false := by simpa using c37))
   (try (have c37b2 : (t1097 == t1107) = false := by simpa using c37))
   (try (have c37b3 : ¬ (t1097 = t1107) := by simpa using c37))
   clear c37
   (first | rw [c37b0] | (simp only [i64_w, i32_w]; rw [c37b0]) | skip)
   exact absurd (hrt.out.symm.trans (Option.some.inj H).symm) (by decide)
  rw [if_neg c37] at H
  have c37b0 : (t1097 != t1107) = false := by simpa using c37
  (try (have c37b1 : decide (t1097 = t1107) = true := by simpa using c37))
  (try (have c37b2 : (t1097 == t1107) = true := by simpa using c37))
  clear c37
  (first | rw [c37b0] | (simp only [i64_w, i32_w]; rw [c37b0]) | skip)
  obtain ⟨t1141, A38, H⟩ := oB H; (try dsimp only at H)
  by_cases c39 : t1141 = true
  rotate_left
  ·
   replace c39 := Bool.eq_false_iff.mpr c39; subst c39
   rw [if_neg (show ¬ (false = true) by decide)] at H
   exact absurd (hrt.out.symm.trans (Option.some.inj H).symm) (by decide)
  subst c39
  rw [if_pos rfl] at H
  obtain ⟨t1142, A40, H⟩ := oB H; (try dsimp only at H); obtain ⟨t1143, A41, H⟩ := oB H; (try dsimp only at H)
  by_cases c42 : (t1142 != t1143) = true
  ·
   rw [if_pos c42] at H
   have c42b0 : (t1142 != t1143) = true := c42
   (try (have c42b1 : decide (t1142 = t1143) = false := by simpa using c42))
   (try (have c42b2 : (t1142 == t1143) = false := by simpa using c42))
   (try (have c42b3 : ¬ (t1142 = t1143) := by simpa using c42))
   clear c42
   exact absurd (hrt.out.symm.trans (Option.some.inj H).symm) (by decide)
  rw [if_neg c42] at H
  have c42b0 : (t1142 != t1143) = false := by simpa using c42
  (try (have c42b1 : decide (t1142 = t1143) = true := by simpa using c42))
  (try (have c42b2 : (t1142 == t1143) = true := by simpa using c42))
  clear c42; obtain ⟨t1144, A43, H⟩ := oB H; (try dsimp only at H); obtain ⟨t1145, A44, H⟩ := oB H; (try dsimp only at H)
  by_cases c45 : (t1144 != t1145) = true
  ·
   rw [if_pos c45] at H
   have c45b0 : (t1144 != t1145) = true := c45
   (try (have c45b1 : decide (t1144 = t1145) = false := by simpa using c45))
   (try (have c45b2 : (t1144 == t1145) = false := by simpa using c45))
   (try (have c45b3 : ¬ (t1144 = t1145) := by simpa using c45))
   clear c45
   exact absurd (hrt.out.symm.trans (Option.some.inj H).symm) (by decide)
  rw [if_neg c45] at H
  have c45b0 : (t1144 != t1145) = false := by simpa using c45
  (try (have c45b1 : decide (t1144 = t1145) = true := by simpa using c45))
  (try (have c45b2 : (t1144 == t1145) = true := by simpa using c45))
  clear c45
  by_cases c46 : t1128.toList = t1130.toList
  rotate_left
  ·
   rw [if_neg c46] at H
   have c46b0 : (t1128.toList == t1130.toList) = false := beq_eq_false_iff_ne.mpr c46; have c46b1 : (t1128.toList != t1130.toList) = true := bne_iff_ne.mpr c46
   exact absurd (hrt.out.symm.trans (Option.some.inj H).symm) (by decide)
  rw [if_pos c46] at H
  have c46b0 : (t1128.toList == t1130.toList) = true := beq_iff_eq.mpr c46; have c46b1 : (t1128.toList != t1130.toList) = false := bne_eq_false_iff_eq.mpr c46; clear c46
  by_cases c47 : (t1129 != t1131) = true
  ·
   rw [if_pos c47] at H
   have c47b0 : (t1129 != t1131) = true := c47
   (try (have c47b1 : decide (t1129 = t1131) = false := by simpa using c47))
   (try (have c47b2 : (t1129 == t1131) = false := by simpa using c47))
   (try (have c47b3 : ¬ (t1129 = t1131) := by simpa using c47))
   clear c47
   exact absurd (hrt.out.symm.trans (Option.some.inj H).symm) (by decide)
  rw [if_neg c47] at H
  have c47b0 : (t1129 != t1131) = false := by simpa using c47
  (try (have c47b1 : decide (t1129 = t1131) = true := by simpa using c47))
  (try (have c47b2 : (t1129 == t1131) = true := by simpa using c47))
  clear c47; obtain ⟨t1146, A48, H⟩ := oB H; (try dsimp only at H)
  by_cases c49 : (t1146 != t1097) = true
  ·
   rw [if_pos c49] at H
   have c49b0 : (t1146 != t1097) = true := c49
   (try (have c49b1 : decide (t1146 = t1097) = false := by simpa using c49))
   (try (have c49b2 : (t1146 == t1097) = false := by simpa using c49))
   (try (have c49b3 : ¬ (t1146 = t1097) := by simpa using c49))
   clear c49
   exact absurd (hrt.out.symm.trans (Option.some.inj H).symm) (by decide)
  rw [if_neg c49] at H
  have c49b0 : (t1146 != t1097) = false := by simpa using c49
  (try (have c49b1 : decide (t1146 = t1097) = true := by simpa using c49))
  (try (have c49b2 : (t1146 == t1097) = true := by simpa using c49))
  clear c49; obtain ⟨⟨t1147, t1148, t1149, t1150, t1151, t1154⟩, A50, H⟩ := oB H; (try dsimp only at H); obtain ⟨⟨t1155, t1156, t1157, t1158, t1159, t1162⟩, A51, H⟩ := oB H; (try dsimp only at H); obtain ⟨t1163, A52, H⟩ := oB H; (try dsimp only at H); have H' := Aside0.mk H; clear H
  try go_wp2
  refine sB [] laws_FnSafe.tab12 laws_FnSafe.bits12 ?_; intro w53 _ HT_ HW_
  refine tB 0 (some 70) (bz 60 1) HT_ HW_ ?_
  refine tB 1 (some 71) (bz 60 3) HT_ HW_ ?_
  refine tB 2 (some 72) (bz 60 7) HT_ HW_ ?_
  refine tB 3 (some 73) (bz 60 15) HT_ HW_ ?_
  refine o1 4 (some 74) (bz 60 31) HT_ rfl (kC1 Tryz.func40 (spec_See.calls (hr1_4 := rC HO1051) (hc1_4 := rL HO1051) (hr2_2 := rC HO1057) (hc2_2 := rL HO1057) (w := _) (h := A34.out)) ?_); intro Ao1137 co1137 w54 _ HO1138
  refine nA (some 74) ?_
  refine o1 5 (some 75) (bz 60 63) HT_ rfl (kC Tryz.func39 (impl_SafeSame.calls (hr0_4 := rC HO1067) (hc0_4 := rL HO1067) (hr1_4 := rC HO1138) (hc1_4 := rL HO1138) (w := _) (h := A35.out)) ?_); intro w55 _
  refine nA (some 75) ?_
  refine pA 6 (some 76) (bz 60 127) HT_ ?_
  refine pA 7 (some 77) (bz 60 255) HT_ ?_
  refine pA 8 (some 78) (bz 60 511) HT_ ?_
  refine pA 9 (some 79) (bz 60 1023) HT_ ?_
  refine pA 10 (some 80) (bz 60 2047) HT_ ?_
  refine pA 11 (some 81) (bz 60 4095) HT_ ?_
  refine pA 12 (some 82) (bz 60 0x1fff) HT_ ?_
  refine tB 13 (some 83) (bz 60 0x3fff) HT_ HW_ ?_
  refine tB 14 (some 84) (bz 60 0x7fff) HT_ HW_ ?_
  refine o1 15 (some 85) (bz 60 0xffff) HT_ rfl (kC Tryz.func39 (impl_SafeSame.calls (hr0_4 := rC HO1095) (hc0_4 := rL HO1095) (hr1_4 := rC HO1105) (hc1_4 := rL HO1105) (w := _) (h := A38.out)) ?_); intro w56 _
  refine nA (some 85) ?_
  refine pA 16 (some 86) (bz 60 0x1ffff) HT_ ?_
  refine pA 17 (some 87) (bz 60 0x3ffff) HT_ ?_
  refine pA 18 (some 88) (bz 60 0x7ffff) HT_ ?_
  refine tB 19 (some 89) (bz 60 0xfffff) HT_ HW_ ?_
  refine tB 20 (some 90) (bz 60 0x1fffff) HT_ HW_ ?_
  refine tB 22 (some 92) (bz 60 0x5fffff) HT_ HW_ ?_
  refine tB 23 (some 93) (bz 60 0xdfffff) HT_ HW_ ?_
  refine o1 21 (some 91) (bz 60 0xffffff) HT_ rfl (kC Tryz.func39 (impl_SafeSame.calls (hr0_4 := rC HO1115) (hc0_4 := rL HO1115) (hr1_4 := rC HO1123) (hc1_4 := rL HO1123) (w := _) (h := A40.out)) ?_); intro w57 _
  refine nA (some 91) ?_
  refine o1 24 (some 94) (bz 60 0x1ffffff) HT_ rfl (kC Tryz.func41 (spec_SafeSame.calls (hr0_4 := rC HO1115) (hc0_4 := rL HO1115) (hr1_4 := rC HO1123) (hc1_4 := rL HO1123) (w := _) (h := A41.out)) ?_); intro w58 _
  refine nA (some 94) ?_
  refine pA 25 (some 95) (bz 60 0x3ffffff) HT_ ?_
  refine pA 26 (some 96) (bz 60 0x7ffffff) HT_ ?_
  refine pA 27 (some 97) (bz 60 0xfffffff) HT_ ?_
  refine tB 28 (some 98) (bz 60 0x1fffffff) HT_ HW_ ?_
  refine tB 29 (some 99) (bz 60 0x3fffffff) HT_ HW_ ?_
  refine tB 31 (some 101) (bz 60 0xbfffffff) HT_ HW_ ?_
  refine tB 32 (some 102) (bz 60 0x1bfffffff) HT_ HW_ ?_
  refine o1 30 (some 100) (bz 60 0x1ffffffff) HT_ rfl (kC Tryz.func42 (impl_SafeOk.calls (hr1_4 := rC HO1051) (hc1_4 := rL HO1051) (w := _) (h := A43.out)) ?_); intro w59 _
  refine nA (some 100) ?_
  refine o1 33 (some 103) (bz 60 0x3ffffffff) HT_ rfl (kC Tryz.func43 (spec_SafeOk.calls (hr1_4 := rC HO1051) (hc1_4 := rL HO1051) (w := _) (h := A44.out)) ?_); intro w60 _
  refine nA (some 103) ?_
  refine pA 34 (some 104) (bz 60 0x7ffffffff) HT_ ?_
  refine pA 35 (some 105) (bz 60 0xfffffffff) HT_ ?_
  refine pA 36 (some 106) (bz 60 0x1fffffffff) HT_ ?_
  refine pA 37 (some 107) (bz 60 0x3fffffffff) HT_ ?_
  refine pA 38 (some 108) (bz 60 0x7fffffffff) HT_ ?_
  refine pA 39 (some 109) (bz 60 0xffffffffff) HT_ ?_
  refine pA 40 (some 110) (bz 60 0x1ffffffffff) HT_ ?_
  refine pA 41 (some 111) (bz 60 0x3ffffffffff) HT_ ?_
  refine pA 42 (some 112) (bz 60 0x7ffffffffff) HT_ ?_
  refine pA 43 (some 113) (bz 60 0xfffffffffff) HT_ ?_
  refine pA 44 (some 114) (bz 60 0x1fffffffffff) HT_ ?_
  refine pA 45 (some 115) (bz 60 0x3fffffffffff) HT_ ?_
  refine pA 46 (some 116) (bz 60 0x7fffffffffff) HT_ ?_
  refine tB 47 (some 117) (bz 60 0xffffffffffff) HT_ HW_ ?_
  refine tB 48 (some 118) (bz 60 0x1ffffffffffff) HT_ HW_ ?_
  refine tB 49 (some 119) (bz 60 0x3ffffffffffff) HT_ HW_ ?_
  refine pA 51 (some 121) (bz 60 0xbffffffffffff) HT_ ?_
  refine o1 50 (some 120) (bz 60 0xfffffffffffff) HT_ rfl (kC Tryz.func44 (impl_MayVote.calls (hr1_4 := rC HO1078) (hc1_4 := rL HO1078) (hr2_3 := rC HO1085) (hc2_3 := rL HO1085) (w := _) (h := A48.out)) ?_); intro w61 _
  refine nA (some 120) ?_
  refine pA 52 (some 122) (bz 60 0x1fffffffffffff) HT_ ?_
  refine pA 53 (some 123) (bz 60 0x3fffffffffffff) HT_ ?_
  refine pA 54 (some 124) (bz 60 0x7fffffffffffff) HT_ ?_
  refine o1 55 (some 125) (bz 60 0xffffffffffffff) HT_ rfl (kC1 Tryz.func45 (impl_SafeNew.calls (w := _) (h := A50.out)) ?_); intro Ao1152 co1152 w62 _ HO1153
  refine nA (some 125) ?_
  refine o1 56 (some 126) (bz 60 0x1ffffffffffffff) HT_ rfl (kC1 Tryz.func46 (spec_SafeNew.calls (w := _) (h := A51.out)) ?_); intro Ao1160 co1160 w63 _ HO1161
  refine nA (some 126) ?_
  refine o1 57 (some 127) (bz 60 0x3ffffffffffffff) HT_ rfl (kC Tryz.func39 (impl_SafeSame.calls (hr0_4 := rC HO1153) (hc0_4 := rL HO1153) (hr1_4 := rC HO1161) (hc1_4 := rL HO1161) (w := _) (h := A52.out)) ?_); intro w64 _
  refine nA (some 127) ?_
  refine pA 58 (some 128) (bz 60 0x7ffffffffffffff) HT_ ?_
  refine pA 59 (some 129) (bz 60 0xfffffffffffffff) HT_ ?_
  refine done_ (done_of HT_.out (by kernel_rfl)) ?_
  go_upto_if 129 with fail
  have H := H'.out; clear H'
  by_cases c65 : t1163 = true
  rotate_left
  ·
   replace c65 := Bool.eq_false_iff.mpr c65; subst c65
   rw [if_neg (show ¬ (false = true) by decide)] at H
   exact absurd (hrt.out.symm.trans (Option.some.inj H).symm) (by decide)
  subst c65
  rw [if_pos rfl] at H
  by_cases c66 : t1129 = true
  ·
   subst c66
   rw [if_pos rfl] at H
   obtain ⟨t1164, A67, H⟩ := oB H; (try dsimp only at H)
   by_cases c68 : t1164 = true
   rotate_left
   ·
    replace c68 := Bool.eq_false_iff.mpr c68; subst c68
    rw [if_neg (show ¬ (false = true) by decide)] at H
    exact absurd (hrt.out.symm.trans (Option.some.inj H).symm) (by decide)
   subst c68
   rw [if_pos rfl] at H
   obtain ⟨t1165, A69, H⟩ := oB H; (try dsimp only at H); obtain ⟨t1166, A70, H⟩ := oB H; (try dsimp only at H); have H' := Aside0.mk H; clear H
   go_upto_if 144 with (first | (go_at_call 47; refine aC (impl_Extends.calls (w := _) (h := A67.out)) ?_; intro w71 _) | (go_at_call 48; refine aC (impl_Height.calls (w := _) (h := A69.out)) ?_; intro w72 _) | (go_at_call 48; refine aC (impl_Height.calls (w := _) (h := A70.out)) ?_; intro w73 _))
   have H := H'.out; clear H'
   by_cases c74 : t1165 = (wrap64 (t1166 - 2))
   rotate_left
   ·
    rw [if_neg c74] at H
    have c74b0 : (t1165 == (wrap64 (t1166 - 2))) = false := beq_eq_false_iff_ne.mpr c74; have c74b1 : (t1165 != (wrap64 (t1166 - 2))) = true := bne_iff_ne.mpr c74
    (first | rw [c74b0] | (simp only [i64_w, i32_w]; rw [c74b0]) | skip)
    exact absurd (hrt.out.symm.trans (Option.some.inj H).symm) (by decide)
   rw [if_pos c74] at H
   have c74b0 : (t1165 == (wrap64 (t1166 - 2))) = true := beq_iff_eq.mpr c74; have c74b1 : (t1165 != (wrap64 (t1166 - 2))) = false := bne_eq_false_iff_eq.mpr c74; clear c74
   (first | rw [c74b0] | (simp only [i64_w, i32_w]; rw [c74b0]) | skip)
   by_cases c75 : t1097 = true
   ·
    subst c75
    rw [if_pos rfl] at H
    by_cases c76 : t1089 ≤ t1072
    ·
     rw [if_pos c76] at H
     have c76b0 : decide (t1089 ≤ t1072) = true := decide_eq_true c76; clear c76
     exact absurd (hrt.out.symm.trans (Option.some.inj H).symm) (by decide)
    rw [if_neg c76] at H
    have c76b0 : decide (t1089 ≤ t1072) = false := decide_eq_false c76; clear c76; obtain ⟨t1167, A77, H⟩ := oB H; (try dsimp only at H); have H' := Aside0.mk H; clear H
    go_upto_if 158 with (first | (go_at_call 44; refine aC (impl_MayVote.calls (hr1_4 := rC HO1095) (hc1_4 := rL HO1095) (hr2_3 := rC HO1085) (hc2_3 := rL HO1085) (w := _) (h := A77.out)) ?_; intro w78 _))
    have H := H'.out; clear H'
    by_cases c79 : t1167 = true
    ·
     subst c79
     rw [if_pos rfl] at H
     exact absurd (hrt.out.symm.trans (Option.some.inj H).symm) (by decide)
    replace c79 := Bool.eq_false_iff.mpr c79; subst c79
    rw [if_neg (show ¬ (false = true) by decide)] at H
    obtain ⟨t1168, A80, H⟩ := oB H; (try dsimp only at H)
    by_cases c81 : t1168 = true
    ·
     subst c81
     rw [if_pos rfl] at H
     obtain ⟨t1169, A82, H⟩ := oB H; (try dsimp only at H); have H' := Aside0.mk H; clear H
     go_upto_if 168 with (first | ((with_reducible refine gate_callee (f := 42) rfl ?_); refine gC (some 161) Tryz.func42 (impl_SafeOk.calls (hr1_4 := rC HO1051) (hc1_4 := rL HO1051) (w := _) (h := A80.out)) ?_; intro w83 _) | (go_at_call 49; refine aC (impl_QcOk.calls (hr1_2 := rC HO1057) (hc1_2 := rL HO1057) (w := _) (h := A82.out)) ?_; intro w84 _))
     have H := H'.out; clear H'
     by_cases c85 : t1169 = true
     ·
      subst c85
      rw [if_pos rfl] at H
      obtain ⟨t1170, A86, H⟩ := oB H; (try dsimp only at H)
      by_cases c87 : t1170 = true
      rotate_left
      ·
       replace c87 := Bool.eq_false_iff.mpr c87; subst c87
       rw [if_neg (show ¬ (false = true) by decide)] at H
       exact absurd (hrt.out.symm.trans (Option.some.inj H).symm) (by decide)
      subst c87
      rw [if_pos rfl] at H
      by_cases c88 : t1062 ≥ t1046
      rotate_left
      ·
       rw [if_neg c88] at H
       have c88b0 : decide (t1046 ≤ t1062) = false := decide_eq_false c88; clear c88
       (first | rw [c88b0] | (simp only [i64_w, i32_w]; rw [c88b0]) | skip)
       exact absurd (hrt.out.symm.trans (Option.some.inj H).symm) (by decide)
      rw [if_pos c88] at H
      have c88b0 : decide (t1046 ≤ t1062) = true := decide_eq_true c88; clear c88
      (first | rw [c88b0] | (simp only [i64_w, i32_w]; rw [c88b0]) | skip)
      by_cases c89 : t1063 ≥ t1047
      rotate_left
      ·
       rw [if_neg c89] at H
       have c89b0 : decide (t1047 ≤ t1063) = false := decide_eq_false c89; clear c89
       exact absurd (hrt.out.symm.trans (Option.some.inj H).symm) (by decide)
      rw [if_pos c89] at H
      have c89b0 : decide (t1047 ≤ t1063) = true := decide_eq_true c89; clear c89
      by_cases c90 : t1063 ≥ t1053
      rotate_left
      ·
       rw [if_neg c90] at H
       have c90b0 : decide (t1053 ≤ t1063) = false := decide_eq_false c90; clear c90
       exact absurd (hrt.out.symm.trans (Option.some.inj H).symm) (by decide)
      rw [if_pos c90] at H
      have c90b0 : decide (t1053 ≤ t1063) = true := decide_eq_true c90; clear c90; obtain ⟨t1171, A91, H⟩ := oB H; (try dsimp only at H)
      by_cases c92 : t1171 = true
      rotate_left
      ·
       replace c92 := Bool.eq_false_iff.mpr c92; subst c92
       rw [if_neg (show ¬ (false = true) by decide)] at H
       exact absurd (hrt.out.symm.trans (Option.some.inj H).symm) (by decide)
      subst c92
      rw [if_pos rfl] at H
      obtain ⟨⟨t1172, t1173, t1174, t1175, t1176, t1179⟩, A93, H⟩ := oB H; (try dsimp only at H); obtain ⟨t1180, A94, H⟩ := oB H; (try dsimp only at H); obtain rfl := Option.some.inj H
      try go_wp2
      refine sB [] laws_FnSafe.tab20 laws_FnSafe.bits20 ?_; intro w95 _ HT_ HW_
      refine tB 0 (some 172) (bz 43 1) HT_ HW_ ?_
      refine tB 1 (some 173) (bz 43 3) HT_ HW_ ?_
      refine o1 2 (some 174) (bz 43 7) HT_ rfl (kC Tryz.func42 (impl_SafeOk.calls (hr1_4 := rC HO1067) (hc1_4 := rL HO1067) (w := _) (h := A86.out)) ?_); intro w96 _
      refine nA (some 174) ?_
      refine pA 3 (some 175) (bz 43 15) HT_ ?_
      refine pA 4 (some 176) (bz 43 31) HT_ ?_
      refine tB 5 (some 177) (bz 43 63) HT_ HW_ ?_
      refine pA 6 (some 178) (bz 43 127) HT_ ?_
      refine tB 7 (some 179) (bz 43 255) HT_ HW_ ?_
      refine pA 8 (some 180) (bz 43 511) HT_ ?_
      refine pA 9 (some 181) (bz 43 1023) HT_ ?_
      refine pA 10 (some 182) (bz 43 2047) HT_ ?_
      refine pA 11 (some 183) (bz 43 4095) HT_ ?_
      refine pA 12 (some 184) (bz 43 0x1fff) HT_ ?_
      refine tB 13 (some 185) (bz 43 0x3fff) HT_ HW_ ?_
      refine pA 14 (some 186) (bz 43 0x7fff) HT_ ?_
      refine pA 15 (some 187) (bz 43 0xffff) HT_ ?_
      refine tB 16 (some 188) (bz 43 0x1ffff) HT_ HW_ ?_
      refine pA 17 (some 189) (bz 43 0x3ffff) HT_ ?_
      refine pA 18 (some 190) (bz 43 0x7ffff) HT_ ?_
      refine pA 19 (some 191) (bz 43 0xfffff) HT_ ?_
      refine pA 20 (some 192) (bz 43 0x1fffff) HT_ ?_
      refine pA 21 (some 193) (bz 43 0x3fffff) HT_ ?_
      refine tB 22 (some 194) (bz 43 0x7fffff) HT_ HW_ ?_
      refine pA 23 (some 195) (bz 43 0xffffff) HT_ ?_
      refine tB 24 (some 196) (bz 43 0x1ffffff) HT_ HW_ ?_
      refine pA 25 (some 197) (bz 43 0x3ffffff) HT_ ?_
      refine pA 26 (some 198) (bz 43 0x7ffffff) HT_ ?_
      refine pA 27 (some 199) (bz 43 0xfffffff) HT_ ?_
      refine pA 28 (some 200) (bz 43 0x1fffffff) HT_ ?_
      refine tB 29 (some 201) (bz 43 0x3fffffff) HT_ HW_ ?_
      refine pA 30 (some 202) (bz 43 0x7fffffff) HT_ ?_
      refine tB 31 (some 203) (bz 43 0xffffffff) HT_ HW_ ?_
      refine o1 32 (some 204) (bz 43 0x1ffffffff) HT_ rfl (kC Tryz.func47 (impl_Extends.calls (w := _) (h := A91.out)) ?_); intro w97 _
      refine nA (some 204) ?_
      refine pA 33 (some 205) (bz 43 0x3ffffffff) HT_ ?_
      refine pA 34 (some 206) (bz 43 0x7ffffffff) HT_ ?_
      refine tB 35 (some 207) (bz 43 0xfffffffff) HT_ HW_ ?_
      refine tB 36 (some 208) (bz 43 0x1fffffffff) HT_ HW_ ?_
      refine tB 37 (some 209) (bz 43 0x3fffffffff) HT_ HW_ ?_
      refine tB 39 (some 211) (bz 43 0xbfffffffff) HT_ HW_ ?_
      refine o1 38 (some 210) (bz 43 0xffffffffff) HT_ rfl (kC1 Tryz.func31 (impl_See.calls (hr1_4 := rC HO1067) (hc1_4 := rL HO1067) (hr2_2 := rC HO1057) (hc2_2 := rL HO1057) (w := _) (h := A93.out)) ?_); intro Ao1177 co1177 w98 _ HO1178
      refine nA (some 210) ?_
      refine o1 40 (some 212) (bz 43 0x1ffffffffff) HT_ rfl (kC Tryz.func39 (impl_SafeSame.calls (hr0_4 := rC HO1178) (hc0_4 := rL HO1178) (hr1_4 := rC HO1067) (hc1_4 := rL HO1067) (w := _) (h := A94.out)) ?_); intro w99 _
      refine nA (some 212) ?_
      refine pA 41 (some 213) (bz 43 0x3ffffffffff) HT_ ?_
      refine pA 42 (some 2) (bz 43 0x7ffffffffff) HT_ ?_
      refine done_ (done_of HT_.out (by kernel_rfl)) ?_
      try go_wp2
      go_ret
      exact ⟨y0_16, UpW.out⟩
     replace c85 := Bool.eq_false_iff.mpr c85; subst c85
     rw [if_neg (show ¬ (false = true) by decide)] at H
     obtain ⟨t1181, A100, H⟩ := oB H; (try dsimp only at H); obtain rfl := Option.some.inj H
     go_wp2_with (first | ((with_reducible refine gate_callee (f := 39) rfl ?_); refine gC (some 171) Tryz.func39 (impl_SafeSame.calls (hr0_4 := rC HO1067) (hc0_4 := rL HO1067) (hr1_4 := rC HO1051) (hc1_4 := rL HO1051) (w := _) (h := A100.out)) ?_; intro w101 _))
     go_ret
     exact ⟨y0_16, UpW.out⟩
    replace c81 := Bool.eq_false_iff.mpr c81; subst c81
    rw [if_neg (show ¬ (false = true) by decide)] at H
    have H' := Aside0.mk H; clear H
    go_upto_if 168 with (first | ((with_reducible refine gate_callee (f := 42) rfl ?_); refine gC (some 161) Tryz.func42 (impl_SafeOk.calls (hr1_4 := rC HO1051) (hc1_4 := rL HO1051) (w := _) (h := A80.out)) ?_; intro w102 _))
    have H := H'.out; clear H'; obtain ⟨t1182, A103, H⟩ := oB H; (try dsimp only at H); obtain rfl := Option.some.inj H
    go_wp2_with (first | ((with_reducible refine gate_callee (f := 39) rfl ?_); refine gC (some 171) Tryz.func39 (impl_SafeSame.calls (hr0_4 := rC HO1067) (hc0_4 := rL HO1067) (hr1_4 := rC HO1051) (hc1_4 := rL HO1051) (w := _) (h := A103.out)) ?_; intro w104 _))
    go_ret
    exact ⟨y0_16, UpW.out⟩
   replace c75 := Bool.eq_false_iff.mpr c75; subst c75
   rw [if_neg (show ¬ (false = true) by decide)] at H
   obtain ⟨t1183, A105, H⟩ := oB H; (try dsimp only at H)
   by_cases c106 : t1183 = true
   ·
    subst c106
    rw [if_pos rfl] at H
    obtain ⟨t1184, A107, H⟩ := oB H; (try dsimp only at H); have H' := Aside0.mk H; clear H
    go_upto_if 168 with (first | ((with_reducible refine gate_callee (f := 42) rfl ?_); refine gC (some 161) Tryz.func42 (impl_SafeOk.calls (hr1_4 := rC HO1051) (hc1_4 := rL HO1051) (w := _) (h := A105.out)) ?_; intro w108 _) | (go_at_call 49; refine aC (impl_QcOk.calls (hr1_2 := rC HO1057) (hc1_2 := rL HO1057) (w := _) (h := A107.out)) ?_; intro w109 _))
    have H := H'.out; clear H'
    by_cases c110 : t1184 = true
    ·
     subst c110
     rw [if_pos rfl] at H
     obtain ⟨t1185, A111, H⟩ := oB H; (try dsimp only at H)
     by_cases c112 : t1185 = true
     rotate_left
     ·
      replace c112 := Bool.eq_false_iff.mpr c112; subst c112
      rw [if_neg (show ¬ (false = true) by decide)] at H
      exact absurd (hrt.out.symm.trans (Option.some.inj H).symm) (by decide)
     subst c112
     rw [if_pos rfl] at H
     by_cases c113 : t1062 ≥ t1046
     rotate_left
     ·
      rw [if_neg c113] at H
      have c113b0 : decide (t1046 ≤ t1062) = false := decide_eq_false c113; clear c113
      (first | rw [c113b0] | (simp only [i64_w, i32_w]; rw [c113b0]) | skip)
      exact absurd (hrt.out.symm.trans (Option.some.inj H).symm) (by decide)
     rw [if_pos c113] at H
     have c113b0 : decide (t1046 ≤ t1062) = true := decide_eq_true c113; clear c113
     (first | rw [c113b0] | (simp only [i64_w, i32_w]; rw [c113b0]) | skip)
     by_cases c114 : t1063 ≥ t1047
     rotate_left
     ·
      rw [if_neg c114] at H
      have c114b0 : decide (t1047 ≤ t1063) = false := decide_eq_false c114; clear c114
      exact absurd (hrt.out.symm.trans (Option.some.inj H).symm) (by decide)
     rw [if_pos c114] at H
     have c114b0 : decide (t1047 ≤ t1063) = true := decide_eq_true c114; clear c114
     by_cases c115 : t1063 ≥ t1053
     rotate_left
     ·
      rw [if_neg c115] at H
      have c115b0 : decide (t1053 ≤ t1063) = false := decide_eq_false c115; clear c115
      exact absurd (hrt.out.symm.trans (Option.some.inj H).symm) (by decide)
     rw [if_pos c115] at H
     have c115b0 : decide (t1053 ≤ t1063) = true := decide_eq_true c115; clear c115; obtain ⟨t1186, A116, H⟩ := oB H; (try dsimp only at H)
     by_cases c117 : t1186 = true
     rotate_left
     ·
      replace c117 := Bool.eq_false_iff.mpr c117; subst c117
      rw [if_neg (show ¬ (false = true) by decide)] at H
      exact absurd (hrt.out.symm.trans (Option.some.inj H).symm) (by decide)
     subst c117
     rw [if_pos rfl] at H
     obtain ⟨⟨t1187, t1188, t1189, t1190, t1191, t1194⟩, A118, H⟩ := oB H; (try dsimp only at H); obtain ⟨t1195, A119, H⟩ := oB H; (try dsimp only at H); obtain rfl := Option.some.inj H
     try go_wp2
     refine sB [] laws_FnSafe.tab20 laws_FnSafe.bits20 ?_; intro w120 _ HT_ HW_
     refine tB 0 (some 172) (bz 43 1) HT_ HW_ ?_
     refine tB 1 (some 173) (bz 43 3) HT_ HW_ ?_
     refine o1 2 (some 174) (bz 43 7) HT_ rfl (kC Tryz.func42 (impl_SafeOk.calls (hr1_4 := rC HO1067) (hc1_4 := rL HO1067) (w := _) (h := A111.out)) ?_); intro w121 _
     refine nA (some 174) ?_
     refine pA 3 (some 175) (bz 43 15) HT_ ?_
     refine pA 4 (some 176) (bz 43 31) HT_ ?_
     refine tB 5 (some 177) (bz 43 63) HT_ HW_ ?_
     refine pA 6 (some 178) (bz 43 127) HT_ ?_
     refine tB 7 (some 179) (bz 43 255) HT_ HW_ ?_
     refine pA 8 (some 180) (bz 43 511) HT_ ?_
     refine pA 9 (some 181) (bz 43 1023) HT_ ?_
     refine pA 10 (some 182) (bz 43 2047) HT_ ?_
     refine pA 11 (some 183) (bz 43 4095) HT_ ?_
     refine pA 12 (some 184) (bz 43 0x1fff) HT_ ?_
     refine tB 13 (some 185) (bz 43 0x3fff) HT_ HW_ ?_
     refine pA 14 (some 186) (bz 43 0x7fff) HT_ ?_
     refine pA 15 (some 187) (bz 43 0xffff) HT_ ?_
     refine tB 16 (some 188) (bz 43 0x1ffff) HT_ HW_ ?_
     refine pA 17 (some 189) (bz 43 0x3ffff) HT_ ?_
     refine pA 18 (some 190) (bz 43 0x7ffff) HT_ ?_
     refine pA 19 (some 191) (bz 43 0xfffff) HT_ ?_
     refine pA 20 (some 192) (bz 43 0x1fffff) HT_ ?_
     refine pA 21 (some 193) (bz 43 0x3fffff) HT_ ?_
     refine tB 22 (some 194) (bz 43 0x7fffff) HT_ HW_ ?_
     refine pA 23 (some 195) (bz 43 0xffffff) HT_ ?_
     refine tB 24 (some 196) (bz 43 0x1ffffff) HT_ HW_ ?_
     refine pA 25 (some 197) (bz 43 0x3ffffff) HT_ ?_
     refine pA 26 (some 198) (bz 43 0x7ffffff) HT_ ?_
     refine pA 27 (some 199) (bz 43 0xfffffff) HT_ ?_
     refine pA 28 (some 200) (bz 43 0x1fffffff) HT_ ?_
     refine tB 29 (some 201) (bz 43 0x3fffffff) HT_ HW_ ?_
     refine pA 30 (some 202) (bz 43 0x7fffffff) HT_ ?_
     refine tB 31 (some 203) (bz 43 0xffffffff) HT_ HW_ ?_
     refine o1 32 (some 204) (bz 43 0x1ffffffff) HT_ rfl (kC Tryz.func47 (impl_Extends.calls (w := _) (h := A116.out)) ?_); intro w122 _
     refine nA (some 204) ?_
     refine pA 33 (some 205) (bz 43 0x3ffffffff) HT_ ?_
     refine pA 34 (some 206) (bz 43 0x7ffffffff) HT_ ?_
     refine tB 35 (some 207) (bz 43 0xfffffffff) HT_ HW_ ?_
     refine tB 36 (some 208) (bz 43 0x1fffffffff) HT_ HW_ ?_
     refine tB 37 (some 209) (bz 43 0x3fffffffff) HT_ HW_ ?_
     refine tB 39 (some 211) (bz 43 0xbfffffffff) HT_ HW_ ?_
     refine o1 38 (some 210) (bz 43 0xffffffffff) HT_ rfl (kC1 Tryz.func31 (impl_See.calls (hr1_4 := rC HO1067) (hc1_4 := rL HO1067) (hr2_2 := rC HO1057) (hc2_2 := rL HO1057) (w := _) (h := A118.out)) ?_); intro Ao1192 co1192 w123 _ HO1193
     refine nA (some 210) ?_
     refine o1 40 (some 212) (bz 43 0x1ffffffffff) HT_ rfl (kC Tryz.func39 (impl_SafeSame.calls (hr0_4 := rC HO1193) (hc0_4 := rL HO1193) (hr1_4 := rC HO1067) (hc1_4 := rL HO1067) (w := _) (h := A119.out)) ?_); intro w124 _
     refine nA (some 212) ?_
     refine pA 41 (some 213) (bz 43 0x3ffffffffff) HT_ ?_
     refine pA 42 (some 2) (bz 43 0x7ffffffffff) HT_ ?_
     refine done_ (done_of HT_.out (by kernel_rfl)) ?_
     try go_wp2
     go_ret
     exact ⟨y0_16, UpW.out⟩
    replace c110 := Bool.eq_false_iff.mpr c110; subst c110
    rw [if_neg (show ¬ (false = true) by decide)] at H
    obtain ⟨t1196, A125, H⟩ := oB H; (try dsimp only at H); obtain rfl := Option.some.inj H
    go_wp2_with (first | ((with_reducible refine gate_callee (f := 39) rfl ?_); refine gC (some 171) Tryz.func39 (impl_SafeSame.calls (hr0_4 := rC HO1067) (hc0_4 := rL HO1067) (hr1_4 := rC HO1051) (hc1_4 := rL HO1051) (w := _) (h := A125.out)) ?_; intro w126 _))
    go_ret
    exact ⟨y0_16, UpW.out⟩
   replace c106 := Bool.eq_false_iff.mpr c106; subst c106
   rw [if_neg (show ¬ (false = true) by decide)] at H
   have H' := Aside0.mk H; clear H
   go_upto_if 168 with (first | ((with_reducible refine gate_callee (f := 42) rfl ?_); refine gC (some 161) Tryz.func42 (impl_SafeOk.calls (hr1_4 := rC HO1051) (hc1_4 := rL HO1051) (w := _) (h := A105.out)) ?_; intro w127 _))
   have H := H'.out; clear H'; obtain ⟨t1197, A128, H⟩ := oB H; (try dsimp only at H); obtain rfl := Option.some.inj H
   go_wp2_with (first | ((with_reducible refine gate_callee (f := 39) rfl ?_); refine gC (some 171) Tryz.func39 (impl_SafeSame.calls (hr0_4 := rC HO1067) (hc0_4 := rL HO1067) (hr1_4 := rC HO1051) (hc1_4 := rL HO1051) (w := _) (h := A128.out)) ?_; intro w129 _))
   go_ret
   exact ⟨y0_16, UpW.out⟩
  replace c66 := Bool.eq_false_iff.mpr c66; subst c66
  rw [if_neg (show ¬ (false = true) by decide)] at H
  by_cases c130 : t1097 = true
  ·
   subst c130
   rw [if_pos rfl] at H
   by_cases c131 : t1089 ≤ t1072
   ·
    rw [if_pos c131] at H
    have c131b0 : decide (t1089 ≤ t1072) = true := decide_eq_true c131; clear c131
    exact absurd (hrt.out.symm.trans (Option.some.inj H).symm) (by decide)
   rw [if_neg c131] at H
   have c131b0 : decide (t1089 ≤ t1072) = false := decide_eq_false c131; clear c131; obtain ⟨t1198, A132, H⟩ := oB H; (try dsimp only at H); have H' := Aside0.mk H; clear H
   go_upto_if 158 with (first | (go_at_call 44; refine aC (impl_MayVote.calls (hr1_4 := rC HO1095) (hc1_4 := rL HO1095) (hr2_3 := rC HO1085) (hc2_3 := rL HO1085) (w := _) (h := A132.out)) ?_; intro w133 _))
   have H := H'.out; clear H'
   by_cases c134 : t1198 = true
   ·
    subst c134
    rw [if_pos rfl] at H
    exact absurd (hrt.out.symm.trans (Option.some.inj H).symm) (by decide)
   replace c134 := Bool.eq_false_iff.mpr c134; subst c134
   rw [if_neg (show ¬ (false = true) by decide)] at H
   obtain ⟨t1199, A135, H⟩ := oB H; (try dsimp only at H)
   by_cases c136 : t1199 = true
   ·
    subst c136
    rw [if_pos rfl] at H
    obtain ⟨t1200, A137, H⟩ := oB H; (try dsimp only at H); have H' := Aside0.mk H; clear H
    go_upto_if 168 with (first | ((with_reducible refine gate_callee (f := 42) rfl ?_); refine gC (some 161) Tryz.func42 (impl_SafeOk.calls (hr1_4 := rC HO1051) (hc1_4 := rL HO1051) (w := _) (h := A135.out)) ?_; intro w138 _) | (go_at_call 49; refine aC (impl_QcOk.calls (hr1_2 := rC HO1057) (hc1_2 := rL HO1057) (w := _) (h := A137.out)) ?_; intro w139 _))
    have H := H'.out; clear H'
    by_cases c140 : t1200 = true
    ·
     subst c140
     rw [if_pos rfl] at H
     obtain ⟨t1201, A141, H⟩ := oB H; (try dsimp only at H)
     by_cases c142 : t1201 = true
     rotate_left
     ·
      replace c142 := Bool.eq_false_iff.mpr c142; subst c142
      rw [if_neg (show ¬ (false = true) by decide)] at H
      exact absurd (hrt.out.symm.trans (Option.some.inj H).symm) (by decide)
     subst c142
     rw [if_pos rfl] at H
     by_cases c143 : t1062 ≥ t1046
     rotate_left
     ·
      rw [if_neg c143] at H
      have c143b0 : decide (t1046 ≤ t1062) = false := decide_eq_false c143; clear c143
      (first | rw [c143b0] | (simp only [i64_w, i32_w]; rw [c143b0]) | skip)
      exact absurd (hrt.out.symm.trans (Option.some.inj H).symm) (by decide)
     rw [if_pos c143] at H
     have c143b0 : decide (t1046 ≤ t1062) = true := decide_eq_true c143; clear c143
     (first | rw [c143b0] | (simp only [i64_w, i32_w]; rw [c143b0]) | skip)
     by_cases c144 : t1063 ≥ t1047
     rotate_left
     ·
      rw [if_neg c144] at H
      have c144b0 : decide (t1047 ≤ t1063) = false := decide_eq_false c144; clear c144
      exact absurd (hrt.out.symm.trans (Option.some.inj H).symm) (by decide)
     rw [if_pos c144] at H
     have c144b0 : decide (t1047 ≤ t1063) = true := decide_eq_true c144; clear c144
     by_cases c145 : t1063 ≥ t1053
     rotate_left
     ·
      rw [if_neg c145] at H
      have c145b0 : decide (t1053 ≤ t1063) = false := decide_eq_false c145; clear c145
      exact absurd (hrt.out.symm.trans (Option.some.inj H).symm) (by decide)
     rw [if_pos c145] at H
     have c145b0 : decide (t1053 ≤ t1063) = true := decide_eq_true c145; clear c145; obtain ⟨t1202, A146, H⟩ := oB H; (try dsimp only at H)
     by_cases c147 : t1202 = true
     rotate_left
     ·
      replace c147 := Bool.eq_false_iff.mpr c147; subst c147
      rw [if_neg (show ¬ (false = true) by decide)] at H
      exact absurd (hrt.out.symm.trans (Option.some.inj H).symm) (by decide)
     subst c147
     rw [if_pos rfl] at H
     obtain ⟨⟨t1203, t1204, t1205, t1206, t1207, t1210⟩, A148, H⟩ := oB H; (try dsimp only at H); obtain ⟨t1211, A149, H⟩ := oB H; (try dsimp only at H); obtain rfl := Option.some.inj H
     try go_wp2
     refine sB [] laws_FnSafe.tab20 laws_FnSafe.bits20 ?_; intro w150 _ HT_ HW_
     refine tB 0 (some 172) (bz 43 1) HT_ HW_ ?_
     refine tB 1 (some 173) (bz 43 3) HT_ HW_ ?_
     refine o1 2 (some 174) (bz 43 7) HT_ rfl (kC Tryz.func42 (impl_SafeOk.calls (hr1_4 := rC HO1067) (hc1_4 := rL HO1067) (w := _) (h := A141.out)) ?_); intro w151 _
     refine nA (some 174) ?_
     refine pA 3 (some 175) (bz 43 15) HT_ ?_
     refine pA 4 (some 176) (bz 43 31) HT_ ?_
     refine tB 5 (some 177) (bz 43 63) HT_ HW_ ?_
     refine pA 6 (some 178) (bz 43 127) HT_ ?_
     refine tB 7 (some 179) (bz 43 255) HT_ HW_ ?_
     refine pA 8 (some 180) (bz 43 511) HT_ ?_
     refine pA 9 (some 181) (bz 43 1023) HT_ ?_
     refine pA 10 (some 182) (bz 43 2047) HT_ ?_
     refine pA 11 (some 183) (bz 43 4095) HT_ ?_
     refine pA 12 (some 184) (bz 43 0x1fff) HT_ ?_
     refine tB 13 (some 185) (bz 43 0x3fff) HT_ HW_ ?_
     refine pA 14 (some 186) (bz 43 0x7fff) HT_ ?_
     refine pA 15 (some 187) (bz 43 0xffff) HT_ ?_
     refine tB 16 (some 188) (bz 43 0x1ffff) HT_ HW_ ?_
     refine pA 17 (some 189) (bz 43 0x3ffff) HT_ ?_
     refine pA 18 (some 190) (bz 43 0x7ffff) HT_ ?_
     refine pA 19 (some 191) (bz 43 0xfffff) HT_ ?_
     refine pA 20 (some 192) (bz 43 0x1fffff) HT_ ?_
     refine pA 21 (some 193) (bz 43 0x3fffff) HT_ ?_
     refine tB 22 (some 194) (bz 43 0x7fffff) HT_ HW_ ?_
     refine pA 23 (some 195) (bz 43 0xffffff) HT_ ?_
     refine tB 24 (some 196) (bz 43 0x1ffffff) HT_ HW_ ?_
     refine pA 25 (some 197) (bz 43 0x3ffffff) HT_ ?_
     refine pA 26 (some 198) (bz 43 0x7ffffff) HT_ ?_
     refine pA 27 (some 199) (bz 43 0xfffffff) HT_ ?_
     refine pA 28 (some 200) (bz 43 0x1fffffff) HT_ ?_
     refine tB 29 (some 201) (bz 43 0x3fffffff) HT_ HW_ ?_
     refine pA 30 (some 202) (bz 43 0x7fffffff) HT_ ?_
     refine tB 31 (some 203) (bz 43 0xffffffff) HT_ HW_ ?_
     refine o1 32 (some 204) (bz 43 0x1ffffffff) HT_ rfl (kC Tryz.func47 (impl_Extends.calls (w := _) (h := A146.out)) ?_); intro w152 _
     refine nA (some 204) ?_
     refine pA 33 (some 205) (bz 43 0x3ffffffff) HT_ ?_
     refine pA 34 (some 206) (bz 43 0x7ffffffff) HT_ ?_
     refine tB 35 (some 207) (bz 43 0xfffffffff) HT_ HW_ ?_
     refine tB 36 (some 208) (bz 43 0x1fffffffff) HT_ HW_ ?_
     refine tB 37 (some 209) (bz 43 0x3fffffffff) HT_ HW_ ?_
     refine tB 39 (some 211) (bz 43 0xbfffffffff) HT_ HW_ ?_
     refine o1 38 (some 210) (bz 43 0xffffffffff) HT_ rfl (kC1 Tryz.func31 (impl_See.calls (hr1_4 := rC HO1067) (hc1_4 := rL HO1067) (hr2_2 := rC HO1057) (hc2_2 := rL HO1057) (w := _) (h := A148.out)) ?_); intro Ao1208 co1208 w153 _ HO1209
     refine nA (some 210) ?_
     refine o1 40 (some 212) (bz 43 0x1ffffffffff) HT_ rfl (kC Tryz.func39 (impl_SafeSame.calls (hr0_4 := rC HO1209) (hc0_4 := rL HO1209) (hr1_4 := rC HO1067) (hc1_4 := rL HO1067) (w := _) (h := A149.out)) ?_); intro w154 _
     refine nA (some 212) ?_
     refine pA 41 (some 213) (bz 43 0x3ffffffffff) HT_ ?_
     refine pA 42 (some 2) (bz 43 0x7ffffffffff) HT_ ?_
     refine done_ (done_of HT_.out (by kernel_rfl)) ?_
     try go_wp2
     go_ret
     exact ⟨y0_16, UpW.out⟩
    replace c140 := Bool.eq_false_iff.mpr c140; subst c140
    rw [if_neg (show ¬ (false = true) by decide)] at H
    obtain ⟨t1212, A155, H⟩ := oB H; (try dsimp only at H); obtain rfl := Option.some.inj H
    go_wp2_with (first | ((with_reducible refine gate_callee (f := 39) rfl ?_); refine gC (some 171) Tryz.func39 (impl_SafeSame.calls (hr0_4 := rC HO1067) (hc0_4 := rL HO1067) (hr1_4 := rC HO1051) (hc1_4 := rL HO1051) (w := _) (h := A155.out)) ?_; intro w156 _))
    go_ret
    exact ⟨y0_16, UpW.out⟩
   replace c136 := Bool.eq_false_iff.mpr c136; subst c136
   rw [if_neg (show ¬ (false = true) by decide)] at H
   have H' := Aside0.mk H; clear H
   go_upto_if 168 with (first | ((with_reducible refine gate_callee (f := 42) rfl ?_); refine gC (some 161) Tryz.func42 (impl_SafeOk.calls (hr1_4 := rC HO1051) (hc1_4 := rL HO1051) (w := _) (h := A135.out)) ?_; intro w157 _))
   have H := H'.out; clear H'; obtain ⟨t1213, A158, H⟩ := oB H; (try dsimp only at H); obtain rfl := Option.some.inj H
   go_wp2_with (first | ((with_reducible refine gate_callee (f := 39) rfl ?_); refine gC (some 171) Tryz.func39 (impl_SafeSame.calls (hr0_4 := rC HO1067) (hc0_4 := rL HO1067) (hr1_4 := rC HO1051) (hc1_4 := rL HO1051) (w := _) (h := A158.out)) ?_; intro w159 _))
   go_ret
   exact ⟨y0_16, UpW.out⟩
  replace c130 := Bool.eq_false_iff.mpr c130; subst c130
  rw [if_neg (show ¬ (false = true) by decide)] at H
  obtain ⟨t1214, A160, H⟩ := oB H; (try dsimp only at H)
  by_cases c161 : t1214 = true
  ·
   subst c161
   rw [if_pos rfl] at H
   obtain ⟨t1215, A162, H⟩ := oB H; (try dsimp only at H); have H' := Aside0.mk H; clear H
   go_upto_if 168 with (first | ((with_reducible refine gate_callee (f := 42) rfl ?_); refine gC (some 161) Tryz.func42 (impl_SafeOk.calls (hr1_4 := rC HO1051) (hc1_4 := rL HO1051) (w := _) (h := A160.out)) ?_; intro w163 _) | (go_at_call 49; refine aC (impl_QcOk.calls (hr1_2 := rC HO1057) (hc1_2 := rL HO1057) (w := _) (h := A162.out)) ?_; intro w164 _))
   have H := H'.out; clear H'
   by_cases c165 : t1215 = true
   ·
    subst c165
    rw [if_pos rfl] at H
    obtain ⟨t1216, A166, H⟩ := oB H; (try dsimp only at H)
    by_cases c167 : t1216 = true
    rotate_left
    ·
     replace c167 := Bool.eq_false_iff.mpr c167; subst c167
     rw [if_neg (show ¬ (false = true) by decide)] at H
     exact absurd (hrt.out.symm.trans (Option.some.inj H).symm) (by decide)
    subst c167
    rw [if_pos rfl] at H
    by_cases c168 : t1062 ≥ t1046
    rotate_left
    ·
     rw [if_neg c168] at H
     have c168b0 : decide (t1046 ≤ t1062) = false := decide_eq_false c168; clear c168
     (first | rw [c168b0] | (simp only [i64_w, i32_w]; rw [c168b0]) | skip)
     exact absurd (hrt.out.symm.trans (Option.some.inj H).symm) (by decide)
    rw [if_pos c168] at H
    have c168b0 : decide (t1046 ≤ t1062) = true := decide_eq_true c168; clear c168
    (first | rw [c168b0] | (simp only [i64_w, i32_w]; rw [c168b0]) | skip)
    by_cases c169 : t1063 ≥ t1047
    rotate_left
    ·
     rw [if_neg c169] at H
     have c169b0 : decide (t1047 ≤ t1063) = false := decide_eq_false c169; clear c169
     exact absurd (hrt.out.symm.trans (Option.some.inj H).symm) (by decide)
    rw [if_pos c169] at H
    have c169b0 : decide (t1047 ≤ t1063) = true := decide_eq_true c169; clear c169
    by_cases c170 : t1063 ≥ t1053
    rotate_left
    ·
     rw [if_neg c170] at H
     have c170b0 : decide (t1053 ≤ t1063) = false := decide_eq_false c170; clear c170
     exact absurd (hrt.out.symm.trans (Option.some.inj H).symm) (by decide)
    rw [if_pos c170] at H
    have c170b0 : decide (t1053 ≤ t1063) = true := decide_eq_true c170; clear c170; obtain ⟨t1217, A171, H⟩ := oB H; (try dsimp only at H)
    by_cases c172 : t1217 = true
    rotate_left
    ·
     replace c172 := Bool.eq_false_iff.mpr c172; subst c172
     rw [if_neg (show ¬ (false = true) by decide)] at H
     exact absurd (hrt.out.symm.trans (Option.some.inj H).symm) (by decide)
    subst c172
    rw [if_pos rfl] at H
    obtain ⟨⟨t1218, t1219, t1220, t1221, t1222, t1225⟩, A173, H⟩ := oB H; (try dsimp only at H); obtain ⟨t1226, A174, H⟩ := oB H; (try dsimp only at H); obtain rfl := Option.some.inj H
    try go_wp2
    refine sB [] laws_FnSafe.tab20 laws_FnSafe.bits20 ?_; intro w175 _ HT_ HW_
    refine tB 0 (some 172) (bz 43 1) HT_ HW_ ?_
    refine tB 1 (some 173) (bz 43 3) HT_ HW_ ?_
    refine o1 2 (some 174) (bz 43 7) HT_ rfl (kC Tryz.func42 (impl_SafeOk.calls (hr1_4 := rC HO1067) (hc1_4 := rL HO1067) (w := _) (h := A166.out)) ?_); intro w176 _
    refine nA (some 174) ?_
    refine pA 3 (some 175) (bz 43 15) HT_ ?_
    refine pA 4 (some 176) (bz 43 31) HT_ ?_
    refine tB 5 (some 177) (bz 43 63) HT_ HW_ ?_
    refine pA 6 (some 178) (bz 43 127) HT_ ?_
    refine tB 7 (some 179) (bz 43 255) HT_ HW_ ?_
    refine pA 8 (some 180) (bz 43 511) HT_ ?_
    refine pA 9 (some 181) (bz 43 1023) HT_ ?_
    refine pA 10 (some 182) (bz 43 2047) HT_ ?_
    refine pA 11 (some 183) (bz 43 4095) HT_ ?_
    refine pA 12 (some 184) (bz 43 0x1fff) HT_ ?_
    refine tB 13 (some 185) (bz 43 0x3fff) HT_ HW_ ?_
    refine pA 14 (some 186) (bz 43 0x7fff) HT_ ?_
    refine pA 15 (some 187) (bz 43 0xffff) HT_ ?_
    refine tB 16 (some 188) (bz 43 0x1ffff) HT_ HW_ ?_
    refine pA 17 (some 189) (bz 43 0x3ffff) HT_ ?_
    refine pA 18 (some 190) (bz 43 0x7ffff) HT_ ?_
    refine pA 19 (some 191) (bz 43 0xfffff) HT_ ?_
    refine pA 20 (some 192) (bz 43 0x1fffff) HT_ ?_
    refine pA 21 (some 193) (bz 43 0x3fffff) HT_ ?_
    refine tB 22 (some 194) (bz 43 0x7fffff) HT_ HW_ ?_
    refine pA 23 (some 195) (bz 43 0xffffff) HT_ ?_
    refine tB 24 (some 196) (bz 43 0x1ffffff) HT_ HW_ ?_
    refine pA 25 (some 197) (bz 43 0x3ffffff) HT_ ?_
    refine pA 26 (some 198) (bz 43 0x7ffffff) HT_ ?_
    refine pA 27 (some 199) (bz 43 0xfffffff) HT_ ?_
    refine pA 28 (some 200) (bz 43 0x1fffffff) HT_ ?_
    refine tB 29 (some 201) (bz 43 0x3fffffff) HT_ HW_ ?_
    refine pA 30 (some 202) (bz 43 0x7fffffff) HT_ ?_
    refine tB 31 (some 203) (bz 43 0xffffffff) HT_ HW_ ?_
    refine o1 32 (some 204) (bz 43 0x1ffffffff) HT_ rfl (kC Tryz.func47 (impl_Extends.calls (w := _) (h := A171.out)) ?_); intro w177 _
    refine nA (some 204) ?_
    refine pA 33 (some 205) (bz 43 0x3ffffffff) HT_ ?_
    refine pA 34 (some 206) (bz 43 0x7ffffffff) HT_ ?_
    refine tB 35 (some 207) (bz 43 0xfffffffff) HT_ HW_ ?_
    refine tB 36 (some 208) (bz 43 0x1fffffffff) HT_ HW_ ?_
    refine tB 37 (some 209) (bz 43 0x3fffffffff) HT_ HW_ ?_
    refine tB 39 (some 211) (bz 43 0xbfffffffff) HT_ HW_ ?_
    refine o1 38 (some 210) (bz 43 0xffffffffff) HT_ rfl (kC1 Tryz.func31 (impl_See.calls (hr1_4 := rC HO1067) (hc1_4 := rL HO1067) (hr2_2 := rC HO1057) (hc2_2 := rL HO1057) (w := _) (h := A173.out)) ?_); intro Ao1223 co1223 w178 _ HO1224
    refine nA (some 210) ?_
    refine o1 40 (some 212) (bz 43 0x1ffffffffff) HT_ rfl (kC Tryz.func39 (impl_SafeSame.calls (hr0_4 := rC HO1224) (hc0_4 := rL HO1224) (hr1_4 := rC HO1067) (hc1_4 := rL HO1067) (w := _) (h := A174.out)) ?_); intro w179 _
    refine nA (some 212) ?_
    refine pA 41 (some 213) (bz 43 0x3ffffffffff) HT_ ?_
    refine pA 42 (some 2) (bz 43 0x7ffffffffff) HT_ ?_
    refine done_ (done_of HT_.out (by kernel_rfl)) ?_
    try go_wp2
    go_ret
    exact ⟨y0_16, UpW.out⟩
   replace c165 := Bool.eq_false_iff.mpr c165; subst c165
   rw [if_neg (show ¬ (false = true) by decide)] at H
   obtain ⟨t1227, A180, H⟩ := oB H; (try dsimp only at H); obtain rfl := Option.some.inj H
   go_wp2_with (first | ((with_reducible refine gate_callee (f := 39) rfl ?_); refine gC (some 171) Tryz.func39 (impl_SafeSame.calls (hr0_4 := rC HO1067) (hc0_4 := rL HO1067) (hr1_4 := rC HO1051) (hc1_4 := rL HO1051) (w := _) (h := A180.out)) ?_; intro w181 _))
   go_ret
   exact ⟨y0_16, UpW.out⟩
  replace c161 := Bool.eq_false_iff.mpr c161; subst c161
  rw [if_neg (show ¬ (false = true) by decide)] at H
  have H' := Aside0.mk H; clear H
  go_upto_if 168 with (first | ((with_reducible refine gate_callee (f := 42) rfl ?_); refine gC (some 161) Tryz.func42 (impl_SafeOk.calls (hr1_4 := rC HO1051) (hc1_4 := rL HO1051) (w := _) (h := A160.out)) ?_; intro w182 _))
  have H := H'.out; clear H'; obtain ⟨t1228, A183, H⟩ := oB H; (try dsimp only at H); obtain rfl := Option.some.inj H
  go_wp2_with (first | ((with_reducible refine gate_callee (f := 39) rfl ?_); refine gC (some 171) Tryz.func39 (impl_SafeSame.calls (hr0_4 := rC HO1067) (hc0_4 := rL HO1067) (hr1_4 := rC HO1051) (hc1_4 := rL HO1051) (w := _) (h := A183.out)) ?_; intro w184 _))
  go_ret
  exact ⟨y0_16, UpW.out⟩
 replace c36 := Bool.eq_false_iff.mpr c36; subst c36
 rw [if_neg (show ¬ (false = true) by decide)] at H
 exact absurd (hrt.out.symm.trans (Option.some.inj H).symm) (by decide)


end Go.Proofs.YtnpbopadajbopaaGreatDoor.PFnSafe
