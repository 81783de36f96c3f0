/- Part of the proof of this claim: walks through the program's functions and the plain laws that they need, printed by a program of this session. -/
import Derived.Test.YthkombhebdjamaaGreatDoorProg
import Derived.Test.YthkombhebdjamaaGreatDoorRules
set_option maxRecDepth 100000
namespace Go.Sp.TryzT
open Go.Proofs Go.Sp
theorem mixed : Tryz.prog.follows .mixedOrders = true := by kernel_rfl
theorem oZ : c7 Tryz.prog 3 = some false := by kernel_rfl
theorem sz3 : bX Tryz.prog 3 = some 1 := by kernel_rfl
theorem yD : fD Tryz.prog 3 = some .i64 := by kernel_rfl
theorem ze3 : cH Tryz.prog 3 = some ([.int .i64 (0)]) := by kernel_rfl
theorem uD : c7 Tryz.prog 4 = some false := by kernel_rfl
theorem UA : bX Tryz.prog 4 = some 1 := by kernel_rfl
theorem bo4 : vW Tryz.prog 4 = true := by kernel_rfl
theorem ze4 : cH Tryz.prog 4 = some ([.bool false]) := by kernel_rfl
theorem B7 : c7 Tryz.prog 5 = some false := by kernel_rfl
theorem iB : bX Tryz.prog 5 = some 1 := by kernel_rfl
theorem pI : fD Tryz.prog 5 = some .u8 := by kernel_rfl
theorem ze5 : cH Tryz.prog 5 = some ([.int .u8 (0)]) := by kernel_rfl
theorem ag9 : c7 Tryz.prog 9 = some false := by kernel_rfl
theorem ze9 : cH Tryz.prog 9 = some ([.string ⟨#[]⟩]) := by kernel_rfl
theorem KZ : cT Tryz.prog 22 = some 56 := by kernel_rfl
theorem B8 : c7 Tryz.prog 23 = some true := by kernel_rfl
theorem uW : bX Tryz.prog 23 = some 32 := by kernel_rfl
theorem aF3 : eF Tryz.prog 23 = some (32, 5) := by kernel_rfl
theorem aGD : cH Tryz.prog 23 = some (kc (List.replicate 32 0)) := by kernel_rfl
theorem cU : c7 Tryz.prog 24 = some true := by kernel_rfl
theorem cN : bX Tryz.prog 24 = some 32 := by kernel_rfl
theorem gQ : eF Tryz.prog 24 = some (32, 5) := by kernel_rfl
theorem rO : cH Tryz.prog 24 = some (kc (List.replicate 32 0)) := by kernel_rfl
theorem F3 : rR Tryz.prog 25 = some 90 := by kernel_rfl
theorem s7 : cT Tryz.prog 26 = some 111 := by kernel_rfl
theorem iD : c7 Tryz.prog 30 = some true := by kernel_rfl
theorem dK : bX Tryz.prog 30 = some 32 := by kernel_rfl
theorem oY : eF Tryz.prog 30 = some (32, 5) := by kernel_rfl
theorem nP : cH Tryz.prog 30 = some (kc (List.replicate 32 0)) := by kernel_rfl
theorem HH : c7 Tryz.prog 32 = some true := by kernel_rfl
theorem AX : bX Tryz.prog 32 = some 64 := by kernel_rfl
theorem kD : cD Tryz.prog 32 0 = some (0, 24, 32) := by kernel_rfl
theorem GW : cD Tryz.prog 32 1 = some (32, 30, 32) := by kernel_rfl
theorem NF : cH Tryz.prog 32 = some ((kc (List.replicate 32 0) ++ (kc (List.replicate 32 0)))) := by kernel_rfl
theorem sL : c7 Tryz.prog 33 = some false := by kernel_rfl
theorem aAx : bX Tryz.prog 33 = some 1 := by kernel_rfl
theorem mS : cT Tryz.prog 33 = some 30 := by kernel_rfl
theorem aGC : cH Tryz.prog 33 = some ([.slice none 0 0]) := by kernel_rfl
theorem lZ : c7 Tryz.prog 35 = some true := by kernel_rfl
theorem jU : bX Tryz.prog 35 = some 99 := by kernel_rfl
theorem mI : cD Tryz.prog 35 0 = some (0, 3, 1) := by kernel_rfl
theorem rC : cD Tryz.prog 35 1 = some (1, 3, 1) := by kernel_rfl
theorem oG : cD Tryz.prog 35 2 = some (2, 32, 64) := by kernel_rfl
theorem pM : cD Tryz.prog 35 3 = some (66, 23, 32) := by kernel_rfl
theorem lJ : cD Tryz.prog 35 4 = some (98, 33, 1) := by kernel_rfl
theorem u4 : c7 Tryz.prog 37 = some false := by kernel_rfl
theorem aC2 : rR Tryz.prog 37 = some 211 := by kernel_rfl
theorem gZ : c7 Tryz.prog 39 = some false := by kernel_rfl
theorem lC : bX Tryz.prog 39 = some 1 := by kernel_rfl
theorem wH : rR Tryz.prog 39 = some 143 := by kernel_rfl
theorem KK : cH Tryz.prog 39 = some ([.pointer none]) := by kernel_rfl
theorem eL : c7 Tryz.prog 41 = some false := by kernel_rfl
theorem AW : bX Tryz.prog 41 = some 1 := by kernel_rfl
theorem eV : cT Tryz.prog 41 = some 5 := by kernel_rfl
theorem aCi : cH Tryz.prog 41 = some ([.slice none 0 0]) := by kernel_rfl
theorem aBO : c7 Tryz.prog 42 = some false := by kernel_rfl
theorem aG0 : fD Tryz.prog 42 = some .i64 := by kernel_rfl
theorem aCh : cH Tryz.prog 42 = some ([.int .i64 (0)]) := by kernel_rfl
theorem aBN : c7 Tryz.prog 48 = some true := by kernel_rfl
theorem T9 : bX Tryz.prog 48 = some 3 := by kernel_rfl
theorem B1 : cD Tryz.prog 48 0 = some (0, 41, 1) := by kernel_rfl
theorem Q5 : cD Tryz.prog 48 1 = some (1, 41, 1) := by kernel_rfl
theorem B0 : cD Tryz.prog 48 2 = some (2, 4, 1) := by kernel_rfl
theorem ND : cH Tryz.prog 48 = some ([.slice none 0 0, .slice none 0 0, .bool false]) := by kernel_rfl
theorem XH : c7 Tryz.prog 54 = some false := by kernel_rfl
theorem nU : cT Tryz.prog 54 = some 102 := by kernel_rfl
theorem aBM : c7 Tryz.prog 56 = some true := by kernel_rfl
theorem FU : bX Tryz.prog 56 = some 4 := by kernel_rfl
theorem tT : cD Tryz.prog 56 0 = some (0, 3, 1) := by kernel_rfl
theorem lI : cD Tryz.prog 56 1 = some (1, 41, 1) := by kernel_rfl
theorem BZ : cD Tryz.prog 56 2 = some (2, 41, 1) := by kernel_rfl
theorem BX : cD Tryz.prog 56 3 = some (3, 54, 1) := by kernel_rfl
theorem aCg : cH Tryz.prog 56 = some ([.int .i64 (0), .slice none 0 0, .slice none 0 0, .slice none 0 0]) := by kernel_rfl
theorem aF8 : c7 Tryz.prog 61 = some false := by kernel_rfl
theorem lY : c7 Tryz.prog 85 = some true := by kernel_rfl
theorem jI : bX Tryz.prog 85 = some 32 := by kernel_rfl
theorem aBI : eF Tryz.prog 85 = some (32, 5) := by kernel_rfl
theorem KJ : cH Tryz.prog 85 = some (kc (List.replicate 32 0)) := by kernel_rfl
theorem MN : c7 Tryz.prog 86 = some false := by kernel_rfl
theorem aCy : bX Tryz.prog 86 = some 1 := by kernel_rfl
theorem N4 : cT Tryz.prog 86 = some 39 := by kernel_rfl
theorem aCf : cH Tryz.prog 86 = some ([.slice none 0 0]) := by kernel_rfl
theorem xF : cD Tryz.prog 90 0 = some (0, 37, 1) := by kernel_rfl
theorem oF : cD Tryz.prog 90 1 = some (1, 39, 1) := by kernel_rfl
theorem aGB : cH Tryz.prog 90 = some ([.pointer none, .pointer none]) := by kernel_rfl
theorem DR : fD Tryz.prog 93 = some .u64 := by kernel_rfl
theorem aGe : c7 Tryz.prog 102 = some true := by kernel_rfl
theorem lD : bX Tryz.prog 102 = some 3 := by kernel_rfl
theorem p6 : cD Tryz.prog 102 0 = some (0, 41, 1) := by kernel_rfl
theorem p5 : cD Tryz.prog 102 1 = some (1, 41, 1) := by kernel_rfl
theorem vL : cD Tryz.prog 102 2 = some (2, 4, 1) := by kernel_rfl
theorem NJ : cH Tryz.prog 102 = some ([.slice none 0 0, .slice none 0 0, .bool false]) := by kernel_rfl
theorem oS : c7 Tryz.prog 111 = some true := by kernel_rfl
theorem fL : bX Tryz.prog 111 = some 33 := by kernel_rfl
theorem gW : cD Tryz.prog 111 0 = some (0, 24, 32) := by kernel_rfl
theorem p4 : cD Tryz.prog 111 1 = some (32, 41, 1) := by kernel_rfl
theorem kL : cH Tryz.prog 111 = some ((kc (List.replicate 32 0) ++ ([.slice none 0 0]))) := by kernel_rfl
theorem dQ : cT Tryz.prog 119 = some 127 := by kernel_rfl
theorem sM : c7 Tryz.prog 127 = some true := by kernel_rfl
theorem eB : bX Tryz.prog 127 = some 34 := by kernel_rfl
theorem p3 : cD Tryz.prog 127 0 = some (0, 24, 32) := by kernel_rfl
theorem WD : cD Tryz.prog 127 1 = some (32, 41, 1) := by kernel_rfl
theorem WC : cD Tryz.prog 127 2 = some (33, 4, 1) := by kernel_rfl
theorem y5 : cH Tryz.prog 127 = some ((kc (List.replicate 32 0) ++ ([.slice none 0 0] ++ ([.bool false])))) := by kernel_rfl
theorem KA : c7 Tryz.prog 141 = some false := by kernel_rfl
theorem vK : cD Tryz.prog 143 0 = some (0, 141, 1) := by kernel_rfl
theorem WB : cD Tryz.prog 143 1 = some (1, 30, 32) := by kernel_rfl
theorem YC : cH Tryz.prog 143 = some (([.nilIface] ++ (kc (List.replicate 32 0)))) := by kernel_rfl
theorem aAg : c7 Tryz.prog 150 = some true := by kernel_rfl
theorem CU : bX Tryz.prog 150 = some 65 := by kernel_rfl
theorem B2 : cD Tryz.prog 150 0 = some (0, 32, 64) := by kernel_rfl
theorem WA : cD Tryz.prog 150 1 = some (64, 41, 1) := by kernel_rfl
theorem HZ : cH Tryz.prog 150 = some (((kc (List.replicate 32 0) ++ (kc (List.replicate 32 0))) ++ ([.slice none 0 0]))) := by kernel_rfl
theorem SE : c7 Tryz.prog 151 = some true := by kernel_rfl
theorem IM : bX Tryz.prog 151 = some 2 := by kernel_rfl
theorem R7 : eF Tryz.prog 151 = some (2, 39) := by kernel_rfl
theorem YB : cH Tryz.prog 151 = some (List.replicate 2 (.pointer none)) := by kernel_rfl
theorem aCB : bX Tryz.prog 152 = some 64 := by kernel_rfl
theorem xW : eF Tryz.prog 152 = some (2, 30) := by kernel_rfl
theorem NI : cH Tryz.prog 152 = some ((kc (List.replicate 32 0) ++ (kc (List.replicate 32 0)))) := by kernel_rfl
theorem aAf : c7 Tryz.prog 154 = some true := by kernel_rfl
theorem IL : bX Tryz.prog 154 = some 67 := by kernel_rfl
theorem JS : cD Tryz.prog 154 0 = some (0, 151, 2) := by kernel_rfl
theorem JR : cD Tryz.prog 154 1 = some (2, 152, 64) := by kernel_rfl
theorem V9 : cD Tryz.prog 154 2 = some (66, 3, 1) := by kernel_rfl
theorem NH : cH Tryz.prog 154 = some ((List.replicate 2 (.pointer none) ++ ((kc (List.replicate 32 0) ++ (kc (List.replicate 32 0))) ++ ([.int .i64 (0)])))) := by kernel_rfl
theorem E5 : c7 Tryz.prog 159 = some false := by kernel_rfl
theorem E4 : c7 Tryz.prog 161 = some true := by kernel_rfl
theorem kZ : bX Tryz.prog 161 = some 2 := by kernel_rfl
theorem sJ : cD Tryz.prog 161 0 = some (0, 159, 1) := by kernel_rfl
theorem qD : cH Tryz.prog 161 = some ([.nilFunc, .int .i64 (0)]) := by kernel_rfl
theorem aGd : c7 Tryz.prog 162 = some true := by kernel_rfl
theorem YI : bX Tryz.prog 162 = some 10 := by kernel_rfl
theorem AO : eF Tryz.prog 162 = some (5, 161) := by kernel_rfl
theorem YA : cH Tryz.prog 162 = some (([.nilFunc, .int .i64 (0)] ++ ([.nilFunc, .int .i64 (0)] ++ ([.nilFunc, .int .i64 (0)] ++ ([.nilFunc, .int .i64 (0)] ++ ([.nilFunc, .int .i64 (0)])))))) := by kernel_rfl
theorem rU : cT Tryz.prog 164 = some 41 := by kernel_rfl
theorem JQ : cD Tryz.prog 168 0 = some (0, 37, 1) := by kernel_rfl
theorem vJ : cD Tryz.prog 168 1 = some (1, 41, 1) := by kernel_rfl
theorem kJ : cD Tryz.prog 168 2 = some (2, 48, 3) := by kernel_rfl
theorem V8 : cD Tryz.prog 168 3 = some (5, 41, 1) := by kernel_rfl
theorem vI : cD Tryz.prog 168 4 = some (6, 35, 99) := by kernel_rfl
theorem uG : cT Tryz.prog 169 = some 173 := by kernel_rfl
theorem AR : c7 Tryz.prog 171 = some false := by kernel_rfl
theorem AQ : c7 Tryz.prog 173 = some true := by kernel_rfl
theorem jN : bX Tryz.prog 173 = some 1 := by kernel_rfl
theorem pZ : cD Tryz.prog 173 0 = some (0, 171, 1) := by kernel_rfl
theorem mP : cH Tryz.prog 173 = some ([.nilFunc]) := by kernel_rfl
theorem uS : c7 Tryz.prog 178 = some true := by kernel_rfl
theorem qE : bX Tryz.prog 178 = some 3 := by kernel_rfl
theorem X9 : cH Tryz.prog 178 = some ([.pointer none, .pointer none, .int .u64 (0)]) := by kernel_rfl
theorem aAe : c7 Tryz.prog 181 = some false := by kernel_rfl
theorem YL : cT Tryz.prog 190 = some 9 := by kernel_rfl
theorem aGc : c7 Tryz.prog 209 = some false := by kernel_rfl
theorem V7 : cD Tryz.prog 211 0 = some (0, 209, 1) := by kernel_rfl
theorem V6 : cD Tryz.prog 211 1 = some (1, 3, 1) := by kernel_rfl
theorem aCq : cH Tryz.prog 211 = some ([.pointer none, .int .i64 (0)]) := by kernel_rfl
theorem JP : cD Tryz.prog 213 0 = some (0, 3, 1) := by kernel_rfl
theorem aCp : cH Tryz.prog 213 = some ([.int .i64 (0)]) := by kernel_rfl
theorem aAd : c7 Tryz.prog 219 = some false := by kernel_rfl
theorem YO : rR Tryz.prog 219 = some 221 := by kernel_rfl
theorem aCo : cH Tryz.prog 219 = some ([.pointer none]) := by kernel_rfl
theorem JO : cD Tryz.prog 221 0 = some (0, 9, 1) := by kernel_rfl
theorem V5 : cD Tryz.prog 221 1 = some (1, 3, 1) := by kernel_rfl
theorem JN : cD Tryz.prog 221 2 = some (2, 61, 1) := by kernel_rfl
theorem aCn : cH Tryz.prog 221 = some ([.string ⟨#[]⟩, .int .i64 (0), .nilIface]) := by kernel_rfl
theorem aAc : c7 Tryz.prog 248 = some false := by kernel_rfl
theorem vY : cT Tryz.prog 248 = some 24 := by kernel_rfl
theorem jX : c7 Tryz.prog 260 = some false := by kernel_rfl
theorem fS : bX Tryz.prog 260 = some 1 := by kernel_rfl
theorem PT : fD Tryz.prog 260 = some .u32 := by kernel_rfl
theorem aAa : eF Tryz.prog 261 = some (8, 260) := by kernel_rfl
theorem aCm : cH Tryz.prog 261 = some (kw (List.replicate 8 0)) := by kernel_rfl
theorem aGb : c7 Tryz.prog 266 = some true := by kernel_rfl
theorem N1 : bX Tryz.prog 266 = some 8 := by kernel_rfl
theorem oR : eF Tryz.prog 266 = some (8, 260) := by kernel_rfl
theorem NG : cH Tryz.prog 266 = some (kw (List.replicate 8 0)) := by kernel_rfl
theorem aGa : c7 Tryz.prog 268 = some false := by kernel_rfl
theorem aCA : bX Tryz.prog 268 = some 1 := by kernel_rfl
theorem aCl : cH Tryz.prog 268 = some ([.nilFunc]) := by kernel_rfl
theorem pY : cD Tryz.prog 277 0 = some (0, 41, 1) := by kernel_rfl
theorem JM : cD Tryz.prog 277 1 = some (1, 4, 1) := by kernel_rfl
theorem aCk : cH Tryz.prog 277 = some ([.slice none 0 0, .bool false]) := by kernel_rfl
theorem YX : fD Tryz.prog 294 = some .u64 := by kernel_rfl
theorem qS : eF Tryz.prog 301 = some (16, 260) := by kernel_rfl
theorem aCj : cH Tryz.prog 301 = some (kw (List.replicate 16 0)) := by kernel_rfl
theorem aF9 : c7 Tryz.prog 302 = some true := by kernel_rfl
theorem aCz : bX Tryz.prog 302 = some 64 := by kernel_rfl
theorem Z9 : eF Tryz.prog 302 = some (64, 260) := by kernel_rfl
theorem CY : cT Tryz.prog 316 = some 3 := by kernel_rfl
theorem aAb : c7 Tryz.prog 326 = some false := by kernel_rfl
theorem yJ : lR Tryz.prog 26 111 ((kc (List.replicate 32 0) ++ ([.slice none 0 0]))) 56 := ⟨s7, kL, by first | rfl | exact fL, by kernel_rfl⟩
theorem CX : lR Tryz.prog 33 30 (kc (List.replicate 32 0)) 32 := ⟨mS, nP, by first | rfl | exact dK, by kernel_rfl⟩
theorem jZ : lR Tryz.prog 41 5 ([.int .u8 (0)]) 1 := ⟨eV, ze5, by first | rfl | exact iB, by kernel_rfl⟩
theorem aGL : lR Tryz.prog 54 102 ([.slice none 0 0, .slice none 0 0, .bool false]) 56 := ⟨nU, NJ, by first | rfl | exact lD, by kernel_rfl⟩
theorem UH : lR Tryz.prog 86 39 ([.pointer none]) 8 := ⟨N4, KK, by first | rfl | exact lC, by kernel_rfl⟩
theorem uF : lR Tryz.prog 119 127 ((kc (List.replicate 32 0) ++ ([.slice none 0 0] ++ ([.bool false])))) 64 := ⟨dQ, y5, by first | rfl | exact eB, by kernel_rfl⟩
theorem IP : lR Tryz.prog 164 41 ([.slice none 0 0]) 24 := ⟨rU, aCi, by first | rfl | exact AW, by kernel_rfl⟩
theorem aCN : lR Tryz.prog 169 173 ([.nilFunc]) 8 := ⟨uG, mP, by first | rfl | exact jN, by kernel_rfl⟩
theorem YJ : lR Tryz.prog 190 9 ([.string ⟨#[]⟩]) 16 := ⟨YL, ze9, by first | rfl | exact sz9, by kernel_rfl⟩
theorem aCL : lR Tryz.prog 248 24 (kc (List.replicate 32 0)) 32 := ⟨vY, rO, by first | rfl | exact cN, by kernel_rfl⟩
theorem rT : lR Tryz.prog 316 3 ([.int .i64 (0)]) 8 := ⟨CY, ze3, by first | rfl | exact sz3, by kernel_rfl⟩
theorem aAL : eO Tryz.prog 32 = some [(0, 32), (32, 32)] := by kernel_rfl
theorem aFK : N0 Tryz.prog 32 = some [(0, 24), (32, 30)] := by kernel_rfl
theorem aFJ : Tryz.prog.eqGuardType Tryz.prog.depth 32 = false := by kernel_rfl
theorem aAK : eO Tryz.prog 35 = some [(0, 1), (1, 1), (2, 64), (66, 32), (98, 1)] := by kernel_rfl
theorem UX : eO Tryz.prog 48 = some [(0, 1), (1, 1), (2, 1)] := by kernel_rfl
theorem aGR : eO Tryz.prog 90 = some [(0, 1), (1, 1)] := by kernel_rfl
theorem aC8 : eO Tryz.prog 102 = some [(0, 1), (1, 1), (2, 1)] := by kernel_rfl
theorem wJ : eO Tryz.prog 111 = some [(0, 32), (32, 1)] := by kernel_rfl
theorem YT : eO Tryz.prog 127 = some [(0, 32), (32, 1), (33, 1)] := by kernel_rfl
theorem YS : eO Tryz.prog 143 = some [(0, 1), (1, 32)] := by kernel_rfl
theorem YR : eO Tryz.prog 150 = some [(0, 64), (64, 1)] := by kernel_rfl
theorem EO : nT Tryz.prog 150 = true := by kernel_rfl
theorem X8 : s6 Tryz.prog 150 = some (.agg #[.int .u8 (0), .int .u8 (0), .int .u8 (0), .int .u8 (0), .int .u8 (0), .int .u8 (0), .int .u8 (0), .int .u8 (0), .int .u8 (0), .int .u8 (0), .int .u8 (0), .int .u8 (0), .int .u8 (0), .int .u8 (0), .int .u8 (0), .int .u8 (0), .int .u8 (0), .int .u8 (0), .int .u8 (0), .int .u8 (0), .int .u8 (0), .int .u8 (0), .int .u8 (0), .int .u8 (0), .int .u8 (0), .int .u8 (0), .int .u8 (0), .int .u8 (0), .int .u8 (0), .int .u8 (0), .int .u8 (0), .int .u8 (0), .int .u8 (0), .int .u8 (0), .int .u8 (0), .int .u8 (0), .int .u8 (0), .int .u8 (0), .int .u8 (0), .int .u8 (0), .int .u8 (0), .int .u8 (0), .int .u8 (0), .int .u8 (0), .int .u8 (0), .int .u8 (0), .int .u8 (0), .int .u8 (0), .int .u8 (0), .int .u8 (0), .int .u8 (0), .int .u8 (0), .int .u8 (0), .int .u8 (0), .int .u8 (0), .int .u8 (0), .int .u8 (0), .int .u8 (0), .int .u8 (0), .int .u8 (0), .int .u8 (0), .int .u8 (0), .int .u8 (0), .int .u8 (0), .slice none 0 0]) := by kernel_rfl
theorem YQ : eO Tryz.prog 154 = some [(0, 2), (2, 64), (66, 1)] := by kernel_rfl
theorem JY : nT Tryz.prog 154 = true := by kernel_rfl
theorem aCe : s6 Tryz.prog 154 = some (.agg #[.pointer none, .pointer none, .int .u8 (0), .int .u8 (0), .int .u8 (0), .int .u8 (0), .int .u8 (0), .int .u8 (0), .int .u8 (0), .int .u8 (0), .int .u8 (0), .int .u8 (0), .int .u8 (0), .int .u8 (0), .int .u8 (0), .int .u8 (0), .int .u8 (0), .int .u8 (0), .int .u8 (0), .int .u8 (0), .int .u8 (0), .int .u8 (0), .int .u8 (0), .int .u8 (0), .int .u8 (0), .int .u8 (0), .int .u8 (0), .int .u8 (0), .int .u8 (0), .int .u8 (0), .int .u8 (0), .int .u8 (0), .int .u8 (0), .int .u8 (0), .int .u8 (0), .int .u8 (0), .int .u8 (0), .int .u8 (0), .int .u8 (0), .int .u8 (0), .int .u8 (0), .int .u8 (0), .int .u8 (0), .int .u8 (0), .int .u8 (0), .int .u8 (0), .int .u8 (0), .int .u8 (0), .int .u8 (0), .int .u8 (0), .int .u8 (0), .int .u8 (0), .int .u8 (0), .int .u8 (0), .int .u8 (0), .int .u8 (0), .int .u8 (0), .int .u8 (0), .int .u8 (0), .int .u8 (0), .int .u8 (0), .int .u8 (0), .int .u8 (0), .int .u8 (0), .int .u8 (0), .int .u8 (0), .int .i64 (0)]) := by kernel_rfl
theorem DC : eO Tryz.prog 161 = some [(0, 1), (1, 1)] := by kernel_rfl
theorem aC7 : eO Tryz.prog 168 = some [(0, 1), (1, 1), (2, 3), (5, 1), (6, 99)] := by kernel_rfl
theorem zG : eO Tryz.prog 173 = some [(0, 1)] := by kernel_rfl
theorem aC6 : eO Tryz.prog 211 = some [(0, 1), (1, 1)] := by kernel_rfl
theorem aC5 : eO Tryz.prog 213 = some [(0, 1)] := by kernel_rfl
theorem aC4 : eO Tryz.prog 221 = some [(0, 1), (1, 1), (2, 1)] := by kernel_rfl
theorem aC3 : eO Tryz.prog 277 = some [(0, 1), (1, 1)] := by kernel_rfl
theorem fb7 : Body Tryz.prog 7 Tryz.f7 := ⟨Tryz.func7, by decide +kernel, rfl⟩
theorem fb8 : Body Tryz.prog 8 Tryz.f8 := ⟨Tryz.func8, by decide +kernel, rfl⟩
theorem fb9 : Body Tryz.prog 9 Tryz.f9 := ⟨Tryz.func9, by decide +kernel, rfl⟩
theorem yV : Body Tryz.prog 10 Tryz.f10 := ⟨Tryz.func10, by decide +kernel, rfl⟩
theorem WM : Body Tryz.prog 11 Tryz.f11 := ⟨Tryz.func11, by decide +kernel, rfl⟩
theorem aFy : Body Tryz.prog 12 Tryz.f12 := ⟨Tryz.func12, by decide +kernel, rfl⟩
theorem aFo : Body Tryz.prog 13 Tryz.f13 := ⟨Tryz.func13, by decide +kernel, rfl⟩
theorem WK : Body Tryz.prog 14 Tryz.f14 := ⟨Tryz.func14, by decide +kernel, rfl⟩
theorem aIi : Body Tryz.prog 15 Tryz.f15 := ⟨Tryz.func15, by decide +kernel, rfl⟩
theorem aIh : Body Tryz.prog 16 Tryz.f16 := ⟨Tryz.func16, by decide +kernel, rfl⟩
theorem aIg : Body Tryz.prog 17 Tryz.f17 := ⟨Tryz.func17, by decide +kernel, rfl⟩
theorem aE3 : Body Tryz.prog 18 Tryz.f18 := ⟨Tryz.func18, by decide +kernel, rfl⟩
theorem aIf : Body Tryz.prog 19 Tryz.f19 := ⟨Tryz.func19, by decide +kernel, rfl⟩
theorem aIe : Body Tryz.prog 20 Tryz.f20 := ⟨Tryz.func20, by decide +kernel, rfl⟩
theorem aId : Body Tryz.prog 21 Tryz.f21 := ⟨Tryz.func21, by decide +kernel, rfl⟩
theorem aIc : Body Tryz.prog 22 Tryz.f22 := ⟨Tryz.func22, by decide +kernel, rfl⟩
theorem Q7 : Body Tryz.prog 27 Tryz.f27 := ⟨Tryz.func27, by decide +kernel, rfl⟩
theorem aIb : Body Tryz.prog 28 Tryz.f28 := ⟨Tryz.func28, by decide +kernel, rfl⟩
theorem aEF : Body Tryz.prog 29 Tryz.f29 := ⟨Tryz.func29, by decide +kernel, rfl⟩
theorem WJ : Body Tryz.prog 30 Tryz.f30 := ⟨Tryz.func30, by decide +kernel, rfl⟩
theorem mJ : Body Tryz.prog 31 Tryz.f31 := ⟨Tryz.func31, by decide +kernel, rfl⟩
theorem EE : Body Tryz.prog 32 Tryz.f32 := ⟨Tryz.func32, by decide +kernel, rfl⟩
theorem aIa : Body Tryz.prog 33 Tryz.f33 := ⟨Tryz.func33, by decide +kernel, rfl⟩
theorem aH9 : Body Tryz.prog 34 Tryz.f34 := ⟨Tryz.func34, by decide +kernel, rfl⟩
theorem WI : Body Tryz.prog 35 Tryz.f35 := ⟨Tryz.func35, by decide +kernel, rfl⟩
theorem aH8 : Body Tryz.prog 36 Tryz.f36 := ⟨Tryz.func36, by decide +kernel, rfl⟩
theorem aEE : Body Tryz.prog 37 Tryz.f37 := ⟨Tryz.func37, by decide +kernel, rfl⟩
theorem aH7 : Body Tryz.prog 38 Tryz.f38 := ⟨Tryz.func38, by decide +kernel, rfl⟩
theorem aBz : Body Tryz.prog 39 Tryz.f39 := ⟨Tryz.func39, by decide +kernel, rfl⟩
theorem aBy : Body Tryz.prog 40 Tryz.f40 := ⟨Tryz.func40, by decide +kernel, rfl⟩
theorem aED : Body Tryz.prog 41 Tryz.f41 := ⟨Tryz.func41, by decide +kernel, rfl⟩
theorem WH : Body Tryz.prog 42 Tryz.f42 := ⟨Tryz.func42, by decide +kernel, rfl⟩
theorem WG : Body Tryz.prog 43 Tryz.f43 := ⟨Tryz.func43, by decide +kernel, rfl⟩
theorem aEC : Body Tryz.prog 44 Tryz.f44 := ⟨Tryz.func44, by decide +kernel, rfl⟩
theorem Q6 : Body Tryz.prog 45 Tryz.f45 := ⟨Tryz.func45, by decide +kernel, rfl⟩
theorem aEB : Body Tryz.prog 46 Tryz.f46 := ⟨Tryz.func46, by decide +kernel, rfl⟩
theorem aBx : Body Tryz.prog 47 Tryz.f47 := ⟨Tryz.func47, by decide +kernel, rfl⟩
theorem aH6 : Body Tryz.prog 48 Tryz.f48 := ⟨Tryz.func48, by decide +kernel, rfl⟩
theorem aBw : Body Tryz.prog 49 Tryz.f49 := ⟨Tryz.func49, by decide +kernel, rfl⟩
theorem aH5 : Body Tryz.prog 50 Tryz.f50 := ⟨Tryz.func50, by decide +kernel, rfl⟩
theorem aH4 : Body Tryz.prog 51 Tryz.f51 := ⟨Tryz.func51, by decide +kernel, rfl⟩
theorem aH3 : Body Tryz.prog 52 Tryz.f52 := ⟨Tryz.func52, by decide +kernel, rfl⟩
theorem aBv : Body Tryz.prog 53 Tryz.f53 := ⟨Tryz.func53, by decide +kernel, rfl⟩
theorem aH2 : Body Tryz.prog 54 Tryz.f54 := ⟨Tryz.func54, by decide +kernel, rfl⟩
theorem aH1 : Body Tryz.prog 55 Tryz.f55 := ⟨Tryz.func55, by decide +kernel, rfl⟩
theorem aH0 : Body Tryz.prog 56 Tryz.f56 := ⟨Tryz.func56, by decide +kernel, rfl⟩
theorem aEA : Body Tryz.prog 61 Tryz.f61 := ⟨Tryz.func61, by decide +kernel, rfl⟩
theorem GX : Body Tryz.prog 68 Tryz.f68 := ⟨Tryz.func68, by decide +kernel, rfl⟩
theorem aEz : Body Tryz.prog 69 Tryz.f69 := ⟨Tryz.func69, by decide +kernel, rfl⟩
theorem aHZ : Body Tryz.prog 70 Tryz.f70 := ⟨Tryz.func70, by decide +kernel, rfl⟩
theorem aEy : Body Tryz.prog 71 Tryz.f71 := ⟨Tryz.func71, by decide +kernel, rfl⟩
theorem aEx : Body Tryz.prog 72 Tryz.f72 := ⟨Tryz.func72, by decide +kernel, rfl⟩
theorem L5 : Body Tryz.prog 73 Tryz.f73 := ⟨Tryz.func73, by decide +kernel, rfl⟩
theorem ED : Body Tryz.prog 74 Tryz.f74 := ⟨Tryz.func74, by decide +kernel, rfl⟩
theorem aBu : Body Tryz.prog 75 Tryz.f75 := ⟨Tryz.func75, by decide +kernel, rfl⟩
theorem aEw : Body Tryz.prog 76 Tryz.f76 := ⟨Tryz.func76, by decide +kernel, rfl⟩
theorem aHY : Body Tryz.prog 77 Tryz.f77 := ⟨Tryz.func77, by decide +kernel, rfl⟩
theorem aEv : Body Tryz.prog 78 Tryz.f78 := ⟨Tryz.func78, by decide +kernel, rfl⟩
theorem aHX : Body Tryz.prog 79 Tryz.f79 := ⟨Tryz.func79, by decide +kernel, rfl⟩
theorem aEu : Body Tryz.prog 80 Tryz.f80 := ⟨Tryz.func80, by decide +kernel, rfl⟩
theorem aEt : Body Tryz.prog 84 Tryz.f84 := ⟨Tryz.func84, by decide +kernel, rfl⟩
theorem aHW : Body Tryz.prog 85 Tryz.f85 := ⟨Tryz.func85, by decide +kernel, rfl⟩
theorem aHV : Body Tryz.prog 86 Tryz.f86 := ⟨Tryz.func86, by decide +kernel, rfl⟩
theorem aHU : Body Tryz.prog 87 Tryz.f87 := ⟨Tryz.func87, by decide +kernel, rfl⟩
theorem aHT : Body Tryz.prog 88 Tryz.f88 := ⟨Tryz.func88, by decide +kernel, rfl⟩
theorem aEs : Body Tryz.prog 89 Tryz.f89 := ⟨Tryz.func89, by decide +kernel, rfl⟩
theorem aHS : Body Tryz.prog 90 Tryz.f90 := ⟨Tryz.func90, by decide +kernel, rfl⟩
theorem aBt : Body Tryz.prog 91 Tryz.f91 := ⟨Tryz.func91, by decide +kernel, rfl⟩
theorem aHR : Body Tryz.prog 92 Tryz.f92 := ⟨Tryz.func92, by decide +kernel, rfl⟩
theorem aHQ : Body Tryz.prog 93 Tryz.f93 := ⟨Tryz.func93, by decide +kernel, rfl⟩
theorem aBs : Body Tryz.prog 94 Tryz.f94 := ⟨Tryz.func94, by decide +kernel, rfl⟩
theorem aHP : Body Tryz.prog 95 Tryz.f95 := ⟨Tryz.func95, by decide +kernel, rfl⟩
theorem aBr : Body Tryz.prog 96 Tryz.f96 := ⟨Tryz.func96, by decide +kernel, rfl⟩
theorem aHO : Body Tryz.prog 98 Tryz.f98 := ⟨Tryz.func98, by decide +kernel, rfl⟩
theorem aEr : Body Tryz.prog 99 Tryz.f99 := ⟨Tryz.func99, by decide +kernel, rfl⟩
theorem Z2 : Body Tryz.prog 102 Tryz.f102 := ⟨Tryz.func102, by decide +kernel, rfl⟩
theorem aFH : Body Tryz.prog 107 Tryz.f107 := ⟨Tryz.func107, by decide +kernel, rfl⟩
theorem aFG : Body Tryz.prog 108 Tryz.f108 := ⟨Tryz.func108, by decide +kernel, rfl⟩
theorem aFF : Body Tryz.prog 109 Tryz.f109 := ⟨Tryz.func109, by decide +kernel, rfl⟩
theorem JT : Body Tryz.prog 110 Tryz.f110 := ⟨Tryz.func110, by decide +kernel, rfl⟩
theorem Z1 : Body Tryz.prog 111 Tryz.f111 := ⟨Tryz.func111, by decide +kernel, rfl⟩
theorem Z0 : Body Tryz.prog 112 Tryz.f112 := ⟨Tryz.func112, by decide +kernel, rfl⟩
theorem ZZ : Body Tryz.prog 113 Tryz.f113 := ⟨Tryz.func113, by decide +kernel, rfl⟩
theorem aFE : Body Tryz.prog 114 Tryz.f114 := ⟨Tryz.func114, by decide +kernel, rfl⟩
theorem aFD : Body Tryz.prog 115 Tryz.f115 := ⟨Tryz.func115, by decide +kernel, rfl⟩
theorem aFC : Body Tryz.prog 116 Tryz.f116 := ⟨Tryz.func116, by decide +kernel, rfl⟩
theorem aFB : Body Tryz.prog 117 Tryz.f117 := ⟨Tryz.func117, by decide +kernel, rfl⟩
theorem aFA : Body Tryz.prog 118 Tryz.f118 := ⟨Tryz.func118, by decide +kernel, rfl⟩
theorem aFz : Body Tryz.prog 119 Tryz.f119 := ⟨Tryz.func119, by decide +kernel, rfl⟩
theorem aFx : Body Tryz.prog 120 Tryz.f120 := ⟨Tryz.func120, by decide +kernel, rfl⟩
theorem aFw : Body Tryz.prog 121 Tryz.f121 := ⟨Tryz.func121, by decide +kernel, rfl⟩
theorem zZ : Body Tryz.prog 122 Tryz.f122 := ⟨Tryz.func122, by decide +kernel, rfl⟩
theorem aFv : Body Tryz.prog 123 Tryz.f123 := ⟨Tryz.func123, by decide +kernel, rfl⟩
theorem aFu : Body Tryz.prog 124 Tryz.f124 := ⟨Tryz.func124, by decide +kernel, rfl⟩
theorem aFt : Body Tryz.prog 125 Tryz.f125 := ⟨Tryz.func125, by decide +kernel, rfl⟩
theorem aFs : Body Tryz.prog 126 Tryz.f126 := ⟨Tryz.func126, by decide +kernel, rfl⟩
theorem aFr : Body Tryz.prog 127 Tryz.f127 := ⟨Tryz.func127, by decide +kernel, rfl⟩
theorem aFq : Body Tryz.prog 128 Tryz.f128 := ⟨Tryz.func128, by decide +kernel, rfl⟩
theorem aFp : Body Tryz.prog 129 Tryz.f129 := ⟨Tryz.func129, by decide +kernel, rfl⟩
theorem aFn : Body Tryz.prog 130 Tryz.f130 := ⟨Tryz.func130, by decide +kernel, rfl⟩
theorem aFm : Body Tryz.prog 133 Tryz.f133 := ⟨Tryz.func133, by decide +kernel, rfl⟩
theorem RD : Body Tryz.prog 134 Tryz.f134 := ⟨Tryz.func134, by decide +kernel, rfl⟩
theorem aFl : Body Tryz.prog 135 Tryz.f135 := ⟨Tryz.func135, by decide +kernel, rfl⟩
theorem RC : Body Tryz.prog 136 Tryz.f136 := ⟨Tryz.func136, by decide +kernel, rfl⟩
theorem ZY : Body Tryz.prog 137 Tryz.f137 := ⟨Tryz.func137, by decide +kernel, rfl⟩
theorem aFk : Body Tryz.prog 138 Tryz.f138 := ⟨Tryz.func138, by decide +kernel, rfl⟩
theorem xG : Body Tryz.prog 139 Tryz.f139 := ⟨Tryz.func139, by decide +kernel, rfl⟩
theorem EG : Body Tryz.prog 140 Tryz.f140 := ⟨Tryz.func140, by decide +kernel, rfl⟩
theorem ZX : Body Tryz.prog 143 Tryz.f143 := ⟨Tryz.func143, by decide +kernel, rfl⟩
theorem aFj : Body Tryz.prog 144 Tryz.f144 := ⟨Tryz.func144, by decide +kernel, rfl⟩
theorem ZW : Body Tryz.prog 145 Tryz.f145 := ⟨Tryz.func145, by decide +kernel, rfl⟩
theorem aFi : Body Tryz.prog 146 Tryz.f146 := ⟨Tryz.func146, by decide +kernel, rfl⟩
theorem aFh : Body Tryz.prog 147 Tryz.f147 := ⟨Tryz.func147, by decide +kernel, rfl⟩
theorem aFg : Body Tryz.prog 148 Tryz.f148 := ⟨Tryz.func148, by decide +kernel, rfl⟩
theorem RB : Body Tryz.prog 149 Tryz.f149 := ⟨Tryz.func149, by decide +kernel, rfl⟩
theorem aFf : Body Tryz.prog 150 Tryz.f150 := ⟨Tryz.func150, by decide +kernel, rfl⟩
theorem aFe : Body Tryz.prog 151 Tryz.f151 := ⟨Tryz.func151, by decide +kernel, rfl⟩
theorem aFd : Body Tryz.prog 152 Tryz.f152 := ⟨Tryz.func152, by decide +kernel, rfl⟩
theorem RA : Body Tryz.prog 153 Tryz.f153 := ⟨Tryz.func153, by decide +kernel, rfl⟩
theorem aFc : Body Tryz.prog 159 Tryz.f159 := ⟨Tryz.func159, by decide +kernel, rfl⟩
theorem aFb : Body Tryz.prog 160 Tryz.f160 := ⟨Tryz.func160, by decide +kernel, rfl⟩
theorem aFa : Body Tryz.prog 161 Tryz.f161 := ⟨Tryz.func161, by decide +kernel, rfl⟩
theorem aE9 : Body Tryz.prog 162 Tryz.f162 := ⟨Tryz.func162, by decide +kernel, rfl⟩
theorem aE8 : Body Tryz.prog 163 Tryz.f163 := ⟨Tryz.func163, by decide +kernel, rfl⟩
theorem Q9 : Body Tryz.prog 164 Tryz.f164 := ⟨Tryz.func164, by decide +kernel, rfl⟩
theorem aE7 : Body Tryz.prog 165 Tryz.f165 := ⟨Tryz.func165, by decide +kernel, rfl⟩
theorem aE6 : Body Tryz.prog 166 Tryz.f166 := ⟨Tryz.func166, by decide +kernel, rfl⟩
theorem EF : Body Tryz.prog 167 Tryz.f167 := ⟨Tryz.func167, by decide +kernel, rfl⟩
theorem ZV : Body Tryz.prog 168 Tryz.f168 := ⟨Tryz.func168, by decide +kernel, rfl⟩
theorem ZU : Body Tryz.prog 169 Tryz.f169 := ⟨Tryz.func169, by decide +kernel, rfl⟩
theorem Q8 : Body Tryz.prog 170 Tryz.f170 := ⟨Tryz.func170, by decide +kernel, rfl⟩
theorem aE5 : Body Tryz.prog 171 Tryz.f171 := ⟨Tryz.func171, by decide +kernel, rfl⟩
theorem ZT : Body Tryz.prog 172 Tryz.f172 := ⟨Tryz.func172, by decide +kernel, rfl⟩
theorem aE4 : Body Tryz.prog 173 Tryz.f173 := ⟨Tryz.func173, by decide +kernel, rfl⟩
theorem aE2 : Body Tryz.prog 185 Tryz.f185 := ⟨Tryz.func185, by decide +kernel, rfl⟩
theorem aE1 : Body Tryz.prog 186 Tryz.f186 := ⟨Tryz.func186, by decide +kernel, rfl⟩
theorem ZS : Body Tryz.prog 187 Tryz.f187 := ⟨Tryz.func187, by decide +kernel, rfl⟩
theorem ZR : Body Tryz.prog 188 Tryz.f188 := ⟨Tryz.func188, by decide +kernel, rfl⟩
theorem aE0 : Body Tryz.prog 189 Tryz.f189 := ⟨Tryz.func189, by decide +kernel, rfl⟩
theorem aEZ : Body Tryz.prog 190 Tryz.f190 := ⟨Tryz.func190, by decide +kernel, rfl⟩
theorem uN : Body Tryz.prog 192 Tryz.f192 := ⟨Tryz.func192, by decide +kernel, rfl⟩
theorem aEY : Body Tryz.prog 193 Tryz.f193 := ⟨Tryz.func193, by decide +kernel, rfl⟩
theorem aEX : Body Tryz.prog 194 Tryz.f194 := ⟨Tryz.func194, by decide +kernel, rfl⟩
theorem aEW : Body Tryz.prog 195 Tryz.f195 := ⟨Tryz.func195, by decide +kernel, rfl⟩
theorem aEV : Body Tryz.prog 196 Tryz.f196 := ⟨Tryz.func196, by decide +kernel, rfl⟩
theorem aEU : Body Tryz.prog 205 Tryz.f205 := ⟨Tryz.func205, by decide +kernel, rfl⟩
theorem aET : Body Tryz.prog 206 Tryz.f206 := ⟨Tryz.func206, by decide +kernel, rfl⟩
theorem aES : Body Tryz.prog 207 Tryz.f207 := ⟨Tryz.func207, by decide +kernel, rfl⟩
theorem aER : Body Tryz.prog 208 Tryz.f208 := ⟨Tryz.func208, by decide +kernel, rfl⟩
theorem aEQ : Body Tryz.prog 211 Tryz.f211 := ⟨Tryz.func211, by decide +kernel, rfl⟩
theorem aEP : Body Tryz.prog 212 Tryz.f212 := ⟨Tryz.func212, by decide +kernel, rfl⟩
theorem aEO : Body Tryz.prog 213 Tryz.f213 := ⟨Tryz.func213, by decide +kernel, rfl⟩
theorem aEN : Body Tryz.prog 214 Tryz.f214 := ⟨Tryz.func214, by decide +kernel, rfl⟩
theorem aEM : Body Tryz.prog 215 Tryz.f215 := ⟨Tryz.func215, by decide +kernel, rfl⟩
theorem ZQ : Body Tryz.prog 216 Tryz.f216 := ⟨Tryz.func216, by decide +kernel, rfl⟩
theorem aEL : Body Tryz.prog 218 Tryz.f218 := ⟨Tryz.func218, by decide +kernel, rfl⟩
theorem ZP : Body Tryz.prog 219 Tryz.f219 := ⟨Tryz.func219, by decide +kernel, rfl⟩
theorem aEK : Body Tryz.prog 220 Tryz.f220 := ⟨Tryz.func220, by decide +kernel, rfl⟩
theorem aEJ : Body Tryz.prog 222 Tryz.f222 := ⟨Tryz.func222, by decide +kernel, rfl⟩
theorem aEI : Body Tryz.prog 242 Tryz.f242 := ⟨Tryz.func242, by decide +kernel, rfl⟩
theorem aEH : Body Tryz.prog 243 Tryz.f243 := ⟨Tryz.func243, by decide +kernel, rfl⟩
theorem aEG : Body Tryz.prog 249 Tryz.f249 := ⟨Tryz.func249, by decide +kernel, rfl⟩
end Go.Sp.TryzT
