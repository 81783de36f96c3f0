/- Part of the proof of this claim: walks through the program's functions and the plain laws that they need, printed by a program of this session. -/
import Derived.Test.YthkombhebdjamaaGreatDoorProg
import Derived.Test.YthkombhebdjamaaGreatDoorRules
set_option maxRecDepth 100000
namespace Go.Sp.TryzT
open Go.Proofs Go.Sp Go.Proofs.Tryz
theorem mixed : prog.follows .mixedOrders = true := by kernel_rfl
theorem l9 : dI prog 3 = some false := by kernel_rfl
theorem sz3 : cD prog 3 = some 1 := by kernel_rfl
theorem tE : fT prog 3 = some .i64 := by kernel_rfl
theorem ze3 : cN prog 3 = some ([.int .i64 (0)]) := by kernel_rfl
theorem vE : dI prog 4 = some false := by kernel_rfl
theorem XP : cD prog 4 = some 1 := by kernel_rfl
theorem bo4 : uG prog 4 = true := by kernel_rfl
theorem ze4 : cN prog 4 = some ([.bool false]) := by kernel_rfl
theorem vD : dI prog 5 = some false := by kernel_rfl
theorem gO : cD prog 5 = some 1 := by kernel_rfl
theorem mM : fT prog 5 = some .u8 := by kernel_rfl
theorem ze5 : cN prog 5 = some ([.int .u8 (0)]) := by kernel_rfl
theorem ag9 : dI prog 9 = some false := by kernel_rfl
theorem ze9 : cN prog 9 = some ([.string ⟨#[]⟩]) := by kernel_rfl
theorem ID : dB prog 22 = some 56 := by kernel_rfl
theorem DQ : dI prog 23 = some true := by kernel_rfl
theorem wB : cD prog 23 = some 32 := by kernel_rfl
theorem aAi : eX prog 23 = some (32, 5) := by kernel_rfl
theorem aIz : cN prog 23 = some (kc (List.replicate 32 0)) := by kernel_rfl
theorem c7 : dI prog 24 = some true := by kernel_rfl
theorem cM : cD prog 24 = some 32 := by kernel_rfl
theorem gW : eX prog 24 = some (32, 5) := by kernel_rfl
theorem q7 : cN prog 24 = some (kc (List.replicate 32 0)) := by kernel_rfl
theorem IV : sN prog 25 = some 90 := by kernel_rfl
theorem aH7 : dI prog 26 = some false := by kernel_rfl
theorem aIF : cD prog 26 = some 1 := by kernel_rfl
theorem lR : dB prog 26 = some 111 := by kernel_rfl
theorem aIy : cN prog 26 = some ([.slice none 0 0]) := by kernel_rfl
theorem fS : dI prog 30 = some true := by kernel_rfl
theorem dH : cD prog 30 = some 32 := by kernel_rfl
theorem pN : eX prog 30 = some (32, 5) := by kernel_rfl
theorem lB : cN prog 30 = some (kc (List.replicate 32 0)) := by kernel_rfl
theorem G0 : dI prog 32 = some true := by kernel_rfl
theorem xJ : cD prog 32 = some 64 := by kernel_rfl
theorem kK : cL prog 32 0 = some (0, 24, 32) := by kernel_rfl
theorem DJ : cL prog 32 1 = some (32, 30, 32) := by kernel_rfl
theorem HW : cN prog 32 = some ((kc (List.replicate 32 0) ++ (kc (List.replicate 32 0)))) := by kernel_rfl
theorem vF : dI prog 33 = some false := by kernel_rfl
theorem aCb : cD prog 33 = some 1 := by kernel_rfl
theorem oZ : dB prog 33 = some 30 := by kernel_rfl
theorem aIx : cN prog 33 = some ([.slice none 0 0]) := by kernel_rfl
theorem nS : dI prog 35 = some true := by kernel_rfl
theorem lE : cD prog 35 = some 99 := by kernel_rfl
theorem nQ : cL prog 35 0 = some (0, 3, 1) := by kernel_rfl
theorem r7 : cL prog 35 1 = some (1, 3, 1) := by kernel_rfl
theorem pI : cL prog 35 2 = some (2, 32, 64) := by kernel_rfl
theorem qK : cL prog 35 3 = some (66, 23, 32) := by kernel_rfl
theorem nP : cL prog 35 4 = some (98, 33, 1) := by kernel_rfl
theorem wK : dI prog 37 = some false := by kernel_rfl
theorem aEK : sN prog 37 = some 211 := by kernel_rfl
theorem iQ : dI prog 39 = some false := by kernel_rfl
theorem mI : cD prog 39 = some 1 := by kernel_rfl
theorem xY : sN prog 39 = some 143 := by kernel_rfl
theorem M6 : cN prog 39 = some ([.pointer none]) := by kernel_rfl
theorem eH : dI prog 41 = some false := by kernel_rfl
theorem B9 : cD prog 41 = some 1 := by kernel_rfl
theorem eN : dB prog 41 = some 5 := by kernel_rfl
theorem aD1 : cN prog 41 = some ([.slice none 0 0]) := by kernel_rfl
theorem aDw : dI prog 42 = some false := by kernel_rfl
theorem aIY : fT prog 42 = some .i64 := by kernel_rfl
theorem aD0 : cN prog 42 = some ([.int .i64 (0)]) := by kernel_rfl
theorem aH2 : dI prog 48 = some true := by kernel_rfl
theorem aEj : cD prog 48 = some 3 := by kernel_rfl
theorem DI : cL prog 48 0 = some (0, 41, 1) := by kernel_rfl
theorem T4 : cL prog 48 1 = some (1, 41, 1) := by kernel_rfl
theorem DH : cL prog 48 2 = some (2, 4, 1) := by kernel_rfl
theorem aB0 : cN prog 48 = some ([.slice none 0 0, .slice none 0 0, .bool false]) := by kernel_rfl
theorem PD : dI prog 54 = some false := by kernel_rfl
theorem oY : dB prog 54 = some 102 := by kernel_rfl
theorem VL : dI prog 56 = some true := by kernel_rfl
theorem B8 : cD prog 56 = some 4 := by kernel_rfl
theorem iP : cL prog 56 0 = some (0, 3, 1) := by kernel_rfl
theorem j4 : cL prog 56 1 = some (1, 41, 1) := by kernel_rfl
theorem u2 : cL prog 56 2 = some (2, 41, 1) := by kernel_rfl
theorem u0 : cL prog 56 3 = some (3, 54, 1) := by kernel_rfl
theorem aBZ : cN prog 56 = some ([.int .i64 (0), .slice none 0 0, .slice none 0 0, .slice none 0 0]) := by kernel_rfl
theorem aH1 : dI prog 61 = some false := by kernel_rfl
theorem mX : dI prog 85 = some true := by kernel_rfl
theorem j8 : cD prog 85 = some 32 := by kernel_rfl
theorem aDs : eX prog 85 = some (32, 5) := by kernel_rfl
theorem M5 : cN prog 85 = some (kc (List.replicate 32 0)) := by kernel_rfl
theorem PC : dI prog 86 = some false := by kernel_rfl
theorem aEi : cD prog 86 = some 1 := by kernel_rfl
theorem QY : dB prog 86 = some 39 := by kernel_rfl
theorem aDZ : cN prog 86 = some ([.slice none 0 0]) := by kernel_rfl
theorem yQ : cL prog 90 0 = some (0, 37, 1) := by kernel_rfl
theorem pH : cL prog 90 1 = some (1, 39, 1) := by kernel_rfl
theorem aIw : cN prog 90 = some ([.pointer none, .pointer none]) := by kernel_rfl
theorem AA : fT prog 93 = some .u64 := by kernel_rfl
theorem aIa : dI prog 102 = some true := by kernel_rfl
theorem mJ : cD prog 102 = some 3 := by kernel_rfl
theorem qX : cL prog 102 0 = some (0, 41, 1) := by kernel_rfl
theorem qW : cL prog 102 1 = some (1, 41, 1) := by kernel_rfl
theorem wY : cL prog 102 2 = some (2, 4, 1) := by kernel_rfl
theorem QB : cN prog 102 = some ([.slice none 0 0, .slice none 0 0, .bool false]) := by kernel_rfl
theorem pV : dI prog 111 = some true := by kernel_rfl
theorem fH : cD prog 111 = some 33 := by kernel_rfl
theorem gK : cL prog 111 0 = some (0, 24, 32) := by kernel_rfl
theorem mD : cL prog 111 1 = some (32, 41, 1) := by kernel_rfl
theorem lC : cN prog 111 = some ((kc (List.replicate 32 0) ++ ([.slice none 0 0]))) := by kernel_rfl
theorem eE : dB prog 119 = some 127 := by kernel_rfl
theorem tT : dI prog 127 = some true := by kernel_rfl
theorem eU : cD prog 127 = some 34 := by kernel_rfl
theorem qV : cL prog 127 0 = some (0, 24, 32) := by kernel_rfl
theorem Z0 : cL prog 127 1 = some (32, 41, 1) := by kernel_rfl
theorem ZZ : cL prog 127 2 = some (33, 4, 1) := by kernel_rfl
theorem AL : cN prog 127 = some ((kc (List.replicate 32 0) ++ ([.slice none 0 0] ++ ([.bool false])))) := by kernel_rfl
theorem MV : dI prog 141 = some false := by kernel_rfl
theorem wX : cL prog 143 0 = some (0, 141, 1) := by kernel_rfl
theorem ZY : cL prog 143 1 = some (1, 30, 32) := by kernel_rfl
theorem aAT : cN prog 143 = some (([.nilIface] ++ (kc (List.replicate 32 0)))) := by kernel_rfl
theorem aBT : dI prog 150 = some true := by kernel_rfl
theorem EG : cD prog 150 = some 65 := by kernel_rfl
theorem DK : cL prog 150 0 = some (0, 32, 64) := by kernel_rfl
theorem ZX : cL prog 150 1 = some (64, 41, 1) := by kernel_rfl
theorem KV : cN prog 150 = some (((kc (List.replicate 32 0) ++ (kc (List.replicate 32 0))) ++ ([.slice none 0 0]))) := by kernel_rfl
theorem VM : dI prog 151 = some true := by kernel_rfl
theorem K7 : cD prog 151 = some 2 := by kernel_rfl
theorem VE : eX prog 151 = some (2, 39) := by kernel_rfl
theorem aAS : cN prog 151 = some (List.replicate 2 (.pointer none)) := by kernel_rfl
theorem aEm : cD prog 152 = some 64 := by kernel_rfl
theorem zA : eX prog 152 = some (2, 30) := by kernel_rfl
theorem QA : cN prog 152 = some ((kc (List.replicate 32 0) ++ (kc (List.replicate 32 0)))) := by kernel_rfl
theorem aBS : dI prog 154 = some true := by kernel_rfl
theorem K6 : cD prog 154 = some 67 := by kernel_rfl
theorem MD : cL prog 154 0 = some (0, 151, 2) := by kernel_rfl
theorem MC : cL prog 154 1 = some (2, 152, 64) := by kernel_rfl
theorem ZW : cL prog 154 2 = some (66, 3, 1) := by kernel_rfl
theorem P9 : cN prog 154 = some ((List.replicate 2 (.pointer none) ++ ((kc (List.replicate 32 0) ++ (kc (List.replicate 32 0))) ++ ([.int .i64 (0)])))) := by kernel_rfl
theorem G2 : dI prog 159 = some false := by kernel_rfl
theorem G1 : dI prog 161 = some true := by kernel_rfl
theorem l4 : cD prog 161 = some 2 := by kernel_rfl
theorem tO : cL prog 161 0 = some (0, 159, 1) := by kernel_rfl
theorem rB : cN prog 161 = some ([.nilFunc, .int .i64 (0)]) := by kernel_rfl
theorem aH9 : dI prog 162 = some true := by kernel_rfl
theorem aAW : cD prog 162 = some 10 := by kernel_rfl
theorem B2 : eX prog 162 = some (5, 161) := by kernel_rfl
theorem aAR : cN prog 162 = some (([.nilFunc, .int .i64 (0)] ++ ([.nilFunc, .int .i64 (0)] ++ ([.nilFunc, .int .i64 (0)] ++ ([.nilFunc, .int .i64 (0)] ++ ([.nilFunc, .int .i64 (0)])))))) := by kernel_rfl
theorem sQ : dB prog 164 = some 41 := by kernel_rfl
theorem MB : cL prog 168 0 = some (0, 37, 1) := by kernel_rfl
theorem wW : cL prog 168 1 = some (1, 41, 1) := by kernel_rfl
theorem k7 : cL prog 168 2 = some (2, 48, 3) := by kernel_rfl
theorem ZV : cL prog 168 3 = some (5, 41, 1) := by kernel_rfl
theorem wV : cL prog 168 4 = some (6, 35, 99) := by kernel_rfl
theorem vI : dB prog 169 = some 173 := by kernel_rfl
theorem B4 : dI prog 171 = some false := by kernel_rfl
theorem B3 : dI prog 173 = some true := by kernel_rfl
theorem kF : cD prog 173 = some 1 := by kernel_rfl
theorem qU : cL prog 173 0 = some (0, 171, 1) := by kernel_rfl
theorem nX : cN prog 173 = some ([.nilFunc]) := by kernel_rfl
theorem vY : dI prog 178 = some true := by kernel_rfl
theorem rC : cD prog 178 = some 3 := by kernel_rfl
theorem aAQ : cN prog 178 = some ([.pointer none, .pointer none, .int .u64 (0)]) := by kernel_rfl
theorem aBR : dI prog 181 = some false := by kernel_rfl
theorem aA0 : dB prog 190 = some 9 := by kernel_rfl
theorem aH8 : dI prog 209 = some false := by kernel_rfl
theorem ZU : cL prog 211 0 = some (0, 209, 1) := by kernel_rfl
theorem ZT : cL prog 211 1 = some (1, 3, 1) := by kernel_rfl
theorem aD9 : cN prog 211 = some ([.pointer none, .int .i64 (0)]) := by kernel_rfl
theorem MA : cL prog 213 0 = some (0, 3, 1) := by kernel_rfl
theorem aD8 : cN prog 213 = some ([.int .i64 (0)]) := by kernel_rfl
theorem aBQ : dI prog 219 = some false := by kernel_rfl
theorem aA2 : sN prog 219 = some 221 := by kernel_rfl
theorem aD7 : cN prog 219 = some ([.pointer none]) := by kernel_rfl
theorem L9 : cL prog 221 0 = some (0, 9, 1) := by kernel_rfl
theorem ZS : cL prog 221 1 = some (1, 3, 1) := by kernel_rfl
theorem L8 : cL prog 221 2 = some (2, 61, 1) := by kernel_rfl
theorem aD6 : cN prog 221 = some ([.string ⟨#[]⟩, .int .i64 (0), .nilIface]) := by kernel_rfl
theorem aBP : dI prog 248 = some false := by kernel_rfl
theorem xL : dB prog 248 = some 24 := by kernel_rfl
theorem dU : dI prog 260 = some false := by kernel_rfl
theorem dA : cD prog 260 = some 1 := by kernel_rfl
theorem vP : fT prog 260 = some .u32 := by kernel_rfl
theorem aD5 : cN prog 260 = some ([.int .u32 (0)]) := by kernel_rfl
theorem aH6 : dI prog 261 = some true := by kernel_rfl
theorem K5 : cD prog 261 = some 8 := by kernel_rfl
theorem gB : eX prog 261 = some (8, 260) := by kernel_rfl
theorem D6 : cN prog 261 = some (kw (List.replicate 8 0)) := by kernel_rfl
theorem xK : dB prog 262 = some 260 := by kernel_rfl
theorem aH5 : dI prog 266 = some true := by kernel_rfl
theorem QV : cD prog 266 = some 8 := by kernel_rfl
theorem pU : eX prog 266 = some (8, 260) := by kernel_rfl
theorem P8 : cN prog 266 = some (kw (List.replicate 8 0)) := by kernel_rfl
theorem aH4 : dI prog 268 = some false := by kernel_rfl
theorem aEl : cD prog 268 = some 1 := by kernel_rfl
theorem aD4 : cN prog 268 = some ([.nilFunc]) := by kernel_rfl
theorem qT : cL prog 277 0 = some (0, 41, 1) := by kernel_rfl
theorem L7 : cL prog 277 1 = some (1, 4, 1) := by kernel_rfl
theorem aD3 : cN prog 277 = some ([.slice none 0 0, .bool false]) := by kernel_rfl
theorem LR : fT prog 294 = some .u64 := by kernel_rfl
theorem rM : eX prog 301 = some (16, 260) := by kernel_rfl
theorem aD2 : cN prog 301 = some (kw (List.replicate 16 0)) := by kernel_rfl
theorem aH3 : dI prog 302 = some true := by kernel_rfl
theorem aEk : cD prog 302 = some 64 := by kernel_rfl
theorem aBN : eX prog 302 = some (64, 260) := by kernel_rfl
theorem EK : dB prog 316 = some 3 := by kernel_rfl
theorem aBO : dI prog 326 = some false := by kernel_rfl
theorem aII : lZ prog 22 56 ([.int .i64 (0), .slice none 0 0, .slice none 0 0, .slice none 0 0]) 80 := ⟨ID, aBZ, by first | rfl | exact B8, by kernel_rfl⟩
theorem wC : lZ prog 26 111 ((kc (List.replicate 32 0) ++ ([.slice none 0 0]))) 56 := ⟨lR, lC, by first | rfl | exact fH, by kernel_rfl⟩
theorem EI : lZ prog 33 30 (kc (List.replicate 32 0)) 32 := ⟨oZ, lB, by first | rfl | exact dH, by kernel_rfl⟩
theorem iG : lZ prog 41 5 ([.int .u8 (0)]) 1 := ⟨eN, ze5, by first | rfl | exact gO, by kernel_rfl⟩
theorem aIH : lZ prog 54 102 ([.slice none 0 0, .slice none 0 0, .bool false]) 56 := ⟨oY, QB, by first | rfl | exact mJ, by kernel_rfl⟩
theorem XW : lZ prog 86 39 ([.pointer none]) 8 := ⟨QY, M6, by first | rfl | exact mI, by kernel_rfl⟩
theorem vH : lZ prog 119 127 ((kc (List.replicate 32 0) ++ ([.slice none 0 0] ++ ([.bool false])))) 64 := ⟨eE, AL, by first | rfl | exact eU, by kernel_rfl⟩
theorem K8 : lZ prog 164 41 ([.slice none 0 0]) 24 := ⟨sQ, aD1, by first | rfl | exact B9, by kernel_rfl⟩
theorem aEx : lZ prog 169 173 ([.nilFunc]) 8 := ⟨vI, nX, by first | rfl | exact kF, by kernel_rfl⟩
theorem aAY : lZ prog 190 9 ([.string ⟨#[]⟩]) 16 := ⟨aA0, ze9, by first | rfl | exact sz9, by kernel_rfl⟩
theorem aEv : lZ prog 248 24 (kc (List.replicate 32 0)) 32 := ⟨xL, q7, by first | rfl | exact cM, by kernel_rfl⟩
theorem EJ : lZ prog 262 260 ([.int .u32 (0)]) 4 := ⟨xK, aD5, by first | rfl | exact dA, by kernel_rfl⟩
theorem sP : lZ prog 316 3 ([.int .i64 (0)]) 8 := ⟨EK, ze3, by first | rfl | exact sz3, by kernel_rfl⟩
theorem YA : fB prog 32 = some [(0, 32), (32, 32)] := by kernel_rfl
theorem aHF : QU prog 32 = some [(0, 24), (32, 30)] := by kernel_rfl
theorem aHE : prog.eqGuardType prog.depth 32 = false := by kernel_rfl
theorem aCq : fB prog 35 = some [(0, 1), (1, 1), (2, 64), (66, 32), (98, 1)] := by kernel_rfl
theorem aCp : fB prog 48 = some [(0, 1), (1, 1), (2, 1)] := by kernel_rfl
theorem aIP : fB prog 90 = some [(0, 1), (1, 1)] := by kernel_rfl
theorem aEQ : fB prog 102 = some [(0, 1), (1, 1), (2, 1)] := by kernel_rfl
theorem xZ : fB prog 111 = some [(0, 32), (32, 1)] := by kernel_rfl
theorem aA7 : fB prog 127 = some [(0, 32), (32, 1), (33, 1)] := by kernel_rfl
theorem aA6 : fB prog 143 = some [(0, 1), (1, 32)] := by kernel_rfl
theorem aA5 : fB prog 150 = some [(0, 64), (64, 1)] := by kernel_rfl
theorem GH : oX prog 150 = true := by kernel_rfl
theorem aAP : uF prog 150 = some (.agg #[.int .u8 (0), .int .u8 (0), .int .u8 (0), .int .u8 (0), .int .u8 (0), .int .u8 (0), .int .u8 (0), .int .u8 (0), .int .u8 (0), .int .u8 (0), .int .u8 (0), .int .u8 (0), .int .u8 (0), .int .u8 (0), .int .u8 (0), .int .u8 (0), .int .u8 (0), .int .u8 (0), .int .u8 (0), .int .u8 (0), .int .u8 (0), .int .u8 (0), .int .u8 (0), .int .u8 (0), .int .u8 (0), .int .u8 (0), .int .u8 (0), .int .u8 (0), .int .u8 (0), .int .u8 (0), .int .u8 (0), .int .u8 (0), .int .u8 (0), .int .u8 (0), .int .u8 (0), .int .u8 (0), .int .u8 (0), .int .u8 (0), .int .u8 (0), .int .u8 (0), .int .u8 (0), .int .u8 (0), .int .u8 (0), .int .u8 (0), .int .u8 (0), .int .u8 (0), .int .u8 (0), .int .u8 (0), .int .u8 (0), .int .u8 (0), .int .u8 (0), .int .u8 (0), .int .u8 (0), .int .u8 (0), .int .u8 (0), .int .u8 (0), .int .u8 (0), .int .u8 (0), .int .u8 (0), .int .u8 (0), .int .u8 (0), .int .u8 (0), .int .u8 (0), .int .u8 (0), .slice none 0 0]) := by kernel_rfl
theorem aA4 : fB prog 154 = some [(0, 2), (2, 64), (66, 1)] := by kernel_rfl
theorem MJ : oX prog 154 = true := by kernel_rfl
theorem aDY : uF prog 154 = some (.agg #[.pointer none, .pointer none, .int .u8 (0), .int .u8 (0), .int .u8 (0), .int .u8 (0), .int .u8 (0), .int .u8 (0), .int .u8 (0), .int .u8 (0), .int .u8 (0), .int .u8 (0), .int .u8 (0), .int .u8 (0), .int .u8 (0), .int .u8 (0), .int .u8 (0), .int .u8 (0), .int .u8 (0), .int .u8 (0), .int .u8 (0), .int .u8 (0), .int .u8 (0), .int .u8 (0), .int .u8 (0), .int .u8 (0), .int .u8 (0), .int .u8 (0), .int .u8 (0), .int .u8 (0), .int .u8 (0), .int .u8 (0), .int .u8 (0), .int .u8 (0), .int .u8 (0), .int .u8 (0), .int .u8 (0), .int .u8 (0), .int .u8 (0), .int .u8 (0), .int .u8 (0), .int .u8 (0), .int .u8 (0), .int .u8 (0), .int .u8 (0), .int .u8 (0), .int .u8 (0), .int .u8 (0), .int .u8 (0), .int .u8 (0), .int .u8 (0), .int .u8 (0), .int .u8 (0), .int .u8 (0), .int .u8 (0), .int .u8 (0), .int .u8 (0), .int .u8 (0), .int .u8 (0), .int .u8 (0), .int .u8 (0), .int .u8 (0), .int .u8 (0), .int .u8 (0), .int .u8 (0), .int .u8 (0), .int .i64 (0)]) := by kernel_rfl
theorem EW : fB prog 161 = some [(0, 1), (1, 1)] := by kernel_rfl
theorem aEP : fB prog 168 = some [(0, 1), (1, 1), (2, 3), (5, 1), (6, 99)] := by kernel_rfl
theorem A0 : fB prog 173 = some [(0, 1)] := by kernel_rfl
theorem aEO : fB prog 211 = some [(0, 1), (1, 1)] := by kernel_rfl
theorem aEN : fB prog 213 = some [(0, 1)] := by kernel_rfl
theorem aEM : fB prog 221 = some [(0, 1), (1, 1), (2, 1)] := by kernel_rfl
theorem aEL : fB prog 277 = some [(0, 1), (1, 1)] := by kernel_rfl
theorem fb7 : Body prog 7 f7 := ⟨func7, by decide +kernel, rfl⟩
theorem fb8 : Body prog 8 f8 := ⟨func8, by decide +kernel, rfl⟩
theorem fb9 : Body prog 9 f9 := ⟨func9, by decide +kernel, rfl⟩
theorem JS : Body prog 10 f10 := ⟨func10, by decide +kernel, rfl⟩
theorem aDi : Body prog 11 f11 := ⟨func11, by decide +kernel, rfl⟩
theorem aKq : Body prog 12 f12 := ⟨func12, by decide +kernel, rfl⟩
theorem aHh : Body prog 13 f13 := ⟨func13, by decide +kernel, rfl⟩
theorem aDh : Body prog 14 f14 := ⟨func14, by decide +kernel, rfl⟩
theorem aG0 : Body prog 16 f16 := ⟨func16, by decide +kernel, rfl⟩
theorem aKp : Body prog 17 f17 := ⟨func17, by decide +kernel, rfl⟩
theorem aDg : Body prog 18 f18 := ⟨func18, by decide +kernel, rfl⟩
theorem aGO : Body prog 19 f19 := ⟨func19, by decide +kernel, rfl⟩
theorem aGH : Body prog 20 f20 := ⟨func20, by decide +kernel, rfl⟩
theorem aGC : Body prog 21 f21 := ⟨func21, by decide +kernel, rfl⟩
theorem aGv : Body prog 22 f22 := ⟨func22, by decide +kernel, rfl⟩
theorem aKo : Body prog 23 f23 := ⟨func23, by decide +kernel, rfl⟩
theorem aKn : Body prog 25 f25 := ⟨func25, by decide +kernel, rfl⟩
theorem aDf : Body prog 26 f26 := ⟨func26, by decide +kernel, rfl⟩
theorem T6 : Body prog 27 f27 := ⟨func27, by decide +kernel, rfl⟩
theorem aKm : Body prog 28 f28 := ⟨func28, by decide +kernel, rfl⟩
theorem aGp : Body prog 29 f29 := ⟨func29, by decide +kernel, rfl⟩
theorem Z5 : Body prog 30 f30 := ⟨func30, by decide +kernel, rfl⟩
theorem mE : Body prog 31 f31 := ⟨func31, by decide +kernel, rfl⟩
theorem F5 : Body prog 32 f32 := ⟨func32, by decide +kernel, rfl⟩
theorem aKl : Body prog 33 f33 := ⟨func33, by decide +kernel, rfl⟩
theorem aKk : Body prog 34 f34 := ⟨func34, by decide +kernel, rfl⟩
theorem Z4 : Body prog 35 f35 := ⟨func35, by decide +kernel, rfl⟩
theorem aKj : Body prog 36 f36 := ⟨func36, by decide +kernel, rfl⟩
theorem aGo : Body prog 37 f37 := ⟨func37, by decide +kernel, rfl⟩
theorem aKi : Body prog 38 f38 := ⟨func38, by decide +kernel, rfl⟩
theorem aDe : Body prog 39 f39 := ⟨func39, by decide +kernel, rfl⟩
theorem aGn : Body prog 40 f40 := ⟨func40, by decide +kernel, rfl⟩
theorem aGm : Body prog 41 f41 := ⟨func41, by decide +kernel, rfl⟩
theorem Z3 : Body prog 42 f42 := ⟨func42, by decide +kernel, rfl⟩
theorem Z2 : Body prog 43 f43 := ⟨func43, by decide +kernel, rfl⟩
theorem aGl : Body prog 44 f44 := ⟨func44, by decide +kernel, rfl⟩
theorem T5 : Body prog 45 f45 := ⟨func45, by decide +kernel, rfl⟩
theorem aDd : Body prog 46 f46 := ⟨func46, by decide +kernel, rfl⟩
theorem aDc : Body prog 47 f47 := ⟨func47, by decide +kernel, rfl⟩
theorem aKh : Body prog 48 f48 := ⟨func48, by decide +kernel, rfl⟩
theorem aDb : Body prog 49 f49 := ⟨func49, by decide +kernel, rfl⟩
theorem aKg : Body prog 50 f50 := ⟨func50, by decide +kernel, rfl⟩
theorem aKf : Body prog 51 f51 := ⟨func51, by decide +kernel, rfl⟩
theorem aKe : Body prog 52 f52 := ⟨func52, by decide +kernel, rfl⟩
theorem aDa : Body prog 53 f53 := ⟨func53, by decide +kernel, rfl⟩
theorem aKd : Body prog 54 f54 := ⟨func54, by decide +kernel, rfl⟩
theorem aKc : Body prog 55 f55 := ⟨func55, by decide +kernel, rfl⟩
theorem aKb : Body prog 56 f56 := ⟨func56, by decide +kernel, rfl⟩
theorem aKa : Body prog 57 f57 := ⟨func57, by decide +kernel, rfl⟩
theorem aJ9 : Body prog 58 f58 := ⟨func58, by decide +kernel, rfl⟩
theorem aJ8 : Body prog 59 f59 := ⟨func59, by decide +kernel, rfl⟩
theorem aJ7 : Body prog 60 f60 := ⟨func60, by decide +kernel, rfl⟩
theorem aC9 : Body prog 61 f61 := ⟨func61, by decide +kernel, rfl⟩
theorem aJ6 : Body prog 62 f62 := ⟨func62, by decide +kernel, rfl⟩
theorem Z1 : Body prog 63 f63 := ⟨func63, by decide +kernel, rfl⟩
theorem aJ5 : Body prog 64 f64 := ⟨func64, by decide +kernel, rfl⟩
theorem aJ4 : Body prog 65 f65 := ⟨func65, by decide +kernel, rfl⟩
theorem aGk : Body prog 66 f66 := ⟨func66, by decide +kernel, rfl⟩
theorem aJ3 : Body prog 67 f67 := ⟨func67, by decide +kernel, rfl⟩
theorem JR : Body prog 68 f68 := ⟨func68, by decide +kernel, rfl⟩
theorem aGj : Body prog 69 f69 := ⟨func69, by decide +kernel, rfl⟩
theorem aJ2 : Body prog 70 f70 := ⟨func70, by decide +kernel, rfl⟩
theorem aGi : Body prog 71 f71 := ⟨func71, by decide +kernel, rfl⟩
theorem aGh : Body prog 72 f72 := ⟨func72, by decide +kernel, rfl⟩
theorem OL : Body prog 73 f73 := ⟨func73, by decide +kernel, rfl⟩
theorem F4 : Body prog 74 f74 := ⟨func74, by decide +kernel, rfl⟩
theorem aC8 : Body prog 75 f75 := ⟨func75, by decide +kernel, rfl⟩
theorem aGg : Body prog 76 f76 := ⟨func76, by decide +kernel, rfl⟩
theorem aJ1 : Body prog 77 f77 := ⟨func77, by decide +kernel, rfl⟩
theorem aGf : Body prog 78 f78 := ⟨func78, by decide +kernel, rfl⟩
theorem aJ0 : Body prog 79 f79 := ⟨func79, by decide +kernel, rfl⟩
theorem aGe : Body prog 80 f80 := ⟨func80, by decide +kernel, rfl⟩
theorem aGd : Body prog 84 f84 := ⟨func84, by decide +kernel, rfl⟩
theorem aJZ : Body prog 85 f85 := ⟨func85, by decide +kernel, rfl⟩
theorem aJY : Body prog 86 f86 := ⟨func86, by decide +kernel, rfl⟩
theorem aJX : Body prog 87 f87 := ⟨func87, by decide +kernel, rfl⟩
theorem aJW : Body prog 88 f88 := ⟨func88, by decide +kernel, rfl⟩
theorem aGc : Body prog 89 f89 := ⟨func89, by decide +kernel, rfl⟩
theorem aJV : Body prog 90 f90 := ⟨func90, by decide +kernel, rfl⟩
theorem aC7 : Body prog 91 f91 := ⟨func91, by decide +kernel, rfl⟩
theorem aJU : Body prog 92 f92 := ⟨func92, by decide +kernel, rfl⟩
theorem aJT : Body prog 93 f93 := ⟨func93, by decide +kernel, rfl⟩
theorem aC6 : Body prog 94 f94 := ⟨func94, by decide +kernel, rfl⟩
theorem aJS : Body prog 95 f95 := ⟨func95, by decide +kernel, rfl⟩
theorem aC5 : Body prog 96 f96 := ⟨func96, by decide +kernel, rfl⟩
theorem aJR : Body prog 98 f98 := ⟨func98, by decide +kernel, rfl⟩
theorem aC4 : Body prog 99 f99 := ⟨func99, by decide +kernel, rfl⟩
theorem aHC : Body prog 100 f100 := ⟨func100, by decide +kernel, rfl⟩
theorem UG : Body prog 101 f101 := ⟨func101, by decide +kernel, rfl⟩
theorem aBH : Body prog 102 f102 := ⟨func102, by decide +kernel, rfl⟩
theorem aHB : Body prog 103 f103 := ⟨func103, by decide +kernel, rfl⟩
theorem aHA : Body prog 104 f104 := ⟨func104, by decide +kernel, rfl⟩
theorem aBG : Body prog 105 f105 := ⟨func105, by decide +kernel, rfl⟩
theorem aHz : Body prog 106 f106 := ⟨func106, by decide +kernel, rfl⟩
theorem UF : Body prog 107 f107 := ⟨func107, by decide +kernel, rfl⟩
theorem aHy : Body prog 108 f108 := ⟨func108, by decide +kernel, rfl⟩
theorem aHx : Body prog 109 f109 := ⟨func109, by decide +kernel, rfl⟩
theorem ME : Body prog 110 f110 := ⟨func110, by decide +kernel, rfl⟩
theorem aBF : Body prog 111 f111 := ⟨func111, by decide +kernel, rfl⟩
theorem UE : Body prog 112 f112 := ⟨func112, by decide +kernel, rfl⟩
theorem UD : Body prog 113 f113 := ⟨func113, by decide +kernel, rfl⟩
theorem aHw : Body prog 114 f114 := ⟨func114, by decide +kernel, rfl⟩
theorem aHv : Body prog 115 f115 := ⟨func115, by decide +kernel, rfl⟩
theorem aHu : Body prog 116 f116 := ⟨func116, by decide +kernel, rfl⟩
theorem aHt : Body prog 117 f117 := ⟨func117, by decide +kernel, rfl⟩
theorem aHs : Body prog 118 f118 := ⟨func118, by decide +kernel, rfl⟩
theorem aHr : Body prog 119 f119 := ⟨func119, by decide +kernel, rfl⟩
theorem aHq : Body prog 120 f120 := ⟨func120, by decide +kernel, rfl⟩
theorem aHp : Body prog 121 f121 := ⟨func121, by decide +kernel, rfl⟩
theorem BM : Body prog 122 f122 := ⟨func122, by decide +kernel, rfl⟩
theorem aHo : Body prog 123 f123 := ⟨func123, by decide +kernel, rfl⟩
theorem aHn : Body prog 124 f124 := ⟨func124, by decide +kernel, rfl⟩
theorem aHm : Body prog 125 f125 := ⟨func125, by decide +kernel, rfl⟩
theorem aHl : Body prog 126 f126 := ⟨func126, by decide +kernel, rfl⟩
theorem aHk : Body prog 127 f127 := ⟨func127, by decide +kernel, rfl⟩
theorem aHj : Body prog 128 f128 := ⟨func128, by decide +kernel, rfl⟩
theorem aHi : Body prog 129 f129 := ⟨func129, by decide +kernel, rfl⟩
theorem aHg : Body prog 130 f130 := ⟨func130, by decide +kernel, rfl⟩
theorem aHf : Body prog 133 f133 := ⟨func133, by decide +kernel, rfl⟩
theorem UC : Body prog 134 f134 := ⟨func134, by decide +kernel, rfl⟩
theorem aHe : Body prog 135 f135 := ⟨func135, by decide +kernel, rfl⟩
theorem UB : Body prog 136 f136 := ⟨func136, by decide +kernel, rfl⟩
theorem aBE : Body prog 137 f137 := ⟨func137, by decide +kernel, rfl⟩
theorem aHd : Body prog 138 f138 := ⟨func138, by decide +kernel, rfl⟩
theorem yR : Body prog 139 f139 := ⟨func139, by decide +kernel, rfl⟩
theorem F7 : Body prog 140 f140 := ⟨func140, by decide +kernel, rfl⟩
theorem aBD : Body prog 143 f143 := ⟨func143, by decide +kernel, rfl⟩
theorem aHc : Body prog 144 f144 := ⟨func144, by decide +kernel, rfl⟩
theorem aBC : Body prog 145 f145 := ⟨func145, by decide +kernel, rfl⟩
theorem aHb : Body prog 146 f146 := ⟨func146, by decide +kernel, rfl⟩
theorem aHa : Body prog 147 f147 := ⟨func147, by decide +kernel, rfl⟩
theorem aG9 : Body prog 148 f148 := ⟨func148, by decide +kernel, rfl⟩
theorem UA : Body prog 149 f149 := ⟨func149, by decide +kernel, rfl⟩
theorem aG8 : Body prog 150 f150 := ⟨func150, by decide +kernel, rfl⟩
theorem aG7 : Body prog 151 f151 := ⟨func151, by decide +kernel, rfl⟩
theorem aG6 : Body prog 152 f152 := ⟨func152, by decide +kernel, rfl⟩
theorem T9 : Body prog 153 f153 := ⟨func153, by decide +kernel, rfl⟩
theorem aG5 : Body prog 154 f154 := ⟨func154, by decide +kernel, rfl⟩
theorem aG4 : Body prog 155 f155 := ⟨func155, by decide +kernel, rfl⟩
theorem aG3 : Body prog 156 f156 := ⟨func156, by decide +kernel, rfl⟩
theorem aG2 : Body prog 157 f157 := ⟨func157, by decide +kernel, rfl⟩
theorem rJ : Body prog 158 f158 := ⟨func158, by decide +kernel, rfl⟩
theorem aG1 : Body prog 159 f159 := ⟨func159, by decide +kernel, rfl⟩
theorem aGZ : Body prog 160 f160 := ⟨func160, by decide +kernel, rfl⟩
theorem aGY : Body prog 161 f161 := ⟨func161, by decide +kernel, rfl⟩
theorem aGX : Body prog 162 f162 := ⟨func162, by decide +kernel, rfl⟩
theorem aGW : Body prog 163 f163 := ⟨func163, by decide +kernel, rfl⟩
theorem T8 : Body prog 164 f164 := ⟨func164, by decide +kernel, rfl⟩
theorem aGV : Body prog 165 f165 := ⟨func165, by decide +kernel, rfl⟩
theorem aGU : Body prog 166 f166 := ⟨func166, by decide +kernel, rfl⟩
theorem F6 : Body prog 167 f167 := ⟨func167, by decide +kernel, rfl⟩
theorem aBB : Body prog 168 f168 := ⟨func168, by decide +kernel, rfl⟩
theorem aBA : Body prog 169 f169 := ⟨func169, by decide +kernel, rfl⟩
theorem T7 : Body prog 170 f170 := ⟨func170, by decide +kernel, rfl⟩
theorem aGT : Body prog 171 f171 := ⟨func171, by decide +kernel, rfl⟩
theorem aBz : Body prog 172 f172 := ⟨func172, by decide +kernel, rfl⟩
theorem aGS : Body prog 173 f173 := ⟨func173, by decide +kernel, rfl⟩
theorem aGR : Body prog 185 f185 := ⟨func185, by decide +kernel, rfl⟩
theorem aGQ : Body prog 186 f186 := ⟨func186, by decide +kernel, rfl⟩
theorem aBy : Body prog 187 f187 := ⟨func187, by decide +kernel, rfl⟩
theorem aBx : Body prog 188 f188 := ⟨func188, by decide +kernel, rfl⟩
theorem aGP : Body prog 189 f189 := ⟨func189, by decide +kernel, rfl⟩
theorem aGN : Body prog 190 f190 := ⟨func190, by decide +kernel, rfl⟩
theorem aGM : Body prog 191 f191 := ⟨func191, by decide +kernel, rfl⟩
theorem vS : Body prog 192 f192 := ⟨func192, by decide +kernel, rfl⟩
theorem aGL : Body prog 193 f193 := ⟨func193, by decide +kernel, rfl⟩
theorem aGK : Body prog 194 f194 := ⟨func194, by decide +kernel, rfl⟩
theorem aGJ : Body prog 195 f195 := ⟨func195, by decide +kernel, rfl⟩
theorem aGI : Body prog 196 f196 := ⟨func196, by decide +kernel, rfl⟩
theorem aBw : Body prog 204 f204 := ⟨func204, by decide +kernel, rfl⟩
theorem aGG : Body prog 205 f205 := ⟨func205, by decide +kernel, rfl⟩
theorem aGF : Body prog 206 f206 := ⟨func206, by decide +kernel, rfl⟩
theorem aGE : Body prog 207 f207 := ⟨func207, by decide +kernel, rfl⟩
theorem aGD : Body prog 208 f208 := ⟨func208, by decide +kernel, rfl⟩
theorem aGB : Body prog 211 f211 := ⟨func211, by decide +kernel, rfl⟩
theorem aGA : Body prog 212 f212 := ⟨func212, by decide +kernel, rfl⟩
theorem aGz : Body prog 213 f213 := ⟨func213, by decide +kernel, rfl⟩
theorem aGy : Body prog 214 f214 := ⟨func214, by decide +kernel, rfl⟩
theorem aGx : Body prog 215 f215 := ⟨func215, by decide +kernel, rfl⟩
theorem aBv : Body prog 216 f216 := ⟨func216, by decide +kernel, rfl⟩
theorem aGw : Body prog 218 f218 := ⟨func218, by decide +kernel, rfl⟩
theorem aBu : Body prog 219 f219 := ⟨func219, by decide +kernel, rfl⟩
theorem aGu : Body prog 220 f220 := ⟨func220, by decide +kernel, rfl⟩
theorem aGt : Body prog 222 f222 := ⟨func222, by decide +kernel, rfl⟩
theorem aGs : Body prog 242 f242 := ⟨func242, by decide +kernel, rfl⟩
theorem aGr : Body prog 243 f243 := ⟨func243, by decide +kernel, rfl⟩
theorem aGq : Body prog 249 f249 := ⟨func249, by decide +kernel, rfl⟩
end Go.Sp.TryzT
