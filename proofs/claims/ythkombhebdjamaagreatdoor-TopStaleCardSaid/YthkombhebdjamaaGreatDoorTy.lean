/- Part of the proof of this claim: walks through the program's functions and the plain laws that they need, printed by a program of this session. -/
import Derived.Test.YthkombhebdjamaaGreatDoorProg
import Derived.Test.YthkombhebdjamaaGreatDoorRules
set_option maxRecDepth 100000
namespace Go.Sp.TryzT
open Go.Proofs Go.Sp Go.Proofs.Tryz
theorem mixed : prog.follows .mixedOrders = true := by kernel_rfl
theorem oZ : cW prog 3 = some false := by kernel_rfl
theorem sz3 : bW prog 3 = some 1 := by kernel_rfl
theorem yD : fC prog 3 = some .i64 := by kernel_rfl
theorem ze3 : cG prog 3 = some ([.int .i64 (0)]) := by kernel_rfl
theorem uC : cW prog 4 = some false := by kernel_rfl
theorem UK : bW prog 4 = some 1 := by kernel_rfl
theorem bo4 : vU prog 4 = true := by kernel_rfl
theorem ze4 : cG prog 4 = some ([.bool false]) := by kernel_rfl
theorem CE : cW prog 5 = some false := by kernel_rfl
theorem gY : bW prog 5 = some 1 := by kernel_rfl
theorem oW : fC prog 5 = some .u8 := by kernel_rfl
theorem ze5 : cG prog 5 = some ([.int .u8 (0)]) := by kernel_rfl
theorem ag9 : cW prog 9 = some false := by kernel_rfl
theorem ze9 : cG prog 9 = some ([.string ⟨#[]⟩]) := by kernel_rfl
theorem aGo : cW prog 22 = some false := by kernel_rfl
theorem AZ : cT prog 22 = some 56 := by kernel_rfl
theorem CF : cW prog 23 = some true := by kernel_rfl
theorem uW : bW prog 23 = some 32 := by kernel_rfl
theorem aGh : eC prog 23 = some (32, 5) := by kernel_rfl
theorem aGR : cG prog 23 = some (kc (List.replicate 32 0)) := by kernel_rfl
theorem cV : cW prog 24 = some true := by kernel_rfl
theorem cM : bW prog 24 = some 32 := by kernel_rfl
theorem gM : eC prog 24 = some (32, 5) := by kernel_rfl
theorem rM : cG prog 24 = some (kc (List.replicate 32 0)) := by kernel_rfl
theorem GA : rP prog 25 = some 90 := by kernel_rfl
theorem s7 : cT prog 26 = some 111 := by kernel_rfl
theorem gT : cW prog 30 = some true := by kernel_rfl
theorem dJ : bW prog 30 = some 32 := by kernel_rfl
theorem oN : eC prog 30 = some (32, 5) := by kernel_rfl
theorem mQ : cG prog 30 = some (kc (List.replicate 32 0)) := by kernel_rfl
theorem HR : cW prog 32 = some true := by kernel_rfl
theorem AX : bW prog 32 = some 64 := by kernel_rfl
theorem kE : cA prog 32 0 = some (0, 24, 32) := by kernel_rfl
theorem G5 : cA prog 32 1 = some (32, 30, 32) := by kernel_rfl
theorem NM : cG prog 32 = some ((kc (List.replicate 32 0) ++ (kc (List.replicate 32 0)))) := by kernel_rfl
theorem uD : cW prog 33 = some false := by kernel_rfl
theorem aAJ : bW prog 33 = some 1 := by kernel_rfl
theorem nW : cT prog 33 = some 30 := by kernel_rfl
theorem aGQ : cG prog 33 = some ([.slice none 0 0]) := by kernel_rfl
theorem mN : cW prog 35 = some true := by kernel_rfl
theorem kQ : bW prog 35 = some 99 := by kernel_rfl
theorem mJ : cA prog 35 0 = some (0, 3, 1) := by kernel_rfl
theorem q8 : cA prog 35 1 = some (1, 3, 1) := by kernel_rfl
theorem oH : cA prog 35 2 = some (2, 32, 64) := by kernel_rfl
theorem pN : cA prog 35 3 = some (66, 23, 32) := by kernel_rfl
theorem mI : cA prog 35 4 = some (98, 33, 1) := by kernel_rfl
theorem u3 : cW prog 37 = some false := by kernel_rfl
theorem aDf : rP prog 37 = some 211 := by kernel_rfl
theorem gX : cW prog 39 = some false := by kernel_rfl
theorem lG : bW prog 39 = some 1 := by kernel_rfl
theorem wG : rP prog 39 = some 143 := by kernel_rfl
theorem KV : cG prog 39 = some ([.pointer none]) := by kernel_rfl
theorem eN : cW prog 41 = some false := by kernel_rfl
theorem AW : bW prog 41 = some 1 := by kernel_rfl
theorem eW : cT prog 41 = some 5 := by kernel_rfl
theorem aCv : cG prog 41 = some ([.slice none 0 0]) := by kernel_rfl
theorem aB2 : cW prog 42 = some false := by kernel_rfl
theorem aHf : fC prog 42 = some .i64 := by kernel_rfl
theorem aCu : cG prog 42 = some ([.int .i64 (0)]) := by kernel_rfl
theorem XT : cW prog 48 = some true := by kernel_rfl
theorem K6 : bW prog 48 = some 3 := by kernel_rfl
theorem B5 : cA prog 48 0 = some (0, 41, 1) := by kernel_rfl
theorem RG : cA prog 48 1 = some (1, 41, 1) := by kernel_rfl
theorem B4 : cA prog 48 2 = some (2, 4, 1) := by kernel_rfl
theorem KU : cG prog 48 = some ([.slice none 0 0, .slice none 0 0, .bool false]) := by kernel_rfl
theorem aIF : cW prog 52 = some true := by kernel_rfl
theorem RF : cA prog 52 0 = some (0, 22, 1) := by kernel_rfl
theorem RE : cA prog 52 1 = some (1, 24, 32) := by kernel_rfl
theorem XS : cW prog 54 = some false := by kernel_rfl
theorem nV : cT prog 54 = some 102 := by kernel_rfl
theorem SP : cW prog 56 = some true := by kernel_rfl
theorem vW : bW prog 56 = some 4 := by kernel_rfl
theorem tQ : cA prog 56 0 = some (0, 3, 1) := by kernel_rfl
theorem lM : cA prog 56 1 = some (1, 41, 1) := by kernel_rfl
theorem B3 : cA prog 56 2 = some (2, 41, 1) := by kernel_rfl
theorem B2 : cA prog 56 3 = some (3, 54, 1) := by kernel_rfl
theorem aAy : cG prog 56 = some ([.int .i64 (0), .slice none 0 0, .slice none 0 0, .slice none 0 0]) := by kernel_rfl
theorem aGk : cW prog 61 = some false := by kernel_rfl
theorem lZ : cW prog 85 = some true := by kernel_rfl
theorem jK : bW prog 85 = some 32 := by kernel_rfl
theorem aBX : eC prog 85 = some (32, 5) := by kernel_rfl
theorem KT : cG prog 85 = some (kc (List.replicate 32 0)) := by kernel_rfl
theorem MY : cW prog 86 = some false := by kernel_rfl
theorem aCL : bW prog 86 = some 1 := by kernel_rfl
theorem OA : cT prog 86 = some 39 := by kernel_rfl
theorem aCt : cG prog 86 = some ([.slice none 0 0]) := by kernel_rfl
theorem xE : cA prog 90 0 = some (0, 37, 1) := by kernel_rfl
theorem oG : cA prog 90 1 = some (1, 39, 1) := by kernel_rfl
theorem aGP : cG prog 90 = some ([.pointer none, .pointer none]) := by kernel_rfl
theorem DY : fC prog 93 = some .u64 := by kernel_rfl
theorem aGr : cW prog 102 = some true := by kernel_rfl
theorem lH : bW prog 102 = some 3 := by kernel_rfl
theorem p3 : cA prog 102 0 = some (0, 41, 1) := by kernel_rfl
theorem pZ : cA prog 102 1 = some (1, 41, 1) := by kernel_rfl
theorem vK : cA prog 102 2 = some (2, 4, 1) := by kernel_rfl
theorem NQ : cG prog 102 = some ([.slice none 0 0, .slice none 0 0, .bool false]) := by kernel_rfl
theorem oU : cW prog 111 = some true := by kernel_rfl
theorem fK : bW prog 111 = some 33 := by kernel_rfl
theorem gR : cA prog 111 0 = some (0, 24, 32) := by kernel_rfl
theorem pY : cA prog 111 1 = some (32, 41, 1) := by kernel_rfl
theorem kO : cG prog 111 = some ((kc (List.replicate 32 0) ++ ([.slice none 0 0]))) := by kernel_rfl
theorem dR : cT prog 119 = some 127 := by kernel_rfl
theorem sN : cW prog 127 = some true := by kernel_rfl
theorem eE : bW prog 127 = some 34 := by kernel_rfl
theorem pX : cA prog 127 0 = some (0, 24, 32) := by kernel_rfl
theorem WS : cA prog 127 1 = some (32, 41, 1) := by kernel_rfl
theorem WR : cA prog 127 2 = some (33, 4, 1) := by kernel_rfl
theorem y5 : cG prog 127 = some ((kc (List.replicate 32 0) ++ ([.slice none 0 0] ++ ([.bool false])))) := by kernel_rfl
theorem KH : cW prog 141 = some false := by kernel_rfl
theorem vJ : cA prog 143 0 = some (0, 141, 1) := by kernel_rfl
theorem WQ : cA prog 143 1 = some (1, 30, 32) := by kernel_rfl
theorem YN : cG prog 143 = some (([.nilIface] ++ (kc (List.replicate 32 0)))) := by kernel_rfl
theorem aAr : cW prog 150 = some true := by kernel_rfl
theorem C1 : bW prog 150 = some 65 := by kernel_rfl
theorem B6 : cA prog 150 0 = some (0, 32, 64) := by kernel_rfl
theorem WO : cA prog 150 1 = some (64, 41, 1) := by kernel_rfl
theorem IJ : cG prog 150 = some (((kc (List.replicate 32 0) ++ (kc (List.replicate 32 0))) ++ ([.slice none 0 0]))) := by kernel_rfl
theorem SQ : cW prog 151 = some true := by kernel_rfl
theorem I1 : bW prog 151 = some 2 := by kernel_rfl
theorem SI : eC prog 151 = some (2, 39) := by kernel_rfl
theorem YM : cG prog 151 = some (List.replicate 2 (.pointer none)) := by kernel_rfl
theorem aCO : bW prog 152 = some 64 := by kernel_rfl
theorem xW : eC prog 152 = some (2, 30) := by kernel_rfl
theorem NP : cG prog 152 = some ((kc (List.replicate 32 0) ++ (kc (List.replicate 32 0)))) := by kernel_rfl
theorem aAq : cW prog 154 = some true := by kernel_rfl
theorem IZ : bW prog 154 = some 67 := by kernel_rfl
theorem JZ : cA prog 154 0 = some (0, 151, 2) := by kernel_rfl
theorem JY : cA prog 154 1 = some (2, 152, 64) := by kernel_rfl
theorem WN : cA prog 154 2 = some (66, 3, 1) := by kernel_rfl
theorem NO : cG prog 154 = some ((List.replicate 2 (.pointer none) ++ ((kc (List.replicate 32 0) ++ (kc (List.replicate 32 0))) ++ ([.int .i64 (0)])))) := by kernel_rfl
theorem FB : cW prog 159 = some false := by kernel_rfl
theorem FA : cW prog 161 = some true := by kernel_rfl
theorem k6 : bW prog 161 = some 2 := by kernel_rfl
theorem sI : cA prog 161 0 = some (0, 159, 1) := by kernel_rfl
theorem qA : cG prog 161 = some ([.nilFunc, .int .i64 (0)]) := by kernel_rfl
theorem aGq : cW prog 162 = some true := by kernel_rfl
theorem YT : bW prog 162 = some 10 := by kernel_rfl
theorem AO : eC prog 162 = some (5, 161) := by kernel_rfl
theorem YL : cG prog 162 = some (([.nilFunc, .int .i64 (0)] ++ ([.nilFunc, .int .i64 (0)] ++ ([.nilFunc, .int .i64 (0)] ++ ([.nilFunc, .int .i64 (0)] ++ ([.nilFunc, .int .i64 (0)])))))) := by kernel_rfl
theorem rS : cT prog 164 = some 41 := by kernel_rfl
theorem JX : cA prog 168 0 = some (0, 37, 1) := by kernel_rfl
theorem vI : cA prog 168 1 = some (1, 41, 1) := by kernel_rfl
theorem kL : cA prog 168 2 = some (2, 48, 3) := by kernel_rfl
theorem WM : cA prog 168 3 = some (5, 41, 1) := by kernel_rfl
theorem vH : cA prog 168 4 = some (6, 35, 99) := by kernel_rfl
theorem uH : cT prog 169 = some 173 := by kernel_rfl
theorem AR : cW prog 171 = some false := by kernel_rfl
theorem AQ : cW prog 173 = some true := by kernel_rfl
theorem jP : bW prog 173 = some 1 := by kernel_rfl
theorem pW : cA prog 173 0 = some (0, 171, 1) := by kernel_rfl
theorem mR : cG prog 173 = some ([.nilFunc]) := by kernel_rfl
theorem uT : cW prog 178 = some true := by kernel_rfl
theorem qB : bW prog 178 = some 3 := by kernel_rfl
theorem YK : cG prog 178 = some ([.pointer none, .pointer none, .int .u64 (0)]) := by kernel_rfl
theorem aAp : cW prog 181 = some false := by kernel_rfl
theorem YW : cT prog 190 = some 9 := by kernel_rfl
theorem aGp : cW prog 209 = some false := by kernel_rfl
theorem WK : cA prog 211 0 = some (0, 209, 1) := by kernel_rfl
theorem WJ : cA prog 211 1 = some (1, 3, 1) := by kernel_rfl
theorem aCD : cG prog 211 = some ([.pointer none, .int .i64 (0)]) := by kernel_rfl
theorem JW : cA prog 213 0 = some (0, 3, 1) := by kernel_rfl
theorem aCC : cG prog 213 = some ([.int .i64 (0)]) := by kernel_rfl
theorem aAo : cW prog 219 = some false := by kernel_rfl
theorem Y1 : rP prog 219 = some 221 := by kernel_rfl
theorem aCB : cG prog 219 = some ([.pointer none]) := by kernel_rfl
theorem JV : cA prog 221 0 = some (0, 9, 1) := by kernel_rfl
theorem WI : cA prog 221 1 = some (1, 3, 1) := by kernel_rfl
theorem JU : cA prog 221 2 = some (2, 61, 1) := by kernel_rfl
theorem aCA : cG prog 221 = some ([.string ⟨#[]⟩, .int .i64 (0), .nilIface]) := by kernel_rfl
theorem aAn : cW prog 248 = some false := by kernel_rfl
theorem vX : cT prog 248 = some 24 := by kernel_rfl
theorem jY : cW prog 260 = some false := by kernel_rfl
theorem fS : bW prog 260 = some 1 := by kernel_rfl
theorem P5 : fC prog 260 = some .u32 := by kernel_rfl
theorem aAk : eC prog 261 = some (8, 260) := by kernel_rfl
theorem aCz : cG prog 261 = some (kw (List.replicate 8 0)) := by kernel_rfl
theorem aGn : cW prog 266 = some true := by kernel_rfl
theorem N7 : bW prog 266 = some 8 := by kernel_rfl
theorem oT : eC prog 266 = some (8, 260) := by kernel_rfl
theorem NN : cG prog 266 = some (kw (List.replicate 8 0)) := by kernel_rfl
theorem aGm : cW prog 268 = some false := by kernel_rfl
theorem aCN : bW prog 268 = some 1 := by kernel_rfl
theorem aCy : cG prog 268 = some ([.nilFunc]) := by kernel_rfl
theorem pV : cA prog 277 0 = some (0, 41, 1) := by kernel_rfl
theorem JT : cA prog 277 1 = some (1, 4, 1) := by kernel_rfl
theorem aCx : cG prog 277 = some ([.slice none 0 0, .bool false]) := by kernel_rfl
theorem ZA : fC prog 294 = some .u64 := by kernel_rfl
theorem qO : eC prog 301 = some (16, 260) := by kernel_rfl
theorem aCw : cG prog 301 = some (kw (List.replicate 16 0)) := by kernel_rfl
theorem aGl : cW prog 302 = some true := by kernel_rfl
theorem aCM : bW prog 302 = some 64 := by kernel_rfl
theorem aAj : eC prog 302 = some (64, 260) := by kernel_rfl
theorem C4 : cT prog 316 = some 3 := by kernel_rfl
theorem aAm : cW prog 326 = some false := by kernel_rfl
theorem yJ : lU prog 26 111 ((kc (List.replicate 32 0) ++ ([.slice none 0 0]))) 56 := ⟨s7, kO, by first | rfl | exact fK, by kernel_rfl⟩
theorem C3 : lU prog 33 30 (kc (List.replicate 32 0)) 32 := ⟨nW, mQ, by first | rfl | exact dJ, by kernel_rfl⟩
theorem j0 : lU prog 41 5 ([.int .u8 (0)]) 1 := ⟨eW, ze5, by first | rfl | exact gY, by kernel_rfl⟩
theorem aGZ : lU prog 54 102 ([.slice none 0 0, .slice none 0 0, .bool false]) 56 := ⟨nV, NQ, by first | rfl | exact lH, by kernel_rfl⟩
theorem UT : lU prog 86 39 ([.pointer none]) 8 := ⟨OA, KV, by first | rfl | exact lG, by kernel_rfl⟩
theorem uG : lU prog 119 127 ((kc (List.replicate 32 0) ++ ([.slice none 0 0] ++ ([.bool false])))) 64 := ⟨dR, y5, by first | rfl | exact eE, by kernel_rfl⟩
theorem I2 : lU prog 164 41 ([.slice none 0 0]) 24 := ⟨rS, aCv, by first | rfl | exact AW, by kernel_rfl⟩
theorem aC0 : lU prog 169 173 ([.nilFunc]) 8 := ⟨uH, mR, by first | rfl | exact jP, by kernel_rfl⟩
theorem YU : lU prog 190 9 ([.string ⟨#[]⟩]) 16 := ⟨YW, ze9, by first | rfl | exact sz9, by kernel_rfl⟩
theorem aCY : lU prog 248 24 (kc (List.replicate 32 0)) 32 := ⟨vX, rM, by first | rfl | exact cM, by kernel_rfl⟩
theorem rR : lU prog 316 3 ([.int .i64 (0)]) 8 := ⟨C4, ze3, by first | rfl | exact sz3, by kernel_rfl⟩
theorem aAX : eR prog 32 = some [(0, 32), (32, 32)] := by kernel_rfl
theorem aFY : N6 prog 32 = some [(0, 24), (32, 30)] := by kernel_rfl
theorem aFX : prog.eqGuardType prog.depth 32 = false := by kernel_rfl
theorem aAW : eR prog 35 = some [(0, 1), (1, 1), (2, 64), (66, 32), (98, 1)] := by kernel_rfl
theorem U8 : eR prog 48 = some [(0, 1), (1, 1), (2, 1)] := by kernel_rfl
theorem aG6 : eR prog 90 = some [(0, 1), (1, 1)] := by kernel_rfl
theorem aDl : eR prog 102 = some [(0, 1), (1, 1), (2, 1)] := by kernel_rfl
theorem wI : eR prog 111 = some [(0, 32), (32, 1)] := by kernel_rfl
theorem Y6 : eR prog 127 = some [(0, 32), (32, 1), (33, 1)] := by kernel_rfl
theorem Y5 : eR prog 143 = some [(0, 1), (1, 32)] := by kernel_rfl
theorem Y4 : eR prog 150 = some [(0, 64), (64, 1)] := by kernel_rfl
theorem EX : nU prog 150 = true := by kernel_rfl
theorem YJ : s6 prog 150 = some (.agg #[.int .u8 (0), .int .u8 (0), .int .u8 (0), .int .u8 (0), .int .u8 (0), .int .u8 (0), .int .u8 (0), .int .u8 (0), .int .u8 (0), .int .u8 (0), .int .u8 (0), .int .u8 (0), .int .u8 (0), .int .u8 (0), .int .u8 (0), .int .u8 (0), .int .u8 (0), .int .u8 (0), .int .u8 (0), .int .u8 (0), .int .u8 (0), .int .u8 (0), .int .u8 (0), .int .u8 (0), .int .u8 (0), .int .u8 (0), .int .u8 (0), .int .u8 (0), .int .u8 (0), .int .u8 (0), .int .u8 (0), .int .u8 (0), .int .u8 (0), .int .u8 (0), .int .u8 (0), .int .u8 (0), .int .u8 (0), .int .u8 (0), .int .u8 (0), .int .u8 (0), .int .u8 (0), .int .u8 (0), .int .u8 (0), .int .u8 (0), .int .u8 (0), .int .u8 (0), .int .u8 (0), .int .u8 (0), .int .u8 (0), .int .u8 (0), .int .u8 (0), .int .u8 (0), .int .u8 (0), .int .u8 (0), .int .u8 (0), .int .u8 (0), .int .u8 (0), .int .u8 (0), .int .u8 (0), .int .u8 (0), .int .u8 (0), .int .u8 (0), .int .u8 (0), .int .u8 (0), .slice none 0 0]) := by kernel_rfl
theorem Y3 : eR prog 154 = some [(0, 2), (2, 64), (66, 1)] := by kernel_rfl
theorem J6 : nU prog 154 = true := by kernel_rfl
theorem aCs : s6 prog 154 = some (.agg #[.pointer none, .pointer none, .int .u8 (0), .int .u8 (0), .int .u8 (0), .int .u8 (0), .int .u8 (0), .int .u8 (0), .int .u8 (0), .int .u8 (0), .int .u8 (0), .int .u8 (0), .int .u8 (0), .int .u8 (0), .int .u8 (0), .int .u8 (0), .int .u8 (0), .int .u8 (0), .int .u8 (0), .int .u8 (0), .int .u8 (0), .int .u8 (0), .int .u8 (0), .int .u8 (0), .int .u8 (0), .int .u8 (0), .int .u8 (0), .int .u8 (0), .int .u8 (0), .int .u8 (0), .int .u8 (0), .int .u8 (0), .int .u8 (0), .int .u8 (0), .int .u8 (0), .int .u8 (0), .int .u8 (0), .int .u8 (0), .int .u8 (0), .int .u8 (0), .int .u8 (0), .int .u8 (0), .int .u8 (0), .int .u8 (0), .int .u8 (0), .int .u8 (0), .int .u8 (0), .int .u8 (0), .int .u8 (0), .int .u8 (0), .int .u8 (0), .int .u8 (0), .int .u8 (0), .int .u8 (0), .int .u8 (0), .int .u8 (0), .int .u8 (0), .int .u8 (0), .int .u8 (0), .int .u8 (0), .int .u8 (0), .int .u8 (0), .int .u8 (0), .int .u8 (0), .int .u8 (0), .int .u8 (0), .int .i64 (0)]) := by kernel_rfl
theorem DH : eR prog 161 = some [(0, 1), (1, 1)] := by kernel_rfl
theorem aDk : eR prog 168 = some [(0, 1), (1, 1), (2, 3), (5, 1), (6, 99)] := by kernel_rfl
theorem zH : eR prog 173 = some [(0, 1)] := by kernel_rfl
theorem aDj : eR prog 211 = some [(0, 1), (1, 1)] := by kernel_rfl
theorem aDi : eR prog 213 = some [(0, 1)] := by kernel_rfl
theorem aDh : eR prog 221 = some [(0, 1), (1, 1), (2, 1)] := by kernel_rfl
theorem aDg : eR prog 277 = some [(0, 1), (1, 1)] := by kernel_rfl
theorem fb7 : Body prog 7 f7 := ⟨func7, by decide +kernel, rfl⟩
theorem fb8 : Body prog 8 f8 := ⟨func8, by decide +kernel, rfl⟩
theorem fb9 : Body prog 9 f9 := ⟨func9, by decide +kernel, rfl⟩
theorem B7 : Body prog 10 f10 := ⟨func10, by decide +kernel, rfl⟩
theorem aFS : Body prog 11 f11 := ⟨func11, by decide +kernel, rfl⟩
theorem aFL : Body prog 12 f12 := ⟨func12, by decide +kernel, rfl⟩
theorem aBO : Body prog 13 f13 := ⟨func13, by decide +kernel, rfl⟩
theorem WX : Body prog 14 f14 := ⟨func14, by decide +kernel, rfl⟩
theorem aIv : Body prog 15 f15 := ⟨func15, by decide +kernel, rfl⟩
theorem aFp : Body prog 16 f16 := ⟨func16, by decide +kernel, rfl⟩
theorem aFi : Body prog 17 f17 := ⟨func17, by decide +kernel, rfl⟩
theorem aFf : Body prog 18 f18 := ⟨func18, by decide +kernel, rfl⟩
theorem aIu : Body prog 19 f19 := ⟨func19, by decide +kernel, rfl⟩
theorem aIt : Body prog 20 f20 := ⟨func20, by decide +kernel, rfl⟩
theorem aIs : Body prog 21 f21 := ⟨func21, by decide +kernel, rfl⟩
theorem aIr : Body prog 22 f22 := ⟨func22, by decide +kernel, rfl⟩
theorem RI : Body prog 27 f27 := ⟨func27, by decide +kernel, rfl⟩
theorem aIq : Body prog 28 f28 := ⟨func28, by decide +kernel, rfl⟩
theorem aER : Body prog 29 f29 := ⟨func29, by decide +kernel, rfl⟩
theorem WW : Body prog 30 f30 := ⟨func30, by decide +kernel, rfl⟩
theorem mK : Body prog 31 f31 := ⟨func31, by decide +kernel, rfl⟩
theorem EM : Body prog 32 f32 := ⟨func32, by decide +kernel, rfl⟩
theorem aIp : Body prog 33 f33 := ⟨func33, by decide +kernel, rfl⟩
theorem aIo : Body prog 34 f34 := ⟨func34, by decide +kernel, rfl⟩
theorem WV : Body prog 35 f35 := ⟨func35, by decide +kernel, rfl⟩
theorem aIn : Body prog 36 f36 := ⟨func36, by decide +kernel, rfl⟩
theorem aEQ : Body prog 37 f37 := ⟨func37, by decide +kernel, rfl⟩
theorem aIm : Body prog 38 f38 := ⟨func38, by decide +kernel, rfl⟩
theorem aBN : Body prog 39 f39 := ⟨func39, by decide +kernel, rfl⟩
theorem aBM : Body prog 40 f40 := ⟨func40, by decide +kernel, rfl⟩
theorem aEP : Body prog 41 f41 := ⟨func41, by decide +kernel, rfl⟩
theorem WU : Body prog 42 f42 := ⟨func42, by decide +kernel, rfl⟩
theorem WT : Body prog 43 f43 := ⟨func43, by decide +kernel, rfl⟩
theorem aEO : Body prog 44 f44 := ⟨func44, by decide +kernel, rfl⟩
theorem RH : Body prog 45 f45 := ⟨func45, by decide +kernel, rfl⟩
theorem aEN : Body prog 46 f46 := ⟨func46, by decide +kernel, rfl⟩
theorem aBL : Body prog 47 f47 := ⟨func47, by decide +kernel, rfl⟩
theorem aIl : Body prog 48 f48 := ⟨func48, by decide +kernel, rfl⟩
theorem aBK : Body prog 49 f49 := ⟨func49, by decide +kernel, rfl⟩
theorem aIk : Body prog 50 f50 := ⟨func50, by decide +kernel, rfl⟩
theorem aIj : Body prog 51 f51 := ⟨func51, by decide +kernel, rfl⟩
theorem aIi : Body prog 52 f52 := ⟨func52, by decide +kernel, rfl⟩
theorem aBJ : Body prog 53 f53 := ⟨func53, by decide +kernel, rfl⟩
theorem aIh : Body prog 54 f54 := ⟨func54, by decide +kernel, rfl⟩
theorem aIg : Body prog 55 f55 := ⟨func55, by decide +kernel, rfl⟩
theorem aIf : Body prog 56 f56 := ⟨func56, by decide +kernel, rfl⟩
theorem aEM : Body prog 61 f61 := ⟨func61, by decide +kernel, rfl⟩
theorem G6 : Body prog 68 f68 := ⟨func68, by decide +kernel, rfl⟩
theorem aEL : Body prog 69 f69 := ⟨func69, by decide +kernel, rfl⟩
theorem aIe : Body prog 70 f70 := ⟨func70, by decide +kernel, rfl⟩
theorem aEK : Body prog 71 f71 := ⟨func71, by decide +kernel, rfl⟩
theorem aEJ : Body prog 72 f72 := ⟨func72, by decide +kernel, rfl⟩
theorem MG : Body prog 73 f73 := ⟨func73, by decide +kernel, rfl⟩
theorem EL : Body prog 74 f74 := ⟨func74, by decide +kernel, rfl⟩
theorem aBI : Body prog 75 f75 := ⟨func75, by decide +kernel, rfl⟩
theorem aEI : Body prog 76 f76 := ⟨func76, by decide +kernel, rfl⟩
theorem aId : Body prog 77 f77 := ⟨func77, by decide +kernel, rfl⟩
theorem aEH : Body prog 78 f78 := ⟨func78, by decide +kernel, rfl⟩
theorem aIc : Body prog 79 f79 := ⟨func79, by decide +kernel, rfl⟩
theorem aEG : Body prog 80 f80 := ⟨func80, by decide +kernel, rfl⟩
theorem aEF : Body prog 84 f84 := ⟨func84, by decide +kernel, rfl⟩
theorem aIb : Body prog 85 f85 := ⟨func85, by decide +kernel, rfl⟩
theorem aIa : Body prog 86 f86 := ⟨func86, by decide +kernel, rfl⟩
theorem aH9 : Body prog 87 f87 := ⟨func87, by decide +kernel, rfl⟩
theorem aH8 : Body prog 88 f88 := ⟨func88, by decide +kernel, rfl⟩
theorem aEE : Body prog 89 f89 := ⟨func89, by decide +kernel, rfl⟩
theorem aH7 : Body prog 90 f90 := ⟨func90, by decide +kernel, rfl⟩
theorem aBH : Body prog 91 f91 := ⟨func91, by decide +kernel, rfl⟩
theorem aH6 : Body prog 92 f92 := ⟨func92, by decide +kernel, rfl⟩
theorem aH5 : Body prog 93 f93 := ⟨func93, by decide +kernel, rfl⟩
theorem aBG : Body prog 94 f94 := ⟨func94, by decide +kernel, rfl⟩
theorem aH4 : Body prog 95 f95 := ⟨func95, by decide +kernel, rfl⟩
theorem aBF : Body prog 96 f96 := ⟨func96, by decide +kernel, rfl⟩
theorem aH3 : Body prog 98 f98 := ⟨func98, by decide +kernel, rfl⟩
theorem aED : Body prog 99 f99 := ⟨func99, by decide +kernel, rfl⟩
theorem aAe : Body prog 102 f102 := ⟨func102, by decide +kernel, rfl⟩
theorem aFV : Body prog 107 f107 := ⟨func107, by decide +kernel, rfl⟩
theorem aFU : Body prog 108 f108 := ⟨func108, by decide +kernel, rfl⟩
theorem aFT : Body prog 109 f109 := ⟨func109, by decide +kernel, rfl⟩
theorem J1 : Body prog 110 f110 := ⟨func110, by decide +kernel, rfl⟩
theorem aAd : Body prog 111 f111 := ⟨func111, by decide +kernel, rfl⟩
theorem aAc : Body prog 112 f112 := ⟨func112, by decide +kernel, rfl⟩
theorem aAb : Body prog 113 f113 := ⟨func113, by decide +kernel, rfl⟩
theorem aFR : Body prog 114 f114 := ⟨func114, by decide +kernel, rfl⟩
theorem aFQ : Body prog 115 f115 := ⟨func115, by decide +kernel, rfl⟩
theorem aFP : Body prog 116 f116 := ⟨func116, by decide +kernel, rfl⟩
theorem aFO : Body prog 117 f117 := ⟨func117, by decide +kernel, rfl⟩
theorem aFN : Body prog 118 f118 := ⟨func118, by decide +kernel, rfl⟩
theorem aFM : Body prog 119 f119 := ⟨func119, by decide +kernel, rfl⟩
theorem aFK : Body prog 120 f120 := ⟨func120, by decide +kernel, rfl⟩
theorem aFJ : Body prog 121 f121 := ⟨func121, by decide +kernel, rfl⟩
theorem z1 : Body prog 122 f122 := ⟨func122, by decide +kernel, rfl⟩
theorem aFI : Body prog 123 f123 := ⟨func123, by decide +kernel, rfl⟩
theorem aFH : Body prog 124 f124 := ⟨func124, by decide +kernel, rfl⟩
theorem aFG : Body prog 125 f125 := ⟨func125, by decide +kernel, rfl⟩
theorem aFF : Body prog 126 f126 := ⟨func126, by decide +kernel, rfl⟩
theorem aFE : Body prog 127 f127 := ⟨func127, by decide +kernel, rfl⟩
theorem aFD : Body prog 128 f128 := ⟨func128, by decide +kernel, rfl⟩
theorem aFC : Body prog 129 f129 := ⟨func129, by decide +kernel, rfl⟩
theorem aFB : Body prog 130 f130 := ⟨func130, by decide +kernel, rfl⟩
theorem aFA : Body prog 133 f133 := ⟨func133, by decide +kernel, rfl⟩
theorem RO : Body prog 134 f134 := ⟨func134, by decide +kernel, rfl⟩
theorem aFz : Body prog 135 f135 := ⟨func135, by decide +kernel, rfl⟩
theorem RN : Body prog 136 f136 := ⟨func136, by decide +kernel, rfl⟩
theorem aAa : Body prog 137 f137 := ⟨func137, by decide +kernel, rfl⟩
theorem aFy : Body prog 138 f138 := ⟨func138, by decide +kernel, rfl⟩
theorem xF : Body prog 139 f139 := ⟨func139, by decide +kernel, rfl⟩
theorem EO : Body prog 140 f140 := ⟨func140, by decide +kernel, rfl⟩
theorem Z9 : Body prog 143 f143 := ⟨func143, by decide +kernel, rfl⟩
theorem aFx : Body prog 144 f144 := ⟨func144, by decide +kernel, rfl⟩
theorem Z8 : Body prog 145 f145 := ⟨func145, by decide +kernel, rfl⟩
theorem aFw : Body prog 146 f146 := ⟨func146, by decide +kernel, rfl⟩
theorem aFv : Body prog 147 f147 := ⟨func147, by decide +kernel, rfl⟩
theorem aFu : Body prog 148 f148 := ⟨func148, by decide +kernel, rfl⟩
theorem RM : Body prog 149 f149 := ⟨func149, by decide +kernel, rfl⟩
theorem aFt : Body prog 150 f150 := ⟨func150, by decide +kernel, rfl⟩
theorem aFs : Body prog 151 f151 := ⟨func151, by decide +kernel, rfl⟩
theorem aFr : Body prog 152 f152 := ⟨func152, by decide +kernel, rfl⟩
theorem RL : Body prog 153 f153 := ⟨func153, by decide +kernel, rfl⟩
theorem aFq : Body prog 159 f159 := ⟨func159, by decide +kernel, rfl⟩
theorem aFo : Body prog 160 f160 := ⟨func160, by decide +kernel, rfl⟩
theorem aFn : Body prog 161 f161 := ⟨func161, by decide +kernel, rfl⟩
theorem aFm : Body prog 162 f162 := ⟨func162, by decide +kernel, rfl⟩
theorem aFl : Body prog 163 f163 := ⟨func163, by decide +kernel, rfl⟩
theorem RK : Body prog 164 f164 := ⟨func164, by decide +kernel, rfl⟩
theorem aFk : Body prog 165 f165 := ⟨func165, by decide +kernel, rfl⟩
theorem aFj : Body prog 166 f166 := ⟨func166, by decide +kernel, rfl⟩
theorem EN : Body prog 167 f167 := ⟨func167, by decide +kernel, rfl⟩
theorem Z7 : Body prog 168 f168 := ⟨func168, by decide +kernel, rfl⟩
theorem Z6 : Body prog 169 f169 := ⟨func169, by decide +kernel, rfl⟩
theorem RJ : Body prog 170 f170 := ⟨func170, by decide +kernel, rfl⟩
theorem aFh : Body prog 171 f171 := ⟨func171, by decide +kernel, rfl⟩
theorem Z5 : Body prog 172 f172 := ⟨func172, by decide +kernel, rfl⟩
theorem aFg : Body prog 173 f173 := ⟨func173, by decide +kernel, rfl⟩
theorem aFe : Body prog 185 f185 := ⟨func185, by decide +kernel, rfl⟩
theorem aFd : Body prog 186 f186 := ⟨func186, by decide +kernel, rfl⟩
theorem Z4 : Body prog 187 f187 := ⟨func187, by decide +kernel, rfl⟩
theorem Z3 : Body prog 188 f188 := ⟨func188, by decide +kernel, rfl⟩
theorem aFc : Body prog 189 f189 := ⟨func189, by decide +kernel, rfl⟩
theorem aFb : Body prog 190 f190 := ⟨func190, by decide +kernel, rfl⟩
theorem uO : Body prog 192 f192 := ⟨func192, by decide +kernel, rfl⟩
theorem aFa : Body prog 193 f193 := ⟨func193, by decide +kernel, rfl⟩
theorem aE9 : Body prog 194 f194 := ⟨func194, by decide +kernel, rfl⟩
theorem aE8 : Body prog 195 f195 := ⟨func195, by decide +kernel, rfl⟩
theorem aE7 : Body prog 196 f196 := ⟨func196, by decide +kernel, rfl⟩
theorem aE6 : Body prog 205 f205 := ⟨func205, by decide +kernel, rfl⟩
theorem aE5 : Body prog 206 f206 := ⟨func206, by decide +kernel, rfl⟩
theorem aE4 : Body prog 207 f207 := ⟨func207, by decide +kernel, rfl⟩
theorem aE3 : Body prog 208 f208 := ⟨func208, by decide +kernel, rfl⟩
theorem aE2 : Body prog 211 f211 := ⟨func211, by decide +kernel, rfl⟩
theorem aE1 : Body prog 212 f212 := ⟨func212, by decide +kernel, rfl⟩
theorem aE0 : Body prog 213 f213 := ⟨func213, by decide +kernel, rfl⟩
theorem aEZ : Body prog 214 f214 := ⟨func214, by decide +kernel, rfl⟩
theorem aEY : Body prog 215 f215 := ⟨func215, by decide +kernel, rfl⟩
theorem Z2 : Body prog 216 f216 := ⟨func216, by decide +kernel, rfl⟩
theorem aEX : Body prog 218 f218 := ⟨func218, by decide +kernel, rfl⟩
theorem Z1 : Body prog 219 f219 := ⟨func219, by decide +kernel, rfl⟩
theorem aEW : Body prog 220 f220 := ⟨func220, by decide +kernel, rfl⟩
theorem aEV : Body prog 222 f222 := ⟨func222, by decide +kernel, rfl⟩
theorem aEU : Body prog 242 f242 := ⟨func242, by decide +kernel, rfl⟩
theorem aET : Body prog 243 f243 := ⟨func243, by decide +kernel, rfl⟩
theorem aES : Body prog 249 f249 := ⟨func249, by decide +kernel, rfl⟩
end Go.Sp.TryzT
