/- Part of the proof of this claim: walks through the program's functions and the plain laws that they need, printed by a program of this session. -/
import Derived.Test.YthkombhebdjamaaGreatDoorProg
import Derived.Test.YthkombhebdjamaaGreatDoorRules
set_option maxRecDepth 100000
namespace Go.Sp.TryzT
open Go.Proofs Go.Sp Go.Proofs.Tryz
theorem mixed : prog.follows .mixedOrders = true := by kernel_rfl
theorem pR : dK prog 3 = some false := by kernel_rfl
theorem sz3 : cB prog 3 = some 1 := by kernel_rfl
theorem sZ : fR prog 3 = some .i64 := by kernel_rfl
theorem ze3 : cM prog 3 = some ([.int .i64 (0)]) := by kernel_rfl
theorem u4 : dK prog 4 = some false := by kernel_rfl
theorem WT : cB prog 4 = some 1 := by kernel_rfl
theorem bo4 : wV prog 4 = true := by kernel_rfl
theorem ze4 : cM prog 4 = some ([.bool false]) := by kernel_rfl
theorem u3 : dK prog 5 = some false := by kernel_rfl
theorem gO : cB prog 5 = some 1 := by kernel_rfl
theorem mC : fR prog 5 = some .u8 := by kernel_rfl
theorem ze5 : cM prog 5 = some ([.int .u8 (0)]) := by kernel_rfl
theorem ag9 : dK prog 9 = some false := by kernel_rfl
theorem ze9 : cM prog 9 = some ([.string ⟨#[]⟩]) := by kernel_rfl
theorem M0 : c8 prog 22 = some 56 := by kernel_rfl
theorem DE : dK prog 23 = some true := by kernel_rfl
theorem vN : cB prog 23 = some 32 := by kernel_rfl
theorem ZQ : eV prog 23 = some (32, 5) := by kernel_rfl
theorem aIc : cM prog 23 = some (kc (List.replicate 32 0)) := by kernel_rfl
theorem cZ : dK prog 24 = some true := by kernel_rfl
theorem cL : cB prog 24 = some 32 := by kernel_rfl
theorem gZ : eV prog 24 = some (32, 5) := by kernel_rfl
theorem qY : cM prog 24 = some (kc (List.replicate 32 0)) := by kernel_rfl
theorem H9 : sC prog 25 = some 90 := by kernel_rfl
theorem aHJ : dK prog 26 = some false := by kernel_rfl
theorem aIi : cB prog 26 = some 1 := by kernel_rfl
theorem nR : c8 prog 26 = some 111 := by kernel_rfl
theorem aIb : cM prog 26 = some ([.slice none 0 0]) := by kernel_rfl
theorem fO : dK prog 30 = some true := by kernel_rfl
theorem c9 : cB prog 30 = some 32 := by kernel_rfl
theorem oL : eV prog 30 = some (32, 5) := by kernel_rfl
theorem k6 : cM prog 30 = some (kc (List.replicate 32 0)) := by kernel_rfl
theorem GN : dK prog 32 = some true := by kernel_rfl
theorem wX : cB prog 32 = some 64 := by kernel_rfl
theorem kH : cI prog 32 0 = some (0, 24, 32) := by kernel_rfl
theorem C7 : cI prog 32 1 = some (32, 30, 32) := by kernel_rfl
theorem HG : cM prog 32 = some ((kc (List.replicate 32 0) ++ (kc (List.replicate 32 0)))) := by kernel_rfl
theorem u5 : dK prog 33 = some false := by kernel_rfl
theorem aBK : cB prog 33 = some 1 := by kernel_rfl
theorem oU : c8 prog 33 = some 30 := by kernel_rfl
theorem aIa : cM prog 33 = some ([.slice none 0 0]) := by kernel_rfl
theorem nJ : dK prog 35 = some true := by kernel_rfl
theorem k8 : cB prog 35 = some 99 := by kernel_rfl
theorem nI : cI prog 35 0 = some (0, 3, 1) := by kernel_rfl
theorem rW : cI prog 35 1 = some (1, 3, 1) := by kernel_rfl
theorem pD : cI prog 35 2 = some (2, 32, 64) := by kernel_rfl
theorem qE : cI prog 35 3 = some (66, 23, 32) := by kernel_rfl
theorem nH : cI prog 35 4 = some (98, 33, 1) := by kernel_rfl
theorem vX : dK prog 37 = some false := by kernel_rfl
theorem aEr : sC prog 37 = some 211 := by kernel_rfl
theorem iL : dK prog 39 = some false := by kernel_rfl
theorem l5 : cB prog 39 = some 1 := by kernel_rfl
theorem xK : sC prog 39 = some 143 := by kernel_rfl
theorem MN : cM prog 39 = some ([.pointer none]) := by kernel_rfl
theorem eU : dK prog 41 = some false := by kernel_rfl
theorem B0 : cB prog 41 = some 1 := by kernel_rfl
theorem eM : c8 prog 41 = some 5 := by kernel_rfl
theorem aDI : cM prog 41 = some ([.slice none 0 0]) := by kernel_rfl
theorem aC8 : dK prog 42 = some false := by kernel_rfl
theorem aIB : fR prog 42 = some .i64 := by kernel_rfl
theorem aDH : cM prog 42 = some ([.int .i64 (0)]) := by kernel_rfl
theorem aHE : dK prog 48 = some true := by kernel_rfl
theorem aD0 : cB prog 48 = some 3 := by kernel_rfl
theorem C6 : cI prog 48 0 = some (0, 41, 1) := by kernel_rfl
theorem TG : cI prog 48 1 = some (1, 41, 1) := by kernel_rfl
theorem C5 : cI prog 48 2 = some (2, 4, 1) := by kernel_rfl
theorem aBz : cM prog 48 = some ([.slice none 0 0, .slice none 0 0, .bool false]) := by kernel_rfl
theorem ZV : dK prog 54 = some false := by kernel_rfl
theorem oT : c8 prog 54 = some 102 := by kernel_rfl
theorem aC7 : dK prog 56 = some true := by kernel_rfl
theorem HN : cB prog 56 = some 4 := by kernel_rfl
theorem uS : cI prog 56 0 = some (0, 3, 1) := by kernel_rfl
theorem mE : cI prog 56 1 = some (1, 41, 1) := by kernel_rfl
theorem C4 : cI prog 56 2 = some (2, 41, 1) := by kernel_rfl
theorem C3 : cI prog 56 3 = some (3, 54, 1) := by kernel_rfl
theorem aDG : cM prog 56 = some ([.int .i64 (0), .slice none 0 0, .slice none 0 0, .slice none 0 0]) := by kernel_rfl
theorem aHD : dK prog 61 = some false := by kernel_rfl
theorem mP : dK prog 85 = some true := by kernel_rfl
theorem j0 : cB prog 85 = some 32 := by kernel_rfl
theorem aC3 : eV prog 85 = some (32, 5) := by kernel_rfl
theorem MM : cM prog 85 = some (kc (List.replicate 32 0)) := by kernel_rfl
theorem OT : dK prog 86 = some false := by kernel_rfl
theorem aDZ : cB prog 86 = some 1 := by kernel_rfl
theorem QK : c8 prog 86 = some 39 := by kernel_rfl
theorem aDF : cM prog 86 = some ([.slice none 0 0]) := by kernel_rfl
theorem yF : cI prog 90 0 = some (0, 37, 1) := by kernel_rfl
theorem pC : cI prog 90 1 = some (1, 39, 1) := by kernel_rfl
theorem aH9 : cM prog 90 = some ([.pointer none, .pointer none]) := by kernel_rfl
theorem zR : fR prog 93 = some .u64 := by kernel_rfl
theorem aHM : dK prog 102 = some true := by kernel_rfl
theorem l8 : cB prog 102 = some 3 := by kernel_rfl
theorem qR : cI prog 102 0 = some (0, 41, 1) := by kernel_rfl
theorem qQ : cI prog 102 1 = some (1, 41, 1) := by kernel_rfl
theorem wL : cI prog 102 2 = some (2, 4, 1) := by kernel_rfl
theorem PR : cM prog 102 = some ([.slice none 0 0, .slice none 0 0, .bool false]) := by kernel_rfl
theorem oM : dK prog 111 = some true := by kernel_rfl
theorem fH : cB prog 111 = some 33 := by kernel_rfl
theorem gW : cI prog 111 0 = some (0, 24, 32) := by kernel_rfl
theorem mY : cI prog 111 1 = some (32, 41, 1) := by kernel_rfl
theorem kL : cM prog 111 = some ((kc (List.replicate 32 0) ++ ([.slice none 0 0]))) := by kernel_rfl
theorem dZ : c8 prog 119 = some 127 := by kernel_rfl
theorem tJ : dK prog 127 = some true := by kernel_rfl
theorem eH : cB prog 127 = some 34 := by kernel_rfl
theorem qP : cI prog 127 0 = some (0, 24, 32) := by kernel_rfl
theorem Y6 : cI prog 127 1 = some (32, 41, 1) := by kernel_rfl
theorem Y5 : cI prog 127 2 = some (33, 4, 1) := by kernel_rfl
theorem wQ : cM prog 127 = some ((kc (List.replicate 32 0) ++ ([.slice none 0 0] ++ ([.bool false])))) := by kernel_rfl
theorem ME : dK prog 141 = some false := by kernel_rfl
theorem wK : cI prog 143 0 = some (0, 141, 1) := by kernel_rfl
theorem Y4 : cI prog 143 1 = some (1, 30, 32) := by kernel_rfl
theorem aAs : cM prog 143 = some (([.nilIface] ++ (kc (List.replicate 32 0)))) := by kernel_rfl
theorem aBs : dK prog 150 = some true := by kernel_rfl
theorem D8 : cB prog 150 = some 65 := by kernel_rfl
theorem C8 : cI prog 150 0 = some (0, 32, 64) := by kernel_rfl
theorem Y3 : cI prog 150 1 = some (64, 41, 1) := by kernel_rfl
theorem KB : cM prog 150 = some (((kc (List.replicate 32 0) ++ (kc (List.replicate 32 0))) ++ ([.slice none 0 0]))) := by kernel_rfl
theorem UY : dK prog 151 = some true := by kernel_rfl
theorem KP : cB prog 151 = some 2 := by kernel_rfl
theorem UP : eV prog 151 = some (2, 39) := by kernel_rfl
theorem aAr : cM prog 151 = some (List.replicate 2 (.pointer none)) := by kernel_rfl
theorem aD3 : cB prog 152 = some 64 := by kernel_rfl
theorem yV : eV prog 152 = some (2, 30) := by kernel_rfl
theorem PQ : cM prog 152 = some ((kc (List.replicate 32 0) ++ (kc (List.replicate 32 0)))) := by kernel_rfl
theorem aBr : dK prog 154 = some true := by kernel_rfl
theorem KO : cB prog 154 = some 67 := by kernel_rfl
theorem LU : cI prog 154 0 = some (0, 151, 2) := by kernel_rfl
theorem LS : cI prog 154 1 = some (2, 152, 64) := by kernel_rfl
theorem Y2 : cI prog 154 2 = some (66, 3, 1) := by kernel_rfl
theorem PO : cM prog 154 = some ((List.replicate 2 (.pointer none) ++ ((kc (List.replicate 32 0) ++ (kc (List.replicate 32 0))) ++ ([.int .i64 (0)])))) := by kernel_rfl
theorem GP : dK prog 159 = some false := by kernel_rfl
theorem GO : dK prog 161 = some true := by kernel_rfl
theorem lR : cB prog 161 = some 2 := by kernel_rfl
theorem tF : cI prog 161 0 = some (0, 159, 1) := by kernel_rfl
theorem q5 : cM prog 161 = some ([.nilFunc, .int .i64 (0)]) := by kernel_rfl
theorem aHL : dK prog 162 = some true := by kernel_rfl
theorem aAv : cB prog 162 = some 10 := by kernel_rfl
theorem BR : eV prog 162 = some (5, 161) := by kernel_rfl
theorem aAq : cM prog 162 = some (([.nilFunc, .int .i64 (0)] ++ ([.nilFunc, .int .i64 (0)] ++ ([.nilFunc, .int .i64 (0)] ++ ([.nilFunc, .int .i64 (0)] ++ ([.nilFunc, .int .i64 (0)])))))) := by kernel_rfl
theorem sG : c8 prog 164 = some 41 := by kernel_rfl
theorem LR : cI prog 168 0 = some (0, 37, 1) := by kernel_rfl
theorem wJ : cI prog 168 1 = some (1, 41, 1) := by kernel_rfl
theorem k4 : cI prog 168 2 = some (2, 48, 3) := by kernel_rfl
theorem Y1 : cI prog 168 3 = some (5, 41, 1) := by kernel_rfl
theorem wI : cI prog 168 4 = some (6, 35, 99) := by kernel_rfl
theorem u7 : c8 prog 169 = some 173 := by kernel_rfl
theorem BU : dK prog 171 = some false := by kernel_rfl
theorem BT : dK prog 173 = some true := by kernel_rfl
theorem j9 : cB prog 173 = some 1 := by kernel_rfl
theorem qO : cI prog 173 0 = some (0, 171, 1) := by kernel_rfl
theorem nP : cM prog 173 = some ([.nilFunc]) := by kernel_rfl
theorem vK : dK prog 178 = some true := by kernel_rfl
theorem q6 : cB prog 178 = some 3 := by kernel_rfl
theorem aAp : cM prog 178 = some ([.pointer none, .pointer none, .int .u64 (0)]) := by kernel_rfl
theorem aBq : dK prog 181 = some false := by kernel_rfl
theorem aAz : c8 prog 190 = some 9 := by kernel_rfl
theorem aHK : dK prog 209 = some false := by kernel_rfl
theorem Y0 : cI prog 211 0 = some (0, 209, 1) := by kernel_rfl
theorem YZ : cI prog 211 1 = some (1, 3, 1) := by kernel_rfl
theorem aDQ : cM prog 211 = some ([.pointer none, .int .i64 (0)]) := by kernel_rfl
theorem LQ : cI prog 213 0 = some (0, 3, 1) := by kernel_rfl
theorem aDP : cM prog 213 = some ([.int .i64 (0)]) := by kernel_rfl
theorem aBp : dK prog 219 = some false := by kernel_rfl
theorem aAB : sC prog 219 = some 221 := by kernel_rfl
theorem aDO : cM prog 219 = some ([.pointer none]) := by kernel_rfl
theorem LP : cI prog 221 0 = some (0, 9, 1) := by kernel_rfl
theorem YX : cI prog 221 1 = some (1, 3, 1) := by kernel_rfl
theorem LO : cI prog 221 2 = some (2, 61, 1) := by kernel_rfl
theorem aDN : cM prog 221 = some ([.string ⟨#[]⟩, .int .i64 (0), .nilIface]) := by kernel_rfl
theorem aBo : dK prog 248 = some false := by kernel_rfl
theorem wZ : c8 prog 248 = some 24 := by kernel_rfl
theorem dS : dK prog 260 = some false := by kernel_rfl
theorem c7 : cB prog 260 = some 1 := by kernel_rfl
theorem vE : fR prog 260 = some .u32 := by kernel_rfl
theorem aDM : cM prog 260 = some ([.int .u32 (0)]) := by kernel_rfl
theorem aHI : dK prog 261 = some true := by kernel_rfl
theorem KN : cB prog 261 = some 8 := by kernel_rfl
theorem gA : eV prog 261 = some (8, 260) := by kernel_rfl
theorem DX : cM prog 261 = some (kw (List.replicate 8 0)) := by kernel_rfl
theorem wY : c8 prog 262 = some 260 := by kernel_rfl
theorem aHH : dK prog 266 = some true := by kernel_rfl
theorem QH : cB prog 266 = some 8 := by kernel_rfl
theorem pM : eV prog 266 = some (8, 260) := by kernel_rfl
theorem PN : cM prog 266 = some (kw (List.replicate 8 0)) := by kernel_rfl
theorem aHG : dK prog 268 = some false := by kernel_rfl
theorem aD2 : cB prog 268 = some 1 := by kernel_rfl
theorem aDL : cM prog 268 = some ([.nilFunc]) := by kernel_rfl
theorem qN : cI prog 277 0 = some (0, 41, 1) := by kernel_rfl
theorem LN : cI prog 277 1 = some (1, 4, 1) := by kernel_rfl
theorem aDK : cM prog 277 = some ([.slice none 0 0, .bool false]) := by kernel_rfl
theorem LB : fR prog 294 = some .u64 := by kernel_rfl
theorem rF : eV prog 301 = some (16, 260) := by kernel_rfl
theorem aDJ : cM prog 301 = some (kw (List.replicate 16 0)) := by kernel_rfl
theorem aHF : dK prog 302 = some true := by kernel_rfl
theorem aD1 : cB prog 302 = some 64 := by kernel_rfl
theorem aBm : eV prog 302 = some (64, 260) := by kernel_rfl
theorem EC : c8 prog 316 = some 3 := by kernel_rfl
theorem aBn : dK prog 326 = some false := by kernel_rfl
theorem vO : lZ prog 26 111 ((kc (List.replicate 32 0) ++ ([.slice none 0 0]))) 56 := ⟨nR, kL, by first | rfl | exact fH, by kernel_rfl⟩
theorem EA : lZ prog 33 30 (kc (List.replicate 32 0)) 32 := ⟨oU, k6, by first | rfl | exact c9, by kernel_rfl⟩
theorem iD : lZ prog 41 5 ([.int .u8 (0)]) 1 := ⟨eM, ze5, by first | rfl | exact gO, by kernel_rfl⟩
theorem aIk : lZ prog 54 102 ([.slice none 0 0, .slice none 0 0, .bool false]) 56 := ⟨oT, PR, by first | rfl | exact l8, by kernel_rfl⟩
theorem W6 : lZ prog 86 39 ([.pointer none]) 8 := ⟨QK, MN, by first | rfl | exact l5, by kernel_rfl⟩
theorem sF : lZ prog 119 127 ((kc (List.replicate 32 0) ++ ([.slice none 0 0] ++ ([.bool false])))) 64 := ⟨dZ, wQ, by first | rfl | exact eH, by kernel_rfl⟩
theorem KQ : lZ prog 164 41 ([.slice none 0 0]) 24 := ⟨sG, aDI, by first | rfl | exact B0, by kernel_rfl⟩
theorem aEe : lZ prog 169 173 ([.nilFunc]) 8 := ⟨u7, nP, by first | rfl | exact j9, by kernel_rfl⟩
theorem aAx : lZ prog 190 9 ([.string ⟨#[]⟩]) 16 := ⟨aAz, ze9, by first | rfl | exact sz9, by kernel_rfl⟩
theorem aEc : lZ prog 248 24 (kc (List.replicate 32 0)) 32 := ⟨wZ, qY, by first | rfl | exact cL, by kernel_rfl⟩
theorem EB : lZ prog 262 260 ([.int .u32 (0)]) 4 := ⟨wY, aDM, by first | rfl | exact c7, by kernel_rfl⟩
theorem sE : lZ prog 316 3 ([.int .i64 (0)]) 8 := ⟨EC, ze3, by first | rfl | exact sz3, by kernel_rfl⟩
theorem XK : eZ prog 32 = some [(0, 32), (32, 32)] := by kernel_rfl
theorem aHh : QG prog 32 = some [(0, 24), (32, 30)] := by kernel_rfl
theorem aHg : prog.eqGuardType prog.depth 32 = false := by kernel_rfl
theorem aBZ : eZ prog 35 = some [(0, 1), (1, 1), (2, 64), (66, 32), (98, 1)] := by kernel_rfl
theorem aBY : eZ prog 48 = some [(0, 1), (1, 1), (2, 1)] := by kernel_rfl
theorem aIr : eZ prog 90 = some [(0, 1), (1, 1)] := by kernel_rfl
theorem aEx : eZ prog 102 = some [(0, 1), (1, 1), (2, 1)] := by kernel_rfl
theorem xL : eZ prog 111 = some [(0, 32), (32, 1)] := by kernel_rfl
theorem RG : eZ prog 127 = some [(0, 32), (32, 1), (33, 1)] := by kernel_rfl
theorem aAF : eZ prog 143 = some [(0, 1), (1, 32)] := by kernel_rfl
theorem aAE : eZ prog 150 = some [(0, 64), (64, 1)] := by kernel_rfl
theorem F4 : oS prog 150 = true := by kernel_rfl
theorem aAo : tZ prog 150 = some (.agg #[.int .u8 (0), .int .u8 (0), .int .u8 (0), .int .u8 (0), .int .u8 (0), .int .u8 (0), .int .u8 (0), .int .u8 (0), .int .u8 (0), .int .u8 (0), .int .u8 (0), .int .u8 (0), .int .u8 (0), .int .u8 (0), .int .u8 (0), .int .u8 (0), .int .u8 (0), .int .u8 (0), .int .u8 (0), .int .u8 (0), .int .u8 (0), .int .u8 (0), .int .u8 (0), .int .u8 (0), .int .u8 (0), .int .u8 (0), .int .u8 (0), .int .u8 (0), .int .u8 (0), .int .u8 (0), .int .u8 (0), .int .u8 (0), .int .u8 (0), .int .u8 (0), .int .u8 (0), .int .u8 (0), .int .u8 (0), .int .u8 (0), .int .u8 (0), .int .u8 (0), .int .u8 (0), .int .u8 (0), .int .u8 (0), .int .u8 (0), .int .u8 (0), .int .u8 (0), .int .u8 (0), .int .u8 (0), .int .u8 (0), .int .u8 (0), .int .u8 (0), .int .u8 (0), .int .u8 (0), .int .u8 (0), .int .u8 (0), .int .u8 (0), .int .u8 (0), .int .u8 (0), .int .u8 (0), .int .u8 (0), .int .u8 (0), .int .u8 (0), .int .u8 (0), .int .u8 (0), .slice none 0 0]) := by kernel_rfl
theorem aAD : eZ prog 154 = some [(0, 2), (2, 64), (66, 1)] := by kernel_rfl
theorem L0 : oS prog 154 = true := by kernel_rfl
theorem aDE : tZ prog 154 = some (.agg #[.pointer none, .pointer none, .int .u8 (0), .int .u8 (0), .int .u8 (0), .int .u8 (0), .int .u8 (0), .int .u8 (0), .int .u8 (0), .int .u8 (0), .int .u8 (0), .int .u8 (0), .int .u8 (0), .int .u8 (0), .int .u8 (0), .int .u8 (0), .int .u8 (0), .int .u8 (0), .int .u8 (0), .int .u8 (0), .int .u8 (0), .int .u8 (0), .int .u8 (0), .int .u8 (0), .int .u8 (0), .int .u8 (0), .int .u8 (0), .int .u8 (0), .int .u8 (0), .int .u8 (0), .int .u8 (0), .int .u8 (0), .int .u8 (0), .int .u8 (0), .int .u8 (0), .int .u8 (0), .int .u8 (0), .int .u8 (0), .int .u8 (0), .int .u8 (0), .int .u8 (0), .int .u8 (0), .int .u8 (0), .int .u8 (0), .int .u8 (0), .int .u8 (0), .int .u8 (0), .int .u8 (0), .int .u8 (0), .int .u8 (0), .int .u8 (0), .int .u8 (0), .int .u8 (0), .int .u8 (0), .int .u8 (0), .int .u8 (0), .int .u8 (0), .int .u8 (0), .int .u8 (0), .int .u8 (0), .int .u8 (0), .int .u8 (0), .int .u8 (0), .int .u8 (0), .int .u8 (0), .int .u8 (0), .int .i64 (0)]) := by kernel_rfl
theorem EM : eZ prog 161 = some [(0, 1), (1, 1)] := by kernel_rfl
theorem aEw : eZ prog 168 = some [(0, 1), (1, 1), (2, 3), (5, 1), (6, 99)] := by kernel_rfl
theorem AN : eZ prog 173 = some [(0, 1)] := by kernel_rfl
theorem aEv : eZ prog 211 = some [(0, 1), (1, 1)] := by kernel_rfl
theorem aEu : eZ prog 213 = some [(0, 1)] := by kernel_rfl
theorem aEt : eZ prog 221 = some [(0, 1), (1, 1), (2, 1)] := by kernel_rfl
theorem aEs : eZ prog 277 = some [(0, 1), (1, 1)] := by kernel_rfl
theorem fb7 : Body prog 7 f7 := ⟨func7, by decide +kernel, rfl⟩
theorem fb8 : Body prog 8 f8 := ⟨func8, by decide +kernel, rfl⟩
theorem fb9 : Body prog 9 f9 := ⟨func9, by decide +kernel, rfl⟩
theorem C9 : Body prog 10 f10 := ⟨func10, by decide +kernel, rfl⟩
theorem aG8 : Body prog 11 f11 := ⟨func11, by decide +kernel, rfl⟩
theorem aJ3 : Body prog 12 f12 := ⟨func12, by decide +kernel, rfl⟩
theorem aCS : Body prog 13 f13 := ⟨func13, by decide +kernel, rfl⟩
theorem aCR : Body prog 14 f14 := ⟨func14, by decide +kernel, rfl⟩
theorem aJ2 : Body prog 16 f16 := ⟨func16, by decide +kernel, rfl⟩
theorem aJ1 : Body prog 17 f17 := ⟨func17, by decide +kernel, rfl⟩
theorem aGu : Body prog 18 f18 := ⟨func18, by decide +kernel, rfl⟩
theorem aJ0 : Body prog 19 f19 := ⟨func19, by decide +kernel, rfl⟩
theorem aJZ : Body prog 20 f20 := ⟨func20, by decide +kernel, rfl⟩
theorem aJY : Body prog 21 f21 := ⟨func21, by decide +kernel, rfl⟩
theorem aJX : Body prog 22 f22 := ⟨func22, by decide +kernel, rfl⟩
theorem aJW : Body prog 24 f24 := ⟨func24, by decide +kernel, rfl⟩
theorem aJV : Body prog 25 f25 := ⟨func25, by decide +kernel, rfl⟩
theorem aCQ : Body prog 26 f26 := ⟨func26, by decide +kernel, rfl⟩
theorem N4 : Body prog 27 f27 := ⟨func27, by decide +kernel, rfl⟩
theorem aJU : Body prog 28 f28 := ⟨func28, by decide +kernel, rfl⟩
theorem aF5 : Body prog 29 f29 := ⟨func29, by decide +kernel, rfl⟩
theorem ZB : Body prog 30 f30 := ⟨func30, by decide +kernel, rfl⟩
theorem lX : Body prog 31 f31 := ⟨func31, by decide +kernel, rfl⟩
theorem FT : Body prog 32 f32 := ⟨func32, by decide +kernel, rfl⟩
theorem aJT : Body prog 33 f33 := ⟨func33, by decide +kernel, rfl⟩
theorem aJS : Body prog 34 f34 := ⟨func34, by decide +kernel, rfl⟩
theorem ZA : Body prog 35 f35 := ⟨func35, by decide +kernel, rfl⟩
theorem aJR : Body prog 36 f36 := ⟨func36, by decide +kernel, rfl⟩
theorem aF4 : Body prog 37 f37 := ⟨func37, by decide +kernel, rfl⟩
theorem aJQ : Body prog 38 f38 := ⟨func38, by decide +kernel, rfl⟩
theorem aCP : Body prog 39 f39 := ⟨func39, by decide +kernel, rfl⟩
theorem aF3 : Body prog 40 f40 := ⟨func40, by decide +kernel, rfl⟩
theorem aF2 : Body prog 41 f41 := ⟨func41, by decide +kernel, rfl⟩
theorem Y9 : Body prog 42 f42 := ⟨func42, by decide +kernel, rfl⟩
theorem Y8 : Body prog 43 f43 := ⟨func43, by decide +kernel, rfl⟩
theorem aF1 : Body prog 44 f44 := ⟨func44, by decide +kernel, rfl⟩
theorem TH : Body prog 45 f45 := ⟨func45, by decide +kernel, rfl⟩
theorem aF0 : Body prog 46 f46 := ⟨func46, by decide +kernel, rfl⟩
theorem aCO : Body prog 47 f47 := ⟨func47, by decide +kernel, rfl⟩
theorem aJP : Body prog 48 f48 := ⟨func48, by decide +kernel, rfl⟩
theorem aCN : Body prog 49 f49 := ⟨func49, by decide +kernel, rfl⟩
theorem aJO : Body prog 50 f50 := ⟨func50, by decide +kernel, rfl⟩
theorem aJN : Body prog 51 f51 := ⟨func51, by decide +kernel, rfl⟩
theorem aJM : Body prog 52 f52 := ⟨func52, by decide +kernel, rfl⟩
theorem aCM : Body prog 53 f53 := ⟨func53, by decide +kernel, rfl⟩
theorem aJL : Body prog 54 f54 := ⟨func54, by decide +kernel, rfl⟩
theorem aFZ : Body prog 55 f55 := ⟨func55, by decide +kernel, rfl⟩
theorem aJK : Body prog 56 f56 := ⟨func56, by decide +kernel, rfl⟩
theorem aJJ : Body prog 60 f60 := ⟨func60, by decide +kernel, rfl⟩
theorem aCL : Body prog 61 f61 := ⟨func61, by decide +kernel, rfl⟩
theorem aJI : Body prog 62 f62 := ⟨func62, by decide +kernel, rfl⟩
theorem Y7 : Body prog 63 f63 := ⟨func63, by decide +kernel, rfl⟩
theorem aJH : Body prog 64 f64 := ⟨func64, by decide +kernel, rfl⟩
theorem aJG : Body prog 65 f65 := ⟨func65, by decide +kernel, rfl⟩
theorem aFY : Body prog 66 f66 := ⟨func66, by decide +kernel, rfl⟩
theorem aJF : Body prog 67 f67 := ⟨func67, by decide +kernel, rfl⟩
theorem JE : Body prog 68 f68 := ⟨func68, by decide +kernel, rfl⟩
theorem aFX : Body prog 69 f69 := ⟨func69, by decide +kernel, rfl⟩
theorem aJE : Body prog 70 f70 := ⟨func70, by decide +kernel, rfl⟩
theorem aFW : Body prog 71 f71 := ⟨func71, by decide +kernel, rfl⟩
theorem aFV : Body prog 72 f72 := ⟨func72, by decide +kernel, rfl⟩
theorem N3 : Body prog 73 f73 := ⟨func73, by decide +kernel, rfl⟩
theorem FR : Body prog 74 f74 := ⟨func74, by decide +kernel, rfl⟩
theorem aCK : Body prog 75 f75 := ⟨func75, by decide +kernel, rfl⟩
theorem aFU : Body prog 76 f76 := ⟨func76, by decide +kernel, rfl⟩
theorem aJD : Body prog 77 f77 := ⟨func77, by decide +kernel, rfl⟩
theorem aFT : Body prog 78 f78 := ⟨func78, by decide +kernel, rfl⟩
theorem aJC : Body prog 79 f79 := ⟨func79, by decide +kernel, rfl⟩
theorem aFS : Body prog 80 f80 := ⟨func80, by decide +kernel, rfl⟩
theorem aFR : Body prog 84 f84 := ⟨func84, by decide +kernel, rfl⟩
theorem aJB : Body prog 85 f85 := ⟨func85, by decide +kernel, rfl⟩
theorem aJA : Body prog 86 f86 := ⟨func86, by decide +kernel, rfl⟩
theorem aJz : Body prog 87 f87 := ⟨func87, by decide +kernel, rfl⟩
theorem aJy : Body prog 88 f88 := ⟨func88, by decide +kernel, rfl⟩
theorem aFQ : Body prog 89 f89 := ⟨func89, by decide +kernel, rfl⟩
theorem aJx : Body prog 90 f90 := ⟨func90, by decide +kernel, rfl⟩
theorem aCJ : Body prog 91 f91 := ⟨func91, by decide +kernel, rfl⟩
theorem aJw : Body prog 92 f92 := ⟨func92, by decide +kernel, rfl⟩
theorem aJv : Body prog 93 f93 := ⟨func93, by decide +kernel, rfl⟩
theorem aCI : Body prog 94 f94 := ⟨func94, by decide +kernel, rfl⟩
theorem aJu : Body prog 95 f95 := ⟨func95, by decide +kernel, rfl⟩
theorem aCH : Body prog 96 f96 := ⟨func96, by decide +kernel, rfl⟩
theorem aJt : Body prog 98 f98 := ⟨func98, by decide +kernel, rfl⟩
theorem aFP : Body prog 99 f99 := ⟨func99, by decide +kernel, rfl⟩
theorem aHe : Body prog 100 f100 := ⟨func100, by decide +kernel, rfl⟩
theorem TR : Body prog 101 f101 := ⟨func101, by decide +kernel, rfl⟩
theorem aBg : Body prog 102 f102 := ⟨func102, by decide +kernel, rfl⟩
theorem aHd : Body prog 103 f103 := ⟨func103, by decide +kernel, rfl⟩
theorem aHc : Body prog 104 f104 := ⟨func104, by decide +kernel, rfl⟩
theorem aBf : Body prog 105 f105 := ⟨func105, by decide +kernel, rfl⟩
theorem aHb : Body prog 106 f106 := ⟨func106, by decide +kernel, rfl⟩
theorem TQ : Body prog 107 f107 := ⟨func107, by decide +kernel, rfl⟩
theorem aHa : Body prog 108 f108 := ⟨func108, by decide +kernel, rfl⟩
theorem aG9 : Body prog 109 f109 := ⟨func109, by decide +kernel, rfl⟩
theorem LV : Body prog 110 f110 := ⟨func110, by decide +kernel, rfl⟩
theorem aBe : Body prog 111 f111 := ⟨func111, by decide +kernel, rfl⟩
theorem TP : Body prog 112 f112 := ⟨func112, by decide +kernel, rfl⟩
theorem TO : Body prog 113 f113 := ⟨func113, by decide +kernel, rfl⟩
theorem aG7 : Body prog 114 f114 := ⟨func114, by decide +kernel, rfl⟩
theorem aG6 : Body prog 115 f115 := ⟨func115, by decide +kernel, rfl⟩
theorem aG5 : Body prog 116 f116 := ⟨func116, by decide +kernel, rfl⟩
theorem aG4 : Body prog 117 f117 := ⟨func117, by decide +kernel, rfl⟩
theorem aG3 : Body prog 118 f118 := ⟨func118, by decide +kernel, rfl⟩
theorem aG2 : Body prog 119 f119 := ⟨func119, by decide +kernel, rfl⟩
theorem aG1 : Body prog 120 f120 := ⟨func120, by decide +kernel, rfl⟩
theorem aG0 : Body prog 121 f121 := ⟨func121, by decide +kernel, rfl⟩
theorem BC : Body prog 122 f122 := ⟨func122, by decide +kernel, rfl⟩
theorem aGZ : Body prog 123 f123 := ⟨func123, by decide +kernel, rfl⟩
theorem aGY : Body prog 124 f124 := ⟨func124, by decide +kernel, rfl⟩
theorem aGX : Body prog 125 f125 := ⟨func125, by decide +kernel, rfl⟩
theorem aGW : Body prog 126 f126 := ⟨func126, by decide +kernel, rfl⟩
theorem aGV : Body prog 127 f127 := ⟨func127, by decide +kernel, rfl⟩
theorem aGU : Body prog 128 f128 := ⟨func128, by decide +kernel, rfl⟩
theorem aGT : Body prog 129 f129 := ⟨func129, by decide +kernel, rfl⟩
theorem aGS : Body prog 130 f130 := ⟨func130, by decide +kernel, rfl⟩
theorem aGR : Body prog 133 f133 := ⟨func133, by decide +kernel, rfl⟩
theorem TN : Body prog 134 f134 := ⟨func134, by decide +kernel, rfl⟩
theorem aGQ : Body prog 135 f135 := ⟨func135, by decide +kernel, rfl⟩
theorem TM : Body prog 136 f136 := ⟨func136, by decide +kernel, rfl⟩
theorem aBd : Body prog 137 f137 := ⟨func137, by decide +kernel, rfl⟩
theorem aGP : Body prog 138 f138 := ⟨func138, by decide +kernel, rfl⟩
theorem yG : Body prog 139 f139 := ⟨func139, by decide +kernel, rfl⟩
theorem FV : Body prog 140 f140 := ⟨func140, by decide +kernel, rfl⟩
theorem aBc : Body prog 143 f143 := ⟨func143, by decide +kernel, rfl⟩
theorem aGO : Body prog 144 f144 := ⟨func144, by decide +kernel, rfl⟩
theorem aBb : Body prog 145 f145 := ⟨func145, by decide +kernel, rfl⟩
theorem aGN : Body prog 146 f146 := ⟨func146, by decide +kernel, rfl⟩
theorem aGM : Body prog 147 f147 := ⟨func147, by decide +kernel, rfl⟩
theorem aGL : Body prog 148 f148 := ⟨func148, by decide +kernel, rfl⟩
theorem TL : Body prog 149 f149 := ⟨func149, by decide +kernel, rfl⟩
theorem aGK : Body prog 150 f150 := ⟨func150, by decide +kernel, rfl⟩
theorem aGJ : Body prog 151 f151 := ⟨func151, by decide +kernel, rfl⟩
theorem aGI : Body prog 152 f152 := ⟨func152, by decide +kernel, rfl⟩
theorem TK : Body prog 153 f153 := ⟨func153, by decide +kernel, rfl⟩
theorem aGH : Body prog 154 f154 := ⟨func154, by decide +kernel, rfl⟩
theorem aGG : Body prog 155 f155 := ⟨func155, by decide +kernel, rfl⟩
theorem aGF : Body prog 156 f156 := ⟨func156, by decide +kernel, rfl⟩
theorem aGE : Body prog 157 f157 := ⟨func157, by decide +kernel, rfl⟩
theorem rC : Body prog 158 f158 := ⟨func158, by decide +kernel, rfl⟩
theorem aGD : Body prog 159 f159 := ⟨func159, by decide +kernel, rfl⟩
theorem aGC : Body prog 160 f160 := ⟨func160, by decide +kernel, rfl⟩
theorem aGB : Body prog 161 f161 := ⟨func161, by decide +kernel, rfl⟩
theorem aGA : Body prog 162 f162 := ⟨func162, by decide +kernel, rfl⟩
theorem aGz : Body prog 163 f163 := ⟨func163, by decide +kernel, rfl⟩
theorem TJ : Body prog 164 f164 := ⟨func164, by decide +kernel, rfl⟩
theorem aGy : Body prog 165 f165 := ⟨func165, by decide +kernel, rfl⟩
theorem aGx : Body prog 166 f166 := ⟨func166, by decide +kernel, rfl⟩
theorem FU : Body prog 167 f167 := ⟨func167, by decide +kernel, rfl⟩
theorem aBa : Body prog 168 f168 := ⟨func168, by decide +kernel, rfl⟩
theorem aA9 : Body prog 169 f169 := ⟨func169, by decide +kernel, rfl⟩
theorem TI : Body prog 170 f170 := ⟨func170, by decide +kernel, rfl⟩
theorem aGw : Body prog 171 f171 := ⟨func171, by decide +kernel, rfl⟩
theorem aA8 : Body prog 172 f172 := ⟨func172, by decide +kernel, rfl⟩
theorem aGv : Body prog 173 f173 := ⟨func173, by decide +kernel, rfl⟩
theorem aGt : Body prog 185 f185 := ⟨func185, by decide +kernel, rfl⟩
theorem aGs : Body prog 186 f186 := ⟨func186, by decide +kernel, rfl⟩
theorem aA7 : Body prog 187 f187 := ⟨func187, by decide +kernel, rfl⟩
theorem aA6 : Body prog 188 f188 := ⟨func188, by decide +kernel, rfl⟩
theorem aGr : Body prog 189 f189 := ⟨func189, by decide +kernel, rfl⟩
theorem aGq : Body prog 190 f190 := ⟨func190, by decide +kernel, rfl⟩
theorem aGp : Body prog 191 f191 := ⟨func191, by decide +kernel, rfl⟩
theorem vF : Body prog 192 f192 := ⟨func192, by decide +kernel, rfl⟩
theorem aGo : Body prog 193 f193 := ⟨func193, by decide +kernel, rfl⟩
theorem aGn : Body prog 194 f194 := ⟨func194, by decide +kernel, rfl⟩
theorem aGm : Body prog 195 f195 := ⟨func195, by decide +kernel, rfl⟩
theorem aGl : Body prog 196 f196 := ⟨func196, by decide +kernel, rfl⟩
theorem aA5 : Body prog 204 f204 := ⟨func204, by decide +kernel, rfl⟩
theorem aGk : Body prog 205 f205 := ⟨func205, by decide +kernel, rfl⟩
theorem aGj : Body prog 206 f206 := ⟨func206, by decide +kernel, rfl⟩
theorem aGi : Body prog 207 f207 := ⟨func207, by decide +kernel, rfl⟩
theorem aGh : Body prog 208 f208 := ⟨func208, by decide +kernel, rfl⟩
theorem aGg : Body prog 211 f211 := ⟨func211, by decide +kernel, rfl⟩
theorem aGf : Body prog 212 f212 := ⟨func212, by decide +kernel, rfl⟩
theorem aGe : Body prog 213 f213 := ⟨func213, by decide +kernel, rfl⟩
theorem aGd : Body prog 214 f214 := ⟨func214, by decide +kernel, rfl⟩
theorem aGc : Body prog 215 f215 := ⟨func215, by decide +kernel, rfl⟩
theorem aA4 : Body prog 216 f216 := ⟨func216, by decide +kernel, rfl⟩
theorem aGb : Body prog 218 f218 := ⟨func218, by decide +kernel, rfl⟩
theorem aA3 : Body prog 219 f219 := ⟨func219, by decide +kernel, rfl⟩
theorem aGa : Body prog 220 f220 := ⟨func220, by decide +kernel, rfl⟩
theorem aF9 : Body prog 222 f222 := ⟨func222, by decide +kernel, rfl⟩
theorem aF8 : Body prog 242 f242 := ⟨func242, by decide +kernel, rfl⟩
theorem aF7 : Body prog 243 f243 := ⟨func243, by decide +kernel, rfl⟩
theorem aF6 : Body prog 249 f249 := ⟨func249, by decide +kernel, rfl⟩
end Go.Sp.TryzT
