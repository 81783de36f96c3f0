/- What the program says of its types, and that its functions have bodies. -/
import Derived.Test.YtcclagdjpoimaaaGreatDoorProg
import Derived.Test.YtcclagdjpoimaaaGreatDoorRules
set_option maxRecDepth 100000
namespace Go.Sp.TryzT
open Go.Proofs Go.Sp
theorem mixed : Tryz.prog.follows .mixedOrders = true := by kernel_rfl
theorem ag3 : tyAgg Tryz.prog 3 = some false := by kernel_rfl
theorem sz3 : tySize Tryz.prog 3 = some 1 := by kernel_rfl
theorem in3 : tyInt Tryz.prog 3 = some .i64 := by kernel_rfl
theorem ze3 : tyCells Tryz.prog 3 = some ([.int .i64 (0)]) := by kernel_rfl
theorem ag4 : tyAgg Tryz.prog 4 = some false := by kernel_rfl
theorem sz4 : tySize Tryz.prog 4 = some 1 := by kernel_rfl
theorem bo4 : tyBool Tryz.prog 4 = true := by kernel_rfl
theorem ze4 : tyCells Tryz.prog 4 = some ([.bool false]) := by kernel_rfl
theorem ag5 : tyAgg Tryz.prog 5 = some false := by kernel_rfl
theorem sz5 : tySize Tryz.prog 5 = some 1 := by kernel_rfl
theorem in5 : tyInt Tryz.prog 5 = some .u8 := by kernel_rfl
theorem ze5 : tyCells Tryz.prog 5 = some ([.int .u8 (0)]) := by kernel_rfl
theorem ag22 : tyAgg Tryz.prog 22 = some false := by kernel_rfl
theorem sz22 : tySize Tryz.prog 22 = some 1 := by kernel_rfl
theorem sl22 : tySlice Tryz.prog 22 = some 34 := by kernel_rfl
theorem ze22 : tyCells Tryz.prog 22 = some ([.slice none 0 0]) := by kernel_rfl
theorem ag23 : tyAgg Tryz.prog 23 = some false := by kernel_rfl
theorem sz23 : tySize Tryz.prog 23 = some 1 := by kernel_rfl
theorem pt23 : tyPtr Tryz.prog 23 = some 80 := by kernel_rfl
theorem ze23 : tyCells Tryz.prog 23 = some ([.pointer none]) := by kernel_rfl
theorem ag26 : tyAgg Tryz.prog 26 = some false := by kernel_rfl
theorem pt26 : tyPtr Tryz.prog 26 = some 110 := by kernel_rfl
theorem sl29 : tySlice Tryz.prog 29 = some 36 := by kernel_rfl
theorem ag31 : tyAgg Tryz.prog 31 = some true := by kernel_rfl
theorem sz31 : tySize Tryz.prog 31 = some 32 := by kernel_rfl
theorem ar31 : tyArray Tryz.prog 31 = some (32, 5) := by kernel_rfl
theorem ze31 : tyCells Tryz.prog 31 = some (kc (List.replicate 32 0)) := by kernel_rfl
theorem ag32 : tyAgg Tryz.prog 32 = some false := by kernel_rfl
theorem sz32 : tySize Tryz.prog 32 = some 1 := by kernel_rfl
theorem sl32 : tySlice Tryz.prog 32 = some 5 := by kernel_rfl
theorem ze32 : tyCells Tryz.prog 32 = some ([.slice none 0 0]) := by kernel_rfl
theorem ag34 : tyAgg Tryz.prog 34 = some true := by kernel_rfl
theorem sz34 : tySize Tryz.prog 34 = some 33 := by kernel_rfl
theorem fd34_0 : tyField Tryz.prog 34 0 = some (0, 31, 32) := by kernel_rfl
theorem fd34_1 : tyField Tryz.prog 34 1 = some (32, 32, 1) := by kernel_rfl
theorem ze34 : tyCells Tryz.prog 34 = some ((kc (List.replicate 32 0) ++ ([.slice none 0 0]))) := by kernel_rfl
theorem ag36 : tyAgg Tryz.prog 36 = some true := by kernel_rfl
theorem sz36 : tySize Tryz.prog 36 = some 34 := by kernel_rfl
theorem fd36_0 : tyField Tryz.prog 36 0 = some (0, 31, 32) := by kernel_rfl
theorem fd36_1 : tyField Tryz.prog 36 1 = some (32, 32, 1) := by kernel_rfl
theorem fd36_2 : tyField Tryz.prog 36 2 = some (33, 4, 1) := by kernel_rfl
theorem ze36 : tyCells Tryz.prog 36 = some ((kc (List.replicate 32 0) ++ ([.slice none 0 0] ++ ([.bool false])))) := by kernel_rfl
theorem ag42 : tyAgg Tryz.prog 42 = some true := by kernel_rfl
theorem sz42 : tySize Tryz.prog 42 = some 32 := by kernel_rfl
theorem ar42 : tyArray Tryz.prog 42 = some (32, 5) := by kernel_rfl
theorem ze42 : tyCells Tryz.prog 42 = some (kc (List.replicate 32 0)) := by kernel_rfl
theorem sl47 : tySlice Tryz.prog 47 = some 69 := by kernel_rfl
theorem ag69 : tyAgg Tryz.prog 69 = some true := by kernel_rfl
theorem sz69 : tySize Tryz.prog 69 = some 34 := by kernel_rfl
theorem fd69_0 : tyField Tryz.prog 69 0 = some (0, 31, 32) := by kernel_rfl
theorem fd69_1 : tyField Tryz.prog 69 1 = some (32, 32, 1) := by kernel_rfl
theorem fd69_2 : tyField Tryz.prog 69 2 = some (33, 4, 1) := by kernel_rfl
theorem ze69 : tyCells Tryz.prog 69 = some ((kc (List.replicate 32 0) ++ ([.slice none 0 0] ++ ([.bool false])))) := by kernel_rfl
theorem ag70 : tyAgg Tryz.prog 70 = some false := by kernel_rfl
theorem sl70 : tySlice Tryz.prog 70 = some 31 := by kernel_rfl
theorem ag78 : tyAgg Tryz.prog 78 = some false := by kernel_rfl
theorem sz80 : tySize Tryz.prog 80 = some 33 := by kernel_rfl
theorem fd80_0 : tyField Tryz.prog 80 0 = some (0, 78, 1) := by kernel_rfl
theorem fd80_1 : tyField Tryz.prog 80 1 = some (1, 42, 32) := by kernel_rfl
theorem ze80 : tyCells Tryz.prog 80 = some (([.nilIface] ++ (kc (List.replicate 32 0)))) := by kernel_rfl
theorem ag93 : tyAgg Tryz.prog 93 = some true := by kernel_rfl
theorem sz93 : tySize Tryz.prog 93 = some 64 := by kernel_rfl
theorem fd93_0 : tyField Tryz.prog 93 0 = some (0, 31, 32) := by kernel_rfl
theorem fd93_1 : tyField Tryz.prog 93 1 = some (32, 42, 32) := by kernel_rfl
theorem ze93 : tyCells Tryz.prog 93 = some ((kc (List.replicate 32 0) ++ (kc (List.replicate 32 0)))) := by kernel_rfl
theorem ag99 : tyAgg Tryz.prog 99 = some true := by kernel_rfl
theorem sz99 : tySize Tryz.prog 99 = some 2 := by kernel_rfl
theorem ar99 : tyArray Tryz.prog 99 = some (2, 23) := by kernel_rfl
theorem ze99 : tyCells Tryz.prog 99 = some (List.replicate 2 (.pointer none)) := by kernel_rfl
theorem ar100 : tyArray Tryz.prog 100 = some (2, 42) := by kernel_rfl
theorem ze100 : tyCells Tryz.prog 100 = some ((kc (List.replicate 32 0) ++ (kc (List.replicate 32 0)))) := by kernel_rfl
theorem ag102 : tyAgg Tryz.prog 102 = some true := by kernel_rfl
theorem sz102 : tySize Tryz.prog 102 = some 67 := by kernel_rfl
theorem fd102_0 : tyField Tryz.prog 102 0 = some (0, 99, 2) := by kernel_rfl
theorem fd102_1 : tyField Tryz.prog 102 1 = some (2, 100, 64) := by kernel_rfl
theorem fd102_2 : tyField Tryz.prog 102 2 = some (66, 3, 1) := by kernel_rfl
theorem ze102 : tyCells Tryz.prog 102 = some ((List.replicate 2 (.pointer none) ++ ((kc (List.replicate 32 0) ++ (kc (List.replicate 32 0))) ++ ([.int .i64 (0)])))) := by kernel_rfl
theorem ag106 : tyAgg Tryz.prog 106 = some false := by kernel_rfl
theorem fd108_0 : tyField Tryz.prog 108 0 = some (0, 3, 1) := by kernel_rfl
theorem ze108 : tyCells Tryz.prog 108 = some ([.int .i64 (0)]) := by kernel_rfl
theorem fd110_0 : tyField Tryz.prog 110 0 = some (0, 106, 1) := by kernel_rfl
theorem fd110_1 : tyField Tryz.prog 110 1 = some (1, 3, 1) := by kernel_rfl
theorem ze110 : tyCells Tryz.prog 110 = some ([.pointer none, .int .i64 (0)]) := by kernel_rfl
theorem ag134 : tyAgg Tryz.prog 134 = some false := by kernel_rfl
theorem sz134 : tySize Tryz.prog 134 = some 1 := by kernel_rfl
theorem sl134 : tySlice Tryz.prog 134 = some 23 := by kernel_rfl
theorem ze134 : tyCells Tryz.prog 134 = some ([.slice none 0 0]) := by kernel_rfl
theorem ag142 : tyAgg Tryz.prog 142 = some true := by kernel_rfl
theorem sz142 : tySize Tryz.prog 142 = some 65 := by kernel_rfl
theorem fd142_0 : tyField Tryz.prog 142 0 = some (0, 93, 64) := by kernel_rfl
theorem fd142_1 : tyField Tryz.prog 142 1 = some (64, 32, 1) := by kernel_rfl
theorem ze142 : tyCells Tryz.prog 142 = some (((kc (List.replicate 32 0) ++ (kc (List.replicate 32 0))) ++ ([.slice none 0 0]))) := by kernel_rfl
theorem ag147 : tyAgg Tryz.prog 147 = some false := by kernel_rfl
theorem sz147 : tySize Tryz.prog 147 = some 1 := by kernel_rfl
theorem in147 : tyInt Tryz.prog 147 = some .u32 := by kernel_rfl
theorem ar148 : tyArray Tryz.prog 148 = some (8, 147) := by kernel_rfl
theorem ze148 : tyCells Tryz.prog 148 = some (kw (List.replicate 8 0)) := by kernel_rfl
theorem ag149 : tyAgg Tryz.prog 149 = some true := by kernel_rfl
theorem sz149 : tySize Tryz.prog 149 = some 8 := by kernel_rfl
theorem ar149 : tyArray Tryz.prog 149 = some (8, 147) := by kernel_rfl
theorem ze149 : tyCells Tryz.prog 149 = some (kw (List.replicate 8 0)) := by kernel_rfl
theorem ag151 : tyAgg Tryz.prog 151 = some false := by kernel_rfl
theorem sz151 : tySize Tryz.prog 151 = some 1 := by kernel_rfl
theorem ze151 : tyCells Tryz.prog 151 = some ([.nilFunc]) := by kernel_rfl
theorem sl155 : tySlice Tryz.prog 155 = some 32 := by kernel_rfl
theorem in171 : tyInt Tryz.prog 171 = some .u64 := by kernel_rfl
theorem ar174 : tyArray Tryz.prog 174 = some (16, 147) := by kernel_rfl
theorem ze174 : tyCells Tryz.prog 174 = some (kw (List.replicate 16 0)) := by kernel_rfl
theorem ag175 : tyAgg Tryz.prog 175 = some true := by kernel_rfl
theorem sz175 : tySize Tryz.prog 175 = some 64 := by kernel_rfl
theorem ar175 : tyArray Tryz.prog 175 = some (64, 147) := by kernel_rfl
theorem in179 : tyInt Tryz.prog 179 = some .u64 := by kernel_rfl
theorem sl184 : tySlice Tryz.prog 184 = some 3 := by kernel_rfl
theorem st22 : SlTy Tryz.prog 22 34 ((kc (List.replicate 32 0) ++ ([.slice none 0 0]))) 56 := ⟨sl22, ze34, by first | rfl | exact sz34, by kernel_rfl⟩
theorem st32 : SlTy Tryz.prog 32 5 ([.int .u8 (0)]) 1 := ⟨sl32, ze5, by first | rfl | exact sz5, by kernel_rfl⟩
theorem st47 : SlTy Tryz.prog 47 69 ((kc (List.replicate 32 0) ++ ([.slice none 0 0] ++ ([.bool false])))) 64 := ⟨sl47, ze69, by first | rfl | exact sz69, by kernel_rfl⟩
theorem st70 : SlTy Tryz.prog 70 31 (kc (List.replicate 32 0)) 32 := ⟨sl70, ze31, by first | rfl | exact sz31, by kernel_rfl⟩
theorem st134 : SlTy Tryz.prog 134 23 ([.pointer none]) 8 := ⟨sl134, ze23, by first | rfl | exact sz23, by kernel_rfl⟩
theorem st155 : SlTy Tryz.prog 155 32 ([.slice none 0 0]) 24 := ⟨sl155, ze32, by first | rfl | exact sz32, by kernel_rfl⟩
theorem st184 : SlTy Tryz.prog 184 3 ([.int .i64 (0)]) 8 := ⟨sl184, ze3, by first | rfl | exact sz3, by kernel_rfl⟩
theorem pl34 : tyPlaces Tryz.prog 34 = some [(0, 32), (32, 1)] := by kernel_rfl
theorem pl69 : tyPlaces Tryz.prog 69 = some [(0, 32), (32, 1), (33, 1)] := by kernel_rfl
theorem pl80 : tyPlaces Tryz.prog 80 = some [(0, 1), (1, 32)] := by kernel_rfl
theorem pl93 : tyPlaces Tryz.prog 93 = some [(0, 32), (32, 32)] := by kernel_rfl
theorem pl102 : tyPlaces Tryz.prog 102 = some [(0, 2), (2, 64), (66, 1)] := by kernel_rfl
theorem cn102 : tyConc Tryz.prog 102 = true := by kernel_rfl
theorem zz102 : tyZero Tryz.prog 102 = some (.agg #[.pointer none, .pointer none, .int .u8 (0), .int .u8 (0), .int .u8 (0), .int .u8 (0), .int .u8 (0), .int .u8 (0), .int .u8 (0), .int .u8 (0), .int .u8 (0), .int .u8 (0), .int .u8 (0), .int .u8 (0), .int .u8 (0), .int .u8 (0), .int .u8 (0), .int .u8 (0), .int .u8 (0), .int .u8 (0), .int .u8 (0), .int .u8 (0), .int .u8 (0), .int .u8 (0), .int .u8 (0), .int .u8 (0), .int .u8 (0), .int .u8 (0), .int .u8 (0), .int .u8 (0), .int .u8 (0), .int .u8 (0), .int .u8 (0), .int .u8 (0), .int .u8 (0), .int .u8 (0), .int .u8 (0), .int .u8 (0), .int .u8 (0), .int .u8 (0), .int .u8 (0), .int .u8 (0), .int .u8 (0), .int .u8 (0), .int .u8 (0), .int .u8 (0), .int .u8 (0), .int .u8 (0), .int .u8 (0), .int .u8 (0), .int .u8 (0), .int .u8 (0), .int .u8 (0), .int .u8 (0), .int .u8 (0), .int .u8 (0), .int .u8 (0), .int .u8 (0), .int .u8 (0), .int .u8 (0), .int .u8 (0), .int .u8 (0), .int .u8 (0), .int .u8 (0), .int .u8 (0), .int .u8 (0), .int .i64 (0)]) := by kernel_rfl
theorem pl108 : tyPlaces Tryz.prog 108 = some [(0, 1)] := by kernel_rfl
theorem pl110 : tyPlaces Tryz.prog 110 = some [(0, 1), (1, 1)] := by kernel_rfl
theorem pl142 : tyPlaces Tryz.prog 142 = some [(0, 64), (64, 1)] := by kernel_rfl
theorem cn142 : tyConc Tryz.prog 142 = true := by kernel_rfl
theorem zz142 : tyZero Tryz.prog 142 = some (.agg #[.int .u8 (0), .int .u8 (0), .int .u8 (0), .int .u8 (0), .int .u8 (0), .int .u8 (0), .int .u8 (0), .int .u8 (0), .int .u8 (0), .int .u8 (0), .int .u8 (0), .int .u8 (0), .int .u8 (0), .int .u8 (0), .int .u8 (0), .int .u8 (0), .int .u8 (0), .int .u8 (0), .int .u8 (0), .int .u8 (0), .int .u8 (0), .int .u8 (0), .int .u8 (0), .int .u8 (0), .int .u8 (0), .int .u8 (0), .int .u8 (0), .int .u8 (0), .int .u8 (0), .int .u8 (0), .int .u8 (0), .int .u8 (0), .int .u8 (0), .int .u8 (0), .int .u8 (0), .int .u8 (0), .int .u8 (0), .int .u8 (0), .int .u8 (0), .int .u8 (0), .int .u8 (0), .int .u8 (0), .int .u8 (0), .int .u8 (0), .int .u8 (0), .int .u8 (0), .int .u8 (0), .int .u8 (0), .int .u8 (0), .int .u8 (0), .int .u8 (0), .int .u8 (0), .int .u8 (0), .int .u8 (0), .int .u8 (0), .int .u8 (0), .int .u8 (0), .int .u8 (0), .int .u8 (0), .int .u8 (0), .int .u8 (0), .int .u8 (0), .int .u8 (0), .int .u8 (0), .slice none 0 0]) := by kernel_rfl
theorem fb8 : Body Tryz.prog 8 Tryz.f8 := ⟨Tryz.func8, by decide +kernel, rfl⟩
theorem fb9 : Body Tryz.prog 9 Tryz.f9 := ⟨Tryz.func9, by decide +kernel, rfl⟩
theorem fb10 : Body Tryz.prog 10 Tryz.f10 := ⟨Tryz.func10, by decide +kernel, rfl⟩
theorem fb11 : Body Tryz.prog 11 Tryz.f11 := ⟨Tryz.func11, by decide +kernel, rfl⟩
theorem fb12 : Body Tryz.prog 12 Tryz.f12 := ⟨Tryz.func12, by decide +kernel, rfl⟩
theorem fb14 : Body Tryz.prog 14 Tryz.f14 := ⟨Tryz.func14, by decide +kernel, rfl⟩
theorem fb15 : Body Tryz.prog 15 Tryz.f15 := ⟨Tryz.func15, by decide +kernel, rfl⟩
theorem fb16 : Body Tryz.prog 16 Tryz.f16 := ⟨Tryz.func16, by decide +kernel, rfl⟩
theorem fb17 : Body Tryz.prog 17 Tryz.f17 := ⟨Tryz.func17, by decide +kernel, rfl⟩
theorem fb19 : Body Tryz.prog 19 Tryz.f19 := ⟨Tryz.func19, by decide +kernel, rfl⟩
theorem fb25 : Body Tryz.prog 25 Tryz.f25 := ⟨Tryz.func25, by decide +kernel, rfl⟩
theorem fb26 : Body Tryz.prog 26 Tryz.f26 := ⟨Tryz.func26, by decide +kernel, rfl⟩
theorem fb27 : Body Tryz.prog 27 Tryz.f27 := ⟨Tryz.func27, by decide +kernel, rfl⟩
theorem fb28 : Body Tryz.prog 28 Tryz.f28 := ⟨Tryz.func28, by decide +kernel, rfl⟩
theorem fb29 : Body Tryz.prog 29 Tryz.f29 := ⟨Tryz.func29, by decide +kernel, rfl⟩
theorem fb30 : Body Tryz.prog 30 Tryz.f30 := ⟨Tryz.func30, by decide +kernel, rfl⟩
theorem fb31 : Body Tryz.prog 31 Tryz.f31 := ⟨Tryz.func31, by decide +kernel, rfl⟩
theorem fb32 : Body Tryz.prog 32 Tryz.f32 := ⟨Tryz.func32, by decide +kernel, rfl⟩
theorem fb33 : Body Tryz.prog 33 Tryz.f33 := ⟨Tryz.func33, by decide +kernel, rfl⟩
theorem fb37 : Body Tryz.prog 37 Tryz.f37 := ⟨Tryz.func37, by decide +kernel, rfl⟩
theorem fb38 : Body Tryz.prog 38 Tryz.f38 := ⟨Tryz.func38, by decide +kernel, rfl⟩
theorem fb39 : Body Tryz.prog 39 Tryz.f39 := ⟨Tryz.func39, by decide +kernel, rfl⟩
theorem fb40 : Body Tryz.prog 40 Tryz.f40 := ⟨Tryz.func40, by decide +kernel, rfl⟩
theorem fb41 : Body Tryz.prog 41 Tryz.f41 := ⟨Tryz.func41, by decide +kernel, rfl⟩
theorem fb42 : Body Tryz.prog 42 Tryz.f42 := ⟨Tryz.func42, by decide +kernel, rfl⟩
theorem fb43 : Body Tryz.prog 43 Tryz.f43 := ⟨Tryz.func43, by decide +kernel, rfl⟩
theorem fb44 : Body Tryz.prog 44 Tryz.f44 := ⟨Tryz.func44, by decide +kernel, rfl⟩
theorem fb45 : Body Tryz.prog 45 Tryz.f45 := ⟨Tryz.func45, by decide +kernel, rfl⟩
theorem fb52 : Body Tryz.prog 52 Tryz.f52 := ⟨Tryz.func52, by decide +kernel, rfl⟩
theorem fb54 : Body Tryz.prog 54 Tryz.f54 := ⟨Tryz.func54, by decide +kernel, rfl⟩
theorem fb55 : Body Tryz.prog 55 Tryz.f55 := ⟨Tryz.func55, by decide +kernel, rfl⟩
theorem fb56 : Body Tryz.prog 56 Tryz.f56 := ⟨Tryz.func56, by decide +kernel, rfl⟩
theorem fb57 : Body Tryz.prog 57 Tryz.f57 := ⟨Tryz.func57, by decide +kernel, rfl⟩
theorem fb58 : Body Tryz.prog 58 Tryz.f58 := ⟨Tryz.func58, by decide +kernel, rfl⟩
theorem fb59 : Body Tryz.prog 59 Tryz.f59 := ⟨Tryz.func59, by decide +kernel, rfl⟩
theorem fb60 : Body Tryz.prog 60 Tryz.f60 := ⟨Tryz.func60, by decide +kernel, rfl⟩
theorem fb62 : Body Tryz.prog 62 Tryz.f62 := ⟨Tryz.func62, by decide +kernel, rfl⟩
theorem fb63 : Body Tryz.prog 63 Tryz.f63 := ⟨Tryz.func63, by decide +kernel, rfl⟩
theorem fb64 : Body Tryz.prog 64 Tryz.f64 := ⟨Tryz.func64, by decide +kernel, rfl⟩
theorem fb65 : Body Tryz.prog 65 Tryz.f65 := ⟨Tryz.func65, by decide +kernel, rfl⟩
theorem fb66 : Body Tryz.prog 66 Tryz.f66 := ⟨Tryz.func66, by decide +kernel, rfl⟩
theorem fb67 : Body Tryz.prog 67 Tryz.f67 := ⟨Tryz.func67, by decide +kernel, rfl⟩
theorem fb68 : Body Tryz.prog 68 Tryz.f68 := ⟨Tryz.func68, by decide +kernel, rfl⟩
theorem fb69 : Body Tryz.prog 69 Tryz.f69 := ⟨Tryz.func69, by decide +kernel, rfl⟩
theorem fb70 : Body Tryz.prog 70 Tryz.f70 := ⟨Tryz.func70, by decide +kernel, rfl⟩
theorem fb71 : Body Tryz.prog 71 Tryz.f71 := ⟨Tryz.func71, by decide +kernel, rfl⟩
theorem fb72 : Body Tryz.prog 72 Tryz.f72 := ⟨Tryz.func72, by decide +kernel, rfl⟩
theorem fb73 : Body Tryz.prog 73 Tryz.f73 := ⟨Tryz.func73, by decide +kernel, rfl⟩
theorem fb74 : Body Tryz.prog 74 Tryz.f74 := ⟨Tryz.func74, by decide +kernel, rfl⟩
theorem fb75 : Body Tryz.prog 75 Tryz.f75 := ⟨Tryz.func75, by decide +kernel, rfl⟩
theorem fb76 : Body Tryz.prog 76 Tryz.f76 := ⟨Tryz.func76, by decide +kernel, rfl⟩
theorem fb77 : Body Tryz.prog 77 Tryz.f77 := ⟨Tryz.func77, by decide +kernel, rfl⟩
theorem fb78 : Body Tryz.prog 78 Tryz.f78 := ⟨Tryz.func78, by decide +kernel, rfl⟩
theorem fb83 : Body Tryz.prog 83 Tryz.f83 := ⟨Tryz.func83, by decide +kernel, rfl⟩
theorem fb84 : Body Tryz.prog 84 Tryz.f84 := ⟨Tryz.func84, by decide +kernel, rfl⟩
theorem fb85 : Body Tryz.prog 85 Tryz.f85 := ⟨Tryz.func85, by decide +kernel, rfl⟩
theorem fb86 : Body Tryz.prog 86 Tryz.f86 := ⟨Tryz.func86, by decide +kernel, rfl⟩
theorem fb87 : Body Tryz.prog 87 Tryz.f87 := ⟨Tryz.func87, by decide +kernel, rfl⟩
theorem fb88 : Body Tryz.prog 88 Tryz.f88 := ⟨Tryz.func88, by decide +kernel, rfl⟩
theorem fb89 : Body Tryz.prog 89 Tryz.f89 := ⟨Tryz.func89, by decide +kernel, rfl⟩
theorem fb90 : Body Tryz.prog 90 Tryz.f90 := ⟨Tryz.func90, by decide +kernel, rfl⟩
theorem fb91 : Body Tryz.prog 91 Tryz.f91 := ⟨Tryz.func91, by decide +kernel, rfl⟩
theorem fb92 : Body Tryz.prog 92 Tryz.f92 := ⟨Tryz.func92, by decide +kernel, rfl⟩
theorem fb93 : Body Tryz.prog 93 Tryz.f93 := ⟨Tryz.func93, by decide +kernel, rfl⟩
theorem fb94 : Body Tryz.prog 94 Tryz.f94 := ⟨Tryz.func94, by decide +kernel, rfl⟩
theorem fb96 : Body Tryz.prog 96 Tryz.f96 := ⟨Tryz.func96, by decide +kernel, rfl⟩
theorem fb97 : Body Tryz.prog 97 Tryz.f97 := ⟨Tryz.func97, by decide +kernel, rfl⟩
theorem fb98 : Body Tryz.prog 98 Tryz.f98 := ⟨Tryz.func98, by decide +kernel, rfl⟩
theorem fb99 : Body Tryz.prog 99 Tryz.f99 := ⟨Tryz.func99, by decide +kernel, rfl⟩
theorem fb100 : Body Tryz.prog 100 Tryz.f100 := ⟨Tryz.func100, by decide +kernel, rfl⟩
theorem fb101 : Body Tryz.prog 101 Tryz.f101 := ⟨Tryz.func101, by decide +kernel, rfl⟩
theorem fb102 : Body Tryz.prog 102 Tryz.f102 := ⟨Tryz.func102, by decide +kernel, rfl⟩
theorem fb103 : Body Tryz.prog 103 Tryz.f103 := ⟨Tryz.func103, by decide +kernel, rfl⟩
theorem fb104 : Body Tryz.prog 104 Tryz.f104 := ⟨Tryz.func104, by decide +kernel, rfl⟩
theorem fb105 : Body Tryz.prog 105 Tryz.f105 := ⟨Tryz.func105, by decide +kernel, rfl⟩
theorem fb106 : Body Tryz.prog 106 Tryz.f106 := ⟨Tryz.func106, by decide +kernel, rfl⟩
theorem fb107 : Body Tryz.prog 107 Tryz.f107 := ⟨Tryz.func107, by decide +kernel, rfl⟩
theorem fb108 : Body Tryz.prog 108 Tryz.f108 := ⟨Tryz.func108, by decide +kernel, rfl⟩
theorem fb109 : Body Tryz.prog 109 Tryz.f109 := ⟨Tryz.func109, by decide +kernel, rfl⟩
theorem fb110 : Body Tryz.prog 110 Tryz.f110 := ⟨Tryz.func110, by decide +kernel, rfl⟩
theorem fb116 : Body Tryz.prog 116 Tryz.f116 := ⟨Tryz.func116, by decide +kernel, rfl⟩
theorem fb117 : Body Tryz.prog 117 Tryz.f117 := ⟨Tryz.func117, by decide +kernel, rfl⟩
theorem fb118 : Body Tryz.prog 118 Tryz.f118 := ⟨Tryz.func118, by decide +kernel, rfl⟩
theorem fb120 : Body Tryz.prog 120 Tryz.f120 := ⟨Tryz.func120, by decide +kernel, rfl⟩
theorem fb121 : Body Tryz.prog 121 Tryz.f121 := ⟨Tryz.func121, by decide +kernel, rfl⟩
theorem fb122 : Body Tryz.prog 122 Tryz.f122 := ⟨Tryz.func122, by decide +kernel, rfl⟩
theorem fb123 : Body Tryz.prog 123 Tryz.f123 := ⟨Tryz.func123, by decide +kernel, rfl⟩
theorem fb128 : Body Tryz.prog 128 Tryz.f128 := ⟨Tryz.func128, by decide +kernel, rfl⟩
theorem fb129 : Body Tryz.prog 129 Tryz.f129 := ⟨Tryz.func129, by decide +kernel, rfl⟩
theorem fb132 : Body Tryz.prog 132 Tryz.f132 := ⟨Tryz.func132, by decide +kernel, rfl⟩
theorem fb150 : Body Tryz.prog 150 Tryz.f150 := ⟨Tryz.func150, by decide +kernel, rfl⟩
theorem fb151 : Body Tryz.prog 151 Tryz.f151 := ⟨Tryz.func151, by decide +kernel, rfl⟩
theorem fb153 : Body Tryz.prog 153 Tryz.f153 := ⟨Tryz.func153, by decide +kernel, rfl⟩
theorem fb154 : Body Tryz.prog 154 Tryz.f154 := ⟨Tryz.func154, by decide +kernel, rfl⟩
end Go.Sp.TryzT
