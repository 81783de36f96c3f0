/- What the program says of its types, and that its functions have bodies. -/
import Derived.Test.YtcclagdjpoimaaaDoorProg
import Derived.Test.YtcclagdjpoimaaaDoorRules
set_option maxRecDepth 100000
namespace Go.Sp.TrydT
open Go.Proofs Go.Sp
theorem mixed : Tryd.prog.follows .mixedOrders = true := by kernel_rfl
theorem ag3 : tyAgg Tryd.prog 3 = some false := by kernel_rfl
theorem sz3 : tySize Tryd.prog 3 = some 1 := by kernel_rfl
theorem in3 : tyInt Tryd.prog 3 = some .i64 := by kernel_rfl
theorem ze3 : tyCells Tryd.prog 3 = some ([.int .i64 (0)]) := by kernel_rfl
theorem ag4 : tyAgg Tryd.prog 4 = some false := by kernel_rfl
theorem bo4 : tyBool Tryd.prog 4 = true := by kernel_rfl
theorem ag5 : tyAgg Tryd.prog 5 = some false := by kernel_rfl
theorem sz5 : tySize Tryd.prog 5 = some 1 := by kernel_rfl
theorem in5 : tyInt Tryd.prog 5 = some .u8 := by kernel_rfl
theorem ze5 : tyCells Tryd.prog 5 = some ([.int .u8 (0)]) := by kernel_rfl
theorem ag22 : tyAgg Tryd.prog 22 = some false := by kernel_rfl
theorem sz22 : tySize Tryd.prog 22 = some 1 := by kernel_rfl
theorem sl22 : tySlice Tryd.prog 22 = some 47 := by kernel_rfl
theorem ze22 : tyCells Tryd.prog 22 = some ([.slice none 0 0]) := by kernel_rfl
theorem ag23 : tyAgg Tryd.prog 23 = some false := by kernel_rfl
theorem sz23 : tySize Tryd.prog 23 = some 1 := by kernel_rfl
theorem pt23 : tyPtr Tryd.prog 23 = some 106 := by kernel_rfl
theorem sl28 : tySlice Tryd.prog 28 = some 52 := by kernel_rfl
theorem sl30 : tySlice Tryd.prog 30 = some 50 := by kernel_rfl
theorem pt36 : tyPtr Tryd.prog 36 = some 83 := by kernel_rfl
theorem ag44 : tyAgg Tryd.prog 44 = some true := by kernel_rfl
theorem sz44 : tySize Tryd.prog 44 = some 32 := by kernel_rfl
theorem ar44 : tyArray Tryd.prog 44 = some (32, 5) := by kernel_rfl
theorem ze44 : tyCells Tryd.prog 44 = some (kc (List.replicate 32 0)) := by kernel_rfl
theorem ag45 : tyAgg Tryd.prog 45 = some false := by kernel_rfl
theorem sz45 : tySize Tryd.prog 45 = some 1 := by kernel_rfl
theorem sl45 : tySlice Tryd.prog 45 = some 5 := by kernel_rfl
theorem ze45 : tyCells Tryd.prog 45 = some ([.slice none 0 0]) := by kernel_rfl
theorem ag47 : tyAgg Tryd.prog 47 = some true := by kernel_rfl
theorem sz47 : tySize Tryd.prog 47 = some 33 := by kernel_rfl
theorem fd47_0 : tyField Tryd.prog 47 0 = some (0, 44, 32) := by kernel_rfl
theorem fd47_1 : tyField Tryd.prog 47 1 = some (32, 45, 1) := by kernel_rfl
theorem ze47 : tyCells Tryd.prog 47 = some ((kc (List.replicate 32 0) ++ ([.slice none 0 0]))) := by kernel_rfl
theorem ag50 : tyAgg Tryd.prog 50 = some true := by kernel_rfl
theorem sz50 : tySize Tryd.prog 50 = some 34 := by kernel_rfl
theorem fd50_0 : tyField Tryd.prog 50 0 = some (0, 44, 32) := by kernel_rfl
theorem fd50_1 : tyField Tryd.prog 50 1 = some (32, 45, 1) := by kernel_rfl
theorem fd50_2 : tyField Tryd.prog 50 2 = some (33, 4, 1) := by kernel_rfl
theorem ze50 : tyCells Tryd.prog 50 = some ((kc (List.replicate 32 0) ++ ([.slice none 0 0] ++ ([.bool false])))) := by kernel_rfl
theorem sz52 : tySize Tryd.prog 52 = some 34 := by kernel_rfl
theorem fd52_0 : tyField Tryd.prog 52 0 = some (0, 44, 32) := by kernel_rfl
theorem fd52_1 : tyField Tryd.prog 52 1 = some (32, 45, 1) := by kernel_rfl
theorem fd52_2 : tyField Tryd.prog 52 2 = some (33, 4, 1) := by kernel_rfl
theorem ze52 : tyCells Tryd.prog 52 = some ((kc (List.replicate 32 0) ++ ([.slice none 0 0] ++ ([.bool false])))) := by kernel_rfl
theorem ag56 : tyAgg Tryd.prog 56 = some false := by kernel_rfl
theorem sl56 : tySlice Tryd.prog 56 = some 44 := by kernel_rfl
theorem ag68 : tyAgg Tryd.prog 68 = some true := by kernel_rfl
theorem sz68 : tySize Tryd.prog 68 = some 2 := by kernel_rfl
theorem ar68 : tyArray Tryd.prog 68 = some (2, 23) := by kernel_rfl
theorem ze68 : tyCells Tryd.prog 68 = some (List.replicate 2 (.pointer none)) := by kernel_rfl
theorem ag69 : tyAgg Tryd.prog 69 = some true := by kernel_rfl
theorem sz69 : tySize Tryd.prog 69 = some 32 := by kernel_rfl
theorem ar69 : tyArray Tryd.prog 69 = some (32, 5) := by kernel_rfl
theorem ze69 : tyCells Tryd.prog 69 = some (kc (List.replicate 32 0)) := by kernel_rfl
theorem ar70 : tyArray Tryd.prog 70 = some (2, 69) := by kernel_rfl
theorem ze70 : tyCells Tryd.prog 70 = some ((kc (List.replicate 32 0) ++ (kc (List.replicate 32 0)))) := by kernel_rfl
theorem ag72 : tyAgg Tryd.prog 72 = some true := by kernel_rfl
theorem sz72 : tySize Tryd.prog 72 = some 67 := by kernel_rfl
theorem fd72_0 : tyField Tryd.prog 72 0 = some (0, 68, 2) := by kernel_rfl
theorem fd72_1 : tyField Tryd.prog 72 1 = some (2, 70, 64) := by kernel_rfl
theorem fd72_2 : tyField Tryd.prog 72 2 = some (66, 3, 1) := by kernel_rfl
theorem ze72 : tyCells Tryd.prog 72 = some ((List.replicate 2 (.pointer none) ++ ((kc (List.replicate 32 0) ++ (kc (List.replicate 32 0))) ++ ([.int .i64 (0)])))) := by kernel_rfl
theorem ag79 : tyAgg Tryd.prog 79 = some false := by kernel_rfl
theorem fd81_0 : tyField Tryd.prog 81 0 = some (0, 3, 1) := by kernel_rfl
theorem ze81 : tyCells Tryd.prog 81 = some ([.int .i64 (0)]) := by kernel_rfl
theorem fd83_0 : tyField Tryd.prog 83 0 = some (0, 79, 1) := by kernel_rfl
theorem fd83_1 : tyField Tryd.prog 83 1 = some (1, 3, 1) := by kernel_rfl
theorem ze83 : tyCells Tryd.prog 83 = some ([.pointer none, .int .i64 (0)]) := by kernel_rfl
theorem ag87 : tyAgg Tryd.prog 87 = some true := by kernel_rfl
theorem sz87 : tySize Tryd.prog 87 = some 64 := by kernel_rfl
theorem fd87_0 : tyField Tryd.prog 87 0 = some (0, 44, 32) := by kernel_rfl
theorem fd87_1 : tyField Tryd.prog 87 1 = some (32, 69, 32) := by kernel_rfl
theorem ze87 : tyCells Tryd.prog 87 = some ((kc (List.replicate 32 0) ++ (kc (List.replicate 32 0)))) := by kernel_rfl
theorem ag91 : tyAgg Tryd.prog 91 = some true := by kernel_rfl
theorem sz91 : tySize Tryd.prog 91 = some 65 := by kernel_rfl
theorem fd91_0 : tyField Tryd.prog 91 0 = some (0, 87, 64) := by kernel_rfl
theorem fd91_1 : tyField Tryd.prog 91 1 = some (64, 45, 1) := by kernel_rfl
theorem ze91 : tyCells Tryd.prog 91 = some (((kc (List.replicate 32 0) ++ (kc (List.replicate 32 0))) ++ ([.slice none 0 0]))) := by kernel_rfl
theorem ag104 : tyAgg Tryd.prog 104 = some false := by kernel_rfl
theorem sz106 : tySize Tryd.prog 106 = some 33 := by kernel_rfl
theorem fd106_0 : tyField Tryd.prog 106 0 = some (0, 104, 1) := by kernel_rfl
theorem fd106_1 : tyField Tryd.prog 106 1 = some (1, 69, 32) := by kernel_rfl
theorem ze106 : tyCells Tryd.prog 106 = some (([.nilIface] ++ (kc (List.replicate 32 0)))) := by kernel_rfl
theorem in122 : tyInt Tryd.prog 122 = some .u64 := by kernel_rfl
theorem ag125 : tyAgg Tryd.prog 125 = some false := by kernel_rfl
theorem sz125 : tySize Tryd.prog 125 = some 1 := by kernel_rfl
theorem in125 : tyInt Tryd.prog 125 = some .u32 := by kernel_rfl
theorem ar126 : tyArray Tryd.prog 126 = some (8, 125) := by kernel_rfl
theorem ze126 : tyCells Tryd.prog 126 = some (kw (List.replicate 8 0)) := by kernel_rfl
theorem ag127 : tyAgg Tryd.prog 127 = some true := by kernel_rfl
theorem sz127 : tySize Tryd.prog 127 = some 8 := by kernel_rfl
theorem ar127 : tyArray Tryd.prog 127 = some (8, 125) := by kernel_rfl
theorem ze127 : tyCells Tryd.prog 127 = some (kw (List.replicate 8 0)) := by kernel_rfl
theorem ag129 : tyAgg Tryd.prog 129 = some false := by kernel_rfl
theorem sz129 : tySize Tryd.prog 129 = some 1 := by kernel_rfl
theorem ze129 : tyCells Tryd.prog 129 = some ([.nilFunc]) := by kernel_rfl
theorem sl133 : tySlice Tryd.prog 133 = some 45 := by kernel_rfl
theorem ar136 : tyArray Tryd.prog 136 = some (16, 125) := by kernel_rfl
theorem ze136 : tyCells Tryd.prog 136 = some (kw (List.replicate 16 0)) := by kernel_rfl
theorem ag137 : tyAgg Tryd.prog 137 = some true := by kernel_rfl
theorem sz137 : tySize Tryd.prog 137 = some 64 := by kernel_rfl
theorem ar137 : tyArray Tryd.prog 137 = some (64, 125) := by kernel_rfl
theorem in141 : tyInt Tryd.prog 141 = some .u64 := by kernel_rfl
theorem sl144 : tySlice Tryd.prog 144 = some 3 := by kernel_rfl
theorem st22 : SlTy Tryd.prog 22 47 ((kc (List.replicate 32 0) ++ ([.slice none 0 0]))) 56 := ⟨sl22, ze47, by first | rfl | exact sz47, by kernel_rfl⟩
theorem st28 : SlTy Tryd.prog 28 52 ((kc (List.replicate 32 0) ++ ([.slice none 0 0] ++ ([.bool false])))) 64 := ⟨sl28, ze52, by first | rfl | exact sz52, by kernel_rfl⟩
theorem st30 : SlTy Tryd.prog 30 50 ((kc (List.replicate 32 0) ++ ([.slice none 0 0] ++ ([.bool false])))) 64 := ⟨sl30, ze50, by first | rfl | exact sz50, by kernel_rfl⟩
theorem st45 : SlTy Tryd.prog 45 5 ([.int .u8 (0)]) 1 := ⟨sl45, ze5, by first | rfl | exact sz5, by kernel_rfl⟩
theorem st56 : SlTy Tryd.prog 56 44 (kc (List.replicate 32 0)) 32 := ⟨sl56, ze44, by first | rfl | exact sz44, by kernel_rfl⟩
theorem st133 : SlTy Tryd.prog 133 45 ([.slice none 0 0]) 24 := ⟨sl133, ze45, by first | rfl | exact sz45, by kernel_rfl⟩
theorem st144 : SlTy Tryd.prog 144 3 ([.int .i64 (0)]) 8 := ⟨sl144, ze3, by first | rfl | exact sz3, by kernel_rfl⟩
theorem pl47 : tyPlaces Tryd.prog 47 = some [(0, 32), (32, 1)] := by kernel_rfl
theorem pl50 : tyPlaces Tryd.prog 50 = some [(0, 32), (32, 1), (33, 1)] := by kernel_rfl
theorem pl52 : tyPlaces Tryd.prog 52 = some [(0, 32), (32, 1), (33, 1)] := by kernel_rfl
theorem pl72 : tyPlaces Tryd.prog 72 = some [(0, 2), (2, 64), (66, 1)] := by kernel_rfl
theorem cn72 : tyConc Tryd.prog 72 = true := by kernel_rfl
theorem zz72 : tyZero Tryd.prog 72 = some (.agg #[.pointer none, .pointer none, .int .u8 (0), .int .u8 (0), .int .u8 (0), .int .u8 (0), .int .u8 (0), .int .u8 (0), .int .u8 (0), .int .u8 (0), .int .u8 (0), .int .u8 (0), .int .u8 (0), .int .u8 (0), .int .u8 (0), .int .u8 (0), .int .u8 (0), .int .u8 (0), .int .u8 (0), .int .u8 (0), .int .u8 (0), .int .u8 (0), .int .u8 (0), .int .u8 (0), .int .u8 (0), .int .u8 (0), .int .u8 (0), .int .u8 (0), .int .u8 (0), .int .u8 (0), .int .u8 (0), .int .u8 (0), .int .u8 (0), .int .u8 (0), .int .u8 (0), .int .u8 (0), .int .u8 (0), .int .u8 (0), .int .u8 (0), .int .u8 (0), .int .u8 (0), .int .u8 (0), .int .u8 (0), .int .u8 (0), .int .u8 (0), .int .u8 (0), .int .u8 (0), .int .u8 (0), .int .u8 (0), .int .u8 (0), .int .u8 (0), .int .u8 (0), .int .u8 (0), .int .u8 (0), .int .u8 (0), .int .u8 (0), .int .u8 (0), .int .u8 (0), .int .u8 (0), .int .u8 (0), .int .u8 (0), .int .u8 (0), .int .u8 (0), .int .u8 (0), .int .u8 (0), .int .u8 (0), .int .i64 (0)]) := by kernel_rfl
theorem pl81 : tyPlaces Tryd.prog 81 = some [(0, 1)] := by kernel_rfl
theorem pl83 : tyPlaces Tryd.prog 83 = some [(0, 1), (1, 1)] := by kernel_rfl
theorem pl87 : tyPlaces Tryd.prog 87 = some [(0, 32), (32, 32)] := by kernel_rfl
theorem pl91 : tyPlaces Tryd.prog 91 = some [(0, 64), (64, 1)] := by kernel_rfl
theorem cn91 : tyConc Tryd.prog 91 = true := by kernel_rfl
theorem zz91 : tyZero Tryd.prog 91 = some (.agg #[.int .u8 (0), .int .u8 (0), .int .u8 (0), .int .u8 (0), .int .u8 (0), .int .u8 (0), .int .u8 (0), .int .u8 (0), .int .u8 (0), .int .u8 (0), .int .u8 (0), .int .u8 (0), .int .u8 (0), .int .u8 (0), .int .u8 (0), .int .u8 (0), .int .u8 (0), .int .u8 (0), .int .u8 (0), .int .u8 (0), .int .u8 (0), .int .u8 (0), .int .u8 (0), .int .u8 (0), .int .u8 (0), .int .u8 (0), .int .u8 (0), .int .u8 (0), .int .u8 (0), .int .u8 (0), .int .u8 (0), .int .u8 (0), .int .u8 (0), .int .u8 (0), .int .u8 (0), .int .u8 (0), .int .u8 (0), .int .u8 (0), .int .u8 (0), .int .u8 (0), .int .u8 (0), .int .u8 (0), .int .u8 (0), .int .u8 (0), .int .u8 (0), .int .u8 (0), .int .u8 (0), .int .u8 (0), .int .u8 (0), .int .u8 (0), .int .u8 (0), .int .u8 (0), .int .u8 (0), .int .u8 (0), .int .u8 (0), .int .u8 (0), .int .u8 (0), .int .u8 (0), .int .u8 (0), .int .u8 (0), .int .u8 (0), .int .u8 (0), .int .u8 (0), .int .u8 (0), .slice none 0 0]) := by kernel_rfl
theorem pl106 : tyPlaces Tryd.prog 106 = some [(0, 1), (1, 32)] := by kernel_rfl
theorem fb4 : Body Tryd.prog 4 Tryd.f4 := ⟨Tryd.func4, by decide +kernel, rfl⟩
theorem fb5 : Body Tryd.prog 5 Tryd.f5 := ⟨Tryd.func5, by decide +kernel, rfl⟩
theorem fb6 : Body Tryd.prog 6 Tryd.f6 := ⟨Tryd.func6, by decide +kernel, rfl⟩
theorem fb7 : Body Tryd.prog 7 Tryd.f7 := ⟨Tryd.func7, by decide +kernel, rfl⟩
theorem fb8 : Body Tryd.prog 8 Tryd.f8 := ⟨Tryd.func8, by decide +kernel, rfl⟩
theorem fb9 : Body Tryd.prog 9 Tryd.f9 := ⟨Tryd.func9, by decide +kernel, rfl⟩
theorem fb10 : Body Tryd.prog 10 Tryd.f10 := ⟨Tryd.func10, by decide +kernel, rfl⟩
theorem fb11 : Body Tryd.prog 11 Tryd.f11 := ⟨Tryd.func11, by decide +kernel, rfl⟩
theorem fb12 : Body Tryd.prog 12 Tryd.f12 := ⟨Tryd.func12, by decide +kernel, rfl⟩
theorem fb13 : Body Tryd.prog 13 Tryd.f13 := ⟨Tryd.func13, by decide +kernel, rfl⟩
theorem fb14 : Body Tryd.prog 14 Tryd.f14 := ⟨Tryd.func14, by decide +kernel, rfl⟩
theorem fb15 : Body Tryd.prog 15 Tryd.f15 := ⟨Tryd.func15, by decide +kernel, rfl⟩
theorem fb16 : Body Tryd.prog 16 Tryd.f16 := ⟨Tryd.func16, by decide +kernel, rfl⟩
theorem fb17 : Body Tryd.prog 17 Tryd.f17 := ⟨Tryd.func17, by decide +kernel, rfl⟩
theorem fb18 : Body Tryd.prog 18 Tryd.f18 := ⟨Tryd.func18, by decide +kernel, rfl⟩
theorem fb19 : Body Tryd.prog 19 Tryd.f19 := ⟨Tryd.func19, by decide +kernel, rfl⟩
theorem fb20 : Body Tryd.prog 20 Tryd.f20 := ⟨Tryd.func20, by decide +kernel, rfl⟩
theorem fb21 : Body Tryd.prog 21 Tryd.f21 := ⟨Tryd.func21, by decide +kernel, rfl⟩
theorem fb22 : Body Tryd.prog 22 Tryd.f22 := ⟨Tryd.func22, by decide +kernel, rfl⟩
theorem fb23 : Body Tryd.prog 23 Tryd.f23 := ⟨Tryd.func23, by decide +kernel, rfl⟩
theorem fb24 : Body Tryd.prog 24 Tryd.f24 := ⟨Tryd.func24, by decide +kernel, rfl⟩
theorem fb25 : Body Tryd.prog 25 Tryd.f25 := ⟨Tryd.func25, by decide +kernel, rfl⟩
theorem fb26 : Body Tryd.prog 26 Tryd.f26 := ⟨Tryd.func26, by decide +kernel, rfl⟩
theorem fb27 : Body Tryd.prog 27 Tryd.f27 := ⟨Tryd.func27, by decide +kernel, rfl⟩
theorem fb28 : Body Tryd.prog 28 Tryd.f28 := ⟨Tryd.func28, by decide +kernel, rfl⟩
theorem fb29 : Body Tryd.prog 29 Tryd.f29 := ⟨Tryd.func29, by decide +kernel, rfl⟩
theorem fb30 : Body Tryd.prog 30 Tryd.f30 := ⟨Tryd.func30, by decide +kernel, rfl⟩
theorem fb31 : Body Tryd.prog 31 Tryd.f31 := ⟨Tryd.func31, by decide +kernel, rfl⟩
theorem fb32 : Body Tryd.prog 32 Tryd.f32 := ⟨Tryd.func32, by decide +kernel, rfl⟩
theorem fb33 : Body Tryd.prog 33 Tryd.f33 := ⟨Tryd.func33, by decide +kernel, rfl⟩
theorem fb34 : Body Tryd.prog 34 Tryd.f34 := ⟨Tryd.func34, by decide +kernel, rfl⟩
theorem fb35 : Body Tryd.prog 35 Tryd.f35 := ⟨Tryd.func35, by decide +kernel, rfl⟩
theorem fb36 : Body Tryd.prog 36 Tryd.f36 := ⟨Tryd.func36, by decide +kernel, rfl⟩
theorem fb37 : Body Tryd.prog 37 Tryd.f37 := ⟨Tryd.func37, by decide +kernel, rfl⟩
theorem fb38 : Body Tryd.prog 38 Tryd.f38 := ⟨Tryd.func38, by decide +kernel, rfl⟩
theorem fb39 : Body Tryd.prog 39 Tryd.f39 := ⟨Tryd.func39, by decide +kernel, rfl⟩
theorem fb40 : Body Tryd.prog 40 Tryd.f40 := ⟨Tryd.func40, by decide +kernel, rfl⟩
theorem fb41 : Body Tryd.prog 41 Tryd.f41 := ⟨Tryd.func41, by decide +kernel, rfl⟩
theorem fb42 : Body Tryd.prog 42 Tryd.f42 := ⟨Tryd.func42, by decide +kernel, rfl⟩
theorem fb43 : Body Tryd.prog 43 Tryd.f43 := ⟨Tryd.func43, by decide +kernel, rfl⟩
theorem fb44 : Body Tryd.prog 44 Tryd.f44 := ⟨Tryd.func44, by decide +kernel, rfl⟩
theorem fb45 : Body Tryd.prog 45 Tryd.f45 := ⟨Tryd.func45, by decide +kernel, rfl⟩
theorem fb46 : Body Tryd.prog 46 Tryd.f46 := ⟨Tryd.func46, by decide +kernel, rfl⟩
theorem fb47 : Body Tryd.prog 47 Tryd.f47 := ⟨Tryd.func47, by decide +kernel, rfl⟩
theorem fb48 : Body Tryd.prog 48 Tryd.f48 := ⟨Tryd.func48, by decide +kernel, rfl⟩
theorem fb49 : Body Tryd.prog 49 Tryd.f49 := ⟨Tryd.func49, by decide +kernel, rfl⟩
theorem fb50 : Body Tryd.prog 50 Tryd.f50 := ⟨Tryd.func50, by decide +kernel, rfl⟩
theorem fb51 : Body Tryd.prog 51 Tryd.f51 := ⟨Tryd.func51, by decide +kernel, rfl⟩
theorem fb52 : Body Tryd.prog 52 Tryd.f52 := ⟨Tryd.func52, by decide +kernel, rfl⟩
theorem fb53 : Body Tryd.prog 53 Tryd.f53 := ⟨Tryd.func53, by decide +kernel, rfl⟩
theorem fb54 : Body Tryd.prog 54 Tryd.f54 := ⟨Tryd.func54, by decide +kernel, rfl⟩
theorem fb55 : Body Tryd.prog 55 Tryd.f55 := ⟨Tryd.func55, by decide +kernel, rfl⟩
theorem fb56 : Body Tryd.prog 56 Tryd.f56 := ⟨Tryd.func56, by decide +kernel, rfl⟩
theorem fb57 : Body Tryd.prog 57 Tryd.f57 := ⟨Tryd.func57, by decide +kernel, rfl⟩
theorem fb58 : Body Tryd.prog 58 Tryd.f58 := ⟨Tryd.func58, by decide +kernel, rfl⟩
theorem fb59 : Body Tryd.prog 59 Tryd.f59 := ⟨Tryd.func59, by decide +kernel, rfl⟩
theorem fb60 : Body Tryd.prog 60 Tryd.f60 := ⟨Tryd.func60, by decide +kernel, rfl⟩
theorem fb61 : Body Tryd.prog 61 Tryd.f61 := ⟨Tryd.func61, by decide +kernel, rfl⟩
theorem fb62 : Body Tryd.prog 62 Tryd.f62 := ⟨Tryd.func62, by decide +kernel, rfl⟩
theorem fb63 : Body Tryd.prog 63 Tryd.f63 := ⟨Tryd.func63, by decide +kernel, rfl⟩
theorem fb64 : Body Tryd.prog 64 Tryd.f64 := ⟨Tryd.func64, by decide +kernel, rfl⟩
theorem fb65 : Body Tryd.prog 65 Tryd.f65 := ⟨Tryd.func65, by decide +kernel, rfl⟩
theorem fb66 : Body Tryd.prog 66 Tryd.f66 := ⟨Tryd.func66, by decide +kernel, rfl⟩
theorem fb67 : Body Tryd.prog 67 Tryd.f67 := ⟨Tryd.func67, by decide +kernel, rfl⟩
theorem fb68 : Body Tryd.prog 68 Tryd.f68 := ⟨Tryd.func68, by decide +kernel, rfl⟩
theorem fb70 : Body Tryd.prog 70 Tryd.f70 := ⟨Tryd.func70, by decide +kernel, rfl⟩
theorem fb71 : Body Tryd.prog 71 Tryd.f71 := ⟨Tryd.func71, by decide +kernel, rfl⟩
theorem fb72 : Body Tryd.prog 72 Tryd.f72 := ⟨Tryd.func72, by decide +kernel, rfl⟩
theorem fb75 : Body Tryd.prog 75 Tryd.f75 := ⟨Tryd.func75, by decide +kernel, rfl⟩
theorem fb76 : Body Tryd.prog 76 Tryd.f76 := ⟨Tryd.func76, by decide +kernel, rfl⟩
theorem fb77 : Body Tryd.prog 77 Tryd.f77 := ⟨Tryd.func77, by decide +kernel, rfl⟩
theorem fb78 : Body Tryd.prog 78 Tryd.f78 := ⟨Tryd.func78, by decide +kernel, rfl⟩
theorem fb79 : Body Tryd.prog 79 Tryd.f79 := ⟨Tryd.func79, by decide +kernel, rfl⟩
theorem fb81 : Body Tryd.prog 81 Tryd.f81 := ⟨Tryd.func81, by decide +kernel, rfl⟩
theorem fb82 : Body Tryd.prog 82 Tryd.f82 := ⟨Tryd.func82, by decide +kernel, rfl⟩
theorem fb83 : Body Tryd.prog 83 Tryd.f83 := ⟨Tryd.func83, by decide +kernel, rfl⟩
theorem fb84 : Body Tryd.prog 84 Tryd.f84 := ⟨Tryd.func84, by decide +kernel, rfl⟩
theorem fb86 : Body Tryd.prog 86 Tryd.f86 := ⟨Tryd.func86, by decide +kernel, rfl⟩
theorem fb104 : Body Tryd.prog 104 Tryd.f104 := ⟨Tryd.func104, by decide +kernel, rfl⟩
theorem fb105 : Body Tryd.prog 105 Tryd.f105 := ⟨Tryd.func105, by decide +kernel, rfl⟩
theorem fb107 : Body Tryd.prog 107 Tryd.f107 := ⟨Tryd.func107, by decide +kernel, rfl⟩
theorem fb108 : Body Tryd.prog 108 Tryd.f108 := ⟨Tryd.func108, by decide +kernel, rfl⟩
end Go.Sp.TrydT
