/- What the program says of its types, and that its functions have bodies. -/
import Derived.Test.YtloecpgafphkeaaProg
import Derived.Test.YtloecpgafphkeaaMade
set_option maxRecDepth 100000
namespace Go.Sp.TryT
open Go.Proofs Go.Sp
theorem mixed : Try.prog.follows .mixedOrders = true := by kernel_rfl
theorem ag0 : tyAgg Try.prog 0 = some false := by kernel_rfl
theorem sz0 : tySize Try.prog 0 = some 1 := by kernel_rfl
theorem ag1 : tyAgg Try.prog 1 = some false := by kernel_rfl
theorem sz1 : tySize Try.prog 1 = some 1 := by kernel_rfl
theorem ze1 : tyCells Try.prog 1 = some ([.nilFunc]) := by kernel_rfl
theorem ag2 : tyAgg Try.prog 2 = some false := by kernel_rfl
theorem sz2 : tySize Try.prog 2 = some 1 := by kernel_rfl
theorem in2 : tyInt Try.prog 2 = some .i64 := by kernel_rfl
theorem ze2 : tyCells Try.prog 2 = some ([.int .i64 (0)]) := by kernel_rfl
theorem ag3 : tyAgg Try.prog 3 = some false := by kernel_rfl
theorem sz3 : tySize Try.prog 3 = some 1 := by kernel_rfl
theorem in3 : tyInt Try.prog 3 = some .i64 := by kernel_rfl
theorem ze3 : tyCells Try.prog 3 = some ([.int .i64 (0)]) := by kernel_rfl
theorem ag4 : tyAgg Try.prog 4 = some false := by kernel_rfl
theorem sz4 : tySize Try.prog 4 = some 1 := by kernel_rfl
theorem bo4 : tyBool Try.prog 4 = true := by kernel_rfl
theorem ze4 : tyCells Try.prog 4 = some ([.bool false]) := by kernel_rfl
theorem ag5 : tyAgg Try.prog 5 = some false := by kernel_rfl
theorem sz5 : tySize Try.prog 5 = some 1 := by kernel_rfl
theorem in5 : tyInt Try.prog 5 = some .u8 := by kernel_rfl
theorem ze5 : tyCells Try.prog 5 = some ([.int .u8 (0)]) := by kernel_rfl
theorem ag6 : tyAgg Try.prog 6 = some false := by kernel_rfl
theorem sz6 : tySize Try.prog 6 = some 1 := by kernel_rfl
theorem in6 : tyInt Try.prog 6 = some .u8 := by kernel_rfl
theorem ze6 : tyCells Try.prog 6 = some ([.int .u8 (0)]) := by kernel_rfl
theorem ag7 : tyAgg Try.prog 7 = some true := by kernel_rfl
theorem sz7 : tySize Try.prog 7 = some 4 := by kernel_rfl
theorem fd7_0 : tyField Try.prog 7 0 = some (0, 2, 1) := by kernel_rfl
theorem fd7_1 : tyField Try.prog 7 1 = some (1, 3, 1) := by kernel_rfl
theorem fd7_2 : tyField Try.prog 7 2 = some (2, 4, 1) := by kernel_rfl
theorem fd7_3 : tyField Try.prog 7 3 = some (3, 6, 1) := by kernel_rfl
theorem ze7 : tyCells Try.prog 7 = some ([.int .i64 (0), .int .i64 (0), .bool false, .int .u8 (0)]) := by kernel_rfl
theorem ag8 : tyAgg Try.prog 8 = some true := by kernel_rfl
theorem sz8 : tySize Try.prog 8 = some 4 := by kernel_rfl
theorem fd8_0 : tyField Try.prog 8 0 = some (0, 2, 1) := by kernel_rfl
theorem fd8_1 : tyField Try.prog 8 1 = some (1, 3, 1) := by kernel_rfl
theorem fd8_2 : tyField Try.prog 8 2 = some (2, 4, 1) := by kernel_rfl
theorem fd8_3 : tyField Try.prog 8 3 = some (3, 6, 1) := by kernel_rfl
theorem ze8 : tyCells Try.prog 8 = some ([.int .i64 (0), .int .i64 (0), .bool false, .int .u8 (0)]) := by kernel_rfl
theorem ag9 : tyAgg Try.prog 9 = some false := by kernel_rfl
theorem sz9 : tySize Try.prog 9 = some 1 := by kernel_rfl
theorem ze9 : tyCells Try.prog 9 = some ([.string ⟨#[]⟩]) := by kernel_rfl
theorem ag10 : tyAgg Try.prog 10 = some false := by kernel_rfl
theorem sz10 : tySize Try.prog 10 = some 1 := by kernel_rfl
theorem ze10 : tyCells Try.prog 10 = some ([.string ⟨#[]⟩]) := by kernel_rfl
theorem ag11 : tyAgg Try.prog 11 = some false := by kernel_rfl
theorem sz11 : tySize Try.prog 11 = some 1 := by kernel_rfl
theorem ze11 : tyCells Try.prog 11 = some ([.string ⟨#[]⟩]) := by kernel_rfl
theorem ag12 : tyAgg Try.prog 12 = some false := by kernel_rfl
theorem sz12 : tySize Try.prog 12 = some 1 := by kernel_rfl
theorem in12 : tyInt Try.prog 12 = some .u64 := by kernel_rfl
theorem ze12 : tyCells Try.prog 12 = some ([.int .u64 (0)]) := by kernel_rfl
theorem ag13 : tyAgg Try.prog 13 = some true := by kernel_rfl
theorem sz13 : tySize Try.prog 13 = some 2 := by kernel_rfl
theorem fd13_0 : tyField Try.prog 13 0 = some (0, 9, 1) := by kernel_rfl
theorem fd13_1 : tyField Try.prog 13 1 = some (1, 12, 1) := by kernel_rfl
theorem ze13 : tyCells Try.prog 13 = some ([.string ⟨#[]⟩, .int .u64 (0)]) := by kernel_rfl
theorem ag14 : tyAgg Try.prog 14 = some true := by kernel_rfl
theorem sz14 : tySize Try.prog 14 = some 2 := by kernel_rfl
theorem fd14_0 : tyField Try.prog 14 0 = some (0, 9, 1) := by kernel_rfl
theorem fd14_1 : tyField Try.prog 14 1 = some (1, 12, 1) := by kernel_rfl
theorem ze14 : tyCells Try.prog 14 = some ([.string ⟨#[]⟩, .int .u64 (0)]) := by kernel_rfl
theorem ag15 : tyAgg Try.prog 15 = some false := by kernel_rfl
theorem sz15 : tySize Try.prog 15 = some 1 := by kernel_rfl
theorem pt15 : tyPtr Try.prog 15 = some 54 := by kernel_rfl
theorem ze15 : tyCells Try.prog 15 = some ([.pointer none]) := by kernel_rfl
theorem ag16 : tyAgg Try.prog 16 = some false := by kernel_rfl
theorem sz16 : tySize Try.prog 16 = some 1 := by kernel_rfl
theorem pt16 : tyPtr Try.prog 16 = some 57 := by kernel_rfl
theorem ze16 : tyCells Try.prog 16 = some ([.pointer none]) := by kernel_rfl
theorem ag17 : tyAgg Try.prog 17 = some false := by kernel_rfl
theorem sz17 : tySize Try.prog 17 = some 1 := by kernel_rfl
theorem pt17 : tyPtr Try.prog 17 = some 67 := by kernel_rfl
theorem ze17 : tyCells Try.prog 17 = some ([.pointer none]) := by kernel_rfl
theorem ag18 : tyAgg Try.prog 18 = some true := by kernel_rfl
theorem sz18 : tySize Try.prog 18 = some 1 := by kernel_rfl
theorem fd18_0 : tyField Try.prog 18 0 = some (0, 17, 1) := by kernel_rfl
theorem ze18 : tyCells Try.prog 18 = some ([.pointer none]) := by kernel_rfl
theorem ag19 : tyAgg Try.prog 19 = some true := by kernel_rfl
theorem sz19 : tySize Try.prog 19 = some 1 := by kernel_rfl
theorem fd19_0 : tyField Try.prog 19 0 = some (0, 17, 1) := by kernel_rfl
theorem ze19 : tyCells Try.prog 19 = some ([.pointer none]) := by kernel_rfl
theorem ag20 : tyAgg Try.prog 20 = some false := by kernel_rfl
theorem sz20 : tySize Try.prog 20 = some 1 := by kernel_rfl
theorem ze20 : tyCells Try.prog 20 = some ([.nilIface]) := by kernel_rfl
theorem ag21 : tyAgg Try.prog 21 = some false := by kernel_rfl
theorem sz21 : tySize Try.prog 21 = some 1 := by kernel_rfl
theorem in21 : tyInt Try.prog 21 = some .i32 := by kernel_rfl
theorem ze21 : tyCells Try.prog 21 = some ([.int .i32 (0)]) := by kernel_rfl
theorem ag22 : tyAgg Try.prog 22 = some true := by kernel_rfl
theorem sz22 : tySize Try.prog 22 = some 32 := by kernel_rfl
theorem ar22 : tyArray Try.prog 22 = some (32, 5) := by kernel_rfl
theorem ze22 : tyCells Try.prog 22 = some (kc (List.replicate 32 0)) := by kernel_rfl
theorem ag23 : tyAgg Try.prog 23 = some true := by kernel_rfl
theorem sz23 : tySize Try.prog 23 = some 32 := by kernel_rfl
theorem ar23 : tyArray Try.prog 23 = some (32, 5) := by kernel_rfl
theorem ze23 : tyCells Try.prog 23 = some (kc (List.replicate 32 0)) := by kernel_rfl
theorem ag24 : tyAgg Try.prog 24 = some true := by kernel_rfl
theorem sz24 : tySize Try.prog 24 = some 32 := by kernel_rfl
theorem ar24 : tyArray Try.prog 24 = some (32, 5) := by kernel_rfl
theorem ze24 : tyCells Try.prog 24 = some (kc (List.replicate 32 0)) := by kernel_rfl
theorem ag25 : tyAgg Try.prog 25 = some true := by kernel_rfl
theorem sz25 : tySize Try.prog 25 = some 64 := by kernel_rfl
theorem fd25_0 : tyField Try.prog 25 0 = some (0, 23, 32) := by kernel_rfl
theorem fd25_1 : tyField Try.prog 25 1 = some (32, 24, 32) := by kernel_rfl
theorem ze25 : tyCells Try.prog 25 = some ((kc (List.replicate 32 0) ++ (kc (List.replicate 32 0)))) := by kernel_rfl
theorem ag26 : tyAgg Try.prog 26 = some true := by kernel_rfl
theorem sz26 : tySize Try.prog 26 = some 64 := by kernel_rfl
theorem fd26_0 : tyField Try.prog 26 0 = some (0, 23, 32) := by kernel_rfl
theorem fd26_1 : tyField Try.prog 26 1 = some (32, 24, 32) := by kernel_rfl
theorem ze26 : tyCells Try.prog 26 = some ((kc (List.replicate 32 0) ++ (kc (List.replicate 32 0)))) := by kernel_rfl
theorem ag27 : tyAgg Try.prog 27 = some false := by kernel_rfl
theorem sz27 : tySize Try.prog 27 = some 1 := by kernel_rfl
theorem sl27 : tySlice Try.prog 27 = some 5 := by kernel_rfl
theorem ze27 : tyCells Try.prog 27 = some ([.slice none 0 0]) := by kernel_rfl
theorem ag28 : tyAgg Try.prog 28 = some false := by kernel_rfl
theorem sz28 : tySize Try.prog 28 = some 1 := by kernel_rfl
theorem ze28 : tyCells Try.prog 28 = some ([.nilFunc]) := by kernel_rfl
theorem ag29 : tyAgg Try.prog 29 = some false := by kernel_rfl
theorem sz29 : tySize Try.prog 29 = some 1 := by kernel_rfl
theorem ze29 : tyCells Try.prog 29 = some ([.nilFunc]) := by kernel_rfl
theorem ag30 : tyAgg Try.prog 30 = some false := by kernel_rfl
theorem sz30 : tySize Try.prog 30 = some 1 := by kernel_rfl
theorem ze30 : tyCells Try.prog 30 = some ([.nilFunc]) := by kernel_rfl
theorem ag31 : tyAgg Try.prog 31 = some false := by kernel_rfl
theorem sz31 : tySize Try.prog 31 = some 1 := by kernel_rfl
theorem ze31 : tyCells Try.prog 31 = some ([.nilFunc]) := by kernel_rfl
theorem ag32 : tyAgg Try.prog 32 = some false := by kernel_rfl
theorem sz32 : tySize Try.prog 32 = some 1 := by kernel_rfl
theorem ze32 : tyCells Try.prog 32 = some ([.nilFunc]) := by kernel_rfl
theorem ag33 : tyAgg Try.prog 33 = some false := by kernel_rfl
theorem sz33 : tySize Try.prog 33 = some 1 := by kernel_rfl
theorem ze33 : tyCells Try.prog 33 = some ([.nilFunc]) := by kernel_rfl
theorem ag34 : tyAgg Try.prog 34 = some false := by kernel_rfl
theorem sz34 : tySize Try.prog 34 = some 1 := by kernel_rfl
theorem ze34 : tyCells Try.prog 34 = some ([.nilFunc]) := by kernel_rfl
theorem ag35 : tyAgg Try.prog 35 = some false := by kernel_rfl
theorem sz35 : tySize Try.prog 35 = some 1 := by kernel_rfl
theorem ze35 : tyCells Try.prog 35 = some ([.nilFunc]) := by kernel_rfl
theorem ag36 : tyAgg Try.prog 36 = some false := by kernel_rfl
theorem sz36 : tySize Try.prog 36 = some 1 := by kernel_rfl
theorem ze36 : tyCells Try.prog 36 = some ([.nilFunc]) := by kernel_rfl
theorem ag37 : tyAgg Try.prog 37 = some false := by kernel_rfl
theorem sz37 : tySize Try.prog 37 = some 1 := by kernel_rfl
theorem ag38 : tyAgg Try.prog 38 = some false := by kernel_rfl
theorem sz38 : tySize Try.prog 38 = some 1 := by kernel_rfl
theorem ze38 : tyCells Try.prog 38 = some ([.nilFunc]) := by kernel_rfl
theorem ag39 : tyAgg Try.prog 39 = some false := by kernel_rfl
theorem sz39 : tySize Try.prog 39 = some 1 := by kernel_rfl
theorem ag40 : tyAgg Try.prog 40 = some false := by kernel_rfl
theorem sz40 : tySize Try.prog 40 = some 1 := by kernel_rfl
theorem ze40 : tyCells Try.prog 40 = some ([.nilFunc]) := by kernel_rfl
theorem ag41 : tyAgg Try.prog 41 = some false := by kernel_rfl
theorem sz41 : tySize Try.prog 41 = some 1 := by kernel_rfl
theorem ze41 : tyCells Try.prog 41 = some ([.nilFunc]) := by kernel_rfl
theorem ag42 : tyAgg Try.prog 42 = some false := by kernel_rfl
theorem sz42 : tySize Try.prog 42 = some 1 := by kernel_rfl
theorem ze42 : tyCells Try.prog 42 = some ([.nilFunc]) := by kernel_rfl
theorem ag43 : tyAgg Try.prog 43 = some true := by kernel_rfl
theorem sz43 : tySize Try.prog 43 = some 128 := by kernel_rfl
theorem ar43 : tyArray Try.prog 43 = some (2, 26) := by kernel_rfl
theorem ag44 : tyAgg Try.prog 44 = some false := by kernel_rfl
theorem sz44 : tySize Try.prog 44 = some 1 := by kernel_rfl
theorem ze44 : tyCells Try.prog 44 = some ([.nilFunc]) := by kernel_rfl
theorem ag45 : tyAgg Try.prog 45 = some false := by kernel_rfl
theorem sz45 : tySize Try.prog 45 = some 1 := by kernel_rfl
theorem ze45 : tyCells Try.prog 45 = some ([.nilFunc]) := by kernel_rfl
theorem ag46 : tyAgg Try.prog 46 = some false := by kernel_rfl
theorem sz46 : tySize Try.prog 46 = some 1 := by kernel_rfl
theorem ze46 : tyCells Try.prog 46 = some ([.nilFunc]) := by kernel_rfl
theorem ag47 : tyAgg Try.prog 47 = some false := by kernel_rfl
theorem sz47 : tySize Try.prog 47 = some 1 := by kernel_rfl
theorem ag48 : tyAgg Try.prog 48 = some false := by kernel_rfl
theorem sz48 : tySize Try.prog 48 = some 1 := by kernel_rfl
theorem ze48 : tyCells Try.prog 48 = some ([.nilFunc]) := by kernel_rfl
theorem ag49 : tyAgg Try.prog 49 = some false := by kernel_rfl
theorem sz49 : tySize Try.prog 49 = some 1 := by kernel_rfl
theorem sl49 : tySlice Try.prog 49 = some 27 := by kernel_rfl
theorem ze49 : tyCells Try.prog 49 = some ([.slice none 0 0]) := by kernel_rfl
theorem ag50 : tyAgg Try.prog 50 = some false := by kernel_rfl
theorem sz50 : tySize Try.prog 50 = some 1 := by kernel_rfl
theorem ze50 : tyCells Try.prog 50 = some ([.nilFunc]) := by kernel_rfl
theorem ag51 : tyAgg Try.prog 51 = some false := by kernel_rfl
theorem sz51 : tySize Try.prog 51 = some 1 := by kernel_rfl
theorem ze51 : tyCells Try.prog 51 = some ([.nilFunc]) := by kernel_rfl
theorem ag52 : tyAgg Try.prog 52 = some false := by kernel_rfl
theorem sz52 : tySize Try.prog 52 = some 1 := by kernel_rfl
theorem ze52 : tyCells Try.prog 52 = some ([.nilFunc]) := by kernel_rfl
theorem ag53 : tyAgg Try.prog 53 = some true := by kernel_rfl
theorem sz53 : tySize Try.prog 53 = some 4 := by kernel_rfl
theorem fd53_0 : tyField Try.prog 53 0 = some (0, 17, 1) := by kernel_rfl
theorem fd53_1 : tyField Try.prog 53 1 = some (1, 17, 1) := by kernel_rfl
theorem fd53_2 : tyField Try.prog 53 2 = some (2, 17, 1) := by kernel_rfl
theorem fd53_3 : tyField Try.prog 53 3 = some (3, 9, 1) := by kernel_rfl
theorem ze53 : tyCells Try.prog 53 = some ([.pointer none, .pointer none, .pointer none, .string ⟨#[]⟩]) := by kernel_rfl
theorem ag54 : tyAgg Try.prog 54 = some true := by kernel_rfl
theorem sz54 : tySize Try.prog 54 = some 4 := by kernel_rfl
theorem fd54_0 : tyField Try.prog 54 0 = some (0, 17, 1) := by kernel_rfl
theorem fd54_1 : tyField Try.prog 54 1 = some (1, 17, 1) := by kernel_rfl
theorem fd54_2 : tyField Try.prog 54 2 = some (2, 17, 1) := by kernel_rfl
theorem fd54_3 : tyField Try.prog 54 3 = some (3, 9, 1) := by kernel_rfl
theorem ze54 : tyCells Try.prog 54 = some ([.pointer none, .pointer none, .pointer none, .string ⟨#[]⟩]) := by kernel_rfl
theorem ag55 : tyAgg Try.prog 55 = some true := by kernel_rfl
theorem sz55 : tySize Try.prog 55 = some 0 := by kernel_rfl
theorem ar55 : tyArray Try.prog 55 = some (0, 16) := by kernel_rfl
theorem ag56 : tyAgg Try.prog 56 = some true := by kernel_rfl
theorem sz56 : tySize Try.prog 56 = some 0 := by kernel_rfl
theorem fd56_0 : tyField Try.prog 56 0 = some (0, 55, 0) := by kernel_rfl
theorem ag57 : tyAgg Try.prog 57 = some true := by kernel_rfl
theorem sz57 : tySize Try.prog 57 = some 0 := by kernel_rfl
theorem fd57_0 : tyField Try.prog 57 0 = some (0, 55, 0) := by kernel_rfl
theorem ag58 : tyAgg Try.prog 58 = some false := by kernel_rfl
theorem sz58 : tySize Try.prog 58 = some 1 := by kernel_rfl
theorem ze58 : tyCells Try.prog 58 = some ([.nilFunc]) := by kernel_rfl
theorem ag59 : tyAgg Try.prog 59 = some false := by kernel_rfl
theorem sz59 : tySize Try.prog 59 = some 1 := by kernel_rfl
theorem in59 : tyInt Try.prog 59 = some .u32 := by kernel_rfl
theorem ze59 : tyCells Try.prog 59 = some ([.int .u32 (0)]) := by kernel_rfl
theorem ag60 : tyAgg Try.prog 60 = some false := by kernel_rfl
theorem sz60 : tySize Try.prog 60 = some 1 := by kernel_rfl
theorem in60 : tyInt Try.prog 60 = some .u8 := by kernel_rfl
theorem ze60 : tyCells Try.prog 60 = some ([.int .u8 (0)]) := by kernel_rfl
theorem ag61 : tyAgg Try.prog 61 = some false := by kernel_rfl
theorem sz61 : tySize Try.prog 61 = some 1 := by kernel_rfl
theorem in61 : tyInt Try.prog 61 = some .u8 := by kernel_rfl
theorem ze61 : tyCells Try.prog 61 = some ([.int .u8 (0)]) := by kernel_rfl
theorem ag62 : tyAgg Try.prog 62 = some false := by kernel_rfl
theorem sz62 : tySize Try.prog 62 = some 1 := by kernel_rfl
theorem ze62 : tyCells Try.prog 62 = some ([.nilFunc]) := by kernel_rfl
theorem ag63 : tyAgg Try.prog 63 = some false := by kernel_rfl
theorem sz63 : tySize Try.prog 63 = some 1 := by kernel_rfl
theorem pt63 : tyPtr Try.prog 63 = some 5 := by kernel_rfl
theorem ze63 : tyCells Try.prog 63 = some ([.pointer none]) := by kernel_rfl
theorem ag64 : tyAgg Try.prog 64 = some false := by kernel_rfl
theorem sz64 : tySize Try.prog 64 = some 1 := by kernel_rfl
theorem in64 : tyInt Try.prog 64 = some .i32 := by kernel_rfl
theorem ze64 : tyCells Try.prog 64 = some ([.int .i32 (0)]) := by kernel_rfl
theorem ag65 : tyAgg Try.prog 65 = some false := by kernel_rfl
theorem sz65 : tySize Try.prog 65 = some 1 := by kernel_rfl
theorem in65 : tyInt Try.prog 65 = some .i32 := by kernel_rfl
theorem ze65 : tyCells Try.prog 65 = some ([.int .i32 (0)]) := by kernel_rfl
theorem ag66 : tyAgg Try.prog 66 = some true := by kernel_rfl
theorem sz66 : tySize Try.prog 66 = some 11 := by kernel_rfl
theorem fd66_0 : tyField Try.prog 66 0 = some (0, 12, 1) := by kernel_rfl
theorem fd66_1 : tyField Try.prog 66 1 = some (1, 12, 1) := by kernel_rfl
theorem fd66_2 : tyField Try.prog 66 2 = some (2, 59, 1) := by kernel_rfl
theorem fd66_3 : tyField Try.prog 66 3 = some (3, 60, 1) := by kernel_rfl
theorem fd66_4 : tyField Try.prog 66 4 = some (4, 5, 1) := by kernel_rfl
theorem fd66_5 : tyField Try.prog 66 5 = some (5, 5, 1) := by kernel_rfl
theorem fd66_6 : tyField Try.prog 66 6 = some (6, 61, 1) := by kernel_rfl
theorem fd66_7 : tyField Try.prog 66 7 = some (7, 62, 1) := by kernel_rfl
theorem fd66_8 : tyField Try.prog 66 8 = some (8, 63, 1) := by kernel_rfl
theorem fd66_9 : tyField Try.prog 66 9 = some (9, 64, 1) := by kernel_rfl
theorem fd66_10 : tyField Try.prog 66 10 = some (10, 65, 1) := by kernel_rfl
theorem ze66 : tyCells Try.prog 66 = some ([.int .u64 (0), .int .u64 (0), .int .u32 (0), .int .u8 (0), .int .u8 (0), .int .u8 (0), .int .u8 (0), .nilFunc, .pointer none, .int .i32 (0), .int .i32 (0)]) := by kernel_rfl
theorem ag67 : tyAgg Try.prog 67 = some true := by kernel_rfl
theorem sz67 : tySize Try.prog 67 = some 11 := by kernel_rfl
theorem fd67_0 : tyField Try.prog 67 0 = some (0, 12, 1) := by kernel_rfl
theorem fd67_1 : tyField Try.prog 67 1 = some (1, 12, 1) := by kernel_rfl
theorem fd67_2 : tyField Try.prog 67 2 = some (2, 59, 1) := by kernel_rfl
theorem fd67_3 : tyField Try.prog 67 3 = some (3, 60, 1) := by kernel_rfl
theorem fd67_4 : tyField Try.prog 67 4 = some (4, 5, 1) := by kernel_rfl
theorem fd67_5 : tyField Try.prog 67 5 = some (5, 5, 1) := by kernel_rfl
theorem fd67_6 : tyField Try.prog 67 6 = some (6, 61, 1) := by kernel_rfl
theorem fd67_7 : tyField Try.prog 67 7 = some (7, 62, 1) := by kernel_rfl
theorem fd67_8 : tyField Try.prog 67 8 = some (8, 63, 1) := by kernel_rfl
theorem fd67_9 : tyField Try.prog 67 9 = some (9, 64, 1) := by kernel_rfl
theorem fd67_10 : tyField Try.prog 67 10 = some (10, 65, 1) := by kernel_rfl
theorem ze67 : tyCells Try.prog 67 = some ([.int .u64 (0), .int .u64 (0), .int .u32 (0), .int .u8 (0), .int .u8 (0), .int .u8 (0), .int .u8 (0), .nilFunc, .pointer none, .int .i32 (0), .int .i32 (0)]) := by kernel_rfl
theorem ag68 : tyAgg Try.prog 68 = some false := by kernel_rfl
theorem sz68 : tySize Try.prog 68 = some 1 := by kernel_rfl
theorem ze68 : tyCells Try.prog 68 = some ([.pointer none]) := by kernel_rfl
theorem st27 : SlTy Try.prog 27 5 ([.int .u8 (0)]) 1 := ⟨sl27, ze5, by first | rfl | exact sz5, by kernel_rfl⟩
theorem st49 : SlTy Try.prog 49 27 ([.slice none 0 0]) 24 := ⟨sl49, ze27, by first | rfl | exact sz27, by kernel_rfl⟩
theorem pl7 : tyPlaces Try.prog 7 = some [(0, 1), (1, 1), (2, 1), (3, 1)] := by kernel_rfl
theorem eg7 : Try.prog.eqGuardType Try.prog.depth 7 = false := by kernel_rfl
theorem pl8 : tyPlaces Try.prog 8 = some [(0, 1), (1, 1), (2, 1), (3, 1)] := by kernel_rfl
theorem eg8 : Try.prog.eqGuardType Try.prog.depth 8 = false := by kernel_rfl
theorem pl13 : tyPlaces Try.prog 13 = some [(0, 1), (1, 1)] := by kernel_rfl
theorem eg13 : Try.prog.eqGuardType Try.prog.depth 13 = false := by kernel_rfl
theorem pl14 : tyPlaces Try.prog 14 = some [(0, 1), (1, 1)] := by kernel_rfl
theorem eg14 : Try.prog.eqGuardType Try.prog.depth 14 = false := by kernel_rfl
theorem pl18 : tyPlaces Try.prog 18 = some [(0, 1)] := by kernel_rfl
theorem pl19 : tyPlaces Try.prog 19 = some [(0, 1)] := by kernel_rfl
theorem eg22 : Try.prog.eqGuardType Try.prog.depth 22 = false := by kernel_rfl
theorem eg23 : Try.prog.eqGuardType Try.prog.depth 23 = false := by kernel_rfl
theorem eg24 : Try.prog.eqGuardType Try.prog.depth 24 = false := by kernel_rfl
theorem pl25 : tyPlaces Try.prog 25 = some [(0, 32), (32, 32)] := by kernel_rfl
theorem eg25 : Try.prog.eqGuardType Try.prog.depth 25 = false := by kernel_rfl
theorem pl26 : tyPlaces Try.prog 26 = some [(0, 32), (32, 32)] := by kernel_rfl
theorem ef26 : tyEqF Try.prog 26 = some [(0, 23), (32, 24)] := by kernel_rfl
theorem eg26 : Try.prog.eqGuardType Try.prog.depth 26 = false := by kernel_rfl
theorem eg43 : Try.prog.eqGuardType Try.prog.depth 43 = false := by kernel_rfl
theorem pl53 : tyPlaces Try.prog 53 = some [(0, 1), (1, 1), (2, 1), (3, 1)] := by kernel_rfl
theorem pl54 : tyPlaces Try.prog 54 = some [(0, 1), (1, 1), (2, 1), (3, 1)] := by kernel_rfl
theorem pl56 : tyPlaces Try.prog 56 = some [(0, 0)] := by kernel_rfl
theorem pl57 : tyPlaces Try.prog 57 = some [(0, 0)] := by kernel_rfl
theorem pl66 : tyPlaces Try.prog 66 = some [(0, 1), (1, 1), (2, 1), (3, 1), (4, 1), (5, 1), (6, 1), (7, 1), (8, 1), (9, 1), (10, 1)] := by kernel_rfl
theorem pl67 : tyPlaces Try.prog 67 = some [(0, 1), (1, 1), (2, 1), (3, 1), (4, 1), (5, 1), (6, 1), (7, 1), (8, 1), (9, 1), (10, 1)] := by kernel_rfl
theorem fb3 : Body Try.prog 3 Try.f3 := ⟨Try.func3, by decide +kernel, rfl⟩
theorem fb4 : Body Try.prog 4 Try.f4 := ⟨Try.func4, by decide +kernel, rfl⟩
theorem fb5 : Body Try.prog 5 Try.f5 := ⟨Try.func5, by decide +kernel, rfl⟩
theorem fb6 : Body Try.prog 6 Try.f6 := ⟨Try.func6, by decide +kernel, rfl⟩
theorem fb7 : Body Try.prog 7 Try.f7 := ⟨Try.func7, by decide +kernel, rfl⟩
theorem fb8 : Body Try.prog 8 Try.f8 := ⟨Try.func8, by decide +kernel, rfl⟩
theorem fb9 : Body Try.prog 9 Try.f9 := ⟨Try.func9, by decide +kernel, rfl⟩
theorem fb10 : Body Try.prog 10 Try.f10 := ⟨Try.func10, by decide +kernel, rfl⟩
theorem fb11 : Body Try.prog 11 Try.f11 := ⟨Try.func11, by decide +kernel, rfl⟩
theorem fb12 : Body Try.prog 12 Try.f12 := ⟨Try.func12, by decide +kernel, rfl⟩
theorem fb13 : Body Try.prog 13 Try.f13 := ⟨Try.func13, by decide +kernel, rfl⟩
theorem fb14 : Body Try.prog 14 Try.f14 := ⟨Try.func14, by decide +kernel, rfl⟩
theorem fb15 : Body Try.prog 15 Try.f15 := ⟨Try.func15, by decide +kernel, rfl⟩
theorem fb16 : Body Try.prog 16 Try.f16 := ⟨Try.func16, by decide +kernel, rfl⟩
theorem fb17 : Body Try.prog 17 Try.f17 := ⟨Try.func17, by decide +kernel, rfl⟩
theorem fb18 : Body Try.prog 18 Try.f18 := ⟨Try.func18, by decide +kernel, rfl⟩
theorem fb19 : Body Try.prog 19 Try.f19 := ⟨Try.func19, by decide +kernel, rfl⟩
theorem fb20 : Body Try.prog 20 Try.f20 := ⟨Try.func20, by decide +kernel, rfl⟩
theorem fb21 : Body Try.prog 21 Try.f21 := ⟨Try.func21, by decide +kernel, rfl⟩
theorem fb22 : Body Try.prog 22 Try.f22 := ⟨Try.func22, by decide +kernel, rfl⟩
theorem fb23 : Body Try.prog 23 Try.f23 := ⟨Try.func23, by decide +kernel, rfl⟩
theorem fb24 : Body Try.prog 24 Try.f24 := ⟨Try.func24, by decide +kernel, rfl⟩
theorem fb25 : Body Try.prog 25 Try.f25 := ⟨Try.func25, by decide +kernel, rfl⟩
theorem fb26 : Body Try.prog 26 Try.f26 := ⟨Try.func26, by decide +kernel, rfl⟩
end Go.Sp.TryT
