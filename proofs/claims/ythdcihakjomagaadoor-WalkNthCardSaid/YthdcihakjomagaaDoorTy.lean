/- What the program says of its types, and that its functions have bodies. -/
import Derived.Test.YthdcihakjomagaaDoorProg
import Derived.Test.YthdcihakjomagaaDoorRules
set_option maxRecDepth 100000
namespace Go.Sp.TrydT
open Go.Proofs Go.Sp
theorem mixed : Tryd.prog.follows .mixedOrders = true := by kernel_rfl
theorem ag0 : tyAgg Tryd.prog 0 = some false := by kernel_rfl
theorem sz0 : tySize Tryd.prog 0 = some 1 := by kernel_rfl
theorem ag1 : tyAgg Tryd.prog 1 = some false := by kernel_rfl
theorem sz1 : tySize Tryd.prog 1 = some 1 := by kernel_rfl
theorem ze1 : tyCells Tryd.prog 1 = some ([.nilFunc]) := by kernel_rfl
theorem ag2 : tyAgg Tryd.prog 2 = some false := by kernel_rfl
theorem sz2 : tySize Tryd.prog 2 = some 1 := by kernel_rfl
theorem in2 : tyInt Tryd.prog 2 = some .i64 := by kernel_rfl
theorem ze2 : tyCells Tryd.prog 2 = some ([.int .i64 (0)]) := by kernel_rfl
theorem ag3 : tyAgg Tryd.prog 3 = some false := by kernel_rfl
theorem sz3 : tySize Tryd.prog 3 = some 1 := by kernel_rfl
theorem in3 : tyInt Tryd.prog 3 = some .i64 := by kernel_rfl
theorem ze3 : tyCells Tryd.prog 3 = some ([.int .i64 (0)]) := by kernel_rfl
theorem ag4 : tyAgg Tryd.prog 4 = some false := by kernel_rfl
theorem sz4 : tySize Tryd.prog 4 = some 1 := by kernel_rfl
theorem bo4 : tyBool Tryd.prog 4 = true := by kernel_rfl
theorem ze4 : tyCells Tryd.prog 4 = some ([.bool false]) := by kernel_rfl
theorem ag5 : tyAgg Tryd.prog 5 = some false := by kernel_rfl
theorem sz5 : tySize Tryd.prog 5 = some 1 := by kernel_rfl
theorem in5 : tyInt Tryd.prog 5 = some .u8 := by kernel_rfl
theorem ze5 : tyCells Tryd.prog 5 = some ([.int .u8 (0)]) := by kernel_rfl
theorem ag6 : tyAgg Tryd.prog 6 = some false := by kernel_rfl
theorem sz6 : tySize Tryd.prog 6 = some 1 := by kernel_rfl
theorem in6 : tyInt Tryd.prog 6 = some .u8 := by kernel_rfl
theorem ze6 : tyCells Tryd.prog 6 = some ([.int .u8 (0)]) := by kernel_rfl
theorem ag7 : tyAgg Tryd.prog 7 = some true := by kernel_rfl
theorem sz7 : tySize Tryd.prog 7 = some 4 := by kernel_rfl
theorem fd7_0 : tyField Tryd.prog 7 0 = some (0, 2, 1) := by kernel_rfl
theorem fd7_1 : tyField Tryd.prog 7 1 = some (1, 3, 1) := by kernel_rfl
theorem fd7_2 : tyField Tryd.prog 7 2 = some (2, 4, 1) := by kernel_rfl
theorem fd7_3 : tyField Tryd.prog 7 3 = some (3, 6, 1) := by kernel_rfl
theorem ze7 : tyCells Tryd.prog 7 = some ([.int .i64 (0), .int .i64 (0), .bool false, .int .u8 (0)]) := by kernel_rfl
theorem ag8 : tyAgg Tryd.prog 8 = some true := by kernel_rfl
theorem sz8 : tySize Tryd.prog 8 = some 4 := by kernel_rfl
theorem fd8_0 : tyField Tryd.prog 8 0 = some (0, 2, 1) := by kernel_rfl
theorem fd8_1 : tyField Tryd.prog 8 1 = some (1, 3, 1) := by kernel_rfl
theorem fd8_2 : tyField Tryd.prog 8 2 = some (2, 4, 1) := by kernel_rfl
theorem fd8_3 : tyField Tryd.prog 8 3 = some (3, 6, 1) := by kernel_rfl
theorem ze8 : tyCells Tryd.prog 8 = some ([.int .i64 (0), .int .i64 (0), .bool false, .int .u8 (0)]) := by kernel_rfl
theorem ag9 : tyAgg Tryd.prog 9 = some false := by kernel_rfl
theorem sz9 : tySize Tryd.prog 9 = some 1 := by kernel_rfl
theorem ze9 : tyCells Tryd.prog 9 = some ([.string ⟨#[]⟩]) := by kernel_rfl
theorem ag10 : tyAgg Tryd.prog 10 = some false := by kernel_rfl
theorem sz10 : tySize Tryd.prog 10 = some 1 := by kernel_rfl
theorem ze10 : tyCells Tryd.prog 10 = some ([.string ⟨#[]⟩]) := by kernel_rfl
theorem ag11 : tyAgg Tryd.prog 11 = some false := by kernel_rfl
theorem sz11 : tySize Tryd.prog 11 = some 1 := by kernel_rfl
theorem ze11 : tyCells Tryd.prog 11 = some ([.string ⟨#[]⟩]) := by kernel_rfl
theorem ag12 : tyAgg Tryd.prog 12 = some false := by kernel_rfl
theorem sz12 : tySize Tryd.prog 12 = some 1 := by kernel_rfl
theorem in12 : tyInt Tryd.prog 12 = some .u64 := by kernel_rfl
theorem ze12 : tyCells Tryd.prog 12 = some ([.int .u64 (0)]) := by kernel_rfl
theorem ag13 : tyAgg Tryd.prog 13 = some true := by kernel_rfl
theorem sz13 : tySize Tryd.prog 13 = some 2 := by kernel_rfl
theorem fd13_0 : tyField Tryd.prog 13 0 = some (0, 9, 1) := by kernel_rfl
theorem fd13_1 : tyField Tryd.prog 13 1 = some (1, 12, 1) := by kernel_rfl
theorem ze13 : tyCells Tryd.prog 13 = some ([.string ⟨#[]⟩, .int .u64 (0)]) := by kernel_rfl
theorem ag14 : tyAgg Tryd.prog 14 = some true := by kernel_rfl
theorem sz14 : tySize Tryd.prog 14 = some 2 := by kernel_rfl
theorem fd14_0 : tyField Tryd.prog 14 0 = some (0, 9, 1) := by kernel_rfl
theorem fd14_1 : tyField Tryd.prog 14 1 = some (1, 12, 1) := by kernel_rfl
theorem ze14 : tyCells Tryd.prog 14 = some ([.string ⟨#[]⟩, .int .u64 (0)]) := by kernel_rfl
theorem ag15 : tyAgg Tryd.prog 15 = some false := by kernel_rfl
theorem sz15 : tySize Tryd.prog 15 = some 1 := by kernel_rfl
theorem pt15 : tyPtr Tryd.prog 15 = some 171 := by kernel_rfl
theorem ze15 : tyCells Tryd.prog 15 = some ([.pointer none]) := by kernel_rfl
theorem ag16 : tyAgg Tryd.prog 16 = some false := by kernel_rfl
theorem sz16 : tySize Tryd.prog 16 = some 1 := by kernel_rfl
theorem pt16 : tyPtr Tryd.prog 16 = some 174 := by kernel_rfl
theorem ze16 : tyCells Tryd.prog 16 = some ([.pointer none]) := by kernel_rfl
theorem ag17 : tyAgg Tryd.prog 17 = some false := by kernel_rfl
theorem sz17 : tySize Tryd.prog 17 = some 1 := by kernel_rfl
theorem pt17 : tyPtr Tryd.prog 17 = some 182 := by kernel_rfl
theorem ze17 : tyCells Tryd.prog 17 = some ([.pointer none]) := by kernel_rfl
theorem ag18 : tyAgg Tryd.prog 18 = some true := by kernel_rfl
theorem sz18 : tySize Tryd.prog 18 = some 1 := by kernel_rfl
theorem fd18_0 : tyField Tryd.prog 18 0 = some (0, 17, 1) := by kernel_rfl
theorem ze18 : tyCells Tryd.prog 18 = some ([.pointer none]) := by kernel_rfl
theorem ag19 : tyAgg Tryd.prog 19 = some true := by kernel_rfl
theorem sz19 : tySize Tryd.prog 19 = some 1 := by kernel_rfl
theorem fd19_0 : tyField Tryd.prog 19 0 = some (0, 17, 1) := by kernel_rfl
theorem ze19 : tyCells Tryd.prog 19 = some ([.pointer none]) := by kernel_rfl
theorem ag20 : tyAgg Tryd.prog 20 = some false := by kernel_rfl
theorem sz20 : tySize Tryd.prog 20 = some 1 := by kernel_rfl
theorem ze20 : tyCells Tryd.prog 20 = some ([.nilIface]) := by kernel_rfl
theorem ag21 : tyAgg Tryd.prog 21 = some false := by kernel_rfl
theorem sz21 : tySize Tryd.prog 21 = some 1 := by kernel_rfl
theorem in21 : tyInt Tryd.prog 21 = some .i32 := by kernel_rfl
theorem ze21 : tyCells Tryd.prog 21 = some ([.int .i32 (0)]) := by kernel_rfl
theorem ag22 : tyAgg Tryd.prog 22 = some false := by kernel_rfl
theorem sz22 : tySize Tryd.prog 22 = some 1 := by kernel_rfl
theorem sl22 : tySlice Tryd.prog 22 = some 34 := by kernel_rfl
theorem ze22 : tyCells Tryd.prog 22 = some ([.slice none 0 0]) := by kernel_rfl
theorem ag23 : tyAgg Tryd.prog 23 = some false := by kernel_rfl
theorem sz23 : tySize Tryd.prog 23 = some 1 := by kernel_rfl
theorem pt23 : tyPtr Tryd.prog 23 = some 109 := by kernel_rfl
theorem ze23 : tyCells Tryd.prog 23 = some ([.pointer none]) := by kernel_rfl
theorem ag24 : tyAgg Tryd.prog 24 = some false := by kernel_rfl
theorem sz24 : tySize Tryd.prog 24 = some 1 := by kernel_rfl
theorem ag25 : tyAgg Tryd.prog 25 = some false := by kernel_rfl
theorem sz25 : tySize Tryd.prog 25 = some 1 := by kernel_rfl
theorem ze25 : tyCells Tryd.prog 25 = some ([.nilFunc]) := by kernel_rfl
theorem ag26 : tyAgg Tryd.prog 26 = some false := by kernel_rfl
theorem sz26 : tySize Tryd.prog 26 = some 1 := by kernel_rfl
theorem ze26 : tyCells Tryd.prog 26 = some ([.nilFunc]) := by kernel_rfl
theorem ag27 : tyAgg Tryd.prog 27 = some false := by kernel_rfl
theorem sz27 : tySize Tryd.prog 27 = some 1 := by kernel_rfl
theorem ze27 : tyCells Tryd.prog 27 = some ([.nilFunc]) := by kernel_rfl
theorem ag28 : tyAgg Tryd.prog 28 = some false := by kernel_rfl
theorem sz28 : tySize Tryd.prog 28 = some 1 := by kernel_rfl
theorem ze28 : tyCells Tryd.prog 28 = some ([.nilFunc]) := by kernel_rfl
theorem ag29 : tyAgg Tryd.prog 29 = some false := by kernel_rfl
theorem sz29 : tySize Tryd.prog 29 = some 1 := by kernel_rfl
theorem ze29 : tyCells Tryd.prog 29 = some ([.nilFunc]) := by kernel_rfl
theorem ag30 : tyAgg Tryd.prog 30 = some true := by kernel_rfl
theorem sz30 : tySize Tryd.prog 30 = some 32 := by kernel_rfl
theorem ar30 : tyArray Tryd.prog 30 = some (32, 5) := by kernel_rfl
theorem ze30 : tyCells Tryd.prog 30 = some (kc (List.replicate 32 0)) := by kernel_rfl
theorem ag31 : tyAgg Tryd.prog 31 = some true := by kernel_rfl
theorem sz31 : tySize Tryd.prog 31 = some 32 := by kernel_rfl
theorem ar31 : tyArray Tryd.prog 31 = some (32, 5) := by kernel_rfl
theorem ze31 : tyCells Tryd.prog 31 = some (kc (List.replicate 32 0)) := by kernel_rfl
theorem ag32 : tyAgg Tryd.prog 32 = some false := by kernel_rfl
theorem sz32 : tySize Tryd.prog 32 = some 1 := by kernel_rfl
theorem sl32 : tySlice Tryd.prog 32 = some 5 := by kernel_rfl
theorem ze32 : tyCells Tryd.prog 32 = some ([.slice none 0 0]) := by kernel_rfl
theorem ag33 : tyAgg Tryd.prog 33 = some true := by kernel_rfl
theorem sz33 : tySize Tryd.prog 33 = some 33 := by kernel_rfl
theorem fd33_0 : tyField Tryd.prog 33 0 = some (0, 31, 32) := by kernel_rfl
theorem fd33_1 : tyField Tryd.prog 33 1 = some (32, 32, 1) := by kernel_rfl
theorem ze33 : tyCells Tryd.prog 33 = some ((kc (List.replicate 32 0) ++ ([.slice none 0 0]))) := by kernel_rfl
theorem ag34 : tyAgg Tryd.prog 34 = some true := by kernel_rfl
theorem sz34 : tySize Tryd.prog 34 = some 33 := by kernel_rfl
theorem fd34_0 : tyField Tryd.prog 34 0 = some (0, 31, 32) := by kernel_rfl
theorem fd34_1 : tyField Tryd.prog 34 1 = some (32, 32, 1) := by kernel_rfl
theorem ze34 : tyCells Tryd.prog 34 = some ((kc (List.replicate 32 0) ++ ([.slice none 0 0]))) := by kernel_rfl
theorem ag35 : tyAgg Tryd.prog 35 = some false := by kernel_rfl
theorem sz35 : tySize Tryd.prog 35 = some 1 := by kernel_rfl
theorem ze35 : tyCells Tryd.prog 35 = some ([.nilFunc]) := by kernel_rfl
theorem ag36 : tyAgg Tryd.prog 36 = some false := by kernel_rfl
theorem sz36 : tySize Tryd.prog 36 = some 1 := by kernel_rfl
theorem ze36 : tyCells Tryd.prog 36 = some ([.nilFunc]) := by kernel_rfl
theorem ag37 : tyAgg Tryd.prog 37 = some false := by kernel_rfl
theorem sz37 : tySize Tryd.prog 37 = some 1 := by kernel_rfl
theorem ze37 : tyCells Tryd.prog 37 = some ([.nilFunc]) := by kernel_rfl
theorem ag38 : tyAgg Tryd.prog 38 = some false := by kernel_rfl
theorem sz38 : tySize Tryd.prog 38 = some 1 := by kernel_rfl
theorem ze38 : tyCells Tryd.prog 38 = some ([.nilFunc]) := by kernel_rfl
theorem ag39 : tyAgg Tryd.prog 39 = some false := by kernel_rfl
theorem sz39 : tySize Tryd.prog 39 = some 1 := by kernel_rfl
theorem ze39 : tyCells Tryd.prog 39 = some ([.nilFunc]) := by kernel_rfl
theorem ag40 : tyAgg Tryd.prog 40 = some true := by kernel_rfl
theorem sz40 : tySize Tryd.prog 40 = some 33 := by kernel_rfl
theorem fd40_0 : tyField Tryd.prog 40 0 = some (0, 31, 32) := by kernel_rfl
theorem fd40_1 : tyField Tryd.prog 40 1 = some (32, 3, 1) := by kernel_rfl
theorem ze40 : tyCells Tryd.prog 40 = some ((kc (List.replicate 32 0) ++ ([.int .i64 (0)]))) := by kernel_rfl
theorem ag41 : tyAgg Tryd.prog 41 = some true := by kernel_rfl
theorem sz41 : tySize Tryd.prog 41 = some 33 := by kernel_rfl
theorem fd41_0 : tyField Tryd.prog 41 0 = some (0, 31, 32) := by kernel_rfl
theorem fd41_1 : tyField Tryd.prog 41 1 = some (32, 3, 1) := by kernel_rfl
theorem ze41 : tyCells Tryd.prog 41 = some ((kc (List.replicate 32 0) ++ ([.int .i64 (0)]))) := by kernel_rfl
theorem ag42 : tyAgg Tryd.prog 42 = some false := by kernel_rfl
theorem sz42 : tySize Tryd.prog 42 = some 1 := by kernel_rfl
theorem ze42 : tyCells Tryd.prog 42 = some ([.nilFunc]) := by kernel_rfl
theorem ag43 : tyAgg Tryd.prog 43 = some false := by kernel_rfl
theorem sz43 : tySize Tryd.prog 43 = some 1 := by kernel_rfl
theorem ze43 : tyCells Tryd.prog 43 = some ([.nilFunc]) := by kernel_rfl
theorem ag44 : tyAgg Tryd.prog 44 = some false := by kernel_rfl
theorem sz44 : tySize Tryd.prog 44 = some 1 := by kernel_rfl
theorem ze44 : tyCells Tryd.prog 44 = some ([.nilFunc]) := by kernel_rfl
theorem ag45 : tyAgg Tryd.prog 45 = some false := by kernel_rfl
theorem sz45 : tySize Tryd.prog 45 = some 1 := by kernel_rfl
theorem ze45 : tyCells Tryd.prog 45 = some ([.nilFunc]) := by kernel_rfl
theorem ag46 : tyAgg Tryd.prog 46 = some false := by kernel_rfl
theorem sz46 : tySize Tryd.prog 46 = some 1 := by kernel_rfl
theorem ze46 : tyCells Tryd.prog 46 = some ([.nilFunc]) := by kernel_rfl
theorem ag47 : tyAgg Tryd.prog 47 = some false := by kernel_rfl
theorem sz47 : tySize Tryd.prog 47 = some 1 := by kernel_rfl
theorem ag48 : tyAgg Tryd.prog 48 = some false := by kernel_rfl
theorem sz48 : tySize Tryd.prog 48 = some 1 := by kernel_rfl
theorem ze48 : tyCells Tryd.prog 48 = some ([.nilFunc]) := by kernel_rfl
theorem ag49 : tyAgg Tryd.prog 49 = some false := by kernel_rfl
theorem sz49 : tySize Tryd.prog 49 = some 1 := by kernel_rfl
theorem ze49 : tyCells Tryd.prog 49 = some ([.nilFunc]) := by kernel_rfl
theorem ag50 : tyAgg Tryd.prog 50 = some false := by kernel_rfl
theorem sz50 : tySize Tryd.prog 50 = some 1 := by kernel_rfl
theorem in50 : tyInt Tryd.prog 50 = some .u16 := by kernel_rfl
theorem ze50 : tyCells Tryd.prog 50 = some ([.int .u16 (0)]) := by kernel_rfl
theorem ag51 : tyAgg Tryd.prog 51 = some false := by kernel_rfl
theorem sz51 : tySize Tryd.prog 51 = some 1 := by kernel_rfl
theorem pt51 : tyPtr Tryd.prog 51 = some 120 := by kernel_rfl
theorem ze51 : tyCells Tryd.prog 51 = some ([.pointer none]) := by kernel_rfl
theorem ag52 : tyAgg Tryd.prog 52 = some false := by kernel_rfl
theorem sz52 : tySize Tryd.prog 52 = some 1 := by kernel_rfl
theorem ze52 : tyCells Tryd.prog 52 = some ([.nilFunc]) := by kernel_rfl
theorem ag53 : tyAgg Tryd.prog 53 = some false := by kernel_rfl
theorem sz53 : tySize Tryd.prog 53 = some 1 := by kernel_rfl
theorem sl53 : tySlice Tryd.prog 53 = some 31 := by kernel_rfl
theorem ze53 : tyCells Tryd.prog 53 = some ([.slice none 0 0]) := by kernel_rfl
theorem ag54 : tyAgg Tryd.prog 54 = some false := by kernel_rfl
theorem sz54 : tySize Tryd.prog 54 = some 1 := by kernel_rfl
theorem ze54 : tyCells Tryd.prog 54 = some ([.nilFunc]) := by kernel_rfl
theorem ag55 : tyAgg Tryd.prog 55 = some false := by kernel_rfl
theorem sz55 : tySize Tryd.prog 55 = some 1 := by kernel_rfl
theorem ag56 : tyAgg Tryd.prog 56 = some false := by kernel_rfl
theorem sz56 : tySize Tryd.prog 56 = some 1 := by kernel_rfl
theorem ze56 : tyCells Tryd.prog 56 = some ([.nilFunc]) := by kernel_rfl
theorem ag57 : tyAgg Tryd.prog 57 = some false := by kernel_rfl
theorem sz57 : tySize Tryd.prog 57 = some 1 := by kernel_rfl
theorem ze57 : tyCells Tryd.prog 57 = some ([.nilFunc]) := by kernel_rfl
theorem ag58 : tyAgg Tryd.prog 58 = some false := by kernel_rfl
theorem sz58 : tySize Tryd.prog 58 = some 1 := by kernel_rfl
theorem ze58 : tyCells Tryd.prog 58 = some ([.nilFunc]) := by kernel_rfl
theorem ag59 : tyAgg Tryd.prog 59 = some false := by kernel_rfl
theorem sz59 : tySize Tryd.prog 59 = some 1 := by kernel_rfl
theorem ze59 : tyCells Tryd.prog 59 = some ([.nilFunc]) := by kernel_rfl
theorem ag60 : tyAgg Tryd.prog 60 = some false := by kernel_rfl
theorem sz60 : tySize Tryd.prog 60 = some 1 := by kernel_rfl
theorem ze60 : tyCells Tryd.prog 60 = some ([.nilFunc]) := by kernel_rfl
theorem ag61 : tyAgg Tryd.prog 61 = some false := by kernel_rfl
theorem sz61 : tySize Tryd.prog 61 = some 1 := by kernel_rfl
theorem sl61 : tySlice Tryd.prog 61 = some 3 := by kernel_rfl
theorem ze61 : tyCells Tryd.prog 61 = some ([.slice none 0 0]) := by kernel_rfl
theorem ag62 : tyAgg Tryd.prog 62 = some false := by kernel_rfl
theorem sz62 : tySize Tryd.prog 62 = some 1 := by kernel_rfl
theorem ze62 : tyCells Tryd.prog 62 = some ([.nilFunc]) := by kernel_rfl
theorem ag63 : tyAgg Tryd.prog 63 = some false := by kernel_rfl
theorem sz63 : tySize Tryd.prog 63 = some 1 := by kernel_rfl
theorem ag64 : tyAgg Tryd.prog 64 = some false := by kernel_rfl
theorem sz64 : tySize Tryd.prog 64 = some 1 := by kernel_rfl
theorem ze64 : tyCells Tryd.prog 64 = some ([.nilFunc]) := by kernel_rfl
theorem ag65 : tyAgg Tryd.prog 65 = some false := by kernel_rfl
theorem sz65 : tySize Tryd.prog 65 = some 1 := by kernel_rfl
theorem ze65 : tyCells Tryd.prog 65 = some ([.nilFunc]) := by kernel_rfl
theorem ag66 : tyAgg Tryd.prog 66 = some false := by kernel_rfl
theorem sz66 : tySize Tryd.prog 66 = some 1 := by kernel_rfl
theorem ze66 : tyCells Tryd.prog 66 = some ([.nilFunc]) := by kernel_rfl
theorem ag67 : tyAgg Tryd.prog 67 = some false := by kernel_rfl
theorem sz67 : tySize Tryd.prog 67 = some 1 := by kernel_rfl
theorem ze67 : tyCells Tryd.prog 67 = some ([.nilFunc]) := by kernel_rfl
theorem ag68 : tyAgg Tryd.prog 68 = some false := by kernel_rfl
theorem sz68 : tySize Tryd.prog 68 = some 1 := by kernel_rfl
theorem ze68 : tyCells Tryd.prog 68 = some ([.nilFunc]) := by kernel_rfl
theorem ag69 : tyAgg Tryd.prog 69 = some false := by kernel_rfl
theorem sz69 : tySize Tryd.prog 69 = some 1 := by kernel_rfl
theorem ze69 : tyCells Tryd.prog 69 = some ([.nilFunc]) := by kernel_rfl
theorem ag70 : tyAgg Tryd.prog 70 = some false := by kernel_rfl
theorem sz70 : tySize Tryd.prog 70 = some 1 := by kernel_rfl
theorem ze70 : tyCells Tryd.prog 70 = some ([.nilFunc]) := by kernel_rfl
theorem ag71 : tyAgg Tryd.prog 71 = some false := by kernel_rfl
theorem sz71 : tySize Tryd.prog 71 = some 1 := by kernel_rfl
theorem ze71 : tyCells Tryd.prog 71 = some ([.nilFunc]) := by kernel_rfl
theorem ag72 : tyAgg Tryd.prog 72 = some false := by kernel_rfl
theorem sz72 : tySize Tryd.prog 72 = some 1 := by kernel_rfl
theorem ze72 : tyCells Tryd.prog 72 = some ([.nilFunc]) := by kernel_rfl
theorem ag73 : tyAgg Tryd.prog 73 = some false := by kernel_rfl
theorem sz73 : tySize Tryd.prog 73 = some 1 := by kernel_rfl
theorem ze73 : tyCells Tryd.prog 73 = some ([.nilFunc]) := by kernel_rfl
theorem ag74 : tyAgg Tryd.prog 74 = some false := by kernel_rfl
theorem sz74 : tySize Tryd.prog 74 = some 1 := by kernel_rfl
theorem ze74 : tyCells Tryd.prog 74 = some ([.nilFunc]) := by kernel_rfl
theorem ag75 : tyAgg Tryd.prog 75 = some false := by kernel_rfl
theorem sz75 : tySize Tryd.prog 75 = some 1 := by kernel_rfl
theorem ze75 : tyCells Tryd.prog 75 = some ([.nilFunc]) := by kernel_rfl
theorem ag76 : tyAgg Tryd.prog 76 = some false := by kernel_rfl
theorem sz76 : tySize Tryd.prog 76 = some 1 := by kernel_rfl
theorem ze76 : tyCells Tryd.prog 76 = some ([.nilFunc]) := by kernel_rfl
theorem ag77 : tyAgg Tryd.prog 77 = some false := by kernel_rfl
theorem sz77 : tySize Tryd.prog 77 = some 1 := by kernel_rfl
theorem ze77 : tyCells Tryd.prog 77 = some ([.nilFunc]) := by kernel_rfl
theorem ag78 : tyAgg Tryd.prog 78 = some false := by kernel_rfl
theorem sz78 : tySize Tryd.prog 78 = some 1 := by kernel_rfl
theorem ze78 : tyCells Tryd.prog 78 = some ([.nilFunc]) := by kernel_rfl
theorem ag79 : tyAgg Tryd.prog 79 = some true := by kernel_rfl
theorem sz79 : tySize Tryd.prog 79 = some 32 := by kernel_rfl
theorem ar79 : tyArray Tryd.prog 79 = some (32, 5) := by kernel_rfl
theorem ze79 : tyCells Tryd.prog 79 = some (kc (List.replicate 32 0)) := by kernel_rfl
theorem ag80 : tyAgg Tryd.prog 80 = some true := by kernel_rfl
theorem sz80 : tySize Tryd.prog 80 = some 64 := by kernel_rfl
theorem fd80_0 : tyField Tryd.prog 80 0 = some (0, 31, 32) := by kernel_rfl
theorem fd80_1 : tyField Tryd.prog 80 1 = some (32, 79, 32) := by kernel_rfl
theorem ze80 : tyCells Tryd.prog 80 = some ((kc (List.replicate 32 0) ++ (kc (List.replicate 32 0)))) := by kernel_rfl
theorem ag81 : tyAgg Tryd.prog 81 = some true := by kernel_rfl
theorem sz81 : tySize Tryd.prog 81 = some 64 := by kernel_rfl
theorem fd81_0 : tyField Tryd.prog 81 0 = some (0, 31, 32) := by kernel_rfl
theorem fd81_1 : tyField Tryd.prog 81 1 = some (32, 79, 32) := by kernel_rfl
theorem ze81 : tyCells Tryd.prog 81 = some ((kc (List.replicate 32 0) ++ (kc (List.replicate 32 0)))) := by kernel_rfl
theorem ag82 : tyAgg Tryd.prog 82 = some false := by kernel_rfl
theorem sz82 : tySize Tryd.prog 82 = some 1 := by kernel_rfl
theorem ze82 : tyCells Tryd.prog 82 = some ([.nilFunc]) := by kernel_rfl
theorem ag83 : tyAgg Tryd.prog 83 = some false := by kernel_rfl
theorem sz83 : tySize Tryd.prog 83 = some 1 := by kernel_rfl
theorem in83 : tyInt Tryd.prog 83 = some .i64 := by kernel_rfl
theorem ze83 : tyCells Tryd.prog 83 = some ([.int .i64 (0)]) := by kernel_rfl
theorem ag84 : tyAgg Tryd.prog 84 = some false := by kernel_rfl
theorem sz84 : tySize Tryd.prog 84 = some 1 := by kernel_rfl
theorem ag85 : tyAgg Tryd.prog 85 = some false := by kernel_rfl
theorem sz85 : tySize Tryd.prog 85 = some 1 := by kernel_rfl
theorem ze85 : tyCells Tryd.prog 85 = some ([.nilFunc]) := by kernel_rfl
theorem ag86 : tyAgg Tryd.prog 86 = some false := by kernel_rfl
theorem sz86 : tySize Tryd.prog 86 = some 1 := by kernel_rfl
theorem ag87 : tyAgg Tryd.prog 87 = some false := by kernel_rfl
theorem sz87 : tySize Tryd.prog 87 = some 1 := by kernel_rfl
theorem ze87 : tyCells Tryd.prog 87 = some ([.nilFunc]) := by kernel_rfl
theorem ag88 : tyAgg Tryd.prog 88 = some false := by kernel_rfl
theorem sz88 : tySize Tryd.prog 88 = some 1 := by kernel_rfl
theorem ze88 : tyCells Tryd.prog 88 = some ([.nilFunc]) := by kernel_rfl
theorem ag89 : tyAgg Tryd.prog 89 = some false := by kernel_rfl
theorem sz89 : tySize Tryd.prog 89 = some 1 := by kernel_rfl
theorem ze89 : tyCells Tryd.prog 89 = some ([.nilFunc]) := by kernel_rfl
theorem ag90 : tyAgg Tryd.prog 90 = some false := by kernel_rfl
theorem sz90 : tySize Tryd.prog 90 = some 1 := by kernel_rfl
theorem ze90 : tyCells Tryd.prog 90 = some ([.nilFunc]) := by kernel_rfl
theorem ag91 : tyAgg Tryd.prog 91 = some false := by kernel_rfl
theorem sz91 : tySize Tryd.prog 91 = some 1 := by kernel_rfl
theorem ze91 : tyCells Tryd.prog 91 = some ([.nilFunc]) := by kernel_rfl
theorem ag92 : tyAgg Tryd.prog 92 = some false := by kernel_rfl
theorem sz92 : tySize Tryd.prog 92 = some 1 := by kernel_rfl
theorem ze92 : tyCells Tryd.prog 92 = some ([.nilFunc]) := by kernel_rfl
theorem ag93 : tyAgg Tryd.prog 93 = some false := by kernel_rfl
theorem sz93 : tySize Tryd.prog 93 = some 1 := by kernel_rfl
theorem ze93 : tyCells Tryd.prog 93 = some ([.nilFunc]) := by kernel_rfl
theorem ag94 : tyAgg Tryd.prog 94 = some false := by kernel_rfl
theorem sz94 : tySize Tryd.prog 94 = some 1 := by kernel_rfl
theorem ze94 : tyCells Tryd.prog 94 = some ([.nilFunc]) := by kernel_rfl
theorem ag95 : tyAgg Tryd.prog 95 = some false := by kernel_rfl
theorem sz95 : tySize Tryd.prog 95 = some 1 := by kernel_rfl
theorem ze95 : tyCells Tryd.prog 95 = some ([.nilFunc]) := by kernel_rfl
theorem ag96 : tyAgg Tryd.prog 96 = some false := by kernel_rfl
theorem sz96 : tySize Tryd.prog 96 = some 1 := by kernel_rfl
theorem ze96 : tyCells Tryd.prog 96 = some ([.nilFunc]) := by kernel_rfl
theorem ag97 : tyAgg Tryd.prog 97 = some false := by kernel_rfl
theorem sz97 : tySize Tryd.prog 97 = some 1 := by kernel_rfl
theorem ze97 : tyCells Tryd.prog 97 = some ([.nilFunc]) := by kernel_rfl
theorem ag98 : tyAgg Tryd.prog 98 = some false := by kernel_rfl
theorem sz98 : tySize Tryd.prog 98 = some 1 := by kernel_rfl
theorem ze98 : tyCells Tryd.prog 98 = some ([.nilFunc]) := by kernel_rfl
theorem ag99 : tyAgg Tryd.prog 99 = some false := by kernel_rfl
theorem sz99 : tySize Tryd.prog 99 = some 1 := by kernel_rfl
theorem ze99 : tyCells Tryd.prog 99 = some ([.nilFunc]) := by kernel_rfl
theorem ag100 : tyAgg Tryd.prog 100 = some false := by kernel_rfl
theorem sz100 : tySize Tryd.prog 100 = some 1 := by kernel_rfl
theorem ze100 : tyCells Tryd.prog 100 = some ([.nilFunc]) := by kernel_rfl
theorem ag101 : tyAgg Tryd.prog 101 = some false := by kernel_rfl
theorem sz101 : tySize Tryd.prog 101 = some 1 := by kernel_rfl
theorem ze101 : tyCells Tryd.prog 101 = some ([.nilFunc]) := by kernel_rfl
theorem ag102 : tyAgg Tryd.prog 102 = some true := by kernel_rfl
theorem sz102 : tySize Tryd.prog 102 = some 65 := by kernel_rfl
theorem fd102_0 : tyField Tryd.prog 102 0 = some (0, 81, 64) := by kernel_rfl
theorem fd102_1 : tyField Tryd.prog 102 1 = some (64, 32, 1) := by kernel_rfl
theorem ze102 : tyCells Tryd.prog 102 = some (((kc (List.replicate 32 0) ++ (kc (List.replicate 32 0))) ++ ([.slice none 0 0]))) := by kernel_rfl
theorem ag103 : tyAgg Tryd.prog 103 = some true := by kernel_rfl
theorem sz103 : tySize Tryd.prog 103 = some 65 := by kernel_rfl
theorem fd103_0 : tyField Tryd.prog 103 0 = some (0, 81, 64) := by kernel_rfl
theorem fd103_1 : tyField Tryd.prog 103 1 = some (64, 32, 1) := by kernel_rfl
theorem ze103 : tyCells Tryd.prog 103 = some (((kc (List.replicate 32 0) ++ (kc (List.replicate 32 0))) ++ ([.slice none 0 0]))) := by kernel_rfl
theorem ag104 : tyAgg Tryd.prog 104 = some false := by kernel_rfl
theorem sz104 : tySize Tryd.prog 104 = some 1 := by kernel_rfl
theorem ze104 : tyCells Tryd.prog 104 = some ([.nilFunc]) := by kernel_rfl
theorem ag105 : tyAgg Tryd.prog 105 = some false := by kernel_rfl
theorem sz105 : tySize Tryd.prog 105 = some 1 := by kernel_rfl
theorem ze105 : tyCells Tryd.prog 105 = some ([.nilFunc]) := by kernel_rfl
theorem ag106 : tyAgg Tryd.prog 106 = some false := by kernel_rfl
theorem sz106 : tySize Tryd.prog 106 = some 1 := by kernel_rfl
theorem ze106 : tyCells Tryd.prog 106 = some ([.nilIface]) := by kernel_rfl
theorem ag107 : tyAgg Tryd.prog 107 = some false := by kernel_rfl
theorem sz107 : tySize Tryd.prog 107 = some 1 := by kernel_rfl
theorem ze107 : tyCells Tryd.prog 107 = some ([.nilIface]) := by kernel_rfl
theorem ag108 : tyAgg Tryd.prog 108 = some true := by kernel_rfl
theorem sz108 : tySize Tryd.prog 108 = some 33 := by kernel_rfl
theorem fd108_0 : tyField Tryd.prog 108 0 = some (0, 107, 1) := by kernel_rfl
theorem fd108_1 : tyField Tryd.prog 108 1 = some (1, 79, 32) := by kernel_rfl
theorem ze108 : tyCells Tryd.prog 108 = some (([.nilIface] ++ (kc (List.replicate 32 0)))) := by kernel_rfl
theorem ag109 : tyAgg Tryd.prog 109 = some true := by kernel_rfl
theorem sz109 : tySize Tryd.prog 109 = some 33 := by kernel_rfl
theorem fd109_0 : tyField Tryd.prog 109 0 = some (0, 107, 1) := by kernel_rfl
theorem fd109_1 : tyField Tryd.prog 109 1 = some (1, 79, 32) := by kernel_rfl
theorem ze109 : tyCells Tryd.prog 109 = some (([.nilIface] ++ (kc (List.replicate 32 0)))) := by kernel_rfl
theorem ag110 : tyAgg Tryd.prog 110 = some true := by kernel_rfl
theorem sz110 : tySize Tryd.prog 110 = some 2 := by kernel_rfl
theorem ar110 : tyArray Tryd.prog 110 = some (2, 23) := by kernel_rfl
theorem ze110 : tyCells Tryd.prog 110 = some (List.replicate 2 (.pointer none)) := by kernel_rfl
theorem ag111 : tyAgg Tryd.prog 111 = some true := by kernel_rfl
theorem sz111 : tySize Tryd.prog 111 = some 64 := by kernel_rfl
theorem ar111 : tyArray Tryd.prog 111 = some (2, 79) := by kernel_rfl
theorem ze111 : tyCells Tryd.prog 111 = some ((kc (List.replicate 32 0) ++ (kc (List.replicate 32 0)))) := by kernel_rfl
theorem ag112 : tyAgg Tryd.prog 112 = some true := by kernel_rfl
theorem sz112 : tySize Tryd.prog 112 = some 67 := by kernel_rfl
theorem fd112_0 : tyField Tryd.prog 112 0 = some (0, 110, 2) := by kernel_rfl
theorem fd112_1 : tyField Tryd.prog 112 1 = some (2, 111, 64) := by kernel_rfl
theorem fd112_2 : tyField Tryd.prog 112 2 = some (66, 3, 1) := by kernel_rfl
theorem ze112 : tyCells Tryd.prog 112 = some ((List.replicate 2 (.pointer none) ++ ((kc (List.replicate 32 0) ++ (kc (List.replicate 32 0))) ++ ([.int .i64 (0)])))) := by kernel_rfl
theorem ag113 : tyAgg Tryd.prog 113 = some true := by kernel_rfl
theorem sz113 : tySize Tryd.prog 113 = some 67 := by kernel_rfl
theorem fd113_0 : tyField Tryd.prog 113 0 = some (0, 110, 2) := by kernel_rfl
theorem fd113_1 : tyField Tryd.prog 113 1 = some (2, 111, 64) := by kernel_rfl
theorem fd113_2 : tyField Tryd.prog 113 2 = some (66, 3, 1) := by kernel_rfl
theorem ze113 : tyCells Tryd.prog 113 = some ((List.replicate 2 (.pointer none) ++ ((kc (List.replicate 32 0) ++ (kc (List.replicate 32 0))) ++ ([.int .i64 (0)])))) := by kernel_rfl
theorem ag114 : tyAgg Tryd.prog 114 = some false := by kernel_rfl
theorem sz114 : tySize Tryd.prog 114 = some 1 := by kernel_rfl
theorem ze114 : tyCells Tryd.prog 114 = some ([.nilFunc]) := by kernel_rfl
theorem ag115 : tyAgg Tryd.prog 115 = some false := by kernel_rfl
theorem sz115 : tySize Tryd.prog 115 = some 1 := by kernel_rfl
theorem ze115 : tyCells Tryd.prog 115 = some ([.nilFunc]) := by kernel_rfl
theorem ag116 : tyAgg Tryd.prog 116 = some false := by kernel_rfl
theorem sz116 : tySize Tryd.prog 116 = some 1 := by kernel_rfl
theorem pt116 : tyPtr Tryd.prog 116 = some 118 := by kernel_rfl
theorem ze116 : tyCells Tryd.prog 116 = some ([.pointer none]) := by kernel_rfl
theorem ag117 : tyAgg Tryd.prog 117 = some true := by kernel_rfl
theorem sz117 : tySize Tryd.prog 117 = some 1 := by kernel_rfl
theorem fd117_0 : tyField Tryd.prog 117 0 = some (0, 3, 1) := by kernel_rfl
theorem ze117 : tyCells Tryd.prog 117 = some ([.int .i64 (0)]) := by kernel_rfl
theorem ag118 : tyAgg Tryd.prog 118 = some true := by kernel_rfl
theorem sz118 : tySize Tryd.prog 118 = some 1 := by kernel_rfl
theorem fd118_0 : tyField Tryd.prog 118 0 = some (0, 3, 1) := by kernel_rfl
theorem ze118 : tyCells Tryd.prog 118 = some ([.int .i64 (0)]) := by kernel_rfl
theorem ag119 : tyAgg Tryd.prog 119 = some true := by kernel_rfl
theorem sz119 : tySize Tryd.prog 119 = some 2 := by kernel_rfl
theorem fd119_0 : tyField Tryd.prog 119 0 = some (0, 116, 1) := by kernel_rfl
theorem fd119_1 : tyField Tryd.prog 119 1 = some (1, 3, 1) := by kernel_rfl
theorem ze119 : tyCells Tryd.prog 119 = some ([.pointer none, .int .i64 (0)]) := by kernel_rfl
theorem ag120 : tyAgg Tryd.prog 120 = some true := by kernel_rfl
theorem sz120 : tySize Tryd.prog 120 = some 2 := by kernel_rfl
theorem fd120_0 : tyField Tryd.prog 120 0 = some (0, 116, 1) := by kernel_rfl
theorem fd120_1 : tyField Tryd.prog 120 1 = some (1, 3, 1) := by kernel_rfl
theorem ze120 : tyCells Tryd.prog 120 = some ([.pointer none, .int .i64 (0)]) := by kernel_rfl
theorem ag121 : tyAgg Tryd.prog 121 = some false := by kernel_rfl
theorem sz121 : tySize Tryd.prog 121 = some 1 := by kernel_rfl
theorem ze121 : tyCells Tryd.prog 121 = some ([.nilFunc]) := by kernel_rfl
theorem ag122 : tyAgg Tryd.prog 122 = some false := by kernel_rfl
theorem sz122 : tySize Tryd.prog 122 = some 1 := by kernel_rfl
theorem ze122 : tyCells Tryd.prog 122 = some ([.nilFunc]) := by kernel_rfl
theorem ag123 : tyAgg Tryd.prog 123 = some false := by kernel_rfl
theorem sz123 : tySize Tryd.prog 123 = some 1 := by kernel_rfl
theorem ze123 : tyCells Tryd.prog 123 = some ([.nilFunc]) := by kernel_rfl
theorem ag124 : tyAgg Tryd.prog 124 = some false := by kernel_rfl
theorem sz124 : tySize Tryd.prog 124 = some 1 := by kernel_rfl
theorem ze124 : tyCells Tryd.prog 124 = some ([.nilFunc]) := by kernel_rfl
theorem ag125 : tyAgg Tryd.prog 125 = some false := by kernel_rfl
theorem sz125 : tySize Tryd.prog 125 = some 1 := by kernel_rfl
theorem ze125 : tyCells Tryd.prog 125 = some ([.nilFunc]) := by kernel_rfl
theorem ag126 : tyAgg Tryd.prog 126 = some false := by kernel_rfl
theorem sz126 : tySize Tryd.prog 126 = some 1 := by kernel_rfl
theorem ze126 : tyCells Tryd.prog 126 = some ([.nilFunc]) := by kernel_rfl
theorem ag127 : tyAgg Tryd.prog 127 = some false := by kernel_rfl
theorem sz127 : tySize Tryd.prog 127 = some 1 := by kernel_rfl
theorem ze127 : tyCells Tryd.prog 127 = some ([.nilFunc]) := by kernel_rfl
theorem ag128 : tyAgg Tryd.prog 128 = some false := by kernel_rfl
theorem sz128 : tySize Tryd.prog 128 = some 1 := by kernel_rfl
theorem ze128 : tyCells Tryd.prog 128 = some ([.nilFunc]) := by kernel_rfl
theorem ag129 : tyAgg Tryd.prog 129 = some false := by kernel_rfl
theorem sz129 : tySize Tryd.prog 129 = some 1 := by kernel_rfl
theorem ze129 : tyCells Tryd.prog 129 = some ([.nilFunc]) := by kernel_rfl
theorem ag130 : tyAgg Tryd.prog 130 = some false := by kernel_rfl
theorem sz130 : tySize Tryd.prog 130 = some 1 := by kernel_rfl
theorem ze130 : tyCells Tryd.prog 130 = some ([.nilFunc]) := by kernel_rfl
theorem ag131 : tyAgg Tryd.prog 131 = some false := by kernel_rfl
theorem sz131 : tySize Tryd.prog 131 = some 1 := by kernel_rfl
theorem ze131 : tyCells Tryd.prog 131 = some ([.nilFunc]) := by kernel_rfl
theorem ag132 : tyAgg Tryd.prog 132 = some false := by kernel_rfl
theorem sz132 : tySize Tryd.prog 132 = some 1 := by kernel_rfl
theorem ze132 : tyCells Tryd.prog 132 = some ([.nilFunc]) := by kernel_rfl
theorem ag133 : tyAgg Tryd.prog 133 = some false := by kernel_rfl
theorem sz133 : tySize Tryd.prog 133 = some 1 := by kernel_rfl
theorem ze133 : tyCells Tryd.prog 133 = some ([.nilFunc]) := by kernel_rfl
theorem ag134 : tyAgg Tryd.prog 134 = some false := by kernel_rfl
theorem sz134 : tySize Tryd.prog 134 = some 1 := by kernel_rfl
theorem ze134 : tyCells Tryd.prog 134 = some ([.nilFunc]) := by kernel_rfl
theorem ag135 : tyAgg Tryd.prog 135 = some false := by kernel_rfl
theorem sz135 : tySize Tryd.prog 135 = some 1 := by kernel_rfl
theorem ze135 : tyCells Tryd.prog 135 = some ([.nilFunc]) := by kernel_rfl
theorem ag136 : tyAgg Tryd.prog 136 = some false := by kernel_rfl
theorem sz136 : tySize Tryd.prog 136 = some 1 := by kernel_rfl
theorem ze136 : tyCells Tryd.prog 136 = some ([.nilFunc]) := by kernel_rfl
theorem ag137 : tyAgg Tryd.prog 137 = some false := by kernel_rfl
theorem sz137 : tySize Tryd.prog 137 = some 1 := by kernel_rfl
theorem ze137 : tyCells Tryd.prog 137 = some ([.nilFunc]) := by kernel_rfl
theorem ag138 : tyAgg Tryd.prog 138 = some false := by kernel_rfl
theorem sz138 : tySize Tryd.prog 138 = some 1 := by kernel_rfl
theorem sl138 : tySlice Tryd.prog 138 = some 23 := by kernel_rfl
theorem ze138 : tyCells Tryd.prog 138 = some ([.slice none 0 0]) := by kernel_rfl
theorem ag139 : tyAgg Tryd.prog 139 = some false := by kernel_rfl
theorem sz139 : tySize Tryd.prog 139 = some 1 := by kernel_rfl
theorem ze139 : tyCells Tryd.prog 139 = some ([.nilFunc]) := by kernel_rfl
theorem ag140 : tyAgg Tryd.prog 140 = some false := by kernel_rfl
theorem sz140 : tySize Tryd.prog 140 = some 1 := by kernel_rfl
theorem ze140 : tyCells Tryd.prog 140 = some ([.nilFunc]) := by kernel_rfl
theorem ag141 : tyAgg Tryd.prog 141 = some false := by kernel_rfl
theorem sz141 : tySize Tryd.prog 141 = some 1 := by kernel_rfl
theorem ze141 : tyCells Tryd.prog 141 = some ([.nilFunc]) := by kernel_rfl
theorem ag142 : tyAgg Tryd.prog 142 = some false := by kernel_rfl
theorem sz142 : tySize Tryd.prog 142 = some 1 := by kernel_rfl
theorem ze142 : tyCells Tryd.prog 142 = some ([.nilFunc]) := by kernel_rfl
theorem ag143 : tyAgg Tryd.prog 143 = some false := by kernel_rfl
theorem sz143 : tySize Tryd.prog 143 = some 1 := by kernel_rfl
theorem in143 : tyInt Tryd.prog 143 = some .u32 := by kernel_rfl
theorem ze143 : tyCells Tryd.prog 143 = some ([.int .u32 (0)]) := by kernel_rfl
theorem ag144 : tyAgg Tryd.prog 144 = some true := by kernel_rfl
theorem sz144 : tySize Tryd.prog 144 = some 8 := by kernel_rfl
theorem ar144 : tyArray Tryd.prog 144 = some (8, 143) := by kernel_rfl
theorem ze144 : tyCells Tryd.prog 144 = some (kw (List.replicate 8 0)) := by kernel_rfl
theorem ag145 : tyAgg Tryd.prog 145 = some true := by kernel_rfl
theorem sz145 : tySize Tryd.prog 145 = some 8 := by kernel_rfl
theorem ar145 : tyArray Tryd.prog 145 = some (8, 143) := by kernel_rfl
theorem ze145 : tyCells Tryd.prog 145 = some (kw (List.replicate 8 0)) := by kernel_rfl
theorem ag146 : tyAgg Tryd.prog 146 = some false := by kernel_rfl
theorem sz146 : tySize Tryd.prog 146 = some 1 := by kernel_rfl
theorem ze146 : tyCells Tryd.prog 146 = some ([.nilFunc]) := by kernel_rfl
theorem ag147 : tyAgg Tryd.prog 147 = some false := by kernel_rfl
theorem sz147 : tySize Tryd.prog 147 = some 1 := by kernel_rfl
theorem ze147 : tyCells Tryd.prog 147 = some ([.nilFunc]) := by kernel_rfl
theorem ag148 : tyAgg Tryd.prog 148 = some false := by kernel_rfl
theorem sz148 : tySize Tryd.prog 148 = some 1 := by kernel_rfl
theorem ze148 : tyCells Tryd.prog 148 = some ([.nilFunc]) := by kernel_rfl
theorem ag149 : tyAgg Tryd.prog 149 = some false := by kernel_rfl
theorem sz149 : tySize Tryd.prog 149 = some 1 := by kernel_rfl
theorem ze149 : tyCells Tryd.prog 149 = some ([.nilFunc]) := by kernel_rfl
theorem ag150 : tyAgg Tryd.prog 150 = some false := by kernel_rfl
theorem sz150 : tySize Tryd.prog 150 = some 1 := by kernel_rfl
theorem ze150 : tyCells Tryd.prog 150 = some ([.nilFunc]) := by kernel_rfl
theorem ag151 : tyAgg Tryd.prog 151 = some false := by kernel_rfl
theorem sz151 : tySize Tryd.prog 151 = some 1 := by kernel_rfl
theorem sl151 : tySlice Tryd.prog 151 = some 32 := by kernel_rfl
theorem ze151 : tyCells Tryd.prog 151 = some ([.slice none 0 0]) := by kernel_rfl
theorem ag152 : tyAgg Tryd.prog 152 = some false := by kernel_rfl
theorem sz152 : tySize Tryd.prog 152 = some 1 := by kernel_rfl
theorem ze152 : tyCells Tryd.prog 152 = some ([.nilFunc]) := by kernel_rfl
theorem ag153 : tyAgg Tryd.prog 153 = some false := by kernel_rfl
theorem sz153 : tySize Tryd.prog 153 = some 1 := by kernel_rfl
theorem ze153 : tyCells Tryd.prog 153 = some ([.nilFunc]) := by kernel_rfl
theorem ag154 : tyAgg Tryd.prog 154 = some false := by kernel_rfl
theorem sz154 : tySize Tryd.prog 154 = some 1 := by kernel_rfl
theorem sl154 : tySlice Tryd.prog 154 = some 143 := by kernel_rfl
theorem ze154 : tyCells Tryd.prog 154 = some ([.slice none 0 0]) := by kernel_rfl
theorem ag155 : tyAgg Tryd.prog 155 = some false := by kernel_rfl
theorem sz155 : tySize Tryd.prog 155 = some 1 := by kernel_rfl
theorem ze155 : tyCells Tryd.prog 155 = some ([.nilFunc]) := by kernel_rfl
theorem ag156 : tyAgg Tryd.prog 156 = some false := by kernel_rfl
theorem sz156 : tySize Tryd.prog 156 = some 1 := by kernel_rfl
theorem ze156 : tyCells Tryd.prog 156 = some ([.nilFunc]) := by kernel_rfl
theorem ag157 : tyAgg Tryd.prog 157 = some false := by kernel_rfl
theorem sz157 : tySize Tryd.prog 157 = some 1 := by kernel_rfl
theorem ze157 : tyCells Tryd.prog 157 = some ([.nilFunc]) := by kernel_rfl
theorem ag158 : tyAgg Tryd.prog 158 = some false := by kernel_rfl
theorem sz158 : tySize Tryd.prog 158 = some 1 := by kernel_rfl
theorem in158 : tyInt Tryd.prog 158 = some .u64 := by kernel_rfl
theorem ze158 : tyCells Tryd.prog 158 = some ([.int .u64 (0)]) := by kernel_rfl
theorem ag159 : tyAgg Tryd.prog 159 = some false := by kernel_rfl
theorem sz159 : tySize Tryd.prog 159 = some 1 := by kernel_rfl
theorem pt159 : tyPtr Tryd.prog 159 = some 145 := by kernel_rfl
theorem ze159 : tyCells Tryd.prog 159 = some ([.pointer none]) := by kernel_rfl
theorem ag160 : tyAgg Tryd.prog 160 = some true := by kernel_rfl
theorem sz160 : tySize Tryd.prog 160 = some 16 := by kernel_rfl
theorem ar160 : tyArray Tryd.prog 160 = some (16, 143) := by kernel_rfl
theorem ze160 : tyCells Tryd.prog 160 = some (kw (List.replicate 16 0)) := by kernel_rfl
theorem ag161 : tyAgg Tryd.prog 161 = some true := by kernel_rfl
theorem sz161 : tySize Tryd.prog 161 = some 64 := by kernel_rfl
theorem ar161 : tyArray Tryd.prog 161 = some (64, 143) := by kernel_rfl
theorem ze161 : tyCells Tryd.prog 161 = some (kw (List.replicate 64 0)) := by kernel_rfl
theorem ag162 : tyAgg Tryd.prog 162 = some false := by kernel_rfl
theorem sz162 : tySize Tryd.prog 162 = some 1 := by kernel_rfl
theorem ze162 : tyCells Tryd.prog 162 = some ([.nilFunc]) := by kernel_rfl
theorem ag163 : tyAgg Tryd.prog 163 = some false := by kernel_rfl
theorem sz163 : tySize Tryd.prog 163 = some 1 := by kernel_rfl
theorem ze163 : tyCells Tryd.prog 163 = some ([.nilFunc]) := by kernel_rfl
theorem ag164 : tyAgg Tryd.prog 164 = some false := by kernel_rfl
theorem sz164 : tySize Tryd.prog 164 = some 1 := by kernel_rfl
theorem ze164 : tyCells Tryd.prog 164 = some ([.nilFunc]) := by kernel_rfl
theorem ag165 : tyAgg Tryd.prog 165 = some false := by kernel_rfl
theorem sz165 : tySize Tryd.prog 165 = some 1 := by kernel_rfl
theorem in165 : tyInt Tryd.prog 165 = some .u64 := by kernel_rfl
theorem ze165 : tyCells Tryd.prog 165 = some ([.int .u64 (0)]) := by kernel_rfl
theorem ag166 : tyAgg Tryd.prog 166 = some false := by kernel_rfl
theorem sz166 : tySize Tryd.prog 166 = some 1 := by kernel_rfl
theorem ze166 : tyCells Tryd.prog 166 = some ([.nilFunc]) := by kernel_rfl
theorem ag167 : tyAgg Tryd.prog 167 = some false := by kernel_rfl
theorem sz167 : tySize Tryd.prog 167 = some 1 := by kernel_rfl
theorem ze167 : tyCells Tryd.prog 167 = some ([.nilFunc]) := by kernel_rfl
theorem ag168 : tyAgg Tryd.prog 168 = some false := by kernel_rfl
theorem sz168 : tySize Tryd.prog 168 = some 1 := by kernel_rfl
theorem ze168 : tyCells Tryd.prog 168 = some ([.nilFunc]) := by kernel_rfl
theorem ag169 : tyAgg Tryd.prog 169 = some false := by kernel_rfl
theorem sz169 : tySize Tryd.prog 169 = some 1 := by kernel_rfl
theorem ze169 : tyCells Tryd.prog 169 = some ([.nilFunc]) := by kernel_rfl
theorem ag170 : tyAgg Tryd.prog 170 = some true := by kernel_rfl
theorem sz170 : tySize Tryd.prog 170 = some 4 := by kernel_rfl
theorem fd170_0 : tyField Tryd.prog 170 0 = some (0, 17, 1) := by kernel_rfl
theorem fd170_1 : tyField Tryd.prog 170 1 = some (1, 17, 1) := by kernel_rfl
theorem fd170_2 : tyField Tryd.prog 170 2 = some (2, 17, 1) := by kernel_rfl
theorem fd170_3 : tyField Tryd.prog 170 3 = some (3, 9, 1) := by kernel_rfl
theorem ze170 : tyCells Tryd.prog 170 = some ([.pointer none, .pointer none, .pointer none, .string ⟨#[]⟩]) := by kernel_rfl
theorem ag171 : tyAgg Tryd.prog 171 = some true := by kernel_rfl
theorem sz171 : tySize Tryd.prog 171 = some 4 := by kernel_rfl
theorem fd171_0 : tyField Tryd.prog 171 0 = some (0, 17, 1) := by kernel_rfl
theorem fd171_1 : tyField Tryd.prog 171 1 = some (1, 17, 1) := by kernel_rfl
theorem fd171_2 : tyField Tryd.prog 171 2 = some (2, 17, 1) := by kernel_rfl
theorem fd171_3 : tyField Tryd.prog 171 3 = some (3, 9, 1) := by kernel_rfl
theorem ze171 : tyCells Tryd.prog 171 = some ([.pointer none, .pointer none, .pointer none, .string ⟨#[]⟩]) := by kernel_rfl
theorem ag172 : tyAgg Tryd.prog 172 = some true := by kernel_rfl
theorem sz172 : tySize Tryd.prog 172 = some 0 := by kernel_rfl
theorem ar172 : tyArray Tryd.prog 172 = some (0, 16) := by kernel_rfl
theorem ag173 : tyAgg Tryd.prog 173 = some true := by kernel_rfl
theorem sz173 : tySize Tryd.prog 173 = some 0 := by kernel_rfl
theorem fd173_0 : tyField Tryd.prog 173 0 = some (0, 172, 0) := by kernel_rfl
theorem ag174 : tyAgg Tryd.prog 174 = some true := by kernel_rfl
theorem sz174 : tySize Tryd.prog 174 = some 0 := by kernel_rfl
theorem fd174_0 : tyField Tryd.prog 174 0 = some (0, 172, 0) := by kernel_rfl
theorem ag175 : tyAgg Tryd.prog 175 = some false := by kernel_rfl
theorem sz175 : tySize Tryd.prog 175 = some 1 := by kernel_rfl
theorem in175 : tyInt Tryd.prog 175 = some .u8 := by kernel_rfl
theorem ze175 : tyCells Tryd.prog 175 = some ([.int .u8 (0)]) := by kernel_rfl
theorem ag176 : tyAgg Tryd.prog 176 = some false := by kernel_rfl
theorem sz176 : tySize Tryd.prog 176 = some 1 := by kernel_rfl
theorem in176 : tyInt Tryd.prog 176 = some .u8 := by kernel_rfl
theorem ze176 : tyCells Tryd.prog 176 = some ([.int .u8 (0)]) := by kernel_rfl
theorem ag177 : tyAgg Tryd.prog 177 = some false := by kernel_rfl
theorem sz177 : tySize Tryd.prog 177 = some 1 := by kernel_rfl
theorem ze177 : tyCells Tryd.prog 177 = some ([.nilFunc]) := by kernel_rfl
theorem ag178 : tyAgg Tryd.prog 178 = some false := by kernel_rfl
theorem sz178 : tySize Tryd.prog 178 = some 1 := by kernel_rfl
theorem pt178 : tyPtr Tryd.prog 178 = some 5 := by kernel_rfl
theorem ze178 : tyCells Tryd.prog 178 = some ([.pointer none]) := by kernel_rfl
theorem ag179 : tyAgg Tryd.prog 179 = some false := by kernel_rfl
theorem sz179 : tySize Tryd.prog 179 = some 1 := by kernel_rfl
theorem in179 : tyInt Tryd.prog 179 = some .i32 := by kernel_rfl
theorem ze179 : tyCells Tryd.prog 179 = some ([.int .i32 (0)]) := by kernel_rfl
theorem ag180 : tyAgg Tryd.prog 180 = some false := by kernel_rfl
theorem sz180 : tySize Tryd.prog 180 = some 1 := by kernel_rfl
theorem in180 : tyInt Tryd.prog 180 = some .i32 := by kernel_rfl
theorem ze180 : tyCells Tryd.prog 180 = some ([.int .i32 (0)]) := by kernel_rfl
theorem ag181 : tyAgg Tryd.prog 181 = some true := by kernel_rfl
theorem sz181 : tySize Tryd.prog 181 = some 11 := by kernel_rfl
theorem fd181_0 : tyField Tryd.prog 181 0 = some (0, 12, 1) := by kernel_rfl
theorem fd181_1 : tyField Tryd.prog 181 1 = some (1, 12, 1) := by kernel_rfl
theorem fd181_2 : tyField Tryd.prog 181 2 = some (2, 143, 1) := by kernel_rfl
theorem fd181_3 : tyField Tryd.prog 181 3 = some (3, 175, 1) := by kernel_rfl
theorem fd181_4 : tyField Tryd.prog 181 4 = some (4, 5, 1) := by kernel_rfl
theorem fd181_5 : tyField Tryd.prog 181 5 = some (5, 5, 1) := by kernel_rfl
theorem fd181_6 : tyField Tryd.prog 181 6 = some (6, 176, 1) := by kernel_rfl
theorem fd181_7 : tyField Tryd.prog 181 7 = some (7, 177, 1) := by kernel_rfl
theorem fd181_8 : tyField Tryd.prog 181 8 = some (8, 178, 1) := by kernel_rfl
theorem fd181_9 : tyField Tryd.prog 181 9 = some (9, 179, 1) := by kernel_rfl
theorem fd181_10 : tyField Tryd.prog 181 10 = some (10, 180, 1) := by kernel_rfl
theorem ze181 : tyCells Tryd.prog 181 = some ([.int .u64 (0), .int .u64 (0), .int .u32 (0), .int .u8 (0), .int .u8 (0), .int .u8 (0), .int .u8 (0), .nilFunc, .pointer none, .int .i32 (0), .int .i32 (0)]) := by kernel_rfl
theorem ag182 : tyAgg Tryd.prog 182 = some true := by kernel_rfl
theorem sz182 : tySize Tryd.prog 182 = some 11 := by kernel_rfl
theorem fd182_0 : tyField Tryd.prog 182 0 = some (0, 12, 1) := by kernel_rfl
theorem fd182_1 : tyField Tryd.prog 182 1 = some (1, 12, 1) := by kernel_rfl
theorem fd182_2 : tyField Tryd.prog 182 2 = some (2, 143, 1) := by kernel_rfl
theorem fd182_3 : tyField Tryd.prog 182 3 = some (3, 175, 1) := by kernel_rfl
theorem fd182_4 : tyField Tryd.prog 182 4 = some (4, 5, 1) := by kernel_rfl
theorem fd182_5 : tyField Tryd.prog 182 5 = some (5, 5, 1) := by kernel_rfl
theorem fd182_6 : tyField Tryd.prog 182 6 = some (6, 176, 1) := by kernel_rfl
theorem fd182_7 : tyField Tryd.prog 182 7 = some (7, 177, 1) := by kernel_rfl
theorem fd182_8 : tyField Tryd.prog 182 8 = some (8, 178, 1) := by kernel_rfl
theorem fd182_9 : tyField Tryd.prog 182 9 = some (9, 179, 1) := by kernel_rfl
theorem fd182_10 : tyField Tryd.prog 182 10 = some (10, 180, 1) := by kernel_rfl
theorem ze182 : tyCells Tryd.prog 182 = some ([.int .u64 (0), .int .u64 (0), .int .u32 (0), .int .u8 (0), .int .u8 (0), .int .u8 (0), .int .u8 (0), .nilFunc, .pointer none, .int .i32 (0), .int .i32 (0)]) := by kernel_rfl
theorem ag183 : tyAgg Tryd.prog 183 = some false := by kernel_rfl
theorem sz183 : tySize Tryd.prog 183 = some 1 := by kernel_rfl
theorem ze183 : tyCells Tryd.prog 183 = some ([.pointer none]) := by kernel_rfl
theorem st22 : SlTy Tryd.prog 22 34 ((kc (List.replicate 32 0) ++ ([.slice none 0 0]))) 56 := ⟨sl22, ze34, by first | rfl | exact sz34, by kernel_rfl⟩
theorem st32 : SlTy Tryd.prog 32 5 ([.int .u8 (0)]) 1 := ⟨sl32, ze5, by first | rfl | exact sz5, by kernel_rfl⟩
theorem st53 : SlTy Tryd.prog 53 31 (kc (List.replicate 32 0)) 32 := ⟨sl53, ze31, by first | rfl | exact sz31, by kernel_rfl⟩
theorem st61 : SlTy Tryd.prog 61 3 ([.int .i64 (0)]) 8 := ⟨sl61, ze3, by first | rfl | exact sz3, by kernel_rfl⟩
theorem st138 : SlTy Tryd.prog 138 23 ([.pointer none]) 8 := ⟨sl138, ze23, by first | rfl | exact sz23, by kernel_rfl⟩
theorem st151 : SlTy Tryd.prog 151 32 ([.slice none 0 0]) 24 := ⟨sl151, ze32, by first | rfl | exact sz32, by kernel_rfl⟩
theorem st154 : SlTy Tryd.prog 154 143 ([.int .u32 (0)]) 4 := ⟨sl154, ze143, by first | rfl | exact sz143, by kernel_rfl⟩
theorem pl7 : tyPlaces Tryd.prog 7 = some [(0, 1), (1, 1), (2, 1), (3, 1)] := by kernel_rfl
theorem eg7 : Tryd.prog.eqGuardType Tryd.prog.depth 7 = false := by kernel_rfl
theorem pl8 : tyPlaces Tryd.prog 8 = some [(0, 1), (1, 1), (2, 1), (3, 1)] := by kernel_rfl
theorem eg8 : Tryd.prog.eqGuardType Tryd.prog.depth 8 = false := by kernel_rfl
theorem pl13 : tyPlaces Tryd.prog 13 = some [(0, 1), (1, 1)] := by kernel_rfl
theorem eg13 : Tryd.prog.eqGuardType Tryd.prog.depth 13 = false := by kernel_rfl
theorem pl14 : tyPlaces Tryd.prog 14 = some [(0, 1), (1, 1)] := by kernel_rfl
theorem eg14 : Tryd.prog.eqGuardType Tryd.prog.depth 14 = false := by kernel_rfl
theorem pl18 : tyPlaces Tryd.prog 18 = some [(0, 1)] := by kernel_rfl
theorem pl19 : tyPlaces Tryd.prog 19 = some [(0, 1)] := by kernel_rfl
theorem eg30 : Tryd.prog.eqGuardType Tryd.prog.depth 30 = false := by kernel_rfl
theorem eg31 : Tryd.prog.eqGuardType Tryd.prog.depth 31 = false := by kernel_rfl
theorem pl33 : tyPlaces Tryd.prog 33 = some [(0, 32), (32, 1)] := by kernel_rfl
theorem pl34 : tyPlaces Tryd.prog 34 = some [(0, 32), (32, 1)] := by kernel_rfl
theorem cn34 : tyConc Tryd.prog 34 = true := by kernel_rfl
theorem zz34 : tyZero Tryd.prog 34 = some (.agg #[.int .u8 (0), .int .u8 (0), .int .u8 (0), .int .u8 (0), .int .u8 (0), .int .u8 (0), .int .u8 (0), .int .u8 (0), .int .u8 (0), .int .u8 (0), .int .u8 (0), .int .u8 (0), .int .u8 (0), .int .u8 (0), .int .u8 (0), .int .u8 (0), .int .u8 (0), .int .u8 (0), .int .u8 (0), .int .u8 (0), .int .u8 (0), .int .u8 (0), .int .u8 (0), .int .u8 (0), .int .u8 (0), .int .u8 (0), .int .u8 (0), .int .u8 (0), .int .u8 (0), .int .u8 (0), .int .u8 (0), .int .u8 (0), .slice none 0 0]) := by kernel_rfl
theorem pl40 : tyPlaces Tryd.prog 40 = some [(0, 32), (32, 1)] := by kernel_rfl
theorem eg40 : Tryd.prog.eqGuardType Tryd.prog.depth 40 = false := by kernel_rfl
theorem pl41 : tyPlaces Tryd.prog 41 = some [(0, 32), (32, 1)] := by kernel_rfl
theorem ef41 : tyEqF Tryd.prog 41 = some [(0, 31), (32, 3)] := by kernel_rfl
theorem cn41 : tyConc Tryd.prog 41 = true := by kernel_rfl
theorem zz41 : tyZero Tryd.prog 41 = some (.agg #[.int .u8 (0), .int .u8 (0), .int .u8 (0), .int .u8 (0), .int .u8 (0), .int .u8 (0), .int .u8 (0), .int .u8 (0), .int .u8 (0), .int .u8 (0), .int .u8 (0), .int .u8 (0), .int .u8 (0), .int .u8 (0), .int .u8 (0), .int .u8 (0), .int .u8 (0), .int .u8 (0), .int .u8 (0), .int .u8 (0), .int .u8 (0), .int .u8 (0), .int .u8 (0), .int .u8 (0), .int .u8 (0), .int .u8 (0), .int .u8 (0), .int .u8 (0), .int .u8 (0), .int .u8 (0), .int .u8 (0), .int .u8 (0), .int .i64 (0)]) := by kernel_rfl
theorem eg41 : Tryd.prog.eqGuardType Tryd.prog.depth 41 = false := by kernel_rfl
theorem eg79 : Tryd.prog.eqGuardType Tryd.prog.depth 79 = false := by kernel_rfl
theorem pl80 : tyPlaces Tryd.prog 80 = some [(0, 32), (32, 32)] := by kernel_rfl
theorem eg80 : Tryd.prog.eqGuardType Tryd.prog.depth 80 = false := by kernel_rfl
theorem pl81 : tyPlaces Tryd.prog 81 = some [(0, 32), (32, 32)] := by kernel_rfl
theorem ef81 : tyEqF Tryd.prog 81 = some [(0, 31), (32, 79)] := by kernel_rfl
theorem cn81 : tyConc Tryd.prog 81 = true := by kernel_rfl
theorem zz81 : tyZero Tryd.prog 81 = some (.agg #[.int .u8 (0), .int .u8 (0), .int .u8 (0), .int .u8 (0), .int .u8 (0), .int .u8 (0), .int .u8 (0), .int .u8 (0), .int .u8 (0), .int .u8 (0), .int .u8 (0), .int .u8 (0), .int .u8 (0), .int .u8 (0), .int .u8 (0), .int .u8 (0), .int .u8 (0), .int .u8 (0), .int .u8 (0), .int .u8 (0), .int .u8 (0), .int .u8 (0), .int .u8 (0), .int .u8 (0), .int .u8 (0), .int .u8 (0), .int .u8 (0), .int .u8 (0), .int .u8 (0), .int .u8 (0), .int .u8 (0), .int .u8 (0), .int .u8 (0), .int .u8 (0), .int .u8 (0), .int .u8 (0), .int .u8 (0), .int .u8 (0), .int .u8 (0), .int .u8 (0), .int .u8 (0), .int .u8 (0), .int .u8 (0), .int .u8 (0), .int .u8 (0), .int .u8 (0), .int .u8 (0), .int .u8 (0), .int .u8 (0), .int .u8 (0), .int .u8 (0), .int .u8 (0), .int .u8 (0), .int .u8 (0), .int .u8 (0), .int .u8 (0), .int .u8 (0), .int .u8 (0), .int .u8 (0), .int .u8 (0), .int .u8 (0), .int .u8 (0), .int .u8 (0), .int .u8 (0)]) := by kernel_rfl
theorem eg81 : Tryd.prog.eqGuardType Tryd.prog.depth 81 = false := by kernel_rfl
theorem pl102 : tyPlaces Tryd.prog 102 = some [(0, 64), (64, 1)] := by kernel_rfl
theorem pl103 : tyPlaces Tryd.prog 103 = some [(0, 64), (64, 1)] := by kernel_rfl
theorem cn103 : tyConc Tryd.prog 103 = true := by kernel_rfl
theorem zz103 : tyZero Tryd.prog 103 = some (.agg #[.int .u8 (0), .int .u8 (0), .int .u8 (0), .int .u8 (0), .int .u8 (0), .int .u8 (0), .int .u8 (0), .int .u8 (0), .int .u8 (0), .int .u8 (0), .int .u8 (0), .int .u8 (0), .int .u8 (0), .int .u8 (0), .int .u8 (0), .int .u8 (0), .int .u8 (0), .int .u8 (0), .int .u8 (0), .int .u8 (0), .int .u8 (0), .int .u8 (0), .int .u8 (0), .int .u8 (0), .int .u8 (0), .int .u8 (0), .int .u8 (0), .int .u8 (0), .int .u8 (0), .int .u8 (0), .int .u8 (0), .int .u8 (0), .int .u8 (0), .int .u8 (0), .int .u8 (0), .int .u8 (0), .int .u8 (0), .int .u8 (0), .int .u8 (0), .int .u8 (0), .int .u8 (0), .int .u8 (0), .int .u8 (0), .int .u8 (0), .int .u8 (0), .int .u8 (0), .int .u8 (0), .int .u8 (0), .int .u8 (0), .int .u8 (0), .int .u8 (0), .int .u8 (0), .int .u8 (0), .int .u8 (0), .int .u8 (0), .int .u8 (0), .int .u8 (0), .int .u8 (0), .int .u8 (0), .int .u8 (0), .int .u8 (0), .int .u8 (0), .int .u8 (0), .int .u8 (0), .slice none 0 0]) := by kernel_rfl
theorem pl108 : tyPlaces Tryd.prog 108 = some [(0, 1), (1, 32)] := by kernel_rfl
theorem pl109 : tyPlaces Tryd.prog 109 = some [(0, 1), (1, 32)] := by kernel_rfl
theorem cn109 : tyConc Tryd.prog 109 = true := by kernel_rfl
theorem zz109 : tyZero Tryd.prog 109 = some (.agg #[.nilIface, .int .u8 (0), .int .u8 (0), .int .u8 (0), .int .u8 (0), .int .u8 (0), .int .u8 (0), .int .u8 (0), .int .u8 (0), .int .u8 (0), .int .u8 (0), .int .u8 (0), .int .u8 (0), .int .u8 (0), .int .u8 (0), .int .u8 (0), .int .u8 (0), .int .u8 (0), .int .u8 (0), .int .u8 (0), .int .u8 (0), .int .u8 (0), .int .u8 (0), .int .u8 (0), .int .u8 (0), .int .u8 (0), .int .u8 (0), .int .u8 (0), .int .u8 (0), .int .u8 (0), .int .u8 (0), .int .u8 (0), .int .u8 (0)]) := by kernel_rfl
theorem eg111 : Tryd.prog.eqGuardType Tryd.prog.depth 111 = false := by kernel_rfl
theorem pl112 : tyPlaces Tryd.prog 112 = some [(0, 2), (2, 64), (66, 1)] := by kernel_rfl
theorem pl113 : tyPlaces Tryd.prog 113 = some [(0, 2), (2, 64), (66, 1)] := by kernel_rfl
theorem cn113 : tyConc Tryd.prog 113 = true := by kernel_rfl
theorem zz113 : tyZero Tryd.prog 113 = some (.agg #[.pointer none, .pointer none, .int .u8 (0), .int .u8 (0), .int .u8 (0), .int .u8 (0), .int .u8 (0), .int .u8 (0), .int .u8 (0), .int .u8 (0), .int .u8 (0), .int .u8 (0), .int .u8 (0), .int .u8 (0), .int .u8 (0), .int .u8 (0), .int .u8 (0), .int .u8 (0), .int .u8 (0), .int .u8 (0), .int .u8 (0), .int .u8 (0), .int .u8 (0), .int .u8 (0), .int .u8 (0), .int .u8 (0), .int .u8 (0), .int .u8 (0), .int .u8 (0), .int .u8 (0), .int .u8 (0), .int .u8 (0), .int .u8 (0), .int .u8 (0), .int .u8 (0), .int .u8 (0), .int .u8 (0), .int .u8 (0), .int .u8 (0), .int .u8 (0), .int .u8 (0), .int .u8 (0), .int .u8 (0), .int .u8 (0), .int .u8 (0), .int .u8 (0), .int .u8 (0), .int .u8 (0), .int .u8 (0), .int .u8 (0), .int .u8 (0), .int .u8 (0), .int .u8 (0), .int .u8 (0), .int .u8 (0), .int .u8 (0), .int .u8 (0), .int .u8 (0), .int .u8 (0), .int .u8 (0), .int .u8 (0), .int .u8 (0), .int .u8 (0), .int .u8 (0), .int .u8 (0), .int .u8 (0), .int .i64 (0)]) := by kernel_rfl
theorem pl117 : tyPlaces Tryd.prog 117 = some [(0, 1)] := by kernel_rfl
theorem eg117 : Tryd.prog.eqGuardType Tryd.prog.depth 117 = false := by kernel_rfl
theorem pl118 : tyPlaces Tryd.prog 118 = some [(0, 1)] := by kernel_rfl
theorem ef118 : tyEqF Tryd.prog 118 = some [(0, 3)] := by kernel_rfl
theorem cn118 : tyConc Tryd.prog 118 = true := by kernel_rfl
theorem zz118 : tyZero Tryd.prog 118 = some (.agg #[.int .i64 (0)]) := by kernel_rfl
theorem eg118 : Tryd.prog.eqGuardType Tryd.prog.depth 118 = false := by kernel_rfl
theorem pl119 : tyPlaces Tryd.prog 119 = some [(0, 1), (1, 1)] := by kernel_rfl
theorem pl120 : tyPlaces Tryd.prog 120 = some [(0, 1), (1, 1)] := by kernel_rfl
theorem cn120 : tyConc Tryd.prog 120 = true := by kernel_rfl
theorem zz120 : tyZero Tryd.prog 120 = some (.agg #[.pointer none, .int .i64 (0)]) := by kernel_rfl
theorem eg144 : Tryd.prog.eqGuardType Tryd.prog.depth 144 = false := by kernel_rfl
theorem eg145 : Tryd.prog.eqGuardType Tryd.prog.depth 145 = false := by kernel_rfl
theorem eg160 : Tryd.prog.eqGuardType Tryd.prog.depth 160 = false := by kernel_rfl
theorem eg161 : Tryd.prog.eqGuardType Tryd.prog.depth 161 = false := by kernel_rfl
theorem pl170 : tyPlaces Tryd.prog 170 = some [(0, 1), (1, 1), (2, 1), (3, 1)] := by kernel_rfl
theorem pl171 : tyPlaces Tryd.prog 171 = some [(0, 1), (1, 1), (2, 1), (3, 1)] := by kernel_rfl
theorem pl173 : tyPlaces Tryd.prog 173 = some [(0, 0)] := by kernel_rfl
theorem pl174 : tyPlaces Tryd.prog 174 = some [(0, 0)] := by kernel_rfl
theorem pl181 : tyPlaces Tryd.prog 181 = some [(0, 1), (1, 1), (2, 1), (3, 1), (4, 1), (5, 1), (6, 1), (7, 1), (8, 1), (9, 1), (10, 1)] := by kernel_rfl
theorem pl182 : tyPlaces Tryd.prog 182 = some [(0, 1), (1, 1), (2, 1), (3, 1), (4, 1), (5, 1), (6, 1), (7, 1), (8, 1), (9, 1), (10, 1)] := by kernel_rfl
theorem fb3 : Body Tryd.prog 3 Tryd.f3 := ⟨Tryd.func3, by decide +kernel, rfl⟩
theorem fb4 : Body Tryd.prog 4 Tryd.f4 := ⟨Tryd.func4, by decide +kernel, rfl⟩
theorem fb5 : Body Tryd.prog 5 Tryd.f5 := ⟨Tryd.func5, by decide +kernel, rfl⟩
theorem fb6 : Body Tryd.prog 6 Tryd.f6 := ⟨Tryd.func6, by decide +kernel, rfl⟩
theorem fb7 : Body Tryd.prog 7 Tryd.f7 := ⟨Tryd.func7, by decide +kernel, rfl⟩
theorem fb8 : Body Tryd.prog 8 Tryd.f8 := ⟨Tryd.func8, by decide +kernel, rfl⟩
theorem fb9 : Body Tryd.prog 9 Tryd.f9 := ⟨Tryd.func9, by decide +kernel, rfl⟩
theorem fb10 : Body Tryd.prog 10 Tryd.f10 := ⟨Tryd.func10, by decide +kernel, rfl⟩
theorem fb11 : Body Tryd.prog 11 Tryd.f11 := ⟨Tryd.func11, by decide +kernel, rfl⟩
theorem fb12 : Body Tryd.prog 12 Tryd.f12 := ⟨Tryd.func12, by decide +kernel, rfl⟩
theorem fb13 : Body Tryd.prog 13 Tryd.f13 := ⟨Tryd.func13, by decide +kernel, rfl⟩
theorem fb14 : Body Tryd.prog 14 Tryd.f14 := ⟨Tryd.func14, by decide +kernel, rfl⟩
theorem fb15 : Body Tryd.prog 15 Tryd.f15 := ⟨Tryd.func15, by decide +kernel, rfl⟩
theorem fb16 : Body Tryd.prog 16 Tryd.f16 := ⟨Tryd.func16, by decide +kernel, rfl⟩
theorem fb17 : Body Tryd.prog 17 Tryd.f17 := ⟨Tryd.func17, by decide +kernel, rfl⟩
theorem fb18 : Body Tryd.prog 18 Tryd.f18 := ⟨Tryd.func18, by decide +kernel, rfl⟩
theorem fb19 : Body Tryd.prog 19 Tryd.f19 := ⟨Tryd.func19, by decide +kernel, rfl⟩
theorem fb20 : Body Tryd.prog 20 Tryd.f20 := ⟨Tryd.func20, by decide +kernel, rfl⟩
theorem fb21 : Body Tryd.prog 21 Tryd.f21 := ⟨Tryd.func21, by decide +kernel, rfl⟩
theorem fb22 : Body Tryd.prog 22 Tryd.f22 := ⟨Tryd.func22, by decide +kernel, rfl⟩
theorem fb23 : Body Tryd.prog 23 Tryd.f23 := ⟨Tryd.func23, by decide +kernel, rfl⟩
theorem fb24 : Body Tryd.prog 24 Tryd.f24 := ⟨Tryd.func24, by decide +kernel, rfl⟩
theorem fb25 : Body Tryd.prog 25 Tryd.f25 := ⟨Tryd.func25, by decide +kernel, rfl⟩
theorem fb26 : Body Tryd.prog 26 Tryd.f26 := ⟨Tryd.func26, by decide +kernel, rfl⟩
theorem fb27 : Body Tryd.prog 27 Tryd.f27 := ⟨Tryd.func27, by decide +kernel, rfl⟩
theorem fb28 : Body Tryd.prog 28 Tryd.f28 := ⟨Tryd.func28, by decide +kernel, rfl⟩
theorem fb29 : Body Tryd.prog 29 Tryd.f29 := ⟨Tryd.func29, by decide +kernel, rfl⟩
theorem fb30 : Body Tryd.prog 30 Tryd.f30 := ⟨Tryd.func30, by decide +kernel, rfl⟩
theorem fb31 : Body Tryd.prog 31 Tryd.f31 := ⟨Tryd.func31, by decide +kernel, rfl⟩
theorem fb32 : Body Tryd.prog 32 Tryd.f32 := ⟨Tryd.func32, by decide +kernel, rfl⟩
theorem fb33 : Body Tryd.prog 33 Tryd.f33 := ⟨Tryd.func33, by decide +kernel, rfl⟩
theorem fb34 : Body Tryd.prog 34 Tryd.f34 := ⟨Tryd.func34, by decide +kernel, rfl⟩
theorem fb35 : Body Tryd.prog 35 Tryd.f35 := ⟨Tryd.func35, by decide +kernel, rfl⟩
theorem fb36 : Body Tryd.prog 36 Tryd.f36 := ⟨Tryd.func36, by decide +kernel, rfl⟩
theorem fb37 : Body Tryd.prog 37 Tryd.f37 := ⟨Tryd.func37, by decide +kernel, rfl⟩
theorem fb38 : Body Tryd.prog 38 Tryd.f38 := ⟨Tryd.func38, by decide +kernel, rfl⟩
theorem fb39 : Body Tryd.prog 39 Tryd.f39 := ⟨Tryd.func39, by decide +kernel, rfl⟩
theorem fb40 : Body Tryd.prog 40 Tryd.f40 := ⟨Tryd.func40, by decide +kernel, rfl⟩
theorem fb41 : Body Tryd.prog 41 Tryd.f41 := ⟨Tryd.func41, by decide +kernel, rfl⟩
theorem fb42 : Body Tryd.prog 42 Tryd.f42 := ⟨Tryd.func42, by decide +kernel, rfl⟩
theorem fb43 : Body Tryd.prog 43 Tryd.f43 := ⟨Tryd.func43, by decide +kernel, rfl⟩
theorem fb44 : Body Tryd.prog 44 Tryd.f44 := ⟨Tryd.func44, by decide +kernel, rfl⟩
theorem fb45 : Body Tryd.prog 45 Tryd.f45 := ⟨Tryd.func45, by decide +kernel, rfl⟩
theorem fb46 : Body Tryd.prog 46 Tryd.f46 := ⟨Tryd.func46, by decide +kernel, rfl⟩
theorem fb47 : Body Tryd.prog 47 Tryd.f47 := ⟨Tryd.func47, by decide +kernel, rfl⟩
theorem fb48 : Body Tryd.prog 48 Tryd.f48 := ⟨Tryd.func48, by decide +kernel, rfl⟩
theorem fb49 : Body Tryd.prog 49 Tryd.f49 := ⟨Tryd.func49, by decide +kernel, rfl⟩
theorem fb50 : Body Tryd.prog 50 Tryd.f50 := ⟨Tryd.func50, by decide +kernel, rfl⟩
theorem fb51 : Body Tryd.prog 51 Tryd.f51 := ⟨Tryd.func51, by decide +kernel, rfl⟩
theorem fb52 : Body Tryd.prog 52 Tryd.f52 := ⟨Tryd.func52, by decide +kernel, rfl⟩
theorem fb53 : Body Tryd.prog 53 Tryd.f53 := ⟨Tryd.func53, by decide +kernel, rfl⟩
theorem fb54 : Body Tryd.prog 54 Tryd.f54 := ⟨Tryd.func54, by decide +kernel, rfl⟩
theorem fb55 : Body Tryd.prog 55 Tryd.f55 := ⟨Tryd.func55, by decide +kernel, rfl⟩
theorem fb56 : Body Tryd.prog 56 Tryd.f56 := ⟨Tryd.func56, by decide +kernel, rfl⟩
theorem fb57 : Body Tryd.prog 57 Tryd.f57 := ⟨Tryd.func57, by decide +kernel, rfl⟩
theorem fb58 : Body Tryd.prog 58 Tryd.f58 := ⟨Tryd.func58, by decide +kernel, rfl⟩
theorem fb59 : Body Tryd.prog 59 Tryd.f59 := ⟨Tryd.func59, by decide +kernel, rfl⟩
theorem fb60 : Body Tryd.prog 60 Tryd.f60 := ⟨Tryd.func60, by decide +kernel, rfl⟩
theorem fb61 : Body Tryd.prog 61 Tryd.f61 := ⟨Tryd.func61, by decide +kernel, rfl⟩
theorem fb62 : Body Tryd.prog 62 Tryd.f62 := ⟨Tryd.func62, by decide +kernel, rfl⟩
theorem fb63 : Body Tryd.prog 63 Tryd.f63 := ⟨Tryd.func63, by decide +kernel, rfl⟩
theorem fb64 : Body Tryd.prog 64 Tryd.f64 := ⟨Tryd.func64, by decide +kernel, rfl⟩
theorem fb65 : Body Tryd.prog 65 Tryd.f65 := ⟨Tryd.func65, by decide +kernel, rfl⟩
theorem fb66 : Body Tryd.prog 66 Tryd.f66 := ⟨Tryd.func66, by decide +kernel, rfl⟩
theorem fb67 : Body Tryd.prog 67 Tryd.f67 := ⟨Tryd.func67, by decide +kernel, rfl⟩
theorem fb68 : Body Tryd.prog 68 Tryd.f68 := ⟨Tryd.func68, by decide +kernel, rfl⟩
theorem fb69 : Body Tryd.prog 69 Tryd.f69 := ⟨Tryd.func69, by decide +kernel, rfl⟩
theorem fb70 : Body Tryd.prog 70 Tryd.f70 := ⟨Tryd.func70, by decide +kernel, rfl⟩
theorem fb71 : Body Tryd.prog 71 Tryd.f71 := ⟨Tryd.func71, by decide +kernel, rfl⟩
theorem fb72 : Body Tryd.prog 72 Tryd.f72 := ⟨Tryd.func72, by decide +kernel, rfl⟩
theorem fb73 : Body Tryd.prog 73 Tryd.f73 := ⟨Tryd.func73, by decide +kernel, rfl⟩
theorem fb74 : Body Tryd.prog 74 Tryd.f74 := ⟨Tryd.func74, by decide +kernel, rfl⟩
theorem fb75 : Body Tryd.prog 75 Tryd.f75 := ⟨Tryd.func75, by decide +kernel, rfl⟩
theorem fb76 : Body Tryd.prog 76 Tryd.f76 := ⟨Tryd.func76, by decide +kernel, rfl⟩
theorem fb77 : Body Tryd.prog 77 Tryd.f77 := ⟨Tryd.func77, by decide +kernel, rfl⟩
theorem fb78 : Body Tryd.prog 78 Tryd.f78 := ⟨Tryd.func78, by decide +kernel, rfl⟩
theorem fb79 : Body Tryd.prog 79 Tryd.f79 := ⟨Tryd.func79, by decide +kernel, rfl⟩
theorem fb80 : Body Tryd.prog 80 Tryd.f80 := ⟨Tryd.func80, by decide +kernel, rfl⟩
theorem fb82 : Body Tryd.prog 82 Tryd.f82 := ⟨Tryd.func82, by decide +kernel, rfl⟩
theorem fb83 : Body Tryd.prog 83 Tryd.f83 := ⟨Tryd.func83, by decide +kernel, rfl⟩
theorem fb84 : Body Tryd.prog 84 Tryd.f84 := ⟨Tryd.func84, by decide +kernel, rfl⟩
theorem fb85 : Body Tryd.prog 85 Tryd.f85 := ⟨Tryd.func85, by decide +kernel, rfl⟩
theorem fb86 : Body Tryd.prog 86 Tryd.f86 := ⟨Tryd.func86, by decide +kernel, rfl⟩
theorem fb87 : Body Tryd.prog 87 Tryd.f87 := ⟨Tryd.func87, by decide +kernel, rfl⟩
theorem fb88 : Body Tryd.prog 88 Tryd.f88 := ⟨Tryd.func88, by decide +kernel, rfl⟩
theorem fb89 : Body Tryd.prog 89 Tryd.f89 := ⟨Tryd.func89, by decide +kernel, rfl⟩
theorem fb90 : Body Tryd.prog 90 Tryd.f90 := ⟨Tryd.func90, by decide +kernel, rfl⟩
theorem fb91 : Body Tryd.prog 91 Tryd.f91 := ⟨Tryd.func91, by decide +kernel, rfl⟩
theorem fb92 : Body Tryd.prog 92 Tryd.f92 := ⟨Tryd.func92, by decide +kernel, rfl⟩
theorem fb93 : Body Tryd.prog 93 Tryd.f93 := ⟨Tryd.func93, by decide +kernel, rfl⟩
theorem fb94 : Body Tryd.prog 94 Tryd.f94 := ⟨Tryd.func94, by decide +kernel, rfl⟩
theorem fb95 : Body Tryd.prog 95 Tryd.f95 := ⟨Tryd.func95, by decide +kernel, rfl⟩
theorem fb96 : Body Tryd.prog 96 Tryd.f96 := ⟨Tryd.func96, by decide +kernel, rfl⟩
theorem fb97 : Body Tryd.prog 97 Tryd.f97 := ⟨Tryd.func97, by decide +kernel, rfl⟩
theorem fb98 : Body Tryd.prog 98 Tryd.f98 := ⟨Tryd.func98, by decide +kernel, rfl⟩
theorem fb99 : Body Tryd.prog 99 Tryd.f99 := ⟨Tryd.func99, by decide +kernel, rfl⟩
theorem fb100 : Body Tryd.prog 100 Tryd.f100 := ⟨Tryd.func100, by decide +kernel, rfl⟩
theorem fb101 : Body Tryd.prog 101 Tryd.f101 := ⟨Tryd.func101, by decide +kernel, rfl⟩
theorem fb102 : Body Tryd.prog 102 Tryd.f102 := ⟨Tryd.func102, by decide +kernel, rfl⟩
theorem fb103 : Body Tryd.prog 103 Tryd.f103 := ⟨Tryd.func103, by decide +kernel, rfl⟩
theorem fb104 : Body Tryd.prog 104 Tryd.f104 := ⟨Tryd.func104, by decide +kernel, rfl⟩
theorem fb105 : Body Tryd.prog 105 Tryd.f105 := ⟨Tryd.func105, by decide +kernel, rfl⟩
theorem fb106 : Body Tryd.prog 106 Tryd.f106 := ⟨Tryd.func106, by decide +kernel, rfl⟩
theorem fb107 : Body Tryd.prog 107 Tryd.f107 := ⟨Tryd.func107, by decide +kernel, rfl⟩
theorem fb108 : Body Tryd.prog 108 Tryd.f108 := ⟨Tryd.func108, by decide +kernel, rfl⟩
theorem fb109 : Body Tryd.prog 109 Tryd.f109 := ⟨Tryd.func109, by decide +kernel, rfl⟩
theorem fb110 : Body Tryd.prog 110 Tryd.f110 := ⟨Tryd.func110, by decide +kernel, rfl⟩
theorem fb111 : Body Tryd.prog 111 Tryd.f111 := ⟨Tryd.func111, by decide +kernel, rfl⟩
theorem fb112 : Body Tryd.prog 112 Tryd.f112 := ⟨Tryd.func112, by decide +kernel, rfl⟩
theorem fb113 : Body Tryd.prog 113 Tryd.f113 := ⟨Tryd.func113, by decide +kernel, rfl⟩
theorem fb114 : Body Tryd.prog 114 Tryd.f114 := ⟨Tryd.func114, by decide +kernel, rfl⟩
theorem fb115 : Body Tryd.prog 115 Tryd.f115 := ⟨Tryd.func115, by decide +kernel, rfl⟩
theorem fb132 : Body Tryd.prog 132 Tryd.f132 := ⟨Tryd.func132, by decide +kernel, rfl⟩
theorem fb133 : Body Tryd.prog 133 Tryd.f133 := ⟨Tryd.func133, by decide +kernel, rfl⟩
theorem fb134 : Body Tryd.prog 134 Tryd.f134 := ⟨Tryd.func134, by decide +kernel, rfl⟩
theorem fb135 : Body Tryd.prog 135 Tryd.f135 := ⟨Tryd.func135, by decide +kernel, rfl⟩
theorem fb141 : Body Tryd.prog 141 Tryd.f141 := ⟨Tryd.func141, by decide +kernel, rfl⟩
end Go.Sp.TrydT
