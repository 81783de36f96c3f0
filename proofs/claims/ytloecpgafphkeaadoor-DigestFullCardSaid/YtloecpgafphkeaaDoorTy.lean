/- What the program says of its types, and that its functions have bodies. -/
import Derived.Test.YtloecpgafphkeaaDoorProg
import Derived.Test.YtloecpgafphkeaaDoorRules
import Derived.Test.YtloecpgafphkeaaDoorClose
set_option maxRecDepth 100000
namespace Go.Sp.TrydT
open Go.Proofs Go.Sp
theorem mixed : Tryd.prog.follows .mixedOrders = true := by kernel_rfl
theorem ag0 : tyAgg Tryd.prog 0 = some false := by kernel_rfl
theorem sz0 : tySize Tryd.prog 0 = some 1 := by kernel_rfl
theorem ag1 : tyAgg Tryd.prog 1 = some false := by kernel_rfl
theorem sz1 : tySize Tryd.prog 1 = some 1 := by kernel_rfl
theorem ze1 : tyCells Tryd.prog 1 = some ([.nilFunc]) := by kernel_rfl
theorem ag2 : tyAgg Tryd.prog 2 = some false := by kernel_rfl
theorem sz2 : tySize Tryd.prog 2 = some 1 := by kernel_rfl
theorem in2 : tyInt Tryd.prog 2 = some .i64 := by kernel_rfl
theorem ze2 : tyCells Tryd.prog 2 = some ([.int .i64 (0)]) := by kernel_rfl
theorem ag3 : tyAgg Tryd.prog 3 = some false := by kernel_rfl
theorem sz3 : tySize Tryd.prog 3 = some 1 := by kernel_rfl
theorem in3 : tyInt Tryd.prog 3 = some .i64 := by kernel_rfl
theorem ze3 : tyCells Tryd.prog 3 = some ([.int .i64 (0)]) := by kernel_rfl
theorem ag4 : tyAgg Tryd.prog 4 = some false := by kernel_rfl
theorem sz4 : tySize Tryd.prog 4 = some 1 := by kernel_rfl
theorem bo4 : tyBool Tryd.prog 4 = true := by kernel_rfl
theorem ze4 : tyCells Tryd.prog 4 = some ([.bool false]) := by kernel_rfl
theorem ag5 : tyAgg Tryd.prog 5 = some false := by kernel_rfl
theorem sz5 : tySize Tryd.prog 5 = some 1 := by kernel_rfl
theorem in5 : tyInt Tryd.prog 5 = some .u8 := by kernel_rfl
theorem ze5 : tyCells Tryd.prog 5 = some ([.int .u8 (0)]) := by kernel_rfl
theorem ag6 : tyAgg Tryd.prog 6 = some false := by kernel_rfl
theorem sz6 : tySize Tryd.prog 6 = some 1 := by kernel_rfl
theorem in6 : tyInt Tryd.prog 6 = some .u8 := by kernel_rfl
theorem ze6 : tyCells Tryd.prog 6 = some ([.int .u8 (0)]) := by kernel_rfl
theorem ag7 : tyAgg Tryd.prog 7 = some true := by kernel_rfl
theorem sz7 : tySize Tryd.prog 7 = some 4 := by kernel_rfl
theorem fd7_0 : tyField Tryd.prog 7 0 = some (0, 2, 1) := by kernel_rfl
theorem fd7_1 : tyField Tryd.prog 7 1 = some (1, 3, 1) := by kernel_rfl
theorem fd7_2 : tyField Tryd.prog 7 2 = some (2, 4, 1) := by kernel_rfl
theorem fd7_3 : tyField Tryd.prog 7 3 = some (3, 6, 1) := by kernel_rfl
theorem ze7 : tyCells Tryd.prog 7 = some ([.int .i64 (0), .int .i64 (0), .bool false, .int .u8 (0)]) := by kernel_rfl
theorem ag8 : tyAgg Tryd.prog 8 = some true := by kernel_rfl
theorem sz8 : tySize Tryd.prog 8 = some 4 := by kernel_rfl
theorem fd8_0 : tyField Tryd.prog 8 0 = some (0, 2, 1) := by kernel_rfl
theorem fd8_1 : tyField Tryd.prog 8 1 = some (1, 3, 1) := by kernel_rfl
theorem fd8_2 : tyField Tryd.prog 8 2 = some (2, 4, 1) := by kernel_rfl
theorem fd8_3 : tyField Tryd.prog 8 3 = some (3, 6, 1) := by kernel_rfl
theorem ze8 : tyCells Tryd.prog 8 = some ([.int .i64 (0), .int .i64 (0), .bool false, .int .u8 (0)]) := by kernel_rfl
theorem ag9 : tyAgg Tryd.prog 9 = some false := by kernel_rfl
theorem sz9 : tySize Tryd.prog 9 = some 1 := by kernel_rfl
theorem ze9 : tyCells Tryd.prog 9 = some ([.string ⟨#[]⟩]) := by kernel_rfl
theorem ag10 : tyAgg Tryd.prog 10 = some false := by kernel_rfl
theorem sz10 : tySize Tryd.prog 10 = some 1 := by kernel_rfl
theorem ze10 : tyCells Tryd.prog 10 = some ([.string ⟨#[]⟩]) := by kernel_rfl
theorem ag11 : tyAgg Tryd.prog 11 = some false := by kernel_rfl
theorem sz11 : tySize Tryd.prog 11 = some 1 := by kernel_rfl
theorem ze11 : tyCells Tryd.prog 11 = some ([.string ⟨#[]⟩]) := by kernel_rfl
theorem ag12 : tyAgg Tryd.prog 12 = some false := by kernel_rfl
theorem sz12 : tySize Tryd.prog 12 = some 1 := by kernel_rfl
theorem in12 : tyInt Tryd.prog 12 = some .u64 := by kernel_rfl
theorem ze12 : tyCells Tryd.prog 12 = some ([.int .u64 (0)]) := by kernel_rfl
theorem ag13 : tyAgg Tryd.prog 13 = some true := by kernel_rfl
theorem sz13 : tySize Tryd.prog 13 = some 2 := by kernel_rfl
theorem fd13_0 : tyField Tryd.prog 13 0 = some (0, 9, 1) := by kernel_rfl
theorem fd13_1 : tyField Tryd.prog 13 1 = some (1, 12, 1) := by kernel_rfl
theorem ze13 : tyCells Tryd.prog 13 = some ([.string ⟨#[]⟩, .int .u64 (0)]) := by kernel_rfl
theorem ag14 : tyAgg Tryd.prog 14 = some true := by kernel_rfl
theorem sz14 : tySize Tryd.prog 14 = some 2 := by kernel_rfl
theorem fd14_0 : tyField Tryd.prog 14 0 = some (0, 9, 1) := by kernel_rfl
theorem fd14_1 : tyField Tryd.prog 14 1 = some (1, 12, 1) := by kernel_rfl
theorem ze14 : tyCells Tryd.prog 14 = some ([.string ⟨#[]⟩, .int .u64 (0)]) := by kernel_rfl
theorem ag15 : tyAgg Tryd.prog 15 = some false := by kernel_rfl
theorem sz15 : tySize Tryd.prog 15 = some 1 := by kernel_rfl
theorem pt15 : tyPtr Tryd.prog 15 = some 79 := by kernel_rfl
theorem ze15 : tyCells Tryd.prog 15 = some ([.pointer none]) := by kernel_rfl
theorem ag16 : tyAgg Tryd.prog 16 = some false := by kernel_rfl
theorem sz16 : tySize Tryd.prog 16 = some 1 := by kernel_rfl
theorem pt16 : tyPtr Tryd.prog 16 = some 82 := by kernel_rfl
theorem ze16 : tyCells Tryd.prog 16 = some ([.pointer none]) := by kernel_rfl
theorem ag17 : tyAgg Tryd.prog 17 = some false := by kernel_rfl
theorem sz17 : tySize Tryd.prog 17 = some 1 := by kernel_rfl
theorem pt17 : tyPtr Tryd.prog 17 = some 90 := by kernel_rfl
theorem ze17 : tyCells Tryd.prog 17 = some ([.pointer none]) := by kernel_rfl
theorem ag18 : tyAgg Tryd.prog 18 = some true := by kernel_rfl
theorem sz18 : tySize Tryd.prog 18 = some 1 := by kernel_rfl
theorem fd18_0 : tyField Tryd.prog 18 0 = some (0, 17, 1) := by kernel_rfl
theorem ze18 : tyCells Tryd.prog 18 = some ([.pointer none]) := by kernel_rfl
theorem ag19 : tyAgg Tryd.prog 19 = some true := by kernel_rfl
theorem sz19 : tySize Tryd.prog 19 = some 1 := by kernel_rfl
theorem fd19_0 : tyField Tryd.prog 19 0 = some (0, 17, 1) := by kernel_rfl
theorem ze19 : tyCells Tryd.prog 19 = some ([.pointer none]) := by kernel_rfl
theorem ag20 : tyAgg Tryd.prog 20 = some false := by kernel_rfl
theorem sz20 : tySize Tryd.prog 20 = some 1 := by kernel_rfl
theorem ze20 : tyCells Tryd.prog 20 = some ([.nilIface]) := by kernel_rfl
theorem ag21 : tyAgg Tryd.prog 21 = some false := by kernel_rfl
theorem sz21 : tySize Tryd.prog 21 = some 1 := by kernel_rfl
theorem in21 : tyInt Tryd.prog 21 = some .i32 := by kernel_rfl
theorem ze21 : tyCells Tryd.prog 21 = some ([.int .i32 (0)]) := by kernel_rfl
theorem ag22 : tyAgg Tryd.prog 22 = some false := by kernel_rfl
theorem sz22 : tySize Tryd.prog 22 = some 1 := by kernel_rfl
theorem sl22 : tySlice Tryd.prog 22 = some 5 := by kernel_rfl
theorem ze22 : tyCells Tryd.prog 22 = some ([.slice none 0 0]) := by kernel_rfl
theorem ag23 : tyAgg Tryd.prog 23 = some false := by kernel_rfl
theorem sz23 : tySize Tryd.prog 23 = some 1 := by kernel_rfl
theorem ze23 : tyCells Tryd.prog 23 = some ([.nilFunc]) := by kernel_rfl
theorem ag24 : tyAgg Tryd.prog 24 = some false := by kernel_rfl
theorem sz24 : tySize Tryd.prog 24 = some 1 := by kernel_rfl
theorem ze24 : tyCells Tryd.prog 24 = some ([.nilFunc]) := by kernel_rfl
theorem ag25 : tyAgg Tryd.prog 25 = some false := by kernel_rfl
theorem sz25 : tySize Tryd.prog 25 = some 1 := by kernel_rfl
theorem ze25 : tyCells Tryd.prog 25 = some ([.nilFunc]) := by kernel_rfl
theorem ag26 : tyAgg Tryd.prog 26 = some false := by kernel_rfl
theorem sz26 : tySize Tryd.prog 26 = some 1 := by kernel_rfl
theorem ze26 : tyCells Tryd.prog 26 = some ([.nilFunc]) := by kernel_rfl
theorem ag27 : tyAgg Tryd.prog 27 = some false := by kernel_rfl
theorem sz27 : tySize Tryd.prog 27 = some 1 := by kernel_rfl
theorem ze27 : tyCells Tryd.prog 27 = some ([.nilFunc]) := by kernel_rfl
theorem ag28 : tyAgg Tryd.prog 28 = some false := by kernel_rfl
theorem sz28 : tySize Tryd.prog 28 = some 1 := by kernel_rfl
theorem ze28 : tyCells Tryd.prog 28 = some ([.nilFunc]) := by kernel_rfl
theorem ag29 : tyAgg Tryd.prog 29 = some false := by kernel_rfl
theorem sz29 : tySize Tryd.prog 29 = some 1 := by kernel_rfl
theorem in29 : tyInt Tryd.prog 29 = some .u16 := by kernel_rfl
theorem ze29 : tyCells Tryd.prog 29 = some ([.int .u16 (0)]) := by kernel_rfl
theorem ag30 : tyAgg Tryd.prog 30 = some true := by kernel_rfl
theorem sz30 : tySize Tryd.prog 30 = some 32 := by kernel_rfl
theorem ar30 : tyArray Tryd.prog 30 = some (32, 5) := by kernel_rfl
theorem ze30 : tyCells Tryd.prog 30 = some (kc (List.replicate 32 0)) := by kernel_rfl
theorem ag31 : tyAgg Tryd.prog 31 = some true := by kernel_rfl
theorem sz31 : tySize Tryd.prog 31 = some 32 := by kernel_rfl
theorem ar31 : tyArray Tryd.prog 31 = some (32, 5) := by kernel_rfl
theorem ze31 : tyCells Tryd.prog 31 = some (kc (List.replicate 32 0)) := by kernel_rfl
theorem ag32 : tyAgg Tryd.prog 32 = some false := by kernel_rfl
theorem sz32 : tySize Tryd.prog 32 = some 1 := by kernel_rfl
theorem ze32 : tyCells Tryd.prog 32 = some ([.nilFunc]) := by kernel_rfl
theorem ag33 : tyAgg Tryd.prog 33 = some false := by kernel_rfl
theorem sz33 : tySize Tryd.prog 33 = some 1 := by kernel_rfl
theorem ze33 : tyCells Tryd.prog 33 = some ([.nilFunc]) := by kernel_rfl
theorem ag34 : tyAgg Tryd.prog 34 = some false := by kernel_rfl
theorem sz34 : tySize Tryd.prog 34 = some 1 := by kernel_rfl
theorem ze34 : tyCells Tryd.prog 34 = some ([.nilFunc]) := by kernel_rfl
theorem ag35 : tyAgg Tryd.prog 35 = some false := by kernel_rfl
theorem sz35 : tySize Tryd.prog 35 = some 1 := by kernel_rfl
theorem sl35 : tySlice Tryd.prog 35 = some 22 := by kernel_rfl
theorem ze35 : tyCells Tryd.prog 35 = some ([.slice none 0 0]) := by kernel_rfl
theorem ag36 : tyAgg Tryd.prog 36 = some false := by kernel_rfl
theorem sz36 : tySize Tryd.prog 36 = some 1 := by kernel_rfl
theorem ze36 : tyCells Tryd.prog 36 = some ([.nilFunc]) := by kernel_rfl
theorem ag37 : tyAgg Tryd.prog 37 = some false := by kernel_rfl
theorem sz37 : tySize Tryd.prog 37 = some 1 := by kernel_rfl
theorem pt37 : tyPtr Tryd.prog 37 = some 66 := by kernel_rfl
theorem ze37 : tyCells Tryd.prog 37 = some ([.pointer none]) := by kernel_rfl
theorem ag38 : tyAgg Tryd.prog 38 = some false := by kernel_rfl
theorem sz38 : tySize Tryd.prog 38 = some 1 := by kernel_rfl
theorem in38 : tyInt Tryd.prog 38 = some .i64 := by kernel_rfl
theorem ze38 : tyCells Tryd.prog 38 = some ([.int .i64 (0)]) := by kernel_rfl
theorem ag39 : tyAgg Tryd.prog 39 = some false := by kernel_rfl
theorem sz39 : tySize Tryd.prog 39 = some 1 := by kernel_rfl
theorem ag40 : tyAgg Tryd.prog 40 = some false := by kernel_rfl
theorem sz40 : tySize Tryd.prog 40 = some 1 := by kernel_rfl
theorem ze40 : tyCells Tryd.prog 40 = some ([.nilFunc]) := by kernel_rfl
theorem ag41 : tyAgg Tryd.prog 41 = some false := by kernel_rfl
theorem sz41 : tySize Tryd.prog 41 = some 1 := by kernel_rfl
theorem ze41 : tyCells Tryd.prog 41 = some ([.nilFunc]) := by kernel_rfl
theorem ag42 : tyAgg Tryd.prog 42 = some false := by kernel_rfl
theorem sz42 : tySize Tryd.prog 42 = some 1 := by kernel_rfl
theorem ze42 : tyCells Tryd.prog 42 = some ([.nilFunc]) := by kernel_rfl
theorem ag43 : tyAgg Tryd.prog 43 = some false := by kernel_rfl
theorem sz43 : tySize Tryd.prog 43 = some 1 := by kernel_rfl
theorem ze43 : tyCells Tryd.prog 43 = some ([.nilFunc]) := by kernel_rfl
theorem ag44 : tyAgg Tryd.prog 44 = some false := by kernel_rfl
theorem sz44 : tySize Tryd.prog 44 = some 1 := by kernel_rfl
theorem ze44 : tyCells Tryd.prog 44 = some ([.nilFunc]) := by kernel_rfl
theorem ag45 : tyAgg Tryd.prog 45 = some false := by kernel_rfl
theorem sz45 : tySize Tryd.prog 45 = some 1 := by kernel_rfl
theorem ze45 : tyCells Tryd.prog 45 = some ([.nilFunc]) := by kernel_rfl
theorem ag46 : tyAgg Tryd.prog 46 = some false := by kernel_rfl
theorem sz46 : tySize Tryd.prog 46 = some 1 := by kernel_rfl
theorem ze46 : tyCells Tryd.prog 46 = some ([.nilFunc]) := by kernel_rfl
theorem ag47 : tyAgg Tryd.prog 47 = some false := by kernel_rfl
theorem sz47 : tySize Tryd.prog 47 = some 1 := by kernel_rfl
theorem in47 : tyInt Tryd.prog 47 = some .u64 := by kernel_rfl
theorem ze47 : tyCells Tryd.prog 47 = some ([.int .u64 (0)]) := by kernel_rfl
theorem ag48 : tyAgg Tryd.prog 48 = some false := by kernel_rfl
theorem sz48 : tySize Tryd.prog 48 = some 1 := by kernel_rfl
theorem in48 : tyInt Tryd.prog 48 = some .u64 := by kernel_rfl
theorem ze48 : tyCells Tryd.prog 48 = some ([.int .u64 (0)]) := by kernel_rfl
theorem ag49 : tyAgg Tryd.prog 49 = some false := by kernel_rfl
theorem sz49 : tySize Tryd.prog 49 = some 1 := by kernel_rfl
theorem in49 : tyInt Tryd.prog 49 = some .u32 := by kernel_rfl
theorem ze49 : tyCells Tryd.prog 49 = some ([.int .u32 (0)]) := by kernel_rfl
theorem ag50 : tyAgg Tryd.prog 50 = some true := by kernel_rfl
theorem sz50 : tySize Tryd.prog 50 = some 8 := by kernel_rfl
theorem ar50 : tyArray Tryd.prog 50 = some (8, 49) := by kernel_rfl
theorem ze50 : tyCells Tryd.prog 50 = some (kw (List.replicate 8 0)) := by kernel_rfl
theorem ag51 : tyAgg Tryd.prog 51 = some false := by kernel_rfl
theorem sz51 : tySize Tryd.prog 51 = some 1 := by kernel_rfl
theorem sl51 : tySlice Tryd.prog 51 = some 49 := by kernel_rfl
theorem ze51 : tyCells Tryd.prog 51 = some ([.slice none 0 0]) := by kernel_rfl
theorem ag52 : tyAgg Tryd.prog 52 = some false := by kernel_rfl
theorem sz52 : tySize Tryd.prog 52 = some 1 := by kernel_rfl
theorem ze52 : tyCells Tryd.prog 52 = some ([.nilFunc]) := by kernel_rfl
theorem ag53 : tyAgg Tryd.prog 53 = some false := by kernel_rfl
theorem sz53 : tySize Tryd.prog 53 = some 1 := by kernel_rfl
theorem ze53 : tyCells Tryd.prog 53 = some ([.nilFunc]) := by kernel_rfl
theorem ag54 : tyAgg Tryd.prog 54 = some false := by kernel_rfl
theorem sz54 : tySize Tryd.prog 54 = some 1 := by kernel_rfl
theorem ze54 : tyCells Tryd.prog 54 = some ([.nilFunc]) := by kernel_rfl
theorem ag55 : tyAgg Tryd.prog 55 = some false := by kernel_rfl
theorem sz55 : tySize Tryd.prog 55 = some 1 := by kernel_rfl
theorem ze55 : tyCells Tryd.prog 55 = some ([.nilFunc]) := by kernel_rfl
theorem ag56 : tyAgg Tryd.prog 56 = some true := by kernel_rfl
theorem sz56 : tySize Tryd.prog 56 = some 8 := by kernel_rfl
theorem ar56 : tyArray Tryd.prog 56 = some (8, 49) := by kernel_rfl
theorem ze56 : tyCells Tryd.prog 56 = some (kw (List.replicate 8 0)) := by kernel_rfl
theorem ag57 : tyAgg Tryd.prog 57 = some false := by kernel_rfl
theorem sz57 : tySize Tryd.prog 57 = some 1 := by kernel_rfl
theorem ze57 : tyCells Tryd.prog 57 = some ([.nilFunc]) := by kernel_rfl
theorem ag58 : tyAgg Tryd.prog 58 = some false := by kernel_rfl
theorem sz58 : tySize Tryd.prog 58 = some 1 := by kernel_rfl
theorem ze58 : tyCells Tryd.prog 58 = some ([.nilFunc]) := by kernel_rfl
theorem ag59 : tyAgg Tryd.prog 59 = some false := by kernel_rfl
theorem sz59 : tySize Tryd.prog 59 = some 1 := by kernel_rfl
theorem ze59 : tyCells Tryd.prog 59 = some ([.nilFunc]) := by kernel_rfl
theorem ag60 : tyAgg Tryd.prog 60 = some false := by kernel_rfl
theorem sz60 : tySize Tryd.prog 60 = some 1 := by kernel_rfl
theorem ze60 : tyCells Tryd.prog 60 = some ([.nilFunc]) := by kernel_rfl
theorem ag61 : tyAgg Tryd.prog 61 = some false := by kernel_rfl
theorem sz61 : tySize Tryd.prog 61 = some 1 := by kernel_rfl
theorem ze61 : tyCells Tryd.prog 61 = some ([.nilFunc]) := by kernel_rfl
theorem ag62 : tyAgg Tryd.prog 62 = some false := by kernel_rfl
theorem sz62 : tySize Tryd.prog 62 = some 1 := by kernel_rfl
theorem pt62 : tyPtr Tryd.prog 62 = some 64 := by kernel_rfl
theorem ze62 : tyCells Tryd.prog 62 = some ([.pointer none]) := by kernel_rfl
theorem ag63 : tyAgg Tryd.prog 63 = some true := by kernel_rfl
theorem sz63 : tySize Tryd.prog 63 = some 1 := by kernel_rfl
theorem fd63_0 : tyField Tryd.prog 63 0 = some (0, 3, 1) := by kernel_rfl
theorem ze63 : tyCells Tryd.prog 63 = some ([.int .i64 (0)]) := by kernel_rfl
theorem ag64 : tyAgg Tryd.prog 64 = some true := by kernel_rfl
theorem sz64 : tySize Tryd.prog 64 = some 1 := by kernel_rfl
theorem fd64_0 : tyField Tryd.prog 64 0 = some (0, 3, 1) := by kernel_rfl
theorem ze64 : tyCells Tryd.prog 64 = some ([.int .i64 (0)]) := by kernel_rfl
theorem ag65 : tyAgg Tryd.prog 65 = some true := by kernel_rfl
theorem sz65 : tySize Tryd.prog 65 = some 2 := by kernel_rfl
theorem fd65_0 : tyField Tryd.prog 65 0 = some (0, 62, 1) := by kernel_rfl
theorem fd65_1 : tyField Tryd.prog 65 1 = some (1, 3, 1) := by kernel_rfl
theorem ze65 : tyCells Tryd.prog 65 = some ([.pointer none, .int .i64 (0)]) := by kernel_rfl
theorem ag66 : tyAgg Tryd.prog 66 = some true := by kernel_rfl
theorem sz66 : tySize Tryd.prog 66 = some 2 := by kernel_rfl
theorem fd66_0 : tyField Tryd.prog 66 0 = some (0, 62, 1) := by kernel_rfl
theorem fd66_1 : tyField Tryd.prog 66 1 = some (1, 3, 1) := by kernel_rfl
theorem ze66 : tyCells Tryd.prog 66 = some ([.pointer none, .int .i64 (0)]) := by kernel_rfl
theorem ag67 : tyAgg Tryd.prog 67 = some true := by kernel_rfl
theorem sz67 : tySize Tryd.prog 67 = some 32 := by kernel_rfl
theorem ar67 : tyArray Tryd.prog 67 = some (32, 5) := by kernel_rfl
theorem ze67 : tyCells Tryd.prog 67 = some (kc (List.replicate 32 0)) := by kernel_rfl
theorem ag68 : tyAgg Tryd.prog 68 = some false := by kernel_rfl
theorem sz68 : tySize Tryd.prog 68 = some 1 := by kernel_rfl
theorem ze68 : tyCells Tryd.prog 68 = some ([.nilFunc]) := by kernel_rfl
theorem ag69 : tyAgg Tryd.prog 69 = some false := by kernel_rfl
theorem sz69 : tySize Tryd.prog 69 = some 1 := by kernel_rfl
theorem ze69 : tyCells Tryd.prog 69 = some ([.nilFunc]) := by kernel_rfl
theorem ag70 : tyAgg Tryd.prog 70 = some false := by kernel_rfl
theorem sz70 : tySize Tryd.prog 70 = some 1 := by kernel_rfl
theorem pt70 : tyPtr Tryd.prog 70 = some 56 := by kernel_rfl
theorem ze70 : tyCells Tryd.prog 70 = some ([.pointer none]) := by kernel_rfl
theorem ag71 : tyAgg Tryd.prog 71 = some true := by kernel_rfl
theorem sz71 : tySize Tryd.prog 71 = some 16 := by kernel_rfl
theorem ar71 : tyArray Tryd.prog 71 = some (16, 49) := by kernel_rfl
theorem ze71 : tyCells Tryd.prog 71 = some (kw (List.replicate 16 0)) := by kernel_rfl
theorem ag72 : tyAgg Tryd.prog 72 = some true := by kernel_rfl
theorem sz72 : tySize Tryd.prog 72 = some 64 := by kernel_rfl
theorem ar72 : tyArray Tryd.prog 72 = some (64, 49) := by kernel_rfl
theorem ze72 : tyCells Tryd.prog 72 = some (kw (List.replicate 64 0)) := by kernel_rfl
theorem ag73 : tyAgg Tryd.prog 73 = some false := by kernel_rfl
theorem sz73 : tySize Tryd.prog 73 = some 1 := by kernel_rfl
theorem ze73 : tyCells Tryd.prog 73 = some ([.nilFunc]) := by kernel_rfl
theorem ag74 : tyAgg Tryd.prog 74 = some false := by kernel_rfl
theorem sz74 : tySize Tryd.prog 74 = some 1 := by kernel_rfl
theorem ze74 : tyCells Tryd.prog 74 = some ([.nilFunc]) := by kernel_rfl
theorem ag75 : tyAgg Tryd.prog 75 = some false := by kernel_rfl
theorem sz75 : tySize Tryd.prog 75 = some 1 := by kernel_rfl
theorem sl75 : tySlice Tryd.prog 75 = some 3 := by kernel_rfl
theorem ze75 : tyCells Tryd.prog 75 = some ([.slice none 0 0]) := by kernel_rfl
theorem ag76 : tyAgg Tryd.prog 76 = some false := by kernel_rfl
theorem sz76 : tySize Tryd.prog 76 = some 1 := by kernel_rfl
theorem ze76 : tyCells Tryd.prog 76 = some ([.nilFunc]) := by kernel_rfl
theorem ag77 : tyAgg Tryd.prog 77 = some false := by kernel_rfl
theorem sz77 : tySize Tryd.prog 77 = some 1 := by kernel_rfl
theorem ze77 : tyCells Tryd.prog 77 = some ([.nilFunc]) := by kernel_rfl
theorem ag78 : tyAgg Tryd.prog 78 = some true := by kernel_rfl
theorem sz78 : tySize Tryd.prog 78 = some 4 := by kernel_rfl
theorem fd78_0 : tyField Tryd.prog 78 0 = some (0, 17, 1) := by kernel_rfl
theorem fd78_1 : tyField Tryd.prog 78 1 = some (1, 17, 1) := by kernel_rfl
theorem fd78_2 : tyField Tryd.prog 78 2 = some (2, 17, 1) := by kernel_rfl
theorem fd78_3 : tyField Tryd.prog 78 3 = some (3, 9, 1) := by kernel_rfl
theorem ze78 : tyCells Tryd.prog 78 = some ([.pointer none, .pointer none, .pointer none, .string ⟨#[]⟩]) := by kernel_rfl
theorem ag79 : tyAgg Tryd.prog 79 = some true := by kernel_rfl
theorem sz79 : tySize Tryd.prog 79 = some 4 := by kernel_rfl
theorem fd79_0 : tyField Tryd.prog 79 0 = some (0, 17, 1) := by kernel_rfl
theorem fd79_1 : tyField Tryd.prog 79 1 = some (1, 17, 1) := by kernel_rfl
theorem fd79_2 : tyField Tryd.prog 79 2 = some (2, 17, 1) := by kernel_rfl
theorem fd79_3 : tyField Tryd.prog 79 3 = some (3, 9, 1) := by kernel_rfl
theorem ze79 : tyCells Tryd.prog 79 = some ([.pointer none, .pointer none, .pointer none, .string ⟨#[]⟩]) := by kernel_rfl
theorem ag80 : tyAgg Tryd.prog 80 = some true := by kernel_rfl
theorem sz80 : tySize Tryd.prog 80 = some 0 := by kernel_rfl
theorem ar80 : tyArray Tryd.prog 80 = some (0, 16) := by kernel_rfl
theorem ag81 : tyAgg Tryd.prog 81 = some true := by kernel_rfl
theorem sz81 : tySize Tryd.prog 81 = some 0 := by kernel_rfl
theorem fd81_0 : tyField Tryd.prog 81 0 = some (0, 80, 0) := by kernel_rfl
theorem ag82 : tyAgg Tryd.prog 82 = some true := by kernel_rfl
theorem sz82 : tySize Tryd.prog 82 = some 0 := by kernel_rfl
theorem fd82_0 : tyField Tryd.prog 82 0 = some (0, 80, 0) := by kernel_rfl
theorem ag83 : tyAgg Tryd.prog 83 = some false := by kernel_rfl
theorem sz83 : tySize Tryd.prog 83 = some 1 := by kernel_rfl
theorem in83 : tyInt Tryd.prog 83 = some .u8 := by kernel_rfl
theorem ze83 : tyCells Tryd.prog 83 = some ([.int .u8 (0)]) := by kernel_rfl
theorem ag84 : tyAgg Tryd.prog 84 = some false := by kernel_rfl
theorem sz84 : tySize Tryd.prog 84 = some 1 := by kernel_rfl
theorem in84 : tyInt Tryd.prog 84 = some .u8 := by kernel_rfl
theorem ze84 : tyCells Tryd.prog 84 = some ([.int .u8 (0)]) := by kernel_rfl
theorem ag85 : tyAgg Tryd.prog 85 = some false := by kernel_rfl
theorem sz85 : tySize Tryd.prog 85 = some 1 := by kernel_rfl
theorem ze85 : tyCells Tryd.prog 85 = some ([.nilFunc]) := by kernel_rfl
theorem ag86 : tyAgg Tryd.prog 86 = some false := by kernel_rfl
theorem sz86 : tySize Tryd.prog 86 = some 1 := by kernel_rfl
theorem pt86 : tyPtr Tryd.prog 86 = some 5 := by kernel_rfl
theorem ze86 : tyCells Tryd.prog 86 = some ([.pointer none]) := by kernel_rfl
theorem ag87 : tyAgg Tryd.prog 87 = some false := by kernel_rfl
theorem sz87 : tySize Tryd.prog 87 = some 1 := by kernel_rfl
theorem in87 : tyInt Tryd.prog 87 = some .i32 := by kernel_rfl
theorem ze87 : tyCells Tryd.prog 87 = some ([.int .i32 (0)]) := by kernel_rfl
theorem ag88 : tyAgg Tryd.prog 88 = some false := by kernel_rfl
theorem sz88 : tySize Tryd.prog 88 = some 1 := by kernel_rfl
theorem in88 : tyInt Tryd.prog 88 = some .i32 := by kernel_rfl
theorem ze88 : tyCells Tryd.prog 88 = some ([.int .i32 (0)]) := by kernel_rfl
theorem ag89 : tyAgg Tryd.prog 89 = some true := by kernel_rfl
theorem sz89 : tySize Tryd.prog 89 = some 11 := by kernel_rfl
theorem fd89_0 : tyField Tryd.prog 89 0 = some (0, 12, 1) := by kernel_rfl
theorem fd89_1 : tyField Tryd.prog 89 1 = some (1, 12, 1) := by kernel_rfl
theorem fd89_2 : tyField Tryd.prog 89 2 = some (2, 49, 1) := by kernel_rfl
theorem fd89_3 : tyField Tryd.prog 89 3 = some (3, 83, 1) := by kernel_rfl
theorem fd89_4 : tyField Tryd.prog 89 4 = some (4, 5, 1) := by kernel_rfl
theorem fd89_5 : tyField Tryd.prog 89 5 = some (5, 5, 1) := by kernel_rfl
theorem fd89_6 : tyField Tryd.prog 89 6 = some (6, 84, 1) := by kernel_rfl
theorem fd89_7 : tyField Tryd.prog 89 7 = some (7, 85, 1) := by kernel_rfl
theorem fd89_8 : tyField Tryd.prog 89 8 = some (8, 86, 1) := by kernel_rfl
theorem fd89_9 : tyField Tryd.prog 89 9 = some (9, 87, 1) := by kernel_rfl
theorem fd89_10 : tyField Tryd.prog 89 10 = some (10, 88, 1) := by kernel_rfl
theorem ze89 : tyCells Tryd.prog 89 = some ([.int .u64 (0), .int .u64 (0), .int .u32 (0), .int .u8 (0), .int .u8 (0), .int .u8 (0), .int .u8 (0), .nilFunc, .pointer none, .int .i32 (0), .int .i32 (0)]) := by kernel_rfl
theorem ag90 : tyAgg Tryd.prog 90 = some true := by kernel_rfl
theorem sz90 : tySize Tryd.prog 90 = some 11 := by kernel_rfl
theorem fd90_0 : tyField Tryd.prog 90 0 = some (0, 12, 1) := by kernel_rfl
theorem fd90_1 : tyField Tryd.prog 90 1 = some (1, 12, 1) := by kernel_rfl
theorem fd90_2 : tyField Tryd.prog 90 2 = some (2, 49, 1) := by kernel_rfl
theorem fd90_3 : tyField Tryd.prog 90 3 = some (3, 83, 1) := by kernel_rfl
theorem fd90_4 : tyField Tryd.prog 90 4 = some (4, 5, 1) := by kernel_rfl
theorem fd90_5 : tyField Tryd.prog 90 5 = some (5, 5, 1) := by kernel_rfl
theorem fd90_6 : tyField Tryd.prog 90 6 = some (6, 84, 1) := by kernel_rfl
theorem fd90_7 : tyField Tryd.prog 90 7 = some (7, 85, 1) := by kernel_rfl
theorem fd90_8 : tyField Tryd.prog 90 8 = some (8, 86, 1) := by kernel_rfl
theorem fd90_9 : tyField Tryd.prog 90 9 = some (9, 87, 1) := by kernel_rfl
theorem fd90_10 : tyField Tryd.prog 90 10 = some (10, 88, 1) := by kernel_rfl
theorem ze90 : tyCells Tryd.prog 90 = some ([.int .u64 (0), .int .u64 (0), .int .u32 (0), .int .u8 (0), .int .u8 (0), .int .u8 (0), .int .u8 (0), .nilFunc, .pointer none, .int .i32 (0), .int .i32 (0)]) := by kernel_rfl
theorem ag91 : tyAgg Tryd.prog 91 = some false := by kernel_rfl
theorem sz91 : tySize Tryd.prog 91 = some 1 := by kernel_rfl
theorem ze91 : tyCells Tryd.prog 91 = some ([.pointer none]) := by kernel_rfl
theorem st22 : SlTy Tryd.prog 22 5 ([.int .u8 (0)]) 1 := ⟨sl22, ze5, by first | rfl | exact sz5, by kernel_rfl⟩
theorem st35 : SlTy Tryd.prog 35 22 ([.slice none 0 0]) 24 := ⟨sl35, ze22, by first | rfl | exact sz22, by kernel_rfl⟩
theorem st51 : SlTy Tryd.prog 51 49 ([.int .u32 (0)]) 4 := ⟨sl51, ze49, by first | rfl | exact sz49, by kernel_rfl⟩
theorem st75 : SlTy Tryd.prog 75 3 ([.int .i64 (0)]) 8 := ⟨sl75, ze3, by first | rfl | exact sz3, by kernel_rfl⟩
theorem pl7 : tyPlaces Tryd.prog 7 = some [(0, 1), (1, 1), (2, 1), (3, 1)] := by kernel_rfl
theorem eg7 : Tryd.prog.eqGuardType Tryd.prog.depth 7 = false := by kernel_rfl
theorem pl8 : tyPlaces Tryd.prog 8 = some [(0, 1), (1, 1), (2, 1), (3, 1)] := by kernel_rfl
theorem eg8 : Tryd.prog.eqGuardType Tryd.prog.depth 8 = false := by kernel_rfl
theorem pl13 : tyPlaces Tryd.prog 13 = some [(0, 1), (1, 1)] := by kernel_rfl
theorem eg13 : Tryd.prog.eqGuardType Tryd.prog.depth 13 = false := by kernel_rfl
theorem pl14 : tyPlaces Tryd.prog 14 = some [(0, 1), (1, 1)] := by kernel_rfl
theorem eg14 : Tryd.prog.eqGuardType Tryd.prog.depth 14 = false := by kernel_rfl
theorem pl18 : tyPlaces Tryd.prog 18 = some [(0, 1)] := by kernel_rfl
theorem pl19 : tyPlaces Tryd.prog 19 = some [(0, 1)] := by kernel_rfl
theorem eg30 : Tryd.prog.eqGuardType Tryd.prog.depth 30 = false := by kernel_rfl
theorem eg31 : Tryd.prog.eqGuardType Tryd.prog.depth 31 = false := by kernel_rfl
theorem eg50 : Tryd.prog.eqGuardType Tryd.prog.depth 50 = false := by kernel_rfl
theorem eg56 : Tryd.prog.eqGuardType Tryd.prog.depth 56 = false := by kernel_rfl
theorem pl63 : tyPlaces Tryd.prog 63 = some [(0, 1)] := by kernel_rfl
theorem eg63 : Tryd.prog.eqGuardType Tryd.prog.depth 63 = false := by kernel_rfl
theorem pl64 : tyPlaces Tryd.prog 64 = some [(0, 1)] := by kernel_rfl
theorem ef64 : tyEqF Tryd.prog 64 = some [(0, 3)] := by kernel_rfl
theorem eg64 : Tryd.prog.eqGuardType Tryd.prog.depth 64 = false := by kernel_rfl
theorem pl65 : tyPlaces Tryd.prog 65 = some [(0, 1), (1, 1)] := by kernel_rfl
theorem pl66 : tyPlaces Tryd.prog 66 = some [(0, 1), (1, 1)] := by kernel_rfl
theorem eg67 : Tryd.prog.eqGuardType Tryd.prog.depth 67 = false := by kernel_rfl
theorem eg71 : Tryd.prog.eqGuardType Tryd.prog.depth 71 = false := by kernel_rfl
theorem eg72 : Tryd.prog.eqGuardType Tryd.prog.depth 72 = false := by kernel_rfl
theorem pl78 : tyPlaces Tryd.prog 78 = some [(0, 1), (1, 1), (2, 1), (3, 1)] := by kernel_rfl
theorem pl79 : tyPlaces Tryd.prog 79 = some [(0, 1), (1, 1), (2, 1), (3, 1)] := by kernel_rfl
theorem pl81 : tyPlaces Tryd.prog 81 = some [(0, 0)] := by kernel_rfl
theorem pl82 : tyPlaces Tryd.prog 82 = some [(0, 0)] := by kernel_rfl
theorem pl89 : tyPlaces Tryd.prog 89 = some [(0, 1), (1, 1), (2, 1), (3, 1), (4, 1), (5, 1), (6, 1), (7, 1), (8, 1), (9, 1), (10, 1)] := by kernel_rfl
theorem pl90 : tyPlaces Tryd.prog 90 = some [(0, 1), (1, 1), (2, 1), (3, 1), (4, 1), (5, 1), (6, 1), (7, 1), (8, 1), (9, 1), (10, 1)] := by kernel_rfl
theorem fb3 : Body Tryd.prog 3 Tryd.f3 := ⟨Tryd.func3, by decide +kernel, rfl⟩
theorem fb4 : Body Tryd.prog 4 Tryd.f4 := ⟨Tryd.func4, by decide +kernel, rfl⟩
theorem fb5 : Body Tryd.prog 5 Tryd.f5 := ⟨Tryd.func5, by decide +kernel, rfl⟩
theorem fb6 : Body Tryd.prog 6 Tryd.f6 := ⟨Tryd.func6, by decide +kernel, rfl⟩
theorem fb7 : Body Tryd.prog 7 Tryd.f7 := ⟨Tryd.func7, by decide +kernel, rfl⟩
theorem fb8 : Body Tryd.prog 8 Tryd.f8 := ⟨Tryd.func8, by decide +kernel, rfl⟩
theorem fb9 : Body Tryd.prog 9 Tryd.f9 := ⟨Tryd.func9, by decide +kernel, rfl⟩
theorem fb10 : Body Tryd.prog 10 Tryd.f10 := ⟨Tryd.func10, by decide +kernel, rfl⟩
theorem fb11 : Body Tryd.prog 11 Tryd.f11 := ⟨Tryd.func11, by decide +kernel, rfl⟩
theorem fb12 : Body Tryd.prog 12 Tryd.f12 := ⟨Tryd.func12, by decide +kernel, rfl⟩
theorem fb13 : Body Tryd.prog 13 Tryd.f13 := ⟨Tryd.func13, by decide +kernel, rfl⟩
theorem fb14 : Body Tryd.prog 14 Tryd.f14 := ⟨Tryd.func14, by decide +kernel, rfl⟩
theorem fb15 : Body Tryd.prog 15 Tryd.f15 := ⟨Tryd.func15, by decide +kernel, rfl⟩
theorem fb16 : Body Tryd.prog 16 Tryd.f16 := ⟨Tryd.func16, by decide +kernel, rfl⟩
theorem fb17 : Body Tryd.prog 17 Tryd.f17 := ⟨Tryd.func17, by decide +kernel, rfl⟩
theorem fb18 : Body Tryd.prog 18 Tryd.f18 := ⟨Tryd.func18, by decide +kernel, rfl⟩
theorem fb19 : Body Tryd.prog 19 Tryd.f19 := ⟨Tryd.func19, by decide +kernel, rfl⟩
theorem fb20 : Body Tryd.prog 20 Tryd.f20 := ⟨Tryd.func20, by decide +kernel, rfl⟩
theorem fb21 : Body Tryd.prog 21 Tryd.f21 := ⟨Tryd.func21, by decide +kernel, rfl⟩
theorem fb22 : Body Tryd.prog 22 Tryd.f22 := ⟨Tryd.func22, by decide +kernel, rfl⟩
theorem fb23 : Body Tryd.prog 23 Tryd.f23 := ⟨Tryd.func23, by decide +kernel, rfl⟩
theorem fb24 : Body Tryd.prog 24 Tryd.f24 := ⟨Tryd.func24, by decide +kernel, rfl⟩
theorem fb25 : Body Tryd.prog 25 Tryd.f25 := ⟨Tryd.func25, by decide +kernel, rfl⟩
theorem fb26 : Body Tryd.prog 26 Tryd.f26 := ⟨Tryd.func26, by decide +kernel, rfl⟩
theorem fb27 : Body Tryd.prog 27 Tryd.f27 := ⟨Tryd.func27, by decide +kernel, rfl⟩
theorem fb28 : Body Tryd.prog 28 Tryd.f28 := ⟨Tryd.func28, by decide +kernel, rfl⟩
theorem fb29 : Body Tryd.prog 29 Tryd.f29 := ⟨Tryd.func29, by decide +kernel, rfl⟩
theorem fb30 : Body Tryd.prog 30 Tryd.f30 := ⟨Tryd.func30, by decide +kernel, rfl⟩
theorem fb31 : Body Tryd.prog 31 Tryd.f31 := ⟨Tryd.func31, by decide +kernel, rfl⟩
theorem fb32 : Body Tryd.prog 32 Tryd.f32 := ⟨Tryd.func32, by decide +kernel, rfl⟩
theorem fb33 : Body Tryd.prog 33 Tryd.f33 := ⟨Tryd.func33, by decide +kernel, rfl⟩
theorem fb34 : Body Tryd.prog 34 Tryd.f34 := ⟨Tryd.func34, by decide +kernel, rfl⟩
theorem fb35 : Body Tryd.prog 35 Tryd.f35 := ⟨Tryd.func35, by decide +kernel, rfl⟩
theorem fb36 : Body Tryd.prog 36 Tryd.f36 := ⟨Tryd.func36, by decide +kernel, rfl⟩
theorem fb37 : Body Tryd.prog 37 Tryd.f37 := ⟨Tryd.func37, by decide +kernel, rfl⟩
theorem fb38 : Body Tryd.prog 38 Tryd.f38 := ⟨Tryd.func38, by decide +kernel, rfl⟩
theorem fb39 : Body Tryd.prog 39 Tryd.f39 := ⟨Tryd.func39, by decide +kernel, rfl⟩
theorem fb40 : Body Tryd.prog 40 Tryd.f40 := ⟨Tryd.func40, by decide +kernel, rfl⟩
theorem fb41 : Body Tryd.prog 41 Tryd.f41 := ⟨Tryd.func41, by decide +kernel, rfl⟩
theorem fb42 : Body Tryd.prog 42 Tryd.f42 := ⟨Tryd.func42, by decide +kernel, rfl⟩
theorem fb43 : Body Tryd.prog 43 Tryd.f43 := ⟨Tryd.func43, by decide +kernel, rfl⟩
theorem fb44 : Body Tryd.prog 44 Tryd.f44 := ⟨Tryd.func44, by decide +kernel, rfl⟩
theorem fb45 : Body Tryd.prog 45 Tryd.f45 := ⟨Tryd.func45, by decide +kernel, rfl⟩
theorem fb46 : Body Tryd.prog 46 Tryd.f46 := ⟨Tryd.func46, by decide +kernel, rfl⟩
theorem fb67 : Body Tryd.prog 67 Tryd.f67 := ⟨Tryd.func67, by decide +kernel, rfl⟩
end Go.Sp.TrydT
