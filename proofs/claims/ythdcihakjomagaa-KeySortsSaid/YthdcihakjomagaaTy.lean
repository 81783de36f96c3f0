/- What the program says of its types, and that its functions have bodies. -/
import Derived.Test.YthdcihakjomagaaProg
import Derived.Test.YthdcihakjomagaaRules
set_option maxRecDepth 100000
namespace Go.Sp.TryT
open Go.Proofs Go.Sp
theorem mixed : Try.prog.follows .mixedOrders = true := by kernel_rfl
theorem ag0 : tyAgg Try.prog 0 = some false := by kernel_rfl
theorem sz0 : tySize Try.prog 0 = some 1 := by kernel_rfl
theorem ag1 : tyAgg Try.prog 1 = some false := by kernel_rfl
theorem sz1 : tySize Try.prog 1 = some 1 := by kernel_rfl
theorem ze1 : tyCells Try.prog 1 = some ([.nilFunc]) := by kernel_rfl
theorem ag2 : tyAgg Try.prog 2 = some false := by kernel_rfl
theorem sz2 : tySize Try.prog 2 = some 1 := by kernel_rfl
theorem in2 : tyInt Try.prog 2 = some .i64 := by kernel_rfl
theorem ze2 : tyCells Try.prog 2 = some ([.int .i64 (0)]) := by kernel_rfl
theorem ag3 : tyAgg Try.prog 3 = some false := by kernel_rfl
theorem sz3 : tySize Try.prog 3 = some 1 := by kernel_rfl
theorem in3 : tyInt Try.prog 3 = some .i64 := by kernel_rfl
theorem ze3 : tyCells Try.prog 3 = some ([.int .i64 (0)]) := by kernel_rfl
theorem ag4 : tyAgg Try.prog 4 = some false := by kernel_rfl
theorem sz4 : tySize Try.prog 4 = some 1 := by kernel_rfl
theorem bo4 : tyBool Try.prog 4 = true := by kernel_rfl
theorem ze4 : tyCells Try.prog 4 = some ([.bool false]) := by kernel_rfl
theorem ag5 : tyAgg Try.prog 5 = some false := by kernel_rfl
theorem sz5 : tySize Try.prog 5 = some 1 := by kernel_rfl
theorem in5 : tyInt Try.prog 5 = some .u8 := by kernel_rfl
theorem ze5 : tyCells Try.prog 5 = some ([.int .u8 (0)]) := by kernel_rfl
theorem ag6 : tyAgg Try.prog 6 = some false := by kernel_rfl
theorem sz6 : tySize Try.prog 6 = some 1 := by kernel_rfl
theorem in6 : tyInt Try.prog 6 = some .u8 := by kernel_rfl
theorem ze6 : tyCells Try.prog 6 = some ([.int .u8 (0)]) := by kernel_rfl
theorem ag7 : tyAgg Try.prog 7 = some true := by kernel_rfl
theorem sz7 : tySize Try.prog 7 = some 4 := by kernel_rfl
theorem fd7_0 : tyField Try.prog 7 0 = some (0, 2, 1) := by kernel_rfl
theorem fd7_1 : tyField Try.prog 7 1 = some (1, 3, 1) := by kernel_rfl
theorem fd7_2 : tyField Try.prog 7 2 = some (2, 4, 1) := by kernel_rfl
theorem fd7_3 : tyField Try.prog 7 3 = some (3, 6, 1) := by kernel_rfl
theorem ze7 : tyCells Try.prog 7 = some ([.int .i64 (0), .int .i64 (0), .bool false, .int .u8 (0)]) := by kernel_rfl
theorem ag8 : tyAgg Try.prog 8 = some true := by kernel_rfl
theorem sz8 : tySize Try.prog 8 = some 4 := by kernel_rfl
theorem fd8_0 : tyField Try.prog 8 0 = some (0, 2, 1) := by kernel_rfl
theorem fd8_1 : tyField Try.prog 8 1 = some (1, 3, 1) := by kernel_rfl
theorem fd8_2 : tyField Try.prog 8 2 = some (2, 4, 1) := by kernel_rfl
theorem fd8_3 : tyField Try.prog 8 3 = some (3, 6, 1) := by kernel_rfl
theorem ze8 : tyCells Try.prog 8 = some ([.int .i64 (0), .int .i64 (0), .bool false, .int .u8 (0)]) := by kernel_rfl
theorem ag9 : tyAgg Try.prog 9 = some false := by kernel_rfl
theorem sz9 : tySize Try.prog 9 = some 1 := by kernel_rfl
theorem ze9 : tyCells Try.prog 9 = some ([.string ⟨#[]⟩]) := by kernel_rfl
theorem ag10 : tyAgg Try.prog 10 = some false := by kernel_rfl
theorem sz10 : tySize Try.prog 10 = some 1 := by kernel_rfl
theorem ze10 : tyCells Try.prog 10 = some ([.string ⟨#[]⟩]) := by kernel_rfl
theorem ag11 : tyAgg Try.prog 11 = some false := by kernel_rfl
theorem sz11 : tySize Try.prog 11 = some 1 := by kernel_rfl
theorem ze11 : tyCells Try.prog 11 = some ([.string ⟨#[]⟩]) := by kernel_rfl
theorem ag12 : tyAgg Try.prog 12 = some false := by kernel_rfl
theorem sz12 : tySize Try.prog 12 = some 1 := by kernel_rfl
theorem in12 : tyInt Try.prog 12 = some .u64 := by kernel_rfl
theorem ze12 : tyCells Try.prog 12 = some ([.int .u64 (0)]) := by kernel_rfl
theorem ag13 : tyAgg Try.prog 13 = some true := by kernel_rfl
theorem sz13 : tySize Try.prog 13 = some 2 := by kernel_rfl
theorem fd13_0 : tyField Try.prog 13 0 = some (0, 9, 1) := by kernel_rfl
theorem fd13_1 : tyField Try.prog 13 1 = some (1, 12, 1) := by kernel_rfl
theorem ze13 : tyCells Try.prog 13 = some ([.string ⟨#[]⟩, .int .u64 (0)]) := by kernel_rfl
theorem ag14 : tyAgg Try.prog 14 = some true := by kernel_rfl
theorem sz14 : tySize Try.prog 14 = some 2 := by kernel_rfl
theorem fd14_0 : tyField Try.prog 14 0 = some (0, 9, 1) := by kernel_rfl
theorem fd14_1 : tyField Try.prog 14 1 = some (1, 12, 1) := by kernel_rfl
theorem ze14 : tyCells Try.prog 14 = some ([.string ⟨#[]⟩, .int .u64 (0)]) := by kernel_rfl
theorem ag15 : tyAgg Try.prog 15 = some false := by kernel_rfl
theorem sz15 : tySize Try.prog 15 = some 1 := by kernel_rfl
theorem pt15 : tyPtr Try.prog 15 = some 96 := by kernel_rfl
theorem ze15 : tyCells Try.prog 15 = some ([.pointer none]) := by kernel_rfl
theorem ag16 : tyAgg Try.prog 16 = some false := by kernel_rfl
theorem sz16 : tySize Try.prog 16 = some 1 := by kernel_rfl
theorem pt16 : tyPtr Try.prog 16 = some 99 := by kernel_rfl
theorem ze16 : tyCells Try.prog 16 = some ([.pointer none]) := by kernel_rfl
theorem ag17 : tyAgg Try.prog 17 = some false := by kernel_rfl
theorem sz17 : tySize Try.prog 17 = some 1 := by kernel_rfl
theorem pt17 : tyPtr Try.prog 17 = some 107 := by kernel_rfl
theorem ze17 : tyCells Try.prog 17 = some ([.pointer none]) := by kernel_rfl
theorem ag18 : tyAgg Try.prog 18 = some true := by kernel_rfl
theorem sz18 : tySize Try.prog 18 = some 1 := by kernel_rfl
theorem fd18_0 : tyField Try.prog 18 0 = some (0, 17, 1) := by kernel_rfl
theorem ze18 : tyCells Try.prog 18 = some ([.pointer none]) := by kernel_rfl
theorem ag19 : tyAgg Try.prog 19 = some true := by kernel_rfl
theorem sz19 : tySize Try.prog 19 = some 1 := by kernel_rfl
theorem fd19_0 : tyField Try.prog 19 0 = some (0, 17, 1) := by kernel_rfl
theorem ze19 : tyCells Try.prog 19 = some ([.pointer none]) := by kernel_rfl
theorem ag20 : tyAgg Try.prog 20 = some false := by kernel_rfl
theorem sz20 : tySize Try.prog 20 = some 1 := by kernel_rfl
theorem ze20 : tyCells Try.prog 20 = some ([.nilIface]) := by kernel_rfl
theorem ag21 : tyAgg Try.prog 21 = some false := by kernel_rfl
theorem sz21 : tySize Try.prog 21 = some 1 := by kernel_rfl
theorem in21 : tyInt Try.prog 21 = some .i32 := by kernel_rfl
theorem ze21 : tyCells Try.prog 21 = some ([.int .i32 (0)]) := by kernel_rfl
theorem ag22 : tyAgg Try.prog 22 = some false := by kernel_rfl
theorem sz22 : tySize Try.prog 22 = some 1 := by kernel_rfl
theorem sl22 : tySlice Try.prog 22 = some 5 := by kernel_rfl
theorem ze22 : tyCells Try.prog 22 = some ([.slice none 0 0]) := by kernel_rfl
theorem ag23 : tyAgg Try.prog 23 = some true := by kernel_rfl
theorem sz23 : tySize Try.prog 23 = some 32 := by kernel_rfl
theorem ar23 : tyArray Try.prog 23 = some (32, 5) := by kernel_rfl
theorem ze23 : tyCells Try.prog 23 = some (kc (List.replicate 32 0)) := by kernel_rfl
theorem ag24 : tyAgg Try.prog 24 = some true := by kernel_rfl
theorem sz24 : tySize Try.prog 24 = some 32 := by kernel_rfl
theorem ar24 : tyArray Try.prog 24 = some (32, 5) := by kernel_rfl
theorem ze24 : tyCells Try.prog 24 = some (kc (List.replicate 32 0)) := by kernel_rfl
theorem ag25 : tyAgg Try.prog 25 = some false := by kernel_rfl
theorem sz25 : tySize Try.prog 25 = some 1 := by kernel_rfl
theorem in25 : tyInt Try.prog 25 = some .i64 := by kernel_rfl
theorem ze25 : tyCells Try.prog 25 = some ([.int .i64 (0)]) := by kernel_rfl
theorem ag26 : tyAgg Try.prog 26 = some false := by kernel_rfl
theorem sz26 : tySize Try.prog 26 = some 1 := by kernel_rfl
theorem ag27 : tyAgg Try.prog 27 = some false := by kernel_rfl
theorem sz27 : tySize Try.prog 27 = some 1 := by kernel_rfl
theorem ze27 : tyCells Try.prog 27 = some ([.nilFunc]) := by kernel_rfl
theorem ag28 : tyAgg Try.prog 28 = some false := by kernel_rfl
theorem sz28 : tySize Try.prog 28 = some 1 := by kernel_rfl
theorem ze28 : tyCells Try.prog 28 = some ([.nilFunc]) := by kernel_rfl
theorem ag29 : tyAgg Try.prog 29 = some false := by kernel_rfl
theorem sz29 : tySize Try.prog 29 = some 1 := by kernel_rfl
theorem ze29 : tyCells Try.prog 29 = some ([.nilFunc]) := by kernel_rfl
theorem ag30 : tyAgg Try.prog 30 = some false := by kernel_rfl
theorem sz30 : tySize Try.prog 30 = some 1 := by kernel_rfl
theorem ze30 : tyCells Try.prog 30 = some ([.nilFunc]) := by kernel_rfl
theorem ag31 : tyAgg Try.prog 31 = some false := by kernel_rfl
theorem sz31 : tySize Try.prog 31 = some 1 := by kernel_rfl
theorem ze31 : tyCells Try.prog 31 = some ([.nilFunc]) := by kernel_rfl
theorem ag32 : tyAgg Try.prog 32 = some false := by kernel_rfl
theorem sz32 : tySize Try.prog 32 = some 1 := by kernel_rfl
theorem ag33 : tyAgg Try.prog 33 = some false := by kernel_rfl
theorem sz33 : tySize Try.prog 33 = some 1 := by kernel_rfl
theorem ze33 : tyCells Try.prog 33 = some ([.nilFunc]) := by kernel_rfl
theorem ag34 : tyAgg Try.prog 34 = some false := by kernel_rfl
theorem sz34 : tySize Try.prog 34 = some 1 := by kernel_rfl
theorem ze34 : tyCells Try.prog 34 = some ([.nilFunc]) := by kernel_rfl
theorem ag35 : tyAgg Try.prog 35 = some false := by kernel_rfl
theorem sz35 : tySize Try.prog 35 = some 1 := by kernel_rfl
theorem ag36 : tyAgg Try.prog 36 = some false := by kernel_rfl
theorem sz36 : tySize Try.prog 36 = some 1 := by kernel_rfl
theorem ze36 : tyCells Try.prog 36 = some ([.nilFunc]) := by kernel_rfl
theorem ag37 : tyAgg Try.prog 37 = some false := by kernel_rfl
theorem sz37 : tySize Try.prog 37 = some 1 := by kernel_rfl
theorem ze37 : tyCells Try.prog 37 = some ([.nilFunc]) := by kernel_rfl
theorem ag38 : tyAgg Try.prog 38 = some false := by kernel_rfl
theorem sz38 : tySize Try.prog 38 = some 1 := by kernel_rfl
theorem sl38 : tySlice Try.prog 38 = some 24 := by kernel_rfl
theorem ze38 : tyCells Try.prog 38 = some ([.slice none 0 0]) := by kernel_rfl
theorem ag39 : tyAgg Try.prog 39 = some false := by kernel_rfl
theorem sz39 : tySize Try.prog 39 = some 1 := by kernel_rfl
theorem ze39 : tyCells Try.prog 39 = some ([.nilFunc]) := by kernel_rfl
theorem ag40 : tyAgg Try.prog 40 = some false := by kernel_rfl
theorem sz40 : tySize Try.prog 40 = some 1 := by kernel_rfl
theorem ze40 : tyCells Try.prog 40 = some ([.nilFunc]) := by kernel_rfl
theorem ag41 : tyAgg Try.prog 41 = some false := by kernel_rfl
theorem sz41 : tySize Try.prog 41 = some 1 := by kernel_rfl
theorem ze41 : tyCells Try.prog 41 = some ([.nilFunc]) := by kernel_rfl
theorem ag42 : tyAgg Try.prog 42 = some false := by kernel_rfl
theorem sz42 : tySize Try.prog 42 = some 1 := by kernel_rfl
theorem ze42 : tyCells Try.prog 42 = some ([.nilFunc]) := by kernel_rfl
theorem ag43 : tyAgg Try.prog 43 = some false := by kernel_rfl
theorem sz43 : tySize Try.prog 43 = some 1 := by kernel_rfl
theorem ze43 : tyCells Try.prog 43 = some ([.nilFunc]) := by kernel_rfl
theorem ag44 : tyAgg Try.prog 44 = some false := by kernel_rfl
theorem sz44 : tySize Try.prog 44 = some 1 := by kernel_rfl
theorem ze44 : tyCells Try.prog 44 = some ([.nilFunc]) := by kernel_rfl
theorem ag45 : tyAgg Try.prog 45 = some false := by kernel_rfl
theorem sz45 : tySize Try.prog 45 = some 1 := by kernel_rfl
theorem ze45 : tyCells Try.prog 45 = some ([.nilFunc]) := by kernel_rfl
theorem ag46 : tyAgg Try.prog 46 = some false := by kernel_rfl
theorem sz46 : tySize Try.prog 46 = some 1 := by kernel_rfl
theorem ze46 : tyCells Try.prog 46 = some ([.nilFunc]) := by kernel_rfl
theorem ag47 : tyAgg Try.prog 47 = some false := by kernel_rfl
theorem sz47 : tySize Try.prog 47 = some 1 := by kernel_rfl
theorem ze47 : tyCells Try.prog 47 = some ([.nilFunc]) := by kernel_rfl
theorem ag48 : tyAgg Try.prog 48 = some false := by kernel_rfl
theorem sz48 : tySize Try.prog 48 = some 1 := by kernel_rfl
theorem pt48 : tyPtr Try.prog 48 = some 50 := by kernel_rfl
theorem ze48 : tyCells Try.prog 48 = some ([.pointer none]) := by kernel_rfl
theorem ag49 : tyAgg Try.prog 49 = some true := by kernel_rfl
theorem sz49 : tySize Try.prog 49 = some 2 := by kernel_rfl
theorem fd49_0 : tyField Try.prog 49 0 = some (0, 48, 1) := by kernel_rfl
theorem fd49_1 : tyField Try.prog 49 1 = some (1, 22, 1) := by kernel_rfl
theorem ze49 : tyCells Try.prog 49 = some ([.pointer none, .slice none 0 0]) := by kernel_rfl
theorem ag50 : tyAgg Try.prog 50 = some true := by kernel_rfl
theorem sz50 : tySize Try.prog 50 = some 2 := by kernel_rfl
theorem fd50_0 : tyField Try.prog 50 0 = some (0, 48, 1) := by kernel_rfl
theorem fd50_1 : tyField Try.prog 50 1 = some (1, 22, 1) := by kernel_rfl
theorem ze50 : tyCells Try.prog 50 = some ([.pointer none, .slice none 0 0]) := by kernel_rfl
theorem ag51 : tyAgg Try.prog 51 = some false := by kernel_rfl
theorem sz51 : tySize Try.prog 51 = some 1 := by kernel_rfl
theorem ze51 : tyCells Try.prog 51 = some ([.nilIface]) := by kernel_rfl
theorem ag52 : tyAgg Try.prog 52 = some false := by kernel_rfl
theorem sz52 : tySize Try.prog 52 = some 1 := by kernel_rfl
theorem ze52 : tyCells Try.prog 52 = some ([.nilIface]) := by kernel_rfl
theorem ag53 : tyAgg Try.prog 53 = some false := by kernel_rfl
theorem sz53 : tySize Try.prog 53 = some 1 := by kernel_rfl
theorem ze53 : tyCells Try.prog 53 = some ([.nilFunc]) := by kernel_rfl
theorem ag54 : tyAgg Try.prog 54 = some false := by kernel_rfl
theorem sz54 : tySize Try.prog 54 = some 1 := by kernel_rfl
theorem in54 : tyInt Try.prog 54 = some .u64 := by kernel_rfl
theorem ze54 : tyCells Try.prog 54 = some ([.int .u64 (0)]) := by kernel_rfl
theorem ag55 : tyAgg Try.prog 55 = some false := by kernel_rfl
theorem sz55 : tySize Try.prog 55 = some 1 := by kernel_rfl
theorem ze55 : tyCells Try.prog 55 = some ([.nilFunc]) := by kernel_rfl
theorem ag56 : tyAgg Try.prog 56 = some false := by kernel_rfl
theorem sz56 : tySize Try.prog 56 = some 1 := by kernel_rfl
theorem ze56 : tyCells Try.prog 56 = some ([.nilFunc]) := by kernel_rfl
theorem ag57 : tyAgg Try.prog 57 = some false := by kernel_rfl
theorem sz57 : tySize Try.prog 57 = some 1 := by kernel_rfl
theorem ze57 : tyCells Try.prog 57 = some ([.nilFunc]) := by kernel_rfl
theorem ag58 : tyAgg Try.prog 58 = some false := by kernel_rfl
theorem sz58 : tySize Try.prog 58 = some 1 := by kernel_rfl
theorem ze58 : tyCells Try.prog 58 = some ([.nilFunc]) := by kernel_rfl
theorem ag59 : tyAgg Try.prog 59 = some false := by kernel_rfl
theorem sz59 : tySize Try.prog 59 = some 1 := by kernel_rfl
theorem ze59 : tyCells Try.prog 59 = some ([.nilFunc]) := by kernel_rfl
theorem ag60 : tyAgg Try.prog 60 = some false := by kernel_rfl
theorem sz60 : tySize Try.prog 60 = some 1 := by kernel_rfl
theorem ze60 : tyCells Try.prog 60 = some ([.nilFunc]) := by kernel_rfl
theorem ag61 : tyAgg Try.prog 61 = some false := by kernel_rfl
theorem sz61 : tySize Try.prog 61 = some 1 := by kernel_rfl
theorem ze61 : tyCells Try.prog 61 = some ([.nilFunc]) := by kernel_rfl
theorem ag62 : tyAgg Try.prog 62 = some false := by kernel_rfl
theorem sz62 : tySize Try.prog 62 = some 1 := by kernel_rfl
theorem ze62 : tyCells Try.prog 62 = some ([.nilFunc]) := by kernel_rfl
theorem ag63 : tyAgg Try.prog 63 = some false := by kernel_rfl
theorem sz63 : tySize Try.prog 63 = some 1 := by kernel_rfl
theorem ze63 : tyCells Try.prog 63 = some ([.nilFunc]) := by kernel_rfl
theorem ag64 : tyAgg Try.prog 64 = some false := by kernel_rfl
theorem sz64 : tySize Try.prog 64 = some 1 := by kernel_rfl
theorem pt64 : tyPtr Try.prog 64 = some 5 := by kernel_rfl
theorem ze64 : tyCells Try.prog 64 = some ([.pointer none]) := by kernel_rfl
theorem ag65 : tyAgg Try.prog 65 = some false := by kernel_rfl
theorem sz65 : tySize Try.prog 65 = some 1 := by kernel_rfl
theorem ze65 : tyCells Try.prog 65 = some ([.nilFunc]) := by kernel_rfl
theorem ag66 : tyAgg Try.prog 66 = some false := by kernel_rfl
theorem sz66 : tySize Try.prog 66 = some 1 := by kernel_rfl
theorem ze66 : tyCells Try.prog 66 = some ([.nilFunc]) := by kernel_rfl
theorem ag67 : tyAgg Try.prog 67 = some false := by kernel_rfl
theorem sz67 : tySize Try.prog 67 = some 1 := by kernel_rfl
theorem ze67 : tyCells Try.prog 67 = some ([.nilFunc]) := by kernel_rfl
theorem ag68 : tyAgg Try.prog 68 = some false := by kernel_rfl
theorem sz68 : tySize Try.prog 68 = some 1 := by kernel_rfl
theorem ze68 : tyCells Try.prog 68 = some ([.nilFunc]) := by kernel_rfl
theorem ag69 : tyAgg Try.prog 69 = some false := by kernel_rfl
theorem sz69 : tySize Try.prog 69 = some 1 := by kernel_rfl
theorem ze69 : tyCells Try.prog 69 = some ([.pointer none]) := by kernel_rfl
theorem ag70 : tyAgg Try.prog 70 = some false := by kernel_rfl
theorem sz70 : tySize Try.prog 70 = some 1 := by kernel_rfl
theorem ze70 : tyCells Try.prog 70 = some ([.nilFunc]) := by kernel_rfl
theorem ag71 : tyAgg Try.prog 71 = some false := by kernel_rfl
theorem sz71 : tySize Try.prog 71 = some 1 := by kernel_rfl
theorem ze71 : tyCells Try.prog 71 = some ([.nilFunc]) := by kernel_rfl
theorem ag72 : tyAgg Try.prog 72 = some false := by kernel_rfl
theorem sz72 : tySize Try.prog 72 = some 1 := by kernel_rfl
theorem ze72 : tyCells Try.prog 72 = some ([.nilFunc]) := by kernel_rfl
theorem ag73 : tyAgg Try.prog 73 = some false := by kernel_rfl
theorem sz73 : tySize Try.prog 73 = some 1 := by kernel_rfl
theorem ze73 : tyCells Try.prog 73 = some ([.nilFunc]) := by kernel_rfl
theorem ag74 : tyAgg Try.prog 74 = some false := by kernel_rfl
theorem sz74 : tySize Try.prog 74 = some 1 := by kernel_rfl
theorem ze74 : tyCells Try.prog 74 = some ([.nilFunc]) := by kernel_rfl
theorem ag75 : tyAgg Try.prog 75 = some false := by kernel_rfl
theorem sz75 : tySize Try.prog 75 = some 1 := by kernel_rfl
theorem in75 : tyInt Try.prog 75 = some .i64 := by kernel_rfl
theorem ze75 : tyCells Try.prog 75 = some ([.int .i64 (0)]) := by kernel_rfl
theorem ag76 : tyAgg Try.prog 76 = some false := by kernel_rfl
theorem sz76 : tySize Try.prog 76 = some 1 := by kernel_rfl
theorem ag77 : tyAgg Try.prog 77 = some false := by kernel_rfl
theorem sz77 : tySize Try.prog 77 = some 1 := by kernel_rfl
theorem ze77 : tyCells Try.prog 77 = some ([.nilFunc]) := by kernel_rfl
theorem ag78 : tyAgg Try.prog 78 = some false := by kernel_rfl
theorem sz78 : tySize Try.prog 78 = some 1 := by kernel_rfl
theorem ze78 : tyCells Try.prog 78 = some ([.nilFunc]) := by kernel_rfl
theorem ag79 : tyAgg Try.prog 79 = some false := by kernel_rfl
theorem sz79 : tySize Try.prog 79 = some 1 := by kernel_rfl
theorem ze79 : tyCells Try.prog 79 = some ([.nilFunc]) := by kernel_rfl
theorem ag80 : tyAgg Try.prog 80 = some false := by kernel_rfl
theorem sz80 : tySize Try.prog 80 = some 1 := by kernel_rfl
theorem ag81 : tyAgg Try.prog 81 = some false := by kernel_rfl
theorem sz81 : tySize Try.prog 81 = some 1 := by kernel_rfl
theorem ze81 : tyCells Try.prog 81 = some ([.nilFunc]) := by kernel_rfl
theorem ag82 : tyAgg Try.prog 82 = some false := by kernel_rfl
theorem sz82 : tySize Try.prog 82 = some 1 := by kernel_rfl
theorem ze82 : tyCells Try.prog 82 = some ([.nilFunc]) := by kernel_rfl
theorem ag83 : tyAgg Try.prog 83 = some false := by kernel_rfl
theorem sz83 : tySize Try.prog 83 = some 1 := by kernel_rfl
theorem in83 : tyInt Try.prog 83 = some .u32 := by kernel_rfl
theorem ze83 : tyCells Try.prog 83 = some ([.int .u32 (0)]) := by kernel_rfl
theorem ag84 : tyAgg Try.prog 84 = some false := by kernel_rfl
theorem sz84 : tySize Try.prog 84 = some 1 := by kernel_rfl
theorem ze84 : tyCells Try.prog 84 = some ([.nilFunc]) := by kernel_rfl
theorem ag85 : tyAgg Try.prog 85 = some false := by kernel_rfl
theorem sz85 : tySize Try.prog 85 = some 1 := by kernel_rfl
theorem in85 : tyInt Try.prog 85 = some .u64 := by kernel_rfl
theorem ze85 : tyCells Try.prog 85 = some ([.int .u64 (0)]) := by kernel_rfl
theorem ag86 : tyAgg Try.prog 86 = some false := by kernel_rfl
theorem sz86 : tySize Try.prog 86 = some 1 := by kernel_rfl
theorem in86 : tyInt Try.prog 86 = some .u64 := by kernel_rfl
theorem ze86 : tyCells Try.prog 86 = some ([.int .u64 (0)]) := by kernel_rfl
theorem ag87 : tyAgg Try.prog 87 = some false := by kernel_rfl
theorem sz87 : tySize Try.prog 87 = some 1 := by kernel_rfl
theorem ze87 : tyCells Try.prog 87 = some ([.nilFunc]) := by kernel_rfl
theorem ag88 : tyAgg Try.prog 88 = some false := by kernel_rfl
theorem sz88 : tySize Try.prog 88 = some 1 := by kernel_rfl
theorem ze88 : tyCells Try.prog 88 = some ([.nilFunc]) := by kernel_rfl
theorem ag89 : tyAgg Try.prog 89 = some false := by kernel_rfl
theorem sz89 : tySize Try.prog 89 = some 1 := by kernel_rfl
theorem ze89 : tyCells Try.prog 89 = some ([.nilFunc]) := by kernel_rfl
theorem ag90 : tyAgg Try.prog 90 = some false := by kernel_rfl
theorem sz90 : tySize Try.prog 90 = some 1 := by kernel_rfl
theorem pt90 : tyPtr Try.prog 90 = some 3 := by kernel_rfl
theorem ze90 : tyCells Try.prog 90 = some ([.pointer none]) := by kernel_rfl
theorem ag91 : tyAgg Try.prog 91 = some false := by kernel_rfl
theorem sz91 : tySize Try.prog 91 = some 1 := by kernel_rfl
theorem ze91 : tyCells Try.prog 91 = some ([.nilFunc]) := by kernel_rfl
theorem ag92 : tyAgg Try.prog 92 = some false := by kernel_rfl
theorem sz92 : tySize Try.prog 92 = some 1 := by kernel_rfl
theorem pt92 : tyPtr Try.prog 92 = some 86 := by kernel_rfl
theorem ze92 : tyCells Try.prog 92 = some ([.pointer none]) := by kernel_rfl
theorem ag93 : tyAgg Try.prog 93 = some false := by kernel_rfl
theorem sz93 : tySize Try.prog 93 = some 1 := by kernel_rfl
theorem ag94 : tyAgg Try.prog 94 = some false := by kernel_rfl
theorem sz94 : tySize Try.prog 94 = some 1 := by kernel_rfl
theorem ze94 : tyCells Try.prog 94 = some ([.nilFunc]) := by kernel_rfl
theorem ag95 : tyAgg Try.prog 95 = some true := by kernel_rfl
theorem sz95 : tySize Try.prog 95 = some 4 := by kernel_rfl
theorem fd95_0 : tyField Try.prog 95 0 = some (0, 17, 1) := by kernel_rfl
theorem fd95_1 : tyField Try.prog 95 1 = some (1, 17, 1) := by kernel_rfl
theorem fd95_2 : tyField Try.prog 95 2 = some (2, 17, 1) := by kernel_rfl
theorem fd95_3 : tyField Try.prog 95 3 = some (3, 9, 1) := by kernel_rfl
theorem ze95 : tyCells Try.prog 95 = some ([.pointer none, .pointer none, .pointer none, .string ⟨#[]⟩]) := by kernel_rfl
theorem ag96 : tyAgg Try.prog 96 = some true := by kernel_rfl
theorem sz96 : tySize Try.prog 96 = some 4 := by kernel_rfl
theorem fd96_0 : tyField Try.prog 96 0 = some (0, 17, 1) := by kernel_rfl
theorem fd96_1 : tyField Try.prog 96 1 = some (1, 17, 1) := by kernel_rfl
theorem fd96_2 : tyField Try.prog 96 2 = some (2, 17, 1) := by kernel_rfl
theorem fd96_3 : tyField Try.prog 96 3 = some (3, 9, 1) := by kernel_rfl
theorem ze96 : tyCells Try.prog 96 = some ([.pointer none, .pointer none, .pointer none, .string ⟨#[]⟩]) := by kernel_rfl
theorem ag97 : tyAgg Try.prog 97 = some true := by kernel_rfl
theorem sz97 : tySize Try.prog 97 = some 0 := by kernel_rfl
theorem ar97 : tyArray Try.prog 97 = some (0, 16) := by kernel_rfl
theorem ag98 : tyAgg Try.prog 98 = some true := by kernel_rfl
theorem sz98 : tySize Try.prog 98 = some 0 := by kernel_rfl
theorem fd98_0 : tyField Try.prog 98 0 = some (0, 97, 0) := by kernel_rfl
theorem ag99 : tyAgg Try.prog 99 = some true := by kernel_rfl
theorem sz99 : tySize Try.prog 99 = some 0 := by kernel_rfl
theorem fd99_0 : tyField Try.prog 99 0 = some (0, 97, 0) := by kernel_rfl
theorem ag100 : tyAgg Try.prog 100 = some false := by kernel_rfl
theorem sz100 : tySize Try.prog 100 = some 1 := by kernel_rfl
theorem ze100 : tyCells Try.prog 100 = some ([.nilFunc]) := by kernel_rfl
theorem ag101 : tyAgg Try.prog 101 = some false := by kernel_rfl
theorem sz101 : tySize Try.prog 101 = some 1 := by kernel_rfl
theorem in101 : tyInt Try.prog 101 = some .u8 := by kernel_rfl
theorem ze101 : tyCells Try.prog 101 = some ([.int .u8 (0)]) := by kernel_rfl
theorem ag102 : tyAgg Try.prog 102 = some false := by kernel_rfl
theorem sz102 : tySize Try.prog 102 = some 1 := by kernel_rfl
theorem in102 : tyInt Try.prog 102 = some .u8 := by kernel_rfl
theorem ze102 : tyCells Try.prog 102 = some ([.int .u8 (0)]) := by kernel_rfl
theorem ag103 : tyAgg Try.prog 103 = some false := by kernel_rfl
theorem sz103 : tySize Try.prog 103 = some 1 := by kernel_rfl
theorem ze103 : tyCells Try.prog 103 = some ([.nilFunc]) := by kernel_rfl
theorem ag104 : tyAgg Try.prog 104 = some false := by kernel_rfl
theorem sz104 : tySize Try.prog 104 = some 1 := by kernel_rfl
theorem in104 : tyInt Try.prog 104 = some .i32 := by kernel_rfl
theorem ze104 : tyCells Try.prog 104 = some ([.int .i32 (0)]) := by kernel_rfl
theorem ag105 : tyAgg Try.prog 105 = some false := by kernel_rfl
theorem sz105 : tySize Try.prog 105 = some 1 := by kernel_rfl
theorem in105 : tyInt Try.prog 105 = some .i32 := by kernel_rfl
theorem ze105 : tyCells Try.prog 105 = some ([.int .i32 (0)]) := by kernel_rfl
theorem ag106 : tyAgg Try.prog 106 = some true := by kernel_rfl
theorem sz106 : tySize Try.prog 106 = some 11 := by kernel_rfl
theorem fd106_0 : tyField Try.prog 106 0 = some (0, 12, 1) := by kernel_rfl
theorem fd106_1 : tyField Try.prog 106 1 = some (1, 12, 1) := by kernel_rfl
theorem fd106_2 : tyField Try.prog 106 2 = some (2, 83, 1) := by kernel_rfl
theorem fd106_3 : tyField Try.prog 106 3 = some (3, 101, 1) := by kernel_rfl
theorem fd106_4 : tyField Try.prog 106 4 = some (4, 5, 1) := by kernel_rfl
theorem fd106_5 : tyField Try.prog 106 5 = some (5, 5, 1) := by kernel_rfl
theorem fd106_6 : tyField Try.prog 106 6 = some (6, 102, 1) := by kernel_rfl
theorem fd106_7 : tyField Try.prog 106 7 = some (7, 103, 1) := by kernel_rfl
theorem fd106_8 : tyField Try.prog 106 8 = some (8, 64, 1) := by kernel_rfl
theorem fd106_9 : tyField Try.prog 106 9 = some (9, 104, 1) := by kernel_rfl
theorem fd106_10 : tyField Try.prog 106 10 = some (10, 105, 1) := by kernel_rfl
theorem ze106 : tyCells Try.prog 106 = some ([.int .u64 (0), .int .u64 (0), .int .u32 (0), .int .u8 (0), .int .u8 (0), .int .u8 (0), .int .u8 (0), .nilFunc, .pointer none, .int .i32 (0), .int .i32 (0)]) := by kernel_rfl
theorem ag107 : tyAgg Try.prog 107 = some true := by kernel_rfl
theorem sz107 : tySize Try.prog 107 = some 11 := by kernel_rfl
theorem fd107_0 : tyField Try.prog 107 0 = some (0, 12, 1) := by kernel_rfl
theorem fd107_1 : tyField Try.prog 107 1 = some (1, 12, 1) := by kernel_rfl
theorem fd107_2 : tyField Try.prog 107 2 = some (2, 83, 1) := by kernel_rfl
theorem fd107_3 : tyField Try.prog 107 3 = some (3, 101, 1) := by kernel_rfl
theorem fd107_4 : tyField Try.prog 107 4 = some (4, 5, 1) := by kernel_rfl
theorem fd107_5 : tyField Try.prog 107 5 = some (5, 5, 1) := by kernel_rfl
theorem fd107_6 : tyField Try.prog 107 6 = some (6, 102, 1) := by kernel_rfl
theorem fd107_7 : tyField Try.prog 107 7 = some (7, 103, 1) := by kernel_rfl
theorem fd107_8 : tyField Try.prog 107 8 = some (8, 64, 1) := by kernel_rfl
theorem fd107_9 : tyField Try.prog 107 9 = some (9, 104, 1) := by kernel_rfl
theorem fd107_10 : tyField Try.prog 107 10 = some (10, 105, 1) := by kernel_rfl
theorem ze107 : tyCells Try.prog 107 = some ([.int .u64 (0), .int .u64 (0), .int .u32 (0), .int .u8 (0), .int .u8 (0), .int .u8 (0), .int .u8 (0), .nilFunc, .pointer none, .int .i32 (0), .int .i32 (0)]) := by kernel_rfl
theorem st22 : SlTy Try.prog 22 5 ([.int .u8 (0)]) 1 := ⟨sl22, ze5, by first | rfl | exact sz5, by kernel_rfl⟩
theorem st38 : SlTy Try.prog 38 24 (kc (List.replicate 32 0)) 32 := ⟨sl38, ze24, by first | rfl | exact sz24, by kernel_rfl⟩
theorem pl7 : tyPlaces Try.prog 7 = some [(0, 1), (1, 1), (2, 1), (3, 1)] := by kernel_rfl
theorem eg7 : Try.prog.eqGuardType Try.prog.depth 7 = false := by kernel_rfl
theorem pl8 : tyPlaces Try.prog 8 = some [(0, 1), (1, 1), (2, 1), (3, 1)] := by kernel_rfl
theorem eg8 : Try.prog.eqGuardType Try.prog.depth 8 = false := by kernel_rfl
theorem pl13 : tyPlaces Try.prog 13 = some [(0, 1), (1, 1)] := by kernel_rfl
theorem eg13 : Try.prog.eqGuardType Try.prog.depth 13 = false := by kernel_rfl
theorem pl14 : tyPlaces Try.prog 14 = some [(0, 1), (1, 1)] := by kernel_rfl
theorem eg14 : Try.prog.eqGuardType Try.prog.depth 14 = false := by kernel_rfl
theorem pl18 : tyPlaces Try.prog 18 = some [(0, 1)] := by kernel_rfl
theorem pl19 : tyPlaces Try.prog 19 = some [(0, 1)] := by kernel_rfl
theorem eg23 : Try.prog.eqGuardType Try.prog.depth 23 = false := by kernel_rfl
theorem eg24 : Try.prog.eqGuardType Try.prog.depth 24 = false := by kernel_rfl
theorem pl49 : tyPlaces Try.prog 49 = some [(0, 1), (1, 1)] := by kernel_rfl
theorem pl50 : tyPlaces Try.prog 50 = some [(0, 1), (1, 1)] := by kernel_rfl
theorem pl95 : tyPlaces Try.prog 95 = some [(0, 1), (1, 1), (2, 1), (3, 1)] := by kernel_rfl
theorem pl96 : tyPlaces Try.prog 96 = some [(0, 1), (1, 1), (2, 1), (3, 1)] := by kernel_rfl
theorem pl98 : tyPlaces Try.prog 98 = some [(0, 0)] := by kernel_rfl
theorem pl99 : tyPlaces Try.prog 99 = some [(0, 0)] := by kernel_rfl
theorem pl106 : tyPlaces Try.prog 106 = some [(0, 1), (1, 1), (2, 1), (3, 1), (4, 1), (5, 1), (6, 1), (7, 1), (8, 1), (9, 1), (10, 1)] := by kernel_rfl
theorem pl107 : tyPlaces Try.prog 107 = some [(0, 1), (1, 1), (2, 1), (3, 1), (4, 1), (5, 1), (6, 1), (7, 1), (8, 1), (9, 1), (10, 1)] := by kernel_rfl
theorem fb3 : Body Try.prog 3 Try.f3 := ⟨Try.func3, by decide +kernel, rfl⟩
theorem fb4 : Body Try.prog 4 Try.f4 := ⟨Try.func4, by decide +kernel, rfl⟩
theorem fb5 : Body Try.prog 5 Try.f5 := ⟨Try.func5, by decide +kernel, rfl⟩
theorem fb6 : Body Try.prog 6 Try.f6 := ⟨Try.func6, by decide +kernel, rfl⟩
theorem fb7 : Body Try.prog 7 Try.f7 := ⟨Try.func7, by decide +kernel, rfl⟩
theorem fb8 : Body Try.prog 8 Try.f8 := ⟨Try.func8, by decide +kernel, rfl⟩
theorem fb9 : Body Try.prog 9 Try.f9 := ⟨Try.func9, by decide +kernel, rfl⟩
theorem fb10 : Body Try.prog 10 Try.f10 := ⟨Try.func10, by decide +kernel, rfl⟩
theorem fb11 : Body Try.prog 11 Try.f11 := ⟨Try.func11, by decide +kernel, rfl⟩
theorem fb12 : Body Try.prog 12 Try.f12 := ⟨Try.func12, by decide +kernel, rfl⟩
theorem fb13 : Body Try.prog 13 Try.f13 := ⟨Try.func13, by decide +kernel, rfl⟩
theorem fb14 : Body Try.prog 14 Try.f14 := ⟨Try.func14, by decide +kernel, rfl⟩
theorem fb15 : Body Try.prog 15 Try.f15 := ⟨Try.func15, by decide +kernel, rfl⟩
theorem fb16 : Body Try.prog 16 Try.f16 := ⟨Try.func16, by decide +kernel, rfl⟩
theorem fb17 : Body Try.prog 17 Try.f17 := ⟨Try.func17, by decide +kernel, rfl⟩
theorem fb18 : Body Try.prog 18 Try.f18 := ⟨Try.func18, by decide +kernel, rfl⟩
theorem fb19 : Body Try.prog 19 Try.f19 := ⟨Try.func19, by decide +kernel, rfl⟩
theorem fb20 : Body Try.prog 20 Try.f20 := ⟨Try.func20, by decide +kernel, rfl⟩
theorem fb21 : Body Try.prog 21 Try.f21 := ⟨Try.func21, by decide +kernel, rfl⟩
theorem fb22 : Body Try.prog 22 Try.f22 := ⟨Try.func22, by decide +kernel, rfl⟩
theorem fb23 : Body Try.prog 23 Try.f23 := ⟨Try.func23, by decide +kernel, rfl⟩
theorem fb24 : Body Try.prog 24 Try.f24 := ⟨Try.func24, by decide +kernel, rfl⟩
theorem fb25 : Body Try.prog 25 Try.f25 := ⟨Try.func25, by decide +kernel, rfl⟩
theorem fb26 : Body Try.prog 26 Try.f26 := ⟨Try.func26, by decide +kernel, rfl⟩
theorem fb27 : Body Try.prog 27 Try.f27 := ⟨Try.func27, by decide +kernel, rfl⟩
theorem fb28 : Body Try.prog 28 Try.f28 := ⟨Try.func28, by decide +kernel, rfl⟩
theorem fb29 : Body Try.prog 29 Try.f29 := ⟨Try.func29, by decide +kernel, rfl⟩
theorem fb30 : Body Try.prog 30 Try.f30 := ⟨Try.func30, by decide +kernel, rfl⟩
theorem fb31 : Body Try.prog 31 Try.f31 := ⟨Try.func31, by decide +kernel, rfl⟩
theorem fb32 : Body Try.prog 32 Try.f32 := ⟨Try.func32, by decide +kernel, rfl⟩
theorem fb33 : Body Try.prog 33 Try.f33 := ⟨Try.func33, by decide +kernel, rfl⟩
theorem fb34 : Body Try.prog 34 Try.f34 := ⟨Try.func34, by decide +kernel, rfl⟩
theorem fb35 : Body Try.prog 35 Try.f35 := ⟨Try.func35, by decide +kernel, rfl⟩
theorem fb36 : Body Try.prog 36 Try.f36 := ⟨Try.func36, by decide +kernel, rfl⟩
theorem fb37 : Body Try.prog 37 Try.f37 := ⟨Try.func37, by decide +kernel, rfl⟩
theorem fb38 : Body Try.prog 38 Try.f38 := ⟨Try.func38, by decide +kernel, rfl⟩
theorem fb39 : Body Try.prog 39 Try.f39 := ⟨Try.func39, by decide +kernel, rfl⟩
theorem fb40 : Body Try.prog 40 Try.f40 := ⟨Try.func40, by decide +kernel, rfl⟩
theorem fb41 : Body Try.prog 41 Try.f41 := ⟨Try.func41, by decide +kernel, rfl⟩
theorem fb42 : Body Try.prog 42 Try.f42 := ⟨Try.func42, by decide +kernel, rfl⟩
theorem fb45 : Body Try.prog 45 Try.f45 := ⟨Try.func45, by decide +kernel, rfl⟩
theorem fb46 : Body Try.prog 46 Try.f46 := ⟨Try.func46, by decide +kernel, rfl⟩
theorem fb47 : Body Try.prog 47 Try.f47 := ⟨Try.func47, by decide +kernel, rfl⟩
theorem fb48 : Body Try.prog 48 Try.f48 := ⟨Try.func48, by decide +kernel, rfl⟩
theorem fb49 : Body Try.prog 49 Try.f49 := ⟨Try.func49, by decide +kernel, rfl⟩
theorem fb50 : Body Try.prog 50 Try.f50 := ⟨Try.func50, by decide +kernel, rfl⟩
theorem fb51 : Body Try.prog 51 Try.f51 := ⟨Try.func51, by decide +kernel, rfl⟩
theorem fb52 : Body Try.prog 52 Try.f52 := ⟨Try.func52, by decide +kernel, rfl⟩
theorem fb53 : Body Try.prog 53 Try.f53 := ⟨Try.func53, by decide +kernel, rfl⟩
theorem fb54 : Body Try.prog 54 Try.f54 := ⟨Try.func54, by decide +kernel, rfl⟩
theorem fb55 : Body Try.prog 55 Try.f55 := ⟨Try.func55, by decide +kernel, rfl⟩
theorem fb56 : Body Try.prog 56 Try.f56 := ⟨Try.func56, by decide +kernel, rfl⟩
theorem fb57 : Body Try.prog 57 Try.f57 := ⟨Try.func57, by decide +kernel, rfl⟩
theorem fb58 : Body Try.prog 58 Try.f58 := ⟨Try.func58, by decide +kernel, rfl⟩
theorem fb59 : Body Try.prog 59 Try.f59 := ⟨Try.func59, by decide +kernel, rfl⟩
theorem fb60 : Body Try.prog 60 Try.f60 := ⟨Try.func60, by decide +kernel, rfl⟩
theorem fb61 : Body Try.prog 61 Try.f61 := ⟨Try.func61, by decide +kernel, rfl⟩
theorem fb62 : Body Try.prog 62 Try.f62 := ⟨Try.func62, by decide +kernel, rfl⟩
theorem fb63 : Body Try.prog 63 Try.f63 := ⟨Try.func63, by decide +kernel, rfl⟩
end Go.Sp.TryT
