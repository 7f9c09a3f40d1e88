/- Facts of types and functions, by a program of this work (gents.py) out of the translation. -/
import Derived.Test.YthephcghglldaaaProg
import Derived.Test.YthephcghglldaaaSw
import Derived.KernelRfl
namespace Go.Proofs.Ythephcghglldaaa.Ty
open Go.Proofs.Ythephcghglldaaa.Sx Go.Proofs
theorem fl3 : Flat Try.prog 3 := Flat.mk' Try.underlying3 rfl
theorem fl4 : Flat Try.prog 4 := Flat.mk' Try.underlying4 rfl
theorem fl5 : Flat Try.prog 5 := Flat.mk' Try.underlying5 rfl
theorem fl22 : Flat Try.prog 22 := Flat.mk' Try.underlying22 rfl
theorem ag24 : Agg Try.prog 24 6 := Agg.mk' Try.underlying24 rfl (by kernel_rfl)
theorem ag25 : Agg Try.prog 25 6 := Agg.mk' Try.underlying25 rfl (by kernel_rfl)
theorem ag40 : Agg Try.prog 40 16 := Agg.mk' Try.underlying40 rfl (by kernel_rfl)
theorem ag49 : Agg Try.prog 49 4 := Agg.mk' Try.underlying49 rfl (by kernel_rfl)
theorem ag50 : Agg Try.prog 50 4 := Agg.mk' Try.underlying50 rfl (by kernel_rfl)
theorem fl52 : Flat Try.prog 52 := Flat.mk' Try.underlying52 rfl
theorem fl67 : Flat Try.prog 67 := Flat.mk' Try.underlying67 rfl
theorem ag75 : Agg Try.prog 75 6 := Agg.mk' Try.underlying75 rfl (by kernel_rfl)
theorem fl94 : Flat Try.prog 94 := Flat.mk' Try.underlying94 rfl
theorem ag96 : Agg Try.prog 96 12 := Agg.mk' Try.underlying96 rfl (by kernel_rfl)
theorem ag98 : Agg Try.prog 98 16 := Agg.mk' Try.underlying98 rfl (by kernel_rfl)
theorem ag101 : Agg Try.prog 101 3 := Agg.mk' Try.underlying101 rfl (by kernel_rfl)
theorem ag108 : Agg Try.prog 108 32 := Agg.mk' Try.underlying108 rfl (by kernel_rfl)
theorem ag112 : Agg Try.prog 112 16 := Agg.mk' Try.underlying112 rfl (by kernel_rfl)
theorem fl114 : Flat Try.prog 114 := Flat.mk' Try.underlying114 rfl
theorem ag115 : Agg Try.prog 115 8 := Agg.mk' Try.underlying115 rfl (by kernel_rfl)
theorem ag116 : Agg Try.prog 116 64 := Agg.mk' Try.underlying116 rfl (by kernel_rfl)
theorem ag120 : Agg Try.prog 120 32 := Agg.mk' Try.underlying120 rfl (by kernel_rfl)
theorem ag128 : Agg Try.prog 128 8 := Agg.mk' Try.underlying128 rfl (by kernel_rfl)
theorem ag131 : Agg Try.prog 131 11 := Agg.mk' Try.underlying131 rfl (by kernel_rfl)
theorem ag135 : Agg Try.prog 135 16 := Agg.mk' Try.underlying135 rfl (by kernel_rfl)
theorem sz3 : (Try.prog.info? 3).map (·.size) = some 1 := by kernel_rfl
theorem sz4 : (Try.prog.info? 4).map (·.size) = some 1 := by kernel_rfl
theorem sz5 : (Try.prog.info? 5).map (·.size) = some 1 := by kernel_rfl
theorem sz22 : (Try.prog.info? 22).map (·.size) = some 1 := by kernel_rfl
theorem sz24 : (Try.prog.info? 24).map (·.size) = some 6 := by kernel_rfl
theorem sz25 : (Try.prog.info? 25).map (·.size) = some 6 := by kernel_rfl
theorem sz40 : (Try.prog.info? 40).map (·.size) = some 16 := by kernel_rfl
theorem sz49 : (Try.prog.info? 49).map (·.size) = some 4 := by kernel_rfl
theorem sz50 : (Try.prog.info? 50).map (·.size) = some 4 := by kernel_rfl
theorem sz75 : (Try.prog.info? 75).map (·.size) = some 6 := by kernel_rfl
theorem sz93 : (Try.prog.info? 93).map (·.size) = some 7 := by kernel_rfl
theorem sz95 : (Try.prog.info? 95).map (·.size) = some 2 := by kernel_rfl
theorem sz96 : (Try.prog.info? 96).map (·.size) = some 12 := by kernel_rfl
theorem sz98 : (Try.prog.info? 98).map (·.size) = some 16 := by kernel_rfl
theorem sz101 : (Try.prog.info? 101).map (·.size) = some 3 := by kernel_rfl
theorem sz108 : (Try.prog.info? 108).map (·.size) = some 32 := by kernel_rfl
theorem sz112 : (Try.prog.info? 112).map (·.size) = some 16 := by kernel_rfl
theorem sz114 : (Try.prog.info? 114).map (·.size) = some 1 := by kernel_rfl
theorem sz115 : (Try.prog.info? 115).map (·.size) = some 8 := by kernel_rfl
theorem sz116 : (Try.prog.info? 116).map (·.size) = some 64 := by kernel_rfl
theorem sz120 : (Try.prog.info? 120).map (·.size) = some 32 := by kernel_rfl
theorem sz128 : (Try.prog.info? 128).map (·.size) = some 8 := by kernel_rfl
theorem sz131 : (Try.prog.info? 131).map (·.size) = some 11 := by kernel_rfl
theorem sz135 : (Try.prog.info? 135).map (·.size) = some 16 := by kernel_rfl
theorem ti5 : TInf Try.prog 5 1 1 [.int .u8 0] := by unfold TInf; kernel_rfl
theorem ti22 : TInf Try.prog 22 1 24 [.slice none 0 0] := by unfold TInf; kernel_rfl
theorem ti24 : TInf Try.prog 24 6 64 [.int .i64 0, .int .i64 0, .int .i64 0, .int .i64 0, .int .i64 0, .slice none 0 0] := by unfold TInf; kernel_rfl
theorem ti25 : TInf Try.prog 25 6 64 [.int .i64 0, .int .i64 0, .int .i64 0, .int .i64 0, .int .i64 0, .slice none 0 0] := by unfold TInf; kernel_rfl
theorem ti40 : TInf Try.prog 40 16 168 [.int .u8 0, .int .i64 0, .int .i64 0, .int .i64 0, .int .i64 0, .int .i64 0, .slice none 0 0, .int .i64 0, .int .i64 0, .int .i64 0, .int .i64 0, .int .i64 0, .slice none 0 0, .int .u8 0, .int .u8 0, .slice none 0 0] := by unfold TInf; kernel_rfl
theorem ti49 : TInf Try.prog 49 4 48 [.int .i64 0, .int .i64 0, .int .i64 0, .slice none 0 0] := by unfold TInf; kernel_rfl
theorem ti50 : TInf Try.prog 50 4 48 [.int .i64 0, .int .i64 0, .int .i64 0, .slice none 0 0] := by unfold TInf; kernel_rfl
theorem ti75 : TInf Try.prog 75 6 96 [.int .i64 0, .int .i64 0, .slice none 0 0, .slice none 0 0, .slice none 0 0, .int .u8 0] := by unfold TInf; kernel_rfl
theorem ti93 : TInf Try.prog 93 7 72 [.int .i64 0, .int .i64 0, .int .i64 0, .int .i64 0, .int .i64 0, .slice none 0 0, .int .i64 0] := by unfold TInf; kernel_rfl
theorem ti95 : TInf Try.prog 95 2 16 [.pointer none, .int .i64 0] := by unfold TInf; kernel_rfl
theorem ti96 : TInf Try.prog 96 12 96 [.pointer none, .int .i64 0, .pointer none, .int .i64 0, .pointer none, .int .i64 0, .pointer none, .int .i64 0, .pointer none, .int .i64 0, .pointer none, .int .i64 0] := by unfold TInf; kernel_rfl
theorem ti98 : TInf Try.prog 98 16 16 (List.replicate 16 (.int .u8 0)) := by unfold TInf; kernel_rfl
theorem ti101 : TInf Try.prog 101 3 24 [.int .i64 0, .int .i64 0, .int .i64 0] := by unfold TInf; kernel_rfl
theorem ti108 : TInf Try.prog 108 32 32 (List.replicate 32 (.int .u8 0)) := by unfold TInf; kernel_rfl
theorem ti112 : TInf Try.prog 112 16 16 (List.replicate 16 (.int .u8 0)) := by unfold TInf; kernel_rfl
theorem ti114 : TInf Try.prog 114 1 4 [.int .u32 0] := by unfold TInf; kernel_rfl
theorem ti115 : TInf Try.prog 115 8 32 [.int .u32 0, .int .u32 0, .int .u32 0, .int .u32 0, .int .u32 0, .int .u32 0, .int .u32 0, .int .u32 0] := by unfold TInf; kernel_rfl
theorem ti116 : TInf Try.prog 116 64 256 (List.replicate 64 (.int .u32 0)) := by unfold TInf; kernel_rfl
theorem ti120 : TInf Try.prog 120 32 32 (List.replicate 32 (.int .u8 0)) := by unfold TInf; kernel_rfl
theorem ti128 : TInf Try.prog 128 8 32 [.int .u32 0, .int .u32 0, .int .u32 0, .int .u32 0, .int .u32 0, .int .u32 0, .int .u32 0, .int .u32 0] := by unfold TInf; kernel_rfl
theorem ti131 : TInf Try.prog 131 11 72 [.int .u32 0, .int .u32 0, .int .u32 0, .int .u32 0, .int .u32 0, .int .u32 0, .int .u32 0, .int .u32 0, .slice none 0 0, .int .i64 0, .bool false] := by unfold TInf; kernel_rfl
theorem ti135 : TInf Try.prog 135 16 64 (List.replicate 16 (.int .u32 0)) := by unfold TInf; kernel_rfl
theorem fo24_0 : FOff Try.prog 24 0 0 := FOff.mk' Try.underlying24 rfl rfl (by kernel_rfl)
theorem fo24_1 : FOff Try.prog 24 1 1 := FOff.mk' Try.underlying24 rfl rfl (by kernel_rfl)
theorem fo24_2 : FOff Try.prog 24 2 2 := FOff.mk' Try.underlying24 rfl rfl (by kernel_rfl)
theorem fo24_3 : FOff Try.prog 24 3 3 := FOff.mk' Try.underlying24 rfl rfl (by kernel_rfl)
theorem fo24_4 : FOff Try.prog 24 4 4 := FOff.mk' Try.underlying24 rfl rfl (by kernel_rfl)
theorem fo24_5 : FOff Try.prog 24 5 5 := FOff.mk' Try.underlying24 rfl rfl (by kernel_rfl)
theorem fo25_0 : FOff Try.prog 25 0 0 := FOff.mk' Try.underlying25 rfl rfl (by kernel_rfl)
theorem fo25_1 : FOff Try.prog 25 1 1 := FOff.mk' Try.underlying25 rfl rfl (by kernel_rfl)
theorem fo25_2 : FOff Try.prog 25 2 2 := FOff.mk' Try.underlying25 rfl rfl (by kernel_rfl)
theorem fo25_3 : FOff Try.prog 25 3 3 := FOff.mk' Try.underlying25 rfl rfl (by kernel_rfl)
theorem fo25_4 : FOff Try.prog 25 4 4 := FOff.mk' Try.underlying25 rfl rfl (by kernel_rfl)
theorem fo25_5 : FOff Try.prog 25 5 5 := FOff.mk' Try.underlying25 rfl rfl (by kernel_rfl)
theorem fo40_0 : FOff Try.prog 40 0 0 := FOff.mk' Try.underlying40 rfl rfl (by kernel_rfl)
theorem fo40_1 : FOff Try.prog 40 1 1 := FOff.mk' Try.underlying40 rfl rfl (by kernel_rfl)
theorem fo40_2 : FOff Try.prog 40 2 7 := FOff.mk' Try.underlying40 rfl rfl (by kernel_rfl)
theorem fo40_3 : FOff Try.prog 40 3 13 := FOff.mk' Try.underlying40 rfl rfl (by kernel_rfl)
theorem fo40_4 : FOff Try.prog 40 4 14 := FOff.mk' Try.underlying40 rfl rfl (by kernel_rfl)
theorem fo40_5 : FOff Try.prog 40 5 15 := FOff.mk' Try.underlying40 rfl rfl (by kernel_rfl)
theorem fo49_0 : FOff Try.prog 49 0 0 := FOff.mk' Try.underlying49 rfl rfl (by kernel_rfl)
theorem fo49_1 : FOff Try.prog 49 1 1 := FOff.mk' Try.underlying49 rfl rfl (by kernel_rfl)
theorem fo49_2 : FOff Try.prog 49 2 2 := FOff.mk' Try.underlying49 rfl rfl (by kernel_rfl)
theorem fo49_3 : FOff Try.prog 49 3 3 := FOff.mk' Try.underlying49 rfl rfl (by kernel_rfl)
theorem fo50_0 : FOff Try.prog 50 0 0 := FOff.mk' Try.underlying50 rfl rfl (by kernel_rfl)
theorem fo50_1 : FOff Try.prog 50 1 1 := FOff.mk' Try.underlying50 rfl rfl (by kernel_rfl)
theorem fo50_2 : FOff Try.prog 50 2 2 := FOff.mk' Try.underlying50 rfl rfl (by kernel_rfl)
theorem fo50_3 : FOff Try.prog 50 3 3 := FOff.mk' Try.underlying50 rfl rfl (by kernel_rfl)
theorem fo75_0 : FOff Try.prog 75 0 0 := FOff.mk' Try.underlying75 rfl rfl (by kernel_rfl)
theorem fo75_1 : FOff Try.prog 75 1 1 := FOff.mk' Try.underlying75 rfl rfl (by kernel_rfl)
theorem fo75_2 : FOff Try.prog 75 2 2 := FOff.mk' Try.underlying75 rfl rfl (by kernel_rfl)
theorem fo75_3 : FOff Try.prog 75 3 3 := FOff.mk' Try.underlying75 rfl rfl (by kernel_rfl)
theorem fo75_4 : FOff Try.prog 75 4 4 := FOff.mk' Try.underlying75 rfl rfl (by kernel_rfl)
theorem fo75_5 : FOff Try.prog 75 5 5 := FOff.mk' Try.underlying75 rfl rfl (by kernel_rfl)
theorem fo93_0 : FOff Try.prog 93 0 0 := FOff.mk' Try.underlying93 rfl rfl (by kernel_rfl)
theorem fo93_1 : FOff Try.prog 93 1 6 := FOff.mk' Try.underlying93 rfl rfl (by kernel_rfl)
theorem fo95_0 : FOff Try.prog 95 0 0 := FOff.mk' Try.underlying95 rfl rfl (by kernel_rfl)
theorem fo95_1 : FOff Try.prog 95 1 1 := FOff.mk' Try.underlying95 rfl rfl (by kernel_rfl)
theorem fo101_0 : FOff Try.prog 101 0 0 := FOff.mk' Try.underlying101 rfl rfl (by kernel_rfl)
theorem fo101_1 : FOff Try.prog 101 1 1 := FOff.mk' Try.underlying101 rfl rfl (by kernel_rfl)
theorem fo101_2 : FOff Try.prog 101 2 2 := FOff.mk' Try.underlying101 rfl rfl (by kernel_rfl)
theorem fo128_0 : FOff Try.prog 128 0 0 := FOff.mk' Try.underlying128 rfl rfl (by kernel_rfl)
theorem fo128_1 : FOff Try.prog 128 1 1 := FOff.mk' Try.underlying128 rfl rfl (by kernel_rfl)
theorem fo128_2 : FOff Try.prog 128 2 2 := FOff.mk' Try.underlying128 rfl rfl (by kernel_rfl)
theorem fo128_3 : FOff Try.prog 128 3 3 := FOff.mk' Try.underlying128 rfl rfl (by kernel_rfl)
theorem fo128_4 : FOff Try.prog 128 4 4 := FOff.mk' Try.underlying128 rfl rfl (by kernel_rfl)
theorem fo128_5 : FOff Try.prog 128 5 5 := FOff.mk' Try.underlying128 rfl rfl (by kernel_rfl)
theorem fo128_6 : FOff Try.prog 128 6 6 := FOff.mk' Try.underlying128 rfl rfl (by kernel_rfl)
theorem fo128_7 : FOff Try.prog 128 7 7 := FOff.mk' Try.underlying128 rfl rfl (by kernel_rfl)
theorem fo131_0 : FOff Try.prog 131 0 0 := FOff.mk' Try.underlying131 rfl rfl (by kernel_rfl)
theorem fo131_1 : FOff Try.prog 131 1 8 := FOff.mk' Try.underlying131 rfl rfl (by kernel_rfl)
theorem fo131_2 : FOff Try.prog 131 2 9 := FOff.mk' Try.underlying131 rfl rfl (by kernel_rfl)
theorem fo131_3 : FOff Try.prog 131 3 10 := FOff.mk' Try.underlying131 rfl rfl (by kernel_rfl)
theorem ca15 : Callable Try.prog 15 := by unfold Callable; kernel_rfl
theorem ca16 : Callable Try.prog 16 := by unfold Callable; kernel_rfl
theorem ca17 : Callable Try.prog 17 := by unfold Callable; kernel_rfl
theorem ca18 : Callable Try.prog 18 := by unfold Callable; kernel_rfl
theorem ca19 : Callable Try.prog 19 := by unfold Callable; kernel_rfl
theorem ca20 : Callable Try.prog 20 := by unfold Callable; kernel_rfl
theorem ca21 : Callable Try.prog 21 := by unfold Callable; kernel_rfl
theorem ca22 : Callable Try.prog 22 := by unfold Callable; kernel_rfl
theorem ca23 : Callable Try.prog 23 := by unfold Callable; kernel_rfl
theorem ca24 : Callable Try.prog 24 := by unfold Callable; kernel_rfl
theorem ca25 : Callable Try.prog 25 := by unfold Callable; kernel_rfl
theorem ca26 : Callable Try.prog 26 := by unfold Callable; kernel_rfl
theorem ca27 : Callable Try.prog 27 := by unfold Callable; kernel_rfl
theorem ca28 : Callable Try.prog 28 := by unfold Callable; kernel_rfl
theorem ca29 : Callable Try.prog 29 := by unfold Callable; kernel_rfl
theorem ca30 : Callable Try.prog 30 := by unfold Callable; kernel_rfl
theorem ca31 : Callable Try.prog 31 := by unfold Callable; kernel_rfl
theorem ca32 : Callable Try.prog 32 := by unfold Callable; kernel_rfl
theorem ca33 : Callable Try.prog 33 := by unfold Callable; kernel_rfl
theorem ca34 : Callable Try.prog 34 := by unfold Callable; kernel_rfl
theorem ca35 : Callable Try.prog 35 := by unfold Callable; kernel_rfl
theorem ca36 : Callable Try.prog 36 := by unfold Callable; kernel_rfl
theorem ca37 : Callable Try.prog 37 := by unfold Callable; kernel_rfl
theorem ca38 : Callable Try.prog 38 := by unfold Callable; kernel_rfl
theorem ca39 : Callable Try.prog 39 := by unfold Callable; kernel_rfl
theorem ca40 : Callable Try.prog 40 := by unfold Callable; kernel_rfl
theorem ca41 : Callable Try.prog 41 := by unfold Callable; kernel_rfl
theorem ca42 : Callable Try.prog 42 := by unfold Callable; kernel_rfl
theorem ca43 : Callable Try.prog 43 := by unfold Callable; kernel_rfl
theorem ca44 : Callable Try.prog 44 := by unfold Callable; kernel_rfl
theorem ca45 : Callable Try.prog 45 := by unfold Callable; kernel_rfl
theorem ca46 : Callable Try.prog 46 := by unfold Callable; kernel_rfl
theorem ca47 : Callable Try.prog 47 := by unfold Callable; kernel_rfl
theorem ca48 : Callable Try.prog 48 := by unfold Callable; kernel_rfl
theorem ca49 : Callable Try.prog 49 := by unfold Callable; kernel_rfl
theorem ca50 : Callable Try.prog 50 := by unfold Callable; kernel_rfl
theorem ca51 : Callable Try.prog 51 := by unfold Callable; kernel_rfl
theorem ca52 : Callable Try.prog 52 := by unfold Callable; kernel_rfl
theorem ca53 : Callable Try.prog 53 := by unfold Callable; kernel_rfl
theorem ca54 : Callable Try.prog 54 := by unfold Callable; kernel_rfl
theorem ca55 : Callable Try.prog 55 := by unfold Callable; kernel_rfl
theorem ca56 : Callable Try.prog 56 := by unfold Callable; kernel_rfl
theorem ca57 : Callable Try.prog 57 := by unfold Callable; kernel_rfl
theorem ca58 : Callable Try.prog 58 := by unfold Callable; kernel_rfl
theorem ca59 : Callable Try.prog 59 := by unfold Callable; kernel_rfl
theorem ca60 : Callable Try.prog 60 := by unfold Callable; kernel_rfl
theorem ca61 : Callable Try.prog 61 := by unfold Callable; kernel_rfl
theorem ca62 : Callable Try.prog 62 := by unfold Callable; kernel_rfl
theorem ca63 : Callable Try.prog 63 := by unfold Callable; kernel_rfl
theorem ca64 : Callable Try.prog 64 := by unfold Callable; kernel_rfl
theorem ca65 : Callable Try.prog 65 := by unfold Callable; kernel_rfl
theorem ca66 : Callable Try.prog 66 := by unfold Callable; kernel_rfl
theorem ca67 : Callable Try.prog 67 := by unfold Callable; kernel_rfl
theorem ca68 : Callable Try.prog 68 := by unfold Callable; kernel_rfl
theorem ca69 : Callable Try.prog 69 := by unfold Callable; kernel_rfl
theorem ca70 : Callable Try.prog 70 := by unfold Callable; kernel_rfl
theorem ca71 : Callable Try.prog 71 := by unfold Callable; kernel_rfl
theorem ca72 : Callable Try.prog 72 := by unfold Callable; kernel_rfl
theorem ca73 : Callable Try.prog 73 := by unfold Callable; kernel_rfl
theorem ca74 : Callable Try.prog 74 := by unfold Callable; kernel_rfl
theorem ca75 : Callable Try.prog 75 := by unfold Callable; kernel_rfl
theorem ca76 : Callable Try.prog 76 := by unfold Callable; kernel_rfl
theorem mo : Try.prog.follows .mixedOrders = true := by kernel_rfl
end Go.Proofs.Ythephcghglldaaa.Ty
