/-
  
-/
import Derived.Test.YtdgfmdjlhkjbaaaChecked
import Derived.KernelRfl
import Derived.Test.YtdgfmdjlhkjbaaaCa
import Derived.Test.YtdgfmdjlhkjbaaaHa
set_option linter.all false
section
namespace Go.Proofs.Ab5
open Go.Ab Go.Proofs
theorem ti0 : tiOf Try.prog 0 = some ⟨.other, 1, 0, some [.any]⟩ := by kernel_rfl
theorem ti1 : tiOf Try.prog 1 = some ⟨.func, 1, 8, some [.nilFunc]⟩ := by kernel_rfl
theorem ti2 : tiOf Try.prog 2 = some ⟨.int .i64, 1, 8, some [.int .i64 0]⟩ := by kernel_rfl
theorem ti3 : tiOf Try.prog 3 = some ⟨.int .i64, 1, 8, some [.int .i64 0]⟩ := by kernel_rfl
theorem ti4 : tiOf Try.prog 4 = some ⟨.bool, 1, 1, some [.bool false]⟩ := by kernel_rfl
theorem ti5 : tiOf Try.prog 5 = some ⟨.int .u8, 1, 1, some [.int .u8 0]⟩ := by kernel_rfl
theorem ti6 : tiOf Try.prog 6 = some ⟨.int .u8, 1, 1, some [.int .u8 0]⟩ := by kernel_rfl
theorem ti7 : tiOf Try.prog 7 = some ⟨.struct [(0, 2), (1, 3), (2, 4), (3, 6)], 4, 24, some [.int .i64 0, .int .i64 0, .bool false, .int .u8 0]⟩ := by kernel_rfl
theorem ti8 : tiOf Try.prog 8 = some ⟨.struct [(0, 2), (1, 3), (2, 4), (3, 6)], 4, 24, some [.int .i64 0, .int .i64 0, .bool false, .int .u8 0]⟩ := by kernel_rfl
theorem ti9 : tiOf Try.prog 9 = some ⟨.str, 1, 16, some [.str .empty]⟩ := by kernel_rfl
theorem ti10 : tiOf Try.prog 10 = some ⟨.str, 1, 16, some [.str .empty]⟩ := by kernel_rfl
theorem ti11 : tiOf Try.prog 11 = some ⟨.str, 1, 16, some [.str .empty]⟩ := by kernel_rfl
theorem ti12 : tiOf Try.prog 12 = some ⟨.int .u64, 1, 8, some [.int .u64 0]⟩ := by kernel_rfl
theorem ti13 : tiOf Try.prog 13 = some ⟨.struct [(0, 9), (1, 12)], 2, 24, some [.str .empty, .int .u64 0]⟩ := by kernel_rfl
theorem ti14 : tiOf Try.prog 14 = some ⟨.struct [(0, 9), (1, 12)], 2, 24, some [.str .empty, .int .u64 0]⟩ := by kernel_rfl
theorem ti15 : tiOf Try.prog 15 = some ⟨.pointer 83, 1, 8, some [.nilPtr]⟩ := by kernel_rfl
theorem ti16 : tiOf Try.prog 16 = some ⟨.pointer 86, 1, 8, some [.nilPtr]⟩ := by kernel_rfl
theorem ti17 : tiOf Try.prog 17 = some ⟨.pointer 95, 1, 8, some [.nilPtr]⟩ := by kernel_rfl
theorem ti18 : tiOf Try.prog 18 = some ⟨.struct [(0, 17)], 1, 8, some [.nilPtr]⟩ := by kernel_rfl
theorem ti19 : tiOf Try.prog 19 = some ⟨.struct [(0, 17)], 1, 8, some [.nilPtr]⟩ := by kernel_rfl
theorem ti20 : tiOf Try.prog 20 = some ⟨.iface, 1, 16, some [.nilIface]⟩ := by kernel_rfl
theorem ti21 : tiOf Try.prog 21 = some ⟨.int .i32, 1, 4, some [.int .i32 0]⟩ := by kernel_rfl
theorem ti22 : tiOf Try.prog 22 = some ⟨.func, 1, 8, some [.nilFunc]⟩ := by kernel_rfl
theorem ti23 : tiOf Try.prog 23 = some ⟨.slice 31, 1, 24, some [.nilSlice]⟩ := by kernel_rfl
theorem ti24 : tiOf Try.prog 24 = some ⟨.struct [(0, 3), (1, 4), (2, 3), (3, 4), (4, 9)], 5, 48, some [.int .i64 0, .bool false, .int .i64 0, .bool false, .str .empty]⟩ := by kernel_rfl
theorem ti25 : tiOf Try.prog 25 = some ⟨.struct [(0, 3), (1, 4), (2, 3), (3, 4), (4, 9)], 5, 48, some [.int .i64 0, .bool false, .int .i64 0, .bool false, .str .empty]⟩ := by kernel_rfl
theorem ti26 : tiOf Try.prog 26 = some ⟨.other, 1, 0, some [.any]⟩ := by kernel_rfl
theorem ti27 : tiOf Try.prog 27 = some ⟨.func, 1, 8, some [.nilFunc]⟩ := by kernel_rfl
theorem ti28 : tiOf Try.prog 28 = some ⟨.func, 1, 8, some [.nilFunc]⟩ := by kernel_rfl
theorem ti29 : tiOf Try.prog 29 = some ⟨.slice 3, 1, 24, some [.nilSlice]⟩ := by kernel_rfl
theorem ti30 : tiOf Try.prog 30 = some ⟨.struct [(0, 3), (1, 3), (2, 3), (3, 9), (4, 29)], 5, 64, some [.int .i64 0, .int .i64 0, .int .i64 0, .str .empty, .nilSlice]⟩ := by kernel_rfl
theorem ti31 : tiOf Try.prog 31 = some ⟨.struct [(0, 3), (1, 3), (2, 3), (3, 9), (4, 29)], 5, 64, some [.int .i64 0, .int .i64 0, .int .i64 0, .str .empty, .nilSlice]⟩ := by kernel_rfl
theorem ti32 : tiOf Try.prog 32 = some ⟨.func, 1, 8, some [.nilFunc]⟩ := by kernel_rfl
theorem ti33 : tiOf Try.prog 33 = some ⟨.func, 1, 8, some [.nilFunc]⟩ := by kernel_rfl
theorem ti34 : tiOf Try.prog 34 = some ⟨.func, 1, 8, some [.nilFunc]⟩ := by kernel_rfl
theorem ti35 : tiOf Try.prog 35 = some ⟨.func, 1, 8, some [.nilFunc]⟩ := by kernel_rfl
theorem ti36 : tiOf Try.prog 36 = some ⟨.func, 1, 8, some [.nilFunc]⟩ := by kernel_rfl
theorem ti37 : tiOf Try.prog 37 = some ⟨.slice 44, 1, 24, some [.nilSlice]⟩ := by kernel_rfl
theorem ti38 : tiOf Try.prog 38 = some ⟨.other, 1, 0, some [.any]⟩ := by kernel_rfl
theorem ti39 : tiOf Try.prog 39 = some ⟨.func, 1, 8, some [.nilFunc]⟩ := by kernel_rfl
theorem ti40 : tiOf Try.prog 40 = some ⟨.pointer 42, 1, 8, some [.nilPtr]⟩ := by kernel_rfl
theorem ti41 : tiOf Try.prog 41 = some ⟨.struct [(0, 37), (1, 3), (2, 23), (3, 3), (4, 4), (5, 4), (6, 4), (7, 3), (8, 3)], 9, 88, some [.nilSlice, .int .i64 0, .nilSlice, .int .i64 0, .bool false, .bool false, .bool false, .int .i64 0, .int .i64 0]⟩ := by kernel_rfl
theorem ti42 : tiOf Try.prog 42 = some ⟨.struct [(0, 37), (1, 3), (2, 23), (3, 3), (4, 4), (5, 4), (6, 4), (7, 3), (8, 3)], 9, 88, some [.nilSlice, .int .i64 0, .nilSlice, .int .i64 0, .bool false, .bool false, .bool false, .int .i64 0, .int .i64 0]⟩ := by kernel_rfl
theorem ti43 : tiOf Try.prog 43 = some ⟨.struct [(0, 3), (1, 9), (2, 3)], 3, 32, some [.int .i64 0, .str .empty, .int .i64 0]⟩ := by kernel_rfl
theorem ti44 : tiOf Try.prog 44 = some ⟨.struct [(0, 3), (1, 9), (2, 3)], 3, 32, some [.int .i64 0, .str .empty, .int .i64 0]⟩ := by kernel_rfl
theorem ti45 : tiOf Try.prog 45 = some ⟨.func, 1, 8, some [.nilFunc]⟩ := by kernel_rfl
theorem ti46 : tiOf Try.prog 46 = some ⟨.func, 1, 8, some [.nilFunc]⟩ := by kernel_rfl
theorem ti47 : tiOf Try.prog 47 = some ⟨.func, 1, 8, some [.nilFunc]⟩ := by kernel_rfl
theorem ti48 : tiOf Try.prog 48 = some ⟨.func, 1, 8, some [.nilFunc]⟩ := by kernel_rfl
theorem ti49 : tiOf Try.prog 49 = some ⟨.func, 1, 8, some [.nilFunc]⟩ := by kernel_rfl
theorem ti50 : tiOf Try.prog 50 = some ⟨.func, 1, 8, some [.nilFunc]⟩ := by kernel_rfl
theorem ti51 : tiOf Try.prog 51 = some ⟨.struct [(0, 3), (1, 3)], 2, 16, some [.int .i64 0, .int .i64 0]⟩ := by kernel_rfl
theorem ti52 : tiOf Try.prog 52 = some ⟨.struct [(0, 3), (1, 3)], 2, 16, some [.int .i64 0, .int .i64 0]⟩ := by kernel_rfl
theorem ti53 : tiOf Try.prog 53 = some ⟨.slice 52, 1, 24, some [.nilSlice]⟩ := by kernel_rfl
theorem ti54 : tiOf Try.prog 54 = some ⟨.func, 1, 8, some [.nilFunc]⟩ := by kernel_rfl
theorem ti55 : tiOf Try.prog 55 = some ⟨.pointer 58, 1, 8, some [.nilPtr]⟩ := by kernel_rfl
theorem ti56 : tiOf Try.prog 56 = some ⟨.slice 5, 1, 24, some [.nilSlice]⟩ := by kernel_rfl
theorem ti57 : tiOf Try.prog 57 = some ⟨.struct [(0, 9), (1, 3), (2, 56), (3, 29), (4, 37), (5, 4), (6, 3)], 7, 112, some [.str .empty, .int .i64 0, .nilSlice, .nilSlice, .nilSlice, .bool false, .int .i64 0]⟩ := by kernel_rfl
theorem ti58 : tiOf Try.prog 58 = some ⟨.struct [(0, 9), (1, 3), (2, 56), (3, 29), (4, 37), (5, 4), (6, 3)], 7, 112, some [.str .empty, .int .i64 0, .nilSlice, .nilSlice, .nilSlice, .bool false, .int .i64 0]⟩ := by kernel_rfl
theorem ti59 : tiOf Try.prog 59 = some ⟨.func, 1, 8, some [.nilFunc]⟩ := by kernel_rfl
theorem ti60 : tiOf Try.prog 60 = some ⟨.func, 1, 8, some [.nilFunc]⟩ := by kernel_rfl
theorem ti61 : tiOf Try.prog 61 = some ⟨.func, 1, 8, some [.nilFunc]⟩ := by kernel_rfl
theorem ti62 : tiOf Try.prog 62 = some ⟨.func, 1, 8, some [.nilFunc]⟩ := by kernel_rfl
theorem ti63 : tiOf Try.prog 63 = some ⟨.func, 1, 8, some [.nilFunc]⟩ := by kernel_rfl
theorem ti64 : tiOf Try.prog 64 = some ⟨.slice 9, 1, 24, some [.nilSlice]⟩ := by kernel_rfl
theorem ti65 : tiOf Try.prog 65 = some ⟨.func, 1, 8, some [.nilFunc]⟩ := by kernel_rfl
theorem ti66 : tiOf Try.prog 66 = some ⟨.func, 1, 8, some [.nilFunc]⟩ := by kernel_rfl
theorem ti67 : tiOf Try.prog 67 = some ⟨.func, 1, 8, some [.nilFunc]⟩ := by kernel_rfl
theorem ti68 : tiOf Try.prog 68 = some ⟨.other, 1, 0, some [.any]⟩ := by kernel_rfl
theorem ti69 : tiOf Try.prog 69 = some ⟨.func, 1, 8, some [.nilFunc]⟩ := by kernel_rfl
theorem ti70 : tiOf Try.prog 70 = some ⟨.slice 4, 1, 24, some [.nilSlice]⟩ := by kernel_rfl
theorem ti71 : tiOf Try.prog 71 = some ⟨.func, 1, 8, some [.nilFunc]⟩ := by kernel_rfl
theorem ti72 : tiOf Try.prog 72 = some ⟨.func, 1, 8, some [.nilFunc]⟩ := by kernel_rfl
theorem ti73 : tiOf Try.prog 73 = some ⟨.func, 1, 8, some [.nilFunc]⟩ := by kernel_rfl
theorem ti74 : tiOf Try.prog 74 = some ⟨.func, 1, 8, some [.nilFunc]⟩ := by kernel_rfl
theorem ti75 : tiOf Try.prog 75 = some ⟨.func, 1, 8, some [.nilFunc]⟩ := by kernel_rfl
theorem ti76 : tiOf Try.prog 76 = some ⟨.other, 1, 0, some [.any]⟩ := by kernel_rfl
theorem ti77 : tiOf Try.prog 77 = some ⟨.func, 1, 8, some [.nilFunc]⟩ := by kernel_rfl
theorem ti78 : tiOf Try.prog 78 = some ⟨.func, 1, 8, some [.nilFunc]⟩ := by kernel_rfl
theorem ti79 : tiOf Try.prog 79 = some ⟨.func, 1, 8, some [.nilFunc]⟩ := by kernel_rfl
theorem ti80 : tiOf Try.prog 80 = some ⟨.func, 1, 8, some [.nilFunc]⟩ := by kernel_rfl
theorem ti81 : tiOf Try.prog 81 = some ⟨.func, 1, 8, some [.nilFunc]⟩ := by kernel_rfl
theorem ti82 : tiOf Try.prog 82 = some ⟨.struct [(0, 17), (1, 17), (2, 17), (3, 9)], 4, 40, some [.nilPtr, .nilPtr, .nilPtr, .str .empty]⟩ := by kernel_rfl
theorem ti83 : tiOf Try.prog 83 = some ⟨.struct [(0, 17), (1, 17), (2, 17), (3, 9)], 4, 40, some [.nilPtr, .nilPtr, .nilPtr, .str .empty]⟩ := by kernel_rfl
theorem ti84 : tiOf Try.prog 84 = some ⟨.array 0 16, 0, 0, some []⟩ := by kernel_rfl
theorem ti85 : tiOf Try.prog 85 = some ⟨.struct [(0, 84)], 0, 0, some []⟩ := by kernel_rfl
theorem ti86 : tiOf Try.prog 86 = some ⟨.struct [(0, 84)], 0, 0, some []⟩ := by kernel_rfl
theorem ti87 : tiOf Try.prog 87 = some ⟨.int .u32, 1, 4, some [.int .u32 0]⟩ := by kernel_rfl
theorem ti88 : tiOf Try.prog 88 = some ⟨.int .u8, 1, 1, some [.int .u8 0]⟩ := by kernel_rfl
theorem ti89 : tiOf Try.prog 89 = some ⟨.int .u8, 1, 1, some [.int .u8 0]⟩ := by kernel_rfl
theorem ti90 : tiOf Try.prog 90 = some ⟨.func, 1, 8, some [.nilFunc]⟩ := by kernel_rfl
theorem ti91 : tiOf Try.prog 91 = some ⟨.pointer 5, 1, 8, some [.nilPtr]⟩ := by kernel_rfl
theorem ti92 : tiOf Try.prog 92 = some ⟨.int .i32, 1, 4, some [.int .i32 0]⟩ := by kernel_rfl
theorem ti93 : tiOf Try.prog 93 = some ⟨.int .i32, 1, 4, some [.int .i32 0]⟩ := by kernel_rfl
theorem ti94 : tiOf Try.prog 94 = some ⟨.struct [(0, 12), (1, 12), (2, 87), (3, 88), (4, 5), (5, 5), (6, 89), (7, 90), (8, 91), (9, 92), (10, 93)], 11, 48, some [.int .u64 0, .int .u64 0, .int .u32 0, .int .u8 0, .int .u8 0, .int .u8 0, .int .u8 0, .nilFunc, .nilPtr, .int .i32 0, .int .i32 0]⟩ := by kernel_rfl
theorem ti95 : tiOf Try.prog 95 = some ⟨.struct [(0, 12), (1, 12), (2, 87), (3, 88), (4, 5), (5, 5), (6, 89), (7, 90), (8, 91), (9, 92), (10, 93)], 11, 48, some [.int .u64 0, .int .u64 0, .int .u32 0, .int .u8 0, .int .u8 0, .int .u8 0, .int .u8 0, .nilFunc, .nilPtr, .int .i32 0, .int .i32 0]⟩ := by kernel_rfl
theorem ti96 : tiOf Try.prog 96 = some ⟨.other, 1, 8, some [.nilPtr]⟩ := by kernel_rfl
theorem cb3 : Callable Try.prog 3 := ⟨Try.f3, Try.func3, by kernel_rfl, by kernel_rfl⟩
theorem cb4 : Callable Try.prog 4 := ⟨Try.f4, Try.func4, by kernel_rfl, by kernel_rfl⟩
theorem cb5 : Callable Try.prog 5 := ⟨Try.f5, Try.func5, by kernel_rfl, by kernel_rfl⟩
theorem cb6 : Callable Try.prog 6 := ⟨Try.f6, Try.func6, by kernel_rfl, by kernel_rfl⟩
theorem cb7 : Callable Try.prog 7 := ⟨Try.f7, Try.func7, by kernel_rfl, by kernel_rfl⟩
theorem cb8 : Callable Try.prog 8 := ⟨Try.f8, Try.func8, by kernel_rfl, by kernel_rfl⟩
theorem cb9 : Callable Try.prog 9 := ⟨Try.f9, Try.func9, by kernel_rfl, by kernel_rfl⟩
theorem cb10 : Callable Try.prog 10 := ⟨Try.f10, Try.func10, by kernel_rfl, by kernel_rfl⟩
theorem cb11 : Callable Try.prog 11 := ⟨Try.f11, Try.func11, by kernel_rfl, by kernel_rfl⟩
theorem cb12 : Callable Try.prog 12 := ⟨Try.f12, Try.func12, by kernel_rfl, by kernel_rfl⟩
theorem cb13 : Callable Try.prog 13 := ⟨Try.f13, Try.func13, by kernel_rfl, by kernel_rfl⟩
theorem cb14 : Callable Try.prog 14 := ⟨Try.f14, Try.func14, by kernel_rfl, by kernel_rfl⟩
theorem cb15 : Callable Try.prog 15 := ⟨Try.f15, Try.func15, by kernel_rfl, by kernel_rfl⟩
theorem cb16 : Callable Try.prog 16 := ⟨Try.f16, Try.func16, by kernel_rfl, by kernel_rfl⟩
theorem cb17 : Callable Try.prog 17 := ⟨Try.f17, Try.func17, by kernel_rfl, by kernel_rfl⟩
theorem cb18 : Callable Try.prog 18 := ⟨Try.f18, Try.func18, by kernel_rfl, by kernel_rfl⟩
theorem cb19 : Callable Try.prog 19 := ⟨Try.f19, Try.func19, by kernel_rfl, by kernel_rfl⟩
theorem cb20 : Callable Try.prog 20 := ⟨Try.f20, Try.func20, by kernel_rfl, by kernel_rfl⟩
theorem cb21 : Callable Try.prog 21 := ⟨Try.f21, Try.func21, by kernel_rfl, by kernel_rfl⟩
theorem cb22 : Callable Try.prog 22 := ⟨Try.f22, Try.func22, by kernel_rfl, by kernel_rfl⟩
theorem cb23 : Callable Try.prog 23 := ⟨Try.f23, Try.func23, by kernel_rfl, by kernel_rfl⟩
theorem cb24 : Callable Try.prog 24 := ⟨Try.f24, Try.func24, by kernel_rfl, by kernel_rfl⟩
theorem cb25 : Callable Try.prog 25 := ⟨Try.f25, Try.func25, by kernel_rfl, by kernel_rfl⟩
theorem cb26 : Callable Try.prog 26 := ⟨Try.f26, Try.func26, by kernel_rfl, by kernel_rfl⟩
theorem cb27 : Callable Try.prog 27 := ⟨Try.f27, Try.func27, by kernel_rfl, by kernel_rfl⟩
theorem cb28 : Callable Try.prog 28 := ⟨Try.f28, Try.func28, by kernel_rfl, by kernel_rfl⟩
theorem cb29 : Callable Try.prog 29 := ⟨Try.f29, Try.func29, by kernel_rfl, by kernel_rfl⟩
theorem cb30 : Callable Try.prog 30 := ⟨Try.f30, Try.func30, by kernel_rfl, by kernel_rfl⟩
theorem cb31 : Callable Try.prog 31 := ⟨Try.f31, Try.func31, by kernel_rfl, by kernel_rfl⟩
theorem cb32 : Callable Try.prog 32 := ⟨Try.f32, Try.func32, by kernel_rfl, by kernel_rfl⟩
theorem cb33 : Callable Try.prog 33 := ⟨Try.f33, Try.func33, by kernel_rfl, by kernel_rfl⟩
theorem cb34 : Callable Try.prog 34 := ⟨Try.f34, Try.func34, by kernel_rfl, by kernel_rfl⟩
theorem cb35 : Callable Try.prog 35 := ⟨Try.f35, Try.func35, by kernel_rfl, by kernel_rfl⟩
theorem cb36 : Callable Try.prog 36 := ⟨Try.f36, Try.func36, by kernel_rfl, by kernel_rfl⟩
theorem cb37 : Callable Try.prog 37 := ⟨Try.f37, Try.func37, by kernel_rfl, by kernel_rfl⟩
theorem cb38 : Callable Try.prog 38 := ⟨Try.f38, Try.func38, by kernel_rfl, by kernel_rfl⟩
theorem cb39 : Callable Try.prog 39 := ⟨Try.f39, Try.func39, by kernel_rfl, by kernel_rfl⟩
theorem cb40 : Callable Try.prog 40 := ⟨Try.f40, Try.func40, by kernel_rfl, by kernel_rfl⟩
theorem cb41 : Callable Try.prog 41 := ⟨Try.f41, Try.func41, by kernel_rfl, by kernel_rfl⟩
theorem cb42 : Callable Try.prog 42 := ⟨Try.f42, Try.func42, by kernel_rfl, by kernel_rfl⟩
theorem cb43 : Callable Try.prog 43 := ⟨Try.f43, Try.func43, by kernel_rfl, by kernel_rfl⟩
theorem cb44 : Callable Try.prog 44 := ⟨Try.f44, Try.func44, by kernel_rfl, by kernel_rfl⟩
theorem cb45 : Callable Try.prog 45 := ⟨Try.f45, Try.func45, by kernel_rfl, by kernel_rfl⟩
theorem cb46 : Callable Try.prog 46 := ⟨Try.f46, Try.func46, by kernel_rfl, by kernel_rfl⟩
theorem cb47 : Callable Try.prog 47 := ⟨Try.f47, Try.func47, by kernel_rfl, by kernel_rfl⟩
theorem cb48 : Callable Try.prog 48 := ⟨Try.f48, Try.func48, by kernel_rfl, by kernel_rfl⟩
theorem cb49 : Callable Try.prog 49 := ⟨Try.f49, Try.func49, by kernel_rfl, by kernel_rfl⟩
theorem cb50 : Callable Try.prog 50 := ⟨Try.f50, Try.func50, by kernel_rfl, by kernel_rfl⟩
theorem cb51 : Callable Try.prog 51 := ⟨Try.f51, Try.func51, by kernel_rfl, by kernel_rfl⟩
theorem cb52 : Callable Try.prog 52 := ⟨Try.f52, Try.func52, by kernel_rfl, by kernel_rfl⟩
theorem cb53 : Callable Try.prog 53 := ⟨Try.f53, Try.func53, by kernel_rfl, by kernel_rfl⟩
theorem cb54 : Callable Try.prog 54 := ⟨Try.f54, Try.func54, by kernel_rfl, by kernel_rfl⟩
theorem cb55 : Callable Try.prog 55 := ⟨Try.f55, Try.func55, by kernel_rfl, by kernel_rfl⟩
theorem cb56 : Callable Try.prog 56 := ⟨Try.f56, Try.func56, by kernel_rfl, by kernel_rfl⟩
theorem cb57 : Callable Try.prog 57 := ⟨Try.f57, Try.func57, by kernel_rfl, by kernel_rfl⟩
theorem cb58 : Callable Try.prog 58 := ⟨Try.f58, Try.func58, by kernel_rfl, by kernel_rfl⟩
theorem cb59 : Callable Try.prog 59 := ⟨Try.f59, Try.func59, by kernel_rfl, by kernel_rfl⟩
theorem cb60 : Callable Try.prog 60 := ⟨Try.f60, Try.func60, by kernel_rfl, by kernel_rfl⟩
theorem cb61 : Callable Try.prog 61 := ⟨Try.f61, Try.func61, by kernel_rfl, by kernel_rfl⟩
theorem cb62 : Callable Try.prog 62 := ⟨Try.f62, Try.func62, by kernel_rfl, by kernel_rfl⟩
theorem cb63 : Callable Try.prog 63 := ⟨Try.f63, Try.func63, by kernel_rfl, by kernel_rfl⟩
theorem cb64 : Callable Try.prog 64 := ⟨Try.f64, Try.func64, by kernel_rfl, by kernel_rfl⟩
theorem cb65 : Callable Try.prog 65 := ⟨Try.f65, Try.func65, by kernel_rfl, by kernel_rfl⟩
theorem cb66 : Callable Try.prog 66 := ⟨Try.f66, Try.func66, by kernel_rfl, by kernel_rfl⟩
theorem cb67 : Callable Try.prog 67 := ⟨Try.f67, Try.func67, by kernel_rfl, by kernel_rfl⟩
theorem cb68 : Callable Try.prog 68 := ⟨Try.f68, Try.func68, by kernel_rfl, by kernel_rfl⟩
theorem cb69 : Callable Try.prog 69 := ⟨Try.f69, Try.func69, by kernel_rfl, by kernel_rfl⟩
theorem cb70 : Callable Try.prog 70 := ⟨Try.f70, Try.func70, by kernel_rfl, by kernel_rfl⟩
theorem cb71 : Callable Try.prog 71 := ⟨Try.f71, Try.func71, by kernel_rfl, by kernel_rfl⟩
theorem cb72 : Callable Try.prog 72 := ⟨Try.f72, Try.func72, by kernel_rfl, by kernel_rfl⟩
theorem cb73 : Callable Try.prog 73 := ⟨Try.f73, Try.func73, by kernel_rfl, by kernel_rfl⟩
theorem hMix : Try.prog.follows .mixedOrders = true := by kernel_rfl
def δ5 : Nat → Nat × List (List Nat)
  | 3 => (2, [[11], []])
  | 9 => (8, [[], [], [], [39], [], [], [], [39]])
  | 12 => (12, [[], [], [], [], [39], [], [], [], [], [], [], []])
  | 13 => (5, [[], [], [], [39], []])
  | _ => (0, [])
def δ7 : Nat → Nat × List (List Nat)
  | 1 => (11, [[], [3], [], [3], [], [3], [], [3], [], [3], []])
  | _ => (0, [])
def δ8 : Nat → Nat × List (List Nat)
  | 7 => (13, [[], [], [13], [], [], [], [], [13], [], [], [15], [17], [15]])
  | 13 => (13, [[], [], [15], [], [], [], [], [17], [], [], [], [], []])
  | _ => (0, [])
def δ10 : Nat → Nat × List (List Nat)
  | 10 => (11, [[], [], [], [], [], [], [], [], [], [], []])
  | _ => (0, [])
def δ11 : Nat → Nat × List (List Nat)
  | 27 => (11, [[], [], [], [], [35], [], [], [], [], [], [35]])
  | 37 => (8, [[], [], [], [], [], [], [35], []])
  | 52 => (12, [[], [], [], [], [35], [], [], [], [35], [], [], []])
  | 55 => (5, [[], [], [], [35], []])
  | _ => (0, [])
def δ13 : Nat → Nat × List (List Nat)
  | 1 => (8, [[], [], [], [], [], [], [], []])
  | _ => (0, [])
def δ24 : Nat → Nat × List (List Nat)
  | 0 => (10, [[], [], [], [], [], [], [], [], [], []])
  | 6 => (13, [[], [], [], [], [], [], [], [], [], [], [], [], []])
  | 7 => (12, [[], [], [], [], [], [], [], [], [], [], [], []])
  | 9 => (13, [[], [], [], [], [], [], [], [], [], [], [], [], []])
  | _ => (0, [])
def δ29 : Nat → Nat × List (List Nat)
  | 1 => (19, [[], [], [], [], [], [], [], [], [], [], [], [], [], [], [], [], [], [], []])
  | 4 => (19, [[], [], [], [], [], [], [], [], [], [], [], [], [], [], [], [], [], [], []])
  | 7 => (12, [[], [], [], [], [], [], [], [], [], [], [], []])
  | _ => (0, [])
def δ30 : Nat → Nat × List (List Nat)
  | 12 => (8, [[], [], [], [], [], [], [], []])
  | 18 => (9, [[], [], [], [], [], [], [], [], []])
  | 27 => (35, [[], [], [], [], [], [], [], [], [], [], [], [], [], [], [], [], [], [], [], [], [], [], [], [], [], [], [], [], [], [], [], [], [], [], []])
  | 28 => (27, [[], [], [], [], [], [], [], [], [], [], [], [], [], [], [], [], [], [], [], [], [], [], [], [], [], [], []])
  | _ => (0, [])
def δ31 : Nat → Nat × List (List Nat)
  | 2 => (10, [[], [], [], [], [], [], [], [], [], []])
  | 3 => (13, [[], [], [], [], [], [], [], [], [], [], [], [], []])
  | 8 => (8, [[], [], [], [], [], [], [], []])
  | 15 => (19, [[], [], [], [], [], [], [], [], [], [], [], [], [], [], [], [], [], [], []])
  | _ => (0, [])
def δ39 : Nat → Nat × List (List Nat)
  | 23 => (12, [[], [], [], [], [], [], [], [], [], [], [], []])
  | _ => (0, [])
def δ40 : Nat → Nat × List (List Nat)
  | 30 => (8, [[], [], [], [11], [], [], [], []])
  | _ => (0, [])
def δ46 : Nat → Nat × List (List Nat)
  | 15 => (20, [[], [], [], [], [], [], [], [], [], [], [], [], [], [], [], [], [], [], [], []])
  | 17 => (12, [[], [], [], [], [], [], [], [], [], [], [], []])
  | _ => (0, [])
def δ52 : Nat → Nat × List (List Nat)
  | 1 => (19, [[], [], [], [], [], [], [], [], [], [], [], [], [], [], [], [], [], [], [7]])
  | _ => (0, [])
def δ0 : Nat → Nat × List (List Nat) := fun _ => (0, [])
end Go.Proofs.Ab5
end
/- The rules of the abstract machine, as one set. -/
section
namespace Go.Proofs.Ab5
open Go.Ab Go.Proofs
attribute [go_sem high] ifB_true ifB_false
attribute [go_sem low] ifB_any
attribute [go_sem ↓] re_skip re_ret re_exit re_seq re_block re_loop re_region re_draw re_cond rd_skip rd_ret rd_exit rd_seq rd_block rd_loop rd_region rd_draw rd_cond rs_plain rs_guard qs_load qs_store
  qs_alloc qs_buildSlice qs_call qs_move qs_assign qs_pick qs_build qs_nilCheck qs_binOp qs_unOp qs_convert qs_makeInterface qs_slice qs_fieldAddr qs_field qs_indexAddr qs_index
  qs_extract qs_len qs_min qs_max rl_plain rl_guard st_move st_assign st_pick st_build st_load st_store st_nilCheck st_eql st_neq st_lss st_leq st_gtr st_geq st_add st_sub st_mul
  st_quo st_rem st_un st_convert st_makeInterface st_slice st_fieldAddr st_field st_indexAddr st_index st_extract st_len st_append st_min st_max st_call st_alloc_loc st_box_loc
  st_buildSlice_list st_makeSlice_list st_alloc_heap st_box_heap st_buildSlice_ref st_makeSlice_ref cleanT_true cleanT_false
attribute [go_sem]       rsThen_eq rs_nil guardS_true guardS_false guardS_not guardS_not' guardS_undef dropH_eq locN_loc locN_ptr
  locN_pin then_normal then_ret then_exit inBlock_normal inBlock_ret inBlock_exit normalK_eq rl_nil guardK_true guardK_false guardK_not guardK_not' guardK_undef put_some put_none
  eval_tmp eval_const eval_func pickK_true pickK_false nilCheckK convK makeK sliceK fieldsK aggK intK strK tupleK int2K W_some W_none W_map W_bind W_ite W_ite' 
  aBehind_pin aBehind_loc aBehind_ptr aOfCells TK.agg TK.isStr TK.isSlice TK.isIface fits_str fits_list fits_ref fits_nil aBin aUn aOfValue aConv aLen_str aLen_list aLen_ref aLen_nil
  aFieldAddr retPost aResults aResult aResultsL cells_int cells_bool cells_str cells_nilPtr cells_nilSlice cells_nilIface cells_nilFunc cells_list cells_ref cells_ptr cells_pin
  cells_agg cells_iface cells_func loc_any loc_undef loc_int loc_bool loc_str loc_nilPtr loc_nilSlice loc_nilIface loc_nilFunc loc_list loc_ref loc_ptr loc_pin loc_agg loc_tuple
  loc_iface loc_func loc_loc one_int one_bool one_str one_nilPtr one_nilSlice one_nilIface one_nilFunc one_list one_ref one_ptr one_pin one_iface one_func allOne zeroOf Go.Ab.elemOf
  kindKnown fieldsKnown aFill aFillS aPlaces vals splice aStore aNews_nil aNews_list aNews_str aOptInt aSlice aIndexAddr_list aIndexAddr_ref lget lset List.getD_cons_zero
  List.getD_cons_succ List.getD_nil List.set_cons_zero List.set_cons_succ List.getElem?_cons_zero List.getElem?_cons_succ List.getElem?_nil List.take_succ_cons List.take_zero
  List.take_nil List.drop_succ_cons List.drop_zero List.drop_nil List.length_cons List.length_nil List.map_cons List.map_nil List.any_cons List.any_nil List.all_cons List.all_nil
  List.replicate_succ List.replicate_zero List.cons_append List.nil_append List.append_nil List.head?_cons List.head?_nil List.toList_toArray List.size_toArray List.append_assoc
  List.drop_one List.tail_cons Option.map_some Option.map_none Option.getD_some Option.getD_none Option.bind_some Option.bind_none Option.isSome_some Option.isNone_none
  Option.isNone_some if_true if_false ite_true ite_false Bool.false_eq_true Bool.true_and Bool.and_true Bool.false_or Bool.or_false Bool.not_true Bool.not_false Bool.and_self
  true_and and_true and_self not_false_eq_true true_implies  decide_eq_true_eq decide_eq_false_iff_not Bool.not_eq_true' Bool.not_eq_false' Decidable.not_not bne_iff_ne
  ne_eq false_implies implies_true Nat.lt_add_one Nat.zero_lt_succ Nat.zero_le Nat.le_refl Nat.one_mul Nat.zero_add Nat.add_zero Nat.zero_mul Nat.le_zero_eq upd_same upd_upd clean_mk
  cleanT_nil cleanL List.filter_cons List.filter_nil List.contains_cons List.contains_nil keptOK_true keptOK_false keptOK_nil locIn Bool.or_true Bool.true_or ti0 ti1 ti2 ti3 ti4 ti5
  ti6 ti7 ti8 ti9 ti10 ti11 ti12 ti13 ti14 ti15 ti16 ti17 ti18 ti19 ti20 ti21 ti22 ti23 ti24 ti25 ti26 ti27 ti28 ti29 ti30 ti31 ti32 ti33 ti34 ti35 ti36 ti37 ti38 ti39 ti40 ti41 ti42
  ti43 ti44 ti45 ti46 ti47 ti48 ti49 ti50 ti51 ti52 ti53 ti54 ti55 ti56 ti57 ti58 ti59 ti60 ti61 ti62 ti63 ti64 ti65 ti66 ti67 ti68 ti69 ti70 ti71 ti72 ti73 ti74 ti75 ti76 ti77 ti78
  ti79 ti80 ti81 ti82 ti83 ti84 ti85 ti86 ti87 ti88 ti89 ti90 ti91 ti92 ti93 ti94 ti95 ti96
attribute [go_sem] splitBool_if condD_if condE_if decide_true decide_false not_true_eq_false
end Go.Proofs.Ab5
end
