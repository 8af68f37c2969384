/- Closed facts about the program that my walks use. -/
import Derived.Test.YtfanmniaolncbaaTopP
namespace Go.Proofs.Ytfanmniaolncbaa.V
open Go.RowKit Go.Proofs.Ytfanmniaolncbaa
theorem mixed : Try.prog.follows .mixedOrders = true := by kernel_rfl
theorem callable_2 : Callable Try.prog 2 := ⟨_, Try.func2, by kernel_rfl, by kernel_rfl⟩
theorem callable_3 : Callable Try.prog 3 := ⟨_, Try.func3, by kernel_rfl, by kernel_rfl⟩
theorem callable_4 : Callable Try.prog 4 := ⟨_, Try.func4, by kernel_rfl, by kernel_rfl⟩
theorem callable_5 : Callable Try.prog 5 := ⟨_, Try.func5, by kernel_rfl, by kernel_rfl⟩
theorem callable_6 : Callable Try.prog 6 := ⟨_, Try.func6, by kernel_rfl, by kernel_rfl⟩
theorem callable_7 : Callable Try.prog 7 := ⟨_, Try.func7, by kernel_rfl, by kernel_rfl⟩
theorem callable_8 : Callable Try.prog 8 := ⟨_, Try.func8, by kernel_rfl, by kernel_rfl⟩
theorem callable_9 : Callable Try.prog 9 := ⟨_, Try.func9, by kernel_rfl, by kernel_rfl⟩
theorem callable_10 : Callable Try.prog 10 := ⟨_, Try.func10, by kernel_rfl, by kernel_rfl⟩
theorem callable_11 : Callable Try.prog 11 := ⟨_, Try.func11, by kernel_rfl, by kernel_rfl⟩
theorem callable_12 : Callable Try.prog 12 := ⟨_, Try.func12, by kernel_rfl, by kernel_rfl⟩
theorem callable_13 : Callable Try.prog 13 := ⟨_, Try.func13, by kernel_rfl, by kernel_rfl⟩
theorem callable_14 : Callable Try.prog 14 := ⟨_, Try.func14, by kernel_rfl, by kernel_rfl⟩
theorem callable_15 : Callable Try.prog 15 := ⟨_, Try.func15, by kernel_rfl, by kernel_rfl⟩
theorem callable_16 : Callable Try.prog 16 := ⟨_, Try.func16, by kernel_rfl, by kernel_rfl⟩
theorem callable_17 : Callable Try.prog 17 := ⟨_, Try.func17, by kernel_rfl, by kernel_rfl⟩
theorem callable_18 : Callable Try.prog 18 := ⟨_, Try.func18, by kernel_rfl, by kernel_rfl⟩
theorem callable_19 : Callable Try.prog 19 := ⟨_, Try.func19, by kernel_rfl, by kernel_rfl⟩
theorem callable_20 : Callable Try.prog 20 := ⟨_, Try.func20, by kernel_rfl, by kernel_rfl⟩
theorem callable_21 : Callable Try.prog 21 := ⟨_, Try.func21, by kernel_rfl, by kernel_rfl⟩
theorem callable_22 : Callable Try.prog 22 := ⟨_, Try.func22, by kernel_rfl, by kernel_rfl⟩
theorem callable_23 : Callable Try.prog 23 := ⟨_, Try.func23, by kernel_rfl, by kernel_rfl⟩
theorem callable_24 : Callable Try.prog 24 := ⟨_, Try.func24, by kernel_rfl, by kernel_rfl⟩
theorem callable_25 : Callable Try.prog 25 := ⟨_, Try.func25, by kernel_rfl, by kernel_rfl⟩
theorem callable_26 : Callable Try.prog 26 := ⟨_, Try.func26, by kernel_rfl, by kernel_rfl⟩
theorem callable_27 : Callable Try.prog 27 := ⟨_, Try.func27, by kernel_rfl, by kernel_rfl⟩
theorem callable_28 : Callable Try.prog 28 := ⟨_, Try.func28, by kernel_rfl, by kernel_rfl⟩
theorem callable_29 : Callable Try.prog 29 := ⟨_, Try.func29, by kernel_rfl, by kernel_rfl⟩
theorem callable_30 : Callable Try.prog 30 := ⟨_, Try.func30, by kernel_rfl, by kernel_rfl⟩
theorem callable_31 : Callable Try.prog 31 := ⟨_, Try.func31, by kernel_rfl, by kernel_rfl⟩
theorem callable_32 : Callable Try.prog 32 := ⟨_, Try.func32, by kernel_rfl, by kernel_rfl⟩
theorem callable_33 : Callable Try.prog 33 := ⟨_, Try.func33, by kernel_rfl, by kernel_rfl⟩
theorem callable_34 : Callable Try.prog 34 := ⟨_, Try.func34, by kernel_rfl, by kernel_rfl⟩
theorem callable_35 : Callable Try.prog 35 := ⟨_, Try.func35, by kernel_rfl, by kernel_rfl⟩
theorem callable_36 : Callable Try.prog 36 := ⟨_, Try.func36, by kernel_rfl, by kernel_rfl⟩
theorem callable_37 : Callable Try.prog 37 := ⟨_, Try.func37, by kernel_rfl, by kernel_rfl⟩
theorem callable_38 : Callable Try.prog 38 := ⟨_, Try.func38, by kernel_rfl, by kernel_rfl⟩
theorem callable_39 : Callable Try.prog 39 := ⟨_, Try.func39, by kernel_rfl, by kernel_rfl⟩
theorem callable_40 : Callable Try.prog 40 := ⟨_, Try.func40, by kernel_rfl, by kernel_rfl⟩
theorem callable_41 : Callable Try.prog 41 := ⟨_, Try.func41, by kernel_rfl, by kernel_rfl⟩
theorem callable_42 : Callable Try.prog 42 := ⟨_, Try.func42, by kernel_rfl, by kernel_rfl⟩
theorem callable_43 : Callable Try.prog 43 := ⟨_, Try.func43, by kernel_rfl, by kernel_rfl⟩
theorem callable_44 : Callable Try.prog 44 := ⟨_, Try.func44, by kernel_rfl, by kernel_rfl⟩
theorem callable_45 : Callable Try.prog 45 := ⟨_, Try.func45, by kernel_rfl, by kernel_rfl⟩
theorem callable_46 : Callable Try.prog 46 := ⟨_, Try.func46, by kernel_rfl, by kernel_rfl⟩
theorem callable_47 : Callable Try.prog 47 := ⟨_, Try.func47, by kernel_rfl, by kernel_rfl⟩
theorem callable_48 : Callable Try.prog 48 := ⟨_, Try.func48, by kernel_rfl, by kernel_rfl⟩
theorem callable_49 : Callable Try.prog 49 := ⟨_, Try.func49, by kernel_rfl, by kernel_rfl⟩
theorem callable_50 : Callable Try.prog 50 := ⟨_, Try.func50, by kernel_rfl, by kernel_rfl⟩
theorem callable_51 : Callable Try.prog 51 := ⟨_, Try.func51, by kernel_rfl, by kernel_rfl⟩
theorem callable_52 : Callable Try.prog 52 := ⟨_, Try.func52, by kernel_rfl, by kernel_rfl⟩
theorem callable_53 : Callable Try.prog 53 := ⟨_, Try.func53, by kernel_rfl, by kernel_rfl⟩
theorem callable_54 : Callable Try.prog 54 := ⟨_, Try.func54, by kernel_rfl, by kernel_rfl⟩
theorem callable_55 : Callable Try.prog 55 := ⟨_, Try.func55, by kernel_rfl, by kernel_rfl⟩
theorem callable_56 : Callable Try.prog 56 := ⟨_, Try.func56, by kernel_rfl, by kernel_rfl⟩
theorem callable_57 : Callable Try.prog 57 := ⟨_, Try.func57, by kernel_rfl, by kernel_rfl⟩
theorem callable_58 : Callable Try.prog 58 := ⟨_, Try.func58, by kernel_rfl, by kernel_rfl⟩
theorem callable_59 : Callable Try.prog 59 := ⟨_, Try.func59, by kernel_rfl, by kernel_rfl⟩
theorem callable_60 : Callable Try.prog 60 := ⟨_, Try.func60, by kernel_rfl, by kernel_rfl⟩
theorem callable_61 : Callable Try.prog 61 := ⟨_, Try.func61, by kernel_rfl, by kernel_rfl⟩
theorem callable_62 : Callable Try.prog 62 := ⟨_, Try.func62, by kernel_rfl, by kernel_rfl⟩
theorem callable_63 : Callable Try.prog 63 := ⟨_, Try.func63, by kernel_rfl, by kernel_rfl⟩
theorem callable_64 : Callable Try.prog 64 := ⟨_, Try.func64, by kernel_rfl, by kernel_rfl⟩
theorem callable_65 : Callable Try.prog 65 := ⟨_, Try.func65, by kernel_rfl, by kernel_rfl⟩
theorem callable_66 : Callable Try.prog 66 := ⟨_, Try.func66, by kernel_rfl, by kernel_rfl⟩
theorem callable_67 : Callable Try.prog 67 := ⟨_, Try.func67, by kernel_rfl, by kernel_rfl⟩
theorem callable_68 : Callable Try.prog 68 := ⟨_, Try.func68, by kernel_rfl, by kernel_rfl⟩
theorem callable_69 : Callable Try.prog 69 := ⟨_, Try.func69, by kernel_rfl, by kernel_rfl⟩
theorem callable_70 : Callable Try.prog 70 := ⟨_, Try.func70, by kernel_rfl, by kernel_rfl⟩
theorem callable_71 : Callable Try.prog 71 := ⟨_, Try.func71, by kernel_rfl, by kernel_rfl⟩
theorem callable_72 : Callable Try.prog 72 := ⟨_, Try.func72, by kernel_rfl, by kernel_rfl⟩
theorem callable_73 : Callable Try.prog 73 := ⟨_, Try.func73, by kernel_rfl, by kernel_rfl⟩
theorem callable_74 : Callable Try.prog 74 := ⟨_, Try.func74, by kernel_rfl, by kernel_rfl⟩
theorem callable_75 : Callable Try.prog 75 := ⟨_, Try.func75, by kernel_rfl, by kernel_rfl⟩
theorem callable_76 : Callable Try.prog 76 := ⟨_, Try.func76, by kernel_rfl, by kernel_rfl⟩
theorem callable_77 : Callable Try.prog 77 := ⟨_, Try.func77, by kernel_rfl, by kernel_rfl⟩
theorem callable_78 : Callable Try.prog 78 := ⟨_, Try.func78, by kernel_rfl, by kernel_rfl⟩
theorem callable_79 : Callable Try.prog 79 := ⟨_, Try.func79, by kernel_rfl, by kernel_rfl⟩
theorem callable_80 : Callable Try.prog 80 := ⟨_, Try.func80, by kernel_rfl, by kernel_rfl⟩
theorem callable_81 : Callable Try.prog 81 := ⟨_, Try.func81, by kernel_rfl, by kernel_rfl⟩
theorem callable_82 : Callable Try.prog 82 := ⟨_, Try.func82, by kernel_rfl, by kernel_rfl⟩
theorem callable_83 : Callable Try.prog 83 := ⟨_, Try.func83, by kernel_rfl, by kernel_rfl⟩
theorem callable_84 : Callable Try.prog 84 := ⟨_, Try.func84, by kernel_rfl, by kernel_rfl⟩
theorem callable_85 : Callable Try.prog 85 := ⟨_, Try.func85, by kernel_rfl, by kernel_rfl⟩
theorem callable_86 : Callable Try.prog 86 := ⟨_, Try.func86, by kernel_rfl, by kernel_rfl⟩
theorem callable_87 : Callable Try.prog 87 := ⟨_, Try.func87, by kernel_rfl, by kernel_rfl⟩
theorem callable_88 : Callable Try.prog 88 := ⟨_, Try.func88, by kernel_rfl, by kernel_rfl⟩
theorem callable_89 : Callable Try.prog 89 := ⟨_, Try.func89, by kernel_rfl, by kernel_rfl⟩
theorem callable_90 : Callable Try.prog 90 := ⟨_, Try.func90, by kernel_rfl, by kernel_rfl⟩
theorem callable_91 : Callable Try.prog 91 := ⟨_, Try.func91, by kernel_rfl, by kernel_rfl⟩
theorem callable_92 : Callable Try.prog 92 := ⟨_, Try.func92, by kernel_rfl, by kernel_rfl⟩
theorem callable_93 : Callable Try.prog 93 := ⟨_, Try.func93, by kernel_rfl, by kernel_rfl⟩
theorem callable_94 : Callable Try.prog 94 := ⟨_, Try.func94, by kernel_rfl, by kernel_rfl⟩
theorem callable_95 : Callable Try.prog 95 := ⟨_, Try.func95, by kernel_rfl, by kernel_rfl⟩
theorem callable_96 : Callable Try.prog 96 := ⟨_, Try.func96, by kernel_rfl, by kernel_rfl⟩
theorem callable_97 : Callable Try.prog 97 := ⟨_, Try.func97, by kernel_rfl, by kernel_rfl⟩
theorem callable_98 : Callable Try.prog 98 := ⟨_, Try.func98, by kernel_rfl, by kernel_rfl⟩
theorem callable_99 : Callable Try.prog 99 := ⟨_, Try.func99, by kernel_rfl, by kernel_rfl⟩
theorem callable_100 : Callable Try.prog 100 := ⟨_, Try.func100, by kernel_rfl, by kernel_rfl⟩
theorem callable_101 : Callable Try.prog 101 := ⟨_, Try.func101, by kernel_rfl, by kernel_rfl⟩
theorem callable_102 : Callable Try.prog 102 := ⟨_, Try.func102, by kernel_rfl, by kernel_rfl⟩
theorem callable_103 : Callable Try.prog 103 := ⟨_, Try.func103, by kernel_rfl, by kernel_rfl⟩
theorem callable_104 : Callable Try.prog 104 := ⟨_, Try.func104, by kernel_rfl, by kernel_rfl⟩
theorem callable_105 : Callable Try.prog 105 := ⟨_, Try.func105, by kernel_rfl, by kernel_rfl⟩
theorem callable_106 : Callable Try.prog 106 := ⟨_, Try.func106, by kernel_rfl, by kernel_rfl⟩
theorem callable_107 : Callable Try.prog 107 := ⟨_, Try.func107, by kernel_rfl, by kernel_rfl⟩
theorem callable_108 : Callable Try.prog 108 := ⟨_, Try.func108, by kernel_rfl, by kernel_rfl⟩
theorem callable_109 : Callable Try.prog 109 := ⟨_, Try.func109, by kernel_rfl, by kernel_rfl⟩
theorem callable_110 : Callable Try.prog 110 := ⟨_, Try.func110, by kernel_rfl, by kernel_rfl⟩
theorem callable_111 : Callable Try.prog 111 := ⟨_, Try.func111, by kernel_rfl, by kernel_rfl⟩
theorem callable_112 : Callable Try.prog 112 := ⟨_, Try.func112, by kernel_rfl, by kernel_rfl⟩
theorem callable_113 : Callable Try.prog 113 := ⟨_, Try.func113, by kernel_rfl, by kernel_rfl⟩
theorem callable_114 : Callable Try.prog 114 := ⟨_, Try.func114, by kernel_rfl, by kernel_rfl⟩
def zero_3 : Value := .int .i64 0
theorem infoz_3 : (Try.prog.info? 3).map (fun i => (i.zero, i.size, i.bytes)) = some (some zero_3, 1, 8) := by kernel_rfl
def zero_9 : Value := .string (⟨#[]⟩)
theorem infoz_9 : (Try.prog.info? 9).map (fun i => (i.zero, i.size, i.bytes)) = some (some zero_9, 1, 16) := by kernel_rfl
def zero_22 : Value := .slice none 0 0
theorem infoz_22 : (Try.prog.info? 22).map (fun i => (i.zero, i.size, i.bytes)) = some (some zero_22, 1, 24) := by kernel_rfl
def zero_28 : Value := .agg #[.slice none 0 0, .slice none 0 0, .slice none 0 0, .slice none 0 0, .int .i64 0]
theorem infoz_28 : (Try.prog.info? 28).map (fun i => (i.zero, i.size, i.bytes)) = some (some zero_28, 5, 104) := by kernel_rfl
def zero_41 : Value := .agg #[.slice none 0 0, .slice none 0 0]
theorem infoz_41 : (Try.prog.info? 41).map (fun i => (i.zero, i.size, i.bytes)) = some (some zero_41, 2, 48) := by kernel_rfl
def zero_54 : Value := .agg #[.int .i64 0, .int .i64 0, .int .i64 0]
theorem infoz_54 : (Try.prog.info? 54).map (fun i => (i.zero, i.size, i.bytes)) = some (some zero_54, 3, 24) := by kernel_rfl
def zero_65 : Value := .agg #[.string (⟨#[]⟩), .int .i64 0, .bool false, .bool false, .string (⟨#[]⟩)]
theorem infoz_65 : (Try.prog.info? 65).map (fun i => (i.zero, i.size, i.bytes)) = some (some zero_65, 5, 48) := by kernel_rfl
def zero_66 : Value := .int .u32 0
theorem infoz_66 : (Try.prog.info? 66).map (fun i => (i.zero, i.size, i.bytes)) = some (some zero_66, 1, 4) := by kernel_rfl
def zero_68 : Value := .agg #[.int .u32 0, .int .i64 0]
theorem infoz_68 : (Try.prog.info? 68).map (fun i => (i.zero, i.size, i.bytes)) = some (some zero_68, 2, 16) := by kernel_rfl
def zero_71 : Value := .agg #[.string (⟨#[]⟩), .int .i64 0, .string (⟨#[]⟩), .int .u32 0, .int .i64 0, .bool false]
theorem infoz_71 : (Try.prog.info? 71).map (fun i => (i.zero, i.size, i.bytes)) = some (some zero_71, 6, 64) := by kernel_rfl
def zero_82 : Value := .agg #[.int .i64 0, .int .i64 0]
theorem infoz_82 : (Try.prog.info? 82).map (fun i => (i.zero, i.size, i.bytes)) = some (some zero_82, 2, 16) := by kernel_rfl
def zero_107 : Value := .pointer none
theorem infoz_107 : (Try.prog.info? 107).map (fun i => (i.zero, i.size, i.bytes)) = some (some zero_107, 1, 8) := by kernel_rfl
def zero_116 : Value := .agg #[.int .u32 0, .int .u32 0]
theorem infoz_116 : (Try.prog.info? 116).map (fun i => (i.zero, i.size, i.bytes)) = some (some zero_116, 2, 8) := by kernel_rfl

end Go.Proofs.Ytfanmniaolncbaa.V
