/- Closed facts about the program that my walks use. -/
import Derived.Test.YtmaiillomoehgaaDoorTD
import Derived.Test.YtmaiillomoehgaaDoorGrpD
import Derived.Test.YtmaiillomoehgaaDoorSLM
import Derived.Test.YtmaiillomoehgaaDoorGrpU
namespace Go.Proofs.YtmaiillomoehgaaDoor.V
open Go.RowKit Go.Proofs.YtmaiillomoehgaaDoor
theorem mixed : Tryd.prog.follows .mixedOrders = true := by kernel_rfl
theorem cB2 : Callable Tryd.prog 2 := ⟨_, Tryd.func2, by kernel_rfl, by kernel_rfl⟩
theorem cB3 : Callable Tryd.prog 3 := ⟨_, Tryd.func3, by kernel_rfl, by kernel_rfl⟩
theorem cB4 : Callable Tryd.prog 4 := ⟨_, Tryd.func4, by kernel_rfl, by kernel_rfl⟩
theorem cB5 : Callable Tryd.prog 5 := ⟨_, Tryd.func5, by kernel_rfl, by kernel_rfl⟩
theorem cB6 : Callable Tryd.prog 6 := ⟨_, Tryd.func6, by kernel_rfl, by kernel_rfl⟩
theorem cB7 : Callable Tryd.prog 7 := ⟨_, Tryd.func7, by kernel_rfl, by kernel_rfl⟩
theorem cB8 : Callable Tryd.prog 8 := ⟨_, Tryd.func8, by kernel_rfl, by kernel_rfl⟩
theorem cB9 : Callable Tryd.prog 9 := ⟨_, Tryd.func9, by kernel_rfl, by kernel_rfl⟩
theorem cB10 : Callable Tryd.prog 10 := ⟨_, Tryd.func10, by kernel_rfl, by kernel_rfl⟩
theorem cB11 : Callable Tryd.prog 11 := ⟨_, Tryd.func11, by kernel_rfl, by kernel_rfl⟩
theorem cB12 : Callable Tryd.prog 12 := ⟨_, Tryd.func12, by kernel_rfl, by kernel_rfl⟩
theorem cB13 : Callable Tryd.prog 13 := ⟨_, Tryd.func13, by kernel_rfl, by kernel_rfl⟩
theorem cB14 : Callable Tryd.prog 14 := ⟨_, Tryd.func14, by kernel_rfl, by kernel_rfl⟩
theorem cB15 : Callable Tryd.prog 15 := ⟨_, Tryd.func15, by kernel_rfl, by kernel_rfl⟩
theorem cB16 : Callable Tryd.prog 16 := ⟨_, Tryd.func16, by kernel_rfl, by kernel_rfl⟩
theorem cB17 : Callable Tryd.prog 17 := ⟨_, Tryd.func17, by kernel_rfl, by kernel_rfl⟩
theorem cB18 : Callable Tryd.prog 18 := ⟨_, Tryd.func18, by kernel_rfl, by kernel_rfl⟩
theorem cB19 : Callable Tryd.prog 19 := ⟨_, Tryd.func19, by kernel_rfl, by kernel_rfl⟩
theorem cB20 : Callable Tryd.prog 20 := ⟨_, Tryd.func20, by kernel_rfl, by kernel_rfl⟩
theorem cB21 : Callable Tryd.prog 21 := ⟨_, Tryd.func21, by kernel_rfl, by kernel_rfl⟩
theorem cB22 : Callable Tryd.prog 22 := ⟨_, Tryd.func22, by kernel_rfl, by kernel_rfl⟩
theorem cB23 : Callable Tryd.prog 23 := ⟨_, Tryd.func23, by kernel_rfl, by kernel_rfl⟩
theorem cB24 : Callable Tryd.prog 24 := ⟨_, Tryd.func24, by kernel_rfl, by kernel_rfl⟩
theorem cB25 : Callable Tryd.prog 25 := ⟨_, Tryd.func25, by kernel_rfl, by kernel_rfl⟩
theorem cB26 : Callable Tryd.prog 26 := ⟨_, Tryd.func26, by kernel_rfl, by kernel_rfl⟩
theorem cB27 : Callable Tryd.prog 27 := ⟨_, Tryd.func27, by kernel_rfl, by kernel_rfl⟩
theorem cB28 : Callable Tryd.prog 28 := ⟨_, Tryd.func28, by kernel_rfl, by kernel_rfl⟩
theorem cB29 : Callable Tryd.prog 29 := ⟨_, Tryd.func29, by kernel_rfl, by kernel_rfl⟩
theorem cB30 : Callable Tryd.prog 30 := ⟨_, Tryd.func30, by kernel_rfl, by kernel_rfl⟩
theorem cB31 : Callable Tryd.prog 31 := ⟨_, Tryd.func31, by kernel_rfl, by kernel_rfl⟩
theorem cB32 : Callable Tryd.prog 32 := ⟨_, Tryd.func32, by kernel_rfl, by kernel_rfl⟩
theorem cB33 : Callable Tryd.prog 33 := ⟨_, Tryd.func33, by kernel_rfl, by kernel_rfl⟩
theorem cB34 : Callable Tryd.prog 34 := ⟨_, Tryd.func34, by kernel_rfl, by kernel_rfl⟩
theorem cB35 : Callable Tryd.prog 35 := ⟨_, Tryd.func35, by kernel_rfl, by kernel_rfl⟩
theorem cB36 : Callable Tryd.prog 36 := ⟨_, Tryd.func36, by kernel_rfl, by kernel_rfl⟩
theorem cB37 : Callable Tryd.prog 37 := ⟨_, Tryd.func37, by kernel_rfl, by kernel_rfl⟩
theorem cB38 : Callable Tryd.prog 38 := ⟨_, Tryd.func38, by kernel_rfl, by kernel_rfl⟩
theorem cB39 : Callable Tryd.prog 39 := ⟨_, Tryd.func39, by kernel_rfl, by kernel_rfl⟩
theorem cB40 : Callable Tryd.prog 40 := ⟨_, Tryd.func40, by kernel_rfl, by kernel_rfl⟩
theorem cB41 : Callable Tryd.prog 41 := ⟨_, Tryd.func41, by kernel_rfl, by kernel_rfl⟩
theorem cB42 : Callable Tryd.prog 42 := ⟨_, Tryd.func42, by kernel_rfl, by kernel_rfl⟩
theorem cB43 : Callable Tryd.prog 43 := ⟨_, Tryd.func43, by kernel_rfl, by kernel_rfl⟩
theorem cB44 : Callable Tryd.prog 44 := ⟨_, Tryd.func44, by kernel_rfl, by kernel_rfl⟩
theorem cB45 : Callable Tryd.prog 45 := ⟨_, Tryd.func45, by kernel_rfl, by kernel_rfl⟩
theorem cB46 : Callable Tryd.prog 46 := ⟨_, Tryd.func46, by kernel_rfl, by kernel_rfl⟩
theorem cB47 : Callable Tryd.prog 47 := ⟨_, Tryd.func47, by kernel_rfl, by kernel_rfl⟩
theorem cB48 : Callable Tryd.prog 48 := ⟨_, Tryd.func48, by kernel_rfl, by kernel_rfl⟩
theorem cB49 : Callable Tryd.prog 49 := ⟨_, Tryd.func49, by kernel_rfl, by kernel_rfl⟩
theorem cB50 : Callable Tryd.prog 50 := ⟨_, Tryd.func50, by kernel_rfl, by kernel_rfl⟩
theorem cB51 : Callable Tryd.prog 51 := ⟨_, Tryd.func51, by kernel_rfl, by kernel_rfl⟩
theorem cB52 : Callable Tryd.prog 52 := ⟨_, Tryd.func52, by kernel_rfl, by kernel_rfl⟩
theorem cB53 : Callable Tryd.prog 53 := ⟨_, Tryd.func53, by kernel_rfl, by kernel_rfl⟩
theorem cB55 : Callable Tryd.prog 55 := ⟨_, Tryd.func55, by kernel_rfl, by kernel_rfl⟩
theorem cB56 : Callable Tryd.prog 56 := ⟨_, Tryd.func56, by kernel_rfl, by kernel_rfl⟩
theorem cB57 : Callable Tryd.prog 57 := ⟨_, Tryd.func57, by kernel_rfl, by kernel_rfl⟩
theorem cB59 : Callable Tryd.prog 59 := ⟨_, Tryd.func59, by kernel_rfl, by kernel_rfl⟩
theorem cB61 : Callable Tryd.prog 61 := ⟨_, Tryd.func61, by kernel_rfl, by kernel_rfl⟩
theorem cB62 : Callable Tryd.prog 62 := ⟨_, Tryd.func62, by kernel_rfl, by kernel_rfl⟩
theorem cB64 : Callable Tryd.prog 64 := ⟨_, Tryd.func64, by kernel_rfl, by kernel_rfl⟩
theorem cB66 : Callable Tryd.prog 66 := ⟨_, Tryd.func66, by kernel_rfl, by kernel_rfl⟩
theorem cB89 : Callable Tryd.prog 89 := ⟨_, Tryd.func89, by kernel_rfl, by kernel_rfl⟩
def zero_3 : Value := .int .i64 0
theorem iZ3 : (Tryd.prog.info? 3).map (fun i => (i.zero, i.size, i.bytes)) = some (some zero_3, 1, 8) := by kernel_rfl
def zero_5 : Value := .int .u8 0
theorem iZ5 : (Tryd.prog.info? 5).map (fun i => (i.zero, i.size, i.bytes)) = some (some zero_5, 1, 1) := by kernel_rfl
def zero_9 : Value := .string (⟨#[]⟩)
theorem iZ9 : (Tryd.prog.info? 9).map (fun i => (i.zero, i.size, i.bytes)) = some (some zero_9, 1, 16) := by kernel_rfl
def zero_29 : Value := .slice none 0 0
theorem iZ29 : (Tryd.prog.info? 29).map (fun i => (i.zero, i.size, i.bytes)) = some (some zero_29, 1, 24) := by kernel_rfl
def zero_35 : Value := .agg #[.int .i64 0, .slice none 0 0]
theorem iZ35 : (Tryd.prog.info? 35).map (fun i => (i.zero, i.size, i.bytes)) = some (some zero_35, 2, 32) := by kernel_rfl
def zero_48 : Value := .agg #[.int .u32 0, .int .u32 0]
theorem iZ48 : (Tryd.prog.info? 48).map (fun i => (i.zero, i.size, i.bytes)) = some (some zero_48, 2, 8) := by kernel_rfl
def zero_68 : Value := .agg #[.pointer none, .slice none 0 0]
theorem iZ68 : (Tryd.prog.info? 68).map (fun i => (i.zero, i.size, i.bytes)) = some (some zero_68, 2, 32) := by kernel_rfl
def zero_95 : Value := .agg #[.int .u8 0, .int .u8 0]
theorem iZ95 : (Tryd.prog.info? 95).map (fun i => (i.zero, i.size, i.bytes)) = some (some zero_95, 2, 2) := by kernel_rfl
def keyL (x : Line) : Int × List ByteArray := (x.num, x.words.xs)
theorem sC3 : Scalar Tryd.prog 3 := ⟨_, Tryd.underlying3, rfl⟩
theorem sC5 : Scalar Tryd.prog 5 := ⟨_, Tryd.underlying5, rfl⟩
theorem sC9 : Scalar Tryd.prog 9 := ⟨_, Tryd.underlying9, rfl⟩
theorem sC22 : Scalar Tryd.prog 22 := ⟨_, Tryd.underlying22, rfl⟩
theorem sC29 : Scalar Tryd.prog 29 := ⟨_, Tryd.underlying29, rfl⟩
theorem wD35 : Wide Tryd.prog 35 2 := ⟨_, Tryd.underlying35, rfl, by kernel_rfl⟩
theorem wD48 : Wide Tryd.prog 48 2 := ⟨_, Tryd.underlying48, rfl, by kernel_rfl⟩
theorem sC59 : Scalar Tryd.prog 59 := ⟨_, Tryd.underlying59, rfl⟩
theorem sC66 : Scalar Tryd.prog 66 := ⟨_, Tryd.underlying66, rfl⟩
theorem wD95 : Wide Tryd.prog 95 2 := ⟨_, Tryd.underlying95, rfl, by kernel_rfl⟩
theorem sZ3 : (Tryd.prog.info? 3).map (·.size) = some 1 := by kernel_rfl
theorem sZ9 : (Tryd.prog.info? 9).map (·.size) = some 1 := by kernel_rfl
theorem sZ35 : (Tryd.prog.info? 35).map (·.size) = some 2 := by kernel_rfl
theorem sZ29 : (Tryd.prog.info? 29).map (·.size) = some 1 := by kernel_rfl
theorem sZ5 : (Tryd.prog.info? 5).map (·.size) = some 1 := by kernel_rfl
abbrev uT2 := @Tryd.underlying2
abbrev uT3 := @Tryd.underlying3
abbrev uT4 := @Tryd.underlying4
abbrev uT5 := @Tryd.underlying5
abbrev uT6 := @Tryd.underlying6
abbrev uT7 := @Tryd.underlying7
abbrev uT8 := @Tryd.underlying8
abbrev uT9 := @Tryd.underlying9
abbrev uT10 := @Tryd.underlying10
abbrev uT11 := @Tryd.underlying11
abbrev uT12 := @Tryd.underlying12
abbrev uT13 := @Tryd.underlying13
abbrev uT14 := @Tryd.underlying14
abbrev uT15 := @Tryd.underlying15
abbrev uT16 := @Tryd.underlying16
abbrev uT17 := @Tryd.underlying17
abbrev uT18 := @Tryd.underlying18
abbrev uT19 := @Tryd.underlying19
abbrev uT21 := @Tryd.underlying21
abbrev uT22 := @Tryd.underlying22
abbrev uT23 := @Tryd.underlying23
abbrev uT29 := @Tryd.underlying29
abbrev uT34 := @Tryd.underlying34
abbrev uT35 := @Tryd.underlying35
abbrev uT36 := @Tryd.underlying36
abbrev uT37 := @Tryd.underlying37
abbrev uT46 := @Tryd.underlying46
abbrev uT47 := @Tryd.underlying47
abbrev uT48 := @Tryd.underlying48
abbrev uT52 := @Tryd.underlying52
abbrev uT57 := @Tryd.underlying57
abbrev uT58 := @Tryd.underlying58
abbrev uT59 := @Tryd.underlying59
abbrev uT60 := @Tryd.underlying60
abbrev uT63 := @Tryd.underlying63
abbrev uT66 := @Tryd.underlying66
abbrev uT67 := @Tryd.underlying67
abbrev uT68 := @Tryd.underlying68
abbrev uT80 := @Tryd.underlying80
abbrev uT93 := @Tryd.underlying93
abbrev uT94 := @Tryd.underlying94
abbrev uT95 := @Tryd.underlying95
abbrev uT96 := @Tryd.underlying96
abbrev uT97 := @Tryd.underlying97
abbrev uT98 := @Tryd.underlying98
abbrev uT99 := @Tryd.underlying99
abbrev uT100 := @Tryd.underlying100
abbrev uT101 := @Tryd.underlying101
abbrev uT103 := @Tryd.underlying103
abbrev uT104 := @Tryd.underlying104
abbrev uT106 := @Tryd.underlying106
abbrev uT107 := @Tryd.underlying107
abbrev uT108 := @Tryd.underlying108
abbrev uT109 := @Tryd.underlying109
end Go.Proofs.YtmaiillomoehgaaDoor.V
