/- Closed facts about the program that my walks use. -/
import Derived.Test.YtfanmniaolncbaaGrpF
import Derived.Test.YtfanmniaolncbaaGrpD
namespace Go.Proofs.Ytfanmniaolncbaa.V
open Go.RowKit Go.Proofs.Ytfanmniaolncbaa
theorem mixed : Try.prog.follows .mixedOrders = true := by kernel_rfl
theorem cB14 : Callable Try.prog 14 := ⟨_, Try.func14, by kernel_rfl, by kernel_rfl⟩
theorem cB15 : Callable Try.prog 15 := ⟨_, Try.func15, by kernel_rfl, by kernel_rfl⟩
theorem cB16 : Callable Try.prog 16 := ⟨_, Try.func16, by kernel_rfl, by kernel_rfl⟩
theorem cB20 : Callable Try.prog 20 := ⟨_, Try.func20, by kernel_rfl, by kernel_rfl⟩
theorem cB22 : Callable Try.prog 22 := ⟨_, Try.func22, by kernel_rfl, by kernel_rfl⟩
theorem cB23 : Callable Try.prog 23 := ⟨_, Try.func23, by kernel_rfl, by kernel_rfl⟩
theorem cB25 : Callable Try.prog 25 := ⟨_, Try.func25, by kernel_rfl, by kernel_rfl⟩
theorem cB28 : Callable Try.prog 28 := ⟨_, Try.func28, by kernel_rfl, by kernel_rfl⟩
theorem cB30 : Callable Try.prog 30 := ⟨_, Try.func30, by kernel_rfl, by kernel_rfl⟩
theorem cB32 : Callable Try.prog 32 := ⟨_, Try.func32, by kernel_rfl, by kernel_rfl⟩
theorem cB34 : Callable Try.prog 34 := ⟨_, Try.func34, by kernel_rfl, by kernel_rfl⟩
theorem cB36 : Callable Try.prog 36 := ⟨_, Try.func36, by kernel_rfl, by kernel_rfl⟩
theorem cB37 : Callable Try.prog 37 := ⟨_, Try.func37, by kernel_rfl, by kernel_rfl⟩
theorem cB38 : Callable Try.prog 38 := ⟨_, Try.func38, by kernel_rfl, by kernel_rfl⟩
theorem cB39 : Callable Try.prog 39 := ⟨_, Try.func39, by kernel_rfl, by kernel_rfl⟩
theorem cB40 : Callable Try.prog 40 := ⟨_, Try.func40, by kernel_rfl, by kernel_rfl⟩
theorem cB41 : Callable Try.prog 41 := ⟨_, Try.func41, by kernel_rfl, by kernel_rfl⟩
theorem cB42 : Callable Try.prog 42 := ⟨_, Try.func42, by kernel_rfl, by kernel_rfl⟩
theorem cB43 : Callable Try.prog 43 := ⟨_, Try.func43, by kernel_rfl, by kernel_rfl⟩
theorem cB44 : Callable Try.prog 44 := ⟨_, Try.func44, by kernel_rfl, by kernel_rfl⟩
theorem cB45 : Callable Try.prog 45 := ⟨_, Try.func45, by kernel_rfl, by kernel_rfl⟩
theorem cB46 : Callable Try.prog 46 := ⟨_, Try.func46, by kernel_rfl, by kernel_rfl⟩
theorem cB47 : Callable Try.prog 47 := ⟨_, Try.func47, by kernel_rfl, by kernel_rfl⟩
theorem cB48 : Callable Try.prog 48 := ⟨_, Try.func48, by kernel_rfl, by kernel_rfl⟩
theorem cB49 : Callable Try.prog 49 := ⟨_, Try.func49, by kernel_rfl, by kernel_rfl⟩
theorem cB50 : Callable Try.prog 50 := ⟨_, Try.func50, by kernel_rfl, by kernel_rfl⟩
theorem cB53 : Callable Try.prog 53 := ⟨_, Try.func53, by kernel_rfl, by kernel_rfl⟩
theorem cB56 : Callable Try.prog 56 := ⟨_, Try.func56, by kernel_rfl, by kernel_rfl⟩
theorem cB58 : Callable Try.prog 58 := ⟨_, Try.func58, by kernel_rfl, by kernel_rfl⟩
theorem cB59 : Callable Try.prog 59 := ⟨_, Try.func59, by kernel_rfl, by kernel_rfl⟩
theorem cB60 : Callable Try.prog 60 := ⟨_, Try.func60, by kernel_rfl, by kernel_rfl⟩
theorem cB61 : Callable Try.prog 61 := ⟨_, Try.func61, by kernel_rfl, by kernel_rfl⟩
theorem cB63 : Callable Try.prog 63 := ⟨_, Try.func63, by kernel_rfl, by kernel_rfl⟩
theorem cB64 : Callable Try.prog 64 := ⟨_, Try.func64, by kernel_rfl, by kernel_rfl⟩
theorem cB65 : Callable Try.prog 65 := ⟨_, Try.func65, by kernel_rfl, by kernel_rfl⟩
theorem cB66 : Callable Try.prog 66 := ⟨_, Try.func66, by kernel_rfl, by kernel_rfl⟩
theorem cB67 : Callable Try.prog 67 := ⟨_, Try.func67, by kernel_rfl, by kernel_rfl⟩
theorem cB68 : Callable Try.prog 68 := ⟨_, Try.func68, by kernel_rfl, by kernel_rfl⟩
theorem cB69 : Callable Try.prog 69 := ⟨_, Try.func69, by kernel_rfl, by kernel_rfl⟩
theorem cB70 : Callable Try.prog 70 := ⟨_, Try.func70, by kernel_rfl, by kernel_rfl⟩
theorem cB71 : Callable Try.prog 71 := ⟨_, Try.func71, by kernel_rfl, by kernel_rfl⟩
theorem cB72 : Callable Try.prog 72 := ⟨_, Try.func72, by kernel_rfl, by kernel_rfl⟩
theorem cB73 : Callable Try.prog 73 := ⟨_, Try.func73, by kernel_rfl, by kernel_rfl⟩
theorem cB74 : Callable Try.prog 74 := ⟨_, Try.func74, by kernel_rfl, by kernel_rfl⟩
theorem cB75 : Callable Try.prog 75 := ⟨_, Try.func75, by kernel_rfl, by kernel_rfl⟩
theorem cB76 : Callable Try.prog 76 := ⟨_, Try.func76, by kernel_rfl, by kernel_rfl⟩
theorem cB77 : Callable Try.prog 77 := ⟨_, Try.func77, by kernel_rfl, by kernel_rfl⟩
theorem cB78 : Callable Try.prog 78 := ⟨_, Try.func78, by kernel_rfl, by kernel_rfl⟩
theorem cB79 : Callable Try.prog 79 := ⟨_, Try.func79, by kernel_rfl, by kernel_rfl⟩
theorem cB80 : Callable Try.prog 80 := ⟨_, Try.func80, by kernel_rfl, by kernel_rfl⟩
theorem cB81 : Callable Try.prog 81 := ⟨_, Try.func81, by kernel_rfl, by kernel_rfl⟩
theorem cB82 : Callable Try.prog 82 := ⟨_, Try.func82, by kernel_rfl, by kernel_rfl⟩
theorem cB83 : Callable Try.prog 83 := ⟨_, Try.func83, by kernel_rfl, by kernel_rfl⟩
theorem cB84 : Callable Try.prog 84 := ⟨_, Try.func84, by kernel_rfl, by kernel_rfl⟩
theorem cB85 : Callable Try.prog 85 := ⟨_, Try.func85, by kernel_rfl, by kernel_rfl⟩
theorem cB86 : Callable Try.prog 86 := ⟨_, Try.func86, by kernel_rfl, by kernel_rfl⟩
theorem cB87 : Callable Try.prog 87 := ⟨_, Try.func87, by kernel_rfl, by kernel_rfl⟩
theorem cB88 : Callable Try.prog 88 := ⟨_, Try.func88, by kernel_rfl, by kernel_rfl⟩
theorem cB89 : Callable Try.prog 89 := ⟨_, Try.func89, by kernel_rfl, by kernel_rfl⟩
theorem cB90 : Callable Try.prog 90 := ⟨_, Try.func90, by kernel_rfl, by kernel_rfl⟩
theorem cB91 : Callable Try.prog 91 := ⟨_, Try.func91, by kernel_rfl, by kernel_rfl⟩
theorem cB94 : Callable Try.prog 94 := ⟨_, Try.func94, by kernel_rfl, by kernel_rfl⟩
theorem cB95 : Callable Try.prog 95 := ⟨_, Try.func95, by kernel_rfl, by kernel_rfl⟩
theorem cB96 : Callable Try.prog 96 := ⟨_, Try.func96, by kernel_rfl, by kernel_rfl⟩
theorem cB97 : Callable Try.prog 97 := ⟨_, Try.func97, by kernel_rfl, by kernel_rfl⟩
theorem cB98 : Callable Try.prog 98 := ⟨_, Try.func98, by kernel_rfl, by kernel_rfl⟩
theorem cB99 : Callable Try.prog 99 := ⟨_, Try.func99, by kernel_rfl, by kernel_rfl⟩
theorem cB100 : Callable Try.prog 100 := ⟨_, Try.func100, by kernel_rfl, by kernel_rfl⟩
theorem cB101 : Callable Try.prog 101 := ⟨_, Try.func101, by kernel_rfl, by kernel_rfl⟩
theorem cB102 : Callable Try.prog 102 := ⟨_, Try.func102, by kernel_rfl, by kernel_rfl⟩
theorem cB103 : Callable Try.prog 103 := ⟨_, Try.func103, by kernel_rfl, by kernel_rfl⟩
theorem cB104 : Callable Try.prog 104 := ⟨_, Try.func104, by kernel_rfl, by kernel_rfl⟩
theorem cB106 : Callable Try.prog 106 := ⟨_, Try.func106, by kernel_rfl, by kernel_rfl⟩
theorem cB107 : Callable Try.prog 107 := ⟨_, Try.func107, by kernel_rfl, by kernel_rfl⟩
theorem cB108 : Callable Try.prog 108 := ⟨_, Try.func108, by kernel_rfl, by kernel_rfl⟩
theorem cB109 : Callable Try.prog 109 := ⟨_, Try.func109, by kernel_rfl, by kernel_rfl⟩
theorem cB110 : Callable Try.prog 110 := ⟨_, Try.func110, by kernel_rfl, by kernel_rfl⟩
theorem cB111 : Callable Try.prog 111 := ⟨_, Try.func111, by kernel_rfl, by kernel_rfl⟩
theorem cB113 : Callable Try.prog 113 := ⟨_, Try.func113, by kernel_rfl, by kernel_rfl⟩
def zero_3 : Value := .int .i64 0
theorem iZ3 : (Try.prog.info? 3).map (fun i => (i.zero, i.size, i.bytes)) = some (some zero_3, 1, 8) := by kernel_rfl
def zero_9 : Value := .string (⟨#[]⟩)
theorem iZ9 : (Try.prog.info? 9).map (fun i => (i.zero, i.size, i.bytes)) = some (some zero_9, 1, 16) := by kernel_rfl
def zero_28 : Value := .agg #[.slice none 0 0, .slice none 0 0, .slice none 0 0, .slice none 0 0, .int .i64 0]
theorem iZ28 : (Try.prog.info? 28).map (fun i => (i.zero, i.size, i.bytes)) = some (some zero_28, 5, 104) := by kernel_rfl
def zero_41 : Value := .agg #[.slice none 0 0, .slice none 0 0]
theorem iZ41 : (Try.prog.info? 41).map (fun i => (i.zero, i.size, i.bytes)) = some (some zero_41, 2, 48) := by kernel_rfl
def zero_54 : Value := .agg #[.int .i64 0, .int .i64 0, .int .i64 0]
theorem iZ54 : (Try.prog.info? 54).map (fun i => (i.zero, i.size, i.bytes)) = some (some zero_54, 3, 24) := by kernel_rfl
def zero_65 : Value := .agg #[.string (⟨#[]⟩), .int .i64 0, .bool false, .bool false, .string (⟨#[]⟩)]
theorem iZ65 : (Try.prog.info? 65).map (fun i => (i.zero, i.size, i.bytes)) = some (some zero_65, 5, 48) := by kernel_rfl
def zero_66 : Value := .int .u32 0
theorem iZ66 : (Try.prog.info? 66).map (fun i => (i.zero, i.size, i.bytes)) = some (some zero_66, 1, 4) := by kernel_rfl
def zero_68 : Value := .agg #[.int .u32 0, .int .i64 0]
theorem iZ68 : (Try.prog.info? 68).map (fun i => (i.zero, i.size, i.bytes)) = some (some zero_68, 2, 16) := by kernel_rfl
def zero_71 : Value := .agg #[.string (⟨#[]⟩), .int .i64 0, .string (⟨#[]⟩), .int .u32 0, .int .i64 0, .bool false]
theorem iZ71 : (Try.prog.info? 71).map (fun i => (i.zero, i.size, i.bytes)) = some (some zero_71, 6, 64) := by kernel_rfl
def zero_82 : Value := .agg #[.int .i64 0, .int .i64 0]
theorem iZ82 : (Try.prog.info? 82).map (fun i => (i.zero, i.size, i.bytes)) = some (some zero_82, 2, 16) := by kernel_rfl
def zero_116 : Value := .agg #[.int .u32 0, .int .u32 0]
theorem iZ116 : (Try.prog.info? 116).map (fun i => (i.zero, i.size, i.bytes)) = some (some zero_116, 2, 8) := by kernel_rfl

theorem sC3 : Scalar Try.prog 3 := ⟨_, Try.underlying3, rfl⟩
theorem sC4 : Scalar Try.prog 4 := ⟨_, Try.underlying4, rfl⟩
theorem sC9 : Scalar Try.prog 9 := ⟨_, Try.underlying9, rfl⟩
theorem sC22 : Scalar Try.prog 22 := ⟨_, Try.underlying22, rfl⟩
theorem sC23 : Scalar Try.prog 23 := ⟨_, Try.underlying23, rfl⟩
theorem sC24 : Scalar Try.prog 24 := ⟨_, Try.underlying24, rfl⟩
theorem sC25 : Scalar Try.prog 25 := ⟨_, Try.underlying25, rfl⟩
theorem sC26 : Scalar Try.prog 26 := ⟨_, Try.underlying26, rfl⟩
theorem wD28 : Wide Try.prog 28 5 := ⟨_, Try.underlying28, rfl, by kernel_rfl⟩
theorem wD41 : Wide Try.prog 41 2 := ⟨_, Try.underlying41, rfl, by kernel_rfl⟩
theorem wD54 : Wide Try.prog 54 3 := ⟨_, Try.underlying54, rfl, by kernel_rfl⟩
theorem wD65 : Wide Try.prog 65 5 := ⟨_, Try.underlying65, rfl, by kernel_rfl⟩
theorem sC66 : Scalar Try.prog 66 := ⟨_, Try.underlying66, rfl⟩
theorem wD68 : Wide Try.prog 68 2 := ⟨_, Try.underlying68, rfl, by kernel_rfl⟩
theorem wD71 : Wide Try.prog 71 6 := ⟨_, Try.underlying71, rfl, by kernel_rfl⟩
theorem wD82 : Wide Try.prog 82 2 := ⟨_, Try.underlying82, rfl, by kernel_rfl⟩
theorem sC83 : Scalar Try.prog 83 := ⟨_, Try.underlying83, rfl⟩
theorem sC84 : Scalar Try.prog 84 := ⟨_, Try.underlying84, rfl⟩
theorem wD116 : Wide Try.prog 116 2 := ⟨_, Try.underlying116, rfl, by kernel_rfl⟩
theorem sZ3 : (Try.prog.info? 3).map (·.size) = some 1 := by kernel_rfl
theorem sZ65 : (Try.prog.info? 65).map (·.size) = some 5 := by kernel_rfl
theorem sZ54 : (Try.prog.info? 54).map (·.size) = some 3 := by kernel_rfl
theorem sZ71 : (Try.prog.info? 71).map (·.size) = some 6 := by kernel_rfl
theorem sZ68 : (Try.prog.info? 68).map (·.size) = some 2 := by kernel_rfl
theorem sZ9 : (Try.prog.info? 9).map (·.size) = some 1 := by kernel_rfl
theorem sZ82 : (Try.prog.info? 82).map (·.size) = some 2 := by kernel_rfl
theorem sZ66 : (Try.prog.info? 66).map (·.size) = some 1 := by kernel_rfl
abbrev uT3 := @Try.underlying3
abbrev uT9 := @Try.underlying9
abbrev uT22 := @Try.underlying22
abbrev uT23 := @Try.underlying23
abbrev uT24 := @Try.underlying24
abbrev uT25 := @Try.underlying25
abbrev uT26 := @Try.underlying26
abbrev uT28 := @Try.underlying28
abbrev uT41 := @Try.underlying41
abbrev uT54 := @Try.underlying54
abbrev uT62 := @Try.underlying62
abbrev uT63 := @Try.underlying63
abbrev uT65 := @Try.underlying65
abbrev uT66 := @Try.underlying66
abbrev uT68 := @Try.underlying68
abbrev uT71 := @Try.underlying71
abbrev uT78 := @Try.underlying78
abbrev uT82 := @Try.underlying82
abbrev uT84 := @Try.underlying84
abbrev uT86 := @Try.underlying86
abbrev uT114 := @Try.underlying114
abbrev uT116 := @Try.underlying116
abbrev uT125 := @Try.underlying125
end Go.Proofs.Ytfanmniaolncbaa.V
