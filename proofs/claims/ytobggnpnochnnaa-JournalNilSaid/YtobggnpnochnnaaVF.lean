/- Closed facts about the program that my walks use. -/
import Derived.Test.YtobggnpnochnnaaProg
import Derived.Test.YtobggnpnochnnaaTD
import Derived.Test.YtobggnpnochnnaaGrpD
import Derived.Test.YtobggnpnochnnaaGrpU
import Derived.Test.YtobggnpnochnnaaGrpX
import Derived.Test.YtobggnpnochnnaaCtlM
namespace Go.Proofs.Ytobggnpnochnnaa.V
open Go.RowKit Go.Proofs.Ytobggnpnochnnaa
theorem mixed : Try.prog.follows .mixedOrders = true := by kernel_rfl
theorem cB2 : Callable Try.prog 2 := ⟨_, Try.func2, by kernel_rfl, by kernel_rfl⟩
theorem cB3 : Callable Try.prog 3 := ⟨_, Try.func3, by kernel_rfl, by kernel_rfl⟩
theorem cB4 : Callable Try.prog 4 := ⟨_, Try.func4, by kernel_rfl, by kernel_rfl⟩
theorem cB5 : Callable Try.prog 5 := ⟨_, Try.func5, by kernel_rfl, by kernel_rfl⟩
theorem cB6 : Callable Try.prog 6 := ⟨_, Try.func6, by kernel_rfl, by kernel_rfl⟩
theorem cB7 : Callable Try.prog 7 := ⟨_, Try.func7, by kernel_rfl, by kernel_rfl⟩
theorem cB8 : Callable Try.prog 8 := ⟨_, Try.func8, by kernel_rfl, by kernel_rfl⟩
theorem cB9 : Callable Try.prog 9 := ⟨_, Try.func9, by kernel_rfl, by kernel_rfl⟩
theorem cB10 : Callable Try.prog 10 := ⟨_, Try.func10, by kernel_rfl, by kernel_rfl⟩
theorem cB11 : Callable Try.prog 11 := ⟨_, Try.func11, by kernel_rfl, by kernel_rfl⟩
theorem cB12 : Callable Try.prog 12 := ⟨_, Try.func12, by kernel_rfl, by kernel_rfl⟩
theorem cB13 : Callable Try.prog 13 := ⟨_, Try.func13, by kernel_rfl, by kernel_rfl⟩
theorem cB14 : Callable Try.prog 14 := ⟨_, Try.func14, by kernel_rfl, by kernel_rfl⟩
theorem cB15 : Callable Try.prog 15 := ⟨_, Try.func15, by kernel_rfl, by kernel_rfl⟩
theorem cB16 : Callable Try.prog 16 := ⟨_, Try.func16, by kernel_rfl, by kernel_rfl⟩
theorem cB17 : Callable Try.prog 17 := ⟨_, Try.func17, by kernel_rfl, by kernel_rfl⟩
theorem cB18 : Callable Try.prog 18 := ⟨_, Try.func18, by kernel_rfl, by kernel_rfl⟩
theorem cB19 : Callable Try.prog 19 := ⟨_, Try.func19, by kernel_rfl, by kernel_rfl⟩
theorem cB20 : Callable Try.prog 20 := ⟨_, Try.func20, by kernel_rfl, by kernel_rfl⟩
theorem cB21 : Callable Try.prog 21 := ⟨_, Try.func21, by kernel_rfl, by kernel_rfl⟩
theorem cB22 : Callable Try.prog 22 := ⟨_, Try.func22, by kernel_rfl, by kernel_rfl⟩
theorem cB23 : Callable Try.prog 23 := ⟨_, Try.func23, by kernel_rfl, by kernel_rfl⟩
theorem cB24 : Callable Try.prog 24 := ⟨_, Try.func24, by kernel_rfl, by kernel_rfl⟩
theorem cB25 : Callable Try.prog 25 := ⟨_, Try.func25, by kernel_rfl, by kernel_rfl⟩
theorem cB26 : Callable Try.prog 26 := ⟨_, Try.func26, by kernel_rfl, by kernel_rfl⟩
theorem cB27 : Callable Try.prog 27 := ⟨_, Try.func27, by kernel_rfl, by kernel_rfl⟩
theorem cB28 : Callable Try.prog 28 := ⟨_, Try.func28, by kernel_rfl, by kernel_rfl⟩
theorem cB29 : Callable Try.prog 29 := ⟨_, Try.func29, by kernel_rfl, by kernel_rfl⟩
theorem cB30 : Callable Try.prog 30 := ⟨_, Try.func30, by kernel_rfl, by kernel_rfl⟩
theorem cB31 : Callable Try.prog 31 := ⟨_, Try.func31, by kernel_rfl, by kernel_rfl⟩
theorem cB32 : Callable Try.prog 32 := ⟨_, Try.func32, by kernel_rfl, by kernel_rfl⟩
theorem cB33 : Callable Try.prog 33 := ⟨_, Try.func33, by kernel_rfl, by kernel_rfl⟩
theorem cB34 : Callable Try.prog 34 := ⟨_, Try.func34, by kernel_rfl, by kernel_rfl⟩
theorem cB35 : Callable Try.prog 35 := ⟨_, Try.func35, by kernel_rfl, by kernel_rfl⟩
theorem cB36 : Callable Try.prog 36 := ⟨_, Try.func36, by kernel_rfl, by kernel_rfl⟩
theorem cB37 : Callable Try.prog 37 := ⟨_, Try.func37, by kernel_rfl, by kernel_rfl⟩
theorem cB38 : Callable Try.prog 38 := ⟨_, Try.func38, by kernel_rfl, by kernel_rfl⟩
theorem cB39 : Callable Try.prog 39 := ⟨_, Try.func39, by kernel_rfl, by kernel_rfl⟩
theorem cB40 : Callable Try.prog 40 := ⟨_, Try.func40, by kernel_rfl, by kernel_rfl⟩
theorem cB41 : Callable Try.prog 41 := ⟨_, Try.func41, by kernel_rfl, by kernel_rfl⟩
theorem cB42 : Callable Try.prog 42 := ⟨_, Try.func42, by kernel_rfl, by kernel_rfl⟩
theorem cB43 : Callable Try.prog 43 := ⟨_, Try.func43, by kernel_rfl, by kernel_rfl⟩
theorem cB44 : Callable Try.prog 44 := ⟨_, Try.func44, by kernel_rfl, by kernel_rfl⟩
theorem cB45 : Callable Try.prog 45 := ⟨_, Try.func45, by kernel_rfl, by kernel_rfl⟩
theorem cB46 : Callable Try.prog 46 := ⟨_, Try.func46, by kernel_rfl, by kernel_rfl⟩
theorem cB47 : Callable Try.prog 47 := ⟨_, Try.func47, by kernel_rfl, by kernel_rfl⟩
theorem cB48 : Callable Try.prog 48 := ⟨_, Try.func48, by kernel_rfl, by kernel_rfl⟩
theorem cB49 : Callable Try.prog 49 := ⟨_, Try.func49, by kernel_rfl, by kernel_rfl⟩
theorem cB50 : Callable Try.prog 50 := ⟨_, Try.func50, by kernel_rfl, by kernel_rfl⟩
theorem cB51 : Callable Try.prog 51 := ⟨_, Try.func51, by kernel_rfl, by kernel_rfl⟩
theorem cB52 : Callable Try.prog 52 := ⟨_, Try.func52, by kernel_rfl, by kernel_rfl⟩
theorem cB53 : Callable Try.prog 53 := ⟨_, Try.func53, by kernel_rfl, by kernel_rfl⟩
theorem cB54 : Callable Try.prog 54 := ⟨_, Try.func54, by kernel_rfl, by kernel_rfl⟩
theorem cB55 : Callable Try.prog 55 := ⟨_, Try.func55, by kernel_rfl, by kernel_rfl⟩
theorem cB56 : Callable Try.prog 56 := ⟨_, Try.func56, by kernel_rfl, by kernel_rfl⟩
theorem cB57 : Callable Try.prog 57 := ⟨_, Try.func57, by kernel_rfl, by kernel_rfl⟩
theorem cB58 : Callable Try.prog 58 := ⟨_, Try.func58, by kernel_rfl, by kernel_rfl⟩
theorem cB59 : Callable Try.prog 59 := ⟨_, Try.func59, by kernel_rfl, by kernel_rfl⟩
theorem cB60 : Callable Try.prog 60 := ⟨_, Try.func60, by kernel_rfl, by kernel_rfl⟩
theorem cB61 : Callable Try.prog 61 := ⟨_, Try.func61, by kernel_rfl, by kernel_rfl⟩
theorem cB62 : Callable Try.prog 62 := ⟨_, Try.func62, by kernel_rfl, by kernel_rfl⟩
theorem cB63 : Callable Try.prog 63 := ⟨_, Try.func63, by kernel_rfl, by kernel_rfl⟩
theorem cB64 : Callable Try.prog 64 := ⟨_, Try.func64, by kernel_rfl, by kernel_rfl⟩
theorem cB65 : Callable Try.prog 65 := ⟨_, Try.func65, by kernel_rfl, by kernel_rfl⟩
theorem cB66 : Callable Try.prog 66 := ⟨_, Try.func66, by kernel_rfl, by kernel_rfl⟩
theorem cB67 : Callable Try.prog 67 := ⟨_, Try.func67, by kernel_rfl, by kernel_rfl⟩
theorem cB68 : Callable Try.prog 68 := ⟨_, Try.func68, by kernel_rfl, by kernel_rfl⟩
theorem cB69 : Callable Try.prog 69 := ⟨_, Try.func69, by kernel_rfl, by kernel_rfl⟩
theorem cB70 : Callable Try.prog 70 := ⟨_, Try.func70, by kernel_rfl, by kernel_rfl⟩
theorem cB71 : Callable Try.prog 71 := ⟨_, Try.func71, by kernel_rfl, by kernel_rfl⟩
theorem cB72 : Callable Try.prog 72 := ⟨_, Try.func72, by kernel_rfl, by kernel_rfl⟩
theorem cB73 : Callable Try.prog 73 := ⟨_, Try.func73, by kernel_rfl, by kernel_rfl⟩
theorem cB74 : Callable Try.prog 74 := ⟨_, Try.func74, by kernel_rfl, by kernel_rfl⟩
theorem cB75 : Callable Try.prog 75 := ⟨_, Try.func75, by kernel_rfl, by kernel_rfl⟩
theorem cB76 : Callable Try.prog 76 := ⟨_, Try.func76, by kernel_rfl, by kernel_rfl⟩
theorem cB77 : Callable Try.prog 77 := ⟨_, Try.func77, by kernel_rfl, by kernel_rfl⟩
theorem cB78 : Callable Try.prog 78 := ⟨_, Try.func78, by kernel_rfl, by kernel_rfl⟩
theorem cB79 : Callable Try.prog 79 := ⟨_, Try.func79, by kernel_rfl, by kernel_rfl⟩
theorem cB80 : Callable Try.prog 80 := ⟨_, Try.func80, by kernel_rfl, by kernel_rfl⟩
theorem cB81 : Callable Try.prog 81 := ⟨_, Try.func81, by kernel_rfl, by kernel_rfl⟩
theorem cB82 : Callable Try.prog 82 := ⟨_, Try.func82, by kernel_rfl, by kernel_rfl⟩
theorem cB83 : Callable Try.prog 83 := ⟨_, Try.func83, by kernel_rfl, by kernel_rfl⟩
theorem cB84 : Callable Try.prog 84 := ⟨_, Try.func84, by kernel_rfl, by kernel_rfl⟩
theorem cB85 : Callable Try.prog 85 := ⟨_, Try.func85, by kernel_rfl, by kernel_rfl⟩
theorem cB86 : Callable Try.prog 86 := ⟨_, Try.func86, by kernel_rfl, by kernel_rfl⟩
theorem cB87 : Callable Try.prog 87 := ⟨_, Try.func87, by kernel_rfl, by kernel_rfl⟩
theorem cB88 : Callable Try.prog 88 := ⟨_, Try.func88, by kernel_rfl, by kernel_rfl⟩
theorem cB89 : Callable Try.prog 89 := ⟨_, Try.func89, by kernel_rfl, by kernel_rfl⟩
theorem cB90 : Callable Try.prog 90 := ⟨_, Try.func90, by kernel_rfl, by kernel_rfl⟩
theorem cB91 : Callable Try.prog 91 := ⟨_, Try.func91, by kernel_rfl, by kernel_rfl⟩
theorem cB92 : Callable Try.prog 92 := ⟨_, Try.func92, by kernel_rfl, by kernel_rfl⟩
theorem cB93 : Callable Try.prog 93 := ⟨_, Try.func93, by kernel_rfl, by kernel_rfl⟩
theorem cB94 : Callable Try.prog 94 := ⟨_, Try.func94, by kernel_rfl, by kernel_rfl⟩
theorem cB95 : Callable Try.prog 95 := ⟨_, Try.func95, by kernel_rfl, by kernel_rfl⟩
theorem cB96 : Callable Try.prog 96 := ⟨_, Try.func96, by kernel_rfl, by kernel_rfl⟩
theorem cB97 : Callable Try.prog 97 := ⟨_, Try.func97, by kernel_rfl, by kernel_rfl⟩
theorem cB98 : Callable Try.prog 98 := ⟨_, Try.func98, by kernel_rfl, by kernel_rfl⟩
theorem cB99 : Callable Try.prog 99 := ⟨_, Try.func99, by kernel_rfl, by kernel_rfl⟩
theorem cB100 : Callable Try.prog 100 := ⟨_, Try.func100, by kernel_rfl, by kernel_rfl⟩
theorem cB101 : Callable Try.prog 101 := ⟨_, Try.func101, by kernel_rfl, by kernel_rfl⟩
theorem cB102 : Callable Try.prog 102 := ⟨_, Try.func102, by kernel_rfl, by kernel_rfl⟩
theorem cB103 : Callable Try.prog 103 := ⟨_, Try.func103, by kernel_rfl, by kernel_rfl⟩
theorem cB104 : Callable Try.prog 104 := ⟨_, Try.func104, by kernel_rfl, by kernel_rfl⟩
theorem cB105 : Callable Try.prog 105 := ⟨_, Try.func105, by kernel_rfl, by kernel_rfl⟩
theorem cB106 : Callable Try.prog 106 := ⟨_, Try.func106, by kernel_rfl, by kernel_rfl⟩
theorem cB107 : Callable Try.prog 107 := ⟨_, Try.func107, by kernel_rfl, by kernel_rfl⟩
theorem cB108 : Callable Try.prog 108 := ⟨_, Try.func108, by kernel_rfl, by kernel_rfl⟩
theorem cB109 : Callable Try.prog 109 := ⟨_, Try.func109, by kernel_rfl, by kernel_rfl⟩
theorem cB110 : Callable Try.prog 110 := ⟨_, Try.func110, by kernel_rfl, by kernel_rfl⟩
theorem cB111 : Callable Try.prog 111 := ⟨_, Try.func111, by kernel_rfl, by kernel_rfl⟩
theorem cB112 : Callable Try.prog 112 := ⟨_, Try.func112, by kernel_rfl, by kernel_rfl⟩
theorem cB113 : Callable Try.prog 113 := ⟨_, Try.func113, by kernel_rfl, by kernel_rfl⟩
theorem cB114 : Callable Try.prog 114 := ⟨_, Try.func114, by kernel_rfl, by kernel_rfl⟩
theorem cB115 : Callable Try.prog 115 := ⟨_, Try.func115, by kernel_rfl, by kernel_rfl⟩
theorem cB116 : Callable Try.prog 116 := ⟨_, Try.func116, by kernel_rfl, by kernel_rfl⟩
theorem cB117 : Callable Try.prog 117 := ⟨_, Try.func117, by kernel_rfl, by kernel_rfl⟩
theorem cB118 : Callable Try.prog 118 := ⟨_, Try.func118, by kernel_rfl, by kernel_rfl⟩
theorem cB119 : Callable Try.prog 119 := ⟨_, Try.func119, by kernel_rfl, by kernel_rfl⟩
theorem cB120 : Callable Try.prog 120 := ⟨_, Try.func120, by kernel_rfl, by kernel_rfl⟩
theorem cB121 : Callable Try.prog 121 := ⟨_, Try.func121, by kernel_rfl, by kernel_rfl⟩
theorem cB122 : Callable Try.prog 122 := ⟨_, Try.func122, by kernel_rfl, by kernel_rfl⟩
theorem cB123 : Callable Try.prog 123 := ⟨_, Try.func123, by kernel_rfl, by kernel_rfl⟩
theorem cB124 : Callable Try.prog 124 := ⟨_, Try.func124, by kernel_rfl, by kernel_rfl⟩
theorem cB125 : Callable Try.prog 125 := ⟨_, Try.func125, by kernel_rfl, by kernel_rfl⟩
theorem cB126 : Callable Try.prog 126 := ⟨_, Try.func126, by kernel_rfl, by kernel_rfl⟩
theorem cB127 : Callable Try.prog 127 := ⟨_, Try.func127, by kernel_rfl, by kernel_rfl⟩
theorem cB128 : Callable Try.prog 128 := ⟨_, Try.func128, by kernel_rfl, by kernel_rfl⟩
theorem cB129 : Callable Try.prog 129 := ⟨_, Try.func129, by kernel_rfl, by kernel_rfl⟩
theorem cB130 : Callable Try.prog 130 := ⟨_, Try.func130, by kernel_rfl, by kernel_rfl⟩
theorem cB131 : Callable Try.prog 131 := ⟨_, Try.func131, by kernel_rfl, by kernel_rfl⟩
theorem cB133 : Callable Try.prog 133 := ⟨_, Try.func133, by kernel_rfl, by kernel_rfl⟩
theorem cB134 : Callable Try.prog 134 := ⟨_, Try.func134, by kernel_rfl, by kernel_rfl⟩
theorem cB135 : Callable Try.prog 135 := ⟨_, Try.func135, by kernel_rfl, by kernel_rfl⟩
theorem cB136 : Callable Try.prog 136 := ⟨_, Try.func136, by kernel_rfl, by kernel_rfl⟩
def zero_3 : Value := .int .i64 0
theorem iZ3 : (Try.prog.info? 3).map (fun i => (i.zero, i.size, i.bytes)) = some (some zero_3, 1, 8) := by kernel_rfl
def zero_4 : Value := .bool false
theorem iZ4 : (Try.prog.info? 4).map (fun i => (i.zero, i.size, i.bytes)) = some (some zero_4, 1, 1) := by kernel_rfl
def zero_5 : Value := .int .u8 0
theorem iZ5 : (Try.prog.info? 5).map (fun i => (i.zero, i.size, i.bytes)) = some (some zero_5, 1, 1) := by kernel_rfl
def zero_22 : Value := .slice none 0 0
theorem iZ22 : (Try.prog.info? 22).map (fun i => (i.zero, i.size, i.bytes)) = some (some zero_22, 1, 24) := by kernel_rfl
def zero_24 : Value := .agg #[.int .i64 0, .int .i64 0, .int .i64 0, .int .i64 0]
theorem iZ24 : (Try.prog.info? 24).map (fun i => (i.zero, i.size, i.bytes)) = some (some zero_24, 4, 32) := by kernel_rfl
def zero_47 : Value := .agg #[.bool false, .slice none 0 0]
theorem iZ47 : (Try.prog.info? 47).map (fun i => (i.zero, i.size, i.bytes)) = some (some zero_47, 2, 32) := by kernel_rfl
def zero_57 : Value := .agg #[.int .i64 0, .bool false, .int .i64 0, .slice none 0 0, .slice none 0 0, .slice none 0 0]
theorem iZ57 : (Try.prog.info? 57).map (fun i => (i.zero, i.size, i.bytes)) = some (some zero_57, 6, 96) := by kernel_rfl
def zero_78 : Value := .agg #[.int .i64 0, .int .i64 0]
theorem iZ78 : (Try.prog.info? 78).map (fun i => (i.zero, i.size, i.bytes)) = some (some zero_78, 2, 16) := by kernel_rfl
def zero_101 : Value := .agg #[.bool false, .bool false, .int .i64 0, .int .i64 0, .int .i64 0, .int .i64 0]
theorem iZ101 : (Try.prog.info? 101).map (fun i => (i.zero, i.size, i.bytes)) = some (some zero_101, 6, 40) := by kernel_rfl
def zero_122 : Value := .slice none 0 0
theorem iZ122 : (Try.prog.info? 122).map (fun i => (i.zero, i.size, i.bytes)) = some (some zero_122, 1, 24) := by kernel_rfl
def zero_124 : Value := .agg #[.int .i64 0, .int .i64 0]
theorem iZ124 : (Try.prog.info? 124).map (fun i => (i.zero, i.size, i.bytes)) = some (some zero_124, 2, 16) := by kernel_rfl
def zero_138 : Value := .pointer none
theorem iZ138 : (Try.prog.info? 138).map (fun i => (i.zero, i.size, i.bytes)) = some (some zero_138, 1, 8) := by kernel_rfl
def zero_141 : Value := .agg #[.bool false, .int .i64 0, .int .i64 0]
theorem iZ141 : (Try.prog.info? 141).map (fun i => (i.zero, i.size, i.bytes)) = some (some zero_141, 3, 24) := by kernel_rfl
def zero_142 : Value := .slice none 0 0
theorem iZ142 : (Try.prog.info? 142).map (fun i => (i.zero, i.size, i.bytes)) = some (some zero_142, 1, 24) := by kernel_rfl
def zero_145 : Value := .slice none 0 0
theorem iZ145 : (Try.prog.info? 145).map (fun i => (i.zero, i.size, i.bytes)) = some (some zero_145, 1, 24) := by kernel_rfl
def zero_157 : Value := .agg #[.bool false, .bool false, .int .i64 0, .int .i64 0, .int .i64 0, .int .i64 0, .bool false, .slice none 0 0, .slice none 0 0]
theorem iZ157 : (Try.prog.info? 157).map (fun i => (i.zero, i.size, i.bytes)) = some (some zero_157, 9, 96) := by kernel_rfl
def zero_161 : Value := .agg #[.int .i64 0, .int .i64 0, .int .i64 0]
theorem iZ161 : (Try.prog.info? 161).map (fun i => (i.zero, i.size, i.bytes)) = some (some zero_161, 3, 24) := by kernel_rfl
def zero_164 : Value := .agg #[.bool false, .int .i64 0, .int .i64 0]
theorem iZ164 : (Try.prog.info? 164).map (fun i => (i.zero, i.size, i.bytes)) = some (some zero_164, 3, 24) := by kernel_rfl
def zero_177 : Value := .agg #[.int .i64 0, .int .i64 0, .int .i64 0]
theorem iZ177 : (Try.prog.info? 177).map (fun i => (i.zero, i.size, i.bytes)) = some (some zero_177, 3, 24) := by kernel_rfl
def zero_166 : Value := .agg #[.slice none 0 0, .slice none 0 0, .int .i64 0, .bool false, .int .i64 0, .slice none 0 0, .slice none 0 0, .slice none 0 0, .slice none 0 0]
theorem iZ166 : (Try.prog.info? 166).map (fun i => (i.zero, i.size, i.bytes)) = some (some zero_166, 9, 168) := by kernel_rfl

theorem sC3 : Scalar Try.prog 3 := ⟨_, Try.underlying3, rfl⟩
theorem sC4 : Scalar Try.prog 4 := ⟨_, Try.underlying4, rfl⟩
theorem sC5 : Scalar Try.prog 5 := ⟨_, Try.underlying5, rfl⟩
theorem sC22 : Scalar Try.prog 22 := ⟨_, Try.underlying22, rfl⟩
theorem wD24 : Wide Try.prog 24 4 := ⟨_, Try.underlying24, rfl, by kernel_rfl⟩
theorem sC32 : Scalar Try.prog 32 := ⟨_, Try.underlying32, rfl⟩
theorem sC45 : Scalar Try.prog 45 := ⟨_, Try.underlying45, rfl⟩
theorem wD47 : Wide Try.prog 47 2 := ⟨_, Try.underlying47, rfl, by kernel_rfl⟩
theorem wD57 : Wide Try.prog 57 6 := ⟨_, Try.underlying57, rfl, by kernel_rfl⟩
theorem sC66 : Scalar Try.prog 66 := ⟨_, Try.underlying66, rfl⟩
theorem wD78 : Wide Try.prog 78 2 := ⟨_, Try.underlying78, rfl, by kernel_rfl⟩
theorem sC83 : Scalar Try.prog 83 := ⟨_, Try.underlying83, rfl⟩
theorem sC90 : Scalar Try.prog 90 := ⟨_, Try.underlying90, rfl⟩
theorem sC91 : Scalar Try.prog 91 := ⟨_, Try.underlying91, rfl⟩
theorem sC92 : Scalar Try.prog 92 := ⟨_, Try.underlying92, rfl⟩
theorem sC93 : Scalar Try.prog 93 := ⟨_, Try.underlying93, rfl⟩
theorem wD101 : Wide Try.prog 101 6 := ⟨_, Try.underlying101, rfl, by kernel_rfl⟩
theorem sC122 : Scalar Try.prog 122 := ⟨_, Try.underlying122, rfl⟩
theorem wD124 : Wide Try.prog 124 2 := ⟨_, Try.underlying124, rfl, by kernel_rfl⟩
theorem sC125 : Scalar Try.prog 125 := ⟨_, Try.underlying125, rfl⟩
theorem sC135 : Scalar Try.prog 135 := ⟨_, Try.underlying135, rfl⟩
theorem sC138 : Scalar Try.prog 138 := ⟨_, Try.underlying138, rfl⟩
theorem wD141 : Wide Try.prog 141 3 := ⟨_, Try.underlying141, rfl, by kernel_rfl⟩
theorem sC142 : Scalar Try.prog 142 := ⟨_, Try.underlying142, rfl⟩
theorem sC145 : Scalar Try.prog 145 := ⟨_, Try.underlying145, rfl⟩
theorem sC150 : Scalar Try.prog 150 := ⟨_, Try.underlying150, rfl⟩
theorem sC153 : Scalar Try.prog 153 := ⟨_, Try.underlying153, rfl⟩
theorem wD157 : Wide Try.prog 157 9 := ⟨_, Try.underlying157, rfl, by kernel_rfl⟩
theorem wD161 : Wide Try.prog 161 3 := ⟨_, Try.underlying161, rfl, by kernel_rfl⟩
theorem wD164 : Wide Try.prog 164 3 := ⟨_, Try.underlying164, rfl, by kernel_rfl⟩
theorem wD177 : Wide Try.prog 177 3 := ⟨_, Try.underlying177, rfl, by kernel_rfl⟩
theorem sZ3 : (Try.prog.info? 3).map (·.size) = some 1 := by kernel_rfl
theorem sZ5 : (Try.prog.info? 5).map (·.size) = some 1 := by kernel_rfl
theorem sZ24 : (Try.prog.info? 24).map (·.size) = some 4 := by kernel_rfl
theorem sZ122 : (Try.prog.info? 122).map (·.size) = some 1 := by kernel_rfl
theorem sZ22 : (Try.prog.info? 22).map (·.size) = some 1 := by kernel_rfl
theorem sZ78 : (Try.prog.info? 78).map (·.size) = some 2 := by kernel_rfl
theorem sZ4 : (Try.prog.info? 4).map (·.size) = some 1 := by kernel_rfl
theorem sZ101 : (Try.prog.info? 101).map (·.size) = some 6 := by kernel_rfl
theorem sZ145 : (Try.prog.info? 145).map (·.size) = some 1 := by kernel_rfl
theorem sZ142 : (Try.prog.info? 142).map (·.size) = some 1 := by kernel_rfl
theorem sZ124 : (Try.prog.info? 124).map (·.size) = some 2 := by kernel_rfl
theorem sZ138 : (Try.prog.info? 138).map (·.size) = some 1 := by kernel_rfl
theorem sZ141 : (Try.prog.info? 141).map (·.size) = some 3 := by kernel_rfl
theorem sZ177 : (Try.prog.info? 177).map (·.size) = some 3 := by kernel_rfl
theorem sZ161 : (Try.prog.info? 161).map (·.size) = some 3 := by kernel_rfl
theorem sZ164 : (Try.prog.info? 164).map (·.size) = some 3 := by kernel_rfl
abbrev uT2 := @Try.underlying2
abbrev uT3 := @Try.underlying3
abbrev uT4 := @Try.underlying4
abbrev uT5 := @Try.underlying5
abbrev uT6 := @Try.underlying6
abbrev uT7 := @Try.underlying7
abbrev uT8 := @Try.underlying8
abbrev uT9 := @Try.underlying9
abbrev uT10 := @Try.underlying10
abbrev uT11 := @Try.underlying11
abbrev uT12 := @Try.underlying12
abbrev uT13 := @Try.underlying13
abbrev uT14 := @Try.underlying14
abbrev uT15 := @Try.underlying15
abbrev uT16 := @Try.underlying16
abbrev uT17 := @Try.underlying17
abbrev uT18 := @Try.underlying18
abbrev uT19 := @Try.underlying19
abbrev uT21 := @Try.underlying21
abbrev uT22 := @Try.underlying22
abbrev uT23 := @Try.underlying23
abbrev uT24 := @Try.underlying24
abbrev uT25 := @Try.underlying25
abbrev uT28 := @Try.underlying28
abbrev uT29 := @Try.underlying29
abbrev uT32 := @Try.underlying32
abbrev uT40 := @Try.underlying40
abbrev uT45 := @Try.underlying45
abbrev uT46 := @Try.underlying46
abbrev uT47 := @Try.underlying47
abbrev uT52 := @Try.underlying52
abbrev uT56 := @Try.underlying56
abbrev uT57 := @Try.underlying57
abbrev uT66 := @Try.underlying66
abbrev uT72 := @Try.underlying72
abbrev uT73 := @Try.underlying73
abbrev uT74 := @Try.underlying74
abbrev uT77 := @Try.underlying77
abbrev uT78 := @Try.underlying78
abbrev uT83 := @Try.underlying83
abbrev uT88 := @Try.underlying88
abbrev uT89 := @Try.underlying89
abbrev uT90 := @Try.underlying90
abbrev uT91 := @Try.underlying91
abbrev uT92 := @Try.underlying92
abbrev uT93 := @Try.underlying93
abbrev uT94 := @Try.underlying94
abbrev uT95 := @Try.underlying95
abbrev uT100 := @Try.underlying100
abbrev uT101 := @Try.underlying101
abbrev uT111 := @Try.underlying111
abbrev uT112 := @Try.underlying112
abbrev uT115 := @Try.underlying115
abbrev uT118 := @Try.underlying118
abbrev uT122 := @Try.underlying122
abbrev uT123 := @Try.underlying123
abbrev uT124 := @Try.underlying124
abbrev uT125 := @Try.underlying125
abbrev uT128 := @Try.underlying128
abbrev uT129 := @Try.underlying129
abbrev uT135 := @Try.underlying135
abbrev uT136 := @Try.underlying136
abbrev uT137 := @Try.underlying137
abbrev uT138 := @Try.underlying138
abbrev uT140 := @Try.underlying140
abbrev uT141 := @Try.underlying141
abbrev uT142 := @Try.underlying142
abbrev uT145 := @Try.underlying145
abbrev uT146 := @Try.underlying146
abbrev uT150 := @Try.underlying150
abbrev uT151 := @Try.underlying151
abbrev uT152 := @Try.underlying152
abbrev uT153 := @Try.underlying153
abbrev uT154 := @Try.underlying154
abbrev uT155 := @Try.underlying155
abbrev uT156 := @Try.underlying156
abbrev uT157 := @Try.underlying157
abbrev uT160 := @Try.underlying160
abbrev uT161 := @Try.underlying161
abbrev uT163 := @Try.underlying163
abbrev uT164 := @Try.underlying164
abbrev uT165 := @Try.underlying165
abbrev uT166 := @Try.underlying166
abbrev uT176 := @Try.underlying176
abbrev uT177 := @Try.underlying177
abbrev uT179 := @Try.underlying179
abbrev uT180 := @Try.underlying180
abbrev uT190 := @Try.underlying190
abbrev uT191 := @Try.underlying191
abbrev uT192 := @Try.underlying192
abbrev uT193 := @Try.underlying193
abbrev uT194 := @Try.underlying194
abbrev uT195 := @Try.underlying195
abbrev uT196 := @Try.underlying196
abbrev uT198 := @Try.underlying198
abbrev uT199 := @Try.underlying199
abbrev uT200 := @Try.underlying200
abbrev uT201 := @Try.underlying201
abbrev uT202 := @Try.underlying202
end Go.Proofs.Ytobggnpnochnnaa.V
