/-
  The types that the program's operations name: what each is. Laid by a program of this session's (gen.py) off the loaded program.
-/
import Derived.Test.YtfldnnpcdjabnaaDoorProg
import Derived.Test.YtfldnnpcdjabnaaDoorMake
set_option linter.unusedVariables false
set_option linter.unusedSimpArgs false
namespace Go.Proofs.YtfldnnpcdjabnaaDoor
open Go
instance : Und Tryd.prog 3 (Go.TypeDesc.int Go.IntKind.i64) := ⟨Tryd.underlying3⟩
instance : Siz Tryd.prog 3 1 := ⟨Tryd.sizeOf3⟩
instance : Sca Tryd.prog 3 := ⟨Tryd.isAgg3⟩
instance : Und Tryd.prog 4 Go.TypeDesc.bool := ⟨Tryd.underlying4⟩
instance : Siz Tryd.prog 4 1 := ⟨Tryd.sizeOf4⟩
instance : Sca Tryd.prog 4 := ⟨Tryd.isAgg4⟩
instance : Und Tryd.prog 5 (Go.TypeDesc.int Go.IntKind.u8) := ⟨Tryd.underlying5⟩
instance : Siz Tryd.prog 5 1 := ⟨Tryd.sizeOf5⟩
instance : Sca Tryd.prog 5 := ⟨Tryd.isAgg5⟩
instance : Und Tryd.prog 6 (Go.TypeDesc.int Go.IntKind.u8) := ⟨Tryd.underlying6⟩
instance : Siz Tryd.prog 6 1 := ⟨Tryd.sizeOf6⟩
instance : Sca Tryd.prog 6 := ⟨Tryd.isAgg6⟩
instance : Und Tryd.prog 7 (Go.TypeDesc.struct #[(Go.Field.mk "x" 2 0 Bool.false "" "runtime" 0), (Go.Field.mk "y" 3 1 Bool.false "" "runtime" 8), (Go.Field.mk "signed" 4 2 Bool.false "" "runtime" 16), (Go.Field.mk "code" 6 3 Bool.false "" "runtime" 17)]) := ⟨Tryd.underlying7⟩
instance : Siz Tryd.prog 7 4 := ⟨Tryd.sizeOf7⟩
instance : Agg Tryd.prog 7 := ⟨Tryd.isAgg7⟩
instance : Und Tryd.prog 8 (Go.TypeDesc.struct #[(Go.Field.mk "x" 2 0 Bool.false "" "runtime" 0), (Go.Field.mk "y" 3 1 Bool.false "" "runtime" 8), (Go.Field.mk "signed" 4 2 Bool.false "" "runtime" 16), (Go.Field.mk "code" 6 3 Bool.false "" "runtime" 17)]) := ⟨Tryd.underlying8⟩
instance : Siz Tryd.prog 8 4 := ⟨Tryd.sizeOf8⟩
instance : Agg Tryd.prog 8 := ⟨Tryd.isAgg8⟩
instance : Und Tryd.prog 9 Go.TypeDesc.string := ⟨Tryd.underlying9⟩
instance : Siz Tryd.prog 9 1 := ⟨Tryd.sizeOf9⟩
instance : Sca Tryd.prog 9 := ⟨Tryd.isAgg9⟩
instance : Und Tryd.prog 23 (Go.TypeDesc.func #[3, 3] #[3] Bool.false) := ⟨Tryd.underlying23⟩
instance : Siz Tryd.prog 23 1 := ⟨Tryd.sizeOf23⟩
instance : Sca Tryd.prog 23 := ⟨Tryd.isAgg23⟩
instance : Und Tryd.prog 24 (Go.TypeDesc.pointer 56) := ⟨Tryd.underlying24⟩
instance : Siz Tryd.prog 24 1 := ⟨Tryd.sizeOf24⟩
instance : Sca Tryd.prog 24 := ⟨Tryd.isAgg24⟩
instance : Und Tryd.prog 26 (Go.TypeDesc.slice 3) := ⟨Tryd.underlying26⟩
instance : Siz Tryd.prog 26 1 := ⟨Tryd.sizeOf26⟩
instance : Sca Tryd.prog 26 := ⟨Tryd.isAgg26⟩
instance : Und Tryd.prog 28 (Go.TypeDesc.struct #[(Go.Field.mk "Restart" 26 0 Bool.false "" "" 0), (Go.Field.mk "Keep" 26 1 Bool.false "" "" 24), (Go.Field.mk "Tie" 26 2 Bool.false "" "" 48), (Go.Field.mk "Sign" 26 3 Bool.false "" "" 72), (Go.Field.mk "Conflicts" 3 4 Bool.false "" "" 96), (Go.Field.mk "Rounds" 3 5 Bool.false "" "" 104)]) := ⟨Tryd.underlying28⟩
instance : Siz Tryd.prog 28 6 := ⟨Tryd.sizeOf28⟩
instance : Agg Tryd.prog 28 := ⟨Tryd.isAgg28⟩
instance : Und Tryd.prog 31 (Go.TypeDesc.interface #[("Error", 141)]) := ⟨Tryd.underlying31⟩
instance : Siz Tryd.prog 31 1 := ⟨Tryd.sizeOf31⟩
instance : Sca Tryd.prog 31 := ⟨Tryd.isAgg31⟩
instance : Und Tryd.prog 35 (Go.TypeDesc.slice 26) := ⟨Tryd.underlying35⟩
instance : Siz Tryd.prog 35 1 := ⟨Tryd.sizeOf35⟩
instance : Sca Tryd.prog 35 := ⟨Tryd.isAgg35⟩
instance : Und Tryd.prog 37 (Go.TypeDesc.struct #[(Go.Field.mk "Vars" 3 0 Bool.false "" "" 0), (Go.Field.mk "Clauses" 35 1 Bool.false "" "" 8)]) := ⟨Tryd.underlying37⟩
instance : Siz Tryd.prog 37 2 := ⟨Tryd.sizeOf37⟩
instance : Agg Tryd.prog 37 := ⟨Tryd.isAgg37⟩
instance : Und Tryd.prog 52 (Go.TypeDesc.pointer 73) := ⟨Tryd.underlying52⟩
instance : Siz Tryd.prog 52 1 := ⟨Tryd.sizeOf52⟩
instance : Sca Tryd.prog 52 := ⟨Tryd.isAgg52⟩
instance : Und Tryd.prog 54 (Go.TypeDesc.pointer 79) := ⟨Tryd.underlying54⟩
instance : Siz Tryd.prog 54 1 := ⟨Tryd.sizeOf54⟩
instance : Sca Tryd.prog 54 := ⟨Tryd.isAgg54⟩
instance : Und Tryd.prog 56 (Go.TypeDesc.struct #[(Go.Field.mk "e" 54 0 Bool.false "" "skolem/incr" 0), (Go.Field.mk "all" 37 1 Bool.false "" "skolem/incr" 8), (Go.Field.mk "many" 3 3 Bool.false "" "skolem/incr" 40)]) := ⟨Tryd.underlying56⟩
instance : Siz Tryd.prog 56 4 := ⟨Tryd.sizeOf56⟩
instance : Agg Tryd.prog 56 := ⟨Tryd.isAgg56⟩
instance : Und Tryd.prog 61 (Go.TypeDesc.struct #[(Go.Field.mk "Code" 3 0 Bool.false "" "" 0), (Go.Field.mk "Placed" 4 1 Bool.false "" "" 8), (Go.Field.mk "Pos" 3 2 Bool.false "" "" 16)]) := ⟨Tryd.underlying61⟩
instance : Siz Tryd.prog 61 3 := ⟨Tryd.sizeOf61⟩
instance : Agg Tryd.prog 61 := ⟨Tryd.isAgg61⟩
instance : Und Tryd.prog 69 (Go.TypeDesc.struct #[(Go.Field.mk "l" 26 0 Bool.false "" "skolem/pace" 0), (Go.Field.mk "k" 3 1 Bool.false "" "skolem/pace" 24)]) := ⟨Tryd.underlying69⟩
instance : Siz Tryd.prog 69 2 := ⟨Tryd.sizeOf69⟩
instance : Agg Tryd.prog 69 := ⟨Tryd.isAgg69⟩
instance : Und Tryd.prog 73 (Go.TypeDesc.struct #[(Go.Field.mk "restart" 69 0 Bool.false "" "skolem/pace" 0), (Go.Field.mk "keep" 69 2 Bool.false "" "skolem/pace" 32), (Go.Field.mk "tie" 69 4 Bool.false "" "skolem/pace" 64), (Go.Field.mk "sign" 69 6 Bool.false "" "skolem/pace" 96), (Go.Field.mk "most" 3 8 Bool.false "" "skolem/pace" 128), (Go.Field.mk "came" 3 9 Bool.false "" "skolem/pace" 136), (Go.Field.mk "since" 3 10 Bool.false "" "skolem/pace" 144), (Go.Field.mk "least" 3 11 Bool.false "" "skolem/pace" 152)]) := ⟨Tryd.underlying73⟩
instance : Siz Tryd.prog 73 12 := ⟨Tryd.sizeOf73⟩
instance : Agg Tryd.prog 73 := ⟨Tryd.isAgg73⟩
instance : Und Tryd.prog 74 (Go.TypeDesc.pointer 88) := ⟨Tryd.underlying74⟩
instance : Siz Tryd.prog 74 1 := ⟨Tryd.sizeOf74⟩
instance : Sca Tryd.prog 74 := ⟨Tryd.isAgg74⟩
instance : Und Tryd.prog 75 (Go.TypeDesc.pointer 90) := ⟨Tryd.underlying75⟩
instance : Siz Tryd.prog 75 1 := ⟨Tryd.sizeOf75⟩
instance : Sca Tryd.prog 75 := ⟨Tryd.isAgg75⟩
instance : Und Tryd.prog 76 (Go.TypeDesc.slice 156) := ⟨Tryd.underlying76⟩
instance : Siz Tryd.prog 76 1 := ⟨Tryd.sizeOf76⟩
instance : Sca Tryd.prog 76 := ⟨Tryd.isAgg76⟩
instance : Und Tryd.prog 77 (Go.TypeDesc.slice 158) := ⟨Tryd.underlying77⟩
instance : Siz Tryd.prog 77 1 := ⟨Tryd.sizeOf77⟩
instance : Sca Tryd.prog 77 := ⟨Tryd.isAgg77⟩
instance : Und Tryd.prog 79 (Go.TypeDesc.struct #[(Go.Field.mk "p" 74 0 Bool.false "" "skolem/sat" 0), (Go.Field.mk "h" 75 1 Bool.false "" "skolem/sat" 8), (Go.Field.mk "pace" 52 2 Bool.false "" "skolem/sat" 16), (Go.Field.mk "saved" 26 3 Bool.false "" "skolem/sat" 24), (Go.Field.mk "learnt" 76 4 Bool.false "" "skolem/sat" 48), (Go.Field.mk "log" 77 5 Bool.false "" "skolem/sat" 72), (Go.Field.mk "conflicts" 3 6 Bool.false "" "skolem/sat" 96), (Go.Field.mk "bump" 3 7 Bool.false "" "skolem/sat" 104)]) := ⟨Tryd.underlying79⟩
instance : Siz Tryd.prog 79 8 := ⟨Tryd.sizeOf79⟩
instance : Agg Tryd.prog 79 := ⟨Tryd.isAgg79⟩
instance : Und Tryd.prog 85 (Go.TypeDesc.pointer 105) := ⟨Tryd.underlying85⟩
instance : Siz Tryd.prog 85 1 := ⟨Tryd.sizeOf85⟩
instance : Sca Tryd.prog 85 := ⟨Tryd.isAgg85⟩
instance : Und Tryd.prog 86 (Go.TypeDesc.slice 110) := ⟨Tryd.underlying86⟩
instance : Siz Tryd.prog 86 1 := ⟨Tryd.sizeOf86⟩
instance : Sca Tryd.prog 86 := ⟨Tryd.isAgg86⟩
instance : Und Tryd.prog 88 (Go.TypeDesc.struct #[(Go.Field.mk "a" 85 0 Bool.false "" "skolem/prop" 0), (Go.Field.mk "level" 26 1 Bool.false "" "skolem/prop" 8), (Go.Field.mk "reason" 26 2 Bool.false "" "skolem/prop" 32), (Go.Field.mk "trail" 26 3 Bool.false "" "skolem/prop" 56), (Go.Field.mk "marks" 26 4 Bool.false "" "skolem/prop" 80), (Go.Field.mk "head" 3 5 Bool.false "" "skolem/prop" 104), (Go.Field.mk "c" 86 6 Bool.false "" "skolem/prop" 112), (Go.Field.mk "watch" 35 7 Bool.false "" "skolem/prop" 136), (Go.Field.mk "loose" 26 8 Bool.false "" "skolem/prop" 160)]) := ⟨Tryd.underlying88⟩
instance : Siz Tryd.prog 88 9 := ⟨Tryd.sizeOf88⟩
instance : Agg Tryd.prog 88 := ⟨Tryd.isAgg88⟩
instance : Und Tryd.prog 90 (Go.TypeDesc.struct #[(Go.Field.mk "score" 26 0 Bool.false "" "skolem/heap" 0), (Go.Field.mk "place" 26 1 Bool.false "" "skolem/heap" 24), (Go.Field.mk "h" 26 2 Bool.false "" "skolem/heap" 48)]) := ⟨Tryd.underlying90⟩
instance : Siz Tryd.prog 90 3 := ⟨Tryd.sizeOf90⟩
instance : Agg Tryd.prog 90 := ⟨Tryd.isAgg90⟩
instance : Und Tryd.prog 91 (Go.TypeDesc.func #[3] #[4] Bool.false) := ⟨Tryd.underlying91⟩
instance : Siz Tryd.prog 91 1 := ⟨Tryd.sizeOf91⟩
instance : Sca Tryd.prog 91 := ⟨Tryd.isAgg91⟩
instance : Und Tryd.prog 96 (Go.TypeDesc.pointer 100) := ⟨Tryd.underlying96⟩
instance : Siz Tryd.prog 96 1 := ⟨Tryd.sizeOf96⟩
instance : Sca Tryd.prog 96 := ⟨Tryd.isAgg96⟩
instance : Und Tryd.prog 100 (Go.TypeDesc.struct #[(Go.Field.mk "Pos" 3 0 Bool.false "" "" 0), (Go.Field.mk "Err" 31 1 Bool.false "" "" 8)]) := ⟨Tryd.underlying100⟩
instance : Siz Tryd.prog 100 2 := ⟨Tryd.sizeOf100⟩
instance : Agg Tryd.prog 100 := ⟨Tryd.isAgg100⟩
instance : Und Tryd.prog 103 (Go.TypeDesc.slice 106) := ⟨Tryd.underlying103⟩
instance : Siz Tryd.prog 103 1 := ⟨Tryd.sizeOf103⟩
instance : Sca Tryd.prog 103 := ⟨Tryd.isAgg103⟩
instance : Und Tryd.prog 105 (Go.TypeDesc.struct #[(Go.Field.mk "v" 103 0 Bool.false "" "skolem/assign" 0)]) := ⟨Tryd.underlying105⟩
instance : Siz Tryd.prog 105 1 := ⟨Tryd.sizeOf105⟩
instance : Agg Tryd.prog 105 := ⟨Tryd.isAgg105⟩
instance : Und Tryd.prog 106 (Go.TypeDesc.int Go.IntKind.i8) := ⟨Tryd.underlying106⟩
instance : Siz Tryd.prog 106 1 := ⟨Tryd.sizeOf106⟩
instance : Sca Tryd.prog 106 := ⟨Tryd.isAgg106⟩
instance : Und Tryd.prog 110 (Go.TypeDesc.struct #[(Go.Field.mk "l" 26 0 Bool.false "" "skolem/prop" 0), (Go.Field.mk "there" 4 1 Bool.false "" "skolem/prop" 24), (Go.Field.mk "loose" 4 2 Bool.false "" "skolem/prop" 25)]) := ⟨Tryd.underlying110⟩
instance : Siz Tryd.prog 110 3 := ⟨Tryd.sizeOf110⟩
instance : Agg Tryd.prog 110 := ⟨Tryd.isAgg110⟩
instance : Und Tryd.prog 111 (Go.TypeDesc.slice 31) := ⟨Tryd.underlying111⟩
instance : Siz Tryd.prog 111 1 := ⟨Tryd.sizeOf111⟩
instance : Sca Tryd.prog 111 := ⟨Tryd.isAgg111⟩
instance : Und Tryd.prog 118 (Go.TypeDesc.int Go.IntKind.u64) := ⟨Tryd.underlying118⟩
instance : Siz Tryd.prog 118 1 := ⟨Tryd.sizeOf118⟩
instance : Sca Tryd.prog 118 := ⟨Tryd.isAgg118⟩
instance : Und Tryd.prog 121 (Go.TypeDesc.int Go.IntKind.i64) := ⟨Tryd.underlying121⟩
instance : Siz Tryd.prog 121 1 := ⟨Tryd.sizeOf121⟩
instance : Sca Tryd.prog 121 := ⟨Tryd.isAgg121⟩
instance : Und Tryd.prog 128 (Go.TypeDesc.int Go.IntKind.u32) := ⟨Tryd.underlying128⟩
instance : Siz Tryd.prog 128 1 := ⟨Tryd.sizeOf128⟩
instance : Sca Tryd.prog 128 := ⟨Tryd.isAgg128⟩
instance : Und Tryd.prog 130 (Go.TypeDesc.int Go.IntKind.u64) := ⟨Tryd.underlying130⟩
instance : Siz Tryd.prog 130 1 := ⟨Tryd.sizeOf130⟩
instance : Sca Tryd.prog 130 := ⟨Tryd.isAgg130⟩
instance : Und Tryd.prog 131 (Go.TypeDesc.int Go.IntKind.u64) := ⟨Tryd.underlying131⟩
instance : Siz Tryd.prog 131 1 := ⟨Tryd.sizeOf131⟩
instance : Sca Tryd.prog 131 := ⟨Tryd.isAgg131⟩
instance : Und Tryd.prog 135 (Go.TypeDesc.pointer 3) := ⟨Tryd.underlying135⟩
instance : Siz Tryd.prog 135 1 := ⟨Tryd.sizeOf135⟩
instance : Sca Tryd.prog 135 := ⟨Tryd.isAgg135⟩
instance : Und Tryd.prog 140 (Go.TypeDesc.pointer 160) := ⟨Tryd.underlying140⟩
instance : Siz Tryd.prog 140 1 := ⟨Tryd.sizeOf140⟩
instance : Sca Tryd.prog 140 := ⟨Tryd.isAgg140⟩
instance : Und Tryd.prog 160 (Go.TypeDesc.struct #[(Go.Field.mk "s" 9 0 Bool.false "" "errors" 0)]) := ⟨Tryd.underlying160⟩
instance : Siz Tryd.prog 160 1 := ⟨Tryd.sizeOf160⟩
instance : Agg Tryd.prog 160 := ⟨Tryd.isAgg160⟩
instance : FAd Tryd.prog 28 0 0 := FAd.of (f := ⟨"Restart", 26, 0, Bool.false, "", "", 0⟩) Tryd.underlying28 rfl Tryd.sizeOf26 (by decide)
instance : FAd Tryd.prog 28 1 1 := FAd.of (f := ⟨"Keep", 26, 1, Bool.false, "", "", 24⟩) Tryd.underlying28 rfl Tryd.sizeOf26 (by decide)
instance : FAd Tryd.prog 28 2 2 := FAd.of (f := ⟨"Tie", 26, 2, Bool.false, "", "", 48⟩) Tryd.underlying28 rfl Tryd.sizeOf26 (by decide)
instance : FAd Tryd.prog 28 3 3 := FAd.of (f := ⟨"Sign", 26, 3, Bool.false, "", "", 72⟩) Tryd.underlying28 rfl Tryd.sizeOf26 (by decide)
instance : FAd Tryd.prog 28 4 4 := FAd.of (f := ⟨"Conflicts", 3, 4, Bool.false, "", "", 96⟩) Tryd.underlying28 rfl Tryd.sizeOf3 (by decide)
instance : FAd Tryd.prog 28 5 5 := FAd.of (f := ⟨"Rounds", 3, 5, Bool.false, "", "", 104⟩) Tryd.underlying28 rfl Tryd.sizeOf3 (by decide)
instance : FAd Tryd.prog 37 0 0 := FAd.of (f := ⟨"Vars", 3, 0, Bool.false, "", "", 0⟩) Tryd.underlying37 rfl Tryd.sizeOf3 (by decide)
instance : FAd Tryd.prog 37 1 1 := FAd.of (f := ⟨"Clauses", 35, 1, Bool.false, "", "", 8⟩) Tryd.underlying37 rfl Tryd.sizeOf35 (by decide)
instance : FAd Tryd.prog 56 0 0 := FAd.of (f := ⟨"e", 54, 0, Bool.false, "", "skolem/incr", 0⟩) Tryd.underlying56 rfl Tryd.sizeOf54 (by decide)
instance : FAd Tryd.prog 56 1 1 := FAd.of (f := ⟨"all", 37, 1, Bool.false, "", "skolem/incr", 8⟩) Tryd.underlying56 rfl Tryd.sizeOf37 (by decide)
instance : FAd Tryd.prog 56 2 3 := FAd.of (f := ⟨"many", 3, 3, Bool.false, "", "skolem/incr", 40⟩) Tryd.underlying56 rfl Tryd.sizeOf3 (by decide)
instance : FAd Tryd.prog 61 0 0 := FAd.of (f := ⟨"Code", 3, 0, Bool.false, "", "", 0⟩) Tryd.underlying61 rfl Tryd.sizeOf3 (by decide)
instance : FAd Tryd.prog 61 1 1 := FAd.of (f := ⟨"Placed", 4, 1, Bool.false, "", "", 8⟩) Tryd.underlying61 rfl Tryd.sizeOf4 (by decide)
instance : FAd Tryd.prog 61 2 2 := FAd.of (f := ⟨"Pos", 3, 2, Bool.false, "", "", 16⟩) Tryd.underlying61 rfl Tryd.sizeOf3 (by decide)
instance : FAd Tryd.prog 79 0 0 := FAd.of (f := ⟨"p", 74, 0, Bool.false, "", "skolem/sat", 0⟩) Tryd.underlying79 rfl Tryd.sizeOf74 (by decide)
instance : FAd Tryd.prog 79 1 1 := FAd.of (f := ⟨"h", 75, 1, Bool.false, "", "skolem/sat", 8⟩) Tryd.underlying79 rfl Tryd.sizeOf75 (by decide)
instance : FAd Tryd.prog 79 3 3 := FAd.of (f := ⟨"saved", 26, 3, Bool.false, "", "skolem/sat", 24⟩) Tryd.underlying79 rfl Tryd.sizeOf26 (by decide)
instance : FAd Tryd.prog 88 0 0 := FAd.of (f := ⟨"a", 85, 0, Bool.false, "", "skolem/prop", 0⟩) Tryd.underlying88 rfl Tryd.sizeOf85 (by decide)
instance : FAd Tryd.prog 88 1 1 := FAd.of (f := ⟨"level", 26, 1, Bool.false, "", "skolem/prop", 8⟩) Tryd.underlying88 rfl Tryd.sizeOf26 (by decide)
instance : FAd Tryd.prog 88 2 2 := FAd.of (f := ⟨"reason", 26, 2, Bool.false, "", "skolem/prop", 32⟩) Tryd.underlying88 rfl Tryd.sizeOf26 (by decide)
instance : FAd Tryd.prog 88 6 6 := FAd.of (f := ⟨"c", 86, 6, Bool.false, "", "skolem/prop", 112⟩) Tryd.underlying88 rfl Tryd.sizeOf86 (by decide)
instance : FAd Tryd.prog 88 7 7 := FAd.of (f := ⟨"watch", 35, 7, Bool.false, "", "skolem/prop", 136⟩) Tryd.underlying88 rfl Tryd.sizeOf35 (by decide)
instance : FAd Tryd.prog 88 8 8 := FAd.of (f := ⟨"loose", 26, 8, Bool.false, "", "skolem/prop", 160⟩) Tryd.underlying88 rfl Tryd.sizeOf26 (by decide)
instance : FAd Tryd.prog 90 0 0 := FAd.of (f := ⟨"score", 26, 0, Bool.false, "", "skolem/heap", 0⟩) Tryd.underlying90 rfl Tryd.sizeOf26 (by decide)
instance : FAd Tryd.prog 90 1 1 := FAd.of (f := ⟨"place", 26, 1, Bool.false, "", "skolem/heap", 24⟩) Tryd.underlying90 rfl Tryd.sizeOf26 (by decide)
instance : FAd Tryd.prog 90 2 2 := FAd.of (f := ⟨"h", 26, 2, Bool.false, "", "skolem/heap", 48⟩) Tryd.underlying90 rfl Tryd.sizeOf26 (by decide)
instance : FAd Tryd.prog 100 0 0 := FAd.of (f := ⟨"Pos", 3, 0, Bool.false, "", "", 0⟩) Tryd.underlying100 rfl Tryd.sizeOf3 (by decide)
instance : FAd Tryd.prog 100 1 1 := FAd.of (f := ⟨"Err", 31, 1, Bool.false, "", "", 8⟩) Tryd.underlying100 rfl Tryd.sizeOf31 (by decide)
instance : FAd Tryd.prog 105 0 0 := FAd.of (f := ⟨"v", 103, 0, Bool.false, "", "skolem/assign", 0⟩) Tryd.underlying105 rfl Tryd.sizeOf103 (by decide)
instance : FAd Tryd.prog 110 2 2 := FAd.of (f := ⟨"loose", 4, 2, Bool.false, "", "skolem/prop", 25⟩) Tryd.underlying110 rfl Tryd.sizeOf4 (by decide)
instance bld28_  : Bld Tryd.prog 28 [] [nilS.v, nilS.v, nilS.v, nilS.v, (.int .i64 0), (.int .i64 0)] := ⟨fun w => run_build w 28 _ _ (by
  have e : Program.built Tryd.prog 28 [] = Instr.fill ((#[(0, 1), (1, 1), (2, 1), (3, 1), (4, 1), (5, 1)] : Array (Nat × Nat))[·]?) #[nilS.v, nilS.v, nilS.v, nilS.v, (.int .i64 0), (.int .i64 0)] [] := by kernel_rfl
  rw [show ([] : List (Nat × Value)).toArray.toList = [] from rfl, e]; simp [Instr.fill, cells_agg, nilS_v])⟩
instance bld37_0_1 (x0 : Value) [h0 : One x0] (x1 : Value) [h1 : One x1] : Bld Tryd.prog 37 [(0, x0), (1, x1)] [x0, x1] := ⟨fun w => run_build w 37 _ _ (by
  have e : Program.built Tryd.prog 37 [(0, x0), (1, x1)] = Instr.fill ((#[(0, 1), (1, 1)] : Array (Nat × Nat))[·]?) #[(.int .i64 0), nilS.v] [(0, x0), (1, x1)] := by kernel_rfl
  rw [show ([(0, x0), (1, x1)] : List (Nat × Value)).toArray.toList = [(0, x0), (1, x1)] from rfl, e]; simp [Instr.fill, cells_agg, nilS_v, h0.h, h1.h])⟩
instance bld56_0 (x0 : Value) [h0 : One x0] : Bld Tryd.prog 56 [(0, x0)] [x0, (.int .i64 0), nilS.v, (.int .i64 0)] := ⟨fun w => run_build w 56 _ _ (by
  have e : Program.built Tryd.prog 56 [(0, x0)] = Instr.fill ((#[(0, 1), (1, 2), (3, 1)] : Array (Nat × Nat))[·]?) #[(.pointer none), (.int .i64 0), nilS.v, (.int .i64 0)] [(0, x0)] := by kernel_rfl
  rw [show ([(0, x0)] : List (Nat × Value)).toArray.toList = [(0, x0)] from rfl, e]; simp [Instr.fill, cells_agg, nilS_v, h0.h])⟩
instance bld61_  : Bld Tryd.prog 61 [] [(.int .i64 0), (.bool false), (.int .i64 0)] := ⟨fun w => run_build w 61 _ _ (by
  have e : Program.built Tryd.prog 61 [] = Instr.fill ((#[(0, 1), (1, 1), (2, 1)] : Array (Nat × Nat))[·]?) #[(.int .i64 0), (.bool false), (.int .i64 0)] [] := by kernel_rfl
  rw [show ([] : List (Nat × Value)).toArray.toList = [] from rfl, e]; simp [Instr.fill, cells_agg, nilS_v])⟩
instance bld61_0 (x0 : Value) [h0 : One x0] : Bld Tryd.prog 61 [(0, x0)] [x0, (.bool false), (.int .i64 0)] := ⟨fun w => run_build w 61 _ _ (by
  have e : Program.built Tryd.prog 61 [(0, x0)] = Instr.fill ((#[(0, 1), (1, 1), (2, 1)] : Array (Nat × Nat))[·]?) #[(.int .i64 0), (.bool false), (.int .i64 0)] [(0, x0)] := by kernel_rfl
  rw [show ([(0, x0)] : List (Nat × Value)).toArray.toList = [(0, x0)] from rfl, e]; simp [Instr.fill, cells_agg, nilS_v, h0.h])⟩
instance bld61_0_1_2 (x0 : Value) [h0 : One x0] (x1 : Value) [h1 : One x1] (x2 : Value) [h2 : One x2] : Bld Tryd.prog 61 [(0, x0), (1, x1), (2, x2)] [x0, x1, x2] := ⟨fun w => run_build w 61 _ _ (by
  have e : Program.built Tryd.prog 61 [(0, x0), (1, x1), (2, x2)] = Instr.fill ((#[(0, 1), (1, 1), (2, 1)] : Array (Nat × Nat))[·]?) #[(.int .i64 0), (.bool false), (.int .i64 0)] [(0, x0), (1, x1), (2, x2)] := by kernel_rfl
  rw [show ([(0, x0), (1, x1), (2, x2)] : List (Nat × Value)).toArray.toList = [(0, x0), (1, x1), (2, x2)] from rfl, e]; simp [Instr.fill, cells_agg, nilS_v, h0.h, h1.h, h2.h])⟩
instance bld69_0 (x0 : Value) [h0 : One x0] : Bld Tryd.prog 69 [(0, x0)] [x0, (.int .i64 0)] := ⟨fun w => run_build w 69 _ _ (by
  have e : Program.built Tryd.prog 69 [(0, x0)] = Instr.fill ((#[(0, 1), (1, 1)] : Array (Nat × Nat))[·]?) #[nilS.v, (.int .i64 0)] [(0, x0)] := by kernel_rfl
  rw [show ([(0, x0)] : List (Nat × Value)).toArray.toList = [(0, x0)] from rfl, e]; simp [Instr.fill, cells_agg, nilS_v, h0.h])⟩
instance bld73_0_1_2_3_4_7 (x0_0 x0_1 : Value) (x1_0 x1_1 : Value) (x2_0 x2_1 : Value) (x3_0 x3_1 : Value) (x4 : Value) [h4 : One x4] (x7 : Value) [h7 : One x7] : Bld Tryd.prog 73 [(0, .agg #[x0_0, x0_1]), (1, .agg #[x1_0, x1_1]), (2, .agg #[x2_0, x2_1]), (3, .agg #[x3_0, x3_1]), (4, x4), (7, x7)] [x0_0, x0_1, x1_0, x1_1, x2_0, x2_1, x3_0, x3_1, x4, (.int .i64 0), (.int .i64 0), x7] := ⟨fun w => run_build w 73 _ _ (by
  have e : Program.built Tryd.prog 73 [(0, .agg #[x0_0, x0_1]), (1, .agg #[x1_0, x1_1]), (2, .agg #[x2_0, x2_1]), (3, .agg #[x3_0, x3_1]), (4, x4), (7, x7)] = Instr.fill ((#[(0, 2), (2, 2), (4, 2), (6, 2), (8, 1), (9, 1), (10, 1), (11, 1)] : Array (Nat × Nat))[·]?) #[nilS.v, (.int .i64 0), nilS.v, (.int .i64 0), nilS.v, (.int .i64 0), nilS.v, (.int .i64 0), (.int .i64 0), (.int .i64 0), (.int .i64 0), (.int .i64 0)] [(0, .agg #[x0_0, x0_1]), (1, .agg #[x1_0, x1_1]), (2, .agg #[x2_0, x2_1]), (3, .agg #[x3_0, x3_1]), (4, x4), (7, x7)] := by kernel_rfl
  rw [show ([(0, .agg #[x0_0, x0_1]), (1, .agg #[x1_0, x1_1]), (2, .agg #[x2_0, x2_1]), (3, .agg #[x3_0, x3_1]), (4, x4), (7, x7)] : List (Nat × Value)).toArray.toList = [(0, .agg #[x0_0, x0_1]), (1, .agg #[x1_0, x1_1]), (2, .agg #[x2_0, x2_1]), (3, .agg #[x3_0, x3_1]), (4, x4), (7, x7)] from rfl, e]; simp [Instr.fill, cells_agg, nilS_v, h4.h, h7.h])⟩
instance bld79_0_1_2_7 (x0 : Value) [h0 : One x0] (x1 : Value) [h1 : One x1] (x2 : Value) [h2 : One x2] (x7 : Value) [h7 : One x7] : Bld Tryd.prog 79 [(0, x0), (1, x1), (2, x2), (7, x7)] [x0, x1, x2, nilS.v, nilS.v, nilS.v, (.int .i64 0), x7] := ⟨fun w => run_build w 79 _ _ (by
  have e : Program.built Tryd.prog 79 [(0, x0), (1, x1), (2, x2), (7, x7)] = Instr.fill ((#[(0, 1), (1, 1), (2, 1), (3, 1), (4, 1), (5, 1), (6, 1), (7, 1)] : Array (Nat × Nat))[·]?) #[(.pointer none), (.pointer none), (.pointer none), nilS.v, nilS.v, nilS.v, (.int .i64 0), (.int .i64 0)] [(0, x0), (1, x1), (2, x2), (7, x7)] := by kernel_rfl
  rw [show ([(0, x0), (1, x1), (2, x2), (7, x7)] : List (Nat × Value)).toArray.toList = [(0, x0), (1, x1), (2, x2), (7, x7)] from rfl, e]; simp [Instr.fill, cells_agg, nilS_v, h0.h, h1.h, h2.h, h7.h])⟩
instance bld88_0_1_2_7 (x0 : Value) [h0 : One x0] (x1 : Value) [h1 : One x1] (x2 : Value) [h2 : One x2] (x7 : Value) [h7 : One x7] : Bld Tryd.prog 88 [(0, x0), (1, x1), (2, x2), (7, x7)] [x0, x1, x2, nilS.v, nilS.v, (.int .i64 0), nilS.v, x7, nilS.v] := ⟨fun w => run_build w 88 _ _ (by
  have e : Program.built Tryd.prog 88 [(0, x0), (1, x1), (2, x2), (7, x7)] = Instr.fill ((#[(0, 1), (1, 1), (2, 1), (3, 1), (4, 1), (5, 1), (6, 1), (7, 1), (8, 1)] : Array (Nat × Nat))[·]?) #[(.pointer none), nilS.v, nilS.v, nilS.v, nilS.v, (.int .i64 0), nilS.v, nilS.v, nilS.v] [(0, x0), (1, x1), (2, x2), (7, x7)] := by kernel_rfl
  rw [show ([(0, x0), (1, x1), (2, x2), (7, x7)] : List (Nat × Value)).toArray.toList = [(0, x0), (1, x1), (2, x2), (7, x7)] from rfl, e]; simp [Instr.fill, cells_agg, nilS_v, h0.h, h1.h, h2.h, h7.h])⟩
instance bld90_0_1 (x0 : Value) [h0 : One x0] (x1 : Value) [h1 : One x1] : Bld Tryd.prog 90 [(0, x0), (1, x1)] [x0, x1, nilS.v] := ⟨fun w => run_build w 90 _ _ (by
  have e : Program.built Tryd.prog 90 [(0, x0), (1, x1)] = Instr.fill ((#[(0, 1), (1, 1), (2, 1)] : Array (Nat × Nat))[·]?) #[nilS.v, nilS.v, nilS.v] [(0, x0), (1, x1)] := by kernel_rfl
  rw [show ([(0, x0), (1, x1)] : List (Nat × Value)).toArray.toList = [(0, x0), (1, x1)] from rfl, e]; simp [Instr.fill, cells_agg, nilS_v, h0.h, h1.h])⟩
instance bld105_0 (x0 : Value) [h0 : One x0] : Bld Tryd.prog 105 [(0, x0)] [x0] := ⟨fun w => run_build w 105 _ _ (by
  have e : Program.built Tryd.prog 105 [(0, x0)] = Instr.fill ((#[(0, 1)] : Array (Nat × Nat))[·]?) #[nilS.v] [(0, x0)] := by kernel_rfl
  rw [show ([(0, x0)] : List (Nat × Value)).toArray.toList = [(0, x0)] from rfl, e]; simp [Instr.fill, cells_agg, nilS_v, h0.h])⟩
instance bld110_0_1 (x0 : Value) [h0 : One x0] (x1 : Value) [h1 : One x1] : Bld Tryd.prog 110 [(0, x0), (1, x1)] [x0, x1, (.bool false)] := ⟨fun w => run_build w 110 _ _ (by
  have e : Program.built Tryd.prog 110 [(0, x0), (1, x1)] = Instr.fill ((#[(0, 1), (1, 1), (2, 1)] : Array (Nat × Nat))[·]?) #[nilS.v, (.bool false), (.bool false)] [(0, x0), (1, x1)] := by kernel_rfl
  rw [show ([(0, x0), (1, x1)] : List (Nat × Value)).toArray.toList = [(0, x0), (1, x1)] from rfl, e]; simp [Instr.fill, cells_agg, nilS_v, h0.h, h1.h])⟩
instance bld160_0 (x0 : Value) [h0 : One x0] : Bld Tryd.prog 160 [(0, x0)] [x0] := ⟨fun w => run_build w 160 _ _ (by
  have e : Program.built Tryd.prog 160 [(0, x0)] = Instr.fill ((#[(0, 1)] : Array (Nat × Nat))[·]?) #[(.string (ByteArray.mk #[]))] [(0, x0)] := by kernel_rfl
  rw [show ([(0, x0)] : List (Nat × Value)).toArray.toList = [(0, x0)] from rfl, e]; simp [Instr.fill, cells_agg, nilS_v, h0.h])⟩
instance : CallOk Tryd.prog 3 := ⟨Tryd.call3⟩
instance : CallOk Tryd.prog 4 := ⟨Tryd.call4⟩
instance : CallOk Tryd.prog 5 := ⟨Tryd.call5⟩
instance : CallOk Tryd.prog 6 := ⟨Tryd.call6⟩
instance : CallOk Tryd.prog 7 := ⟨Tryd.call7⟩
instance : CallOk Tryd.prog 8 := ⟨Tryd.call8⟩
instance : CallOk Tryd.prog 9 := ⟨Tryd.call9⟩
instance : CallOk Tryd.prog 10 := ⟨Tryd.call10⟩
instance : CallOk Tryd.prog 11 := ⟨Tryd.call11⟩
instance : CallOk Tryd.prog 12 := ⟨Tryd.call12⟩
instance : CallOk Tryd.prog 13 := ⟨Tryd.call13⟩
instance : CallOk Tryd.prog 14 := ⟨Tryd.call14⟩
instance : CallOk Tryd.prog 15 := ⟨Tryd.call15⟩
instance : CallOk Tryd.prog 16 := ⟨Tryd.call16⟩
instance : CallOk Tryd.prog 17 := ⟨Tryd.call17⟩
instance : CallOk Tryd.prog 18 := ⟨Tryd.call18⟩
instance : CallOk Tryd.prog 19 := ⟨Tryd.call19⟩
instance : CallOk Tryd.prog 20 := ⟨Tryd.call20⟩
instance : CallOk Tryd.prog 21 := ⟨Tryd.call21⟩
instance : CallOk Tryd.prog 22 := ⟨Tryd.call22⟩
instance : CallOk Tryd.prog 23 := ⟨Tryd.call23⟩
instance : CallOk Tryd.prog 24 := ⟨Tryd.call24⟩
instance : CallOk Tryd.prog 25 := ⟨Tryd.call25⟩
instance : CallOk Tryd.prog 26 := ⟨Tryd.call26⟩
instance : CallOk Tryd.prog 27 := ⟨Tryd.call27⟩
instance : CallOk Tryd.prog 28 := ⟨Tryd.call28⟩
instance : CallOk Tryd.prog 29 := ⟨Tryd.call29⟩
instance : CallOk Tryd.prog 30 := ⟨Tryd.call30⟩
instance : CallOk Tryd.prog 31 := ⟨Tryd.call31⟩
instance : CallOk Tryd.prog 32 := ⟨Tryd.call32⟩
instance : CallOk Tryd.prog 33 := ⟨Tryd.call33⟩
instance : CallOk Tryd.prog 34 := ⟨Tryd.call34⟩
instance : CallOk Tryd.prog 35 := ⟨Tryd.call35⟩
instance : CallOk Tryd.prog 36 := ⟨Tryd.call36⟩
instance : CallOk Tryd.prog 37 := ⟨Tryd.call37⟩
instance : CallOk Tryd.prog 38 := ⟨Tryd.call38⟩
instance : CallOk Tryd.prog 39 := ⟨Tryd.call39⟩
instance : CallOk Tryd.prog 40 := ⟨Tryd.call40⟩
instance : CallOk Tryd.prog 41 := ⟨Tryd.call41⟩
instance : CallOk Tryd.prog 42 := ⟨Tryd.call42⟩
instance : CallOk Tryd.prog 43 := ⟨Tryd.call43⟩
instance : CallOk Tryd.prog 44 := ⟨Tryd.call44⟩
instance : CallOk Tryd.prog 45 := ⟨Tryd.call45⟩
instance : CallOk Tryd.prog 46 := ⟨Tryd.call46⟩
instance : CallOk Tryd.prog 47 := ⟨Tryd.call47⟩
instance : CallOk Tryd.prog 48 := ⟨Tryd.call48⟩
instance : CallOk Tryd.prog 49 := ⟨Tryd.call49⟩
instance : CallOk Tryd.prog 50 := ⟨Tryd.call50⟩
instance : CallOk Tryd.prog 51 := ⟨Tryd.call51⟩
instance : CallOk Tryd.prog 52 := ⟨Tryd.call52⟩
instance : CallOk Tryd.prog 53 := ⟨Tryd.call53⟩
instance : CallOk Tryd.prog 54 := ⟨Tryd.call54⟩
instance : CallOk Tryd.prog 55 := ⟨Tryd.call55⟩
instance : CallOk Tryd.prog 56 := ⟨Tryd.call56⟩
instance : CallOk Tryd.prog 57 := ⟨Tryd.call57⟩
instance : CallOk Tryd.prog 58 := ⟨Tryd.call58⟩
instance : CallOk Tryd.prog 59 := ⟨Tryd.call59⟩
instance : CallOk Tryd.prog 60 := ⟨Tryd.call60⟩
instance : CallOk Tryd.prog 61 := ⟨Tryd.call61⟩
instance : CallOk Tryd.prog 62 := ⟨Tryd.call62⟩
instance : CallOk Tryd.prog 63 := ⟨Tryd.call63⟩
instance : CallOk Tryd.prog 64 := ⟨Tryd.call64⟩
instance : CallOk Tryd.prog 65 := ⟨Tryd.call65⟩
instance : CallOk Tryd.prog 66 := ⟨Tryd.call66⟩
instance : CallOk Tryd.prog 67 := ⟨Tryd.call67⟩
instance : CallOk Tryd.prog 68 := ⟨Tryd.call68⟩
instance : CallOk Tryd.prog 69 := ⟨Tryd.call69⟩
instance : CallOk Tryd.prog 70 := ⟨Tryd.call70⟩
instance : CallOk Tryd.prog 71 := ⟨Tryd.call71⟩
instance : CallOk Tryd.prog 72 := ⟨Tryd.call72⟩
instance : CallOk Tryd.prog 73 := ⟨Tryd.call73⟩
instance : CallOk Tryd.prog 74 := ⟨Tryd.call74⟩
instance : CallOk Tryd.prog 75 := ⟨Tryd.call75⟩
instance : CallOk Tryd.prog 76 := ⟨Tryd.call76⟩
instance : CallOk Tryd.prog 77 := ⟨Tryd.call77⟩
instance : CallOk Tryd.prog 78 := ⟨Tryd.call78⟩
instance : CallOk Tryd.prog 79 := ⟨Tryd.call79⟩
instance : CallOk Tryd.prog 80 := ⟨Tryd.call80⟩
instance : CallOk Tryd.prog 81 := ⟨Tryd.call81⟩
instance : CallOk Tryd.prog 82 := ⟨Tryd.call82⟩
instance : CallOk Tryd.prog 83 := ⟨Tryd.call83⟩
instance : CallOk Tryd.prog 84 := ⟨Tryd.call84⟩
instance : CallOk Tryd.prog 85 := ⟨Tryd.call85⟩
instance : CallOk Tryd.prog 86 := ⟨Tryd.call86⟩
instance : CallOk Tryd.prog 87 := ⟨Tryd.call87⟩
instance : CallOk Tryd.prog 88 := ⟨Tryd.call88⟩
instance : CallOk Tryd.prog 89 := ⟨Tryd.call89⟩
instance : CallOk Tryd.prog 90 := ⟨Tryd.call90⟩
instance : CallOk Tryd.prog 91 := ⟨Tryd.call91⟩
instance : CallOk Tryd.prog 92 := ⟨Tryd.call92⟩
instance : CallOk Tryd.prog 93 := ⟨Tryd.call93⟩
instance : CallOk Tryd.prog 94 := ⟨Tryd.call94⟩
instance : CallOk Tryd.prog 95 := ⟨Tryd.call95⟩
instance : CallOk Tryd.prog 118 := ⟨Tryd.call118⟩
instance : CallOk Tryd.prog 128 := ⟨Tryd.call128⟩
end Go.Proofs.YtfldnnpcdjabnaaDoor
