import Derived.Test.YtgkmdgdkmgkelaaGreatAmV
import Derived.Test.YtgkmdgdkmgkelaaGreatProg
set_option linter.unusedVariables false
set_option maxRecDepth 100000
set_option maxHeartbeats 8000000
namespace Go.Proofs
open Go.AM
def ti2 : TI := ⟨(.int .i64), 1, 8, (.int .i64 0), some (.int .i64)⟩
theorem ti2_ok : ti2.Ok Tryz.prog 2 := TI.ok_of (by kernel_rfl) (by kernel_rfl) (by intro y hy; cases hy <;> exact ⟨rfl, rfl⟩) (by decide)
def ti3 : TI := ⟨(.int .i64), 1, 8, (.int .i64 0), some (.int .i64)⟩
theorem ti3_ok : ti3.Ok Tryz.prog 3 := TI.ok_of (by kernel_rfl) (by kernel_rfl) (by intro y hy; cases hy <;> exact ⟨rfl, rfl⟩) (by decide)
def ti4 : TI := ⟨.bool, 1, 1, (.bool false), some .bool⟩
theorem ti4_ok : ti4.Ok Tryz.prog 4 := TI.ok_of (by kernel_rfl) (by kernel_rfl) (by intro y hy; cases hy <;> exact ⟨rfl, rfl⟩) (by decide)
def ti5 : TI := ⟨(.int .u8), 1, 1, (.int .u8 0), some (.int .u8)⟩
theorem ti5_ok : ti5.Ok Tryz.prog 5 := TI.ok_of (by kernel_rfl) (by kernel_rfl) (by intro y hy; cases hy <;> exact ⟨rfl, rfl⟩) (by decide)
def ti9 : TI := ⟨.string, 1, 16, (.string ⟨#[]⟩), some .str⟩
theorem ti9_ok : ti9.Ok Tryz.prog 9 := TI.ok_of (by kernel_rfl) (by kernel_rfl) (by intro y hy; cases hy <;> exact ⟨rfl, rfl⟩) (by decide)
def ti23 : TI := ⟨(.int .i64), 1, 8, (.int .i64 0), some (.int .i64)⟩
theorem ti23_ok : ti23.Ok Tryz.prog 23 := TI.ok_of (by kernel_rfl) (by kernel_rfl) (by intro y hy; cases hy <;> exact ⟨rfl, rfl⟩) (by decide)
def ti24 : TI := ⟨(.slice 23), 1, 24, (.slice none 0 0), some (.sl (.int .i64))⟩
theorem ti24_ok : ti24.Ok Tryz.prog 24 := TI.ok_of (by kernel_rfl) (by kernel_rfl) (by intro y hy; cases hy <;> exact ⟨rfl, rfl⟩) (by decide)
def ti26 : TI := ⟨(.struct #[⟨"X", 24, 0, false, "", "", 0⟩, ⟨"Y", 24, 1, false, "", "", 24⟩, ⟨"Class", 3, 2, false, "", "", 48⟩]), 3, 56, (.agg #[(.slice none 0 0), (.slice none 0 0), (.int .i64 0)]), some (.p (.sl (.int .i64)) (.p (.sl (.int .i64)) (.int .i64)))⟩
theorem ti26_ok : ti26.Ok Tryz.prog 26 := TI.ok_of (by kernel_rfl) (by kernel_rfl) (by intro y hy; cases hy <;> exact ⟨rfl, rfl⟩) (by decide)
def ti27 : TI := ⟨(.int .i64), 1, 8, (.int .i64 0), some (.int .i64)⟩
theorem ti27_ok : ti27.Ok Tryz.prog 27 := TI.ok_of (by kernel_rfl) (by kernel_rfl) (by intro y hy; cases hy <;> exact ⟨rfl, rfl⟩) (by decide)
def ti30 : TI := ⟨(.slice 3), 1, 24, (.slice none 0 0), some (.sl (.int .i64))⟩
theorem ti30_ok : ti30.Ok Tryz.prog 30 := TI.ok_of (by kernel_rfl) (by kernel_rfl) (by intro y hy; cases hy <;> exact ⟨rfl, rfl⟩) (by decide)
def ti31 : TI := ⟨(.slice 50), 1, 24, (.slice none 0 0), some (.sl (.p .str (.p (.int .i64) (.int .i64))))⟩
theorem ti31_ok : ti31.Ok Tryz.prog 31 := TI.ok_of (by kernel_rfl) (by kernel_rfl) (by intro y hy; cases hy <;> exact ⟨rfl, rfl⟩) (by decide)
def ti33 : TI := ⟨(.struct #[⟨"In", 30, 0, false, "", "", 0⟩, ⟨"Layers", 31, 1, false, "", "", 24⟩]), 2, 48, (.agg #[(.slice none 0 0), (.slice none 0 0)]), some (.p (.sl (.int .i64)) (.sl (.p .str (.p (.int .i64) (.int .i64)))))⟩
theorem ti33_ok : ti33.Ok Tryz.prog 33 := TI.ok_of (by kernel_rfl) (by kernel_rfl) (by intro y hy; cases hy <;> exact ⟨rfl, rfl⟩) (by decide)
def ti35 : TI := ⟨(.slice 40), 1, 24, (.slice none 0 0), some (.sl (.p (.int .i64) (.int .u64)))⟩
theorem ti35_ok : ti35.Ok Tryz.prog 35 := TI.ok_of (by kernel_rfl) (by kernel_rfl) (by intro y hy; cases hy <;> exact ⟨rfl, rfl⟩) (by decide)
def ti38 : TI := ⟨(.int .u64), 1, 8, (.int .u64 0), some (.int .u64)⟩
theorem ti38_ok : ti38.Ok Tryz.prog 38 := TI.ok_of (by kernel_rfl) (by kernel_rfl) (by intro y hy; cases hy <;> exact ⟨rfl, rfl⟩) (by decide)
def ti40 : TI := ⟨(.struct #[⟨"Hi", 2, 0, false, "", "", 0⟩, ⟨"Lo", 38, 1, false, "", "", 8⟩]), 2, 16, (.agg #[(.int .i64 0), (.int .u64 0)]), some (.p (.int .i64) (.int .u64))⟩
theorem ti40_ok : ti40.Ok Tryz.prog 40 := TI.ok_of (by kernel_rfl) (by kernel_rfl) (by intro y hy; cases hy <;> exact ⟨rfl, rfl⟩) (by decide)
def ti44 : TI := ⟨(.struct #[⟨"Step", 23, 0, false, "", "", 0⟩, ⟨"Keep", 23, 1, false, "", "", 8⟩, ⟨"Bound", 23, 2, false, "", "", 16⟩]), 3, 24, (.agg #[(.int .i64 0), (.int .i64 0), (.int .i64 0)]), some (.p (.int .i64) (.p (.int .i64) (.int .i64)))⟩
theorem ti44_ok : ti44.Ok Tryz.prog 44 := TI.ok_of (by kernel_rfl) (by kernel_rfl) (by intro y hy; cases hy <;> exact ⟨rfl, rfl⟩) (by decide)
def ti45 : TI := ⟨(.slice 26), 1, 24, (.slice none 0 0), some (.sl (.p (.sl (.int .i64)) (.p (.sl (.int .i64)) (.int .i64))))⟩
theorem ti45_ok : ti45.Ok Tryz.prog 45 := TI.ok_of (by kernel_rfl) (by kernel_rfl) (by intro y hy; cases hy <;> exact ⟨rfl, rfl⟩) (by decide)
def ti47 : TI := ⟨(.struct #[⟨"Net", 33, 0, false, "", "", 0⟩, ⟨"Kind", 3, 2, false, "", "", 48⟩, ⟨"Batch", 3, 3, false, "", "", 56⟩, ⟨"Rate", 44, 4, false, "", "", 64⟩, ⟨"Data", 45, 7, false, "", "", 88⟩, ⟨"P", 24, 8, false, "", "", 112⟩]), 9, 136, (.agg #[(.slice none 0 0), (.slice none 0 0), (.int .i64 0), (.int .i64 0), (.int .i64 0), (.int .i64 0), (.int .i64 0), (.slice none 0 0), (.slice none 0 0)]), some (.p (.p (.sl (.int .i64)) (.sl (.p .str (.p (.int .i64) (.int .i64))))) (.p (.int .i64) (.p (.int .i64) (.p (.p (.int .i64) (.p (.int .i64) (.int .i64))) (.p (.sl (.p (.sl (.int .i64)) (.p (.sl (.int .i64)) (.int .i64)))) (.sl (.int .i64)))))))⟩
theorem ti47_ok : ti47.Ok Tryz.prog 47 := TI.ok_of (by kernel_rfl) (by kernel_rfl) (by intro y hy; cases hy <;> exact ⟨rfl, rfl⟩) (by decide)
def ti50 : TI := ⟨(.struct #[⟨"Kind", 9, 0, false, "", "", 0⟩, ⟨"A", 3, 1, false, "", "", 16⟩, ⟨"B", 3, 2, false, "", "", 24⟩]), 3, 32, (.agg #[(.string ⟨#[]⟩), (.int .i64 0), (.int .i64 0)]), some (.p .str (.p (.int .i64) (.int .i64)))⟩
theorem ti50_ok : ti50.Ok Tryz.prog 50 := TI.ok_of (by kernel_rfl) (by kernel_rfl) (by intro y hy; cases hy <;> exact ⟨rfl, rfl⟩) (by decide)
def ti51 : TI := ⟨(.pointer 100), 1, 8, (.pointer none), none⟩
theorem ti51_ok : ti51.Ok Tryz.prog 51 := TI.ok_of (by kernel_rfl) (by kernel_rfl) (by intro y hy; cases hy <;> exact ⟨rfl, rfl⟩) (by decide)
def ti55 : TI := ⟨(.struct #[⟨"P", 24, 0, false, "", "", 0⟩, ⟨"M", 24, 1, false, "", "", 24⟩]), 2, 48, (.agg #[(.slice none 0 0), (.slice none 0 0)]), some (.p (.sl (.int .i64)) (.sl (.int .i64)))⟩
theorem ti55_ok : ti55.Ok Tryz.prog 55 := TI.ok_of (by kernel_rfl) (by kernel_rfl) (by intro y hy; cases hy <;> exact ⟨rfl, rfl⟩) (by decide)
def ti65 : TI := ⟨(.pointer 109), 1, 8, (.pointer none), none⟩
theorem ti65_ok : ti65.Ok Tryz.prog 65 := TI.ok_of (by kernel_rfl) (by kernel_rfl) (by intro y hy; cases hy <;> exact ⟨rfl, rfl⟩) (by decide)
def ti71 : TI := ⟨(.slice 75), 1, 24, (.slice none 0 0), some (.sl (.p (.sl (.int .i64)) (.sl (.int .i64))))⟩
theorem ti71_ok : ti71.Ok Tryz.prog 71 := TI.ok_of (by kernel_rfl) (by kernel_rfl) (by intro y hy; cases hy <;> exact ⟨rfl, rfl⟩) (by decide)
def ti75 : TI := ⟨(.struct #[⟨"Dims", 30, 0, false, "", "", 0⟩, ⟨"V", 24, 1, false, "", "", 24⟩]), 2, 48, (.agg #[(.slice none 0 0), (.slice none 0 0)]), some (.p (.sl (.int .i64)) (.sl (.int .i64)))⟩
theorem ti75_ok : ti75.Ok Tryz.prog 75 := TI.ok_of (by kernel_rfl) (by kernel_rfl) (by intro y hy; cases hy <;> exact ⟨rfl, rfl⟩) (by decide)
def ti79 : TI := ⟨(.array 4 38), 4, 32, (.agg #[(.int .u64 0), (.int .u64 0), (.int .u64 0), (.int .u64 0)]), none⟩
theorem ti79_ok : ti79.Ok Tryz.prog 79 := TI.ok_of (by kernel_rfl) (by kernel_rfl) (by intro y hy; cases hy <;> exact ⟨rfl, rfl⟩) (by decide)
def ti81 : TI := ⟨(.struct #[⟨"Neg", 4, 0, false, "", "", 0⟩, ⟨"M", 79, 1, false, "", "", 8⟩]), 5, 40, (.agg #[(.bool false), (.int .u64 0), (.int .u64 0), (.int .u64 0), (.int .u64 0)]), none⟩
theorem ti81_ok : ti81.Ok Tryz.prog 81 := TI.ok_of (by kernel_rfl) (by kernel_rfl) (by intro y hy; cases hy <;> exact ⟨rfl, rfl⟩) (by decide)
def ti87 : TI := ⟨(.struct #[⟨"P", 24, 0, false, "", "", 0⟩, ⟨"M", 24, 1, false, "", "", 24⟩]), 2, 48, (.agg #[(.slice none 0 0), (.slice none 0 0)]), some (.p (.sl (.int .i64)) (.sl (.int .i64)))⟩
theorem ti87_ok : ti87.Ok Tryz.prog 87 := TI.ok_of (by kernel_rfl) (by kernel_rfl) (by intro y hy; cases hy <;> exact ⟨rfl, rfl⟩) (by decide)
def ti89 : TI := ⟨(.slice 176), 1, 24, (.slice none 0 0), some (.sl (.p .str (.p (.int .i64) (.int .i64))))⟩
theorem ti89_ok : ti89.Ok Tryz.prog 89 := TI.ok_of (by kernel_rfl) (by kernel_rfl) (by intro y hy; cases hy <;> exact ⟨rfl, rfl⟩) (by decide)
def ti91 : TI := ⟨(.struct #[⟨"In", 30, 0, false, "", "", 0⟩, ⟨"Layers", 89, 1, false, "", "", 24⟩]), 2, 48, (.agg #[(.slice none 0 0), (.slice none 0 0)]), some (.p (.sl (.int .i64)) (.sl (.p .str (.p (.int .i64) (.int .i64)))))⟩
theorem ti91_ok : ti91.Ok Tryz.prog 91 := TI.ok_of (by kernel_rfl) (by kernel_rfl) (by intro y hy; cases hy <;> exact ⟨rfl, rfl⟩) (by decide)
def ti92 : TI := ⟨(.struct #[⟨"Step", 23, 0, false, "", "", 0⟩, ⟨"Keep", 23, 1, false, "", "", 8⟩, ⟨"Bound", 23, 2, false, "", "", 16⟩]), 3, 24, (.agg #[(.int .i64 0), (.int .i64 0), (.int .i64 0)]), some (.p (.int .i64) (.p (.int .i64) (.int .i64)))⟩
theorem ti92_ok : ti92.Ok Tryz.prog 92 := TI.ok_of (by kernel_rfl) (by kernel_rfl) (by intro y hy; cases hy <;> exact ⟨rfl, rfl⟩) (by decide)
def ti93 : TI := ⟨(.slice 147), 1, 24, (.slice none 0 0), some (.sl (.p (.sl (.int .i64)) (.p (.sl (.int .i64)) (.int .i64))))⟩
theorem ti93_ok : ti93.Ok Tryz.prog 93 := TI.ok_of (by kernel_rfl) (by kernel_rfl) (by intro y hy; cases hy <;> exact ⟨rfl, rfl⟩) (by decide)
def ti95 : TI := ⟨(.struct #[⟨"Net", 91, 0, false, "", "", 0⟩, ⟨"Kind", 3, 2, false, "", "", 48⟩, ⟨"Batch", 3, 3, false, "", "", 56⟩, ⟨"Rate", 92, 4, false, "", "", 64⟩, ⟨"Data", 93, 7, false, "", "", 88⟩, ⟨"P", 24, 8, false, "", "", 112⟩]), 9, 136, (.agg #[(.slice none 0 0), (.slice none 0 0), (.int .i64 0), (.int .i64 0), (.int .i64 0), (.int .i64 0), (.int .i64 0), (.slice none 0 0), (.slice none 0 0)]), some (.p (.p (.sl (.int .i64)) (.sl (.p .str (.p (.int .i64) (.int .i64))))) (.p (.int .i64) (.p (.int .i64) (.p (.p (.int .i64) (.p (.int .i64) (.int .i64))) (.p (.sl (.p (.sl (.int .i64)) (.p (.sl (.int .i64)) (.int .i64)))) (.sl (.int .i64)))))))⟩
theorem ti95_ok : ti95.Ok Tryz.prog 95 := TI.ok_of (by kernel_rfl) (by kernel_rfl) (by intro y hy; cases hy <;> exact ⟨rfl, rfl⟩) (by decide)
def ti100 : TI := ⟨(.struct #[⟨"j", 47, 0, false, "", "carousel/solo", 0⟩, ⟨"s", 55, 9, false, "", "carousel/solo", 136⟩, ⟨"steps", 2, 11, false, "", "carousel/solo", 184⟩, ⟨"loss", 40, 12, false, "", "carousel/solo", 192⟩]), 14, 208, (.agg #[(.slice none 0 0), (.slice none 0 0), (.int .i64 0), (.int .i64 0), (.int .i64 0), (.int .i64 0), (.int .i64 0), (.slice none 0 0), (.slice none 0 0), (.slice none 0 0), (.slice none 0 0), (.int .i64 0), (.int .i64 0), (.int .u64 0)]), some (.p (.p (.p (.sl (.int .i64)) (.sl (.p .str (.p (.int .i64) (.int .i64))))) (.p (.int .i64) (.p (.int .i64) (.p (.p (.int .i64) (.p (.int .i64) (.int .i64))) (.p (.sl (.p (.sl (.int .i64)) (.p (.sl (.int .i64)) (.int .i64)))) (.sl (.int .i64))))))) (.p (.p (.sl (.int .i64)) (.sl (.int .i64))) (.p (.int .i64) (.p (.int .i64) (.int .u64)))))⟩
theorem ti100_ok : ti100.Ok Tryz.prog 100 := TI.ok_of (by kernel_rfl) (by kernel_rfl) (by intro y hy; cases hy <;> exact ⟨rfl, rfl⟩) (by decide)
def ti107 : TI := ⟨(.slice 132), 1, 24, (.slice none 0 0), some (.sl (.p (.int .i64) (.p (.int .i64) (.p (.int .i64) (.p (.int .i64) (.p (.sl (.int .i64)) (.sl (.int .i64))))))))⟩
theorem ti107_ok : ti107.Ok Tryz.prog 107 := TI.ok_of (by kernel_rfl) (by kernel_rfl) (by intro y hy; cases hy <;> exact ⟨rfl, rfl⟩) (by decide)
def ti109 : TI := ⟨(.struct #[⟨"l", 107, 0, false, "", "carousel/tape", 0⟩]), 1, 24, (.agg #[(.slice none 0 0)]), some (.p (.sl (.p (.int .i64) (.p (.int .i64) (.p (.int .i64) (.p (.int .i64) (.p (.sl (.int .i64)) (.sl (.int .i64)))))))) .u)⟩
theorem ti109_ok : ti109.Ok Tryz.prog 109 := TI.ok_of (by kernel_rfl) (by kernel_rfl) (by intro y hy; cases hy <;> exact ⟨rfl, rfl⟩) (by decide)
def ti110 : TI := ⟨(.slice 30), 1, 24, (.slice none 0 0), some (.sl (.sl (.int .i64)))⟩
theorem ti110_ok : ti110.Ok Tryz.prog 110 := TI.ok_of (by kernel_rfl) (by kernel_rfl) (by intro y hy; cases hy <;> exact ⟨rfl, rfl⟩) (by decide)
def ti116 : TI := ⟨(.pointer 118), 1, 8, (.pointer none), none⟩
theorem ti116_ok : ti116.Ok Tryz.prog 116 := TI.ok_of (by kernel_rfl) (by kernel_rfl) (by intro y hy; cases hy <;> exact ⟨rfl, rfl⟩) (by decide)
def ti118 : TI := ⟨(.struct #[⟨"t", 65, 0, false, "", "carousel/model", 0⟩, ⟨"e", 27, 1, false, "", "carousel/model", 8⟩, ⟨"p", 24, 2, false, "", "carousel/model", 16⟩, ⟨"leafs", 30, 3, false, "", "carousel/model", 40⟩]), 4, 64, (.agg #[(.pointer none), (.int .i64 0), (.slice none 0 0), (.slice none 0 0)]), none⟩
theorem ti118_ok : ti118.Ok Tryz.prog 118 := TI.ok_of (by kernel_rfl) (by kernel_rfl) (by intro y hy; cases hy <;> exact ⟨rfl, rfl⟩) (by decide)
def ti125 : TI := ⟨(.pointer 128), 1, 8, (.pointer none), none⟩
theorem ti125_ok : ti125.Ok Tryz.prog 125 := TI.ok_of (by kernel_rfl) (by kernel_rfl) (by intro y hy; cases hy <;> exact ⟨rfl, rfl⟩) (by decide)
def ti126 : TI := ⟨(.slice 4), 1, 24, (.slice none 0 0), some (.sl .bool)⟩
theorem ti126_ok : ti126.Ok Tryz.prog 126 := TI.ok_of (by kernel_rfl) (by kernel_rfl) (by intro y hy; cases hy <;> exact ⟨rfl, rfl⟩) (by decide)
def ti128 : TI := ⟨(.struct #[⟨"l", 71, 0, false, "", "carousel/back", 0⟩, ⟨"given", 126, 1, false, "", "carousel/back", 24⟩]), 2, 48, (.agg #[(.slice none 0 0), (.slice none 0 0)]), some (.p (.sl (.p (.sl (.int .i64)) (.sl (.int .i64)))) (.sl .bool))⟩
theorem ti128_ok : ti128.Ok Tryz.prog 128 := TI.ok_of (by kernel_rfl) (by kernel_rfl) (by intro y hy; cases hy <;> exact ⟨rfl, rfl⟩) (by decide)
def ti132 : TI := ⟨(.struct #[⟨"Op", 3, 0, false, "", "", 0⟩, ⟨"A", 3, 1, false, "", "", 8⟩, ⟨"B", 3, 2, false, "", "", 16⟩, ⟨"K", 23, 3, false, "", "", 24⟩, ⟨"T", 75, 4, false, "", "", 32⟩]), 6, 80, (.agg #[(.int .i64 0), (.int .i64 0), (.int .i64 0), (.int .i64 0), (.slice none 0 0), (.slice none 0 0)]), some (.p (.int .i64) (.p (.int .i64) (.p (.int .i64) (.p (.int .i64) (.p (.sl (.int .i64)) (.sl (.int .i64)))))))⟩
theorem ti132_ok : ti132.Ok Tryz.prog 132 := TI.ok_of (by kernel_rfl) (by kernel_rfl) (by intro y hy; cases hy <;> exact ⟨rfl, rfl⟩) (by decide)
def ti147 : TI := ⟨(.struct #[⟨"X", 24, 0, false, "", "", 0⟩, ⟨"Y", 24, 1, false, "", "", 24⟩, ⟨"Class", 3, 2, false, "", "", 48⟩]), 3, 56, (.agg #[(.slice none 0 0), (.slice none 0 0), (.int .i64 0)]), some (.p (.sl (.int .i64)) (.p (.sl (.int .i64)) (.int .i64)))⟩
theorem ti147_ok : ti147.Ok Tryz.prog 147 := TI.ok_of (by kernel_rfl) (by kernel_rfl) (by intro y hy; cases hy <;> exact ⟨rfl, rfl⟩) (by decide)
def ti151 : TI := ⟨(.int .u64), 1, 8, (.int .u64 0), some (.int .u64)⟩
theorem ti151_ok : ti151.Ok Tryz.prog 151 := TI.ok_of (by kernel_rfl) (by kernel_rfl) (by intro y hy; cases hy <;> exact ⟨rfl, rfl⟩) (by decide)
def ti161 : TI := ⟨(.pointer 188), 1, 8, (.pointer none), none⟩
theorem ti161_ok : ti161.Ok Tryz.prog 161 := TI.ok_of (by kernel_rfl) (by kernel_rfl) (by intro y hy; cases hy <;> exact ⟨rfl, rfl⟩) (by decide)
def ti176 : TI := ⟨(.struct #[⟨"Kind", 9, 0, false, "", "", 0⟩, ⟨"A", 3, 1, false, "", "", 16⟩, ⟨"B", 3, 2, false, "", "", 24⟩]), 3, 32, (.agg #[(.string ⟨#[]⟩), (.int .i64 0), (.int .i64 0)]), some (.p .str (.p (.int .i64) (.int .i64)))⟩
theorem ti176_ok : ti176.Ok Tryz.prog 176 := TI.ok_of (by kernel_rfl) (by kernel_rfl) (by intro y hy; cases hy <;> exact ⟨rfl, rfl⟩) (by decide)
def ti188 : TI := ⟨(.struct #[⟨"t", 65, 0, false, "", "carousel/loss", 0⟩, ⟨"was", 3, 1, false, "", "carousel/loss", 8⟩, ⟨"e", 27, 2, false, "", "carousel/loss", 16⟩]), 3, 24, (.agg #[(.pointer none), (.int .i64 0), (.int .i64 0)]), none⟩
theorem ti188_ok : ti188.Ok Tryz.prog 188 := TI.ok_of (by kernel_rfl) (by kernel_rfl) (by intro y hy; cases hy <;> exact ⟨rfl, rfl⟩) (by decide)
def ti213 : TI := ⟨(.int .u32), 1, 4, (.int .u32 0), some (.int .u32)⟩
theorem ti213_ok : ti213.Ok Tryz.prog 213 := TI.ok_of (by kernel_rfl) (by kernel_rfl) (by intro y hy; cases hy <;> exact ⟨rfl, rfl⟩) (by decide)
def ti225 : TI := ⟨(.struct #[⟨"top", 2, 0, false, "", "carousel/wide", 0⟩, ⟨"low", 40, 1, false, "", "carousel/wide", 8⟩]), 3, 24, (.agg #[(.int .i64 0), (.int .i64 0), (.int .u64 0)]), some (.p (.int .i64) (.p (.int .i64) (.int .u64)))⟩
theorem ti225_ok : ti225.Ok Tryz.prog 225 := TI.ok_of (by kernel_rfl) (by kernel_rfl) (by intro y hy; cases hy <;> exact ⟨rfl, rfl⟩) (by decide)
def ti231 : TI := ⟨(.pointer 234), 1, 8, (.pointer none), none⟩
theorem ti231_ok : ti231.Ok Tryz.prog 231 := TI.ok_of (by kernel_rfl) (by kernel_rfl) (by intro y hy; cases hy <;> exact ⟨rfl, rfl⟩) (by decide)
def ti232 : TI := ⟨(.slice 238), 1, 24, (.slice none 0 0), some (.sl (.p (.int .i64) (.p (.int .i64) (.p (.int .i64) (.p (.int .i64) (.p (.sl (.int .i64)) (.sl (.int .i64))))))))⟩
theorem ti232_ok : ti232.Ok Tryz.prog 232 := TI.ok_of (by kernel_rfl) (by kernel_rfl) (by intro y hy; cases hy <;> exact ⟨rfl, rfl⟩) (by decide)
def ti234 : TI := ⟨(.struct #[⟨"L", 232, 0, false, "", "", 0⟩]), 1, 24, (.agg #[(.slice none 0 0)]), some (.p (.sl (.p (.int .i64) (.p (.int .i64) (.p (.int .i64) (.p (.int .i64) (.p (.sl (.int .i64)) (.sl (.int .i64)))))))) .u)⟩
theorem ti234_ok : ti234.Ok Tryz.prog 234 := TI.ok_of (by kernel_rfl) (by kernel_rfl) (by intro y hy; cases hy <;> exact ⟨rfl, rfl⟩) (by decide)
def ti238 : TI := ⟨(.struct #[⟨"Op", 3, 0, false, "", "", 0⟩, ⟨"A", 3, 1, false, "", "", 8⟩, ⟨"B", 3, 2, false, "", "", 16⟩, ⟨"K", 23, 3, false, "", "", 24⟩, ⟨"T", 75, 4, false, "", "", 32⟩]), 6, 80, (.agg #[(.int .i64 0), (.int .i64 0), (.int .i64 0), (.int .i64 0), (.slice none 0 0), (.slice none 0 0)]), some (.p (.int .i64) (.p (.int .i64) (.p (.int .i64) (.p (.int .i64) (.p (.sl (.int .i64)) (.sl (.int .i64)))))))⟩
theorem ti238_ok : ti238.Ok Tryz.prog 238 := TI.ok_of (by kernel_rfl) (by kernel_rfl) (by intro y hy; cases hy <;> exact ⟨rfl, rfl⟩) (by decide)
def ti259 : TI := ⟨(.pointer 225), 1, 8, (.pointer none), none⟩
theorem ti259_ok : ti259.Ok Tryz.prog 259 := TI.ok_of (by kernel_rfl) (by kernel_rfl) (by intro y hy; cases hy <;> exact ⟨rfl, rfl⟩) (by decide)
def ti266 : TI := ⟨(.array 2 38), 2, 16, (.agg #[(.int .u64 0), (.int .u64 0)]), none⟩
theorem ti266_ok : ti266.Ok Tryz.prog 266 := TI.ok_of (by kernel_rfl) (by kernel_rfl) (by intro y hy; cases hy <;> exact ⟨rfl, rfl⟩) (by decide)
def tab : TE := [(2, ti2), (3, ti3), (4, ti4), (5, ti5), (9, ti9), (23, ti23), (24, ti24), (26, ti26), (27, ti27), (30, ti30), (31, ti31), (33, ti33), (35, ti35), (38, ti38), (40, ti40), (44, ti44), (45, ti45), (47, ti47), (50, ti50), (51, ti51), (55, ti55), (65, ti65), (71, ti71), (75, ti75), (79, ti79), (81, ti81), (87, ti87), (89, ti89), (91, ti91), (92, ti92), (93, ti93), (95, ti95), (100, ti100), (107, ti107), (109, ti109), (110, ti110), (116, ti116), (118, ti118), (125, ti125), (126, ti126), (128, ti128), (132, ti132), (147, ti147), (151, ti151), (161, ti161), (176, ti176), (188, ti188), (213, ti213), (225, ti225), (231, ti231), (232, ti232), (234, ti234), (238, ti238), (259, ti259), (266, ti266)]
theorem tab_ok : tab.Ok Tryz.prog := TE.ok_cons ti2_ok (TE.ok_cons ti3_ok (TE.ok_cons ti4_ok (TE.ok_cons ti5_ok (TE.ok_cons ti9_ok (TE.ok_cons ti23_ok (TE.ok_cons ti24_ok (TE.ok_cons ti26_ok (TE.ok_cons ti27_ok (TE.ok_cons ti30_ok (TE.ok_cons ti31_ok (TE.ok_cons ti33_ok (TE.ok_cons ti35_ok (TE.ok_cons ti38_ok (TE.ok_cons ti40_ok (TE.ok_cons ti44_ok (TE.ok_cons ti45_ok (TE.ok_cons ti47_ok (TE.ok_cons ti50_ok (TE.ok_cons ti51_ok (TE.ok_cons ti55_ok (TE.ok_cons ti65_ok (TE.ok_cons ti71_ok (TE.ok_cons ti75_ok (TE.ok_cons ti79_ok (TE.ok_cons ti81_ok (TE.ok_cons ti87_ok (TE.ok_cons ti89_ok (TE.ok_cons ti91_ok (TE.ok_cons ti92_ok (TE.ok_cons ti93_ok (TE.ok_cons ti95_ok (TE.ok_cons ti100_ok (TE.ok_cons ti107_ok (TE.ok_cons ti109_ok (TE.ok_cons ti110_ok (TE.ok_cons ti116_ok (TE.ok_cons ti118_ok (TE.ok_cons ti125_ok (TE.ok_cons ti126_ok (TE.ok_cons ti128_ok (TE.ok_cons ti132_ok (TE.ok_cons ti147_ok (TE.ok_cons ti151_ok (TE.ok_cons ti161_ok (TE.ok_cons ti176_ok (TE.ok_cons ti188_ok (TE.ok_cons ti213_ok (TE.ok_cons ti225_ok (TE.ok_cons ti231_ok (TE.ok_cons ti232_ok (TE.ok_cons ti234_ok (TE.ok_cons ti238_ok (TE.ok_cons ti259_ok (TE.ok_cons ti266_ok (TE.ok_nil _)))))))))))))))))))))))))))))))))))))))))))))))))))))))
theorem mixed : Tryz.prog.follows .mixedOrders = true := by kernel_rfl
theorem add64_ok : ExtI Tryz.prog 56 (ext3 add64) := ext_add64 (fn := Tryz.f56) (by kernel_rfl) (by kernel_rfl) (by kernel_rfl) (by kernel_rfl) (by kernel_rfl)
theorem sub64_ok : ExtI Tryz.prog 196 (ext3 sub64) := ext_sub64 (fn := Tryz.f196) (by kernel_rfl) (by kernel_rfl) (by kernel_rfl) (by kernel_rfl) (by kernel_rfl)
open IntKind (i64 u64 i32 u32 i16 u16 i8 u8)
theorem AI {a b : Prop} (x : a) (y : b) : a ∧ b := ⟨x, y⟩
theorem EI {α : Sort _} {p : α → Prop} (w : α) (h : p w) : ∃ x, p x := ⟨w, h⟩
theorem OL {a b : Prop} (x : a) : a ∨ b := .inl x
theorem OQ {a b : Prop} (x : b) : a ∨ b := .inr x
theorem TV : True := True.intro
theorem E4 {e : Nat} {s : St} {J : Sh} (ρ : Ren) (h : (renB J.nx ρ [] && protB e ρ && Nat.ble e J.nx) = true ∧ Weak ρ s J) : toSh e s J := ⟨[], [], [], [], ρ, h⟩
theorem R2 {A0 : Sort _} {a0 : A0} {A1 : Sort _} {a1 : A1} {p : Prop} (h : p) : a0 = a0 ∧ a1 = a1 ∧ p := ⟨rfl, rfl, h⟩
theorem R3 {A0 : Sort _} {a0 : A0} {A1 : Sort _} {a1 : A1} {A2 : Sort _} {a2 : A2} {p : Prop} (h : p) : a0 = a0 ∧ a1 = a1 ∧ a2 = a2 ∧ p := ⟨rfl, rfl, rfl, h⟩
theorem R4 {A0 : Sort _} {a0 : A0} {A1 : Sort _} {a1 : A1} {A2 : Sort _} {a2 : A2} {A3 : Sort _} {a3 : A3} {p : Prop} (h : p) : a0 = a0 ∧ a1 = a1 ∧ a2 = a2 ∧ a3 = a3 ∧ p := ⟨rfl, rfl, rfl, rfl, h⟩
theorem R5 {A0 : Sort _} {a0 : A0} {A1 : Sort _} {a1 : A1} {A2 : Sort _} {a2 : A2} {A3 : Sort _} {a3 : A3} {A4 : Sort _} {a4 : A4} {p : Prop} (h : p) : a0 = a0 ∧ a1 = a1 ∧ a2 = a2 ∧ a3 = a3 ∧ a4 = a4 ∧ p := ⟨rfl, rfl, rfl, rfl, rfl, h⟩
theorem R6 {A0 : Sort _} {a0 : A0} {A1 : Sort _} {a1 : A1} {A2 : Sort _} {a2 : A2} {A3 : Sort _} {a3 : A3} {A4 : Sort _} {a4 : A4} {A5 : Sort _} {a5 : A5} {p : Prop} (h : p) : a0 = a0 ∧ a1 = a1 ∧ a2 = a2 ∧ a3 = a3 ∧ a4 = a4 ∧ a5 = a5 ∧ p := ⟨rfl, rfl, rfl, rfl, rfl, rfl, h⟩
theorem R7 {A0 : Sort _} {a0 : A0} {A1 : Sort _} {a1 : A1} {A2 : Sort _} {a2 : A2} {A3 : Sort _} {a3 : A3} {A4 : Sort _} {a4 : A4} {A5 : Sort _} {a5 : A5} {A6 : Sort _} {a6 : A6} {p : Prop} (h : p) : a0 = a0 ∧ a1 = a1 ∧ a2 = a2 ∧ a3 = a3 ∧ a4 = a4 ∧ a5 = a5 ∧ a6 = a6 ∧ p := ⟨rfl, rfl, rfl, rfl, rfl, rfl, rfl, h⟩
theorem R8 {A0 : Sort _} {a0 : A0} {A1 : Sort _} {a1 : A1} {A2 : Sort _} {a2 : A2} {A3 : Sort _} {a3 : A3} {A4 : Sort _} {a4 : A4} {A5 : Sort _} {a5 : A5} {A6 : Sort _} {a6 : A6} {A7 : Sort _} {a7 : A7} {p : Prop} (h : p) : a0 = a0 ∧ a1 = a1 ∧ a2 = a2 ∧ a3 = a3 ∧ a4 = a4 ∧ a5 = a5 ∧ a6 = a6 ∧ a7 = a7 ∧ p := ⟨rfl, rfl, rfl, rfl, rfl, rfl, rfl, rfl, h⟩
theorem R9 {A0 : Sort _} {a0 : A0} {A1 : Sort _} {a1 : A1} {A2 : Sort _} {a2 : A2} {A3 : Sort _} {a3 : A3} {A4 : Sort _} {a4 : A4} {A5 : Sort _} {a5 : A5} {A6 : Sort _} {a6 : A6} {A7 : Sort _} {a7 : A7} {A8 : Sort _} {a8 : A8} {p : Prop} (h : p) : a0 = a0 ∧ a1 = a1 ∧ a2 = a2 ∧ a3 = a3 ∧ a4 = a4 ∧ a5 = a5 ∧ a6 = a6 ∧ a7 = a7 ∧ a8 = a8 ∧ p := ⟨rfl, rfl, rfl, rfl, rfl, rfl, rfl, rfl, rfl, h⟩
theorem R10 {A0 : Sort _} {a0 : A0} {A1 : Sort _} {a1 : A1} {A2 : Sort _} {a2 : A2} {A3 : Sort _} {a3 : A3} {A4 : Sort _} {a4 : A4} {A5 : Sort _} {a5 : A5} {A6 : Sort _} {a6 : A6} {A7 : Sort _} {a7 : A7} {A8 : Sort _} {a8 : A8} {A9 : Sort _} {a9 : A9} {p : Prop} (h : p) : a0 = a0 ∧ a1 = a1 ∧ a2 = a2 ∧ a3 = a3 ∧ a4 = a4 ∧ a5 = a5 ∧ a6 = a6 ∧ a7 = a7 ∧ a8 = a8 ∧ a9 = a9 ∧ p := ⟨rfl, rfl, rfl, rfl, rfl, rfl, rfl, rfl, rfl, rfl, h⟩
theorem R11 {A0 : Sort _} {a0 : A0} {A1 : Sort _} {a1 : A1} {A2 : Sort _} {a2 : A2} {A3 : Sort _} {a3 : A3} {A4 : Sort _} {a4 : A4} {A5 : Sort _} {a5 : A5} {A6 : Sort _} {a6 : A6} {A7 : Sort _} {a7 : A7} {A8 : Sort _} {a8 : A8} {A9 : Sort _} {a9 : A9} {A10 : Sort _} {a10 : A10} {p : Prop} (h : p) : a0 = a0 ∧ a1 = a1 ∧ a2 = a2 ∧ a3 = a3 ∧ a4 = a4 ∧ a5 = a5 ∧ a6 = a6 ∧ a7 = a7 ∧ a8 = a8 ∧ a9 = a9 ∧ a10 = a10 ∧ p := ⟨rfl, rfl, rfl, rfl, rfl, rfl, rfl, rfl, rfl, rfl, rfl, h⟩
theorem R12 {A0 : Sort _} {a0 : A0} {A1 : Sort _} {a1 : A1} {A2 : Sort _} {a2 : A2} {A3 : Sort _} {a3 : A3} {A4 : Sort _} {a4 : A4} {A5 : Sort _} {a5 : A5} {A6 : Sort _} {a6 : A6} {A7 : Sort _} {a7 : A7} {A8 : Sort _} {a8 : A8} {A9 : Sort _} {a9 : A9} {A10 : Sort _} {a10 : A10} {A11 : Sort _} {a11 : A11} {p : Prop} (h : p) : a0 = a0 ∧ a1 = a1 ∧ a2 = a2 ∧ a3 = a3 ∧ a4 = a4 ∧ a5 = a5 ∧ a6 = a6 ∧ a7 = a7 ∧ a8 = a8 ∧ a9 = a9 ∧ a10 = a10 ∧ a11 = a11 ∧ p := ⟨rfl, rfl, rfl, rfl, rfl, rfl, rfl, rfl, rfl, rfl, rfl, rfl, h⟩
theorem R13 {A0 : Sort _} {a0 : A0} {A1 : Sort _} {a1 : A1} {A2 : Sort _} {a2 : A2} {A3 : Sort _} {a3 : A3} {A4 : Sort _} {a4 : A4} {A5 : Sort _} {a5 : A5} {A6 : Sort _} {a6 : A6} {A7 : Sort _} {a7 : A7} {A8 : Sort _} {a8 : A8} {A9 : Sort _} {a9 : A9} {A10 : Sort _} {a10 : A10} {A11 : Sort _} {a11 : A11} {A12 : Sort _} {a12 : A12} {p : Prop} (h : p) : a0 = a0 ∧ a1 = a1 ∧ a2 = a2 ∧ a3 = a3 ∧ a4 = a4 ∧ a5 = a5 ∧ a6 = a6 ∧ a7 = a7 ∧ a8 = a8 ∧ a9 = a9 ∧ a10 = a10 ∧ a11 = a11 ∧ a12 = a12 ∧ p := ⟨rfl, rfl, rfl, rfl, rfl, rfl, rfl, rfl, rfl, rfl, rfl, rfl, rfl, h⟩
theorem R14 {A0 : Sort _} {a0 : A0} {A1 : Sort _} {a1 : A1} {A2 : Sort _} {a2 : A2} {A3 : Sort _} {a3 : A3} {A4 : Sort _} {a4 : A4} {A5 : Sort _} {a5 : A5} {A6 : Sort _} {a6 : A6} {A7 : Sort _} {a7 : A7} {A8 : Sort _} {a8 : A8} {A9 : Sort _} {a9 : A9} {A10 : Sort _} {a10 : A10} {A11 : Sort _} {a11 : A11} {A12 : Sort _} {a12 : A12} {A13 : Sort _} {a13 : A13} {p : Prop} (h : p) : a0 = a0 ∧ a1 = a1 ∧ a2 = a2 ∧ a3 = a3 ∧ a4 = a4 ∧ a5 = a5 ∧ a6 = a6 ∧ a7 = a7 ∧ a8 = a8 ∧ a9 = a9 ∧ a10 = a10 ∧ a11 = a11 ∧ a12 = a12 ∧ a13 = a13 ∧ p := ⟨rfl, rfl, rfl, rfl, rfl, rfl, rfl, rfl, rfl, rfl, rfl, rfl, rfl, rfl, h⟩
theorem R15 {A0 : Sort _} {a0 : A0} {A1 : Sort _} {a1 : A1} {A2 : Sort _} {a2 : A2} {A3 : Sort _} {a3 : A3} {A4 : Sort _} {a4 : A4} {A5 : Sort _} {a5 : A5} {A6 : Sort _} {a6 : A6} {A7 : Sort _} {a7 : A7} {A8 : Sort _} {a8 : A8} {A9 : Sort _} {a9 : A9} {A10 : Sort _} {a10 : A10} {A11 : Sort _} {a11 : A11} {A12 : Sort _} {a12 : A12} {A13 : Sort _} {a13 : A13} {A14 : Sort _} {a14 : A14} {p : Prop} (h : p) : a0 = a0 ∧ a1 = a1 ∧ a2 = a2 ∧ a3 = a3 ∧ a4 = a4 ∧ a5 = a5 ∧ a6 = a6 ∧ a7 = a7 ∧ a8 = a8 ∧ a9 = a9 ∧ a10 = a10 ∧ a11 = a11 ∧ a12 = a12 ∧ a13 = a13 ∧ a14 = a14 ∧ p := ⟨rfl, rfl, rfl, rfl, rfl, rfl, rfl, rfl, rfl, rfl, rfl, rfl, rfl, rfl, rfl, h⟩
theorem R16 {A0 : Sort _} {a0 : A0} {A1 : Sort _} {a1 : A1} {A2 : Sort _} {a2 : A2} {A3 : Sort _} {a3 : A3} {A4 : Sort _} {a4 : A4} {A5 : Sort _} {a5 : A5} {A6 : Sort _} {a6 : A6} {A7 : Sort _} {a7 : A7} {A8 : Sort _} {a8 : A8} {A9 : Sort _} {a9 : A9} {A10 : Sort _} {a10 : A10} {A11 : Sort _} {a11 : A11} {A12 : Sort _} {a12 : A12} {A13 : Sort _} {a13 : A13} {A14 : Sort _} {a14 : A14} {A15 : Sort _} {a15 : A15} {p : Prop} (h : p) : a0 = a0 ∧ a1 = a1 ∧ a2 = a2 ∧ a3 = a3 ∧ a4 = a4 ∧ a5 = a5 ∧ a6 = a6 ∧ a7 = a7 ∧ a8 = a8 ∧ a9 = a9 ∧ a10 = a10 ∧ a11 = a11 ∧ a12 = a12 ∧ a13 = a13 ∧ a14 = a14 ∧ a15 = a15 ∧ p := ⟨rfl, rfl, rfl, rfl, rfl, rfl, rfl, rfl, rfl, rfl, rfl, rfl, rfl, rfl, rfl, rfl, h⟩
theorem R17 {A0 : Sort _} {a0 : A0} {A1 : Sort _} {a1 : A1} {A2 : Sort _} {a2 : A2} {A3 : Sort _} {a3 : A3} {A4 : Sort _} {a4 : A4} {A5 : Sort _} {a5 : A5} {A6 : Sort _} {a6 : A6} {A7 : Sort _} {a7 : A7} {A8 : Sort _} {a8 : A8} {A9 : Sort _} {a9 : A9} {A10 : Sort _} {a10 : A10} {A11 : Sort _} {a11 : A11} {A12 : Sort _} {a12 : A12} {A13 : Sort _} {a13 : A13} {A14 : Sort _} {a14 : A14} {A15 : Sort _} {a15 : A15} {A16 : Sort _} {a16 : A16} {p : Prop} (h : p) : a0 = a0 ∧ a1 = a1 ∧ a2 = a2 ∧ a3 = a3 ∧ a4 = a4 ∧ a5 = a5 ∧ a6 = a6 ∧ a7 = a7 ∧ a8 = a8 ∧ a9 = a9 ∧ a10 = a10 ∧ a11 = a11 ∧ a12 = a12 ∧ a13 = a13 ∧ a14 = a14 ∧ a15 = a15 ∧ a16 = a16 ∧ p := ⟨rfl, rfl, rfl, rfl, rfl, rfl, rfl, rfl, rfl, rfl, rfl, rfl, rfl, rfl, rfl, rfl, rfl, h⟩
theorem R18 {A0 : Sort _} {a0 : A0} {A1 : Sort _} {a1 : A1} {A2 : Sort _} {a2 : A2} {A3 : Sort _} {a3 : A3} {A4 : Sort _} {a4 : A4} {A5 : Sort _} {a5 : A5} {A6 : Sort _} {a6 : A6} {A7 : Sort _} {a7 : A7} {A8 : Sort _} {a8 : A8} {A9 : Sort _} {a9 : A9} {A10 : Sort _} {a10 : A10} {A11 : Sort _} {a11 : A11} {A12 : Sort _} {a12 : A12} {A13 : Sort _} {a13 : A13} {A14 : Sort _} {a14 : A14} {A15 : Sort _} {a15 : A15} {A16 : Sort _} {a16 : A16} {A17 : Sort _} {a17 : A17} {p : Prop} (h : p) : a0 = a0 ∧ a1 = a1 ∧ a2 = a2 ∧ a3 = a3 ∧ a4 = a4 ∧ a5 = a5 ∧ a6 = a6 ∧ a7 = a7 ∧ a8 = a8 ∧ a9 = a9 ∧ a10 = a10 ∧ a11 = a11 ∧ a12 = a12 ∧ a13 = a13 ∧ a14 = a14 ∧ a15 = a15 ∧ a16 = a16 ∧ a17 = a17 ∧ p := ⟨rfl, rfl, rfl, rfl, rfl, rfl, rfl, rfl, rfl, rfl, rfl, rfl, rfl, rfl, rfl, rfl, rfl, rfl, h⟩
theorem R19 {A0 : Sort _} {a0 : A0} {A1 : Sort _} {a1 : A1} {A2 : Sort _} {a2 : A2} {A3 : Sort _} {a3 : A3} {A4 : Sort _} {a4 : A4} {A5 : Sort _} {a5 : A5} {A6 : Sort _} {a6 : A6} {A7 : Sort _} {a7 : A7} {A8 : Sort _} {a8 : A8} {A9 : Sort _} {a9 : A9} {A10 : Sort _} {a10 : A10} {A11 : Sort _} {a11 : A11} {A12 : Sort _} {a12 : A12} {A13 : Sort _} {a13 : A13} {A14 : Sort _} {a14 : A14} {A15 : Sort _} {a15 : A15} {A16 : Sort _} {a16 : A16} {A17 : Sort _} {a17 : A17} {A18 : Sort _} {a18 : A18} {p : Prop} (h : p) : a0 = a0 ∧ a1 = a1 ∧ a2 = a2 ∧ a3 = a3 ∧ a4 = a4 ∧ a5 = a5 ∧ a6 = a6 ∧ a7 = a7 ∧ a8 = a8 ∧ a9 = a9 ∧ a10 = a10 ∧ a11 = a11 ∧ a12 = a12 ∧ a13 = a13 ∧ a14 = a14 ∧ a15 = a15 ∧ a16 = a16 ∧ a17 = a17 ∧ a18 = a18 ∧ p := ⟨rfl, rfl, rfl, rfl, rfl, rfl, rfl, rfl, rfl, rfl, rfl, rfl, rfl, rfl, rfl, rfl, rfl, rfl, rfl, h⟩
theorem R20 {A0 : Sort _} {a0 : A0} {A1 : Sort _} {a1 : A1} {A2 : Sort _} {a2 : A2} {A3 : Sort _} {a3 : A3} {A4 : Sort _} {a4 : A4} {A5 : Sort _} {a5 : A5} {A6 : Sort _} {a6 : A6} {A7 : Sort _} {a7 : A7} {A8 : Sort _} {a8 : A8} {A9 : Sort _} {a9 : A9} {A10 : Sort _} {a10 : A10} {A11 : Sort _} {a11 : A11} {A12 : Sort _} {a12 : A12} {A13 : Sort _} {a13 : A13} {A14 : Sort _} {a14 : A14} {A15 : Sort _} {a15 : A15} {A16 : Sort _} {a16 : A16} {A17 : Sort _} {a17 : A17} {A18 : Sort _} {a18 : A18} {A19 : Sort _} {a19 : A19} {p : Prop} (h : p) : a0 = a0 ∧ a1 = a1 ∧ a2 = a2 ∧ a3 = a3 ∧ a4 = a4 ∧ a5 = a5 ∧ a6 = a6 ∧ a7 = a7 ∧ a8 = a8 ∧ a9 = a9 ∧ a10 = a10 ∧ a11 = a11 ∧ a12 = a12 ∧ a13 = a13 ∧ a14 = a14 ∧ a15 = a15 ∧ a16 = a16 ∧ a17 = a17 ∧ a18 = a18 ∧ a19 = a19 ∧ p := ⟨rfl, rfl, rfl, rfl, rfl, rfl, rfl, rfl, rfl, rfl, rfl, rfl, rfl, rfl, rfl, rfl, rfl, rfl, rfl, rfl, h⟩
abbrev InP (n : Nat) : Prop := ∃ fn, Tryz.prog.funcs[n]? = some fn ∧ fn.body.isSome = true ∧ (fn.name == "runtime.NumGoroutine") = false
abbrev VC (f : Func) (C : Con) (x : C.X) (y : C.Y) : Prop := vc Tryz.prog tab f.ntmps 0 (match f.body with | some c => c | none => .skip) (retK tab C f.results.toList y) (C.shIn x).st
abbrev T0 : Ty := .int .i64
abbrev T1 : Ty := .p .str (.p (.int .i64) (.int .i64))
abbrev T2 : Ty := .p (.sl (.int .i64)) (.sl (.p .str (.p (.int .i64) (.int .i64))))
abbrev T3 : Ty := .sl (.p .str (.p (.int .i64) (.int .i64)))
abbrev T4 : Ty := .sl (.int .i64)
abbrev T5 : Ty := .sl (.sl (.int .i64))
abbrev T6 : Ty := .p (.int .i64) (.p (.int .i64) (.p (.int .i64) (.p (.int .i64) (.p (.sl (.int .i64)) (.sl (.int .i64))))))
abbrev T7 : Ty := .p (.sl (.int .i64)) (.sl (.int .i64))
abbrev T8 : Ty := .int .u64
abbrev T9 : Ty := .p (.int .i64) (.int .u64)
abbrev T10 : Ty := .p (.sl (.int .i64)) (.p (.sl (.int .i64)) (.int .i64))
abbrev T11 : Ty := .sl (.p (.sl (.int .i64)) (.p (.sl (.int .i64)) (.int .i64)))
abbrev T12 : Ty := .sl (.p (.int .i64) (.int .u64))
abbrev P0 (a b : Nat) : Pat := .raw false [.ptr a b]
abbrev O0 (a : Nat) : Pat := .raw false [.osl a]
abbrev N0 : CV := .c (.slice none 0 0)
abbrev D0 (x : Int) : Pat := .dat (.int .i64) x
end Go.Proofs
