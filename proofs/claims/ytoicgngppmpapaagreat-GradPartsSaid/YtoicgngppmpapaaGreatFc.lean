import Derived.Test.YtoicgngppmpapaaGreatAmV
import Derived.Test.YtoicgngppmpapaaGreatProg
set_option linter.unusedVariables false
set_option maxRecDepth 100000
set_option maxHeartbeats 8000000
namespace Go.Proofs
open Go.AM
def ti2 : TI := ⟨(.int .i64), 1, 8, (.int .i64 0), some (.int .i64)⟩
theorem ti2_ok : ti2.Ok Tryz.prog 2 := TI.ok_of (by kernel_rfl) (by kernel_rfl) (by intro y hy; cases hy <;> exact ⟨rfl, rfl⟩) (by decide)
def ti3 : TI := ⟨(.int .i64), 1, 8, (.int .i64 0), some (.int .i64)⟩
theorem ti3_ok : ti3.Ok Tryz.prog 3 := TI.ok_of (by kernel_rfl) (by kernel_rfl) (by intro y hy; cases hy <;> exact ⟨rfl, rfl⟩) (by decide)
def ti4 : TI := ⟨.bool, 1, 1, (.bool false), some .bool⟩
theorem ti4_ok : ti4.Ok Tryz.prog 4 := TI.ok_of (by kernel_rfl) (by kernel_rfl) (by intro y hy; cases hy <;> exact ⟨rfl, rfl⟩) (by decide)
def ti5 : TI := ⟨(.int .u8), 1, 1, (.int .u8 0), some (.int .u8)⟩
theorem ti5_ok : ti5.Ok Tryz.prog 5 := TI.ok_of (by kernel_rfl) (by kernel_rfl) (by intro y hy; cases hy <;> exact ⟨rfl, rfl⟩) (by decide)
def ti9 : TI := ⟨.string, 1, 16, (.string ⟨#[]⟩), some .str⟩
theorem ti9_ok : ti9.Ok Tryz.prog 9 := TI.ok_of (by kernel_rfl) (by kernel_rfl) (by intro y hy; cases hy <;> exact ⟨rfl, rfl⟩) (by decide)
def ti22 : TI := ⟨(.slice 40), 1, 24, (.slice none 0 0), some (.sl (.int .i64))⟩
theorem ti22_ok : ti22.Ok Tryz.prog 22 := TI.ok_of (by kernel_rfl) (by kernel_rfl) (by intro y hy; cases hy <;> exact ⟨rfl, rfl⟩) (by decide)
def ti24 : TI := ⟨(.pointer 125), 1, 8, (.pointer none), none⟩
theorem ti24_ok : ti24.Ok Tryz.prog 24 := TI.ok_of (by kernel_rfl) (by kernel_rfl) (by intro y hy; cases hy <;> exact ⟨rfl, rfl⟩) (by decide)
def ti26 : TI := ⟨(.pointer 29), 1, 8, (.pointer none), none⟩
theorem ti26_ok : ti26.Ok Tryz.prog 26 := TI.ok_of (by kernel_rfl) (by kernel_rfl) (by intro y hy; cases hy <;> exact ⟨rfl, rfl⟩) (by decide)
def ti27 : TI := ⟨(.slice 45), 1, 24, (.slice none 0 0), some (.sl (.p (.int .i64) (.p (.int .i64) (.p (.int .i64) (.p (.int .i64) (.p (.sl (.int .i64)) (.sl (.int .i64))))))))⟩
theorem ti27_ok : ti27.Ok Tryz.prog 27 := TI.ok_of (by kernel_rfl) (by kernel_rfl) (by intro y hy; cases hy <;> exact ⟨rfl, rfl⟩) (by decide)
def ti29 : TI := ⟨(.struct #[⟨"L", 27, 0, false, "", "", 0⟩]), 1, 24, (.agg #[(.slice none 0 0)]), some (.p (.sl (.p (.int .i64) (.p (.int .i64) (.p (.int .i64) (.p (.int .i64) (.p (.sl (.int .i64)) (.sl (.int .i64)))))))) .u)⟩
theorem ti29_ok : ti29.Ok Tryz.prog 29 := TI.ok_of (by kernel_rfl) (by kernel_rfl) (by intro y hy; cases hy <;> exact ⟨rfl, rfl⟩) (by decide)
def ti30 : TI := ⟨(.int .i64), 1, 8, (.int .i64 0), some (.int .i64)⟩
theorem ti30_ok : ti30.Ok Tryz.prog 30 := TI.ok_of (by kernel_rfl) (by kernel_rfl) (by intro y hy; cases hy <;> exact ⟨rfl, rfl⟩) (by decide)
def ti33 : TI := ⟨(.slice 3), 1, 24, (.slice none 0 0), some (.sl (.int .i64))⟩
theorem ti33_ok : ti33.Ok Tryz.prog 33 := TI.ok_of (by kernel_rfl) (by kernel_rfl) (by intro y hy; cases hy <;> exact ⟨rfl, rfl⟩) (by decide)
def ti35 : TI := ⟨(.struct #[⟨"Dims", 33, 0, false, "", "", 0⟩, ⟨"V", 22, 1, false, "", "", 24⟩]), 2, 48, (.agg #[(.slice none 0 0), (.slice none 0 0)]), some (.p (.sl (.int .i64)) (.sl (.int .i64)))⟩
theorem ti35_ok : ti35.Ok Tryz.prog 35 := TI.ok_of (by kernel_rfl) (by kernel_rfl) (by intro y hy; cases hy <;> exact ⟨rfl, rfl⟩) (by decide)
def ti40 : TI := ⟨(.int .i64), 1, 8, (.int .i64 0), some (.int .i64)⟩
theorem ti40_ok : ti40.Ok Tryz.prog 40 := TI.ok_of (by kernel_rfl) (by kernel_rfl) (by intro y hy; cases hy <;> exact ⟨rfl, rfl⟩) (by decide)
def ti42 : TI := ⟨(.struct #[⟨"Op", 3, 0, false, "", "", 0⟩, ⟨"A", 3, 1, false, "", "", 8⟩, ⟨"B", 3, 2, false, "", "", 16⟩, ⟨"K", 40, 3, false, "", "", 24⟩, ⟨"T", 35, 4, false, "", "", 32⟩]), 6, 80, (.agg #[(.int .i64 0), (.int .i64 0), (.int .i64 0), (.int .i64 0), (.slice none 0 0), (.slice none 0 0)]), some (.p (.int .i64) (.p (.int .i64) (.p (.int .i64) (.p (.int .i64) (.p (.sl (.int .i64)) (.sl (.int .i64)))))))⟩
theorem ti42_ok : ti42.Ok Tryz.prog 42 := TI.ok_of (by kernel_rfl) (by kernel_rfl) (by intro y hy; cases hy <;> exact ⟨rfl, rfl⟩) (by decide)
def ti45 : TI := ⟨(.struct #[⟨"Op", 3, 0, false, "", "", 0⟩, ⟨"A", 3, 1, false, "", "", 8⟩, ⟨"B", 3, 2, false, "", "", 16⟩, ⟨"K", 40, 3, false, "", "", 24⟩, ⟨"T", 35, 4, false, "", "", 32⟩]), 6, 80, (.agg #[(.int .i64 0), (.int .i64 0), (.int .i64 0), (.int .i64 0), (.slice none 0 0), (.slice none 0 0)]), some (.p (.int .i64) (.p (.int .i64) (.p (.int .i64) (.p (.int .i64) (.p (.sl (.int .i64)) (.sl (.int .i64)))))))⟩
theorem ti45_ok : ti45.Ok Tryz.prog 45 := TI.ok_of (by kernel_rfl) (by kernel_rfl) (by intro y hy; cases hy <;> exact ⟨rfl, rfl⟩) (by decide)
def ti47 : TI := ⟨(.slice 35), 1, 24, (.slice none 0 0), some (.sl (.p (.sl (.int .i64)) (.sl (.int .i64))))⟩
theorem ti47_ok : ti47.Ok Tryz.prog 47 := TI.ok_of (by kernel_rfl) (by kernel_rfl) (by intro y hy; cases hy <;> exact ⟨rfl, rfl⟩) (by decide)
def ti53 : TI := ⟨(.slice 95), 1, 24, (.slice none 0 0), some (.sl (.p .str (.p (.int .i64) (.int .i64))))⟩
theorem ti53_ok : ti53.Ok Tryz.prog 53 := TI.ok_of (by kernel_rfl) (by kernel_rfl) (by intro y hy; cases hy <;> exact ⟨rfl, rfl⟩) (by decide)
def ti55 : TI := ⟨(.struct #[⟨"In", 33, 0, false, "", "", 0⟩, ⟨"Layers", 53, 1, false, "", "", 24⟩]), 2, 48, (.agg #[(.slice none 0 0), (.slice none 0 0)]), some (.p (.sl (.int .i64)) (.sl (.p .str (.p (.int .i64) (.int .i64)))))⟩
theorem ti55_ok : ti55.Ok Tryz.prog 55 := TI.ok_of (by kernel_rfl) (by kernel_rfl) (by intro y hy; cases hy <;> exact ⟨rfl, rfl⟩) (by decide)
def ti57 : TI := ⟨(.struct #[⟨"X", 22, 0, false, "", "", 0⟩, ⟨"Y", 22, 1, false, "", "", 24⟩, ⟨"Class", 3, 2, false, "", "", 48⟩]), 3, 56, (.agg #[(.slice none 0 0), (.slice none 0 0), (.int .i64 0)]), some (.p (.sl (.int .i64)) (.p (.sl (.int .i64)) (.int .i64)))⟩
theorem ti57_ok : ti57.Ok Tryz.prog 57 := TI.ok_of (by kernel_rfl) (by kernel_rfl) (by intro y hy; cases hy <;> exact ⟨rfl, rfl⟩) (by decide)
def ti62 : TI := ⟨(.array 2 22), 2, 48, (.agg #[(.slice none 0 0), (.slice none 0 0)]), none⟩
theorem ti62_ok : ti62.Ok Tryz.prog 62 := TI.ok_of (by kernel_rfl) (by kernel_rfl) (by intro y hy; cases hy <;> exact ⟨rfl, rfl⟩) (by decide)
def ti66 : TI := ⟨(.slice 158), 1, 24, (.slice none 0 0), some (.sl (.p .str (.p (.int .i64) (.int .i64))))⟩
theorem ti66_ok : ti66.Ok Tryz.prog 66 := TI.ok_of (by kernel_rfl) (by kernel_rfl) (by intro y hy; cases hy <;> exact ⟨rfl, rfl⟩) (by decide)
def ti68 : TI := ⟨(.struct #[⟨"In", 33, 0, false, "", "", 0⟩, ⟨"Layers", 66, 1, false, "", "", 24⟩]), 2, 48, (.agg #[(.slice none 0 0), (.slice none 0 0)]), some (.p (.sl (.int .i64)) (.sl (.p .str (.p (.int .i64) (.int .i64)))))⟩
theorem ti68_ok : ti68.Ok Tryz.prog 68 := TI.ok_of (by kernel_rfl) (by kernel_rfl) (by intro y hy; cases hy <;> exact ⟨rfl, rfl⟩) (by decide)
def ti70 : TI := ⟨(.struct #[⟨"X", 22, 0, false, "", "", 0⟩, ⟨"Y", 22, 1, false, "", "", 24⟩, ⟨"Class", 3, 2, false, "", "", 48⟩]), 3, 56, (.agg #[(.slice none 0 0), (.slice none 0 0), (.int .i64 0)]), some (.p (.sl (.int .i64)) (.p (.sl (.int .i64)) (.int .i64)))⟩
theorem ti70_ok : ti70.Ok Tryz.prog 70 := TI.ok_of (by kernel_rfl) (by kernel_rfl) (by intro y hy; cases hy <;> exact ⟨rfl, rfl⟩) (by decide)
def ti74 : TI := ⟨(.slice 57), 1, 24, (.slice none 0 0), some (.sl (.p (.sl (.int .i64)) (.p (.sl (.int .i64)) (.int .i64))))⟩
theorem ti74_ok : ti74.Ok Tryz.prog 74 := TI.ok_of (by kernel_rfl) (by kernel_rfl) (by intro y hy; cases hy <;> exact ⟨rfl, rfl⟩) (by decide)
def ti75 : TI := ⟨(.slice 70), 1, 24, (.slice none 0 0), some (.sl (.p (.sl (.int .i64)) (.p (.sl (.int .i64)) (.int .i64))))⟩
theorem ti75_ok : ti75.Ok Tryz.prog 75 := TI.ok_of (by kernel_rfl) (by kernel_rfl) (by intro y hy; cases hy <;> exact ⟨rfl, rfl⟩) (by decide)
def ti76 : TI := ⟨(.slice 79), 1, 24, (.slice none 0 0), some (.sl (.p (.int .i64) (.int .u64)))⟩
theorem ti76_ok : ti76.Ok Tryz.prog 76 := TI.ok_of (by kernel_rfl) (by kernel_rfl) (by intro y hy; cases hy <;> exact ⟨rfl, rfl⟩) (by decide)
def ti77 : TI := ⟨(.int .u64), 1, 8, (.int .u64 0), some (.int .u64)⟩
theorem ti77_ok : ti77.Ok Tryz.prog 77 := TI.ok_of (by kernel_rfl) (by kernel_rfl) (by intro y hy; cases hy <;> exact ⟨rfl, rfl⟩) (by decide)
def ti79 : TI := ⟨(.struct #[⟨"Hi", 2, 0, false, "", "", 0⟩, ⟨"Lo", 77, 1, false, "", "", 8⟩]), 2, 16, (.agg #[(.int .i64 0), (.int .u64 0)]), some (.p (.int .i64) (.int .u64))⟩
theorem ti79_ok : ti79.Ok Tryz.prog 79 := TI.ok_of (by kernel_rfl) (by kernel_rfl) (by intro y hy; cases hy <;> exact ⟨rfl, rfl⟩) (by decide)
def ti90 : TI := ⟨(.struct #[⟨"Step", 40, 0, false, "", "", 0⟩, ⟨"Keep", 40, 1, false, "", "", 8⟩, ⟨"Bound", 40, 2, false, "", "", 16⟩]), 3, 24, (.agg #[(.int .i64 0), (.int .i64 0), (.int .i64 0)]), some (.p (.int .i64) (.p (.int .i64) (.int .i64)))⟩
theorem ti90_ok : ti90.Ok Tryz.prog 90 := TI.ok_of (by kernel_rfl) (by kernel_rfl) (by intro y hy; cases hy <;> exact ⟨rfl, rfl⟩) (by decide)
def ti92 : TI := ⟨(.struct #[⟨"Net", 55, 0, false, "", "", 0⟩, ⟨"Kind", 3, 2, false, "", "", 48⟩, ⟨"Batch", 3, 3, false, "", "", 56⟩, ⟨"Rate", 90, 4, false, "", "", 64⟩, ⟨"Data", 74, 7, false, "", "", 88⟩, ⟨"P", 22, 8, false, "", "", 112⟩]), 9, 136, (.agg #[(.slice none 0 0), (.slice none 0 0), (.int .i64 0), (.int .i64 0), (.int .i64 0), (.int .i64 0), (.int .i64 0), (.slice none 0 0), (.slice none 0 0)]), some (.p (.p (.sl (.int .i64)) (.sl (.p .str (.p (.int .i64) (.int .i64))))) (.p (.int .i64) (.p (.int .i64) (.p (.p (.int .i64) (.p (.int .i64) (.int .i64))) (.p (.sl (.p (.sl (.int .i64)) (.p (.sl (.int .i64)) (.int .i64)))) (.sl (.int .i64)))))))⟩
theorem ti92_ok : ti92.Ok Tryz.prog 92 := TI.ok_of (by kernel_rfl) (by kernel_rfl) (by intro y hy; cases hy <;> exact ⟨rfl, rfl⟩) (by decide)
def ti95 : TI := ⟨(.struct #[⟨"Kind", 9, 0, false, "", "", 0⟩, ⟨"A", 3, 1, false, "", "", 16⟩, ⟨"B", 3, 2, false, "", "", 24⟩]), 3, 32, (.agg #[(.string ⟨#[]⟩), (.int .i64 0), (.int .i64 0)]), some (.p .str (.p (.int .i64) (.int .i64)))⟩
theorem ti95_ok : ti95.Ok Tryz.prog 95 := TI.ok_of (by kernel_rfl) (by kernel_rfl) (by intro y hy; cases hy <;> exact ⟨rfl, rfl⟩) (by decide)
def ti96 : TI := ⟨(.pointer 172), 1, 8, (.pointer none), none⟩
theorem ti96_ok : ti96.Ok Tryz.prog 96 := TI.ok_of (by kernel_rfl) (by kernel_rfl) (by intro y hy; cases hy <;> exact ⟨rfl, rfl⟩) (by decide)
def ti100 : TI := ⟨(.struct #[⟨"P", 22, 0, false, "", "", 0⟩, ⟨"M", 22, 1, false, "", "", 24⟩]), 2, 48, (.agg #[(.slice none 0 0), (.slice none 0 0)]), some (.p (.sl (.int .i64)) (.sl (.int .i64)))⟩
theorem ti100_ok : ti100.Ok Tryz.prog 100 := TI.ok_of (by kernel_rfl) (by kernel_rfl) (by intro y hy; cases hy <;> exact ⟨rfl, rfl⟩) (by decide)
def ti106 : TI := ⟨(.struct #[⟨"Step", 40, 0, false, "", "", 0⟩, ⟨"Keep", 40, 1, false, "", "", 8⟩, ⟨"Bound", 40, 2, false, "", "", 16⟩]), 3, 24, (.agg #[(.int .i64 0), (.int .i64 0), (.int .i64 0)]), some (.p (.int .i64) (.p (.int .i64) (.int .i64)))⟩
theorem ti106_ok : ti106.Ok Tryz.prog 106 := TI.ok_of (by kernel_rfl) (by kernel_rfl) (by intro y hy; cases hy <;> exact ⟨rfl, rfl⟩) (by decide)
def ti108 : TI := ⟨(.struct #[⟨"Net", 68, 0, false, "", "", 0⟩, ⟨"Kind", 3, 2, false, "", "", 48⟩, ⟨"Batch", 3, 3, false, "", "", 56⟩, ⟨"Rate", 106, 4, false, "", "", 64⟩, ⟨"Data", 75, 7, false, "", "", 88⟩, ⟨"P", 22, 8, false, "", "", 112⟩]), 9, 136, (.agg #[(.slice none 0 0), (.slice none 0 0), (.int .i64 0), (.int .i64 0), (.int .i64 0), (.int .i64 0), (.int .i64 0), (.slice none 0 0), (.slice none 0 0)]), some (.p (.p (.sl (.int .i64)) (.sl (.p .str (.p (.int .i64) (.int .i64))))) (.p (.int .i64) (.p (.int .i64) (.p (.p (.int .i64) (.p (.int .i64) (.int .i64))) (.p (.sl (.p (.sl (.int .i64)) (.p (.sl (.int .i64)) (.int .i64)))) (.sl (.int .i64)))))))⟩
theorem ti108_ok : ti108.Ok Tryz.prog 108 := TI.ok_of (by kernel_rfl) (by kernel_rfl) (by intro y hy; cases hy <;> exact ⟨rfl, rfl⟩) (by decide)
def ti113 : TI := ⟨(.struct #[⟨"P", 22, 0, false, "", "", 0⟩, ⟨"M", 22, 1, false, "", "", 24⟩]), 2, 48, (.agg #[(.slice none 0 0), (.slice none 0 0)]), some (.p (.sl (.int .i64)) (.sl (.int .i64)))⟩
theorem ti113_ok : ti113.Ok Tryz.prog 113 := TI.ok_of (by kernel_rfl) (by kernel_rfl) (by intro y hy; cases hy <;> exact ⟨rfl, rfl⟩) (by decide)
def ti123 : TI := ⟨(.slice 42), 1, 24, (.slice none 0 0), some (.sl (.p (.int .i64) (.p (.int .i64) (.p (.int .i64) (.p (.int .i64) (.p (.sl (.int .i64)) (.sl (.int .i64))))))))⟩
theorem ti123_ok : ti123.Ok Tryz.prog 123 := TI.ok_of (by kernel_rfl) (by kernel_rfl) (by intro y hy; cases hy <;> exact ⟨rfl, rfl⟩) (by decide)
def ti125 : TI := ⟨(.struct #[⟨"l", 123, 0, false, "", "carousel/tape", 0⟩]), 1, 24, (.agg #[(.slice none 0 0)]), some (.p (.sl (.p (.int .i64) (.p (.int .i64) (.p (.int .i64) (.p (.int .i64) (.p (.sl (.int .i64)) (.sl (.int .i64)))))))) .u)⟩
theorem ti125_ok : ti125.Ok Tryz.prog 125 := TI.ok_of (by kernel_rfl) (by kernel_rfl) (by intro y hy; cases hy <;> exact ⟨rfl, rfl⟩) (by decide)
def ti130 : TI := ⟨(.pointer 184), 1, 8, (.pointer none), none⟩
theorem ti130_ok : ti130.Ok Tryz.prog 130 := TI.ok_of (by kernel_rfl) (by kernel_rfl) (by intro y hy; cases hy <;> exact ⟨rfl, rfl⟩) (by decide)
def ti141 : TI := ⟨(.pointer 144), 1, 8, (.pointer none), none⟩
theorem ti141_ok : ti141.Ok Tryz.prog 141 := TI.ok_of (by kernel_rfl) (by kernel_rfl) (by intro y hy; cases hy <;> exact ⟨rfl, rfl⟩) (by decide)
def ti142 : TI := ⟨(.slice 4), 1, 24, (.slice none 0 0), some (.sl .bool)⟩
theorem ti142_ok : ti142.Ok Tryz.prog 142 := TI.ok_of (by kernel_rfl) (by kernel_rfl) (by intro y hy; cases hy <;> exact ⟨rfl, rfl⟩) (by decide)
def ti144 : TI := ⟨(.struct #[⟨"l", 47, 0, false, "", "carousel/back", 0⟩, ⟨"given", 142, 1, false, "", "carousel/back", 24⟩]), 2, 48, (.agg #[(.slice none 0 0), (.slice none 0 0)]), some (.p (.sl (.p (.sl (.int .i64)) (.sl (.int .i64)))) (.sl .bool))⟩
theorem ti144_ok : ti144.Ok Tryz.prog 144 := TI.ok_of (by kernel_rfl) (by kernel_rfl) (by intro y hy; cases hy <;> exact ⟨rfl, rfl⟩) (by decide)
def ti151 : TI := ⟨(.slice 33), 1, 24, (.slice none 0 0), some (.sl (.sl (.int .i64)))⟩
theorem ti151_ok : ti151.Ok Tryz.prog 151 := TI.ok_of (by kernel_rfl) (by kernel_rfl) (by intro y hy; cases hy <;> exact ⟨rfl, rfl⟩) (by decide)
def ti158 : TI := ⟨(.struct #[⟨"Kind", 9, 0, false, "", "", 0⟩, ⟨"A", 3, 1, false, "", "", 16⟩, ⟨"B", 3, 2, false, "", "", 24⟩]), 3, 32, (.agg #[(.string ⟨#[]⟩), (.int .i64 0), (.int .i64 0)]), some (.p .str (.p (.int .i64) (.int .i64)))⟩
theorem ti158_ok : ti158.Ok Tryz.prog 158 := TI.ok_of (by kernel_rfl) (by kernel_rfl) (by intro y hy; cases hy <;> exact ⟨rfl, rfl⟩) (by decide)
def ti162 : TI := ⟨(.array 4 77), 4, 32, (.agg #[(.int .u64 0), (.int .u64 0), (.int .u64 0), (.int .u64 0)]), none⟩
theorem ti162_ok : ti162.Ok Tryz.prog 162 := TI.ok_of (by kernel_rfl) (by kernel_rfl) (by intro y hy; cases hy <;> exact ⟨rfl, rfl⟩) (by decide)
def ti164 : TI := ⟨(.struct #[⟨"Neg", 4, 0, false, "", "", 0⟩, ⟨"M", 162, 1, false, "", "", 8⟩]), 5, 40, (.agg #[(.bool false), (.int .u64 0), (.int .u64 0), (.int .u64 0), (.int .u64 0)]), none⟩
theorem ti164_ok : ti164.Ok Tryz.prog 164 := TI.ok_of (by kernel_rfl) (by kernel_rfl) (by intro y hy; cases hy <;> exact ⟨rfl, rfl⟩) (by decide)
def ti172 : TI := ⟨(.struct #[⟨"j", 92, 0, false, "", "carousel/solo", 0⟩, ⟨"s", 100, 9, false, "", "carousel/solo", 136⟩, ⟨"steps", 2, 11, false, "", "carousel/solo", 184⟩, ⟨"loss", 79, 12, false, "", "carousel/solo", 192⟩]), 14, 208, (.agg #[(.slice none 0 0), (.slice none 0 0), (.int .i64 0), (.int .i64 0), (.int .i64 0), (.int .i64 0), (.int .i64 0), (.slice none 0 0), (.slice none 0 0), (.slice none 0 0), (.slice none 0 0), (.int .i64 0), (.int .i64 0), (.int .u64 0)]), some (.p (.p (.p (.sl (.int .i64)) (.sl (.p .str (.p (.int .i64) (.int .i64))))) (.p (.int .i64) (.p (.int .i64) (.p (.p (.int .i64) (.p (.int .i64) (.int .i64))) (.p (.sl (.p (.sl (.int .i64)) (.p (.sl (.int .i64)) (.int .i64)))) (.sl (.int .i64))))))) (.p (.p (.sl (.int .i64)) (.sl (.int .i64))) (.p (.int .i64) (.p (.int .i64) (.int .u64)))))⟩
theorem ti172_ok : ti172.Ok Tryz.prog 172 := TI.ok_of (by kernel_rfl) (by kernel_rfl) (by intro y hy; cases hy <;> exact ⟨rfl, rfl⟩) (by decide)
def ti184 : TI := ⟨(.struct #[⟨"t", 24, 0, false, "", "carousel/loss", 0⟩, ⟨"was", 3, 1, false, "", "carousel/loss", 8⟩, ⟨"e", 30, 2, false, "", "carousel/loss", 16⟩]), 3, 24, (.agg #[(.pointer none), (.int .i64 0), (.int .i64 0)]), none⟩
theorem ti184_ok : ti184.Ok Tryz.prog 184 := TI.ok_of (by kernel_rfl) (by kernel_rfl) (by intro y hy; cases hy <;> exact ⟨rfl, rfl⟩) (by decide)
def ti186 : TI := ⟨(.int .u64), 1, 8, (.int .u64 0), some (.int .u64)⟩
theorem ti186_ok : ti186.Ok Tryz.prog 186 := TI.ok_of (by kernel_rfl) (by kernel_rfl) (by intro y hy; cases hy <;> exact ⟨rfl, rfl⟩) (by decide)
def ti211 : TI := ⟨(.pointer 213), 1, 8, (.pointer none), none⟩
theorem ti211_ok : ti211.Ok Tryz.prog 211 := TI.ok_of (by kernel_rfl) (by kernel_rfl) (by intro y hy; cases hy <;> exact ⟨rfl, rfl⟩) (by decide)
def ti213 : TI := ⟨(.struct #[⟨"t", 24, 0, false, "", "carousel/model", 0⟩, ⟨"e", 30, 1, false, "", "carousel/model", 8⟩, ⟨"p", 22, 2, false, "", "carousel/model", 16⟩, ⟨"leafs", 33, 3, false, "", "carousel/model", 40⟩]), 4, 64, (.agg #[(.pointer none), (.int .i64 0), (.slice none 0 0), (.slice none 0 0)]), none⟩
theorem ti213_ok : ti213.Ok Tryz.prog 213 := TI.ok_of (by kernel_rfl) (by kernel_rfl) (by intro y hy; cases hy <;> exact ⟨rfl, rfl⟩) (by decide)
def ti223 : TI := ⟨(.int .u32), 1, 4, (.int .u32 0), some (.int .u32)⟩
theorem ti223_ok : ti223.Ok Tryz.prog 223 := TI.ok_of (by kernel_rfl) (by kernel_rfl) (by intro y hy; cases hy <;> exact ⟨rfl, rfl⟩) (by decide)
def ti269 : TI := ⟨(.struct #[⟨"top", 2, 0, false, "", "carousel/wide", 0⟩, ⟨"low", 79, 1, false, "", "carousel/wide", 8⟩]), 3, 24, (.agg #[(.int .i64 0), (.int .i64 0), (.int .u64 0)]), some (.p (.int .i64) (.p (.int .i64) (.int .u64)))⟩
theorem ti269_ok : ti269.Ok Tryz.prog 269 := TI.ok_of (by kernel_rfl) (by kernel_rfl) (by intro y hy; cases hy <;> exact ⟨rfl, rfl⟩) (by decide)
def ti272 : TI := ⟨(.array 2 77), 2, 16, (.agg #[(.int .u64 0), (.int .u64 0)]), none⟩
theorem ti272_ok : ti272.Ok Tryz.prog 272 := TI.ok_of (by kernel_rfl) (by kernel_rfl) (by intro y hy; cases hy <;> exact ⟨rfl, rfl⟩) (by decide)
def ti286 : TI := ⟨(.pointer 269), 1, 8, (.pointer none), none⟩
theorem ti286_ok : ti286.Ok Tryz.prog 286 := TI.ok_of (by kernel_rfl) (by kernel_rfl) (by intro y hy; cases hy <;> exact ⟨rfl, rfl⟩) (by decide)
def tab : TE := [(2, ti2), (3, ti3), (4, ti4), (5, ti5), (9, ti9), (22, ti22), (24, ti24), (26, ti26), (27, ti27), (29, ti29), (30, ti30), (33, ti33), (35, ti35), (40, ti40), (42, ti42), (45, ti45), (47, ti47), (53, ti53), (55, ti55), (57, ti57), (62, ti62), (66, ti66), (68, ti68), (70, ti70), (74, ti74), (75, ti75), (76, ti76), (77, ti77), (79, ti79), (90, ti90), (92, ti92), (95, ti95), (96, ti96), (100, ti100), (106, ti106), (108, ti108), (113, ti113), (123, ti123), (125, ti125), (130, ti130), (141, ti141), (142, ti142), (144, ti144), (151, ti151), (158, ti158), (162, ti162), (164, ti164), (172, ti172), (184, ti184), (186, ti186), (211, ti211), (213, ti213), (223, ti223), (269, ti269), (272, ti272), (286, ti286)]
theorem tab_ok : tab.Ok Tryz.prog := TE.ok_cons ti2_ok (TE.ok_cons ti3_ok (TE.ok_cons ti4_ok (TE.ok_cons ti5_ok (TE.ok_cons ti9_ok (TE.ok_cons ti22_ok (TE.ok_cons ti24_ok (TE.ok_cons ti26_ok (TE.ok_cons ti27_ok (TE.ok_cons ti29_ok (TE.ok_cons ti30_ok (TE.ok_cons ti33_ok (TE.ok_cons ti35_ok (TE.ok_cons ti40_ok (TE.ok_cons ti42_ok (TE.ok_cons ti45_ok (TE.ok_cons ti47_ok (TE.ok_cons ti53_ok (TE.ok_cons ti55_ok (TE.ok_cons ti57_ok (TE.ok_cons ti62_ok (TE.ok_cons ti66_ok (TE.ok_cons ti68_ok (TE.ok_cons ti70_ok (TE.ok_cons ti74_ok (TE.ok_cons ti75_ok (TE.ok_cons ti76_ok (TE.ok_cons ti77_ok (TE.ok_cons ti79_ok (TE.ok_cons ti90_ok (TE.ok_cons ti92_ok (TE.ok_cons ti95_ok (TE.ok_cons ti96_ok (TE.ok_cons ti100_ok (TE.ok_cons ti106_ok (TE.ok_cons ti108_ok (TE.ok_cons ti113_ok (TE.ok_cons ti123_ok (TE.ok_cons ti125_ok (TE.ok_cons ti130_ok (TE.ok_cons ti141_ok (TE.ok_cons ti142_ok (TE.ok_cons ti144_ok (TE.ok_cons ti151_ok (TE.ok_cons ti158_ok (TE.ok_cons ti162_ok (TE.ok_cons ti164_ok (TE.ok_cons ti172_ok (TE.ok_cons ti184_ok (TE.ok_cons ti186_ok (TE.ok_cons ti211_ok (TE.ok_cons ti213_ok (TE.ok_cons ti223_ok (TE.ok_cons ti269_ok (TE.ok_cons ti272_ok (TE.ok_cons ti286_ok (TE.ok_nil _))))))))))))))))))))))))))))))))))))))))))))))))))))))))
theorem mixed : Tryz.prog.follows .mixedOrders = true := by kernel_rfl
theorem add64_ok : ExtI Tryz.prog 88 (ext3 add64) := ext_add64 (fn := Tryz.f88) (by kernel_rfl) (by kernel_rfl) (by kernel_rfl) (by kernel_rfl) (by kernel_rfl)
theorem sub64_ok : ExtI Tryz.prog 256 (ext3 sub64) := ext_sub64 (fn := Tryz.f256) (by kernel_rfl) (by kernel_rfl) (by kernel_rfl) (by kernel_rfl) (by kernel_rfl)
open IntKind (i64 u64 i32 u32 i16 u16 i8 u8)
theorem AI {a b : Prop} (x : a) (y : b) : a ∧ b := ⟨x, y⟩
theorem EI {α : Sort _} {p : α → Prop} (w : α) (h : p w) : ∃ x, p x := ⟨w, h⟩
theorem OL {a b : Prop} (x : a) : a ∨ b := .inl x
theorem OQ {a b : Prop} (x : b) : a ∨ b := .inr x
theorem TV : True := True.intro
theorem E4 {e : Nat} {s : St} {J : Sh} (ρ : Ren) (h : (renB J.nx ρ [] && protB e ρ && Nat.ble e J.nx) = true ∧ Weak ρ s J) : toSh e s J := ⟨[], [], [], [], ρ, h⟩
theorem R2 {A0 : Sort _} {a0 : A0} {A1 : Sort _} {a1 : A1} {p : Prop} (h : p) : a0 = a0 ∧ a1 = a1 ∧ p := ⟨rfl, rfl, h⟩
theorem R3 {A0 : Sort _} {a0 : A0} {A1 : Sort _} {a1 : A1} {A2 : Sort _} {a2 : A2} {p : Prop} (h : p) : a0 = a0 ∧ a1 = a1 ∧ a2 = a2 ∧ p := ⟨rfl, rfl, rfl, h⟩
theorem R4 {A0 : Sort _} {a0 : A0} {A1 : Sort _} {a1 : A1} {A2 : Sort _} {a2 : A2} {A3 : Sort _} {a3 : A3} {p : Prop} (h : p) : a0 = a0 ∧ a1 = a1 ∧ a2 = a2 ∧ a3 = a3 ∧ p := ⟨rfl, rfl, rfl, rfl, h⟩
theorem R5 {A0 : Sort _} {a0 : A0} {A1 : Sort _} {a1 : A1} {A2 : Sort _} {a2 : A2} {A3 : Sort _} {a3 : A3} {A4 : Sort _} {a4 : A4} {p : Prop} (h : p) : a0 = a0 ∧ a1 = a1 ∧ a2 = a2 ∧ a3 = a3 ∧ a4 = a4 ∧ p := ⟨rfl, rfl, rfl, rfl, rfl, h⟩
theorem R6 {A0 : Sort _} {a0 : A0} {A1 : Sort _} {a1 : A1} {A2 : Sort _} {a2 : A2} {A3 : Sort _} {a3 : A3} {A4 : Sort _} {a4 : A4} {A5 : Sort _} {a5 : A5} {p : Prop} (h : p) : a0 = a0 ∧ a1 = a1 ∧ a2 = a2 ∧ a3 = a3 ∧ a4 = a4 ∧ a5 = a5 ∧ p := ⟨rfl, rfl, rfl, rfl, rfl, rfl, h⟩
theorem R7 {A0 : Sort _} {a0 : A0} {A1 : Sort _} {a1 : A1} {A2 : Sort _} {a2 : A2} {A3 : Sort _} {a3 : A3} {A4 : Sort _} {a4 : A4} {A5 : Sort _} {a5 : A5} {A6 : Sort _} {a6 : A6} {p : Prop} (h : p) : a0 = a0 ∧ a1 = a1 ∧ a2 = a2 ∧ a3 = a3 ∧ a4 = a4 ∧ a5 = a5 ∧ a6 = a6 ∧ p := ⟨rfl, rfl, rfl, rfl, rfl, rfl, rfl, h⟩
theorem R8 {A0 : Sort _} {a0 : A0} {A1 : Sort _} {a1 : A1} {A2 : Sort _} {a2 : A2} {A3 : Sort _} {a3 : A3} {A4 : Sort _} {a4 : A4} {A5 : Sort _} {a5 : A5} {A6 : Sort _} {a6 : A6} {A7 : Sort _} {a7 : A7} {p : Prop} (h : p) : a0 = a0 ∧ a1 = a1 ∧ a2 = a2 ∧ a3 = a3 ∧ a4 = a4 ∧ a5 = a5 ∧ a6 = a6 ∧ a7 = a7 ∧ p := ⟨rfl, rfl, rfl, rfl, rfl, rfl, rfl, rfl, h⟩
theorem R9 {A0 : Sort _} {a0 : A0} {A1 : Sort _} {a1 : A1} {A2 : Sort _} {a2 : A2} {A3 : Sort _} {a3 : A3} {A4 : Sort _} {a4 : A4} {A5 : Sort _} {a5 : A5} {A6 : Sort _} {a6 : A6} {A7 : Sort _} {a7 : A7} {A8 : Sort _} {a8 : A8} {p : Prop} (h : p) : a0 = a0 ∧ a1 = a1 ∧ a2 = a2 ∧ a3 = a3 ∧ a4 = a4 ∧ a5 = a5 ∧ a6 = a6 ∧ a7 = a7 ∧ a8 = a8 ∧ p := ⟨rfl, rfl, rfl, rfl, rfl, rfl, rfl, rfl, rfl, h⟩
theorem R10 {A0 : Sort _} {a0 : A0} {A1 : Sort _} {a1 : A1} {A2 : Sort _} {a2 : A2} {A3 : Sort _} {a3 : A3} {A4 : Sort _} {a4 : A4} {A5 : Sort _} {a5 : A5} {A6 : Sort _} {a6 : A6} {A7 : Sort _} {a7 : A7} {A8 : Sort _} {a8 : A8} {A9 : Sort _} {a9 : A9} {p : Prop} (h : p) : a0 = a0 ∧ a1 = a1 ∧ a2 = a2 ∧ a3 = a3 ∧ a4 = a4 ∧ a5 = a5 ∧ a6 = a6 ∧ a7 = a7 ∧ a8 = a8 ∧ a9 = a9 ∧ p := ⟨rfl, rfl, rfl, rfl, rfl, rfl, rfl, rfl, rfl, rfl, h⟩
theorem R11 {A0 : Sort _} {a0 : A0} {A1 : Sort _} {a1 : A1} {A2 : Sort _} {a2 : A2} {A3 : Sort _} {a3 : A3} {A4 : Sort _} {a4 : A4} {A5 : Sort _} {a5 : A5} {A6 : Sort _} {a6 : A6} {A7 : Sort _} {a7 : A7} {A8 : Sort _} {a8 : A8} {A9 : Sort _} {a9 : A9} {A10 : Sort _} {a10 : A10} {p : Prop} (h : p) : a0 = a0 ∧ a1 = a1 ∧ a2 = a2 ∧ a3 = a3 ∧ a4 = a4 ∧ a5 = a5 ∧ a6 = a6 ∧ a7 = a7 ∧ a8 = a8 ∧ a9 = a9 ∧ a10 = a10 ∧ p := ⟨rfl, rfl, rfl, rfl, rfl, rfl, rfl, rfl, rfl, rfl, rfl, h⟩
theorem R12 {A0 : Sort _} {a0 : A0} {A1 : Sort _} {a1 : A1} {A2 : Sort _} {a2 : A2} {A3 : Sort _} {a3 : A3} {A4 : Sort _} {a4 : A4} {A5 : Sort _} {a5 : A5} {A6 : Sort _} {a6 : A6} {A7 : Sort _} {a7 : A7} {A8 : Sort _} {a8 : A8} {A9 : Sort _} {a9 : A9} {A10 : Sort _} {a10 : A10} {A11 : Sort _} {a11 : A11} {p : Prop} (h : p) : a0 = a0 ∧ a1 = a1 ∧ a2 = a2 ∧ a3 = a3 ∧ a4 = a4 ∧ a5 = a5 ∧ a6 = a6 ∧ a7 = a7 ∧ a8 = a8 ∧ a9 = a9 ∧ a10 = a10 ∧ a11 = a11 ∧ p := ⟨rfl, rfl, rfl, rfl, rfl, rfl, rfl, rfl, rfl, rfl, rfl, rfl, h⟩
theorem R13 {A0 : Sort _} {a0 : A0} {A1 : Sort _} {a1 : A1} {A2 : Sort _} {a2 : A2} {A3 : Sort _} {a3 : A3} {A4 : Sort _} {a4 : A4} {A5 : Sort _} {a5 : A5} {A6 : Sort _} {a6 : A6} {A7 : Sort _} {a7 : A7} {A8 : Sort _} {a8 : A8} {A9 : Sort _} {a9 : A9} {A10 : Sort _} {a10 : A10} {A11 : Sort _} {a11 : A11} {A12 : Sort _} {a12 : A12} {p : Prop} (h : p) : a0 = a0 ∧ a1 = a1 ∧ a2 = a2 ∧ a3 = a3 ∧ a4 = a4 ∧ a5 = a5 ∧ a6 = a6 ∧ a7 = a7 ∧ a8 = a8 ∧ a9 = a9 ∧ a10 = a10 ∧ a11 = a11 ∧ a12 = a12 ∧ p := ⟨rfl, rfl, rfl, rfl, rfl, rfl, rfl, rfl, rfl, rfl, rfl, rfl, rfl, h⟩
theorem R14 {A0 : Sort _} {a0 : A0} {A1 : Sort _} {a1 : A1} {A2 : Sort _} {a2 : A2} {A3 : Sort _} {a3 : A3} {A4 : Sort _} {a4 : A4} {A5 : Sort _} {a5 : A5} {A6 : Sort _} {a6 : A6} {A7 : Sort _} {a7 : A7} {A8 : Sort _} {a8 : A8} {A9 : Sort _} {a9 : A9} {A10 : Sort _} {a10 : A10} {A11 : Sort _} {a11 : A11} {A12 : Sort _} {a12 : A12} {A13 : Sort _} {a13 : A13} {p : Prop} (h : p) : a0 = a0 ∧ a1 = a1 ∧ a2 = a2 ∧ a3 = a3 ∧ a4 = a4 ∧ a5 = a5 ∧ a6 = a6 ∧ a7 = a7 ∧ a8 = a8 ∧ a9 = a9 ∧ a10 = a10 ∧ a11 = a11 ∧ a12 = a12 ∧ a13 = a13 ∧ p := ⟨rfl, rfl, rfl, rfl, rfl, rfl, rfl, rfl, rfl, rfl, rfl, rfl, rfl, rfl, h⟩
theorem R15 {A0 : Sort _} {a0 : A0} {A1 : Sort _} {a1 : A1} {A2 : Sort _} {a2 : A2} {A3 : Sort _} {a3 : A3} {A4 : Sort _} {a4 : A4} {A5 : Sort _} {a5 : A5} {A6 : Sort _} {a6 : A6} {A7 : Sort _} {a7 : A7} {A8 : Sort _} {a8 : A8} {A9 : Sort _} {a9 : A9} {A10 : Sort _} {a10 : A10} {A11 : Sort _} {a11 : A11} {A12 : Sort _} {a12 : A12} {A13 : Sort _} {a13 : A13} {A14 : Sort _} {a14 : A14} {p : Prop} (h : p) : a0 = a0 ∧ a1 = a1 ∧ a2 = a2 ∧ a3 = a3 ∧ a4 = a4 ∧ a5 = a5 ∧ a6 = a6 ∧ a7 = a7 ∧ a8 = a8 ∧ a9 = a9 ∧ a10 = a10 ∧ a11 = a11 ∧ a12 = a12 ∧ a13 = a13 ∧ a14 = a14 ∧ p := ⟨rfl, rfl, rfl, rfl, rfl, rfl, rfl, rfl, rfl, rfl, rfl, rfl, rfl, rfl, rfl, h⟩
theorem R16 {A0 : Sort _} {a0 : A0} {A1 : Sort _} {a1 : A1} {A2 : Sort _} {a2 : A2} {A3 : Sort _} {a3 : A3} {A4 : Sort _} {a4 : A4} {A5 : Sort _} {a5 : A5} {A6 : Sort _} {a6 : A6} {A7 : Sort _} {a7 : A7} {A8 : Sort _} {a8 : A8} {A9 : Sort _} {a9 : A9} {A10 : Sort _} {a10 : A10} {A11 : Sort _} {a11 : A11} {A12 : Sort _} {a12 : A12} {A13 : Sort _} {a13 : A13} {A14 : Sort _} {a14 : A14} {A15 : Sort _} {a15 : A15} {p : Prop} (h : p) : a0 = a0 ∧ a1 = a1 ∧ a2 = a2 ∧ a3 = a3 ∧ a4 = a4 ∧ a5 = a5 ∧ a6 = a6 ∧ a7 = a7 ∧ a8 = a8 ∧ a9 = a9 ∧ a10 = a10 ∧ a11 = a11 ∧ a12 = a12 ∧ a13 = a13 ∧ a14 = a14 ∧ a15 = a15 ∧ p := ⟨rfl, rfl, rfl, rfl, rfl, rfl, rfl, rfl, rfl, rfl, rfl, rfl, rfl, rfl, rfl, rfl, h⟩
theorem R17 {A0 : Sort _} {a0 : A0} {A1 : Sort _} {a1 : A1} {A2 : Sort _} {a2 : A2} {A3 : Sort _} {a3 : A3} {A4 : Sort _} {a4 : A4} {A5 : Sort _} {a5 : A5} {A6 : Sort _} {a6 : A6} {A7 : Sort _} {a7 : A7} {A8 : Sort _} {a8 : A8} {A9 : Sort _} {a9 : A9} {A10 : Sort _} {a10 : A10} {A11 : Sort _} {a11 : A11} {A12 : Sort _} {a12 : A12} {A13 : Sort _} {a13 : A13} {A14 : Sort _} {a14 : A14} {A15 : Sort _} {a15 : A15} {A16 : Sort _} {a16 : A16} {p : Prop} (h : p) : a0 = a0 ∧ a1 = a1 ∧ a2 = a2 ∧ a3 = a3 ∧ a4 = a4 ∧ a5 = a5 ∧ a6 = a6 ∧ a7 = a7 ∧ a8 = a8 ∧ a9 = a9 ∧ a10 = a10 ∧ a11 = a11 ∧ a12 = a12 ∧ a13 = a13 ∧ a14 = a14 ∧ a15 = a15 ∧ a16 = a16 ∧ p := ⟨rfl, rfl, rfl, rfl, rfl, rfl, rfl, rfl, rfl, rfl, rfl, rfl, rfl, rfl, rfl, rfl, rfl, h⟩
theorem R18 {A0 : Sort _} {a0 : A0} {A1 : Sort _} {a1 : A1} {A2 : Sort _} {a2 : A2} {A3 : Sort _} {a3 : A3} {A4 : Sort _} {a4 : A4} {A5 : Sort _} {a5 : A5} {A6 : Sort _} {a6 : A6} {A7 : Sort _} {a7 : A7} {A8 : Sort _} {a8 : A8} {A9 : Sort _} {a9 : A9} {A10 : Sort _} {a10 : A10} {A11 : Sort _} {a11 : A11} {A12 : Sort _} {a12 : A12} {A13 : Sort _} {a13 : A13} {A14 : Sort _} {a14 : A14} {A15 : Sort _} {a15 : A15} {A16 : Sort _} {a16 : A16} {A17 : Sort _} {a17 : A17} {p : Prop} (h : p) : a0 = a0 ∧ a1 = a1 ∧ a2 = a2 ∧ a3 = a3 ∧ a4 = a4 ∧ a5 = a5 ∧ a6 = a6 ∧ a7 = a7 ∧ a8 = a8 ∧ a9 = a9 ∧ a10 = a10 ∧ a11 = a11 ∧ a12 = a12 ∧ a13 = a13 ∧ a14 = a14 ∧ a15 = a15 ∧ a16 = a16 ∧ a17 = a17 ∧ p := ⟨rfl, rfl, rfl, rfl, rfl, rfl, rfl, rfl, rfl, rfl, rfl, rfl, rfl, rfl, rfl, rfl, rfl, rfl, h⟩
theorem R19 {A0 : Sort _} {a0 : A0} {A1 : Sort _} {a1 : A1} {A2 : Sort _} {a2 : A2} {A3 : Sort _} {a3 : A3} {A4 : Sort _} {a4 : A4} {A5 : Sort _} {a5 : A5} {A6 : Sort _} {a6 : A6} {A7 : Sort _} {a7 : A7} {A8 : Sort _} {a8 : A8} {A9 : Sort _} {a9 : A9} {A10 : Sort _} {a10 : A10} {A11 : Sort _} {a11 : A11} {A12 : Sort _} {a12 : A12} {A13 : Sort _} {a13 : A13} {A14 : Sort _} {a14 : A14} {A15 : Sort _} {a15 : A15} {A16 : Sort _} {a16 : A16} {A17 : Sort _} {a17 : A17} {A18 : Sort _} {a18 : A18} {p : Prop} (h : p) : a0 = a0 ∧ a1 = a1 ∧ a2 = a2 ∧ a3 = a3 ∧ a4 = a4 ∧ a5 = a5 ∧ a6 = a6 ∧ a7 = a7 ∧ a8 = a8 ∧ a9 = a9 ∧ a10 = a10 ∧ a11 = a11 ∧ a12 = a12 ∧ a13 = a13 ∧ a14 = a14 ∧ a15 = a15 ∧ a16 = a16 ∧ a17 = a17 ∧ a18 = a18 ∧ p := ⟨rfl, rfl, rfl, rfl, rfl, rfl, rfl, rfl, rfl, rfl, rfl, rfl, rfl, rfl, rfl, rfl, rfl, rfl, rfl, h⟩
theorem R20 {A0 : Sort _} {a0 : A0} {A1 : Sort _} {a1 : A1} {A2 : Sort _} {a2 : A2} {A3 : Sort _} {a3 : A3} {A4 : Sort _} {a4 : A4} {A5 : Sort _} {a5 : A5} {A6 : Sort _} {a6 : A6} {A7 : Sort _} {a7 : A7} {A8 : Sort _} {a8 : A8} {A9 : Sort _} {a9 : A9} {A10 : Sort _} {a10 : A10} {A11 : Sort _} {a11 : A11} {A12 : Sort _} {a12 : A12} {A13 : Sort _} {a13 : A13} {A14 : Sort _} {a14 : A14} {A15 : Sort _} {a15 : A15} {A16 : Sort _} {a16 : A16} {A17 : Sort _} {a17 : A17} {A18 : Sort _} {a18 : A18} {A19 : Sort _} {a19 : A19} {p : Prop} (h : p) : a0 = a0 ∧ a1 = a1 ∧ a2 = a2 ∧ a3 = a3 ∧ a4 = a4 ∧ a5 = a5 ∧ a6 = a6 ∧ a7 = a7 ∧ a8 = a8 ∧ a9 = a9 ∧ a10 = a10 ∧ a11 = a11 ∧ a12 = a12 ∧ a13 = a13 ∧ a14 = a14 ∧ a15 = a15 ∧ a16 = a16 ∧ a17 = a17 ∧ a18 = a18 ∧ a19 = a19 ∧ p := ⟨rfl, rfl, rfl, rfl, rfl, rfl, rfl, rfl, rfl, rfl, rfl, rfl, rfl, rfl, rfl, rfl, rfl, rfl, rfl, rfl, h⟩
abbrev InP (n : Nat) : Prop := ∃ fn, Tryz.prog.funcs[n]? = some fn ∧ fn.body.isSome = true ∧ (fn.name == "runtime.NumGoroutine") = false
abbrev VC (f : Func) (C : Con) (x : C.X) (y : C.Y) : Prop := vc Tryz.prog tab f.ntmps 0 (match f.body with | some c => c | none => .skip) (retK tab C f.results.toList y) (C.shIn x).st
abbrev T0 : Ty := .p (.int .i64) (.p (.int .i64) (.p (.int .i64) (.p (.int .i64) (.p (.sl (.int .i64)) (.sl (.int .i64))))))
abbrev T1 : Ty := .sl (.int .i64)
abbrev T2 : Ty := .int .i64
abbrev T3 : Ty := .p (.sl (.int .i64)) (.sl (.int .i64))
abbrev T4 : Ty := .int .u64
abbrev T5 : Ty := .p (.int .i64) (.int .u64)
abbrev T6 : Ty := .p .str (.p (.int .i64) (.int .i64))
abbrev T7 : Ty := .p (.sl (.int .i64)) (.sl (.p .str (.p (.int .i64) (.int .i64))))
abbrev T8 : Ty := .sl (.p .str (.p (.int .i64) (.int .i64)))
abbrev T9 : Ty := .sl (.sl (.int .i64))
abbrev T10 : Ty := .p (.sl (.int .i64)) (.p (.sl (.int .i64)) (.int .i64))
abbrev T11 : Ty := .sl (.p (.sl (.int .i64)) (.p (.sl (.int .i64)) (.int .i64)))
abbrev T12 : Ty := .sl (.p (.int .i64) (.int .u64))
abbrev P0 (a b : Nat) : Pat := .raw false [.ptr a b]
abbrev O0 (a : Nat) : Pat := .raw false [.osl a]
abbrev N0 : CV := .c (.slice none 0 0)
abbrev D0 (x : Int) : Pat := .dat (.int .i64) x
abbrev LI := List Int
abbrev ND := Int × Int × Int × Int × LI × LI
theorem NH {p : Prop} : false = true → p := fun h => nomatch h
noncomputable def inB (n : Nat) : Bool := match Tryz.prog.funcs[n]? with | some fn => fn.body.isSome && !(fn.name == "runtime.NumGoroutine") | none => false
theorem inP {n : Nat} (h : inB n = true) : InP n := by
  unfold inB at h
  split at h
  · next fn hf => exact ⟨fn, hf, by simp_all, by simp_all⟩
  · exact absurd h (by decide)
theorem AJ {α : Sort _} {a : α} {p : Prop} (h : p) : (a = a ∧ True) ∧ p := ⟨⟨rfl, trivial⟩, h⟩
theorem K0 {β : Sort _} {b : β} {γ : Sort _} {c : γ} {P p : Prop} (h : p) : (false = true → P) ∧ b = b ∧ c = c ∧ True ∧ True ∧ p := ⟨NH, rfl, rfl, trivial, trivial, h⟩
abbrev NL := List ND
abbrev I2 : Ren := [(0, some 0), (1, some 1)]
abbrev I3 : Ren := [(0, some 0), (1, some 1), (2, some 2)]
abbrev I4 : Ren := [(0, some 0), (1, some 1), (2, some 2), (3, some 3)]
abbrev I5 : Ren := [(0, some 0), (1, some 1), (2, some 2), (3, some 3), (4, some 4)]
abbrev I6 : Ren := [(0, some 0), (1, some 1), (2, some 2), (3, some 3), (4, some 4), (5, some 5)]
abbrev I7 : Ren := [(0, some 0), (1, some 1), (2, some 2), (3, some 3), (4, some 4), (5, some 5), (6, some 6)]
abbrev I8 : Ren := [(0, some 0), (1, some 1), (2, some 2), (3, some 3), (4, some 4), (5, some 5), (6, some 6), (7, some 7)]
abbrev HP (C : Con) (n : Nat) : Prop := C.Holds Tryz.prog n
theorem hH {n : Nat} (fn : Func) {c : Code} (hf : Tryz.prog.funcs[n]? = some fn) (hb : fn.body = some c) {C : Con} (H : ∀ x y, C.F x = some y → vc Tryz.prog tab fn.ntmps C.e c (retK tab C fn.results.toList y) (C.shIn x).st) : HP C n := hV tab_ok mixed hf hb C H
abbrev VE (f : Func) (e : Nat) (C : Con) (x : C.X) (y : C.Y) : Prop := vc Tryz.prog tab f.ntmps e (match f.body with | some c => c | none => .skip) (retK tab C f.results.toList y) (C.shIn x).st
end Go.Proofs
