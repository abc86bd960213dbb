import Derived.Test.YtlgiakkejlbbfaaAmV
import Derived.Test.YtlgiakkejlbbfaaProg
set_option linter.unusedVariables false
set_option maxRecDepth 100000
set_option maxHeartbeats 8000000
namespace Go.Proofs
open Go.AM
def ti2 : TI := ⟨(.int .i64), 1, 8, (.int .i64 0), some (.int .i64)⟩
theorem ti2_ok : ti2.Ok Try.prog 2 := TI.ok_of (by kernel_rfl) (by kernel_rfl) (by intro y hy; cases hy <;> exact ⟨rfl, rfl⟩) (by decide)
def ti3 : TI := ⟨(.int .i64), 1, 8, (.int .i64 0), some (.int .i64)⟩
theorem ti3_ok : ti3.Ok Try.prog 3 := TI.ok_of (by kernel_rfl) (by kernel_rfl) (by intro y hy; cases hy <;> exact ⟨rfl, rfl⟩) (by decide)
def ti4 : TI := ⟨.bool, 1, 1, (.bool false), some .bool⟩
theorem ti4_ok : ti4.Ok Try.prog 4 := TI.ok_of (by kernel_rfl) (by kernel_rfl) (by intro y hy; cases hy <;> exact ⟨rfl, rfl⟩) (by decide)
def ti5 : TI := ⟨(.int .u8), 1, 1, (.int .u8 0), some (.int .u8)⟩
theorem ti5_ok : ti5.Ok Try.prog 5 := TI.ok_of (by kernel_rfl) (by kernel_rfl) (by intro y hy; cases hy <;> exact ⟨rfl, rfl⟩) (by decide)
def ti9 : TI := ⟨.string, 1, 16, (.string ⟨#[]⟩), some .str⟩
theorem ti9_ok : ti9.Ok Try.prog 9 := TI.ok_of (by kernel_rfl) (by kernel_rfl) (by intro y hy; cases hy <;> exact ⟨rfl, rfl⟩) (by decide)
def ti22 : TI := ⟨(.slice 24), 1, 24, (.slice none 0 0), some (.sl (.int .i64))⟩
theorem ti22_ok : ti22.Ok Try.prog 22 := TI.ok_of (by kernel_rfl) (by kernel_rfl) (by intro y hy; cases hy <;> exact ⟨rfl, rfl⟩) (by decide)
def ti24 : TI := ⟨(.int .i64), 1, 8, (.int .i64 0), some (.int .i64)⟩
theorem ti24_ok : ti24.Ok Try.prog 24 := TI.ok_of (by kernel_rfl) (by kernel_rfl) (by intro y hy; cases hy <;> exact ⟨rfl, rfl⟩) (by decide)
def ti25 : TI := ⟨(.pointer 44), 1, 8, (.pointer none), none⟩
theorem ti25_ok : ti25.Ok Try.prog 25 := TI.ok_of (by kernel_rfl) (by kernel_rfl) (by intro y hy; cases hy <;> exact ⟨rfl, rfl⟩) (by decide)
def ti27 : TI := ⟨(.int .i64), 1, 8, (.int .i64 0), some (.int .i64)⟩
theorem ti27_ok : ti27.Ok Try.prog 27 := TI.ok_of (by kernel_rfl) (by kernel_rfl) (by intro y hy; cases hy <;> exact ⟨rfl, rfl⟩) (by decide)
def ti30 : TI := ⟨(.slice 3), 1, 24, (.slice none 0 0), some (.sl (.int .i64))⟩
theorem ti30_ok : ti30.Ok Try.prog 30 := TI.ok_of (by kernel_rfl) (by kernel_rfl) (by intro y hy; cases hy <;> exact ⟨rfl, rfl⟩) (by decide)
def ti32 : TI := ⟨(.struct #[⟨"Dims", 30, 0, false, "", "", 0⟩, ⟨"V", 22, 1, false, "", "", 24⟩]), 2, 48, (.agg #[(.slice none 0 0), (.slice none 0 0)]), some (.p (.sl (.int .i64)) (.sl (.int .i64)))⟩
theorem ti32_ok : ti32.Ok Try.prog 32 := TI.ok_of (by kernel_rfl) (by kernel_rfl) (by intro y hy; cases hy <;> exact ⟨rfl, rfl⟩) (by decide)
def ti38 : TI := ⟨(.slice 39), 1, 24, (.slice none 0 0), some (.sl (.int .i16))⟩
theorem ti38_ok : ti38.Ok Try.prog 38 := TI.ok_of (by kernel_rfl) (by kernel_rfl) (by intro y hy; cases hy <;> exact ⟨rfl, rfl⟩) (by decide)
def ti39 : TI := ⟨(.int .i16), 1, 2, (.int .i16 0), some (.int .i16)⟩
theorem ti39_ok : ti39.Ok Try.prog 39 := TI.ok_of (by kernel_rfl) (by kernel_rfl) (by intro y hy; cases hy <;> exact ⟨rfl, rfl⟩) (by decide)
def ti42 : TI := ⟨(.slice 49), 1, 24, (.slice none 0 0), some (.sl (.p (.int .i64) (.p (.int .i64) (.p (.int .i64) (.p (.int .i64) (.p (.sl (.int .i64)) (.sl (.int .i64))))))))⟩
theorem ti42_ok : ti42.Ok Try.prog 42 := TI.ok_of (by kernel_rfl) (by kernel_rfl) (by intro y hy; cases hy <;> exact ⟨rfl, rfl⟩) (by decide)
def ti44 : TI := ⟨(.struct #[⟨"l", 42, 0, false, "", "carousel/tape", 0⟩]), 1, 24, (.agg #[(.slice none 0 0)]), some (.p (.sl (.p (.int .i64) (.p (.int .i64) (.p (.int .i64) (.p (.int .i64) (.p (.sl (.int .i64)) (.sl (.int .i64)))))))) .u)⟩
theorem ti44_ok : ti44.Ok Try.prog 44 := TI.ok_of (by kernel_rfl) (by kernel_rfl) (by intro y hy; cases hy <;> exact ⟨rfl, rfl⟩) (by decide)
def ti49 : TI := ⟨(.struct #[⟨"Op", 3, 0, false, "", "", 0⟩, ⟨"A", 3, 1, false, "", "", 8⟩, ⟨"B", 3, 2, false, "", "", 16⟩, ⟨"K", 24, 3, false, "", "", 24⟩, ⟨"T", 32, 4, false, "", "", 32⟩]), 6, 80, (.agg #[(.int .i64 0), (.int .i64 0), (.int .i64 0), (.int .i64 0), (.slice none 0 0), (.slice none 0 0)]), some (.p (.int .i64) (.p (.int .i64) (.p (.int .i64) (.p (.int .i64) (.p (.sl (.int .i64)) (.sl (.int .i64)))))))⟩
theorem ti49_ok : ti49.Ok Try.prog 49 := TI.ok_of (by kernel_rfl) (by kernel_rfl) (by intro y hy; cases hy <;> exact ⟨rfl, rfl⟩) (by decide)
def ti51 : TI := ⟨(.pointer 67), 1, 8, (.pointer none), none⟩
theorem ti51_ok : ti51.Ok Try.prog 51 := TI.ok_of (by kernel_rfl) (by kernel_rfl) (by intro y hy; cases hy <;> exact ⟨rfl, rfl⟩) (by decide)
def ti67 : TI := ⟨(.struct #[⟨"t", 25, 0, false, "", "carousel/loss", 0⟩, ⟨"was", 3, 1, false, "", "carousel/loss", 8⟩, ⟨"e", 27, 2, false, "", "carousel/loss", 16⟩]), 3, 24, (.agg #[(.pointer none), (.int .i64 0), (.int .i64 0)]), none⟩
theorem ti67_ok : ti67.Ok Try.prog 67 := TI.ok_of (by kernel_rfl) (by kernel_rfl) (by intro y hy; cases hy <;> exact ⟨rfl, rfl⟩) (by decide)
def ti71 : TI := ⟨(.int .u64), 1, 8, (.int .u64 0), some (.int .u64)⟩
theorem ti71_ok : ti71.Ok Try.prog 71 := TI.ok_of (by kernel_rfl) (by kernel_rfl) (by intro y hy; cases hy <;> exact ⟨rfl, rfl⟩) (by decide)
def ti76 : TI := ⟨(.int .u32), 1, 4, (.int .u32 0), some (.int .u32)⟩
theorem ti76_ok : ti76.Ok Try.prog 76 := TI.ok_of (by kernel_rfl) (by kernel_rfl) (by intro y hy; cases hy <;> exact ⟨rfl, rfl⟩) (by decide)
def ti79 : TI := ⟨(.int .u64), 1, 8, (.int .u64 0), some (.int .u64)⟩
theorem ti79_ok : ti79.Ok Try.prog 79 := TI.ok_of (by kernel_rfl) (by kernel_rfl) (by intro y hy; cases hy <;> exact ⟨rfl, rfl⟩) (by decide)
def ti100 : TI := ⟨(.struct #[⟨"Hi", 2, 0, false, "", "", 0⟩, ⟨"Lo", 79, 1, false, "", "", 8⟩]), 2, 16, (.agg #[(.int .i64 0), (.int .u64 0)]), some (.p (.int .i64) (.int .u64))⟩
theorem ti100_ok : ti100.Ok Try.prog 100 := TI.ok_of (by kernel_rfl) (by kernel_rfl) (by intro y hy; cases hy <;> exact ⟨rfl, rfl⟩) (by decide)
def ti102 : TI := ⟨(.struct #[⟨"top", 2, 0, false, "", "carousel/wide", 0⟩, ⟨"low", 100, 1, false, "", "carousel/wide", 8⟩]), 3, 24, (.agg #[(.int .i64 0), (.int .i64 0), (.int .u64 0)]), some (.p (.int .i64) (.p (.int .i64) (.int .u64)))⟩
theorem ti102_ok : ti102.Ok Try.prog 102 := TI.ok_of (by kernel_rfl) (by kernel_rfl) (by intro y hy; cases hy <;> exact ⟨rfl, rfl⟩) (by decide)
def ti105 : TI := ⟨(.slice 100), 1, 24, (.slice none 0 0), some (.sl (.p (.int .i64) (.int .u64)))⟩
theorem ti105_ok : ti105.Ok Try.prog 105 := TI.ok_of (by kernel_rfl) (by kernel_rfl) (by intro y hy; cases hy <;> exact ⟨rfl, rfl⟩) (by decide)
def ti118 : TI := ⟨(.pointer 102), 1, 8, (.pointer none), none⟩
theorem ti118_ok : ti118.Ok Try.prog 118 := TI.ok_of (by kernel_rfl) (by kernel_rfl) (by intro y hy; cases hy <;> exact ⟨rfl, rfl⟩) (by decide)
def tab : TE := [(2, ti2), (3, ti3), (4, ti4), (5, ti5), (9, ti9), (22, ti22), (24, ti24), (25, ti25), (27, ti27), (30, ti30), (32, ti32), (38, ti38), (39, ti39), (42, ti42), (44, ti44), (49, ti49), (51, ti51), (67, ti67), (71, ti71), (76, ti76), (79, ti79), (100, ti100), (102, ti102), (105, ti105), (118, ti118)]
theorem tab_ok : tab.Ok Try.prog := TE.ok_cons ti2_ok (TE.ok_cons ti3_ok (TE.ok_cons ti4_ok (TE.ok_cons ti5_ok (TE.ok_cons ti9_ok (TE.ok_cons ti22_ok (TE.ok_cons ti24_ok (TE.ok_cons ti25_ok (TE.ok_cons ti27_ok (TE.ok_cons ti30_ok (TE.ok_cons ti32_ok (TE.ok_cons ti38_ok (TE.ok_cons ti39_ok (TE.ok_cons ti42_ok (TE.ok_cons ti44_ok (TE.ok_cons ti49_ok (TE.ok_cons ti51_ok (TE.ok_cons ti67_ok (TE.ok_cons ti71_ok (TE.ok_cons ti76_ok (TE.ok_cons ti79_ok (TE.ok_cons ti100_ok (TE.ok_cons ti102_ok (TE.ok_cons ti105_ok (TE.ok_cons ti118_ok (TE.ok_nil _)))))))))))))))))))))))))
theorem mixed : Try.prog.follows .mixedOrders = true := by kernel_rfl
theorem add64_ok : ExtI Try.prog 78 (ext3 add64) := ext_add64 (fn := Try.f78) (by kernel_rfl) (by kernel_rfl) (by kernel_rfl) (by kernel_rfl) (by kernel_rfl)
theorem sub64_ok : ExtI Try.prog 101 (ext3 sub64) := ext_sub64 (fn := Try.f101) (by kernel_rfl) (by kernel_rfl) (by kernel_rfl) (by kernel_rfl) (by kernel_rfl)
end Go.Proofs
