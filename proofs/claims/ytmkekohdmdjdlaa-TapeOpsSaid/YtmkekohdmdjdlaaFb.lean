import Derived.Test.YtmkekohdmdjdlaaAmV
import Derived.Test.YtmkekohdmdjdlaaProg
set_option linter.unusedVariables false
set_option maxRecDepth 100000
set_option maxHeartbeats 8000000
namespace Go.Proofs
open Go.AM
def ti2 : TI := ⟨(.int .i64), 1, 8, (.int .i64 0), some (.int .i64)⟩
theorem ti2_ok : ti2.Ok Try.prog 2 := TI.ok_of (by kernel_rfl) (by kernel_rfl) (by intro y hy; cases hy <;> exact ⟨rfl, rfl⟩) (by decide)
def ti3 : TI := ⟨(.int .i64), 1, 8, (.int .i64 0), some (.int .i64)⟩
theorem ti3_ok : ti3.Ok Try.prog 3 := TI.ok_of (by kernel_rfl) (by kernel_rfl) (by intro y hy; cases hy <;> exact ⟨rfl, rfl⟩) (by decide)
def ti4 : TI := ⟨.bool, 1, 1, (.bool false), some .bool⟩
theorem ti4_ok : ti4.Ok Try.prog 4 := TI.ok_of (by kernel_rfl) (by kernel_rfl) (by intro y hy; cases hy <;> exact ⟨rfl, rfl⟩) (by decide)
def ti5 : TI := ⟨(.int .u8), 1, 1, (.int .u8 0), some (.int .u8)⟩
theorem ti5_ok : ti5.Ok Try.prog 5 := TI.ok_of (by kernel_rfl) (by kernel_rfl) (by intro y hy; cases hy <;> exact ⟨rfl, rfl⟩) (by decide)
def ti9 : TI := ⟨.string, 1, 16, (.string ⟨#[]⟩), some .str⟩
theorem ti9_ok : ti9.Ok Try.prog 9 := TI.ok_of (by kernel_rfl) (by kernel_rfl) (by intro y hy; cases hy <;> exact ⟨rfl, rfl⟩) (by decide)
def ti22 : TI := ⟨(.slice 24), 1, 24, (.slice none 0 0), some (.sl (.int .i64))⟩
theorem ti22_ok : ti22.Ok Try.prog 22 := TI.ok_of (by kernel_rfl) (by kernel_rfl) (by intro y hy; cases hy <;> exact ⟨rfl, rfl⟩) (by decide)
def ti24 : TI := ⟨(.int .i64), 1, 8, (.int .i64 0), some (.int .i64)⟩
theorem ti24_ok : ti24.Ok Try.prog 24 := TI.ok_of (by kernel_rfl) (by kernel_rfl) (by intro y hy; cases hy <;> exact ⟨rfl, rfl⟩) (by decide)
def ti27 : TI := ⟨(.slice 3), 1, 24, (.slice none 0 0), some (.sl (.int .i64))⟩
theorem ti27_ok : ti27.Ok Try.prog 27 := TI.ok_of (by kernel_rfl) (by kernel_rfl) (by intro y hy; cases hy <;> exact ⟨rfl, rfl⟩) (by decide)
def ti29 : TI := ⟨(.struct #[⟨"Dims", 27, 0, false, "", "", 0⟩, ⟨"V", 22, 1, false, "", "", 24⟩]), 2, 48, (.agg #[(.slice none 0 0), (.slice none 0 0)]), some (.p (.sl (.int .i64)) (.sl (.int .i64)))⟩
theorem ti29_ok : ti29.Ok Try.prog 29 := TI.ok_of (by kernel_rfl) (by kernel_rfl) (by intro y hy; cases hy <;> exact ⟨rfl, rfl⟩) (by decide)
def ti31 : TI := ⟨(.int .i64), 1, 8, (.int .i64 0), some (.int .i64)⟩
theorem ti31_ok : ti31.Ok Try.prog 31 := TI.ok_of (by kernel_rfl) (by kernel_rfl) (by intro y hy; cases hy <;> exact ⟨rfl, rfl⟩) (by decide)
def ti44 : TI := ⟨(.pointer 92), 1, 8, (.pointer none), none⟩
theorem ti44_ok : ti44.Ok Try.prog 44 := TI.ok_of (by kernel_rfl) (by kernel_rfl) (by intro y hy; cases hy <;> exact ⟨rfl, rfl⟩) (by decide)
def ti51 : TI := ⟨(.struct #[⟨"Op", 3, 0, false, "", "", 0⟩, ⟨"A", 3, 1, false, "", "", 8⟩, ⟨"B", 3, 2, false, "", "", 16⟩, ⟨"K", 24, 3, false, "", "", 24⟩, ⟨"T", 29, 4, false, "", "", 32⟩]), 6, 80, (.agg #[(.int .i64 0), (.int .i64 0), (.int .i64 0), (.int .i64 0), (.slice none 0 0), (.slice none 0 0)]), some (.p (.int .i64) (.p (.int .i64) (.p (.int .i64) (.p (.int .i64) (.p (.sl (.int .i64)) (.sl (.int .i64)))))))⟩
theorem ti51_ok : ti51.Ok Try.prog 51 := TI.ok_of (by kernel_rfl) (by kernel_rfl) (by intro y hy; cases hy <;> exact ⟨rfl, rfl⟩) (by decide)
def ti59 : TI := ⟨(.array 4 29), 8, 192, (.agg #[(.slice none 0 0), (.slice none 0 0), (.slice none 0 0), (.slice none 0 0), (.slice none 0 0), (.slice none 0 0), (.slice none 0 0), (.slice none 0 0)]), none⟩
theorem ti59_ok : ti59.Ok Try.prog 59 := TI.ok_of (by kernel_rfl) (by kernel_rfl) (by intro y hy; cases hy <;> exact ⟨rfl, rfl⟩) (by decide)
def ti60 : TI := ⟨(.array 4 31), 4, 32, (.agg #[(.int .i64 0), (.int .i64 0), (.int .i64 0), (.int .i64 0)]), none⟩
theorem ti60_ok : ti60.Ok Try.prog 60 := TI.ok_of (by kernel_rfl) (by kernel_rfl) (by intro y hy; cases hy <;> exact ⟨rfl, rfl⟩) (by decide)
def ti62 : TI := ⟨(.array 4 3), 4, 32, (.agg #[(.int .i64 0), (.int .i64 0), (.int .i64 0), (.int .i64 0)]), none⟩
theorem ti62_ok : ti62.Ok Try.prog 62 := TI.ok_of (by kernel_rfl) (by kernel_rfl) (by intro y hy; cases hy <;> exact ⟨rfl, rfl⟩) (by decide)
def ti64 : TI := ⟨(.int .u64), 1, 8, (.int .u64 0), some (.int .u64)⟩
theorem ti64_ok : ti64.Ok Try.prog 64 := TI.ok_of (by kernel_rfl) (by kernel_rfl) (by intro y hy; cases hy <;> exact ⟨rfl, rfl⟩) (by decide)
def ti66 : TI := ⟨(.struct #[⟨"Hi", 2, 0, false, "", "", 0⟩, ⟨"Lo", 64, 1, false, "", "", 8⟩]), 2, 16, (.agg #[(.int .i64 0), (.int .u64 0)]), some (.p (.int .i64) (.int .u64))⟩
theorem ti66_ok : ti66.Ok Try.prog 66 := TI.ok_of (by kernel_rfl) (by kernel_rfl) (by intro y hy; cases hy <;> exact ⟨rfl, rfl⟩) (by decide)
def ti68 : TI := ⟨(.struct #[⟨"top", 2, 0, false, "", "carousel/wide", 0⟩, ⟨"low", 66, 1, false, "", "carousel/wide", 8⟩]), 3, 24, (.agg #[(.int .i64 0), (.int .i64 0), (.int .u64 0)]), some (.p (.int .i64) (.p (.int .i64) (.int .u64)))⟩
theorem ti68_ok : ti68.Ok Try.prog 68 := TI.ok_of (by kernel_rfl) (by kernel_rfl) (by intro y hy; cases hy <;> exact ⟨rfl, rfl⟩) (by decide)
def ti71 : TI := ⟨(.array 4 64), 4, 32, (.agg #[(.int .u64 0), (.int .u64 0), (.int .u64 0), (.int .u64 0)]), none⟩
theorem ti71_ok : ti71.Ok Try.prog 71 := TI.ok_of (by kernel_rfl) (by kernel_rfl) (by intro y hy; cases hy <;> exact ⟨rfl, rfl⟩) (by decide)
def ti73 : TI := ⟨(.struct #[⟨"Neg", 4, 0, false, "", "", 0⟩, ⟨"M", 71, 1, false, "", "", 8⟩]), 5, 40, (.agg #[(.bool false), (.int .u64 0), (.int .u64 0), (.int .u64 0), (.int .u64 0)]), none⟩
theorem ti73_ok : ti73.Ok Try.prog 73 := TI.ok_of (by kernel_rfl) (by kernel_rfl) (by intro y hy; cases hy <;> exact ⟨rfl, rfl⟩) (by decide)
def ti83 : TI := ⟨(.slice 66), 1, 24, (.slice none 0 0), some (.sl (.p (.int .i64) (.int .u64)))⟩
theorem ti83_ok : ti83.Ok Try.prog 83 := TI.ok_of (by kernel_rfl) (by kernel_rfl) (by intro y hy; cases hy <;> exact ⟨rfl, rfl⟩) (by decide)
def ti90 : TI := ⟨(.slice 51), 1, 24, (.slice none 0 0), some (.sl (.p (.int .i64) (.p (.int .i64) (.p (.int .i64) (.p (.int .i64) (.p (.sl (.int .i64)) (.sl (.int .i64))))))))⟩
theorem ti90_ok : ti90.Ok Try.prog 90 := TI.ok_of (by kernel_rfl) (by kernel_rfl) (by intro y hy; cases hy <;> exact ⟨rfl, rfl⟩) (by decide)
def ti92 : TI := ⟨(.struct #[⟨"l", 90, 0, false, "", "carousel/tape", 0⟩]), 1, 24, (.agg #[(.slice none 0 0)]), some (.p (.sl (.p (.int .i64) (.p (.int .i64) (.p (.int .i64) (.p (.int .i64) (.p (.sl (.int .i64)) (.sl (.int .i64)))))))) .u)⟩
theorem ti92_ok : ti92.Ok Try.prog 92 := TI.ok_of (by kernel_rfl) (by kernel_rfl) (by intro y hy; cases hy <;> exact ⟨rfl, rfl⟩) (by decide)
def ti99 : TI := ⟨(.pointer 68), 1, 8, (.pointer none), none⟩
theorem ti99_ok : ti99.Ok Try.prog 99 := TI.ok_of (by kernel_rfl) (by kernel_rfl) (by intro y hy; cases hy <;> exact ⟨rfl, rfl⟩) (by decide)
def ti103 : TI := ⟨(.int .u64), 1, 8, (.int .u64 0), some (.int .u64)⟩
theorem ti103_ok : ti103.Ok Try.prog 103 := TI.ok_of (by kernel_rfl) (by kernel_rfl) (by intro y hy; cases hy <;> exact ⟨rfl, rfl⟩) (by decide)
def ti108 : TI := ⟨(.array 2 64), 2, 16, (.agg #[(.int .u64 0), (.int .u64 0)]), none⟩
theorem ti108_ok : ti108.Ok Try.prog 108 := TI.ok_of (by kernel_rfl) (by kernel_rfl) (by intro y hy; cases hy <;> exact ⟨rfl, rfl⟩) (by decide)
def ti142 : TI := ⟨(.int .u32), 1, 4, (.int .u32 0), some (.int .u32)⟩
theorem ti142_ok : ti142.Ok Try.prog 142 := TI.ok_of (by kernel_rfl) (by kernel_rfl) (by intro y hy; cases hy <;> exact ⟨rfl, rfl⟩) (by decide)
def tab : TE := [(2, ti2), (3, ti3), (4, ti4), (5, ti5), (9, ti9), (22, ti22), (24, ti24), (27, ti27), (29, ti29), (31, ti31), (44, ti44), (51, ti51), (59, ti59), (60, ti60), (62, ti62), (64, ti64), (66, ti66), (68, ti68), (71, ti71), (73, ti73), (83, ti83), (90, ti90), (92, ti92), (99, ti99), (103, ti103), (108, ti108), (142, ti142)]
theorem tab_ok : tab.Ok Try.prog := TE.ok_cons ti2_ok (TE.ok_cons ti3_ok (TE.ok_cons ti4_ok (TE.ok_cons ti5_ok (TE.ok_cons ti9_ok (TE.ok_cons ti22_ok (TE.ok_cons ti24_ok (TE.ok_cons ti27_ok (TE.ok_cons ti29_ok (TE.ok_cons ti31_ok (TE.ok_cons ti44_ok (TE.ok_cons ti51_ok (TE.ok_cons ti59_ok (TE.ok_cons ti60_ok (TE.ok_cons ti62_ok (TE.ok_cons ti64_ok (TE.ok_cons ti66_ok (TE.ok_cons ti68_ok (TE.ok_cons ti71_ok (TE.ok_cons ti73_ok (TE.ok_cons ti83_ok (TE.ok_cons ti90_ok (TE.ok_cons ti92_ok (TE.ok_cons ti99_ok (TE.ok_cons ti103_ok (TE.ok_cons ti108_ok (TE.ok_cons ti142_ok (TE.ok_nil _)))))))))))))))))))))))))))
theorem mixed : Try.prog.follows .mixedOrders = true := by kernel_rfl
theorem add64_ok : ExtI Try.prog 67 (ext3 add64) := ext_add64 (fn := Try.f67) (by kernel_rfl) (by kernel_rfl) (by kernel_rfl) (by kernel_rfl) (by kernel_rfl)
theorem sub64_ok : ExtI Try.prog 115 (ext3 sub64) := ext_sub64 (fn := Try.f115) (by kernel_rfl) (by kernel_rfl) (by kernel_rfl) (by kernel_rfl) (by kernel_rfl)
end Go.Proofs
