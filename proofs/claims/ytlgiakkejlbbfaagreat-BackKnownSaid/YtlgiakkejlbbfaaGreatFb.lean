import Derived.Test.YtlgiakkejlbbfaaGreatAmV
import Derived.Test.YtlgiakkejlbbfaaGreatProg
set_option linter.unusedVariables false
set_option maxRecDepth 100000
set_option maxHeartbeats 8000000
namespace Go.Proofs
open Go.AM
def ti2 : TI := ⟨(.int .i64), 1, 8, (.int .i64 0), some (.int .i64)⟩
theorem ti2_ok : ti2.Ok Tryz.prog 2 := TI.ok_of (by kernel_rfl) (by kernel_rfl) (by intro y hy; cases hy <;> exact ⟨rfl, rfl⟩) (by decide)
def ti3 : TI := ⟨(.int .i64), 1, 8, (.int .i64 0), some (.int .i64)⟩
theorem ti3_ok : ti3.Ok Tryz.prog 3 := TI.ok_of (by kernel_rfl) (by kernel_rfl) (by intro y hy; cases hy <;> exact ⟨rfl, rfl⟩) (by decide)
def ti4 : TI := ⟨.bool, 1, 1, (.bool false), some .bool⟩
theorem ti4_ok : ti4.Ok Tryz.prog 4 := TI.ok_of (by kernel_rfl) (by kernel_rfl) (by intro y hy; cases hy <;> exact ⟨rfl, rfl⟩) (by decide)
def ti5 : TI := ⟨(.int .u8), 1, 1, (.int .u8 0), some (.int .u8)⟩
theorem ti5_ok : ti5.Ok Tryz.prog 5 := TI.ok_of (by kernel_rfl) (by kernel_rfl) (by intro y hy; cases hy <;> exact ⟨rfl, rfl⟩) (by decide)
def ti9 : TI := ⟨.string, 1, 16, (.string ⟨#[]⟩), some .str⟩
theorem ti9_ok : ti9.Ok Tryz.prog 9 := TI.ok_of (by kernel_rfl) (by kernel_rfl) (by intro y hy; cases hy <;> exact ⟨rfl, rfl⟩) (by decide)
def ti23 : TI := ⟨(.pointer 70), 1, 8, (.pointer none), none⟩
theorem ti23_ok : ti23.Ok Tryz.prog 23 := TI.ok_of (by kernel_rfl) (by kernel_rfl) (by intro y hy; cases hy <;> exact ⟨rfl, rfl⟩) (by decide)
def ti25 : TI := ⟨(.int .i64), 1, 8, (.int .i64 0), some (.int .i64)⟩
theorem ti25_ok : ti25.Ok Tryz.prog 25 := TI.ok_of (by kernel_rfl) (by kernel_rfl) (by intro y hy; cases hy <;> exact ⟨rfl, rfl⟩) (by decide)
def ti28 : TI := ⟨(.slice 3), 1, 24, (.slice none 0 0), some (.sl (.int .i64))⟩
theorem ti28_ok : ti28.Ok Tryz.prog 28 := TI.ok_of (by kernel_rfl) (by kernel_rfl) (by intro y hy; cases hy <;> exact ⟨rfl, rfl⟩) (by decide)
def ti29 : TI := ⟨(.slice 33), 1, 24, (.slice none 0 0), some (.sl (.int .i64))⟩
theorem ti29_ok : ti29.Ok Tryz.prog 29 := TI.ok_of (by kernel_rfl) (by kernel_rfl) (by intro y hy; cases hy <;> exact ⟨rfl, rfl⟩) (by decide)
def ti31 : TI := ⟨(.struct #[⟨"Dims", 28, 0, false, "", "", 0⟩, ⟨"V", 29, 1, false, "", "", 24⟩]), 2, 48, (.agg #[(.slice none 0 0), (.slice none 0 0)]), some (.p (.sl (.int .i64)) (.sl (.int .i64)))⟩
theorem ti31_ok : ti31.Ok Tryz.prog 31 := TI.ok_of (by kernel_rfl) (by kernel_rfl) (by intro y hy; cases hy <;> exact ⟨rfl, rfl⟩) (by decide)
def ti33 : TI := ⟨(.int .i64), 1, 8, (.int .i64 0), some (.int .i64)⟩
theorem ti33_ok : ti33.Ok Tryz.prog 33 := TI.ok_of (by kernel_rfl) (by kernel_rfl) (by intro y hy; cases hy <;> exact ⟨rfl, rfl⟩) (by decide)
def ti34 : TI := ⟨(.slice 31), 1, 24, (.slice none 0 0), some (.sl (.p (.sl (.int .i64)) (.sl (.int .i64))))⟩
theorem ti34_ok : ti34.Ok Tryz.prog 34 := TI.ok_of (by kernel_rfl) (by kernel_rfl) (by intro y hy; cases hy <;> exact ⟨rfl, rfl⟩) (by decide)
def ti41 : TI := ⟨(.slice 89), 1, 24, (.slice none 0 0), some (.sl (.p (.int .i64) (.p (.int .i64) (.p (.int .i64) (.p (.int .i64) (.p (.sl (.int .i64)) (.sl (.int .i64))))))))⟩
theorem ti41_ok : ti41.Ok Tryz.prog 41 := TI.ok_of (by kernel_rfl) (by kernel_rfl) (by intro y hy; cases hy <;> exact ⟨rfl, rfl⟩) (by decide)
def ti43 : TI := ⟨(.pointer 49), 1, 8, (.pointer none), none⟩
theorem ti43_ok : ti43.Ok Tryz.prog 43 := TI.ok_of (by kernel_rfl) (by kernel_rfl) (by intro y hy; cases hy <;> exact ⟨rfl, rfl⟩) (by decide)
def ti47 : TI := ⟨(.slice 51), 1, 24, (.slice none 0 0), some (.sl (.p (.int .i64) (.p (.int .i64) (.p (.int .i64) (.p (.int .i64) (.p (.sl (.int .i64)) (.sl (.int .i64))))))))⟩
theorem ti47_ok : ti47.Ok Tryz.prog 47 := TI.ok_of (by kernel_rfl) (by kernel_rfl) (by intro y hy; cases hy <;> exact ⟨rfl, rfl⟩) (by decide)
def ti49 : TI := ⟨(.struct #[⟨"L", 47, 0, false, "", "", 0⟩]), 1, 24, (.agg #[(.slice none 0 0)]), some (.p (.sl (.p (.int .i64) (.p (.int .i64) (.p (.int .i64) (.p (.int .i64) (.p (.sl (.int .i64)) (.sl (.int .i64)))))))) .u)⟩
theorem ti49_ok : ti49.Ok Tryz.prog 49 := TI.ok_of (by kernel_rfl) (by kernel_rfl) (by intro y hy; cases hy <;> exact ⟨rfl, rfl⟩) (by decide)
def ti51 : TI := ⟨(.struct #[⟨"Op", 3, 0, false, "", "", 0⟩, ⟨"A", 3, 1, false, "", "", 8⟩, ⟨"B", 3, 2, false, "", "", 16⟩, ⟨"K", 33, 3, false, "", "", 24⟩, ⟨"T", 31, 4, false, "", "", 32⟩]), 6, 80, (.agg #[(.int .i64 0), (.int .i64 0), (.int .i64 0), (.int .i64 0), (.slice none 0 0), (.slice none 0 0)]), some (.p (.int .i64) (.p (.int .i64) (.p (.int .i64) (.p (.int .i64) (.p (.sl (.int .i64)) (.sl (.int .i64)))))))⟩
theorem ti51_ok : ti51.Ok Tryz.prog 51 := TI.ok_of (by kernel_rfl) (by kernel_rfl) (by intro y hy; cases hy <;> exact ⟨rfl, rfl⟩) (by decide)
def ti58 : TI := ⟨(.slice 60), 1, 24, (.slice none 0 0), some (.sl (.int .i16))⟩
theorem ti58_ok : ti58.Ok Tryz.prog 58 := TI.ok_of (by kernel_rfl) (by kernel_rfl) (by intro y hy; cases hy <;> exact ⟨rfl, rfl⟩) (by decide)
def ti59 : TI := ⟨(.array 2 33), 2, 16, (.agg #[(.int .i64 0), (.int .i64 0)]), none⟩
theorem ti59_ok : ti59.Ok Tryz.prog 59 := TI.ok_of (by kernel_rfl) (by kernel_rfl) (by intro y hy; cases hy <;> exact ⟨rfl, rfl⟩) (by decide)
def ti60 : TI := ⟨(.int .i16), 1, 2, (.int .i16 0), some (.int .i16)⟩
theorem ti60_ok : ti60.Ok Tryz.prog 60 := TI.ok_of (by kernel_rfl) (by kernel_rfl) (by intro y hy; cases hy <;> exact ⟨rfl, rfl⟩) (by decide)
def ti68 : TI := ⟨(.slice 74), 1, 24, (.slice none 0 0), some (.sl (.p (.int .i64) (.p (.int .i64) (.p (.int .i64) (.p (.int .i64) (.p (.sl (.int .i64)) (.sl (.int .i64))))))))⟩
theorem ti68_ok : ti68.Ok Tryz.prog 68 := TI.ok_of (by kernel_rfl) (by kernel_rfl) (by intro y hy; cases hy <;> exact ⟨rfl, rfl⟩) (by decide)
def ti70 : TI := ⟨(.struct #[⟨"l", 68, 0, false, "", "carousel/tape", 0⟩]), 1, 24, (.agg #[(.slice none 0 0)]), some (.p (.sl (.p (.int .i64) (.p (.int .i64) (.p (.int .i64) (.p (.int .i64) (.p (.sl (.int .i64)) (.sl (.int .i64)))))))) .u)⟩
theorem ti70_ok : ti70.Ok Tryz.prog 70 := TI.ok_of (by kernel_rfl) (by kernel_rfl) (by intro y hy; cases hy <;> exact ⟨rfl, rfl⟩) (by decide)
def ti74 : TI := ⟨(.struct #[⟨"Op", 3, 0, false, "", "", 0⟩, ⟨"A", 3, 1, false, "", "", 8⟩, ⟨"B", 3, 2, false, "", "", 16⟩, ⟨"K", 33, 3, false, "", "", 24⟩, ⟨"T", 31, 4, false, "", "", 32⟩]), 6, 80, (.agg #[(.int .i64 0), (.int .i64 0), (.int .i64 0), (.int .i64 0), (.slice none 0 0), (.slice none 0 0)]), some (.p (.int .i64) (.p (.int .i64) (.p (.int .i64) (.p (.int .i64) (.p (.sl (.int .i64)) (.sl (.int .i64)))))))⟩
theorem ti74_ok : ti74.Ok Tryz.prog 74 := TI.ok_of (by kernel_rfl) (by kernel_rfl) (by intro y hy; cases hy <;> exact ⟨rfl, rfl⟩) (by decide)
def ti75 : TI := ⟨(.pointer 78), 1, 8, (.pointer none), none⟩
theorem ti75_ok : ti75.Ok Tryz.prog 75 := TI.ok_of (by kernel_rfl) (by kernel_rfl) (by intro y hy; cases hy <;> exact ⟨rfl, rfl⟩) (by decide)
def ti76 : TI := ⟨(.slice 4), 1, 24, (.slice none 0 0), some (.sl .bool)⟩
theorem ti76_ok : ti76.Ok Tryz.prog 76 := TI.ok_of (by kernel_rfl) (by kernel_rfl) (by intro y hy; cases hy <;> exact ⟨rfl, rfl⟩) (by decide)
def ti78 : TI := ⟨(.struct #[⟨"l", 34, 0, false, "", "carousel/back", 0⟩, ⟨"given", 76, 1, false, "", "carousel/back", 24⟩]), 2, 48, (.agg #[(.slice none 0 0), (.slice none 0 0)]), some (.p (.sl (.p (.sl (.int .i64)) (.sl (.int .i64)))) (.sl .bool))⟩
theorem ti78_ok : ti78.Ok Tryz.prog 78 := TI.ok_of (by kernel_rfl) (by kernel_rfl) (by intro y hy; cases hy <;> exact ⟨rfl, rfl⟩) (by decide)
def ti89 : TI := ⟨(.struct #[⟨"Op", 3, 0, false, "", "", 0⟩, ⟨"A", 3, 1, false, "", "", 8⟩, ⟨"B", 3, 2, false, "", "", 16⟩, ⟨"K", 33, 3, false, "", "", 24⟩, ⟨"T", 31, 4, false, "", "", 32⟩]), 6, 80, (.agg #[(.int .i64 0), (.int .i64 0), (.int .i64 0), (.int .i64 0), (.slice none 0 0), (.slice none 0 0)]), some (.p (.int .i64) (.p (.int .i64) (.p (.int .i64) (.p (.int .i64) (.p (.sl (.int .i64)) (.sl (.int .i64)))))))⟩
theorem ti89_ok : ti89.Ok Tryz.prog 89 := TI.ok_of (by kernel_rfl) (by kernel_rfl) (by intro y hy; cases hy <;> exact ⟨rfl, rfl⟩) (by decide)
def ti102 : TI := ⟨(.int .u64), 1, 8, (.int .u64 0), some (.int .u64)⟩
theorem ti102_ok : ti102.Ok Tryz.prog 102 := TI.ok_of (by kernel_rfl) (by kernel_rfl) (by intro y hy; cases hy <;> exact ⟨rfl, rfl⟩) (by decide)
def ti103 : TI := ⟨(.array 4 102), 4, 32, (.agg #[(.int .u64 0), (.int .u64 0), (.int .u64 0), (.int .u64 0)]), none⟩
theorem ti103_ok : ti103.Ok Tryz.prog 103 := TI.ok_of (by kernel_rfl) (by kernel_rfl) (by intro y hy; cases hy <;> exact ⟨rfl, rfl⟩) (by decide)
def ti105 : TI := ⟨(.struct #[⟨"Neg", 4, 0, false, "", "", 0⟩, ⟨"M", 103, 1, false, "", "", 8⟩]), 5, 40, (.agg #[(.bool false), (.int .u64 0), (.int .u64 0), (.int .u64 0), (.int .u64 0)]), none⟩
theorem ti105_ok : ti105.Ok Tryz.prog 105 := TI.ok_of (by kernel_rfl) (by kernel_rfl) (by intro y hy; cases hy <;> exact ⟨rfl, rfl⟩) (by decide)
def ti116 : TI := ⟨(.pointer 150), 1, 8, (.pointer none), none⟩
theorem ti116_ok : ti116.Ok Tryz.prog 116 := TI.ok_of (by kernel_rfl) (by kernel_rfl) (by intro y hy; cases hy <;> exact ⟨rfl, rfl⟩) (by decide)
def ti136 : TI := ⟨(.struct #[⟨"Hi", 2, 0, false, "", "", 0⟩, ⟨"Lo", 102, 1, false, "", "", 8⟩]), 2, 16, (.agg #[(.int .i64 0), (.int .u64 0)]), some (.p (.int .i64) (.int .u64))⟩
theorem ti136_ok : ti136.Ok Tryz.prog 136 := TI.ok_of (by kernel_rfl) (by kernel_rfl) (by intro y hy; cases hy <;> exact ⟨rfl, rfl⟩) (by decide)
def ti143 : TI := ⟨(.int .u64), 1, 8, (.int .u64 0), some (.int .u64)⟩
theorem ti143_ok : ti143.Ok Tryz.prog 143 := TI.ok_of (by kernel_rfl) (by kernel_rfl) (by intro y hy; cases hy <;> exact ⟨rfl, rfl⟩) (by decide)
def ti148 : TI := ⟨(.array 2 102), 2, 16, (.agg #[(.int .u64 0), (.int .u64 0)]), none⟩
theorem ti148_ok : ti148.Ok Tryz.prog 148 := TI.ok_of (by kernel_rfl) (by kernel_rfl) (by intro y hy; cases hy <;> exact ⟨rfl, rfl⟩) (by decide)
def ti150 : TI := ⟨(.struct #[⟨"t", 23, 0, false, "", "carousel/loss", 0⟩, ⟨"was", 3, 1, false, "", "carousel/loss", 8⟩, ⟨"e", 25, 2, false, "", "carousel/loss", 16⟩]), 3, 24, (.agg #[(.pointer none), (.int .i64 0), (.int .i64 0)]), none⟩
theorem ti150_ok : ti150.Ok Tryz.prog 150 := TI.ok_of (by kernel_rfl) (by kernel_rfl) (by intro y hy; cases hy <;> exact ⟨rfl, rfl⟩) (by decide)
def ti159 : TI := ⟨(.struct #[⟨"top", 2, 0, false, "", "carousel/wide", 0⟩, ⟨"low", 136, 1, false, "", "carousel/wide", 8⟩]), 3, 24, (.agg #[(.int .i64 0), (.int .i64 0), (.int .u64 0)]), some (.p (.int .i64) (.p (.int .i64) (.int .u64)))⟩
theorem ti159_ok : ti159.Ok Tryz.prog 159 := TI.ok_of (by kernel_rfl) (by kernel_rfl) (by intro y hy; cases hy <;> exact ⟨rfl, rfl⟩) (by decide)
def ti162 : TI := ⟨(.slice 136), 1, 24, (.slice none 0 0), some (.sl (.p (.int .i64) (.int .u64)))⟩
theorem ti162_ok : ti162.Ok Tryz.prog 162 := TI.ok_of (by kernel_rfl) (by kernel_rfl) (by intro y hy; cases hy <;> exact ⟨rfl, rfl⟩) (by decide)
def ti178 : TI := ⟨(.int .u32), 1, 4, (.int .u32 0), some (.int .u32)⟩
theorem ti178_ok : ti178.Ok Tryz.prog 178 := TI.ok_of (by kernel_rfl) (by kernel_rfl) (by intro y hy; cases hy <;> exact ⟨rfl, rfl⟩) (by decide)
def ti183 : TI := ⟨(.pointer 159), 1, 8, (.pointer none), none⟩
theorem ti183_ok : ti183.Ok Tryz.prog 183 := TI.ok_of (by kernel_rfl) (by kernel_rfl) (by intro y hy; cases hy <;> exact ⟨rfl, rfl⟩) (by decide)
def tab : TE := [(2, ti2), (3, ti3), (4, ti4), (5, ti5), (9, ti9), (23, ti23), (25, ti25), (28, ti28), (29, ti29), (31, ti31), (33, ti33), (34, ti34), (41, ti41), (43, ti43), (47, ti47), (49, ti49), (51, ti51), (58, ti58), (59, ti59), (60, ti60), (68, ti68), (70, ti70), (74, ti74), (75, ti75), (76, ti76), (78, ti78), (89, ti89), (102, ti102), (103, ti103), (105, ti105), (116, ti116), (136, ti136), (143, ti143), (148, ti148), (150, ti150), (159, ti159), (162, ti162), (178, ti178), (183, ti183)]
theorem tab_ok : tab.Ok Tryz.prog := TE.ok_cons ti2_ok (TE.ok_cons ti3_ok (TE.ok_cons ti4_ok (TE.ok_cons ti5_ok (TE.ok_cons ti9_ok (TE.ok_cons ti23_ok (TE.ok_cons ti25_ok (TE.ok_cons ti28_ok (TE.ok_cons ti29_ok (TE.ok_cons ti31_ok (TE.ok_cons ti33_ok (TE.ok_cons ti34_ok (TE.ok_cons ti41_ok (TE.ok_cons ti43_ok (TE.ok_cons ti47_ok (TE.ok_cons ti49_ok (TE.ok_cons ti51_ok (TE.ok_cons ti58_ok (TE.ok_cons ti59_ok (TE.ok_cons ti60_ok (TE.ok_cons ti68_ok (TE.ok_cons ti70_ok (TE.ok_cons ti74_ok (TE.ok_cons ti75_ok (TE.ok_cons ti76_ok (TE.ok_cons ti78_ok (TE.ok_cons ti89_ok (TE.ok_cons ti102_ok (TE.ok_cons ti103_ok (TE.ok_cons ti105_ok (TE.ok_cons ti116_ok (TE.ok_cons ti136_ok (TE.ok_cons ti143_ok (TE.ok_cons ti148_ok (TE.ok_cons ti150_ok (TE.ok_cons ti159_ok (TE.ok_cons ti162_ok (TE.ok_cons ti178_ok (TE.ok_cons ti183_ok (TE.ok_nil _)))))))))))))))))))))))))))))))))))))))
theorem mixed : Tryz.prog.follows .mixedOrders = true := by kernel_rfl
theorem add64_ok : ExtI Tryz.prog 151 (ext3 add64) := ext_add64 (fn := Tryz.f151) (by kernel_rfl) (by kernel_rfl) (by kernel_rfl) (by kernel_rfl) (by kernel_rfl)
theorem sub64_ok : ExtI Tryz.prog 183 (ext3 sub64) := ext_sub64 (fn := Tryz.f183) (by kernel_rfl) (by kernel_rfl) (by kernel_rfl) (by kernel_rfl) (by kernel_rfl)
end Go.Proofs
