import Derived.Test.YtnmfbobdffnblaaGreatAmV
import Derived.Test.YtnmfbobdffnblaaGreatProg
set_option linter.unusedVariables false
set_option maxRecDepth 100000
set_option maxHeartbeats 8000000
namespace Go.Proofs
open Go.AM
def ti2:TI:=⟨(.int .i64),1,8,(.int .i64 0),some (.int .i64)⟩
theorem ti2_ok:ti2.Ok Tryz.prog 2:=TI.ok_of (by kernel_rfl) (by kernel_rfl) (by intro y hy;cases hy <;> exact ⟨rfl,rfl⟩) (by decide)
def ti3:TI:=⟨(.int .i64),1,8,(.int .i64 0),some (.int .i64)⟩
theorem ti3_ok:ti3.Ok Tryz.prog 3:=TI.ok_of (by kernel_rfl) (by kernel_rfl) (by intro y hy;cases hy <;> exact ⟨rfl,rfl⟩) (by decide)
def ti4:TI:=⟨.bool,1,1,(.bool false),some .bool⟩
theorem ti4_ok:ti4.Ok Tryz.prog 4:=TI.ok_of (by kernel_rfl) (by kernel_rfl) (by intro y hy;cases hy <;> exact ⟨rfl,rfl⟩) (by decide)
def ti5:TI:=⟨(.int .u8),1,1,(.int .u8 0),some (.int .u8)⟩
theorem ti5_ok:ti5.Ok Tryz.prog 5:=TI.ok_of (by kernel_rfl) (by kernel_rfl) (by intro y hy;cases hy <;> exact ⟨rfl,rfl⟩) (by decide)
def ti9:TI:=⟨.string,1,16,(.string ⟨#[]⟩),some .str⟩
theorem ti9_ok:ti9.Ok Tryz.prog 9:=TI.ok_of (by kernel_rfl) (by kernel_rfl) (by intro y hy;cases hy <;> exact ⟨rfl,rfl⟩) (by decide)
def ti22:TI:=⟨(.slice 3),1,24,(.slice none 0 0),some (.sl (.int .i64))⟩
theorem ti22_ok:ti22.Ok Tryz.prog 22:=TI.ok_of (by kernel_rfl) (by kernel_rfl) (by intro y hy;cases hy <;> exact ⟨rfl,rfl⟩) (by decide)
def ti23:TI:=⟨(.slice 79),1,24,(.slice none 0 0),some (.sl (.p .str (.p (.int .i64) (.int .i64))))⟩
theorem ti23_ok:ti23.Ok Tryz.prog 23:=TI.ok_of (by kernel_rfl) (by kernel_rfl) (by intro y hy;cases hy <;> exact ⟨rfl,rfl⟩) (by decide)
def ti25 : TI := ⟨(.struct #[⟨"In", 22, 0, false, "", "", 0⟩, ⟨"Layers", 23, 1, false, "", "", 24⟩]), 2, 48, (.agg #[(.slice none 0 0), (.slice none 0 0)]), some (.p (.sl (.int .i64)) (.sl (.p .str (.p (.int .i64) (.int .i64)))))⟩
theorem ti25_ok:ti25.Ok Tryz.prog 25:=TI.ok_of (by kernel_rfl) (by kernel_rfl) (by intro y hy;cases hy <;> exact ⟨rfl,rfl⟩) (by decide)
def ti26:TI:=⟨(.int .i64),1,8,(.int .i64 0),some (.int .i64)⟩
theorem ti26_ok:ti26.Ok Tryz.prog 26:=TI.ok_of (by kernel_rfl) (by kernel_rfl) (by intro y hy;cases hy <;> exact ⟨rfl,rfl⟩) (by decide)
def ti28 : TI := ⟨(.struct #[⟨"Step", 26, 0, false, "", "", 0⟩, ⟨"Keep", 26, 1, false, "", "", 8⟩, ⟨"Bound", 26, 2, false, "", "", 16⟩]), 3, 24, (.agg #[(.int .i64 0), (.int .i64 0), (.int .i64 0)]), some (.p (.int .i64) (.p (.int .i64) (.int .i64)))⟩
theorem ti28_ok:ti28.Ok Tryz.prog 28:=TI.ok_of (by kernel_rfl) (by kernel_rfl) (by intro y hy;cases hy <;> exact ⟨rfl,rfl⟩) (by decide)
def ti29:TI:=⟨(.slice 46),1,24,(.slice none 0 0),some (.sl (.p (.sl (.int .i64)) (.p (.sl (.int .i64)) (.int .i64))))⟩
theorem ti29_ok:ti29.Ok Tryz.prog 29:=TI.ok_of (by kernel_rfl) (by kernel_rfl) (by intro y hy;cases hy <;> exact ⟨rfl,rfl⟩) (by decide)
def ti30:TI:=⟨(.slice 26),1,24,(.slice none 0 0),some (.sl (.int .i64))⟩
theorem ti30_ok:ti30.Ok Tryz.prog 30:=TI.ok_of (by kernel_rfl) (by kernel_rfl) (by intro y hy;cases hy <;> exact ⟨rfl,rfl⟩) (by decide)
def ti32 : TI := ⟨(.struct #[⟨"Net", 25, 0, false, "", "", 0⟩, ⟨"Kind", 3, 2, false, "", "", 48⟩, ⟨"Batch", 3, 3, false, "", "", 56⟩, ⟨"Rate", 28, 4, false, "", "", 64⟩, ⟨"Data", 29, 7, false, "", "", 88⟩, ⟨"P", 30, 8, false, "", "", 112⟩]), 9, 136, (.agg #[(.slice none 0 0), (.slice none 0 0), (.int .i64 0), (.int .i64 0), (.int .i64 0), (.int .i64 0), (.int .i64 0), (.slice none 0 0), (.slice none 0 0)]), some (.p (.p (.sl (.int .i64)) (.sl (.p .str (.p (.int .i64) (.int .i64))))) (.p (.int .i64) (.p (.int .i64) (.p (.p (.int .i64) (.p (.int .i64) (.int .i64))) (.p (.sl (.p (.sl (.int .i64)) (.p (.sl (.int .i64)) (.int .i64)))) (.sl (.int .i64)))))))⟩
theorem ti32_ok:ti32.Ok Tryz.prog 32:=TI.ok_of (by kernel_rfl) (by kernel_rfl) (by intro y hy;cases hy <;> exact ⟨rfl,rfl⟩) (by decide)
def ti35:TI:=⟨(.pointer 69),1,8,(.pointer none),none⟩
theorem ti35_ok:ti35.Ok Tryz.prog 35:=TI.ok_of (by kernel_rfl) (by kernel_rfl) (by intro y hy;cases hy <;> exact ⟨rfl,rfl⟩) (by decide)
def ti36:TI:=⟨(.int .i64),1,8,(.int .i64 0),some (.int .i64)⟩
theorem ti36_ok:ti36.Ok Tryz.prog 36:=TI.ok_of (by kernel_rfl) (by kernel_rfl) (by intro y hy;cases hy <;> exact ⟨rfl,rfl⟩) (by decide)
def ti41 : TI := ⟨(.struct #[⟨"P", 30, 0, false, "", "", 0⟩, ⟨"M", 30, 1, false, "", "", 24⟩]), 2, 48, (.agg #[(.slice none 0 0), (.slice none 0 0)]), some (.p (.sl (.int .i64)) (.sl (.int .i64)))⟩
theorem ti41_ok:ti41.Ok Tryz.prog 41:=TI.ok_of (by kernel_rfl) (by kernel_rfl) (by intro y hy;cases hy <;> exact ⟨rfl,rfl⟩) (by decide)
def ti46 : TI := ⟨(.struct #[⟨"X", 30, 0, false, "", "", 0⟩, ⟨"Y", 30, 1, false, "", "", 24⟩, ⟨"Class", 3, 2, false, "", "", 48⟩]), 3, 56, (.agg #[(.slice none 0 0), (.slice none 0 0), (.int .i64 0)]), some (.p (.sl (.int .i64)) (.p (.sl (.int .i64)) (.int .i64)))⟩
theorem ti46_ok:ti46.Ok Tryz.prog 46:=TI.ok_of (by kernel_rfl) (by kernel_rfl) (by intro y hy;cases hy <;> exact ⟨rfl,rfl⟩) (by decide)
def ti52 : TI := ⟨(.struct #[⟨"P", 30, 0, false, "", "", 0⟩, ⟨"M", 30, 1, false, "", "", 24⟩]), 2, 48, (.agg #[(.slice none 0 0), (.slice none 0 0)]), some (.p (.sl (.int .i64)) (.sl (.int .i64)))⟩
theorem ti52_ok:ti52.Ok Tryz.prog 52:=TI.ok_of (by kernel_rfl) (by kernel_rfl) (by intro y hy;cases hy <;> exact ⟨rfl,rfl⟩) (by decide)
def ti54:TI:=⟨(.slice 97),1,24,(.slice none 0 0),some (.sl (.p .str (.p (.int .i64) (.int .i64))))⟩
theorem ti54_ok:ti54.Ok Tryz.prog 54:=TI.ok_of (by kernel_rfl) (by kernel_rfl) (by intro y hy;cases hy <;> exact ⟨rfl,rfl⟩) (by decide)
def ti56 : TI := ⟨(.struct #[⟨"In", 22, 0, false, "", "", 0⟩, ⟨"Layers", 54, 1, false, "", "", 24⟩]), 2, 48, (.agg #[(.slice none 0 0), (.slice none 0 0)]), some (.p (.sl (.int .i64)) (.sl (.p .str (.p (.int .i64) (.int .i64)))))⟩
theorem ti56_ok:ti56.Ok Tryz.prog 56:=TI.ok_of (by kernel_rfl) (by kernel_rfl) (by intro y hy;cases hy <;> exact ⟨rfl,rfl⟩) (by decide)
def ti57 : TI := ⟨(.struct #[⟨"Step", 26, 0, false, "", "", 0⟩, ⟨"Keep", 26, 1, false, "", "", 8⟩, ⟨"Bound", 26, 2, false, "", "", 16⟩]), 3, 24, (.agg #[(.int .i64 0), (.int .i64 0), (.int .i64 0)]), some (.p (.int .i64) (.p (.int .i64) (.int .i64)))⟩
theorem ti57_ok:ti57.Ok Tryz.prog 57:=TI.ok_of (by kernel_rfl) (by kernel_rfl) (by intro y hy;cases hy <;> exact ⟨rfl,rfl⟩) (by decide)
def ti58:TI:=⟨(.slice 84),1,24,(.slice none 0 0),some (.sl (.p (.sl (.int .i64)) (.p (.sl (.int .i64)) (.int .i64))))⟩
theorem ti58_ok:ti58.Ok Tryz.prog 58:=TI.ok_of (by kernel_rfl) (by kernel_rfl) (by intro y hy;cases hy <;> exact ⟨rfl,rfl⟩) (by decide)
def ti60 : TI := ⟨(.struct #[⟨"Net", 56, 0, false, "", "", 0⟩, ⟨"Kind", 3, 2, false, "", "", 48⟩, ⟨"Batch", 3, 3, false, "", "", 56⟩, ⟨"Rate", 57, 4, false, "", "", 64⟩, ⟨"Data", 58, 7, false, "", "", 88⟩, ⟨"P", 30, 8, false, "", "", 112⟩]), 9, 136, (.agg #[(.slice none 0 0), (.slice none 0 0), (.int .i64 0), (.int .i64 0), (.int .i64 0), (.int .i64 0), (.int .i64 0), (.slice none 0 0), (.slice none 0 0)]), some (.p (.p (.sl (.int .i64)) (.sl (.p .str (.p (.int .i64) (.int .i64))))) (.p (.int .i64) (.p (.int .i64) (.p (.p (.int .i64) (.p (.int .i64) (.int .i64))) (.p (.sl (.p (.sl (.int .i64)) (.p (.sl (.int .i64)) (.int .i64)))) (.sl (.int .i64)))))))⟩
theorem ti60_ok:ti60.Ok Tryz.prog 60:=TI.ok_of (by kernel_rfl) (by kernel_rfl) (by intro y hy;cases hy <;> exact ⟨rfl,rfl⟩) (by decide)
def ti65:TI:=⟨(.int .u64),1,8,(.int .u64 0),some (.int .u64)⟩
theorem ti65_ok:ti65.Ok Tryz.prog 65:=TI.ok_of (by kernel_rfl) (by kernel_rfl) (by intro y hy;cases hy <;> exact ⟨rfl,rfl⟩) (by decide)
def ti67 : TI := ⟨(.struct #[⟨"Hi", 2, 0, false, "", "", 0⟩, ⟨"Lo", 65, 1, false, "", "", 8⟩]), 2, 16, (.agg #[(.int .i64 0), (.int .u64 0)]), some (.p (.int .i64) (.int .u64))⟩
theorem ti67_ok:ti67.Ok Tryz.prog 67:=TI.ok_of (by kernel_rfl) (by kernel_rfl) (by intro y hy;cases hy <;> exact ⟨rfl,rfl⟩) (by decide)
def ti69 : TI := ⟨(.struct #[⟨"j", 32, 0, false, "", "carousel/solo", 0⟩, ⟨"s", 41, 9, false, "", "carousel/solo", 136⟩, ⟨"steps", 2, 11, false, "", "carousel/solo", 184⟩, ⟨"loss", 67, 12, false, "", "carousel/solo", 192⟩]), 14, 208, (.agg #[(.slice none 0 0), (.slice none 0 0), (.int .i64 0), (.int .i64 0), (.int .i64 0), (.int .i64 0), (.int .i64 0), (.slice none 0 0), (.slice none 0 0), (.slice none 0 0), (.slice none 0 0), (.int .i64 0), (.int .i64 0), (.int .u64 0)]), some (.p (.p (.p (.sl (.int .i64)) (.sl (.p .str (.p (.int .i64) (.int .i64))))) (.p (.int .i64) (.p (.int .i64) (.p (.p (.int .i64) (.p (.int .i64) (.int .i64))) (.p (.sl (.p (.sl (.int .i64)) (.p (.sl (.int .i64)) (.int .i64)))) (.sl (.int .i64))))))) (.p (.p (.sl (.int .i64)) (.sl (.int .i64))) (.p (.int .i64) (.p (.int .i64) (.int .u64)))))⟩
theorem ti69_ok:ti69.Ok Tryz.prog 69:=TI.ok_of (by kernel_rfl) (by kernel_rfl) (by intro y hy;cases hy <;> exact ⟨rfl,rfl⟩) (by decide)
def ti72:TI:=⟨(.slice 67),1,24,(.slice none 0 0),some (.sl (.p (.int .i64) (.int .u64)))⟩
theorem ti72_ok:ti72.Ok Tryz.prog 72:=TI.ok_of (by kernel_rfl) (by kernel_rfl) (by intro y hy;cases hy <;> exact ⟨rfl,rfl⟩) (by decide)
def ti79 : TI := ⟨(.struct #[⟨"Kind", 9, 0, false, "", "", 0⟩, ⟨"A", 3, 1, false, "", "", 16⟩, ⟨"B", 3, 2, false, "", "", 24⟩]), 3, 32, (.agg #[(.string ⟨#[]⟩), (.int .i64 0), (.int .i64 0)]), some (.p .str (.p (.int .i64) (.int .i64)))⟩
theorem ti79_ok:ti79.Ok Tryz.prog 79:=TI.ok_of (by kernel_rfl) (by kernel_rfl) (by intro y hy;cases hy <;> exact ⟨rfl,rfl⟩) (by decide)
def ti84 : TI := ⟨(.struct #[⟨"X", 30, 0, false, "", "", 0⟩, ⟨"Y", 30, 1, false, "", "", 24⟩, ⟨"Class", 3, 2, false, "", "", 48⟩]), 3, 56, (.agg #[(.slice none 0 0), (.slice none 0 0), (.int .i64 0)]), some (.p (.sl (.int .i64)) (.p (.sl (.int .i64)) (.int .i64)))⟩
theorem ti84_ok:ti84.Ok Tryz.prog 84:=TI.ok_of (by kernel_rfl) (by kernel_rfl) (by intro y hy;cases hy <;> exact ⟨rfl,rfl⟩) (by decide)
def ti97 : TI := ⟨(.struct #[⟨"Kind", 9, 0, false, "", "", 0⟩, ⟨"A", 3, 1, false, "", "", 16⟩, ⟨"B", 3, 2, false, "", "", 24⟩]), 3, 32, (.agg #[(.string ⟨#[]⟩), (.int .i64 0), (.int .i64 0)]), some (.p .str (.p (.int .i64) (.int .i64)))⟩
theorem ti97_ok:ti97.Ok Tryz.prog 97:=TI.ok_of (by kernel_rfl) (by kernel_rfl) (by intro y hy;cases hy <;> exact ⟨rfl,rfl⟩) (by decide)
def ti98:TI:=⟨(.slice 22),1,24,(.slice none 0 0),some (.sl (.sl (.int .i64)))⟩
theorem ti98_ok:ti98.Ok Tryz.prog 98:=TI.ok_of (by kernel_rfl) (by kernel_rfl) (by intro y hy;cases hy <;> exact ⟨rfl,rfl⟩) (by decide)
def ti103:TI:=⟨(.pointer 139),1,8,(.pointer none),none⟩
theorem ti103_ok:ti103.Ok Tryz.prog 103:=TI.ok_of (by kernel_rfl) (by kernel_rfl) (by intro y hy;cases hy <;> exact ⟨rfl,rfl⟩) (by decide)
def ti108:TI:=⟨(.slice 112),1,24,(.slice none 0 0),some (.sl (.p (.sl (.int .i64)) (.sl (.int .i64))))⟩
theorem ti108_ok:ti108.Ok Tryz.prog 108:=TI.ok_of (by kernel_rfl) (by kernel_rfl) (by intro y hy;cases hy <;> exact ⟨rfl,rfl⟩) (by decide)
def ti112 : TI := ⟨(.struct #[⟨"Dims", 22, 0, false, "", "", 0⟩, ⟨"V", 30, 1, false, "", "", 24⟩]), 2, 48, (.agg #[(.slice none 0 0), (.slice none 0 0)]), some (.p (.sl (.int .i64)) (.sl (.int .i64)))⟩
theorem ti112_ok:ti112.Ok Tryz.prog 112:=TI.ok_of (by kernel_rfl) (by kernel_rfl) (by intro y hy;cases hy <;> exact ⟨rfl,rfl⟩) (by decide)
def ti119:TI:=⟨(.int .u64),1,8,(.int .u64 0),some (.int .u64)⟩
theorem ti119_ok:ti119.Ok Tryz.prog 119:=TI.ok_of (by kernel_rfl) (by kernel_rfl) (by intro y hy;cases hy <;> exact ⟨rfl,rfl⟩) (by decide)
def ti128:TI:=⟨(.array 4 65),4,32,(.agg #[(.int .u64 0),(.int .u64 0),(.int .u64 0),(.int .u64 0)]),none⟩
theorem ti128_ok:ti128.Ok Tryz.prog 128:=TI.ok_of (by kernel_rfl) (by kernel_rfl) (by intro y hy;cases hy <;> exact ⟨rfl,rfl⟩) (by decide)
def ti130 : TI := ⟨(.struct #[⟨"Neg", 4, 0, false, "", "", 0⟩, ⟨"M", 128, 1, false, "", "", 8⟩]), 5, 40, (.agg #[(.bool false), (.int .u64 0), (.int .u64 0), (.int .u64 0), (.int .u64 0)]), none⟩
theorem ti130_ok:ti130.Ok Tryz.prog 130:=TI.ok_of (by kernel_rfl) (by kernel_rfl) (by intro y hy;cases hy <;> exact ⟨rfl,rfl⟩) (by decide)
def ti137:TI:=⟨(.slice 156),1,24,(.slice none 0 0),some (.sl (.p (.int .i64) (.p (.int .i64) (.p (.int .i64) (.p (.int .i64) (.p (.sl (.int .i64)) (.sl (.int .i64))))))))⟩
theorem ti137_ok:ti137.Ok Tryz.prog 137:=TI.ok_of (by kernel_rfl) (by kernel_rfl) (by intro y hy;cases hy <;> exact ⟨rfl,rfl⟩) (by decide)
def ti139 : TI := ⟨(.struct #[⟨"l", 137, 0, false, "", "carousel/tape", 0⟩]), 1, 24, (.agg #[(.slice none 0 0)]), some (.p (.sl (.p (.int .i64) (.p (.int .i64) (.p (.int .i64) (.p (.int .i64) (.p (.sl (.int .i64)) (.sl (.int .i64)))))))) .u)⟩
theorem ti139_ok:ti139.Ok Tryz.prog 139:=TI.ok_of (by kernel_rfl) (by kernel_rfl) (by intro y hy;cases hy <;> exact ⟨rfl,rfl⟩) (by decide)
def ti140:TI:=⟨(.pointer 142),1,8,(.pointer none),none⟩
theorem ti140_ok:ti140.Ok Tryz.prog 140:=TI.ok_of (by kernel_rfl) (by kernel_rfl) (by intro y hy;cases hy <;> exact ⟨rfl,rfl⟩) (by decide)
def ti142 : TI := ⟨(.struct #[⟨"t", 103, 0, false, "", "carousel/model", 0⟩, ⟨"e", 36, 1, false, "", "carousel/model", 8⟩, ⟨"p", 30, 2, false, "", "carousel/model", 16⟩, ⟨"leafs", 22, 3, false, "", "carousel/model", 40⟩]), 4, 64, (.agg #[(.pointer none), (.int .i64 0), (.slice none 0 0), (.slice none 0 0)]), none⟩
theorem ti142_ok:ti142.Ok Tryz.prog 142:=TI.ok_of (by kernel_rfl) (by kernel_rfl) (by intro y hy;cases hy <;> exact ⟨rfl,rfl⟩) (by decide)
def ti149:TI:=⟨(.pointer 152),1,8,(.pointer none),none⟩
theorem ti149_ok:ti149.Ok Tryz.prog 149:=TI.ok_of (by kernel_rfl) (by kernel_rfl) (by intro y hy;cases hy <;> exact ⟨rfl,rfl⟩) (by decide)
def ti150:TI:=⟨(.slice 4),1,24,(.slice none 0 0),some (.sl .bool)⟩
theorem ti150_ok:ti150.Ok Tryz.prog 150:=TI.ok_of (by kernel_rfl) (by kernel_rfl) (by intro y hy;cases hy <;> exact ⟨rfl,rfl⟩) (by decide)
def ti152 : TI := ⟨(.struct #[⟨"l", 108, 0, false, "", "carousel/back", 0⟩, ⟨"given", 150, 1, false, "", "carousel/back", 24⟩]), 2, 48, (.agg #[(.slice none 0 0), (.slice none 0 0)]), some (.p (.sl (.p (.sl (.int .i64)) (.sl (.int .i64)))) (.sl .bool))⟩
theorem ti152_ok:ti152.Ok Tryz.prog 152:=TI.ok_of (by kernel_rfl) (by kernel_rfl) (by intro y hy;cases hy <;> exact ⟨rfl,rfl⟩) (by decide)
def ti156 : TI := ⟨(.struct #[⟨"Op", 3, 0, false, "", "", 0⟩, ⟨"A", 3, 1, false, "", "", 8⟩, ⟨"B", 3, 2, false, "", "", 16⟩, ⟨"K", 26, 3, false, "", "", 24⟩, ⟨"T", 112, 4, false, "", "", 32⟩]), 6, 80, (.agg #[(.int .i64 0), (.int .i64 0), (.int .i64 0), (.int .i64 0), (.slice none 0 0), (.slice none 0 0)]), some (.p (.int .i64) (.p (.int .i64) (.p (.int .i64) (.p (.int .i64) (.p (.sl (.int .i64)) (.sl (.int .i64)))))))⟩
theorem ti156_ok:ti156.Ok Tryz.prog 156:=TI.ok_of (by kernel_rfl) (by kernel_rfl) (by intro y hy;cases hy <;> exact ⟨rfl,rfl⟩) (by decide)
def ti169:TI:=⟨(.pointer 172),1,8,(.pointer none),none⟩
theorem ti169_ok:ti169.Ok Tryz.prog 169:=TI.ok_of (by kernel_rfl) (by kernel_rfl) (by intro y hy;cases hy <;> exact ⟨rfl,rfl⟩) (by decide)
def ti170:TI:=⟨(.slice 176),1,24,(.slice none 0 0),some (.sl (.p (.int .i64) (.p (.int .i64) (.p (.int .i64) (.p (.int .i64) (.p (.sl (.int .i64)) (.sl (.int .i64))))))))⟩
theorem ti170_ok:ti170.Ok Tryz.prog 170:=TI.ok_of (by kernel_rfl) (by kernel_rfl) (by intro y hy;cases hy <;> exact ⟨rfl,rfl⟩) (by decide)
def ti172 : TI := ⟨(.struct #[⟨"L", 170, 0, false, "", "", 0⟩]), 1, 24, (.agg #[(.slice none 0 0)]), some (.p (.sl (.p (.int .i64) (.p (.int .i64) (.p (.int .i64) (.p (.int .i64) (.p (.sl (.int .i64)) (.sl (.int .i64)))))))) .u)⟩
theorem ti172_ok:ti172.Ok Tryz.prog 172:=TI.ok_of (by kernel_rfl) (by kernel_rfl) (by intro y hy;cases hy <;> exact ⟨rfl,rfl⟩) (by decide)
def ti176 : TI := ⟨(.struct #[⟨"Op", 3, 0, false, "", "", 0⟩, ⟨"A", 3, 1, false, "", "", 8⟩, ⟨"B", 3, 2, false, "", "", 16⟩, ⟨"K", 26, 3, false, "", "", 24⟩, ⟨"T", 112, 4, false, "", "", 32⟩]), 6, 80, (.agg #[(.int .i64 0), (.int .i64 0), (.int .i64 0), (.int .i64 0), (.slice none 0 0), (.slice none 0 0)]), some (.p (.int .i64) (.p (.int .i64) (.p (.int .i64) (.p (.int .i64) (.p (.sl (.int .i64)) (.sl (.int .i64)))))))⟩
theorem ti176_ok:ti176.Ok Tryz.prog 176:=TI.ok_of (by kernel_rfl) (by kernel_rfl) (by intro y hy;cases hy <;> exact ⟨rfl,rfl⟩) (by decide)
def ti195:TI:=⟨(.pointer 220),1,8,(.pointer none),none⟩
theorem ti195_ok:ti195.Ok Tryz.prog 195:=TI.ok_of (by kernel_rfl) (by kernel_rfl) (by intro y hy;cases hy <;> exact ⟨rfl,rfl⟩) (by decide)
def ti216:TI:=⟨(.array 2 65),2,16,(.agg #[(.int .u64 0),(.int .u64 0)]),none⟩
theorem ti216_ok:ti216.Ok Tryz.prog 216:=TI.ok_of (by kernel_rfl) (by kernel_rfl) (by intro y hy;cases hy <;> exact ⟨rfl,rfl⟩) (by decide)
def ti220 : TI := ⟨(.struct #[⟨"t", 103, 0, false, "", "carousel/loss", 0⟩, ⟨"was", 3, 1, false, "", "carousel/loss", 8⟩, ⟨"e", 36, 2, false, "", "carousel/loss", 16⟩]), 3, 24, (.agg #[(.pointer none), (.int .i64 0), (.int .i64 0)]), none⟩
theorem ti220_ok:ti220.Ok Tryz.prog 220:=TI.ok_of (by kernel_rfl) (by kernel_rfl) (by intro y hy;cases hy <;> exact ⟨rfl,rfl⟩) (by decide)
def ti241:TI:=⟨(.int .u32),1,4,(.int .u32 0),some (.int .u32)⟩
theorem ti241_ok:ti241.Ok Tryz.prog 241:=TI.ok_of (by kernel_rfl) (by kernel_rfl) (by intro y hy;cases hy <;> exact ⟨rfl,rfl⟩) (by decide)
def ti250 : TI := ⟨(.struct #[⟨"top", 2, 0, false, "", "carousel/wide", 0⟩, ⟨"low", 67, 1, false, "", "carousel/wide", 8⟩]), 3, 24, (.agg #[(.int .i64 0), (.int .i64 0), (.int .u64 0)]), some (.p (.int .i64) (.p (.int .i64) (.int .u64)))⟩
theorem ti250_ok:ti250.Ok Tryz.prog 250:=TI.ok_of (by kernel_rfl) (by kernel_rfl) (by intro y hy;cases hy <;> exact ⟨rfl,rfl⟩) (by decide)
def ti267:TI:=⟨(.pointer 250),1,8,(.pointer none),none⟩
theorem ti267_ok:ti267.Ok Tryz.prog 267:=TI.ok_of (by kernel_rfl) (by kernel_rfl) (by intro y hy;cases hy <;> exact ⟨rfl,rfl⟩) (by decide)
def tab:TE:=[(2,ti2),(3,ti3),(4,ti4),(5,ti5),(9,ti9),(22,ti22),(23,ti23),(25,ti25),(26,ti26),(28,ti28),(29,ti29),(30,ti30),(32,ti32),(35,ti35),(36,ti36),(41,ti41),(46,ti46),(52,ti52),(54,ti54),(56,ti56),(57,ti57),(58,ti58),(60,ti60),(65,ti65),(67,ti67),(69,ti69),(72,ti72),(79,ti79),(84,ti84),(97,ti97),(98,ti98),(103,ti103),(108,ti108),(112,ti112),(119,ti119),(128,ti128),(130,ti130),(137,ti137),(139,ti139),(140,ti140),(142,ti142),(149,ti149),(150,ti150),(152,ti152),(156,ti156),(169,ti169),(170,ti170),(172,ti172),(176,ti176),(195,ti195),(216,ti216),(220,ti220),(241,ti241),(250,ti250),(267,ti267)]
theorem tab_ok:tab.Ok Tryz.prog:=TE.ok_cons ti2_ok (TE.ok_cons ti3_ok (TE.ok_cons ti4_ok (TE.ok_cons ti5_ok (TE.ok_cons ti9_ok (TE.ok_cons ti22_ok (TE.ok_cons ti23_ok (TE.ok_cons ti25_ok (TE.ok_cons ti26_ok (TE.ok_cons ti28_ok (TE.ok_cons ti29_ok (TE.ok_cons ti30_ok (TE.ok_cons ti32_ok (TE.ok_cons ti35_ok (TE.ok_cons ti36_ok (TE.ok_cons ti41_ok (TE.ok_cons ti46_ok (TE.ok_cons ti52_ok (TE.ok_cons ti54_ok (TE.ok_cons ti56_ok (TE.ok_cons ti57_ok (TE.ok_cons ti58_ok (TE.ok_cons ti60_ok (TE.ok_cons ti65_ok (TE.ok_cons ti67_ok (TE.ok_cons ti69_ok (TE.ok_cons ti72_ok (TE.ok_cons ti79_ok (TE.ok_cons ti84_ok (TE.ok_cons ti97_ok (TE.ok_cons ti98_ok (TE.ok_cons ti103_ok (TE.ok_cons ti108_ok (TE.ok_cons ti112_ok (TE.ok_cons ti119_ok (TE.ok_cons ti128_ok (TE.ok_cons ti130_ok (TE.ok_cons ti137_ok (TE.ok_cons ti139_ok (TE.ok_cons ti140_ok (TE.ok_cons ti142_ok (TE.ok_cons ti149_ok (TE.ok_cons ti150_ok (TE.ok_cons ti152_ok (TE.ok_cons ti156_ok (TE.ok_cons ti169_ok (TE.ok_cons ti170_ok (TE.ok_cons ti172_ok (TE.ok_cons ti176_ok (TE.ok_cons ti195_ok (TE.ok_cons ti216_ok (TE.ok_cons ti220_ok (TE.ok_cons ti241_ok (TE.ok_cons ti250_ok (TE.ok_cons ti267_ok (TE.ok_nil _)))))))))))))))))))))))))))))))))))))))))))))))))))))))
theorem mixed:Tryz.prog.follows .mixedOrders=true:=by kernel_rfl
theorem Er:ExtI Tryz.prog 49 (ext3 Es):=ext_add64 (fn:=Tryz.f49) (by kernel_rfl) (by kernel_rfl) (by kernel_rfl) (by kernel_rfl) (by kernel_rfl)
theorem sub64_ok:ExtI Tryz.prog 155 (ext3 sub64):=ext_sub64 (fn:=Tryz.f155) (by kernel_rfl) (by kernel_rfl) (by kernel_rfl) (by kernel_rfl) (by kernel_rfl)
open IntKind (i64 u64 i32 u32 i16 u16 i8 u8)
theorem AI {a b:Prop} (x:a) (y:b):a∧b:=⟨x,y⟩
theorem EI {α:Sort _} {p:α→Prop} (w:α) (h:p w):∃ x,p x:=⟨w,h⟩
theorem OL {a b:Prop} (x:a):a∨b:=.inl x
theorem OQ {a b:Prop} (x:b):a∨b:=.inr x
theorem TV:True:=True.intro
theorem E4 {e:Nat} {s:St} {J:Sh} (ρ:Ren) (h:(renB J.nx ρ []&&protB e ρ&&Nat.ble e J.nx)=true∧Weak ρ s J):toSh e s J:=⟨[],[],[],[],ρ,h⟩
theorem R2 {A0:Sort _} {a0:A0} {A1:Sort _} {a1:A1} {p:Prop} (h:p):a0=a0∧a1=a1∧p:=⟨rfl,rfl,h⟩
theorem R3 {A0:Sort _} {a0:A0} {A1:Sort _} {a1:A1} {A2:Sort _} {a2:A2} {p:Prop} (h:p):a0=a0∧a1=a1∧a2=a2∧p:=⟨rfl,rfl,rfl,h⟩
theorem R4 {A0:Sort _} {a0:A0} {A1:Sort _} {a1:A1} {A2:Sort _} {a2:A2} {A3:Sort _} {a3:A3} {p:Prop} (h:p):a0=a0∧a1=a1∧a2=a2∧a3=a3∧p:=⟨rfl,rfl,rfl,rfl,h⟩
theorem R5 {A0:Sort _} {a0:A0} {A1:Sort _} {a1:A1} {A2:Sort _} {a2:A2} {A3:Sort _} {a3:A3} {A4:Sort _} {a4:A4} {p:Prop} (h:p):a0=a0∧a1=a1∧a2=a2∧a3=a3∧a4=a4∧p:=⟨rfl,rfl,rfl,rfl,rfl,h⟩
theorem R6 {A0:Sort _} {a0:A0} {A1:Sort _} {a1:A1} {A2:Sort _} {a2:A2} {A3:Sort _} {a3:A3} {A4:Sort _} {a4:A4} {A5:Sort _} {a5:A5} {p:Prop} (h:p):a0=a0∧a1=a1∧a2=a2∧a3=a3∧a4=a4∧a5=a5∧p:=⟨rfl,rfl,rfl,rfl,rfl,rfl,h⟩
theorem R7 {A0:Sort _} {a0:A0} {A1:Sort _} {a1:A1} {A2:Sort _} {a2:A2} {A3:Sort _} {a3:A3} {A4:Sort _} {a4:A4} {A5:Sort _} {a5:A5} {A6:Sort _} {a6:A6} {p:Prop} (h:p):a0=a0∧a1=a1∧a2=a2∧a3=a3∧a4=a4∧a5=a5∧a6=a6∧p:=⟨rfl,rfl,rfl,rfl,rfl,rfl,rfl,h⟩
theorem R8 {A0:Sort _} {a0:A0} {A1:Sort _} {a1:A1} {A2:Sort _} {a2:A2} {A3:Sort _} {a3:A3} {A4:Sort _} {a4:A4} {A5:Sort _} {a5:A5} {A6:Sort _} {a6:A6} {A7:Sort _} {a7:A7} {p:Prop} (h:p):a0=a0∧a1=a1∧a2=a2∧a3=a3∧a4=a4∧a5=a5∧a6=a6∧a7=a7∧p:=⟨rfl,rfl,rfl,rfl,rfl,rfl,rfl,rfl,h⟩
theorem R9 {A0:Sort _} {a0:A0} {A1:Sort _} {a1:A1} {A2:Sort _} {a2:A2} {A3:Sort _} {a3:A3} {A4:Sort _} {a4:A4} {A5:Sort _} {a5:A5} {A6:Sort _} {a6:A6} {A7:Sort _} {a7:A7} {A8:Sort _} {a8:A8} {p:Prop} (h:p):a0=a0∧a1=a1∧a2=a2∧a3=a3∧a4=a4∧a5=a5∧a6=a6∧a7=a7∧a8=a8∧p:=⟨rfl,rfl,rfl,rfl,rfl,rfl,rfl,rfl,rfl,h⟩
theorem R10 {A0:Sort _} {a0:A0} {A1:Sort _} {a1:A1} {A2:Sort _} {a2:A2} {A3:Sort _} {a3:A3} {A4:Sort _} {a4:A4} {A5:Sort _} {a5:A5} {A6:Sort _} {a6:A6} {A7:Sort _} {a7:A7} {A8:Sort _} {a8:A8} {A9:Sort _} {a9:A9} {p:Prop} (h:p):a0=a0∧a1=a1∧a2=a2∧a3=a3∧a4=a4∧a5=a5∧a6=a6∧a7=a7∧a8=a8∧a9=a9∧p:=⟨rfl,rfl,rfl,rfl,rfl,rfl,rfl,rfl,rfl,rfl,h⟩
theorem R11 {A0:Sort _} {a0:A0} {A1:Sort _} {a1:A1} {A2:Sort _} {a2:A2} {A3:Sort _} {a3:A3} {A4:Sort _} {a4:A4} {A5:Sort _} {a5:A5} {A6:Sort _} {a6:A6} {A7:Sort _} {a7:A7} {A8:Sort _} {a8:A8} {A9:Sort _} {a9:A9} {A10:Sort _} {a10:A10} {p:Prop} (h:p):a0=a0∧a1=a1∧a2=a2∧a3=a3∧a4=a4∧a5=a5∧a6=a6∧a7=a7∧a8=a8∧a9=a9∧a10=a10∧p:=⟨rfl,rfl,rfl,rfl,rfl,rfl,rfl,rfl,rfl,rfl,rfl,h⟩
theorem R12 {A0:Sort _} {a0:A0} {A1:Sort _} {a1:A1} {A2:Sort _} {a2:A2} {A3:Sort _} {a3:A3} {A4:Sort _} {a4:A4} {A5:Sort _} {a5:A5} {A6:Sort _} {a6:A6} {A7:Sort _} {a7:A7} {A8:Sort _} {a8:A8} {A9:Sort _} {a9:A9} {A10:Sort _} {a10:A10} {A11:Sort _} {a11:A11} {p:Prop} (h:p):a0=a0∧a1=a1∧a2=a2∧a3=a3∧a4=a4∧a5=a5∧a6=a6∧a7=a7∧a8=a8∧a9=a9∧a10=a10∧a11=a11∧p:=⟨rfl,rfl,rfl,rfl,rfl,rfl,rfl,rfl,rfl,rfl,rfl,rfl,h⟩
theorem R13 {A0:Sort _} {a0:A0} {A1:Sort _} {a1:A1} {A2:Sort _} {a2:A2} {A3:Sort _} {a3:A3} {A4:Sort _} {a4:A4} {A5:Sort _} {a5:A5} {A6:Sort _} {a6:A6} {A7:Sort _} {a7:A7} {A8:Sort _} {a8:A8} {A9:Sort _} {a9:A9} {A10:Sort _} {a10:A10} {A11:Sort _} {a11:A11} {A12:Sort _} {a12:A12} {p:Prop} (h:p):a0=a0∧a1=a1∧a2=a2∧a3=a3∧a4=a4∧a5=a5∧a6=a6∧a7=a7∧a8=a8∧a9=a9∧a10=a10∧a11=a11∧a12=a12∧p:=⟨rfl,rfl,rfl,rfl,rfl,rfl,rfl,rfl,rfl,rfl,rfl,rfl,rfl,h⟩
theorem R14 {A0:Sort _} {a0:A0} {A1:Sort _} {a1:A1} {A2:Sort _} {a2:A2} {A3:Sort _} {a3:A3} {A4:Sort _} {a4:A4} {A5:Sort _} {a5:A5} {A6:Sort _} {a6:A6} {A7:Sort _} {a7:A7} {A8:Sort _} {a8:A8} {A9:Sort _} {a9:A9} {A10:Sort _} {a10:A10} {A11:Sort _} {a11:A11} {A12:Sort _} {a12:A12} {A13:Sort _} {a13:A13} {p:Prop} (h:p):a0=a0∧a1=a1∧a2=a2∧a3=a3∧a4=a4∧a5=a5∧a6=a6∧a7=a7∧a8=a8∧a9=a9∧a10=a10∧a11=a11∧a12=a12∧a13=a13∧p:=⟨rfl,rfl,rfl,rfl,rfl,rfl,rfl,rfl,rfl,rfl,rfl,rfl,rfl,rfl,h⟩
theorem R15 {A0:Sort _} {a0:A0} {A1:Sort _} {a1:A1} {A2:Sort _} {a2:A2} {A3:Sort _} {a3:A3} {A4:Sort _} {a4:A4} {A5:Sort _} {a5:A5} {A6:Sort _} {a6:A6} {A7:Sort _} {a7:A7} {A8:Sort _} {a8:A8} {A9:Sort _} {a9:A9} {A10:Sort _} {a10:A10} {A11:Sort _} {a11:A11} {A12:Sort _} {a12:A12} {A13:Sort _} {a13:A13} {A14:Sort _} {a14:A14} {p:Prop} (h:p):a0=a0∧a1=a1∧a2=a2∧a3=a3∧a4=a4∧a5=a5∧a6=a6∧a7=a7∧a8=a8∧a9=a9∧a10=a10∧a11=a11∧a12=a12∧a13=a13∧a14=a14∧p:=⟨rfl,rfl,rfl,rfl,rfl,rfl,rfl,rfl,rfl,rfl,rfl,rfl,rfl,rfl,rfl,h⟩
theorem R16 {A0:Sort _} {a0:A0} {A1:Sort _} {a1:A1} {A2:Sort _} {a2:A2} {A3:Sort _} {a3:A3} {A4:Sort _} {a4:A4} {A5:Sort _} {a5:A5} {A6:Sort _} {a6:A6} {A7:Sort _} {a7:A7} {A8:Sort _} {a8:A8} {A9:Sort _} {a9:A9} {A10:Sort _} {a10:A10} {A11:Sort _} {a11:A11} {A12:Sort _} {a12:A12} {A13:Sort _} {a13:A13} {A14:Sort _} {a14:A14} {A15:Sort _} {a15:A15} {p:Prop} (h:p):a0=a0∧a1=a1∧a2=a2∧a3=a3∧a4=a4∧a5=a5∧a6=a6∧a7=a7∧a8=a8∧a9=a9∧a10=a10∧a11=a11∧a12=a12∧a13=a13∧a14=a14∧a15=a15∧p:=⟨rfl,rfl,rfl,rfl,rfl,rfl,rfl,rfl,rfl,rfl,rfl,rfl,rfl,rfl,rfl,rfl,h⟩
theorem R17 {A0:Sort _} {a0:A0} {A1:Sort _} {a1:A1} {A2:Sort _} {a2:A2} {A3:Sort _} {a3:A3} {A4:Sort _} {a4:A4} {A5:Sort _} {a5:A5} {A6:Sort _} {a6:A6} {A7:Sort _} {a7:A7} {A8:Sort _} {a8:A8} {A9:Sort _} {a9:A9} {A10:Sort _} {a10:A10} {A11:Sort _} {a11:A11} {A12:Sort _} {a12:A12} {A13:Sort _} {a13:A13} {A14:Sort _} {a14:A14} {A15:Sort _} {a15:A15} {A16:Sort _} {a16:A16} {p:Prop} (h:p):a0=a0∧a1=a1∧a2=a2∧a3=a3∧a4=a4∧a5=a5∧a6=a6∧a7=a7∧a8=a8∧a9=a9∧a10=a10∧a11=a11∧a12=a12∧a13=a13∧a14=a14∧a15=a15∧a16=a16∧p:=⟨rfl,rfl,rfl,rfl,rfl,rfl,rfl,rfl,rfl,rfl,rfl,rfl,rfl,rfl,rfl,rfl,rfl,h⟩
theorem R18 {A0:Sort _} {a0:A0} {A1:Sort _} {a1:A1} {A2:Sort _} {a2:A2} {A3:Sort _} {a3:A3} {A4:Sort _} {a4:A4} {A5:Sort _} {a5:A5} {A6:Sort _} {a6:A6} {A7:Sort _} {a7:A7} {A8:Sort _} {a8:A8} {A9:Sort _} {a9:A9} {A10:Sort _} {a10:A10} {A11:Sort _} {a11:A11} {A12:Sort _} {a12:A12} {A13:Sort _} {a13:A13} {A14:Sort _} {a14:A14} {A15:Sort _} {a15:A15} {A16:Sort _} {a16:A16} {A17:Sort _} {a17:A17} {p:Prop} (h:p):a0=a0∧a1=a1∧a2=a2∧a3=a3∧a4=a4∧a5=a5∧a6=a6∧a7=a7∧a8=a8∧a9=a9∧a10=a10∧a11=a11∧a12=a12∧a13=a13∧a14=a14∧a15=a15∧a16=a16∧a17=a17∧p:=⟨rfl,rfl,rfl,rfl,rfl,rfl,rfl,rfl,rfl,rfl,rfl,rfl,rfl,rfl,rfl,rfl,rfl,rfl,h⟩
theorem R19 {A0:Sort _} {a0:A0} {A1:Sort _} {a1:A1} {A2:Sort _} {a2:A2} {A3:Sort _} {a3:A3} {A4:Sort _} {a4:A4} {A5:Sort _} {a5:A5} {A6:Sort _} {a6:A6} {A7:Sort _} {a7:A7} {A8:Sort _} {a8:A8} {A9:Sort _} {a9:A9} {A10:Sort _} {a10:A10} {A11:Sort _} {a11:A11} {A12:Sort _} {a12:A12} {A13:Sort _} {a13:A13} {A14:Sort _} {a14:A14} {A15:Sort _} {a15:A15} {A16:Sort _} {a16:A16} {A17:Sort _} {a17:A17} {A18:Sort _} {a18:A18} {p:Prop} (h:p):a0=a0∧a1=a1∧a2=a2∧a3=a3∧a4=a4∧a5=a5∧a6=a6∧a7=a7∧a8=a8∧a9=a9∧a10=a10∧a11=a11∧a12=a12∧a13=a13∧a14=a14∧a15=a15∧a16=a16∧a17=a17∧a18=a18∧p:=⟨rfl,rfl,rfl,rfl,rfl,rfl,rfl,rfl,rfl,rfl,rfl,rfl,rfl,rfl,rfl,rfl,rfl,rfl,rfl,h⟩
theorem R20 {A0:Sort _} {a0:A0} {A1:Sort _} {a1:A1} {A2:Sort _} {a2:A2} {A3:Sort _} {a3:A3} {A4:Sort _} {a4:A4} {A5:Sort _} {a5:A5} {A6:Sort _} {a6:A6} {A7:Sort _} {a7:A7} {A8:Sort _} {a8:A8} {A9:Sort _} {a9:A9} {A10:Sort _} {a10:A10} {A11:Sort _} {a11:A11} {A12:Sort _} {a12:A12} {A13:Sort _} {a13:A13} {A14:Sort _} {a14:A14} {A15:Sort _} {a15:A15} {A16:Sort _} {a16:A16} {A17:Sort _} {a17:A17} {A18:Sort _} {a18:A18} {A19:Sort _} {a19:A19} {p:Prop} (h:p):a0=a0∧a1=a1∧a2=a2∧a3=a3∧a4=a4∧a5=a5∧a6=a6∧a7=a7∧a8=a8∧a9=a9∧a10=a10∧a11=a11∧a12=a12∧a13=a13∧a14=a14∧a15=a15∧a16=a16∧a17=a17∧a18=a18∧a19=a19∧p:=⟨rfl,rfl,rfl,rfl,rfl,rfl,rfl,rfl,rfl,rfl,rfl,rfl,rfl,rfl,rfl,rfl,rfl,rfl,rfl,rfl,h⟩
abbrev InP (n : Nat) : Prop := ∃ fn, Tryz.prog.funcs[n]? = some fn ∧ fn.body.isSome = true ∧ (fn.name == "runtime.NumGoroutine") = false
abbrev VC (f:Func) (C:Con) (x:C.X) (y:C.Y):Prop:=vc Tryz.prog tab f.ntmps 0 (match f.body with | some c=>c | none=>.skip) (retK tab C f.results.toList y) (C.shIn x).st
abbrev T0:Ty:=.int .i64
abbrev T1:Ty:=.p .str (.p (.int .i64) (.int .i64))
abbrev T2:Ty:=.p (.sl (.int .i64)) (.p (.sl (.int .i64)) (.int .i64))
abbrev T3:Ty:=.p (.sl (.int .i64)) (.sl (.p .str (.p (.int .i64) (.int .i64))))
abbrev T4:Ty:=.sl (.p .str (.p (.int .i64) (.int .i64)))
abbrev T5:Ty:=.sl (.int .i64)
abbrev T6:Ty:=.sl (.sl (.int .i64))
abbrev T7:Ty:=.p (.int .i64) (.p (.int .i64) (.p (.int .i64) (.p (.int .i64) (.p (.sl (.int .i64)) (.sl (.int .i64))))))
abbrev T8:Ty:=.p (.sl (.int .i64)) (.sl (.int .i64))
abbrev T9:Ty:=.int .u64
abbrev T10:Ty:=.p (.int .i64) (.int .u64)
abbrev T11:Ty:=.p (.p (.sl (.int .i64)) (.sl (.p .str (.p (.int .i64) (.int .i64))))) (.p (.int .i64) (.p (.int .i64) (.p (.p (.int .i64) (.p (.int .i64) (.int .i64))) (.p (.sl (.p (.sl (.int .i64)) (.p (.sl (.int .i64)) (.int .i64)))) (.sl (.int .i64))))))
abbrev T12:Ty:=.sl (.p (.sl (.int .i64)) (.p (.sl (.int .i64)) (.int .i64)))
abbrev T13:Ty:=.sl (.p (.int .i64) (.int .u64))
abbrev T14:Ty:=.p (.int .i64) (.p (.int .i64) (.int .i64))
abbrev P0 (a b:Nat):Pat:=.raw false [.ptr a b]
abbrev O0 (a:Nat):Pat:=.raw false [.osl a]
abbrev N0:CV:=.c (.slice none 0 0)
abbrev D0 (x:Int):Pat:=.dat (.int .i64) x
abbrev LI:=List Int
abbrev ND:=Int×Int×Int×Int×LI×LI
theorem NH {p:Prop}:false=true→p:=fun h=>nomatch h
noncomputable def inB (n : Nat) : Bool := match Tryz.prog.funcs[n]? with | some fn => fn.body.isSome && !(fn.name == "runtime.NumGoroutine") | none => false
theorem inP {n:Nat} (h:inB n=true):InP n:=by
  unfold inB at h
  split at h
  · next fn hf=>exact ⟨fn,hf,by simp_all,by simp_all⟩
  · exact absurd h (by decide)
theorem AJ {α:Sort _} {a:α} {p:Prop} (h:p):(a=a∧True)∧p:=⟨⟨rfl,trivial⟩,h⟩
theorem K0 {β:Sort _} {b:β} {γ:Sort _} {c:γ} {P p:Prop} (h:p):(false=true→P)∧b=b∧c=c∧True∧True∧p:=⟨NH,rfl,rfl,trivial,trivial,h⟩
abbrev NL:=List ND
abbrev I2:Ren:=[(0,some 0),(1,some 1)]
abbrev I3:Ren:=[(0,some 0),(1,some 1),(2,some 2)]
abbrev I4:Ren:=[(0,some 0),(1,some 1),(2,some 2),(3,some 3)]
abbrev I5:Ren:=[(0,some 0),(1,some 1),(2,some 2),(3,some 3),(4,some 4)]
abbrev I6:Ren:=[(0,some 0),(1,some 1),(2,some 2),(3,some 3),(4,some 4),(5,some 5)]
abbrev I7:Ren:=[(0,some 0),(1,some 1),(2,some 2),(3,some 3),(4,some 4),(5,some 5),(6,some 6)]
abbrev I8:Ren:=[(0,some 0),(1,some 1),(2,some 2),(3,some 3),(4,some 4),(5,some 5),(6,some 6),(7,some 7)]
abbrev I9:Ren:=[(0,some 0),(1,some 1),(2,some 2),(3,some 3),(4,some 4),(5,some 5),(6,some 6),(7,some 7),(8,some 8)]
abbrev I10:Ren:=[(0,some 0),(1,some 1),(2,some 2),(3,some 3),(4,some 4),(5,some 5),(6,some 6),(7,some 7),(8,some 8),(9,some 9)]
abbrev HP (C:Con) (n:Nat):Prop:=C.Holds Tryz.prog n
theorem hH {n:Nat} (fn:Func) {c:Code} (hf:Tryz.prog.funcs[n]?=some fn) (hb:fn.body=some c) {C:Con} (H:∀ x y,C.F x=some y→vc Tryz.prog tab fn.ntmps C.e c (retK tab C fn.results.toList y) (C.shIn x).st):HP C n:=hV tab_ok mixed hf hb C H
abbrev VE (f:Func) (e:Nat) (C:Con) (x:C.X) (y:C.Y):Prop:=vc Tryz.prog tab f.ntmps e (match f.body with | some c=>c | none=>.skip) (retK tab C f.results.toList y) (C.shIn x).st
abbrev LE:=List (Nat×Pat)→List (Nat×Pat)
abbrev LH:=List (Nat×Chunk)→List (Nat×Chunk)
def tU (a:Nat):Nat→OT→OT
  | 0,X=>X
  | n+1,X=>.take a (tU (a+1) n X)
abbrev NX {α β:Type} (_:α):List β:=[]
abbrev HI (C:Con) (n:Nat):Prop:=InP n∧HP C n
theorem hI {n : Nat} (fn : Func) {c : Code} (hb : fn.body = some c) {C : Con} (H : ∀ x y, C.F x = some y → vc Tryz.prog tab fn.ntmps C.e c (retK tab C fn.results.toList y) (C.shIn x).st) (hf : Tryz.prog.funcs[n]? = some fn := by kernel_rfl) (hn : (fn.name == "runtime.NumGoroutine") = false := by kernel_rfl) : HI C n := ⟨⟨fn, hf, by rw [hb]; rfl, hn⟩, hH fn hf hb H⟩
theorem and_l {a b:Bool} (h:(a&&b)=true):a=true:=by cases a;exact h;rfl
theorem and_r {a b:Bool} (h:(a&&b)=true):b=true:=by cases a;cases h;exact h
theorem cA {f:Nat} {s:St} {avs:List AV} {k:AV→St→List Nat→Prop} {C:Con} (H:HI C f) (x:C.X) {y:C.Y} (h2:C.F x=some y) (h3:((renB C.e [] []&&Nat.beq avs.length (C.args x).length)&&keysE 0 [] (C.hin x))=true) (h5:s.use fun e0 h0 n0=>datsK ⟨Ei 0 avs,h0,n0⟩ (Eo 0 (C.args x)) (fun ids=>pubK (match false with | true=>[] | false=>ids) ⟨Ei 0 avs,h0,n0⟩ (fun s1=>(false=true→lendB C y ids []=true)∧allB Pat.wf (C.ret y)=true∧allB (fun p:Nat×Chunk=>p.2.live) (C.hout y)=true∧rawsE [] s1 (Eo 0 (C.args x))∧heapE [] s1 (C.hin x)∧s1.use fun e1 h1 n1=>k (retA (gOut [] n1) (C.ret y)) ⟨e0,outsH (gOut [] n1) (C.hout y) (killH [] h1),n1+C.nout⟩ (belowL s.nx (imgs []))))):InP f∧callV Tryz.prog f s avs k:=⟨H.1,cV (cQ C x y [] false H.2 h2 (and_l h3) (and_r h3) h5)⟩
theorem cD {f:Nat} {s:St} {avs:List AV} {k:AV→St→List Nat→Prop} {C:Con} (H:HI C f) (x:C.X) {y:C.Y} (h2:C.F x=some y) (h3:((renB C.e [] []&&Nat.beq avs.length (C.args x).length)&&keysE 0 [] (C.hin x))=true) (h5:s.use fun e0 h0 n0=>datsK ⟨Ei 0 avs,h0,n0⟩ (Eo 0 (C.args x)) (fun ids=>pubK (match true with | true=>[] | false=>ids) ⟨Ei 0 avs,h0,n0⟩ (fun s1=>(true=true→lendB C y ids []=true)∧allB Pat.wf (C.ret y)=true∧allB (fun p:Nat×Chunk=>p.2.live) (C.hout y)=true∧rawsE [] s1 (Eo 0 (C.args x))∧heapE [] s1 (C.hin x)∧s1.use fun e1 h1 n1=>k (retA (gOut [] n1) (C.ret y)) ⟨e0,outsH (gOut [] n1) (C.hout y) (killH [] h1),n1+C.nout⟩ (belowL s.nx (imgs []))))):InP f∧callV Tryz.prog f s avs k:=⟨H.1,cV (cQ C x y [] true H.2 h2 (and_l h3) (and_r h3) h5)⟩
theorem cB {f:Nat} {s:St} {avs:List AV} {k:AV→St→List Nat→Prop} {C:Con} (H:HI C f) (x:C.X) {y:C.Y} (ρ:Ren) (lend:Bool) (h2:C.F x=some y) (h3:((renB C.e ρ []&&Nat.beq avs.length (C.args x).length)&&keysE 0 ρ (C.hin x))=true) (h5:s.use fun e0 h0 n0=>datsK ⟨Ei 0 avs,h0,n0⟩ (Eo 0 (C.args x)) (fun ids=>pubK (match lend with | true=>[] | false=>ids) ⟨Ei 0 avs,h0,n0⟩ (fun s1=>(lend=true→lendB C y ids ρ=true)∧allB Pat.wf (C.ret y)=true∧allB (fun p:Nat×Chunk=>p.2.live) (C.hout y)=true∧rawsE ρ s1 (Eo 0 (C.args x))∧heapE ρ s1 (C.hin x)∧s1.use fun e1 h1 n1=>k (retA (gOut ρ n1) (C.ret y)) ⟨e0,outsH (gOut ρ n1) (C.hout y) (killH ρ h1),n1+C.nout⟩ (belowL s.nx (imgs ρ))))):InP f∧callV Tryz.prog f s avs k:=⟨H.1,cV (cQ C x y ρ lend H.2 h2 (and_l h3) (and_r h3) h5)⟩
def iuA:Nat→List Nat→Ren
  | _,[]=>[]
  | k,0::l=>(k,none)::iuA (k+1) l
  | k,(n+1)::l=>(k,some n)::iuA (k+1) l
abbrev iuR (l:List Nat):Ren:=iuA 0 l
theorem lJ {X Z:Type} {B:(X→Option Z)→X→Option Z} {n:Nat} {x:X} {z:Z} (h:Ag B n x=some z) {A1 A2 A3:(X Z:Type)→(X→Sh)→(Z→List (Nat×Sh))→(Nat→X→Option Z)→Nat→X→Z→Prop} (J:X→Sh) (E:Z→List (Nat×Sh)) (h1:A1 X Z J E (Ag B) n x z) (h2:A2 X Z J E (Ag B) n x z) (h3:A3 X Z J E (Ag B) n x z):∃ (X Z:Type) (J:X→Sh) (E:Z→List (Nat×Sh)) (L:Nat→X→Option Z) (n:Nat) (x:X) (z:Z),L n x=some z∧A1 X Z J E L n x z∧(∀ x z,L 0 x=some z→False)∧A2 X Z J E L n x z∧A3 X Z J E L n x z:=
  ⟨X,Z,J,E,Ag B,n,x,z,h,h1,fun _ _ h=>lZ h,h2,h3⟩
theorem iNo {c:Prop} {_:Decidable c} {α:Sort _} {t e:α} (h:¬c:=by omega):ite c t e=e:=if_neg h
theorem iPo {c:Prop} {_:Decidable c} {α:Sort _} {t e:α} (h:c:=by omega):ite c t e=t:=if_pos h
abbrev LTz0:=List (ByteArray×Int×Int)
abbrev D5:=List (LI×LI×Int)
abbrev LTz2:=List (Int×Int)
abbrev LTz3:=List (LI×LI)
abbrev Ax:=Int×Int
abbrev PTz5:=(LI×LTz0)×Int×Int×(Int×Ax)×D5×LI
abbrev Al:=LI×LI
abbrev PTz7:=Int×Int×Ax
abbrev Bl:=Int×Al
abbrev PTz9:=LI×LTz0×Int×Int×Int×Int×Int×D5×LI×Int×Int×Bl
abbrev Bu:=Int×Int×NL
abbrev Az:=LI×LTz0
abbrev Bc:=Int×LI
abbrev PTz13:=Int×Int×LI×LI×NL
abbrev Bw:=Int×Ax
abbrev D4:=Bool×PTz7
abbrev PTz16:=ByteArray×Ax
abbrev PTz17:=Int×(List LI)
abbrev Ea:=Int×Bool
abbrev PTz19:=LI×LTz0×Int×Int×Int×Int×Int×D5×LI×LI×LI×Bw
abbrev PTz20:=Int×Int×Int×Int×Bool×LI×LI×NL
abbrev PTz21:=Int×Int×LI×NL
abbrev PTz22:=Int×PTz7
end Go.Proofs
