import Derived.Test.YtokgamncgleelaaGreatAmZ
import Derived.Test.YtokgamncgleelaaGreatProg
set_option linter.unusedVariables false
set_option maxRecDepth 100000
set_option maxHeartbeats 8000000
namespace Go.Proofs
open Go.AM
def ti2:TI:=⟨(.int .i64),1,8,(.int .i64 0),some (.int .i64)⟩
theorem ti2_ok:ti2.Ok Tryz.prog 2:=TI.ok_of (by kernel_rfl) (by kernel_rfl) (by intro y hy;cases hy <;> exact ⟨rfl,rfl⟩) (by decide)
def ti3:TI:=⟨(.int .i64),1,8,(.int .i64 0),some (.int .i64)⟩
theorem ti3_ok:ti3.Ok Tryz.prog 3:=TI.ok_of (by kernel_rfl) (by kernel_rfl) (by intro y hy;cases hy <;> exact ⟨rfl,rfl⟩) (by decide)
def ti4:TI:=⟨.bool,1,1,(.bool false),some .bool⟩
theorem ti4_ok:ti4.Ok Tryz.prog 4:=TI.ok_of (by kernel_rfl) (by kernel_rfl) (by intro y hy;cases hy <;> exact ⟨rfl,rfl⟩) (by decide)
def ti5:TI:=⟨(.int .u8),1,1,(.int .u8 0),some (.int .u8)⟩
theorem ti5_ok:ti5.Ok Tryz.prog 5:=TI.ok_of (by kernel_rfl) (by kernel_rfl) (by intro y hy;cases hy <;> exact ⟨rfl,rfl⟩) (by decide)
def ti9:TI:=⟨.string,1,16,(.string ⟨#[]⟩),some .str⟩
theorem ti9_ok:ti9.Ok Tryz.prog 9:=TI.ok_of (by kernel_rfl) (by kernel_rfl) (by intro y hy;cases hy <;> exact ⟨rfl,rfl⟩) (by decide)
def ti22:TI:=⟨(.slice 3),1,24,(.slice none 0 0),some (.sl (.int .i64))⟩
theorem ti22_ok:ti22.Ok Tryz.prog 22:=TI.ok_of (by kernel_rfl) (by kernel_rfl) (by intro y hy;cases hy <;> exact ⟨rfl,rfl⟩) (by decide)
def ti23:TI:=⟨(.slice 114),1,24,(.slice none 0 0),some (.sl (.p .str (.p (.int .i64) (.int .i64))))⟩
theorem ti23_ok:ti23.Ok Tryz.prog 23:=TI.ok_of (by kernel_rfl) (by kernel_rfl) (by intro y hy;cases hy <;> exact ⟨rfl,rfl⟩) (by decide)
def ti25 : TI := ⟨(.struct #[⟨"In", 22, 0, false, "", "", 0⟩, ⟨"Layers", 23, 1, false, "", "", 24⟩]), 2, 48, (.agg #[(.slice none 0 0), (.slice none 0 0)]), some (.p (.sl (.int .i64)) (.sl (.p .str (.p (.int .i64) (.int .i64)))))⟩
theorem ti25_ok:ti25.Ok Tryz.prog 25:=TI.ok_of (by kernel_rfl) (by kernel_rfl) (by intro y hy;cases hy <;> exact ⟨rfl,rfl⟩) (by decide)
def ti26:TI:=⟨(.slice 35),1,24,(.slice none 0 0),some (.sl (.int .i64))⟩
theorem ti26_ok:ti26.Ok Tryz.prog 26:=TI.ok_of (by kernel_rfl) (by kernel_rfl) (by intro y hy;cases hy <;> exact ⟨rfl,rfl⟩) (by decide)
def ti28 : TI := ⟨(.struct #[⟨"X", 26, 0, false, "", "", 0⟩, ⟨"Y", 26, 1, false, "", "", 24⟩, ⟨"Class", 3, 2, false, "", "", 48⟩]), 3, 56, (.agg #[(.slice none 0 0), (.slice none 0 0), (.int .i64 0)]), some (.p (.sl (.int .i64)) (.p (.sl (.int .i64)) (.int .i64)))⟩
theorem ti28_ok:ti28.Ok Tryz.prog 28:=TI.ok_of (by kernel_rfl) (by kernel_rfl) (by intro y hy;cases hy <;> exact ⟨rfl,rfl⟩) (by decide)
def ti34:TI:=⟨(.array 2 26),2,48,(.agg #[(.slice none 0 0),(.slice none 0 0)]),none⟩
theorem ti34_ok:ti34.Ok Tryz.prog 34:=TI.ok_of (by kernel_rfl) (by kernel_rfl) (by intro y hy;cases hy <;> exact ⟨rfl,rfl⟩) (by decide)
def ti35:TI:=⟨(.int .i64),1,8,(.int .i64 0),some (.int .i64)⟩
theorem ti35_ok:ti35.Ok Tryz.prog 35:=TI.ok_of (by kernel_rfl) (by kernel_rfl) (by intro y hy;cases hy <;> exact ⟨rfl,rfl⟩) (by decide)
def ti36:TI:=⟨(.int .i64),1,8,(.int .i64 0),some (.int .i64)⟩
theorem ti36_ok:ti36.Ok Tryz.prog 36:=TI.ok_of (by kernel_rfl) (by kernel_rfl) (by intro y hy;cases hy <;> exact ⟨rfl,rfl⟩) (by decide)
def ti40:TI:=⟨(.slice 115),1,24,(.slice none 0 0),some (.sl (.p .str (.p (.int .i64) (.int .i64))))⟩
theorem ti40_ok:ti40.Ok Tryz.prog 40:=TI.ok_of (by kernel_rfl) (by kernel_rfl) (by intro y hy;cases hy <;> exact ⟨rfl,rfl⟩) (by decide)
def ti42 : TI := ⟨(.struct #[⟨"In", 22, 0, false, "", "", 0⟩, ⟨"Layers", 40, 1, false, "", "", 24⟩]), 2, 48, (.agg #[(.slice none 0 0), (.slice none 0 0)]), some (.p (.sl (.int .i64)) (.sl (.p .str (.p (.int .i64) (.int .i64)))))⟩
theorem ti42_ok:ti42.Ok Tryz.prog 42:=TI.ok_of (by kernel_rfl) (by kernel_rfl) (by intro y hy;cases hy <;> exact ⟨rfl,rfl⟩) (by decide)
def ti44 : TI := ⟨(.struct #[⟨"X", 26, 0, false, "", "", 0⟩, ⟨"Y", 26, 1, false, "", "", 24⟩, ⟨"Class", 3, 2, false, "", "", 48⟩]), 3, 56, (.agg #[(.slice none 0 0), (.slice none 0 0), (.int .i64 0)]), some (.p (.sl (.int .i64)) (.p (.sl (.int .i64)) (.int .i64)))⟩
theorem ti44_ok:ti44.Ok Tryz.prog 44:=TI.ok_of (by kernel_rfl) (by kernel_rfl) (by intro y hy;cases hy <;> exact ⟨rfl,rfl⟩) (by decide)
def ti48:TI:=⟨(.slice 28),1,24,(.slice none 0 0),some (.sl (.p (.sl (.int .i64)) (.p (.sl (.int .i64)) (.int .i64))))⟩
theorem ti48_ok:ti48.Ok Tryz.prog 48:=TI.ok_of (by kernel_rfl) (by kernel_rfl) (by intro y hy;cases hy <;> exact ⟨rfl,rfl⟩) (by decide)
def ti49:TI:=⟨(.slice 44),1,24,(.slice none 0 0),some (.sl (.p (.sl (.int .i64)) (.p (.sl (.int .i64)) (.int .i64))))⟩
theorem ti49_ok:ti49.Ok Tryz.prog 49:=TI.ok_of (by kernel_rfl) (by kernel_rfl) (by intro y hy;cases hy <;> exact ⟨rfl,rfl⟩) (by decide)
def ti50:TI:=⟨(.slice 53),1,24,(.slice none 0 0),some (.sl (.p (.int .i64) (.int .u64)))⟩
theorem ti50_ok:ti50.Ok Tryz.prog 50:=TI.ok_of (by kernel_rfl) (by kernel_rfl) (by intro y hy;cases hy <;> exact ⟨rfl,rfl⟩) (by decide)
def ti51:TI:=⟨(.int .u64),1,8,(.int .u64 0),some (.int .u64)⟩
theorem ti51_ok:ti51.Ok Tryz.prog 51:=TI.ok_of (by kernel_rfl) (by kernel_rfl) (by intro y hy;cases hy <;> exact ⟨rfl,rfl⟩) (by decide)
def ti53 : TI := ⟨(.struct #[⟨"Hi", 2, 0, false, "", "", 0⟩, ⟨"Lo", 51, 1, false, "", "", 8⟩]), 2, 16, (.agg #[(.int .i64 0), (.int .u64 0)]), some (.p (.int .i64) (.int .u64))⟩
theorem ti53_ok:ti53.Ok Tryz.prog 53:=TI.ok_of (by kernel_rfl) (by kernel_rfl) (by intro y hy;cases hy <;> exact ⟨rfl,rfl⟩) (by decide)
def ti60 : TI := ⟨(.struct #[⟨"Step", 35, 0, false, "", "", 0⟩, ⟨"Keep", 35, 1, false, "", "", 8⟩, ⟨"Bound", 35, 2, false, "", "", 16⟩]), 3, 24, (.agg #[(.int .i64 0), (.int .i64 0), (.int .i64 0)]), some (.p (.int .i64) (.p (.int .i64) (.int .i64)))⟩
theorem ti60_ok:ti60.Ok Tryz.prog 60:=TI.ok_of (by kernel_rfl) (by kernel_rfl) (by intro y hy;cases hy <;> exact ⟨rfl,rfl⟩) (by decide)
def ti62 : TI := ⟨(.struct #[⟨"Net", 25, 0, false, "", "", 0⟩, ⟨"Kind", 3, 2, false, "", "", 48⟩, ⟨"Batch", 3, 3, false, "", "", 56⟩, ⟨"Rate", 60, 4, false, "", "", 64⟩, ⟨"Data", 48, 7, false, "", "", 88⟩, ⟨"P", 26, 8, false, "", "", 112⟩]), 9, 136, (.agg #[(.slice none 0 0), (.slice none 0 0), (.int .i64 0), (.int .i64 0), (.int .i64 0), (.int .i64 0), (.int .i64 0), (.slice none 0 0), (.slice none 0 0)]), some (.p (.p (.sl (.int .i64)) (.sl (.p .str (.p (.int .i64) (.int .i64))))) (.p (.int .i64) (.p (.int .i64) (.p (.p (.int .i64) (.p (.int .i64) (.int .i64))) (.p (.sl (.p (.sl (.int .i64)) (.p (.sl (.int .i64)) (.int .i64)))) (.sl (.int .i64)))))))⟩
theorem ti62_ok:ti62.Ok Tryz.prog 62:=TI.ok_of (by kernel_rfl) (by kernel_rfl) (by intro y hy;cases hy <;> exact ⟨rfl,rfl⟩) (by decide)
def ti65 : TI := ⟨(.struct #[⟨"Step", 35, 0, false, "", "", 0⟩, ⟨"Keep", 35, 1, false, "", "", 8⟩, ⟨"Bound", 35, 2, false, "", "", 16⟩]), 3, 24, (.agg #[(.int .i64 0), (.int .i64 0), (.int .i64 0)]), some (.p (.int .i64) (.p (.int .i64) (.int .i64)))⟩
theorem ti65_ok:ti65.Ok Tryz.prog 65:=TI.ok_of (by kernel_rfl) (by kernel_rfl) (by intro y hy;cases hy <;> exact ⟨rfl,rfl⟩) (by decide)
def ti67 : TI := ⟨(.struct #[⟨"Net", 42, 0, false, "", "", 0⟩, ⟨"Kind", 3, 2, false, "", "", 48⟩, ⟨"Batch", 3, 3, false, "", "", 56⟩, ⟨"Rate", 65, 4, false, "", "", 64⟩, ⟨"Data", 49, 7, false, "", "", 88⟩, ⟨"P", 26, 8, false, "", "", 112⟩]), 9, 136, (.agg #[(.slice none 0 0), (.slice none 0 0), (.int .i64 0), (.int .i64 0), (.int .i64 0), (.int .i64 0), (.int .i64 0), (.slice none 0 0), (.slice none 0 0)]), some (.p (.p (.sl (.int .i64)) (.sl (.p .str (.p (.int .i64) (.int .i64))))) (.p (.int .i64) (.p (.int .i64) (.p (.p (.int .i64) (.p (.int .i64) (.int .i64))) (.p (.sl (.p (.sl (.int .i64)) (.p (.sl (.int .i64)) (.int .i64)))) (.sl (.int .i64)))))))⟩
theorem ti67_ok:ti67.Ok Tryz.prog 67:=TI.ok_of (by kernel_rfl) (by kernel_rfl) (by intro y hy;cases hy <;> exact ⟨rfl,rfl⟩) (by decide)
def ti69:TI:=⟨(.pointer 129),1,8,(.pointer none),none⟩
theorem ti69_ok:ti69.Ok Tryz.prog 69:=TI.ok_of (by kernel_rfl) (by kernel_rfl) (by intro y hy;cases hy <;> exact ⟨rfl,rfl⟩) (by decide)
def ti74 : TI := ⟨(.struct #[⟨"P", 26, 0, false, "", "", 0⟩, ⟨"M", 26, 1, false, "", "", 24⟩]), 2, 48, (.agg #[(.slice none 0 0), (.slice none 0 0)]), some (.p (.sl (.int .i64)) (.sl (.int .i64)))⟩
theorem ti74_ok:ti74.Ok Tryz.prog 74:=TI.ok_of (by kernel_rfl) (by kernel_rfl) (by intro y hy;cases hy <;> exact ⟨rfl,rfl⟩) (by decide)
def ti78 : TI := ⟨(.struct #[⟨"P", 26, 0, false, "", "", 0⟩, ⟨"M", 26, 1, false, "", "", 24⟩]), 2, 48, (.agg #[(.slice none 0 0), (.slice none 0 0)]), some (.p (.sl (.int .i64)) (.sl (.int .i64)))⟩
theorem ti78_ok:ti78.Ok Tryz.prog 78:=TI.ok_of (by kernel_rfl) (by kernel_rfl) (by intro y hy;cases hy <;> exact ⟨rfl,rfl⟩) (by decide)
def ti88:TI:=⟨(.slice 22),1,24,(.slice none 0 0),some (.sl (.sl (.int .i64)))⟩
theorem ti88_ok:ti88.Ok Tryz.prog 88:=TI.ok_of (by kernel_rfl) (by kernel_rfl) (by intro y hy;cases hy <;> exact ⟨rfl,rfl⟩) (by decide)
def ti91:TI:=⟨(.pointer 142),1,8,(.pointer none),none⟩
theorem ti91_ok:ti91.Ok Tryz.prog 91:=TI.ok_of (by kernel_rfl) (by kernel_rfl) (by intro y hy;cases hy <;> exact ⟨rfl,rfl⟩) (by decide)
def ti97:TI:=⟨(.slice 101),1,24,(.slice none 0 0),some (.sl (.p (.sl (.int .i64)) (.sl (.int .i64))))⟩
theorem ti97_ok:ti97.Ok Tryz.prog 97:=TI.ok_of (by kernel_rfl) (by kernel_rfl) (by intro y hy;cases hy <;> exact ⟨rfl,rfl⟩) (by decide)
def ti101 : TI := ⟨(.struct #[⟨"Dims", 22, 0, false, "", "", 0⟩, ⟨"V", 26, 1, false, "", "", 24⟩]), 2, 48, (.agg #[(.slice none 0 0), (.slice none 0 0)]), some (.p (.sl (.int .i64)) (.sl (.int .i64)))⟩
theorem ti101_ok:ti101.Ok Tryz.prog 101:=TI.ok_of (by kernel_rfl) (by kernel_rfl) (by intro y hy;cases hy <;> exact ⟨rfl,rfl⟩) (by decide)
def ti104:TI:=⟨(.pointer 107),1,8,(.pointer none),none⟩
theorem ti104_ok:ti104.Ok Tryz.prog 104:=TI.ok_of (by kernel_rfl) (by kernel_rfl) (by intro y hy;cases hy <;> exact ⟨rfl,rfl⟩) (by decide)
def ti105:TI:=⟨(.slice 112),1,24,(.slice none 0 0),some (.sl (.p (.int .i64) (.p (.int .i64) (.p (.int .i64) (.p (.int .i64) (.p (.sl (.int .i64)) (.sl (.int .i64))))))))⟩
theorem ti105_ok:ti105.Ok Tryz.prog 105:=TI.ok_of (by kernel_rfl) (by kernel_rfl) (by intro y hy;cases hy <;> exact ⟨rfl,rfl⟩) (by decide)
def ti107 : TI := ⟨(.struct #[⟨"L", 105, 0, false, "", "", 0⟩]), 1, 24, (.agg #[(.slice none 0 0)]), some (.p (.sl (.p (.int .i64) (.p (.int .i64) (.p (.int .i64) (.p (.int .i64) (.p (.sl (.int .i64)) (.sl (.int .i64)))))))) .u)⟩
theorem ti107_ok:ti107.Ok Tryz.prog 107:=TI.ok_of (by kernel_rfl) (by kernel_rfl) (by intro y hy;cases hy <;> exact ⟨rfl,rfl⟩) (by decide)
def ti112 : TI := ⟨(.struct #[⟨"Op", 3, 0, false, "", "", 0⟩, ⟨"A", 3, 1, false, "", "", 8⟩, ⟨"B", 3, 2, false, "", "", 16⟩, ⟨"K", 35, 3, false, "", "", 24⟩, ⟨"T", 101, 4, false, "", "", 32⟩]), 6, 80, (.agg #[(.int .i64 0), (.int .i64 0), (.int .i64 0), (.int .i64 0), (.slice none 0 0), (.slice none 0 0)]), some (.p (.int .i64) (.p (.int .i64) (.p (.int .i64) (.p (.int .i64) (.p (.sl (.int .i64)) (.sl (.int .i64)))))))⟩
theorem ti112_ok:ti112.Ok Tryz.prog 112:=TI.ok_of (by kernel_rfl) (by kernel_rfl) (by intro y hy;cases hy <;> exact ⟨rfl,rfl⟩) (by decide)
def ti114 : TI := ⟨(.struct #[⟨"Kind", 9, 0, false, "", "", 0⟩, ⟨"A", 3, 1, false, "", "", 16⟩, ⟨"B", 3, 2, false, "", "", 24⟩]), 3, 32, (.agg #[(.string ⟨#[]⟩), (.int .i64 0), (.int .i64 0)]), some (.p .str (.p (.int .i64) (.int .i64)))⟩
theorem ti114_ok:ti114.Ok Tryz.prog 114:=TI.ok_of (by kernel_rfl) (by kernel_rfl) (by intro y hy;cases hy <;> exact ⟨rfl,rfl⟩) (by decide)
def ti115 : TI := ⟨(.struct #[⟨"Kind", 9, 0, false, "", "", 0⟩, ⟨"A", 3, 1, false, "", "", 16⟩, ⟨"B", 3, 2, false, "", "", 24⟩]), 3, 32, (.agg #[(.string ⟨#[]⟩), (.int .i64 0), (.int .i64 0)]), some (.p .str (.p (.int .i64) (.int .i64)))⟩
theorem ti115_ok:ti115.Ok Tryz.prog 115:=TI.ok_of (by kernel_rfl) (by kernel_rfl) (by intro y hy;cases hy <;> exact ⟨rfl,rfl⟩) (by decide)
def ti120:TI:=⟨(.array 4 51),4,32,(.agg #[(.int .u64 0),(.int .u64 0),(.int .u64 0),(.int .u64 0)]),none⟩
theorem ti120_ok:ti120.Ok Tryz.prog 120:=TI.ok_of (by kernel_rfl) (by kernel_rfl) (by intro y hy;cases hy <;> exact ⟨rfl,rfl⟩) (by decide)
def ti122 : TI := ⟨(.struct #[⟨"Neg", 4, 0, false, "", "", 0⟩, ⟨"M", 120, 1, false, "", "", 8⟩]), 5, 40, (.agg #[(.bool false), (.int .u64 0), (.int .u64 0), (.int .u64 0), (.int .u64 0)]), none⟩
theorem ti122_ok:ti122.Ok Tryz.prog 122:=TI.ok_of (by kernel_rfl) (by kernel_rfl) (by intro y hy;cases hy <;> exact ⟨rfl,rfl⟩) (by decide)
def ti129 : TI := ⟨(.struct #[⟨"j", 62, 0, false, "", "carousel/solo", 0⟩, ⟨"s", 78, 9, false, "", "carousel/solo", 136⟩, ⟨"steps", 2, 11, false, "", "carousel/solo", 184⟩, ⟨"loss", 53, 12, false, "", "carousel/solo", 192⟩]), 14, 208, (.agg #[(.slice none 0 0), (.slice none 0 0), (.int .i64 0), (.int .i64 0), (.int .i64 0), (.int .i64 0), (.int .i64 0), (.slice none 0 0), (.slice none 0 0), (.slice none 0 0), (.slice none 0 0), (.int .i64 0), (.int .i64 0), (.int .u64 0)]), some (.p (.p (.p (.sl (.int .i64)) (.sl (.p .str (.p (.int .i64) (.int .i64))))) (.p (.int .i64) (.p (.int .i64) (.p (.p (.int .i64) (.p (.int .i64) (.int .i64))) (.p (.sl (.p (.sl (.int .i64)) (.p (.sl (.int .i64)) (.int .i64)))) (.sl (.int .i64))))))) (.p (.p (.sl (.int .i64)) (.sl (.int .i64))) (.p (.int .i64) (.p (.int .i64) (.int .u64)))))⟩
theorem ti129_ok:ti129.Ok Tryz.prog 129:=TI.ok_of (by kernel_rfl) (by kernel_rfl) (by intro y hy;cases hy <;> exact ⟨rfl,rfl⟩) (by decide)
def ti140:TI:=⟨(.slice 161),1,24,(.slice none 0 0),some (.sl (.p (.int .i64) (.p (.int .i64) (.p (.int .i64) (.p (.int .i64) (.p (.sl (.int .i64)) (.sl (.int .i64))))))))⟩
theorem ti140_ok:ti140.Ok Tryz.prog 140:=TI.ok_of (by kernel_rfl) (by kernel_rfl) (by intro y hy;cases hy <;> exact ⟨rfl,rfl⟩) (by decide)
def ti142 : TI := ⟨(.struct #[⟨"l", 140, 0, false, "", "carousel/tape", 0⟩]), 1, 24, (.agg #[(.slice none 0 0)]), some (.p (.sl (.p (.int .i64) (.p (.int .i64) (.p (.int .i64) (.p (.int .i64) (.p (.sl (.int .i64)) (.sl (.int .i64)))))))) .u)⟩
theorem ti142_ok:ti142.Ok Tryz.prog 142:=TI.ok_of (by kernel_rfl) (by kernel_rfl) (by intro y hy;cases hy <;> exact ⟨rfl,rfl⟩) (by decide)
def ti146:TI:=⟨(.pointer 148),1,8,(.pointer none),none⟩
theorem ti146_ok:ti146.Ok Tryz.prog 146:=TI.ok_of (by kernel_rfl) (by kernel_rfl) (by intro y hy;cases hy <;> exact ⟨rfl,rfl⟩) (by decide)
def ti148 : TI := ⟨(.struct #[⟨"t", 91, 0, false, "", "carousel/model", 0⟩, ⟨"e", 36, 1, false, "", "carousel/model", 8⟩, ⟨"p", 26, 2, false, "", "carousel/model", 16⟩, ⟨"leafs", 22, 3, false, "", "carousel/model", 40⟩]), 4, 64, (.agg #[(.pointer none), (.int .i64 0), (.slice none 0 0), (.slice none 0 0)]), none⟩
theorem ti148_ok:ti148.Ok Tryz.prog 148:=TI.ok_of (by kernel_rfl) (by kernel_rfl) (by intro y hy;cases hy <;> exact ⟨rfl,rfl⟩) (by decide)
def ti155:TI:=⟨(.pointer 158),1,8,(.pointer none),none⟩
theorem ti155_ok:ti155.Ok Tryz.prog 155:=TI.ok_of (by kernel_rfl) (by kernel_rfl) (by intro y hy;cases hy <;> exact ⟨rfl,rfl⟩) (by decide)
def ti156:TI:=⟨(.slice 4),1,24,(.slice none 0 0),some (.sl .bool)⟩
theorem ti156_ok:ti156.Ok Tryz.prog 156:=TI.ok_of (by kernel_rfl) (by kernel_rfl) (by intro y hy;cases hy <;> exact ⟨rfl,rfl⟩) (by decide)
def ti158 : TI := ⟨(.struct #[⟨"l", 97, 0, false, "", "carousel/back", 0⟩, ⟨"given", 156, 1, false, "", "carousel/back", 24⟩]), 2, 48, (.agg #[(.slice none 0 0), (.slice none 0 0)]), some (.p (.sl (.p (.sl (.int .i64)) (.sl (.int .i64)))) (.sl .bool))⟩
theorem ti158_ok:ti158.Ok Tryz.prog 158:=TI.ok_of (by kernel_rfl) (by kernel_rfl) (by intro y hy;cases hy <;> exact ⟨rfl,rfl⟩) (by decide)
def ti161 : TI := ⟨(.struct #[⟨"Op", 3, 0, false, "", "", 0⟩, ⟨"A", 3, 1, false, "", "", 8⟩, ⟨"B", 3, 2, false, "", "", 16⟩, ⟨"K", 35, 3, false, "", "", 24⟩, ⟨"T", 101, 4, false, "", "", 32⟩]), 6, 80, (.agg #[(.int .i64 0), (.int .i64 0), (.int .i64 0), (.int .i64 0), (.slice none 0 0), (.slice none 0 0)]), some (.p (.int .i64) (.p (.int .i64) (.p (.int .i64) (.p (.int .i64) (.p (.sl (.int .i64)) (.sl (.int .i64)))))))⟩
theorem ti161_ok:ti161.Ok Tryz.prog 161:=TI.ok_of (by kernel_rfl) (by kernel_rfl) (by intro y hy;cases hy <;> exact ⟨rfl,rfl⟩) (by decide)
def ti174:TI:=⟨(.int .u64),1,8,(.int .u64 0),some (.int .u64)⟩
theorem ti174_ok:ti174.Ok Tryz.prog 174:=TI.ok_of (by kernel_rfl) (by kernel_rfl) (by intro y hy;cases hy <;> exact ⟨rfl,rfl⟩) (by decide)
def ti191:TI:=⟨(.pointer 231),1,8,(.pointer none),none⟩
theorem ti191_ok:ti191.Ok Tryz.prog 191:=TI.ok_of (by kernel_rfl) (by kernel_rfl) (by intro y hy;cases hy <;> exact ⟨rfl,rfl⟩) (by decide)
def ti231 : TI := ⟨(.struct #[⟨"t", 91, 0, false, "", "carousel/loss", 0⟩, ⟨"was", 3, 1, false, "", "carousel/loss", 8⟩, ⟨"e", 36, 2, false, "", "carousel/loss", 16⟩]), 3, 24, (.agg #[(.pointer none), (.int .i64 0), (.int .i64 0)]), none⟩
theorem ti231_ok:ti231.Ok Tryz.prog 231:=TI.ok_of (by kernel_rfl) (by kernel_rfl) (by intro y hy;cases hy <;> exact ⟨rfl,rfl⟩) (by decide)
def ti252:TI:=⟨(.array 2 51),2,16,(.agg #[(.int .u64 0),(.int .u64 0)]),none⟩
theorem ti252_ok:ti252.Ok Tryz.prog 252:=TI.ok_of (by kernel_rfl) (by kernel_rfl) (by intro y hy;cases hy <;> exact ⟨rfl,rfl⟩) (by decide)
def ti255:TI:=⟨(.int .u32),1,4,(.int .u32 0),some (.int .u32)⟩
theorem ti255_ok:ti255.Ok Tryz.prog 255:=TI.ok_of (by kernel_rfl) (by kernel_rfl) (by intro y hy;cases hy <;> exact ⟨rfl,rfl⟩) (by decide)
def ti264 : TI := ⟨(.struct #[⟨"top", 2, 0, false, "", "carousel/wide", 0⟩, ⟨"low", 53, 1, false, "", "carousel/wide", 8⟩]), 3, 24, (.agg #[(.int .i64 0), (.int .i64 0), (.int .u64 0)]), some (.p (.int .i64) (.p (.int .i64) (.int .u64)))⟩
theorem ti264_ok:ti264.Ok Tryz.prog 264:=TI.ok_of (by kernel_rfl) (by kernel_rfl) (by intro y hy;cases hy <;> exact ⟨rfl,rfl⟩) (by decide)
def ti278:TI:=⟨(.pointer 264),1,8,(.pointer none),none⟩
theorem ti278_ok:ti278.Ok Tryz.prog 278:=TI.ok_of (by kernel_rfl) (by kernel_rfl) (by intro y hy;cases hy <;> exact ⟨rfl,rfl⟩) (by decide)
def tab:TE:=[(2,ti2),(3,ti3),(4,ti4),(5,ti5),(9,ti9),(22,ti22),(23,ti23),(25,ti25),(26,ti26),(28,ti28),(34,ti34),(35,ti35),(36,ti36),(40,ti40),(42,ti42),(44,ti44),(48,ti48),(49,ti49),(50,ti50),(51,ti51),(53,ti53),(60,ti60),(62,ti62),(65,ti65),(67,ti67),(69,ti69),(74,ti74),(78,ti78),(88,ti88),(91,ti91),(97,ti97),(101,ti101),(104,ti104),(105,ti105),(107,ti107),(112,ti112),(114,ti114),(115,ti115),(120,ti120),(122,ti122),(129,ti129),(140,ti140),(142,ti142),(146,ti146),(148,ti148),(155,ti155),(156,ti156),(158,ti158),(161,ti161),(174,ti174),(191,ti191),(231,ti231),(252,ti252),(255,ti255),(264,ti264),(278,ti278)]
theorem tab_ok:tab.Ok Tryz.prog:=TE.ok_cons ti2_ok (TE.ok_cons ti3_ok (TE.ok_cons ti4_ok (TE.ok_cons ti5_ok (TE.ok_cons ti9_ok (TE.ok_cons ti22_ok (TE.ok_cons ti23_ok (TE.ok_cons ti25_ok (TE.ok_cons ti26_ok (TE.ok_cons ti28_ok (TE.ok_cons ti34_ok (TE.ok_cons ti35_ok (TE.ok_cons ti36_ok (TE.ok_cons ti40_ok (TE.ok_cons ti42_ok (TE.ok_cons ti44_ok (TE.ok_cons ti48_ok (TE.ok_cons ti49_ok (TE.ok_cons ti50_ok (TE.ok_cons ti51_ok (TE.ok_cons ti53_ok (TE.ok_cons ti60_ok (TE.ok_cons ti62_ok (TE.ok_cons ti65_ok (TE.ok_cons ti67_ok (TE.ok_cons ti69_ok (TE.ok_cons ti74_ok (TE.ok_cons ti78_ok (TE.ok_cons ti88_ok (TE.ok_cons ti91_ok (TE.ok_cons ti97_ok (TE.ok_cons ti101_ok (TE.ok_cons ti104_ok (TE.ok_cons ti105_ok (TE.ok_cons ti107_ok (TE.ok_cons ti112_ok (TE.ok_cons ti114_ok (TE.ok_cons ti115_ok (TE.ok_cons ti120_ok (TE.ok_cons ti122_ok (TE.ok_cons ti129_ok (TE.ok_cons ti140_ok (TE.ok_cons ti142_ok (TE.ok_cons ti146_ok (TE.ok_cons ti148_ok (TE.ok_cons ti155_ok (TE.ok_cons ti156_ok (TE.ok_cons ti158_ok (TE.ok_cons ti161_ok (TE.ok_cons ti174_ok (TE.ok_cons ti191_ok (TE.ok_cons ti231_ok (TE.ok_cons ti252_ok (TE.ok_cons ti255_ok (TE.ok_cons ti264_ok (TE.ok_cons ti278_ok (TE.ok_nil _))))))))))))))))))))))))))))))))))))))))))))))))))))))))
theorem mixed:Tryz.prog.follows .mixedOrders=true:=by kernel_rfl
theorem add64_ok:ExtI Tryz.prog 82 (ext3 add64):=ext_add64 (fn:=Tryz.f82) (by kernel_rfl) (by kernel_rfl) (by kernel_rfl) (by kernel_rfl) (by kernel_rfl)
theorem sub64_ok:ExtI Tryz.prog 237 (ext3 sub64):=ext_sub64 (fn:=Tryz.f237) (by kernel_rfl) (by kernel_rfl) (by kernel_rfl) (by kernel_rfl) (by kernel_rfl)
abbrev HF (n:outParam Nat) (args:outParam (List Pat)) (hin:outParam (List (Nat×Chunk))) (e:outParam Nat) {Y:Type} (o:Option Y) (ret:outParam (Y→List Pat)) (hout:outParam (Y→List (Nat×Chunk))) (nout:outParam Nat):Prop:=HD Tryz.prog n args hin e o ret hout nout
abbrev HE (n:Nat) (args:List Pat) {Y:Type} (o:Option Y) (ret:Y→List Pat):Prop:=HD Tryz.prog n args [] 0 o ret (fun _=>[]) 0
theorem hd {n:Nat} (fn:Func) {c:Code} (hb:fn.body=some c) {args:List Pat} {hin:List (Nat×Chunk)} {e:Nat} {Y:Type} {o:Option Y} {ret:Y→List Pat} {hout:Y→List (Nat×Chunk)} {nout:Nat}
    (H:∀ y,o=some y→vc Tryz.prog tab fn.ntmps e c (retK tab (conF args hin e o ret hout nout) fn.results.toList y) ((conF args hin e o ret hout nout).shIn ()).st)
    (hf : Tryz.prog.funcs[n]? = some fn := by kernel_rfl) (hn : (fn.name == "runtime.NumGoroutine") = false := by kernel_rfl) : HD Tryz.prog n args hin e o ret hout nout :=
  ⟨⟨fn,hf,by rw [hb];rfl,hn⟩,hV tab_ok mixed hf hb (conF args hin e o ret hout nout) (fun _ y=>H y)⟩
theorem gV {p:Prop} (h:p:=by
  repeat' ((conv=>whnf) <;> first
    | with_reducible exact True.intro
    | ((with_reducible refine Eq.symm ?_);exact rfl)
    | (intro h;first
        | (cases h;done)
        | (replace q:=cTt h q;clear h)
        | (replace q:=cTf h q;clear h)
        | skip)
    | with_reducible exact noneE q
    | ((with_reducible have e:=sE q);replace q:=True.intro;cases e)
    | with_reducible replace q:=sumL q
    | with_reducible replace q:=sumR q
    | with_reducible assumption
    | ((with_reducible have g:=gE q);refine And.intro g.1 ?_;replace q:=g.2)
    | ((with_reducible refine cL0 ?_);first
        | (obtain ⟨r,h,q⟩:=bE q;first
           | (refine cX [r.1,r.2] add64_ok ?_;refine And.intro (ext3I h) ?_;clear h)
           | (refine cX [r.1,r.2] sub64_ok ?_;refine And.intro (ext3I h) ?_;clear h)
           | (rcases sumE q with ⟨a,e,q⟩ | ⟨a,e,q⟩ <;> subst e <;> (apply cL h;(conv=>lhs;reduce);clear h))
           | (apply cL h;(conv=>lhs;reduce);clear h)))
    | with_reducible refine And.intro ?_ ?_
    | (refine Or.inl ?_;(conv=>whnf);fail_if_success (with_reducible change False))
    | (refine Or.inr ?_;(conv=>whnf);fail_if_success (with_reducible change False))
    | (apply E4g;(conv=>lhs;reduce))
    | refine rG ?_
    | refine Exists.intro _ (And.intro q ?_))):p:=h
theorem gW {p:Prop} (h:p:=by conv=>lhs;reduce):p:=h
open IntKind (i64 u64 i32 u32 i16 u16 i8 u8)
theorem AI {a b:Prop} (x:a) (y:b):a∧b:=⟨x,y⟩
theorem EI {α:Sort _} {p:α→Prop} (w:α) (h:p w):∃ x,p x:=⟨w,h⟩
theorem OL {a b:Prop} (x:a):a∨b:=.inl x
theorem OQ {a b:Prop} (x:b):a∨b:=.inr x
theorem TV:True:=True.intro
theorem E4 {e:Nat} {s:St} {J:Sh} (ρ:Ren) (h:(renB J.nx ρ []&&protB e ρ&&Nat.ble e J.nx)=true∧Weak ρ s J):toSh e s J:=⟨[],[],[],[],ρ,h⟩
theorem R2 {A0:Sort _} {a0:A0} {A1:Sort _} {a1:A1} {p:Prop} (h:p):a0=a0∧a1=a1∧p:=⟨rfl,rfl,h⟩
theorem R3 {A0:Sort _} {a0:A0} {A1:Sort _} {a1:A1} {A2:Sort _} {a2:A2} {p:Prop} (h:p):a0=a0∧a1=a1∧a2=a2∧p:=⟨rfl,rfl,rfl,h⟩
theorem R4 {A0:Sort _} {a0:A0} {A1:Sort _} {a1:A1} {A2:Sort _} {a2:A2} {A3:Sort _} {a3:A3} {p:Prop} (h:p):a0=a0∧a1=a1∧a2=a2∧a3=a3∧p:=⟨rfl,rfl,rfl,rfl,h⟩
theorem R5 {A0:Sort _} {a0:A0} {A1:Sort _} {a1:A1} {A2:Sort _} {a2:A2} {A3:Sort _} {a3:A3} {A4:Sort _} {a4:A4} {p:Prop} (h:p):a0=a0∧a1=a1∧a2=a2∧a3=a3∧a4=a4∧p:=⟨rfl,rfl,rfl,rfl,rfl,h⟩
theorem R6 {A0:Sort _} {a0:A0} {A1:Sort _} {a1:A1} {A2:Sort _} {a2:A2} {A3:Sort _} {a3:A3} {A4:Sort _} {a4:A4} {A5:Sort _} {a5:A5} {p:Prop} (h:p):a0=a0∧a1=a1∧a2=a2∧a3=a3∧a4=a4∧a5=a5∧p:=⟨rfl,rfl,rfl,rfl,rfl,rfl,h⟩
theorem R7 {A0:Sort _} {a0:A0} {A1:Sort _} {a1:A1} {A2:Sort _} {a2:A2} {A3:Sort _} {a3:A3} {A4:Sort _} {a4:A4} {A5:Sort _} {a5:A5} {A6:Sort _} {a6:A6} {p:Prop} (h:p):a0=a0∧a1=a1∧a2=a2∧a3=a3∧a4=a4∧a5=a5∧a6=a6∧p:=⟨rfl,rfl,rfl,rfl,rfl,rfl,rfl,h⟩
theorem R8 {A0:Sort _} {a0:A0} {A1:Sort _} {a1:A1} {A2:Sort _} {a2:A2} {A3:Sort _} {a3:A3} {A4:Sort _} {a4:A4} {A5:Sort _} {a5:A5} {A6:Sort _} {a6:A6} {A7:Sort _} {a7:A7} {p:Prop} (h:p):a0=a0∧a1=a1∧a2=a2∧a3=a3∧a4=a4∧a5=a5∧a6=a6∧a7=a7∧p:=⟨rfl,rfl,rfl,rfl,rfl,rfl,rfl,rfl,h⟩
theorem R9 {A0:Sort _} {a0:A0} {A1:Sort _} {a1:A1} {A2:Sort _} {a2:A2} {A3:Sort _} {a3:A3} {A4:Sort _} {a4:A4} {A5:Sort _} {a5:A5} {A6:Sort _} {a6:A6} {A7:Sort _} {a7:A7} {A8:Sort _} {a8:A8} {p:Prop} (h:p):a0=a0∧a1=a1∧a2=a2∧a3=a3∧a4=a4∧a5=a5∧a6=a6∧a7=a7∧a8=a8∧p:=⟨rfl,rfl,rfl,rfl,rfl,rfl,rfl,rfl,rfl,h⟩
abbrev T0:Ty:=.int .i64
abbrev T1:Ty:=.p .str (.p (.int .i64) (.int .i64))
abbrev T2:Ty:=.p (.sl (.int .i64)) (.sl (.p .str (.p (.int .i64) (.int .i64))))
abbrev T3:Ty:=.sl (.p .str (.p (.int .i64) (.int .i64)))
abbrev T4:Ty:=.sl (.int .i64)
abbrev T5:Ty:=.sl (.sl (.int .i64))
abbrev T6:Ty:=.p (.int .i64) (.p (.int .i64) (.p (.int .i64) (.p (.int .i64) (.p (.sl (.int .i64)) (.sl (.int .i64))))))
abbrev T7:Ty:=.p (.sl (.int .i64)) (.sl (.int .i64))
abbrev T8:Ty:=.int .u64
abbrev T9:Ty:=.p (.int .i64) (.int .u64)
abbrev T10:Ty:=.p (.sl (.int .i64)) (.p (.sl (.int .i64)) (.int .i64))
abbrev T11:Ty:=.sl (.p (.sl (.int .i64)) (.p (.sl (.int .i64)) (.int .i64)))
abbrev P0 (a b:Nat):Pat:=.raw false [.ptr a b]
abbrev O0 (a:Nat):Pat:=.raw false [.osl a]
abbrev N0:CV:=.c (.slice none 0 0)
abbrev D0 (x:Int):Pat:=.dat (.int .i64) x
abbrev LI:=List Int
abbrev ND:=Int×Int×Int×Int×LI×LI
theorem NH {p:Prop}:false=true→p:=fun h=>nomatch h
theorem AJ {α:Sort _} {a:α} {p:Prop} (h:p):(a=a∧True)∧p:=⟨⟨rfl,trivial⟩,h⟩
abbrev NL:=List ND
abbrev I2:Ren:=[(0,some 0),(1,some 1)]
abbrev I3:Ren:=[(0,some 0),(1,some 1),(2,some 2)]
abbrev I4:Ren:=[(0,some 0),(1,some 1),(2,some 2),(3,some 3)]
abbrev I5:Ren:=[(0,some 0),(1,some 1),(2,some 2),(3,some 3),(4,some 4)]
abbrev I9:Ren:=[(0,some 0),(1,some 1),(2,some 2),(3,some 3),(4,some 4),(5,some 5),(6,some 6),(7,some 7),(8,some 8)]
abbrev HP (C:Con) (n:Nat):Prop:=C.Holds Tryz.prog n
theorem hH {n:Nat} (fn:Func) {c:Code} (hf:Tryz.prog.funcs[n]?=some fn) (hb:fn.body=some c) {C:Con} (H:∀ x y,C.F x=some y→vc Tryz.prog tab fn.ntmps C.e c (retK tab C fn.results.toList y) (C.shIn x).st):HP C n:=hV tab_ok mixed hf hb C H
abbrev LE:=List (Nat×Pat)→List (Nat×Pat)
abbrev LH:=List (Nat×Chunk)→List (Nat×Chunk)
def tU (a:Nat):Nat→OT→OT
  | 0,X=>X
  | n+1,X=>.take a (tU (a+1) n X)
def iuA:Nat→List Nat→Ren
  | _,[]=>[]
  | k,0::l=>(k,none)::iuA (k+1) l
  | k,(n+1)::l=>(k,some n)::iuA (k+1) l
abbrev iuR (l:List Nat):Ren:=iuA 0 l
theorem lJ {X Z:Type} {B:(X→Option Z)→X→Option Z} {n:Nat} {x:X} {z:Z} (h:Fp B n x=some z) {A1 A2 A3:(X Z:Type)→(X→Sh)→(Z→List (Nat×Sh))→(Nat→X→Option Z)→Nat→X→Z→Prop} (J:X→Sh) (E:Z→List (Nat×Sh)) (h1:A1 X Z J E (Fp B) n x z) (h2:A2 X Z J E (Fp B) n x z) (h3:A3 X Z J E (Fp B) n x z):∃ (X Z:Type) (J:X→Sh) (E:Z→List (Nat×Sh)) (L:Nat→X→Option Z) (n:Nat) (x:X) (z:Z),L n x=some z∧A1 X Z J E L n x z∧(∀ x z,L 0 x=some z→False)∧A2 X Z J E L n x z∧A3 X Z J E L n x z:=
  ⟨X,Z,J,E,Fp B,n,x,z,h,h1,fun _ _ h=>lZ h,h2,h3⟩
theorem iNo {c:Prop} {_:Decidable c} {α:Sort _} {t e:α} (h:¬c:=by omega):ite c t e=e:=if_neg h
theorem iPo {c:Prop} {_:Decidable c} {α:Sort _} {t e:α} (h:c:=by omega):ite c t e=t:=if_pos h
abbrev LTz0:=List (ByteArray×Int×Int)
abbrev LTz1:=List (LI×LI)
abbrev LTz2:=List (Int×Int)
abbrev Fz:=LI×LI
abbrev PTz4:=Int×Int×Int×Int
abbrev Ki:=Int×Int×NL
abbrev Ji:=Int×Int
abbrev Jn:=Int×Fz
abbrev Js:=LI×LTz0
abbrev Jy:=Int×LI
abbrev Jt:=Bool×PTz4
abbrev PTz11:=Int×Int×LI×LI×NL
abbrev PTz12:=LI×LI×Int
abbrev PTz13:=ByteArray×Ji
abbrev PTz14:=Int×Bool
abbrev PTz15:=Int×Ji
end Go.Proofs
