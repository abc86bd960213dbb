import Derived.Test.YtdnlicefpmiljaaGreatDoorAmX
import Derived.Test.YtdnlicefpmiljaaGreatDoorProg
set_option linter.unusedVariables false
set_option maxRecDepth 100000
set_option maxHeartbeats 8000000
namespace Go.Proofs
open Go.AM
def ti2:TI:=⟨(.int .i64),1,8,(.int .i64 0),some (.int .i64)⟩
theorem ti2_ok:ti2.Ok Tryz.prog 2:=TI.ok_of (by kernel_rfl) (by kernel_rfl) (by intro y hy;cases hy <;> exact ⟨rfl,rfl⟩) (by decide)
def ti3:TI:=⟨(.int .i64),1,8,(.int .i64 0),some (.int .i64)⟩
theorem ti3_ok:ti3.Ok Tryz.prog 3:=TI.ok_of (by kernel_rfl) (by kernel_rfl) (by intro y hy;cases hy <;> exact ⟨rfl,rfl⟩) (by decide)
def ti4:TI:=⟨.bool,1,1,(.bool false),some .bool⟩
theorem ti4_ok:ti4.Ok Tryz.prog 4:=TI.ok_of (by kernel_rfl) (by kernel_rfl) (by intro y hy;cases hy <;> exact ⟨rfl,rfl⟩) (by decide)
def ti5:TI:=⟨(.int .u8),1,1,(.int .u8 0),some (.int .u8)⟩
theorem ti5_ok:ti5.Ok Tryz.prog 5:=TI.ok_of (by kernel_rfl) (by kernel_rfl) (by intro y hy;cases hy <;> exact ⟨rfl,rfl⟩) (by decide)
def ti9:TI:=⟨.string,1,16,(.string ⟨#[]⟩),some .str⟩
theorem ti9_ok:ti9.Ok Tryz.prog 9:=TI.ok_of (by kernel_rfl) (by kernel_rfl) (by intro y hy;cases hy <;> exact ⟨rfl,rfl⟩) (by decide)
def ti21:TI:=⟨(.int .i32),1,4,(.int .i32 0),some (.int .i32)⟩
theorem ti21_ok:ti21.Ok Tryz.prog 21:=TI.ok_of (by kernel_rfl) (by kernel_rfl) (by intro y hy;cases hy <;> exact ⟨rfl,rfl⟩) (by decide)
def ti23:TI:=⟨(.slice 3),1,24,(.slice none 0 0),some (.sl (.int .i64))⟩
theorem ti23_ok:ti23.Ok Tryz.prog 23:=TI.ok_of (by kernel_rfl) (by kernel_rfl) (by intro y hy;cases hy <;> exact ⟨rfl,rfl⟩) (by decide)
def ti24:TI:=⟨(.slice 70),1,24,(.slice none 0 0),some (.sl (.p .str (.p (.int .i64) (.int .i64))))⟩
theorem ti24_ok:ti24.Ok Tryz.prog 24:=TI.ok_of (by kernel_rfl) (by kernel_rfl) (by intro y hy;cases hy <;> exact ⟨rfl,rfl⟩) (by decide)
def ti26 : TI := ⟨(.struct #[⟨"In", 23, 0, false, "", "", 0⟩, ⟨"Layers", 24, 1, false, "", "", 24⟩]), 2, 48, (.agg #[(.slice none 0 0), (.slice none 0 0)]), some (.p (.sl (.int .i64)) (.sl (.p .str (.p (.int .i64) (.int .i64)))))⟩
theorem ti26_ok:ti26.Ok Tryz.prog 26:=TI.ok_of (by kernel_rfl) (by kernel_rfl) (by intro y hy;cases hy <;> exact ⟨rfl,rfl⟩) (by decide)
def ti27:TI:=⟨(.int .i64),1,8,(.int .i64 0),some (.int .i64)⟩
theorem ti27_ok:ti27.Ok Tryz.prog 27:=TI.ok_of (by kernel_rfl) (by kernel_rfl) (by intro y hy;cases hy <;> exact ⟨rfl,rfl⟩) (by decide)
def ti30:TI:=⟨(.slice 23),1,24,(.slice none 0 0),some (.sl (.sl (.int .i64)))⟩
theorem ti30_ok:ti30.Ok Tryz.prog 30:=TI.ok_of (by kernel_rfl) (by kernel_rfl) (by intro y hy;cases hy <;> exact ⟨rfl,rfl⟩) (by decide)
def ti39:TI:=⟨(.slice 91),1,24,(.slice none 0 0),some (.sl (.p .str (.p (.int .i64) (.int .i64))))⟩
theorem ti39_ok:ti39.Ok Tryz.prog 39:=TI.ok_of (by kernel_rfl) (by kernel_rfl) (by intro y hy;cases hy <;> exact ⟨rfl,rfl⟩) (by decide)
def ti41 : TI := ⟨(.struct #[⟨"In", 23, 0, false, "", "", 0⟩, ⟨"Layers", 39, 1, false, "", "", 24⟩]), 2, 48, (.agg #[(.slice none 0 0), (.slice none 0 0)]), some (.p (.sl (.int .i64)) (.sl (.p .str (.p (.int .i64) (.int .i64)))))⟩
theorem ti41_ok:ti41.Ok Tryz.prog 41:=TI.ok_of (by kernel_rfl) (by kernel_rfl) (by intro y hy;cases hy <;> exact ⟨rfl,rfl⟩) (by decide)
def ti45:TI:=⟨(.slice 57),1,24,(.slice none 0 0),some (.sl (.int .i64))⟩
theorem ti45_ok:ti45.Ok Tryz.prog 45:=TI.ok_of (by kernel_rfl) (by kernel_rfl) (by intro y hy;cases hy <;> exact ⟨rfl,rfl⟩) (by decide)
def ti48:TI:=⟨(.pointer 95),1,8,(.pointer none),none⟩
theorem ti48_ok:ti48.Ok Tryz.prog 48:=TI.ok_of (by kernel_rfl) (by kernel_rfl) (by intro y hy;cases hy <;> exact ⟨rfl,rfl⟩) (by decide)
def ti50:TI:=⟨(.pointer 53),1,8,(.pointer none),none⟩
theorem ti50_ok:ti50.Ok Tryz.prog 50:=TI.ok_of (by kernel_rfl) (by kernel_rfl) (by intro y hy;cases hy <;> exact ⟨rfl,rfl⟩) (by decide)
def ti51:TI:=⟨(.slice 64),1,24,(.slice none 0 0),some (.sl (.p (.int .i64) (.p (.int .i64) (.p (.int .i64) (.p (.int .i64) (.p (.sl (.int .i64)) (.sl (.int .i64))))))))⟩
theorem ti51_ok:ti51.Ok Tryz.prog 51:=TI.ok_of (by kernel_rfl) (by kernel_rfl) (by intro y hy;cases hy <;> exact ⟨rfl,rfl⟩) (by decide)
def ti53 : TI := ⟨(.struct #[⟨"L", 51, 0, false, "", "", 0⟩]), 1, 24, (.agg #[(.slice none 0 0)]), some (.p (.sl (.p (.int .i64) (.p (.int .i64) (.p (.int .i64) (.p (.int .i64) (.p (.sl (.int .i64)) (.sl (.int .i64)))))))) .u)⟩
theorem ti53_ok:ti53.Ok Tryz.prog 53:=TI.ok_of (by kernel_rfl) (by kernel_rfl) (by intro y hy;cases hy <;> exact ⟨rfl,rfl⟩) (by decide)
def ti57:TI:=⟨(.int .i64),1,8,(.int .i64 0),some (.int .i64)⟩
theorem ti57_ok:ti57.Ok Tryz.prog 57:=TI.ok_of (by kernel_rfl) (by kernel_rfl) (by intro y hy;cases hy <;> exact ⟨rfl,rfl⟩) (by decide)
def ti59 : TI := ⟨(.struct #[⟨"Dims", 23, 0, false, "", "", 0⟩, ⟨"V", 45, 1, false, "", "", 24⟩]), 2, 48, (.agg #[(.slice none 0 0), (.slice none 0 0)]), some (.p (.sl (.int .i64)) (.sl (.int .i64)))⟩
theorem ti59_ok:ti59.Ok Tryz.prog 59:=TI.ok_of (by kernel_rfl) (by kernel_rfl) (by intro y hy;cases hy <;> exact ⟨rfl,rfl⟩) (by decide)
def ti61 : TI := ⟨(.struct #[⟨"Op", 3, 0, false, "", "", 0⟩, ⟨"A", 3, 1, false, "", "", 8⟩, ⟨"B", 3, 2, false, "", "", 16⟩, ⟨"K", 57, 3, false, "", "", 24⟩, ⟨"T", 59, 4, false, "", "", 32⟩]), 6, 80, (.agg #[(.int .i64 0), (.int .i64 0), (.int .i64 0), (.int .i64 0), (.slice none 0 0), (.slice none 0 0)]), some (.p (.int .i64) (.p (.int .i64) (.p (.int .i64) (.p (.int .i64) (.p (.sl (.int .i64)) (.sl (.int .i64)))))))⟩
theorem ti61_ok:ti61.Ok Tryz.prog 61:=TI.ok_of (by kernel_rfl) (by kernel_rfl) (by intro y hy;cases hy <;> exact ⟨rfl,rfl⟩) (by decide)
def ti64 : TI := ⟨(.struct #[⟨"Op", 3, 0, false, "", "", 0⟩, ⟨"A", 3, 1, false, "", "", 8⟩, ⟨"B", 3, 2, false, "", "", 16⟩, ⟨"K", 57, 3, false, "", "", 24⟩, ⟨"T", 59, 4, false, "", "", 32⟩]), 6, 80, (.agg #[(.int .i64 0), (.int .i64 0), (.int .i64 0), (.int .i64 0), (.slice none 0 0), (.slice none 0 0)]), some (.p (.int .i64) (.p (.int .i64) (.p (.int .i64) (.p (.int .i64) (.p (.sl (.int .i64)) (.sl (.int .i64)))))))⟩
theorem ti64_ok:ti64.Ok Tryz.prog 64:=TI.ok_of (by kernel_rfl) (by kernel_rfl) (by intro y hy;cases hy <;> exact ⟨rfl,rfl⟩) (by decide)
def ti70 : TI := ⟨(.struct #[⟨"Kind", 9, 0, false, "", "", 0⟩, ⟨"A", 3, 1, false, "", "", 16⟩, ⟨"B", 3, 2, false, "", "", 24⟩]), 3, 32, (.agg #[(.string ⟨#[]⟩), (.int .i64 0), (.int .i64 0)]), some (.p .str (.p (.int .i64) (.int .i64)))⟩
theorem ti70_ok:ti70.Ok Tryz.prog 70:=TI.ok_of (by kernel_rfl) (by kernel_rfl) (by intro y hy;cases hy <;> exact ⟨rfl,rfl⟩) (by decide)
def ti79:TI:=⟨(.slice 9),1,24,(.slice none 0 0),some (.sl .str)⟩
theorem ti79_ok:ti79.Ok Tryz.prog 79:=TI.ok_of (by kernel_rfl) (by kernel_rfl) (by intro y hy;cases hy <;> exact ⟨rfl,rfl⟩) (by decide)
def ti91 : TI := ⟨(.struct #[⟨"Kind", 9, 0, false, "", "", 0⟩, ⟨"A", 3, 1, false, "", "", 16⟩, ⟨"B", 3, 2, false, "", "", 24⟩]), 3, 32, (.agg #[(.string ⟨#[]⟩), (.int .i64 0), (.int .i64 0)]), some (.p .str (.p (.int .i64) (.int .i64)))⟩
theorem ti91_ok:ti91.Ok Tryz.prog 91:=TI.ok_of (by kernel_rfl) (by kernel_rfl) (by intro y hy;cases hy <;> exact ⟨rfl,rfl⟩) (by decide)
def ti93:TI:=⟨(.slice 61),1,24,(.slice none 0 0),some (.sl (.p (.int .i64) (.p (.int .i64) (.p (.int .i64) (.p (.int .i64) (.p (.sl (.int .i64)) (.sl (.int .i64))))))))⟩
theorem ti93_ok:ti93.Ok Tryz.prog 93:=TI.ok_of (by kernel_rfl) (by kernel_rfl) (by intro y hy;cases hy <;> exact ⟨rfl,rfl⟩) (by decide)
def ti95 : TI := ⟨(.struct #[⟨"l", 93, 0, false, "", "carousel/tape", 0⟩]), 1, 24, (.agg #[(.slice none 0 0)]), some (.p (.sl (.p (.int .i64) (.p (.int .i64) (.p (.int .i64) (.p (.int .i64) (.p (.sl (.int .i64)) (.sl (.int .i64)))))))) .u)⟩
theorem ti95_ok:ti95.Ok Tryz.prog 95:=TI.ok_of (by kernel_rfl) (by kernel_rfl) (by intro y hy;cases hy <;> exact ⟨rfl,rfl⟩) (by decide)
def ti96:TI:=⟨(.pointer 98),1,8,(.pointer none),none⟩
theorem ti96_ok:ti96.Ok Tryz.prog 96:=TI.ok_of (by kernel_rfl) (by kernel_rfl) (by intro y hy;cases hy <;> exact ⟨rfl,rfl⟩) (by decide)
def ti98 : TI := ⟨(.struct #[⟨"t", 48, 0, false, "", "carousel/model", 0⟩, ⟨"e", 27, 1, false, "", "carousel/model", 8⟩, ⟨"p", 45, 2, false, "", "carousel/model", 16⟩, ⟨"leafs", 23, 3, false, "", "carousel/model", 40⟩]), 4, 64, (.agg #[(.pointer none), (.int .i64 0), (.slice none 0 0), (.slice none 0 0)]), none⟩
theorem ti98_ok:ti98.Ok Tryz.prog 98:=TI.ok_of (by kernel_rfl) (by kernel_rfl) (by intro y hy;cases hy <;> exact ⟨rfl,rfl⟩) (by decide)
def ti126:TI:=⟨(.int .u64),1,8,(.int .u64 0),some (.int .u64)⟩
theorem ti126_ok:ti126.Ok Tryz.prog 126:=TI.ok_of (by kernel_rfl) (by kernel_rfl) (by intro y hy;cases hy <;> exact ⟨rfl,rfl⟩) (by decide)
def ti136:TI:=⟨(.array 4 126),4,32,(.agg #[(.int .u64 0),(.int .u64 0),(.int .u64 0),(.int .u64 0)]),none⟩
theorem ti136_ok:ti136.Ok Tryz.prog 136:=TI.ok_of (by kernel_rfl) (by kernel_rfl) (by intro y hy;cases hy <;> exact ⟨rfl,rfl⟩) (by decide)
def ti138 : TI := ⟨(.struct #[⟨"Neg", 4, 0, false, "", "", 0⟩, ⟨"M", 136, 1, false, "", "", 8⟩]), 5, 40, (.agg #[(.bool false), (.int .u64 0), (.int .u64 0), (.int .u64 0), (.int .u64 0)]), none⟩
theorem ti138_ok:ti138.Ok Tryz.prog 138:=TI.ok_of (by kernel_rfl) (by kernel_rfl) (by intro y hy;cases hy <;> exact ⟨rfl,rfl⟩) (by decide)
def ti145:TI:=⟨(.slice 5),1,24,(.slice none 0 0),some (.sl (.int .u8))⟩
theorem ti145_ok:ti145.Ok Tryz.prog 145:=TI.ok_of (by kernel_rfl) (by kernel_rfl) (by intro y hy;cases hy <;> exact ⟨rfl,rfl⟩) (by decide)
def ti164:TI:=⟨(.int .u64),1,8,(.int .u64 0),some (.int .u64)⟩
theorem ti164_ok:ti164.Ok Tryz.prog 164:=TI.ok_of (by kernel_rfl) (by kernel_rfl) (by intro y hy;cases hy <;> exact ⟨rfl,rfl⟩) (by decide)
def ti165:TI:=⟨(.array 2 126),2,16,(.agg #[(.int .u64 0),(.int .u64 0)]),none⟩
theorem ti165_ok:ti165.Ok Tryz.prog 165:=TI.ok_of (by kernel_rfl) (by kernel_rfl) (by intro y hy;cases hy <;> exact ⟨rfl,rfl⟩) (by decide)
def ti168 : TI := ⟨(.interface #[("Error", 268)]), 1, 16, (.nilIface), none⟩
theorem ti168_ok:ti168.Ok Tryz.prog 168:=TI.ok_of (by kernel_rfl) (by kernel_rfl) (by intro y hy;cases hy <;> exact ⟨rfl,rfl⟩) (by decide)
def ti177:TI:=⟨(.array 256 4),256,256,(.agg #[(.bool false),(.bool false),(.bool false),(.bool false),(.bool false),(.bool false),(.bool false),(.bool false),(.bool false),(.bool false),(.bool false),(.bool false),(.bool false),(.bool false),(.bool false),(.bool false),(.bool false),(.bool false),(.bool false),(.bool false),(.bool false),(.bool false),(.bool false),(.bool false),(.bool false),(.bool false),(.bool false),(.bool false),(.bool false),(.bool false),(.bool false),(.bool false),(.bool false),(.bool false),(.bool false),(.bool false),(.bool false),(.bool false),(.bool false),(.bool false),(.bool false),(.bool false),(.bool false),(.bool false),(.bool false),(.bool false),(.bool false),(.bool false),(.bool false),(.bool false),(.bool false),(.bool false),(.bool false),(.bool false),(.bool false),(.bool false),(.bool false),(.bool false),(.bool false),(.bool false),(.bool false),(.bool false),(.bool false),(.bool false),(.bool false),(.bool false),(.bool false),(.bool false),(.bool false),(.bool false),(.bool false),(.bool false),(.bool false),(.bool false),(.bool false),(.bool false),(.bool false),(.bool false),(.bool false),(.bool false),(.bool false),(.bool false),(.bool false),(.bool false),(.bool false),(.bool false),(.bool false),(.bool false),(.bool false),(.bool false),(.bool false),(.bool false),(.bool false),(.bool false),(.bool false),(.bool false),(.bool false),(.bool false),(.bool false),(.bool false),(.bool false),(.bool false),(.bool false),(.bool false),(.bool false),(.bool false),(.bool false),(.bool false),(.bool false),(.bool false),(.bool false),(.bool false),(.bool false),(.bool false),(.bool false),(.bool false),(.bool false),(.bool false),(.bool false),(.bool false),(.bool false),(.bool false),(.bool false),(.bool false),(.bool false),(.bool false),(.bool false),(.bool false),(.bool false),(.bool false),(.bool false),(.bool false),(.bool false),(.bool false),(.bool false),(.bool false),(.bool false),(.bool false),(.bool false),(.bool false),(.bool false),(.bool false),(.bool false),(.bool false),(.bool false),(.bool false),(.bool false),(.bool false),(.bool false),(.bool false),(.bool false),(.bool false),(.bool false),(.bool false),(.bool false),(.bool false),(.bool false),(.bool false),(.bool false),(.bool false),(.bool false),(.bool false),(.bool false),(.bool false),(.bool false),(.bool false),(.bool false),(.bool false),(.bool false),(.bool false),(.bool false),(.bool false),(.bool false),(.bool false),(.bool false),(.bool false),(.bool false),(.bool false),(.bool false),(.bool false),(.bool false),(.bool false),(.bool false),(.bool false),(.bool false),(.bool false),(.bool false),(.bool false),(.bool false),(.bool false),(.bool false),(.bool false),(.bool false),(.bool false),(.bool false),(.bool false),(.bool false),(.bool false),(.bool false),(.bool false),(.bool false),(.bool false),(.bool false),(.bool false),(.bool false),(.bool false),(.bool false),(.bool false),(.bool false),(.bool false),(.bool false),(.bool false),(.bool false),(.bool false),(.bool false),(.bool false),(.bool false),(.bool false),(.bool false),(.bool false),(.bool false),(.bool false),(.bool false),(.bool false),(.bool false),(.bool false),(.bool false),(.bool false),(.bool false),(.bool false),(.bool false),(.bool false),(.bool false),(.bool false),(.bool false),(.bool false),(.bool false),(.bool false),(.bool false),(.bool false),(.bool false),(.bool false),(.bool false),(.bool false),(.bool false),(.bool false),(.bool false),(.bool false),(.bool false),(.bool false),(.bool false),(.bool false),(.bool false),(.bool false),(.bool false),(.bool false)]),none⟩
theorem ti177_ok:ti177.Ok Tryz.prog 177:=TI.ok_of (by kernel_rfl) (by kernel_rfl) (by intro y hy;cases hy <;> exact ⟨rfl,rfl⟩) (by decide)
def ti181:TI:=⟨(.pointer 177),1,8,(.pointer none),none⟩
theorem ti181_ok:ti181.Ok Tryz.prog 181:=TI.ok_of (by kernel_rfl) (by kernel_rfl) (by intro y hy;cases hy <;> exact ⟨rfl,rfl⟩) (by decide)
def ti183:TI:=⟨(.array 24 5),24,24,(.agg #[(.int .u8 0),(.int .u8 0),(.int .u8 0),(.int .u8 0),(.int .u8 0),(.int .u8 0),(.int .u8 0),(.int .u8 0),(.int .u8 0),(.int .u8 0),(.int .u8 0),(.int .u8 0),(.int .u8 0),(.int .u8 0),(.int .u8 0),(.int .u8 0),(.int .u8 0),(.int .u8 0),(.int .u8 0),(.int .u8 0),(.int .u8 0),(.int .u8 0),(.int .u8 0),(.int .u8 0)]),none⟩
theorem ti183_ok:ti183.Ok Tryz.prog 183:=TI.ok_of (by kernel_rfl) (by kernel_rfl) (by intro y hy;cases hy <;> exact ⟨rfl,rfl⟩) (by decide)
def ti203:TI:=⟨(.array 20 126),20,160,(.agg #[(.int .u64 0),(.int .u64 0),(.int .u64 0),(.int .u64 0),(.int .u64 0),(.int .u64 0),(.int .u64 0),(.int .u64 0),(.int .u64 0),(.int .u64 0),(.int .u64 0),(.int .u64 0),(.int .u64 0),(.int .u64 0),(.int .u64 0),(.int .u64 0),(.int .u64 0),(.int .u64 0),(.int .u64 0),(.int .u64 0)]),none⟩
theorem ti203_ok:ti203.Ok Tryz.prog 203:=TI.ok_of (by kernel_rfl) (by kernel_rfl) (by intro y hy;cases hy <;> exact ⟨rfl,rfl⟩) (by decide)
def ti204:TI:=⟨(.int .u32),1,4,(.int .u32 0),some (.int .u32)⟩
theorem ti204_ok:ti204.Ok Tryz.prog 204:=TI.ok_of (by kernel_rfl) (by kernel_rfl) (by intro y hy;cases hy <;> exact ⟨rfl,rfl⟩) (by decide)
def ti205:TI:=⟨(.array 65 5),65,65,(.agg #[(.int .u8 0),(.int .u8 0),(.int .u8 0),(.int .u8 0),(.int .u8 0),(.int .u8 0),(.int .u8 0),(.int .u8 0),(.int .u8 0),(.int .u8 0),(.int .u8 0),(.int .u8 0),(.int .u8 0),(.int .u8 0),(.int .u8 0),(.int .u8 0),(.int .u8 0),(.int .u8 0),(.int .u8 0),(.int .u8 0),(.int .u8 0),(.int .u8 0),(.int .u8 0),(.int .u8 0),(.int .u8 0),(.int .u8 0),(.int .u8 0),(.int .u8 0),(.int .u8 0),(.int .u8 0),(.int .u8 0),(.int .u8 0),(.int .u8 0),(.int .u8 0),(.int .u8 0),(.int .u8 0),(.int .u8 0),(.int .u8 0),(.int .u8 0),(.int .u8 0),(.int .u8 0),(.int .u8 0),(.int .u8 0),(.int .u8 0),(.int .u8 0),(.int .u8 0),(.int .u8 0),(.int .u8 0),(.int .u8 0),(.int .u8 0),(.int .u8 0),(.int .u8 0),(.int .u8 0),(.int .u8 0),(.int .u8 0),(.int .u8 0),(.int .u8 0),(.int .u8 0),(.int .u8 0),(.int .u8 0),(.int .u8 0),(.int .u8 0),(.int .u8 0),(.int .u8 0),(.int .u8 0)]),none⟩
theorem ti205_ok:ti205.Ok Tryz.prog 205:=TI.ok_of (by kernel_rfl) (by kernel_rfl) (by intro y hy;cases hy <;> exact ⟨rfl,rfl⟩) (by decide)
def ti213 : TI := ⟨(.struct #[⟨"Hi", 2, 0, false, "", "", 0⟩, ⟨"Lo", 126, 1, false, "", "", 8⟩]), 2, 16, (.agg #[(.int .i64 0), (.int .u64 0)]), some (.p (.int .i64) (.int .u64))⟩
theorem ti213_ok:ti213.Ok Tryz.prog 213:=TI.ok_of (by kernel_rfl) (by kernel_rfl) (by intro y hy;cases hy <;> exact ⟨rfl,rfl⟩) (by decide)
def ti215 : TI := ⟨(.struct #[⟨"top", 2, 0, false, "", "carousel/wide", 0⟩, ⟨"low", 213, 1, false, "", "carousel/wide", 8⟩]), 3, 24, (.agg #[(.int .i64 0), (.int .i64 0), (.int .u64 0)]), some (.p (.int .i64) (.p (.int .i64) (.int .u64)))⟩
theorem ti215_ok:ti215.Ok Tryz.prog 215:=TI.ok_of (by kernel_rfl) (by kernel_rfl) (by intro y hy;cases hy <;> exact ⟨rfl,rfl⟩) (by decide)
def ti218:TI:=⟨(.slice 213),1,24,(.slice none 0 0),some (.sl (.p (.int .i64) (.int .u64)))⟩
theorem ti218_ok:ti218.Ok Tryz.prog 218:=TI.ok_of (by kernel_rfl) (by kernel_rfl) (by intro y hy;cases hy <;> exact ⟨rfl,rfl⟩) (by decide)
def ti238:TI:=⟨(.pointer 215),1,8,(.pointer none),none⟩
theorem ti238_ok:ti238.Ok Tryz.prog 238:=TI.ok_of (by kernel_rfl) (by kernel_rfl) (by intro y hy;cases hy <;> exact ⟨rfl,rfl⟩) (by decide)
def ti247:TI:=⟨(.array 256 5),256,256,(.agg #[(.int .u8 0),(.int .u8 0),(.int .u8 0),(.int .u8 0),(.int .u8 0),(.int .u8 0),(.int .u8 0),(.int .u8 0),(.int .u8 0),(.int .u8 0),(.int .u8 0),(.int .u8 0),(.int .u8 0),(.int .u8 0),(.int .u8 0),(.int .u8 0),(.int .u8 0),(.int .u8 0),(.int .u8 0),(.int .u8 0),(.int .u8 0),(.int .u8 0),(.int .u8 0),(.int .u8 0),(.int .u8 0),(.int .u8 0),(.int .u8 0),(.int .u8 0),(.int .u8 0),(.int .u8 0),(.int .u8 0),(.int .u8 0),(.int .u8 0),(.int .u8 0),(.int .u8 0),(.int .u8 0),(.int .u8 0),(.int .u8 0),(.int .u8 0),(.int .u8 0),(.int .u8 0),(.int .u8 0),(.int .u8 0),(.int .u8 0),(.int .u8 0),(.int .u8 0),(.int .u8 0),(.int .u8 0),(.int .u8 0),(.int .u8 0),(.int .u8 0),(.int .u8 0),(.int .u8 0),(.int .u8 0),(.int .u8 0),(.int .u8 0),(.int .u8 0),(.int .u8 0),(.int .u8 0),(.int .u8 0),(.int .u8 0),(.int .u8 0),(.int .u8 0),(.int .u8 0),(.int .u8 0),(.int .u8 0),(.int .u8 0),(.int .u8 0),(.int .u8 0),(.int .u8 0),(.int .u8 0),(.int .u8 0),(.int .u8 0),(.int .u8 0),(.int .u8 0),(.int .u8 0),(.int .u8 0),(.int .u8 0),(.int .u8 0),(.int .u8 0),(.int .u8 0),(.int .u8 0),(.int .u8 0),(.int .u8 0),(.int .u8 0),(.int .u8 0),(.int .u8 0),(.int .u8 0),(.int .u8 0),(.int .u8 0),(.int .u8 0),(.int .u8 0),(.int .u8 0),(.int .u8 0),(.int .u8 0),(.int .u8 0),(.int .u8 0),(.int .u8 0),(.int .u8 0),(.int .u8 0),(.int .u8 0),(.int .u8 0),(.int .u8 0),(.int .u8 0),(.int .u8 0),(.int .u8 0),(.int .u8 0),(.int .u8 0),(.int .u8 0),(.int .u8 0),(.int .u8 0),(.int .u8 0),(.int .u8 0),(.int .u8 0),(.int .u8 0),(.int .u8 0),(.int .u8 0),(.int .u8 0),(.int .u8 0),(.int .u8 0),(.int .u8 0),(.int .u8 0),(.int .u8 0),(.int .u8 0),(.int .u8 0),(.int .u8 0),(.int .u8 0),(.int .u8 0),(.int .u8 0),(.int .u8 0),(.int .u8 0),(.int .u8 0),(.int .u8 0),(.int .u8 0),(.int .u8 0),(.int .u8 0),(.int .u8 0),(.int .u8 0),(.int .u8 0),(.int .u8 0),(.int .u8 0),(.int .u8 0),(.int .u8 0),(.int .u8 0),(.int .u8 0),(.int .u8 0),(.int .u8 0),(.int .u8 0),(.int .u8 0),(.int .u8 0),(.int .u8 0),(.int .u8 0),(.int .u8 0),(.int .u8 0),(.int .u8 0),(.int .u8 0),(.int .u8 0),(.int .u8 0),(.int .u8 0),(.int .u8 0),(.int .u8 0),(.int .u8 0),(.int .u8 0),(.int .u8 0),(.int .u8 0),(.int .u8 0),(.int .u8 0),(.int .u8 0),(.int .u8 0),(.int .u8 0),(.int .u8 0),(.int .u8 0),(.int .u8 0),(.int .u8 0),(.int .u8 0),(.int .u8 0),(.int .u8 0),(.int .u8 0),(.int .u8 0),(.int .u8 0),(.int .u8 0),(.int .u8 0),(.int .u8 0),(.int .u8 0),(.int .u8 0),(.int .u8 0),(.int .u8 0),(.int .u8 0),(.int .u8 0),(.int .u8 0),(.int .u8 0),(.int .u8 0),(.int .u8 0),(.int .u8 0),(.int .u8 0),(.int .u8 0),(.int .u8 0),(.int .u8 0),(.int .u8 0),(.int .u8 0),(.int .u8 0),(.int .u8 0),(.int .u8 0),(.int .u8 0),(.int .u8 0),(.int .u8 0),(.int .u8 0),(.int .u8 0),(.int .u8 0),(.int .u8 0),(.int .u8 0),(.int .u8 0),(.int .u8 0),(.int .u8 0),(.int .u8 0),(.int .u8 0),(.int .u8 0),(.int .u8 0),(.int .u8 0),(.int .u8 0),(.int .u8 0),(.int .u8 0),(.int .u8 0),(.int .u8 0),(.int .u8 0),(.int .u8 0),(.int .u8 0),(.int .u8 0),(.int .u8 0),(.int .u8 0),(.int .u8 0),(.int .u8 0),(.int .u8 0),(.int .u8 0),(.int .u8 0),(.int .u8 0),(.int .u8 0),(.int .u8 0),(.int .u8 0),(.int .u8 0),(.int .u8 0),(.int .u8 0),(.int .u8 0),(.int .u8 0),(.int .u8 0),(.int .u8 0),(.int .u8 0),(.int .u8 0),(.int .u8 0),(.int .u8 0),(.int .u8 0),(.int .u8 0),(.int .u8 0),(.int .u8 0),(.int .u8 0),(.int .u8 0)]),none⟩
theorem ti247_ok:ti247.Ok Tryz.prog 247:=TI.ok_of (by kernel_rfl) (by kernel_rfl) (by intro y hy;cases hy <;> exact ⟨rfl,rfl⟩) (by decide)
def ti258 : TI := ⟨(.struct #[⟨"s", 9, 0, false, "", "errors", 0⟩]), 1, 16, (.agg #[(.string ⟨#[]⟩)]), some (.p .str .u)⟩
theorem ti258_ok:ti258.Ok Tryz.prog 258:=TI.ok_of (by kernel_rfl) (by kernel_rfl) (by intro y hy;cases hy <;> exact ⟨rfl,rfl⟩) (by decide)
def ti259:TI:=⟨(.array 32 5),32,32,(.agg #[(.int .u8 0),(.int .u8 0),(.int .u8 0),(.int .u8 0),(.int .u8 0),(.int .u8 0),(.int .u8 0),(.int .u8 0),(.int .u8 0),(.int .u8 0),(.int .u8 0),(.int .u8 0),(.int .u8 0),(.int .u8 0),(.int .u8 0),(.int .u8 0),(.int .u8 0),(.int .u8 0),(.int .u8 0),(.int .u8 0),(.int .u8 0),(.int .u8 0),(.int .u8 0),(.int .u8 0),(.int .u8 0),(.int .u8 0),(.int .u8 0),(.int .u8 0),(.int .u8 0),(.int .u8 0),(.int .u8 0),(.int .u8 0)]),none⟩
theorem ti259_ok:ti259.Ok Tryz.prog 259:=TI.ok_of (by kernel_rfl) (by kernel_rfl) (by intro y hy;cases hy <;> exact ⟨rfl,rfl⟩) (by decide)
def ti260:TI:=⟨(.array 64 5),64,64,(.agg #[(.int .u8 0),(.int .u8 0),(.int .u8 0),(.int .u8 0),(.int .u8 0),(.int .u8 0),(.int .u8 0),(.int .u8 0),(.int .u8 0),(.int .u8 0),(.int .u8 0),(.int .u8 0),(.int .u8 0),(.int .u8 0),(.int .u8 0),(.int .u8 0),(.int .u8 0),(.int .u8 0),(.int .u8 0),(.int .u8 0),(.int .u8 0),(.int .u8 0),(.int .u8 0),(.int .u8 0),(.int .u8 0),(.int .u8 0),(.int .u8 0),(.int .u8 0),(.int .u8 0),(.int .u8 0),(.int .u8 0),(.int .u8 0),(.int .u8 0),(.int .u8 0),(.int .u8 0),(.int .u8 0),(.int .u8 0),(.int .u8 0),(.int .u8 0),(.int .u8 0),(.int .u8 0),(.int .u8 0),(.int .u8 0),(.int .u8 0),(.int .u8 0),(.int .u8 0),(.int .u8 0),(.int .u8 0),(.int .u8 0),(.int .u8 0),(.int .u8 0),(.int .u8 0),(.int .u8 0),(.int .u8 0),(.int .u8 0),(.int .u8 0),(.int .u8 0),(.int .u8 0),(.int .u8 0),(.int .u8 0),(.int .u8 0),(.int .u8 0),(.int .u8 0),(.int .u8 0)]),none⟩
theorem ti260_ok:ti260.Ok Tryz.prog 260:=TI.ok_of (by kernel_rfl) (by kernel_rfl) (by intro y hy;cases hy <;> exact ⟨rfl,rfl⟩) (by decide)
def tab:TE:=[(2,ti2),(3,ti3),(4,ti4),(5,ti5),(9,ti9),(21,ti21),(23,ti23),(24,ti24),(26,ti26),(27,ti27),(30,ti30),(39,ti39),(41,ti41),(45,ti45),(48,ti48),(50,ti50),(51,ti51),(53,ti53),(57,ti57),(59,ti59),(61,ti61),(64,ti64),(70,ti70),(79,ti79),(91,ti91),(93,ti93),(95,ti95),(96,ti96),(98,ti98),(126,ti126),(136,ti136),(138,ti138),(145,ti145),(164,ti164),(165,ti165),(168,ti168),(177,ti177),(181,ti181),(183,ti183),(203,ti203),(204,ti204),(205,ti205),(213,ti213),(215,ti215),(218,ti218),(238,ti238),(247,ti247),(258,ti258),(259,ti259),(260,ti260)]
theorem tab_ok:tab.Ok Tryz.prog:=TE.ok_cons ti2_ok (TE.ok_cons ti3_ok (TE.ok_cons ti4_ok (TE.ok_cons ti5_ok (TE.ok_cons ti9_ok (TE.ok_cons ti21_ok (TE.ok_cons ti23_ok (TE.ok_cons ti24_ok (TE.ok_cons ti26_ok (TE.ok_cons ti27_ok (TE.ok_cons ti30_ok (TE.ok_cons ti39_ok (TE.ok_cons ti41_ok (TE.ok_cons ti45_ok (TE.ok_cons ti48_ok (TE.ok_cons ti50_ok (TE.ok_cons ti51_ok (TE.ok_cons ti53_ok (TE.ok_cons ti57_ok (TE.ok_cons ti59_ok (TE.ok_cons ti61_ok (TE.ok_cons ti64_ok (TE.ok_cons ti70_ok (TE.ok_cons ti79_ok (TE.ok_cons ti91_ok (TE.ok_cons ti93_ok (TE.ok_cons ti95_ok (TE.ok_cons ti96_ok (TE.ok_cons ti98_ok (TE.ok_cons ti126_ok (TE.ok_cons ti136_ok (TE.ok_cons ti138_ok (TE.ok_cons ti145_ok (TE.ok_cons ti164_ok (TE.ok_cons ti165_ok (TE.ok_cons ti168_ok (TE.ok_cons ti177_ok (TE.ok_cons ti181_ok (TE.ok_cons ti183_ok (TE.ok_cons ti203_ok (TE.ok_cons ti204_ok (TE.ok_cons ti205_ok (TE.ok_cons ti213_ok (TE.ok_cons ti215_ok (TE.ok_cons ti218_ok (TE.ok_cons ti238_ok (TE.ok_cons ti247_ok (TE.ok_cons ti258_ok (TE.ok_cons ti259_ok (TE.ok_cons ti260_ok (TE.ok_nil _))))))))))))))))))))))))))))))))))))))))))))))))))
theorem mixed:Tryz.prog.follows .mixedOrders=true:=by kernel_rfl
theorem K2:ExtI Tryz.prog 199 (ext3 K3):=ext_add64 (fn:=Tryz.f199) (by kernel_rfl) (by kernel_rfl) (by kernel_rfl) (by kernel_rfl) (by kernel_rfl)
theorem sub64_ok:ExtI Tryz.prog 231 (ext3 sub64):=ext_sub64 (fn:=Tryz.f231) (by kernel_rfl) (by kernel_rfl) (by kernel_rfl) (by kernel_rfl) (by kernel_rfl)
open IntKind (i64 u64 i32 u32 i16 u16 i8 u8)
theorem AI {a b:Prop} (x:a) (y:b):a∧b:=⟨x,y⟩
theorem EI {α:Sort _} {p:α→Prop} (w:α) (h:p w):∃ x,p x:=⟨w,h⟩
theorem OL {a b:Prop} (x:a):a∨b:=.inl x
theorem OQ {a b:Prop} (x:b):a∨b:=.inr x
theorem TV:True:=True.intro
theorem E4 {e:Nat} {s:St} {J:Sh} (ρ:Ren) (h:(renB J.nx ρ []&&protB e ρ&&Nat.ble e J.nx)=true∧Weak ρ s J):toSh e s J:=⟨[],[],[],[],ρ,h⟩
theorem R2 {A0:Sort _} {a0:A0} {A1:Sort _} {a1:A1} {p:Prop} (h:p):a0=a0∧a1=a1∧p:=⟨rfl,rfl,h⟩
theorem R3 {A0:Sort _} {a0:A0} {A1:Sort _} {a1:A1} {A2:Sort _} {a2:A2} {p:Prop} (h:p):a0=a0∧a1=a1∧a2=a2∧p:=⟨rfl,rfl,rfl,h⟩
theorem R4 {A0:Sort _} {a0:A0} {A1:Sort _} {a1:A1} {A2:Sort _} {a2:A2} {A3:Sort _} {a3:A3} {p:Prop} (h:p):a0=a0∧a1=a1∧a2=a2∧a3=a3∧p:=⟨rfl,rfl,rfl,rfl,h⟩
theorem R5 {A0:Sort _} {a0:A0} {A1:Sort _} {a1:A1} {A2:Sort _} {a2:A2} {A3:Sort _} {a3:A3} {A4:Sort _} {a4:A4} {p:Prop} (h:p):a0=a0∧a1=a1∧a2=a2∧a3=a3∧a4=a4∧p:=⟨rfl,rfl,rfl,rfl,rfl,h⟩
theorem R6 {A0:Sort _} {a0:A0} {A1:Sort _} {a1:A1} {A2:Sort _} {a2:A2} {A3:Sort _} {a3:A3} {A4:Sort _} {a4:A4} {A5:Sort _} {a5:A5} {p:Prop} (h:p):a0=a0∧a1=a1∧a2=a2∧a3=a3∧a4=a4∧a5=a5∧p:=⟨rfl,rfl,rfl,rfl,rfl,rfl,h⟩
theorem R7 {A0:Sort _} {a0:A0} {A1:Sort _} {a1:A1} {A2:Sort _} {a2:A2} {A3:Sort _} {a3:A3} {A4:Sort _} {a4:A4} {A5:Sort _} {a5:A5} {A6:Sort _} {a6:A6} {p:Prop} (h:p):a0=a0∧a1=a1∧a2=a2∧a3=a3∧a4=a4∧a5=a5∧a6=a6∧p:=⟨rfl,rfl,rfl,rfl,rfl,rfl,rfl,h⟩
theorem R8 {A0:Sort _} {a0:A0} {A1:Sort _} {a1:A1} {A2:Sort _} {a2:A2} {A3:Sort _} {a3:A3} {A4:Sort _} {a4:A4} {A5:Sort _} {a5:A5} {A6:Sort _} {a6:A6} {A7:Sort _} {a7:A7} {p:Prop} (h:p):a0=a0∧a1=a1∧a2=a2∧a3=a3∧a4=a4∧a5=a5∧a6=a6∧a7=a7∧p:=⟨rfl,rfl,rfl,rfl,rfl,rfl,rfl,rfl,h⟩
theorem R9 {A0:Sort _} {a0:A0} {A1:Sort _} {a1:A1} {A2:Sort _} {a2:A2} {A3:Sort _} {a3:A3} {A4:Sort _} {a4:A4} {A5:Sort _} {a5:A5} {A6:Sort _} {a6:A6} {A7:Sort _} {a7:A7} {A8:Sort _} {a8:A8} {p:Prop} (h:p):a0=a0∧a1=a1∧a2=a2∧a3=a3∧a4=a4∧a5=a5∧a6=a6∧a7=a7∧a8=a8∧p:=⟨rfl,rfl,rfl,rfl,rfl,rfl,rfl,rfl,rfl,h⟩
theorem R10 {A0:Sort _} {a0:A0} {A1:Sort _} {a1:A1} {A2:Sort _} {a2:A2} {A3:Sort _} {a3:A3} {A4:Sort _} {a4:A4} {A5:Sort _} {a5:A5} {A6:Sort _} {a6:A6} {A7:Sort _} {a7:A7} {A8:Sort _} {a8:A8} {A9:Sort _} {a9:A9} {p:Prop} (h:p):a0=a0∧a1=a1∧a2=a2∧a3=a3∧a4=a4∧a5=a5∧a6=a6∧a7=a7∧a8=a8∧a9=a9∧p:=⟨rfl,rfl,rfl,rfl,rfl,rfl,rfl,rfl,rfl,rfl,h⟩
theorem R11 {A0:Sort _} {a0:A0} {A1:Sort _} {a1:A1} {A2:Sort _} {a2:A2} {A3:Sort _} {a3:A3} {A4:Sort _} {a4:A4} {A5:Sort _} {a5:A5} {A6:Sort _} {a6:A6} {A7:Sort _} {a7:A7} {A8:Sort _} {a8:A8} {A9:Sort _} {a9:A9} {A10:Sort _} {a10:A10} {p:Prop} (h:p):a0=a0∧a1=a1∧a2=a2∧a3=a3∧a4=a4∧a5=a5∧a6=a6∧a7=a7∧a8=a8∧a9=a9∧a10=a10∧p:=⟨rfl,rfl,rfl,rfl,rfl,rfl,rfl,rfl,rfl,rfl,rfl,h⟩
theorem R12 {A0:Sort _} {a0:A0} {A1:Sort _} {a1:A1} {A2:Sort _} {a2:A2} {A3:Sort _} {a3:A3} {A4:Sort _} {a4:A4} {A5:Sort _} {a5:A5} {A6:Sort _} {a6:A6} {A7:Sort _} {a7:A7} {A8:Sort _} {a8:A8} {A9:Sort _} {a9:A9} {A10:Sort _} {a10:A10} {A11:Sort _} {a11:A11} {p:Prop} (h:p):a0=a0∧a1=a1∧a2=a2∧a3=a3∧a4=a4∧a5=a5∧a6=a6∧a7=a7∧a8=a8∧a9=a9∧a10=a10∧a11=a11∧p:=⟨rfl,rfl,rfl,rfl,rfl,rfl,rfl,rfl,rfl,rfl,rfl,rfl,h⟩
theorem R13 {A0:Sort _} {a0:A0} {A1:Sort _} {a1:A1} {A2:Sort _} {a2:A2} {A3:Sort _} {a3:A3} {A4:Sort _} {a4:A4} {A5:Sort _} {a5:A5} {A6:Sort _} {a6:A6} {A7:Sort _} {a7:A7} {A8:Sort _} {a8:A8} {A9:Sort _} {a9:A9} {A10:Sort _} {a10:A10} {A11:Sort _} {a11:A11} {A12:Sort _} {a12:A12} {p:Prop} (h:p):a0=a0∧a1=a1∧a2=a2∧a3=a3∧a4=a4∧a5=a5∧a6=a6∧a7=a7∧a8=a8∧a9=a9∧a10=a10∧a11=a11∧a12=a12∧p:=⟨rfl,rfl,rfl,rfl,rfl,rfl,rfl,rfl,rfl,rfl,rfl,rfl,rfl,h⟩
theorem R14 {A0:Sort _} {a0:A0} {A1:Sort _} {a1:A1} {A2:Sort _} {a2:A2} {A3:Sort _} {a3:A3} {A4:Sort _} {a4:A4} {A5:Sort _} {a5:A5} {A6:Sort _} {a6:A6} {A7:Sort _} {a7:A7} {A8:Sort _} {a8:A8} {A9:Sort _} {a9:A9} {A10:Sort _} {a10:A10} {A11:Sort _} {a11:A11} {A12:Sort _} {a12:A12} {A13:Sort _} {a13:A13} {p:Prop} (h:p):a0=a0∧a1=a1∧a2=a2∧a3=a3∧a4=a4∧a5=a5∧a6=a6∧a7=a7∧a8=a8∧a9=a9∧a10=a10∧a11=a11∧a12=a12∧a13=a13∧p:=⟨rfl,rfl,rfl,rfl,rfl,rfl,rfl,rfl,rfl,rfl,rfl,rfl,rfl,rfl,h⟩
theorem R15 {A0:Sort _} {a0:A0} {A1:Sort _} {a1:A1} {A2:Sort _} {a2:A2} {A3:Sort _} {a3:A3} {A4:Sort _} {a4:A4} {A5:Sort _} {a5:A5} {A6:Sort _} {a6:A6} {A7:Sort _} {a7:A7} {A8:Sort _} {a8:A8} {A9:Sort _} {a9:A9} {A10:Sort _} {a10:A10} {A11:Sort _} {a11:A11} {A12:Sort _} {a12:A12} {A13:Sort _} {a13:A13} {A14:Sort _} {a14:A14} {p:Prop} (h:p):a0=a0∧a1=a1∧a2=a2∧a3=a3∧a4=a4∧a5=a5∧a6=a6∧a7=a7∧a8=a8∧a9=a9∧a10=a10∧a11=a11∧a12=a12∧a13=a13∧a14=a14∧p:=⟨rfl,rfl,rfl,rfl,rfl,rfl,rfl,rfl,rfl,rfl,rfl,rfl,rfl,rfl,rfl,h⟩
theorem R16 {A0:Sort _} {a0:A0} {A1:Sort _} {a1:A1} {A2:Sort _} {a2:A2} {A3:Sort _} {a3:A3} {A4:Sort _} {a4:A4} {A5:Sort _} {a5:A5} {A6:Sort _} {a6:A6} {A7:Sort _} {a7:A7} {A8:Sort _} {a8:A8} {A9:Sort _} {a9:A9} {A10:Sort _} {a10:A10} {A11:Sort _} {a11:A11} {A12:Sort _} {a12:A12} {A13:Sort _} {a13:A13} {A14:Sort _} {a14:A14} {A15:Sort _} {a15:A15} {p:Prop} (h:p):a0=a0∧a1=a1∧a2=a2∧a3=a3∧a4=a4∧a5=a5∧a6=a6∧a7=a7∧a8=a8∧a9=a9∧a10=a10∧a11=a11∧a12=a12∧a13=a13∧a14=a14∧a15=a15∧p:=⟨rfl,rfl,rfl,rfl,rfl,rfl,rfl,rfl,rfl,rfl,rfl,rfl,rfl,rfl,rfl,rfl,h⟩
abbrev InP (n : Nat) : Prop := ∃ fn, Tryz.prog.funcs[n]? = some fn ∧ fn.body.isSome = true ∧ (fn.name == "runtime.NumGoroutine") = false
abbrev VC (f:Func) (C:Con) (x:C.X) (y:C.Y):Prop:=vc Tryz.prog tab f.ntmps 0 (match f.body with | some c=>c | none=>.skip) (retK tab C f.results.toList y) (C.shIn x).st
abbrev T0:Ty:=.int .i32
abbrev T1:Ty:=.int .i64
abbrev T2:Ty:=.sl .str
abbrev T3:Ty:=.p .str (.p (.int .i64) (.int .i64))
abbrev T4:Ty:=.p (.sl (.int .i64)) (.sl (.p .str (.p (.int .i64) (.int .i64))))
abbrev T5:Ty:=.sl (.p .str (.p (.int .i64) (.int .i64)))
abbrev T6:Ty:=.sl (.int .i64)
abbrev T7:Ty:=.sl (.sl (.int .i64))
abbrev T8:Ty:=.p (.int .i64) (.p (.int .i64) (.p (.int .i64) (.p (.int .i64) (.p (.sl (.int .i64)) (.sl (.int .i64))))))
abbrev T9:Ty:=.p (.sl (.int .i64)) (.sl (.int .i64))
abbrev T10:Ty:=.int .u64
abbrev T11:Ty:=.p (.int .i64) (.int .u64)
abbrev P0 (a b:Nat):Pat:=.raw false [.ptr a b]
abbrev O0 (a:Nat):Pat:=.raw false [.osl a]
abbrev N0:CV:=.c (.slice none 0 0)
abbrev D0 (x:Int):Pat:=.dat (.int .i64) x
abbrev LI:=List Int
abbrev ND:=Int×Int×Int×Int×LI×LI
theorem NH {p:Prop}:false=true→p:=fun h=>nomatch h
noncomputable def inB (n : Nat) : Bool := match Tryz.prog.funcs[n]? with | some fn => fn.body.isSome && !(fn.name == "runtime.NumGoroutine") | none => false
theorem inP {n:Nat} (h:inB n=true):InP n:=by
  unfold inB at h
  split at h
  · next fn hf=>exact ⟨fn,hf,by simp_all,by simp_all⟩
  · exact absurd h (by decide)
theorem AJ {α:Sort _} {a:α} {p:Prop} (h:p):(a=a∧True)∧p:=⟨⟨rfl,trivial⟩,h⟩
theorem K0 {β:Sort _} {b:β} {γ:Sort _} {c:γ} {P p:Prop} (h:p):(false=true→P)∧b=b∧c=c∧True∧True∧p:=⟨NH,rfl,rfl,trivial,trivial,h⟩
abbrev NL:=List ND
abbrev I2:Ren:=[(0,some 0),(1,some 1)]
abbrev I3:Ren:=[(0,some 0),(1,some 1),(2,some 2)]
abbrev I4:Ren:=[(0,some 0),(1,some 1),(2,some 2),(3,some 3)]
abbrev I5:Ren:=[(0,some 0),(1,some 1),(2,some 2),(3,some 3),(4,some 4)]
abbrev I6:Ren:=[(0,some 0),(1,some 1),(2,some 2),(3,some 3),(4,some 4),(5,some 5)]
abbrev I7:Ren:=[(0,some 0),(1,some 1),(2,some 2),(3,some 3),(4,some 4),(5,some 5),(6,some 6)]
abbrev I8:Ren:=[(0,some 0),(1,some 1),(2,some 2),(3,some 3),(4,some 4),(5,some 5),(6,some 6),(7,some 7)]
abbrev HP (C:Con) (n:Nat):Prop:=C.Holds Tryz.prog n
theorem hH {n:Nat} (fn:Func) {c:Code} (hf:Tryz.prog.funcs[n]?=some fn) (hb:fn.body=some c) {C:Con} (H:∀ x y,C.F x=some y→vc Tryz.prog tab fn.ntmps C.e c (retK tab C fn.results.toList y) (C.shIn x).st):HP C n:=hV tab_ok mixed hf hb C H
abbrev VE (f:Func) (e:Nat) (C:Con) (x:C.X) (y:C.Y):Prop:=vc Tryz.prog tab f.ntmps e (match f.body with | some c=>c | none=>.skip) (retK tab C f.results.toList y) (C.shIn x).st
abbrev LE:=List (Nat×Pat)→List (Nat×Pat)
abbrev LH:=List (Nat×Chunk)→List (Nat×Chunk)
def tU (a:Nat):Nat→OT→OT
  | 0,X=>X
  | n+1,X=>.take a (tU (a+1) n X)
abbrev NX {α β:Type} (_:α):List β:=[]
abbrev HI (C:Con) (n:Nat):Prop:=InP n∧HP C n
theorem hI {n : Nat} (fn : Func) {c : Code} (hb : fn.body = some c) {C : Con} (H : ∀ x y, C.F x = some y → vc Tryz.prog tab fn.ntmps C.e c (retK tab C fn.results.toList y) (C.shIn x).st) (hf : Tryz.prog.funcs[n]? = some fn := by kernel_rfl) (hn : (fn.name == "runtime.NumGoroutine") = false := by kernel_rfl) : HI C n := ⟨⟨fn, hf, by rw [hb]; rfl, hn⟩, hH fn hf hb H⟩
theorem and_l {a b:Bool} (h:(a&&b)=true):a=true:=by cases a;exact h;rfl
theorem and_r {a b:Bool} (h:(a&&b)=true):b=true:=by cases a;cases h;exact h
theorem cA {f:Nat} {s:St} {avs:List AV} {k:AV→St→List Nat→Prop} {C:Con} (H:HI C f) (x:C.X) {y:C.Y} (h2:C.F x=some y) (h3:((renB C.e [] []&&Nat.beq avs.length (C.args x).length)&&keysE 0 [] (C.hin x))=true) (h5:s.use fun e0 h0 n0=>datsK ⟨Kv 0 avs,h0,n0⟩ (Kz 0 (C.args x)) (fun ids=>pubK (match false with | true=>[] | false=>ids) ⟨Kv 0 avs,h0,n0⟩ (fun s1=>(false=true→lendB C y ids []=true)∧allB Pat.wf (C.ret y)=true∧allB (fun p:Nat×Chunk=>p.2.live) (C.hout y)=true∧rawsE [] s1 (Kz 0 (C.args x))∧heapE [] s1 (C.hin x)∧s1.use fun e1 h1 n1=>k (retA (gOut [] n1) (C.ret y)) ⟨e0,outsH (gOut [] n1) (C.hout y) (killH [] h1),n1+C.nout⟩ (belowL s.nx (imgs []))))):InP f∧callV Tryz.prog f s avs k:=⟨H.1,cV (cQ C x y [] false H.2 h2 (and_l h3) (and_r h3) h5)⟩
theorem cD {f:Nat} {s:St} {avs:List AV} {k:AV→St→List Nat→Prop} {C:Con} (H:HI C f) (x:C.X) {y:C.Y} (h2:C.F x=some y) (h3:((renB C.e [] []&&Nat.beq avs.length (C.args x).length)&&keysE 0 [] (C.hin x))=true) (h5:s.use fun e0 h0 n0=>datsK ⟨Kv 0 avs,h0,n0⟩ (Kz 0 (C.args x)) (fun ids=>pubK (match true with | true=>[] | false=>ids) ⟨Kv 0 avs,h0,n0⟩ (fun s1=>(true=true→lendB C y ids []=true)∧allB Pat.wf (C.ret y)=true∧allB (fun p:Nat×Chunk=>p.2.live) (C.hout y)=true∧rawsE [] s1 (Kz 0 (C.args x))∧heapE [] s1 (C.hin x)∧s1.use fun e1 h1 n1=>k (retA (gOut [] n1) (C.ret y)) ⟨e0,outsH (gOut [] n1) (C.hout y) (killH [] h1),n1+C.nout⟩ (belowL s.nx (imgs []))))):InP f∧callV Tryz.prog f s avs k:=⟨H.1,cV (cQ C x y [] true H.2 h2 (and_l h3) (and_r h3) h5)⟩
theorem cB {f:Nat} {s:St} {avs:List AV} {k:AV→St→List Nat→Prop} {C:Con} (H:HI C f) (x:C.X) {y:C.Y} (ρ:Ren) (lend:Bool) (h2:C.F x=some y) (h3:((renB C.e ρ []&&Nat.beq avs.length (C.args x).length)&&keysE 0 ρ (C.hin x))=true) (h5:s.use fun e0 h0 n0=>datsK ⟨Kv 0 avs,h0,n0⟩ (Kz 0 (C.args x)) (fun ids=>pubK (match lend with | true=>[] | false=>ids) ⟨Kv 0 avs,h0,n0⟩ (fun s1=>(lend=true→lendB C y ids ρ=true)∧allB Pat.wf (C.ret y)=true∧allB (fun p:Nat×Chunk=>p.2.live) (C.hout y)=true∧rawsE ρ s1 (Kz 0 (C.args x))∧heapE ρ s1 (C.hin x)∧s1.use fun e1 h1 n1=>k (retA (gOut ρ n1) (C.ret y)) ⟨e0,outsH (gOut ρ n1) (C.hout y) (killH ρ h1),n1+C.nout⟩ (belowL s.nx (imgs ρ))))):InP f∧callV Tryz.prog f s avs k:=⟨H.1,cV (cQ C x y ρ lend H.2 h2 (and_l h3) (and_r h3) h5)⟩
def iuA:Nat→List Nat→Ren
  | _,[]=>[]
  | k,0::l=>(k,none)::iuA (k+1) l
  | k,(n+1)::l=>(k,some n)::iuA (k+1) l
abbrev iuR (l:List Nat):Ren:=iuA 0 l
theorem lJ {X Z:Type} {B:(X→Option Z)→X→Option Z} {n:Nat} {x:X} {z:Z} (h:Fq B n x=some z) {A1 A2 A3:(X Z:Type)→(X→Sh)→(Z→List (Nat×Sh))→(Nat→X→Option Z)→Nat→X→Z→Prop} (J:X→Sh) (E:Z→List (Nat×Sh)) (h1:A1 X Z J E (Fq B) n x z) (h2:A2 X Z J E (Fq B) n x z) (h3:A3 X Z J E (Fq B) n x z):∃ (X Z:Type) (J:X→Sh) (E:Z→List (Nat×Sh)) (L:Nat→X→Option Z) (n:Nat) (x:X) (z:Z),L n x=some z∧A1 X Z J E L n x z∧(∀ x z,L 0 x=some z→False)∧A2 X Z J E L n x z∧A3 X Z J E L n x z:=
  ⟨X,Z,J,E,Fq B,n,x,z,h,h1,fun _ _ h=>lZ h,h2,h3⟩
theorem iNo {c:Prop} {_:Decidable c} {α:Sort _} {t e:α} (h:¬c:=by omega):ite c t e=e:=if_neg h
theorem iPo {c:Prop} {_:Decidable c} {α:Sort _} {t e:α} (h:c:=by omega):ite c t e=t:=if_pos h
abbrev LTz0:=List (ByteArray×Int×Int)
abbrev PTz1:=Int×Int×Int×Int
abbrev Fy:=LI×LI
abbrev F9:=Int×Int
abbrev Gz:=Int×Fy
abbrev Jd:=LI×LTz0
abbrev PTz6:=Int×Int×LI×LI×NL
abbrev PTz7:=Bool×PTz1
abbrev PTz8:=Int×Int×NL
abbrev K4:=Int×LI
abbrev PTz10:=Int×(List LI)
abbrev Ki:=Int×Bool
abbrev PTz12:=ByteArray×F9
abbrev PTz13:=Int×Int×LI×NL
abbrev PTz14:=(List ByteArray)×LI
abbrev PTz15:=Int×PTz1
end Go.Proofs
