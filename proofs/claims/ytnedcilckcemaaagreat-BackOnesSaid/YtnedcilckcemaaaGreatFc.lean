import Derived.Test.YtnedcilckcemaaaGreatAmV
import Derived.Test.YtnedcilckcemaaaGreatProg
set_option linter.unusedVariables false
set_option maxRecDepth 100000
set_option maxHeartbeats 8000000
namespace Go.Proofs
open Go.AM
def ti2:TI:=⟨(.int .i64),1,8,(.int .i64 0),some (.int .i64)⟩
theorem ti2_ok:ti2.Ok Tryz.prog 2:=TI.ok_of (by kernel_rfl) (by kernel_rfl) (by intro y hy;cases hy <;> exact ⟨rfl,rfl⟩) (by decide)
def ti3:TI:=⟨(.int .i64),1,8,(.int .i64 0),some (.int .i64)⟩
theorem ti3_ok:ti3.Ok Tryz.prog 3:=TI.ok_of (by kernel_rfl) (by kernel_rfl) (by intro y hy;cases hy <;> exact ⟨rfl,rfl⟩) (by decide)
def ti4:TI:=⟨.bool,1,1,(.bool false),some .bool⟩
theorem ti4_ok:ti4.Ok Tryz.prog 4:=TI.ok_of (by kernel_rfl) (by kernel_rfl) (by intro y hy;cases hy <;> exact ⟨rfl,rfl⟩) (by decide)
def ti5:TI:=⟨(.int .u8),1,1,(.int .u8 0),some (.int .u8)⟩
theorem ti5_ok:ti5.Ok Tryz.prog 5:=TI.ok_of (by kernel_rfl) (by kernel_rfl) (by intro y hy;cases hy <;> exact ⟨rfl,rfl⟩) (by decide)
def ti9:TI:=⟨.string,1,16,(.string ⟨#[]⟩),some .str⟩
theorem ti9_ok:ti9.Ok Tryz.prog 9:=TI.ok_of (by kernel_rfl) (by kernel_rfl) (by intro y hy;cases hy <;> exact ⟨rfl,rfl⟩) (by decide)
def ti22:TI:=⟨(.slice 55),1,24,(.slice none 0 0),some (.sl (.p (.int .i64) (.p (.int .i64) (.p (.int .i64) (.p (.int .i64) (.p (.sl (.int .i64)) (.sl (.int .i64))))))))⟩
theorem ti22_ok:ti22.Ok Tryz.prog 22:=TI.ok_of (by kernel_rfl) (by kernel_rfl) (by intro y hy;cases hy <;> exact ⟨rfl,rfl⟩) (by decide)
def ti25:TI:=⟨(.pointer 95),1,8,(.pointer none),none⟩
theorem ti25_ok:ti25.Ok Tryz.prog 25:=TI.ok_of (by kernel_rfl) (by kernel_rfl) (by intro y hy;cases hy <;> exact ⟨rfl,rfl⟩) (by decide)
def ti26:TI:=⟨(.pointer 41),1,8,(.pointer none),none⟩
theorem ti26_ok:ti26.Ok Tryz.prog 26:=TI.ok_of (by kernel_rfl) (by kernel_rfl) (by intro y hy;cases hy <;> exact ⟨rfl,rfl⟩) (by decide)
def ti29:TI:=⟨(.slice 38),1,24,(.slice none 0 0),some (.sl (.p (.sl (.int .i64)) (.sl (.int .i64))))⟩
theorem ti29_ok:ti29.Ok Tryz.prog 29:=TI.ok_of (by kernel_rfl) (by kernel_rfl) (by intro y hy;cases hy <;> exact ⟨rfl,rfl⟩) (by decide)
def ti30:TI:=⟨(.int .i64),1,8,(.int .i64 0),some (.int .i64)⟩
theorem ti30_ok:ti30.Ok Tryz.prog 30:=TI.ok_of (by kernel_rfl) (by kernel_rfl) (by intro y hy;cases hy <;> exact ⟨rfl,rfl⟩) (by decide)
def ti35:TI:=⟨(.slice 3),1,24,(.slice none 0 0),some (.sl (.int .i64))⟩
theorem ti35_ok:ti35.Ok Tryz.prog 35:=TI.ok_of (by kernel_rfl) (by kernel_rfl) (by intro y hy;cases hy <;> exact ⟨rfl,rfl⟩) (by decide)
def ti36:TI:=⟨(.slice 42),1,24,(.slice none 0 0),some (.sl (.int .i64))⟩
theorem ti36_ok:ti36.Ok Tryz.prog 36:=TI.ok_of (by kernel_rfl) (by kernel_rfl) (by intro y hy;cases hy <;> exact ⟨rfl,rfl⟩) (by decide)
def ti38 : TI := ⟨(.struct #[⟨"Dims", 35, 0, false, "", "", 0⟩, ⟨"V", 36, 1, false, "", "", 24⟩]), 2, 48, (.agg #[(.slice none 0 0), (.slice none 0 0)]), some (.p (.sl (.int .i64)) (.sl (.int .i64)))⟩
theorem ti38_ok:ti38.Ok Tryz.prog 38:=TI.ok_of (by kernel_rfl) (by kernel_rfl) (by intro y hy;cases hy <;> exact ⟨rfl,rfl⟩) (by decide)
def ti39:TI:=⟨(.slice 44),1,24,(.slice none 0 0),some (.sl (.p (.int .i64) (.p (.int .i64) (.p (.int .i64) (.p (.int .i64) (.p (.sl (.int .i64)) (.sl (.int .i64))))))))⟩
theorem ti39_ok:ti39.Ok Tryz.prog 39:=TI.ok_of (by kernel_rfl) (by kernel_rfl) (by intro y hy;cases hy <;> exact ⟨rfl,rfl⟩) (by decide)
def ti41 : TI := ⟨(.struct #[⟨"L", 39, 0, false, "", "", 0⟩]), 1, 24, (.agg #[(.slice none 0 0)]), some (.p (.sl (.p (.int .i64) (.p (.int .i64) (.p (.int .i64) (.p (.int .i64) (.p (.sl (.int .i64)) (.sl (.int .i64)))))))) .u)⟩
theorem ti41_ok:ti41.Ok Tryz.prog 41:=TI.ok_of (by kernel_rfl) (by kernel_rfl) (by intro y hy;cases hy <;> exact ⟨rfl,rfl⟩) (by decide)
def ti42:TI:=⟨(.int .i64),1,8,(.int .i64 0),some (.int .i64)⟩
theorem ti42_ok:ti42.Ok Tryz.prog 42:=TI.ok_of (by kernel_rfl) (by kernel_rfl) (by intro y hy;cases hy <;> exact ⟨rfl,rfl⟩) (by decide)
def ti44 : TI := ⟨(.struct #[⟨"Op", 3, 0, false, "", "", 0⟩, ⟨"A", 3, 1, false, "", "", 8⟩, ⟨"B", 3, 2, false, "", "", 16⟩, ⟨"K", 42, 3, false, "", "", 24⟩, ⟨"T", 38, 4, false, "", "", 32⟩]), 6, 80, (.agg #[(.int .i64 0), (.int .i64 0), (.int .i64 0), (.int .i64 0), (.slice none 0 0), (.slice none 0 0)]), some (.p (.int .i64) (.p (.int .i64) (.p (.int .i64) (.p (.int .i64) (.p (.sl (.int .i64)) (.sl (.int .i64)))))))⟩
theorem ti44_ok:ti44.Ok Tryz.prog 44:=TI.ok_of (by kernel_rfl) (by kernel_rfl) (by intro y hy;cases hy <;> exact ⟨rfl,rfl⟩) (by decide)
def ti55 : TI := ⟨(.struct #[⟨"Op", 3, 0, false, "", "", 0⟩, ⟨"A", 3, 1, false, "", "", 8⟩, ⟨"B", 3, 2, false, "", "", 16⟩, ⟨"K", 42, 3, false, "", "", 24⟩, ⟨"T", 38, 4, false, "", "", 32⟩]), 6, 80, (.agg #[(.int .i64 0), (.int .i64 0), (.int .i64 0), (.int .i64 0), (.slice none 0 0), (.slice none 0 0)]), some (.p (.int .i64) (.p (.int .i64) (.p (.int .i64) (.p (.int .i64) (.p (.sl (.int .i64)) (.sl (.int .i64)))))))⟩
theorem ti55_ok:ti55.Ok Tryz.prog 55:=TI.ok_of (by kernel_rfl) (by kernel_rfl) (by intro y hy;cases hy <;> exact ⟨rfl,rfl⟩) (by decide)
def ti59:TI:=⟨(.pointer 62),1,8,(.pointer none),none⟩
theorem ti59_ok:ti59.Ok Tryz.prog 59:=TI.ok_of (by kernel_rfl) (by kernel_rfl) (by intro y hy;cases hy <;> exact ⟨rfl,rfl⟩) (by decide)
def ti60:TI:=⟨(.slice 4),1,24,(.slice none 0 0),some (.sl .bool)⟩
theorem ti60_ok:ti60.Ok Tryz.prog 60:=TI.ok_of (by kernel_rfl) (by kernel_rfl) (by intro y hy;cases hy <;> exact ⟨rfl,rfl⟩) (by decide)
def ti62 : TI := ⟨(.struct #[⟨"l", 29, 0, false, "", "carousel/back", 0⟩, ⟨"given", 60, 1, false, "", "carousel/back", 24⟩]), 2, 48, (.agg #[(.slice none 0 0), (.slice none 0 0)]), some (.p (.sl (.p (.sl (.int .i64)) (.sl (.int .i64)))) (.sl .bool))⟩
theorem ti62_ok:ti62.Ok Tryz.prog 62:=TI.ok_of (by kernel_rfl) (by kernel_rfl) (by intro y hy;cases hy <;> exact ⟨rfl,rfl⟩) (by decide)
def ti65 : TI := ⟨(.struct #[⟨"Op", 3, 0, false, "", "", 0⟩, ⟨"A", 3, 1, false, "", "", 8⟩, ⟨"B", 3, 2, false, "", "", 16⟩, ⟨"K", 42, 3, false, "", "", 24⟩, ⟨"T", 38, 4, false, "", "", 32⟩]), 6, 80, (.agg #[(.int .i64 0), (.int .i64 0), (.int .i64 0), (.int .i64 0), (.slice none 0 0), (.slice none 0 0)]), some (.p (.int .i64) (.p (.int .i64) (.p (.int .i64) (.p (.int .i64) (.p (.sl (.int .i64)) (.sl (.int .i64)))))))⟩
theorem ti65_ok:ti65.Ok Tryz.prog 65:=TI.ok_of (by kernel_rfl) (by kernel_rfl) (by intro y hy;cases hy <;> exact ⟨rfl,rfl⟩) (by decide)
def ti83:TI:=⟨(.int .u64),1,8,(.int .u64 0),some (.int .u64)⟩
theorem ti83_ok:ti83.Ok Tryz.prog 83:=TI.ok_of (by kernel_rfl) (by kernel_rfl) (by intro y hy;cases hy <;> exact ⟨rfl,rfl⟩) (by decide)
def ti84:TI:=⟨(.array 4 83),4,32,(.agg #[(.int .u64 0),(.int .u64 0),(.int .u64 0),(.int .u64 0)]),none⟩
theorem ti84_ok:ti84.Ok Tryz.prog 84:=TI.ok_of (by kernel_rfl) (by kernel_rfl) (by intro y hy;cases hy <;> exact ⟨rfl,rfl⟩) (by decide)
def ti86 : TI := ⟨(.struct #[⟨"Neg", 4, 0, false, "", "", 0⟩, ⟨"M", 84, 1, false, "", "", 8⟩]), 5, 40, (.agg #[(.bool false), (.int .u64 0), (.int .u64 0), (.int .u64 0), (.int .u64 0)]), none⟩
theorem ti86_ok:ti86.Ok Tryz.prog 86:=TI.ok_of (by kernel_rfl) (by kernel_rfl) (by intro y hy;cases hy <;> exact ⟨rfl,rfl⟩) (by decide)
def ti93:TI:=⟨(.slice 65),1,24,(.slice none 0 0),some (.sl (.p (.int .i64) (.p (.int .i64) (.p (.int .i64) (.p (.int .i64) (.p (.sl (.int .i64)) (.sl (.int .i64))))))))⟩
theorem ti93_ok:ti93.Ok Tryz.prog 93:=TI.ok_of (by kernel_rfl) (by kernel_rfl) (by intro y hy;cases hy <;> exact ⟨rfl,rfl⟩) (by decide)
def ti95 : TI := ⟨(.struct #[⟨"l", 93, 0, false, "", "carousel/tape", 0⟩]), 1, 24, (.agg #[(.slice none 0 0)]), some (.p (.sl (.p (.int .i64) (.p (.int .i64) (.p (.int .i64) (.p (.int .i64) (.p (.sl (.int .i64)) (.sl (.int .i64)))))))) .u)⟩
theorem ti95_ok:ti95.Ok Tryz.prog 95:=TI.ok_of (by kernel_rfl) (by kernel_rfl) (by intro y hy;cases hy <;> exact ⟨rfl,rfl⟩) (by decide)
def ti113 : TI := ⟨(.struct #[⟨"Hi", 2, 0, false, "", "", 0⟩, ⟨"Lo", 83, 1, false, "", "", 8⟩]), 2, 16, (.agg #[(.int .i64 0), (.int .u64 0)]), some (.p (.int .i64) (.int .u64))⟩
theorem ti113_ok:ti113.Ok Tryz.prog 113:=TI.ok_of (by kernel_rfl) (by kernel_rfl) (by intro y hy;cases hy <;> exact ⟨rfl,rfl⟩) (by decide)
def ti120:TI:=⟨(.int .u64),1,8,(.int .u64 0),some (.int .u64)⟩
theorem ti120_ok:ti120.Ok Tryz.prog 120:=TI.ok_of (by kernel_rfl) (by kernel_rfl) (by intro y hy;cases hy <;> exact ⟨rfl,rfl⟩) (by decide)
def ti150 : TI := ⟨(.struct #[⟨"top", 2, 0, false, "", "carousel/wide", 0⟩, ⟨"low", 113, 1, false, "", "carousel/wide", 8⟩]), 3, 24, (.agg #[(.int .i64 0), (.int .i64 0), (.int .u64 0)]), some (.p (.int .i64) (.p (.int .i64) (.int .u64)))⟩
theorem ti150_ok:ti150.Ok Tryz.prog 150:=TI.ok_of (by kernel_rfl) (by kernel_rfl) (by intro y hy;cases hy <;> exact ⟨rfl,rfl⟩) (by decide)
def ti154:TI:=⟨(.array 2 83),2,16,(.agg #[(.int .u64 0),(.int .u64 0)]),none⟩
theorem ti154_ok:ti154.Ok Tryz.prog 154:=TI.ok_of (by kernel_rfl) (by kernel_rfl) (by intro y hy;cases hy <;> exact ⟨rfl,rfl⟩) (by decide)
def ti156:TI:=⟨(.slice 113),1,24,(.slice none 0 0),some (.sl (.p (.int .i64) (.int .u64)))⟩
theorem ti156_ok:ti156.Ok Tryz.prog 156:=TI.ok_of (by kernel_rfl) (by kernel_rfl) (by intro y hy;cases hy <;> exact ⟨rfl,rfl⟩) (by decide)
def ti160:TI:=⟨(.int .u32),1,4,(.int .u32 0),some (.int .u32)⟩
theorem ti160_ok:ti160.Ok Tryz.prog 160:=TI.ok_of (by kernel_rfl) (by kernel_rfl) (by intro y hy;cases hy <;> exact ⟨rfl,rfl⟩) (by decide)
def ti172:TI:=⟨(.pointer 150),1,8,(.pointer none),none⟩
theorem ti172_ok:ti172.Ok Tryz.prog 172:=TI.ok_of (by kernel_rfl) (by kernel_rfl) (by intro y hy;cases hy <;> exact ⟨rfl,rfl⟩) (by decide)
def tab:TE:=[(2,ti2),(3,ti3),(4,ti4),(5,ti5),(9,ti9),(22,ti22),(25,ti25),(26,ti26),(29,ti29),(30,ti30),(35,ti35),(36,ti36),(38,ti38),(39,ti39),(41,ti41),(42,ti42),(44,ti44),(55,ti55),(59,ti59),(60,ti60),(62,ti62),(65,ti65),(83,ti83),(84,ti84),(86,ti86),(93,ti93),(95,ti95),(113,ti113),(120,ti120),(150,ti150),(154,ti154),(156,ti156),(160,ti160),(172,ti172)]
theorem tab_ok:tab.Ok Tryz.prog:=TE.ok_cons ti2_ok (TE.ok_cons ti3_ok (TE.ok_cons ti4_ok (TE.ok_cons ti5_ok (TE.ok_cons ti9_ok (TE.ok_cons ti22_ok (TE.ok_cons ti25_ok (TE.ok_cons ti26_ok (TE.ok_cons ti29_ok (TE.ok_cons ti30_ok (TE.ok_cons ti35_ok (TE.ok_cons ti36_ok (TE.ok_cons ti38_ok (TE.ok_cons ti39_ok (TE.ok_cons ti41_ok (TE.ok_cons ti42_ok (TE.ok_cons ti44_ok (TE.ok_cons ti55_ok (TE.ok_cons ti59_ok (TE.ok_cons ti60_ok (TE.ok_cons ti62_ok (TE.ok_cons ti65_ok (TE.ok_cons ti83_ok (TE.ok_cons ti84_ok (TE.ok_cons ti86_ok (TE.ok_cons ti93_ok (TE.ok_cons ti95_ok (TE.ok_cons ti113_ok (TE.ok_cons ti120_ok (TE.ok_cons ti150_ok (TE.ok_cons ti154_ok (TE.ok_cons ti156_ok (TE.ok_cons ti160_ok (TE.ok_cons ti172_ok (TE.ok_nil _))))))))))))))))))))))))))))))))))
theorem mixed:Tryz.prog.follows .mixedOrders=true:=by kernel_rfl
theorem Lp:ExtI Tryz.prog 126 (ext3 Lq):=ext_add64 (fn:=Tryz.f126) (by kernel_rfl) (by kernel_rfl) (by kernel_rfl) (by kernel_rfl) (by kernel_rfl)
theorem sub64_ok:ExtI Tryz.prog 167 (ext3 sub64):=ext_sub64 (fn:=Tryz.f167) (by kernel_rfl) (by kernel_rfl) (by kernel_rfl) (by kernel_rfl) (by kernel_rfl)
open IntKind (i64 u64 i32 u32 i16 u16 i8 u8)
theorem AI {a b:Prop} (x:a) (y:b):a∧b:=⟨x,y⟩
theorem EI {α:Sort _} {p:α→Prop} (w:α) (h:p w):∃ x,p x:=⟨w,h⟩
theorem OL {a b:Prop} (x:a):a∨b:=.inl x
theorem OQ {a b:Prop} (x:b):a∨b:=.inr x
theorem TV:True:=True.intro
theorem E4 {e:Nat} {s:St} {J:Sh} (ρ:Ren) (h:(renB J.nx ρ []&&protB e ρ&&Nat.ble e J.nx)=true∧Weak ρ s J):toSh e s J:=⟨[],[],[],[],ρ,h⟩
theorem R2 {A0:Sort _} {a0:A0} {A1:Sort _} {a1:A1} {p:Prop} (h:p):a0=a0∧a1=a1∧p:=⟨rfl,rfl,h⟩
theorem R3 {A0:Sort _} {a0:A0} {A1:Sort _} {a1:A1} {A2:Sort _} {a2:A2} {p:Prop} (h:p):a0=a0∧a1=a1∧a2=a2∧p:=⟨rfl,rfl,rfl,h⟩
theorem R4 {A0:Sort _} {a0:A0} {A1:Sort _} {a1:A1} {A2:Sort _} {a2:A2} {A3:Sort _} {a3:A3} {p:Prop} (h:p):a0=a0∧a1=a1∧a2=a2∧a3=a3∧p:=⟨rfl,rfl,rfl,rfl,h⟩
theorem R5 {A0:Sort _} {a0:A0} {A1:Sort _} {a1:A1} {A2:Sort _} {a2:A2} {A3:Sort _} {a3:A3} {A4:Sort _} {a4:A4} {p:Prop} (h:p):a0=a0∧a1=a1∧a2=a2∧a3=a3∧a4=a4∧p:=⟨rfl,rfl,rfl,rfl,rfl,h⟩
theorem R6 {A0:Sort _} {a0:A0} {A1:Sort _} {a1:A1} {A2:Sort _} {a2:A2} {A3:Sort _} {a3:A3} {A4:Sort _} {a4:A4} {A5:Sort _} {a5:A5} {p:Prop} (h:p):a0=a0∧a1=a1∧a2=a2∧a3=a3∧a4=a4∧a5=a5∧p:=⟨rfl,rfl,rfl,rfl,rfl,rfl,h⟩
theorem R7 {A0:Sort _} {a0:A0} {A1:Sort _} {a1:A1} {A2:Sort _} {a2:A2} {A3:Sort _} {a3:A3} {A4:Sort _} {a4:A4} {A5:Sort _} {a5:A5} {A6:Sort _} {a6:A6} {p:Prop} (h:p):a0=a0∧a1=a1∧a2=a2∧a3=a3∧a4=a4∧a5=a5∧a6=a6∧p:=⟨rfl,rfl,rfl,rfl,rfl,rfl,rfl,h⟩
theorem R8 {A0:Sort _} {a0:A0} {A1:Sort _} {a1:A1} {A2:Sort _} {a2:A2} {A3:Sort _} {a3:A3} {A4:Sort _} {a4:A4} {A5:Sort _} {a5:A5} {A6:Sort _} {a6:A6} {A7:Sort _} {a7:A7} {p:Prop} (h:p):a0=a0∧a1=a1∧a2=a2∧a3=a3∧a4=a4∧a5=a5∧a6=a6∧a7=a7∧p:=⟨rfl,rfl,rfl,rfl,rfl,rfl,rfl,rfl,h⟩
theorem R9 {A0:Sort _} {a0:A0} {A1:Sort _} {a1:A1} {A2:Sort _} {a2:A2} {A3:Sort _} {a3:A3} {A4:Sort _} {a4:A4} {A5:Sort _} {a5:A5} {A6:Sort _} {a6:A6} {A7:Sort _} {a7:A7} {A8:Sort _} {a8:A8} {p:Prop} (h:p):a0=a0∧a1=a1∧a2=a2∧a3=a3∧a4=a4∧a5=a5∧a6=a6∧a7=a7∧a8=a8∧p:=⟨rfl,rfl,rfl,rfl,rfl,rfl,rfl,rfl,rfl,h⟩
theorem R10 {A0:Sort _} {a0:A0} {A1:Sort _} {a1:A1} {A2:Sort _} {a2:A2} {A3:Sort _} {a3:A3} {A4:Sort _} {a4:A4} {A5:Sort _} {a5:A5} {A6:Sort _} {a6:A6} {A7:Sort _} {a7:A7} {A8:Sort _} {a8:A8} {A9:Sort _} {a9:A9} {p:Prop} (h:p):a0=a0∧a1=a1∧a2=a2∧a3=a3∧a4=a4∧a5=a5∧a6=a6∧a7=a7∧a8=a8∧a9=a9∧p:=⟨rfl,rfl,rfl,rfl,rfl,rfl,rfl,rfl,rfl,rfl,h⟩
theorem R11 {A0:Sort _} {a0:A0} {A1:Sort _} {a1:A1} {A2:Sort _} {a2:A2} {A3:Sort _} {a3:A3} {A4:Sort _} {a4:A4} {A5:Sort _} {a5:A5} {A6:Sort _} {a6:A6} {A7:Sort _} {a7:A7} {A8:Sort _} {a8:A8} {A9:Sort _} {a9:A9} {A10:Sort _} {a10:A10} {p:Prop} (h:p):a0=a0∧a1=a1∧a2=a2∧a3=a3∧a4=a4∧a5=a5∧a6=a6∧a7=a7∧a8=a8∧a9=a9∧a10=a10∧p:=⟨rfl,rfl,rfl,rfl,rfl,rfl,rfl,rfl,rfl,rfl,rfl,h⟩
theorem R12 {A0:Sort _} {a0:A0} {A1:Sort _} {a1:A1} {A2:Sort _} {a2:A2} {A3:Sort _} {a3:A3} {A4:Sort _} {a4:A4} {A5:Sort _} {a5:A5} {A6:Sort _} {a6:A6} {A7:Sort _} {a7:A7} {A8:Sort _} {a8:A8} {A9:Sort _} {a9:A9} {A10:Sort _} {a10:A10} {A11:Sort _} {a11:A11} {p:Prop} (h:p):a0=a0∧a1=a1∧a2=a2∧a3=a3∧a4=a4∧a5=a5∧a6=a6∧a7=a7∧a8=a8∧a9=a9∧a10=a10∧a11=a11∧p:=⟨rfl,rfl,rfl,rfl,rfl,rfl,rfl,rfl,rfl,rfl,rfl,rfl,h⟩
theorem R13 {A0:Sort _} {a0:A0} {A1:Sort _} {a1:A1} {A2:Sort _} {a2:A2} {A3:Sort _} {a3:A3} {A4:Sort _} {a4:A4} {A5:Sort _} {a5:A5} {A6:Sort _} {a6:A6} {A7:Sort _} {a7:A7} {A8:Sort _} {a8:A8} {A9:Sort _} {a9:A9} {A10:Sort _} {a10:A10} {A11:Sort _} {a11:A11} {A12:Sort _} {a12:A12} {p:Prop} (h:p):a0=a0∧a1=a1∧a2=a2∧a3=a3∧a4=a4∧a5=a5∧a6=a6∧a7=a7∧a8=a8∧a9=a9∧a10=a10∧a11=a11∧a12=a12∧p:=⟨rfl,rfl,rfl,rfl,rfl,rfl,rfl,rfl,rfl,rfl,rfl,rfl,rfl,h⟩
theorem R14 {A0:Sort _} {a0:A0} {A1:Sort _} {a1:A1} {A2:Sort _} {a2:A2} {A3:Sort _} {a3:A3} {A4:Sort _} {a4:A4} {A5:Sort _} {a5:A5} {A6:Sort _} {a6:A6} {A7:Sort _} {a7:A7} {A8:Sort _} {a8:A8} {A9:Sort _} {a9:A9} {A10:Sort _} {a10:A10} {A11:Sort _} {a11:A11} {A12:Sort _} {a12:A12} {A13:Sort _} {a13:A13} {p:Prop} (h:p):a0=a0∧a1=a1∧a2=a2∧a3=a3∧a4=a4∧a5=a5∧a6=a6∧a7=a7∧a8=a8∧a9=a9∧a10=a10∧a11=a11∧a12=a12∧a13=a13∧p:=⟨rfl,rfl,rfl,rfl,rfl,rfl,rfl,rfl,rfl,rfl,rfl,rfl,rfl,rfl,h⟩
theorem R15 {A0:Sort _} {a0:A0} {A1:Sort _} {a1:A1} {A2:Sort _} {a2:A2} {A3:Sort _} {a3:A3} {A4:Sort _} {a4:A4} {A5:Sort _} {a5:A5} {A6:Sort _} {a6:A6} {A7:Sort _} {a7:A7} {A8:Sort _} {a8:A8} {A9:Sort _} {a9:A9} {A10:Sort _} {a10:A10} {A11:Sort _} {a11:A11} {A12:Sort _} {a12:A12} {A13:Sort _} {a13:A13} {A14:Sort _} {a14:A14} {p:Prop} (h:p):a0=a0∧a1=a1∧a2=a2∧a3=a3∧a4=a4∧a5=a5∧a6=a6∧a7=a7∧a8=a8∧a9=a9∧a10=a10∧a11=a11∧a12=a12∧a13=a13∧a14=a14∧p:=⟨rfl,rfl,rfl,rfl,rfl,rfl,rfl,rfl,rfl,rfl,rfl,rfl,rfl,rfl,rfl,h⟩
theorem R16 {A0:Sort _} {a0:A0} {A1:Sort _} {a1:A1} {A2:Sort _} {a2:A2} {A3:Sort _} {a3:A3} {A4:Sort _} {a4:A4} {A5:Sort _} {a5:A5} {A6:Sort _} {a6:A6} {A7:Sort _} {a7:A7} {A8:Sort _} {a8:A8} {A9:Sort _} {a9:A9} {A10:Sort _} {a10:A10} {A11:Sort _} {a11:A11} {A12:Sort _} {a12:A12} {A13:Sort _} {a13:A13} {A14:Sort _} {a14:A14} {A15:Sort _} {a15:A15} {p:Prop} (h:p):a0=a0∧a1=a1∧a2=a2∧a3=a3∧a4=a4∧a5=a5∧a6=a6∧a7=a7∧a8=a8∧a9=a9∧a10=a10∧a11=a11∧a12=a12∧a13=a13∧a14=a14∧a15=a15∧p:=⟨rfl,rfl,rfl,rfl,rfl,rfl,rfl,rfl,rfl,rfl,rfl,rfl,rfl,rfl,rfl,rfl,h⟩
theorem R17 {A0:Sort _} {a0:A0} {A1:Sort _} {a1:A1} {A2:Sort _} {a2:A2} {A3:Sort _} {a3:A3} {A4:Sort _} {a4:A4} {A5:Sort _} {a5:A5} {A6:Sort _} {a6:A6} {A7:Sort _} {a7:A7} {A8:Sort _} {a8:A8} {A9:Sort _} {a9:A9} {A10:Sort _} {a10:A10} {A11:Sort _} {a11:A11} {A12:Sort _} {a12:A12} {A13:Sort _} {a13:A13} {A14:Sort _} {a14:A14} {A15:Sort _} {a15:A15} {A16:Sort _} {a16:A16} {p:Prop} (h:p):a0=a0∧a1=a1∧a2=a2∧a3=a3∧a4=a4∧a5=a5∧a6=a6∧a7=a7∧a8=a8∧a9=a9∧a10=a10∧a11=a11∧a12=a12∧a13=a13∧a14=a14∧a15=a15∧a16=a16∧p:=⟨rfl,rfl,rfl,rfl,rfl,rfl,rfl,rfl,rfl,rfl,rfl,rfl,rfl,rfl,rfl,rfl,rfl,h⟩
theorem R18 {A0:Sort _} {a0:A0} {A1:Sort _} {a1:A1} {A2:Sort _} {a2:A2} {A3:Sort _} {a3:A3} {A4:Sort _} {a4:A4} {A5:Sort _} {a5:A5} {A6:Sort _} {a6:A6} {A7:Sort _} {a7:A7} {A8:Sort _} {a8:A8} {A9:Sort _} {a9:A9} {A10:Sort _} {a10:A10} {A11:Sort _} {a11:A11} {A12:Sort _} {a12:A12} {A13:Sort _} {a13:A13} {A14:Sort _} {a14:A14} {A15:Sort _} {a15:A15} {A16:Sort _} {a16:A16} {A17:Sort _} {a17:A17} {p:Prop} (h:p):a0=a0∧a1=a1∧a2=a2∧a3=a3∧a4=a4∧a5=a5∧a6=a6∧a7=a7∧a8=a8∧a9=a9∧a10=a10∧a11=a11∧a12=a12∧a13=a13∧a14=a14∧a15=a15∧a16=a16∧a17=a17∧p:=⟨rfl,rfl,rfl,rfl,rfl,rfl,rfl,rfl,rfl,rfl,rfl,rfl,rfl,rfl,rfl,rfl,rfl,rfl,h⟩
theorem R19 {A0:Sort _} {a0:A0} {A1:Sort _} {a1:A1} {A2:Sort _} {a2:A2} {A3:Sort _} {a3:A3} {A4:Sort _} {a4:A4} {A5:Sort _} {a5:A5} {A6:Sort _} {a6:A6} {A7:Sort _} {a7:A7} {A8:Sort _} {a8:A8} {A9:Sort _} {a9:A9} {A10:Sort _} {a10:A10} {A11:Sort _} {a11:A11} {A12:Sort _} {a12:A12} {A13:Sort _} {a13:A13} {A14:Sort _} {a14:A14} {A15:Sort _} {a15:A15} {A16:Sort _} {a16:A16} {A17:Sort _} {a17:A17} {A18:Sort _} {a18:A18} {p:Prop} (h:p):a0=a0∧a1=a1∧a2=a2∧a3=a3∧a4=a4∧a5=a5∧a6=a6∧a7=a7∧a8=a8∧a9=a9∧a10=a10∧a11=a11∧a12=a12∧a13=a13∧a14=a14∧a15=a15∧a16=a16∧a17=a17∧a18=a18∧p:=⟨rfl,rfl,rfl,rfl,rfl,rfl,rfl,rfl,rfl,rfl,rfl,rfl,rfl,rfl,rfl,rfl,rfl,rfl,rfl,h⟩
theorem R20 {A0:Sort _} {a0:A0} {A1:Sort _} {a1:A1} {A2:Sort _} {a2:A2} {A3:Sort _} {a3:A3} {A4:Sort _} {a4:A4} {A5:Sort _} {a5:A5} {A6:Sort _} {a6:A6} {A7:Sort _} {a7:A7} {A8:Sort _} {a8:A8} {A9:Sort _} {a9:A9} {A10:Sort _} {a10:A10} {A11:Sort _} {a11:A11} {A12:Sort _} {a12:A12} {A13:Sort _} {a13:A13} {A14:Sort _} {a14:A14} {A15:Sort _} {a15:A15} {A16:Sort _} {a16:A16} {A17:Sort _} {a17:A17} {A18:Sort _} {a18:A18} {A19:Sort _} {a19:A19} {p:Prop} (h:p):a0=a0∧a1=a1∧a2=a2∧a3=a3∧a4=a4∧a5=a5∧a6=a6∧a7=a7∧a8=a8∧a9=a9∧a10=a10∧a11=a11∧a12=a12∧a13=a13∧a14=a14∧a15=a15∧a16=a16∧a17=a17∧a18=a18∧a19=a19∧p:=⟨rfl,rfl,rfl,rfl,rfl,rfl,rfl,rfl,rfl,rfl,rfl,rfl,rfl,rfl,rfl,rfl,rfl,rfl,rfl,rfl,h⟩
abbrev InP (n : Nat) : Prop := ∃ fn, Tryz.prog.funcs[n]? = some fn ∧ fn.body.isSome = true ∧ (fn.name == "runtime.NumGoroutine") = false
abbrev VC (f:Func) (C:Con) (x:C.X) (y:C.Y):Prop:=vc Tryz.prog tab f.ntmps 0 (match f.body with | some c=>c | none=>.skip) (retK tab C f.results.toList y) (C.shIn x).st
abbrev T0:Ty:=.p (.int .i64) (.p (.int .i64) (.p (.int .i64) (.p (.int .i64) (.p (.sl (.int .i64)) (.sl (.int .i64))))))
abbrev T1:Ty:=.sl (.int .i64)
abbrev T2:Ty:=.int .i64
abbrev T3:Ty:=.p (.sl (.int .i64)) (.sl (.int .i64))
abbrev T4:Ty:=.int .u64
abbrev T5:Ty:=.p (.int .i64) (.int .u64)
abbrev T6:Ty:=.sl (.p (.int .i64) (.p (.int .i64) (.p (.int .i64) (.p (.int .i64) (.p (.sl (.int .i64)) (.sl (.int .i64)))))))
abbrev P0 (a b:Nat):Pat:=.raw false [.ptr a b]
abbrev O0 (a:Nat):Pat:=.raw false [.osl a]
abbrev N0:CV:=.c (.slice none 0 0)
abbrev D0 (x:Int):Pat:=.dat (.int .i64) x
abbrev LI:=List Int
abbrev ND:=Int×Int×Int×Int×LI×LI
theorem NH {p:Prop}:false=true→p:=fun h=>nomatch h
noncomputable def inB (n : Nat) : Bool := match Tryz.prog.funcs[n]? with | some fn => fn.body.isSome && !(fn.name == "runtime.NumGoroutine") | none => false
theorem inP {n:Nat} (h:inB n=true):InP n:=by
  unfold inB at h
  split at h
  · next fn hf=>exact ⟨fn,hf,by simp_all,by simp_all⟩
  · exact absurd h (by decide)
theorem AJ {α:Sort _} {a:α} {p:Prop} (h:p):(a=a∧True)∧p:=⟨⟨rfl,trivial⟩,h⟩
theorem K0 {β:Sort _} {b:β} {γ:Sort _} {c:γ} {P p:Prop} (h:p):(false=true→P)∧b=b∧c=c∧True∧True∧p:=⟨NH,rfl,rfl,trivial,trivial,h⟩
abbrev NL:=List ND
abbrev I2:Ren:=[(0,some 0),(1,some 1)]
abbrev I3:Ren:=[(0,some 0),(1,some 1),(2,some 2)]
abbrev I4:Ren:=[(0,some 0),(1,some 1),(2,some 2),(3,some 3)]
abbrev I5:Ren:=[(0,some 0),(1,some 1),(2,some 2),(3,some 3),(4,some 4)]
abbrev I6:Ren:=[(0,some 0),(1,some 1),(2,some 2),(3,some 3),(4,some 4),(5,some 5)]
abbrev I7:Ren:=[(0,some 0),(1,some 1),(2,some 2),(3,some 3),(4,some 4),(5,some 5),(6,some 6)]
abbrev I8:Ren:=[(0,some 0),(1,some 1),(2,some 2),(3,some 3),(4,some 4),(5,some 5),(6,some 6),(7,some 7)]
abbrev I9:Ren:=[(0,some 0),(1,some 1),(2,some 2),(3,some 3),(4,some 4),(5,some 5),(6,some 6),(7,some 7),(8,some 8)]
abbrev I10:Ren:=[(0,some 0),(1,some 1),(2,some 2),(3,some 3),(4,some 4),(5,some 5),(6,some 6),(7,some 7),(8,some 8),(9,some 9)]
abbrev HP (C:Con) (n:Nat):Prop:=C.Holds Tryz.prog n
theorem hH {n:Nat} (fn:Func) {c:Code} (hf:Tryz.prog.funcs[n]?=some fn) (hb:fn.body=some c) {C:Con} (H:∀ x y,C.F x=some y→vc Tryz.prog tab fn.ntmps C.e c (retK tab C fn.results.toList y) (C.shIn x).st):HP C n:=hV tab_ok mixed hf hb C H
abbrev VE (f:Func) (e:Nat) (C:Con) (x:C.X) (y:C.Y):Prop:=vc Tryz.prog tab f.ntmps e (match f.body with | some c=>c | none=>.skip) (retK tab C f.results.toList y) (C.shIn x).st
abbrev LE:=List (Nat×Pat)→List (Nat×Pat)
abbrev LH:=List (Nat×Chunk)→List (Nat×Chunk)
def tU (a:Nat):Nat→OT→OT
  | 0,X=>X
  | n+1,X=>.take a (tU (a+1) n X)
abbrev NX {α β:Type} (_:α):List β:=[]
abbrev HI (C:Con) (n:Nat):Prop:=InP n∧HP C n
theorem hI {n : Nat} (fn : Func) {c : Code} (hb : fn.body = some c) {C : Con} (H : ∀ x y, C.F x = some y → vc Tryz.prog tab fn.ntmps C.e c (retK tab C fn.results.toList y) (C.shIn x).st) (hf : Tryz.prog.funcs[n]? = some fn := by kernel_rfl) (hn : (fn.name == "runtime.NumGoroutine") = false := by kernel_rfl) : HI C n := ⟨⟨fn, hf, by rw [hb]; rfl, hn⟩, hH fn hf hb H⟩
theorem and_l {a b:Bool} (h:(a&&b)=true):a=true:=by cases a;exact h;rfl
theorem and_r {a b:Bool} (h:(a&&b)=true):b=true:=by cases a;cases h;exact h
theorem cA {f:Nat} {s:St} {avs:List AV} {k:AV→St→List Nat→Prop} {C:Con} (H:HI C f) (x:C.X) {y:C.Y} (h2:C.F x=some y) (h3:((renB C.e [] []&&Nat.beq avs.length (C.args x).length)&&keysE 0 [] (C.hin x))=true) (h5:s.use fun e0 h0 n0=>datsK ⟨Lb 0 avs,h0,n0⟩ (Lm 0 (C.args x)) (fun ids=>pubK (match false with | true=>[] | false=>ids) ⟨Lb 0 avs,h0,n0⟩ (fun s1=>(false=true→lendB C y ids []=true)∧allB Pat.wf (C.ret y)=true∧allB (fun p:Nat×Chunk=>p.2.live) (C.hout y)=true∧rawsE [] s1 (Lm 0 (C.args x))∧heapE [] s1 (C.hin x)∧s1.use fun e1 h1 n1=>k (retA (gOut [] n1) (C.ret y)) ⟨e0,outsH (gOut [] n1) (C.hout y) (killH [] h1),n1+C.nout⟩ (belowL s.nx (imgs []))))):InP f∧callV Tryz.prog f s avs k:=⟨H.1,cV (cQ C x y [] false H.2 h2 (and_l h3) (and_r h3) h5)⟩
theorem cD {f:Nat} {s:St} {avs:List AV} {k:AV→St→List Nat→Prop} {C:Con} (H:HI C f) (x:C.X) {y:C.Y} (h2:C.F x=some y) (h3:((renB C.e [] []&&Nat.beq avs.length (C.args x).length)&&keysE 0 [] (C.hin x))=true) (h5:s.use fun e0 h0 n0=>datsK ⟨Lb 0 avs,h0,n0⟩ (Lm 0 (C.args x)) (fun ids=>pubK (match true with | true=>[] | false=>ids) ⟨Lb 0 avs,h0,n0⟩ (fun s1=>(true=true→lendB C y ids []=true)∧allB Pat.wf (C.ret y)=true∧allB (fun p:Nat×Chunk=>p.2.live) (C.hout y)=true∧rawsE [] s1 (Lm 0 (C.args x))∧heapE [] s1 (C.hin x)∧s1.use fun e1 h1 n1=>k (retA (gOut [] n1) (C.ret y)) ⟨e0,outsH (gOut [] n1) (C.hout y) (killH [] h1),n1+C.nout⟩ (belowL s.nx (imgs []))))):InP f∧callV Tryz.prog f s avs k:=⟨H.1,cV (cQ C x y [] true H.2 h2 (and_l h3) (and_r h3) h5)⟩
theorem cB {f:Nat} {s:St} {avs:List AV} {k:AV→St→List Nat→Prop} {C:Con} (H:HI C f) (x:C.X) {y:C.Y} (ρ:Ren) (lend:Bool) (h2:C.F x=some y) (h3:((renB C.e ρ []&&Nat.beq avs.length (C.args x).length)&&keysE 0 ρ (C.hin x))=true) (h5:s.use fun e0 h0 n0=>datsK ⟨Lb 0 avs,h0,n0⟩ (Lm 0 (C.args x)) (fun ids=>pubK (match lend with | true=>[] | false=>ids) ⟨Lb 0 avs,h0,n0⟩ (fun s1=>(lend=true→lendB C y ids ρ=true)∧allB Pat.wf (C.ret y)=true∧allB (fun p:Nat×Chunk=>p.2.live) (C.hout y)=true∧rawsE ρ s1 (Lm 0 (C.args x))∧heapE ρ s1 (C.hin x)∧s1.use fun e1 h1 n1=>k (retA (gOut ρ n1) (C.ret y)) ⟨e0,outsH (gOut ρ n1) (C.hout y) (killH ρ h1),n1+C.nout⟩ (belowL s.nx (imgs ρ))))):InP f∧callV Tryz.prog f s avs k:=⟨H.1,cV (cQ C x y ρ lend H.2 h2 (and_l h3) (and_r h3) h5)⟩
def iuA:Nat→List Nat→Ren
  | _,[]=>[]
  | k,0::l=>(k,none)::iuA (k+1) l
  | k,(n+1)::l=>(k,some n)::iuA (k+1) l
abbrev iuR (l:List Nat):Ren:=iuA 0 l
theorem lJ {X Z:Type} {B:(X→Option Z)→X→Option Z} {n:Nat} {x:X} {z:Z} (h:Fp B n x=some z) {A1 A2 A3:(X Z:Type)→(X→Sh)→(Z→List (Nat×Sh))→(Nat→X→Option Z)→Nat→X→Z→Prop} (J:X→Sh) (E:Z→List (Nat×Sh)) (h1:A1 X Z J E (Fp B) n x z) (h2:A2 X Z J E (Fp B) n x z) (h3:A3 X Z J E (Fp B) n x z):∃ (X Z:Type) (J:X→Sh) (E:Z→List (Nat×Sh)) (L:Nat→X→Option Z) (n:Nat) (x:X) (z:Z),L n x=some z∧A1 X Z J E L n x z∧(∀ x z,L 0 x=some z→False)∧A2 X Z J E L n x z∧A3 X Z J E L n x z:=
  ⟨X,Z,J,E,Fp B,n,x,z,h,h1,fun _ _ h=>lZ h,h2,h3⟩
theorem iNo {c:Prop} {_:Decidable c} {α:Sort _} {t e:α} (h:¬c:=by omega):ite c t e=e:=if_neg h
theorem iPo {c:Prop} {_:Decidable c} {α:Sort _} {t e:α} (h:c:=by omega):ite c t e=t:=if_pos h
abbrev LTz0:=List (LI×LI)
abbrev Fx:=LI×LI
abbrev PTz2:=Int×Int×Int×Int
abbrev Gl:=Int×Fx
abbrev Gm:=Int×Int
abbrev Lc:=Bool×PTz2
abbrev Jv:=Int×LI
abbrev PTz7:=Int×Gm
abbrev PTz8:=Int×Int×Int×Int×Bool×LI×LI×NL
abbrev PTz9:=Int×PTz2
abbrev PTz10:=Fx×Fx
end Go.Proofs
