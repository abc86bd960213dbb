import Derived.Test.YtclonpepjjeciaaGreatAmV
import Derived.Test.YtclonpepjjeciaaGreatProg
set_option linter.unusedVariables false
set_option maxRecDepth 100000
set_option maxHeartbeats 8000000
namespace Go.Proofs
open Go.AM
def ti2 : TI := ⟨(.int .i64), 1, 8, (.int .i64 0), some (.int .i64)⟩
theorem ti2_ok : ti2.Ok Tryz.prog 2 := TI.ok_of (by kernel_rfl) (by kernel_rfl) (by intro y hy; cases hy <;> exact ⟨rfl, rfl⟩) (by decide)
def ti3 : TI := ⟨(.int .i64), 1, 8, (.int .i64 0), some (.int .i64)⟩
theorem ti3_ok : ti3.Ok Tryz.prog 3 := TI.ok_of (by kernel_rfl) (by kernel_rfl) (by intro y hy; cases hy <;> exact ⟨rfl, rfl⟩) (by decide)
def ti4 : TI := ⟨.bool, 1, 1, (.bool false), some .bool⟩
theorem ti4_ok : ti4.Ok Tryz.prog 4 := TI.ok_of (by kernel_rfl) (by kernel_rfl) (by intro y hy; cases hy <;> exact ⟨rfl, rfl⟩) (by decide)
def ti5 : TI := ⟨(.int .u8), 1, 1, (.int .u8 0), some (.int .u8)⟩
theorem ti5_ok : ti5.Ok Tryz.prog 5 := TI.ok_of (by kernel_rfl) (by kernel_rfl) (by intro y hy; cases hy <;> exact ⟨rfl, rfl⟩) (by decide)
def ti9 : TI := ⟨.string, 1, 16, (.string ⟨#[]⟩), some .str⟩
theorem ti9_ok : ti9.Ok Tryz.prog 9 := TI.ok_of (by kernel_rfl) (by kernel_rfl) (by intro y hy; cases hy <;> exact ⟨rfl, rfl⟩) (by decide)
def ti22 : TI := ⟨(.slice 53), 1, 24, (.slice none 0 0), some (.sl (.p (.int .i64) (.p (.int .i64) (.p (.int .i64) (.p (.int .i64) (.p (.sl (.int .i64)) (.sl (.int .i64))))))))⟩
theorem ti22_ok : ti22.Ok Tryz.prog 22 := TI.ok_of (by kernel_rfl) (by kernel_rfl) (by intro y hy; cases hy <;> exact ⟨rfl, rfl⟩) (by decide)
def ti25 : TI := ⟨(.pointer 57), 1, 8, (.pointer none), none⟩
theorem ti25_ok : ti25.Ok Tryz.prog 25 := TI.ok_of (by kernel_rfl) (by kernel_rfl) (by intro y hy; cases hy <;> exact ⟨rfl, rfl⟩) (by decide)
def ti26 : TI := ⟨(.pointer 32), 1, 8, (.pointer none), none⟩
theorem ti26_ok : ti26.Ok Tryz.prog 26 := TI.ok_of (by kernel_rfl) (by kernel_rfl) (by intro y hy; cases hy <;> exact ⟨rfl, rfl⟩) (by decide)
def ti30 : TI := ⟨(.slice 44), 1, 24, (.slice none 0 0), some (.sl (.p (.int .i64) (.p (.int .i64) (.p (.int .i64) (.p (.int .i64) (.p (.sl (.int .i64)) (.sl (.int .i64))))))))⟩
theorem ti30_ok : ti30.Ok Tryz.prog 30 := TI.ok_of (by kernel_rfl) (by kernel_rfl) (by intro y hy; cases hy <;> exact ⟨rfl, rfl⟩) (by decide)
def ti32 : TI := ⟨(.struct #[⟨"L", 30, 0, false, "", "", 0⟩]), 1, 24, (.agg #[(.slice none 0 0)]), some (.p (.sl (.p (.int .i64) (.p (.int .i64) (.p (.int .i64) (.p (.int .i64) (.p (.sl (.int .i64)) (.sl (.int .i64)))))))) .u)⟩
theorem ti32_ok : ti32.Ok Tryz.prog 32 := TI.ok_of (by kernel_rfl) (by kernel_rfl) (by intro y hy; cases hy <;> exact ⟨rfl, rfl⟩) (by decide)
def ti33 : TI := ⟨(.int .i64), 1, 8, (.int .i64 0), some (.int .i64)⟩
theorem ti33_ok : ti33.Ok Tryz.prog 33 := TI.ok_of (by kernel_rfl) (by kernel_rfl) (by intro y hy; cases hy <;> exact ⟨rfl, rfl⟩) (by decide)
def ti34 : TI := ⟨(.slice 3), 1, 24, (.slice none 0 0), some (.sl (.int .i64))⟩
theorem ti34_ok : ti34.Ok Tryz.prog 34 := TI.ok_of (by kernel_rfl) (by kernel_rfl) (by intro y hy; cases hy <;> exact ⟨rfl, rfl⟩) (by decide)
def ti35 : TI := ⟨(.slice 33), 1, 24, (.slice none 0 0), some (.sl (.int .i64))⟩
theorem ti35_ok : ti35.Ok Tryz.prog 35 := TI.ok_of (by kernel_rfl) (by kernel_rfl) (by intro y hy; cases hy <;> exact ⟨rfl, rfl⟩) (by decide)
def ti37 : TI := ⟨(.struct #[⟨"Dims", 34, 0, false, "", "", 0⟩, ⟨"V", 35, 1, false, "", "", 24⟩]), 2, 48, (.agg #[(.slice none 0 0), (.slice none 0 0)]), some (.p (.sl (.int .i64)) (.sl (.int .i64)))⟩
theorem ti37_ok : ti37.Ok Tryz.prog 37 := TI.ok_of (by kernel_rfl) (by kernel_rfl) (by intro y hy; cases hy <;> exact ⟨rfl, rfl⟩) (by decide)
def ti39 : TI := ⟨(.struct #[⟨"Op", 3, 0, false, "", "", 0⟩, ⟨"A", 3, 1, false, "", "", 8⟩, ⟨"B", 3, 2, false, "", "", 16⟩, ⟨"K", 33, 3, false, "", "", 24⟩, ⟨"T", 37, 4, false, "", "", 32⟩]), 6, 80, (.agg #[(.int .i64 0), (.int .i64 0), (.int .i64 0), (.int .i64 0), (.slice none 0 0), (.slice none 0 0)]), some (.p (.int .i64) (.p (.int .i64) (.p (.int .i64) (.p (.int .i64) (.p (.sl (.int .i64)) (.sl (.int .i64)))))))⟩
theorem ti39_ok : ti39.Ok Tryz.prog 39 := TI.ok_of (by kernel_rfl) (by kernel_rfl) (by intro y hy; cases hy <;> exact ⟨rfl, rfl⟩) (by decide)
def ti44 : TI := ⟨(.struct #[⟨"Op", 3, 0, false, "", "", 0⟩, ⟨"A", 3, 1, false, "", "", 8⟩, ⟨"B", 3, 2, false, "", "", 16⟩, ⟨"K", 33, 3, false, "", "", 24⟩, ⟨"T", 37, 4, false, "", "", 32⟩]), 6, 80, (.agg #[(.int .i64 0), (.int .i64 0), (.int .i64 0), (.int .i64 0), (.slice none 0 0), (.slice none 0 0)]), some (.p (.int .i64) (.p (.int .i64) (.p (.int .i64) (.p (.int .i64) (.p (.sl (.int .i64)) (.sl (.int .i64)))))))⟩
theorem ti44_ok : ti44.Ok Tryz.prog 44 := TI.ok_of (by kernel_rfl) (by kernel_rfl) (by intro y hy; cases hy <;> exact ⟨rfl, rfl⟩) (by decide)
def ti48 : TI := ⟨(.int .i64), 1, 8, (.int .i64 0), some (.int .i64)⟩
theorem ti48_ok : ti48.Ok Tryz.prog 48 := TI.ok_of (by kernel_rfl) (by kernel_rfl) (by intro y hy; cases hy <;> exact ⟨rfl, rfl⟩) (by decide)
def ti53 : TI := ⟨(.struct #[⟨"Op", 3, 0, false, "", "", 0⟩, ⟨"A", 3, 1, false, "", "", 8⟩, ⟨"B", 3, 2, false, "", "", 16⟩, ⟨"K", 33, 3, false, "", "", 24⟩, ⟨"T", 37, 4, false, "", "", 32⟩]), 6, 80, (.agg #[(.int .i64 0), (.int .i64 0), (.int .i64 0), (.int .i64 0), (.slice none 0 0), (.slice none 0 0)]), some (.p (.int .i64) (.p (.int .i64) (.p (.int .i64) (.p (.int .i64) (.p (.sl (.int .i64)) (.sl (.int .i64)))))))⟩
theorem ti53_ok : ti53.Ok Tryz.prog 53 := TI.ok_of (by kernel_rfl) (by kernel_rfl) (by intro y hy; cases hy <;> exact ⟨rfl, rfl⟩) (by decide)
def ti55 : TI := ⟨(.slice 39), 1, 24, (.slice none 0 0), some (.sl (.p (.int .i64) (.p (.int .i64) (.p (.int .i64) (.p (.int .i64) (.p (.sl (.int .i64)) (.sl (.int .i64))))))))⟩
theorem ti55_ok : ti55.Ok Tryz.prog 55 := TI.ok_of (by kernel_rfl) (by kernel_rfl) (by intro y hy; cases hy <;> exact ⟨rfl, rfl⟩) (by decide)
def ti57 : TI := ⟨(.struct #[⟨"l", 55, 0, false, "", "carousel/tape", 0⟩]), 1, 24, (.agg #[(.slice none 0 0)]), some (.p (.sl (.p (.int .i64) (.p (.int .i64) (.p (.int .i64) (.p (.int .i64) (.p (.sl (.int .i64)) (.sl (.int .i64)))))))) .u)⟩
theorem ti57_ok : ti57.Ok Tryz.prog 57 := TI.ok_of (by kernel_rfl) (by kernel_rfl) (by intro y hy; cases hy <;> exact ⟨rfl, rfl⟩) (by decide)
def ti92 : TI := ⟨(.int .u64), 1, 8, (.int .u64 0), some (.int .u64)⟩
theorem ti92_ok : ti92.Ok Tryz.prog 92 := TI.ok_of (by kernel_rfl) (by kernel_rfl) (by intro y hy; cases hy <;> exact ⟨rfl, rfl⟩) (by decide)
def ti94 : TI := ⟨(.struct #[⟨"Hi", 2, 0, false, "", "", 0⟩, ⟨"Lo", 92, 1, false, "", "", 8⟩]), 2, 16, (.agg #[(.int .i64 0), (.int .u64 0)]), some (.p (.int .i64) (.int .u64))⟩
theorem ti94_ok : ti94.Ok Tryz.prog 94 := TI.ok_of (by kernel_rfl) (by kernel_rfl) (by intro y hy; cases hy <;> exact ⟨rfl, rfl⟩) (by decide)
def ti96 : TI := ⟨(.struct #[⟨"top", 2, 0, false, "", "carousel/wide", 0⟩, ⟨"low", 94, 1, false, "", "carousel/wide", 8⟩]), 3, 24, (.agg #[(.int .i64 0), (.int .i64 0), (.int .u64 0)]), some (.p (.int .i64) (.p (.int .i64) (.int .u64)))⟩
theorem ti96_ok : ti96.Ok Tryz.prog 96 := TI.ok_of (by kernel_rfl) (by kernel_rfl) (by intro y hy; cases hy <;> exact ⟨rfl, rfl⟩) (by decide)
def ti99 : TI := ⟨(.slice 94), 1, 24, (.slice none 0 0), some (.sl (.p (.int .i64) (.int .u64)))⟩
theorem ti99_ok : ti99.Ok Tryz.prog 99 := TI.ok_of (by kernel_rfl) (by kernel_rfl) (by intro y hy; cases hy <;> exact ⟨rfl, rfl⟩) (by decide)
def ti111 : TI := ⟨(.array 4 92), 4, 32, (.agg #[(.int .u64 0), (.int .u64 0), (.int .u64 0), (.int .u64 0)]), none⟩
theorem ti111_ok : ti111.Ok Tryz.prog 111 := TI.ok_of (by kernel_rfl) (by kernel_rfl) (by intro y hy; cases hy <;> exact ⟨rfl, rfl⟩) (by decide)
def ti113 : TI := ⟨(.struct #[⟨"Neg", 4, 0, false, "", "", 0⟩, ⟨"M", 111, 1, false, "", "", 8⟩]), 5, 40, (.agg #[(.bool false), (.int .u64 0), (.int .u64 0), (.int .u64 0), (.int .u64 0)]), none⟩
theorem ti113_ok : ti113.Ok Tryz.prog 113 := TI.ok_of (by kernel_rfl) (by kernel_rfl) (by intro y hy; cases hy <;> exact ⟨rfl, rfl⟩) (by decide)
def ti129 : TI := ⟨(.int .u64), 1, 8, (.int .u64 0), some (.int .u64)⟩
theorem ti129_ok : ti129.Ok Tryz.prog 129 := TI.ok_of (by kernel_rfl) (by kernel_rfl) (by intro y hy; cases hy <;> exact ⟨rfl, rfl⟩) (by decide)
def ti133 : TI := ⟨(.pointer 96), 1, 8, (.pointer none), none⟩
theorem ti133_ok : ti133.Ok Tryz.prog 133 := TI.ok_of (by kernel_rfl) (by kernel_rfl) (by intro y hy; cases hy <;> exact ⟨rfl, rfl⟩) (by decide)
def ti147 : TI := ⟨(.array 2 92), 2, 16, (.agg #[(.int .u64 0), (.int .u64 0)]), none⟩
theorem ti147_ok : ti147.Ok Tryz.prog 147 := TI.ok_of (by kernel_rfl) (by kernel_rfl) (by intro y hy; cases hy <;> exact ⟨rfl, rfl⟩) (by decide)
def ti158 : TI := ⟨(.int .u32), 1, 4, (.int .u32 0), some (.int .u32)⟩
theorem ti158_ok : ti158.Ok Tryz.prog 158 := TI.ok_of (by kernel_rfl) (by kernel_rfl) (by intro y hy; cases hy <;> exact ⟨rfl, rfl⟩) (by decide)
def tab : TE := [(2, ti2), (3, ti3), (4, ti4), (5, ti5), (9, ti9), (22, ti22), (25, ti25), (26, ti26), (30, ti30), (32, ti32), (33, ti33), (34, ti34), (35, ti35), (37, ti37), (39, ti39), (44, ti44), (48, ti48), (53, ti53), (55, ti55), (57, ti57), (92, ti92), (94, ti94), (96, ti96), (99, ti99), (111, ti111), (113, ti113), (129, ti129), (133, ti133), (147, ti147), (158, ti158)]
theorem tab_ok : tab.Ok Tryz.prog := TE.ok_cons ti2_ok (TE.ok_cons ti3_ok (TE.ok_cons ti4_ok (TE.ok_cons ti5_ok (TE.ok_cons ti9_ok (TE.ok_cons ti22_ok (TE.ok_cons ti25_ok (TE.ok_cons ti26_ok (TE.ok_cons ti30_ok (TE.ok_cons ti32_ok (TE.ok_cons ti33_ok (TE.ok_cons ti34_ok (TE.ok_cons ti35_ok (TE.ok_cons ti37_ok (TE.ok_cons ti39_ok (TE.ok_cons ti44_ok (TE.ok_cons ti48_ok (TE.ok_cons ti53_ok (TE.ok_cons ti55_ok (TE.ok_cons ti57_ok (TE.ok_cons ti92_ok (TE.ok_cons ti94_ok (TE.ok_cons ti96_ok (TE.ok_cons ti99_ok (TE.ok_cons ti111_ok (TE.ok_cons ti113_ok (TE.ok_cons ti129_ok (TE.ok_cons ti133_ok (TE.ok_cons ti147_ok (TE.ok_cons ti158_ok (TE.ok_nil _))))))))))))))))))))))))))))))
theorem mixed : Tryz.prog.follows .mixedOrders = true := by kernel_rfl
theorem add64_ok : ExtI Tryz.prog 107 (ext3 add64) := ext_add64 (fn := Tryz.f107) (by kernel_rfl) (by kernel_rfl) (by kernel_rfl) (by kernel_rfl) (by kernel_rfl)
theorem sub64_ok : ExtI Tryz.prog 144 (ext3 sub64) := ext_sub64 (fn := Tryz.f144) (by kernel_rfl) (by kernel_rfl) (by kernel_rfl) (by kernel_rfl) (by kernel_rfl)
open IntKind (i64 u64 i32 u32 i16 u16 i8 u8)
theorem AI {a b : Prop} (x : a) (y : b) : a ∧ b := ⟨x, y⟩
theorem EI {α : Sort _} {p : α → Prop} (w : α) (h : p w) : ∃ x, p x := ⟨w, h⟩
theorem OL {a b : Prop} (x : a) : a ∨ b := .inl x
theorem OQ {a b : Prop} (x : b) : a ∨ b := .inr x
theorem TV : True := True.intro
theorem E4 {e : Nat} {s : St} {J : Sh} (ρ : Ren) (h : (renB J.nx ρ [] && protB e ρ && Nat.ble e J.nx) = true ∧ Weak ρ s J) : toSh e s J := ⟨[], [], [], [], ρ, h⟩
theorem R2 {A0 : Sort _} {a0 : A0} {A1 : Sort _} {a1 : A1} {p : Prop} (h : p) : a0 = a0 ∧ a1 = a1 ∧ p := ⟨rfl, rfl, h⟩
theorem R3 {A0 : Sort _} {a0 : A0} {A1 : Sort _} {a1 : A1} {A2 : Sort _} {a2 : A2} {p : Prop} (h : p) : a0 = a0 ∧ a1 = a1 ∧ a2 = a2 ∧ p := ⟨rfl, rfl, rfl, h⟩
theorem R4 {A0 : Sort _} {a0 : A0} {A1 : Sort _} {a1 : A1} {A2 : Sort _} {a2 : A2} {A3 : Sort _} {a3 : A3} {p : Prop} (h : p) : a0 = a0 ∧ a1 = a1 ∧ a2 = a2 ∧ a3 = a3 ∧ p := ⟨rfl, rfl, rfl, rfl, h⟩
theorem R5 {A0 : Sort _} {a0 : A0} {A1 : Sort _} {a1 : A1} {A2 : Sort _} {a2 : A2} {A3 : Sort _} {a3 : A3} {A4 : Sort _} {a4 : A4} {p : Prop} (h : p) : a0 = a0 ∧ a1 = a1 ∧ a2 = a2 ∧ a3 = a3 ∧ a4 = a4 ∧ p := ⟨rfl, rfl, rfl, rfl, rfl, h⟩
theorem R6 {A0 : Sort _} {a0 : A0} {A1 : Sort _} {a1 : A1} {A2 : Sort _} {a2 : A2} {A3 : Sort _} {a3 : A3} {A4 : Sort _} {a4 : A4} {A5 : Sort _} {a5 : A5} {p : Prop} (h : p) : a0 = a0 ∧ a1 = a1 ∧ a2 = a2 ∧ a3 = a3 ∧ a4 = a4 ∧ a5 = a5 ∧ p := ⟨rfl, rfl, rfl, rfl, rfl, rfl, h⟩
theorem R7 {A0 : Sort _} {a0 : A0} {A1 : Sort _} {a1 : A1} {A2 : Sort _} {a2 : A2} {A3 : Sort _} {a3 : A3} {A4 : Sort _} {a4 : A4} {A5 : Sort _} {a5 : A5} {A6 : Sort _} {a6 : A6} {p : Prop} (h : p) : a0 = a0 ∧ a1 = a1 ∧ a2 = a2 ∧ a3 = a3 ∧ a4 = a4 ∧ a5 = a5 ∧ a6 = a6 ∧ p := ⟨rfl, rfl, rfl, rfl, rfl, rfl, rfl, h⟩
theorem R8 {A0 : Sort _} {a0 : A0} {A1 : Sort _} {a1 : A1} {A2 : Sort _} {a2 : A2} {A3 : Sort _} {a3 : A3} {A4 : Sort _} {a4 : A4} {A5 : Sort _} {a5 : A5} {A6 : Sort _} {a6 : A6} {A7 : Sort _} {a7 : A7} {p : Prop} (h : p) : a0 = a0 ∧ a1 = a1 ∧ a2 = a2 ∧ a3 = a3 ∧ a4 = a4 ∧ a5 = a5 ∧ a6 = a6 ∧ a7 = a7 ∧ p := ⟨rfl, rfl, rfl, rfl, rfl, rfl, rfl, rfl, h⟩
theorem R9 {A0 : Sort _} {a0 : A0} {A1 : Sort _} {a1 : A1} {A2 : Sort _} {a2 : A2} {A3 : Sort _} {a3 : A3} {A4 : Sort _} {a4 : A4} {A5 : Sort _} {a5 : A5} {A6 : Sort _} {a6 : A6} {A7 : Sort _} {a7 : A7} {A8 : Sort _} {a8 : A8} {p : Prop} (h : p) : a0 = a0 ∧ a1 = a1 ∧ a2 = a2 ∧ a3 = a3 ∧ a4 = a4 ∧ a5 = a5 ∧ a6 = a6 ∧ a7 = a7 ∧ a8 = a8 ∧ p := ⟨rfl, rfl, rfl, rfl, rfl, rfl, rfl, rfl, rfl, h⟩
theorem R10 {A0 : Sort _} {a0 : A0} {A1 : Sort _} {a1 : A1} {A2 : Sort _} {a2 : A2} {A3 : Sort _} {a3 : A3} {A4 : Sort _} {a4 : A4} {A5 : Sort _} {a5 : A5} {A6 : Sort _} {a6 : A6} {A7 : Sort _} {a7 : A7} {A8 : Sort _} {a8 : A8} {A9 : Sort _} {a9 : A9} {p : Prop} (h : p) : a0 = a0 ∧ a1 = a1 ∧ a2 = a2 ∧ a3 = a3 ∧ a4 = a4 ∧ a5 = a5 ∧ a6 = a6 ∧ a7 = a7 ∧ a8 = a8 ∧ a9 = a9 ∧ p := ⟨rfl, rfl, rfl, rfl, rfl, rfl, rfl, rfl, rfl, rfl, h⟩
theorem R11 {A0 : Sort _} {a0 : A0} {A1 : Sort _} {a1 : A1} {A2 : Sort _} {a2 : A2} {A3 : Sort _} {a3 : A3} {A4 : Sort _} {a4 : A4} {A5 : Sort _} {a5 : A5} {A6 : Sort _} {a6 : A6} {A7 : Sort _} {a7 : A7} {A8 : Sort _} {a8 : A8} {A9 : Sort _} {a9 : A9} {A10 : Sort _} {a10 : A10} {p : Prop} (h : p) : a0 = a0 ∧ a1 = a1 ∧ a2 = a2 ∧ a3 = a3 ∧ a4 = a4 ∧ a5 = a5 ∧ a6 = a6 ∧ a7 = a7 ∧ a8 = a8 ∧ a9 = a9 ∧ a10 = a10 ∧ p := ⟨rfl, rfl, rfl, rfl, rfl, rfl, rfl, rfl, rfl, rfl, rfl, h⟩
theorem R12 {A0 : Sort _} {a0 : A0} {A1 : Sort _} {a1 : A1} {A2 : Sort _} {a2 : A2} {A3 : Sort _} {a3 : A3} {A4 : Sort _} {a4 : A4} {A5 : Sort _} {a5 : A5} {A6 : Sort _} {a6 : A6} {A7 : Sort _} {a7 : A7} {A8 : Sort _} {a8 : A8} {A9 : Sort _} {a9 : A9} {A10 : Sort _} {a10 : A10} {A11 : Sort _} {a11 : A11} {p : Prop} (h : p) : a0 = a0 ∧ a1 = a1 ∧ a2 = a2 ∧ a3 = a3 ∧ a4 = a4 ∧ a5 = a5 ∧ a6 = a6 ∧ a7 = a7 ∧ a8 = a8 ∧ a9 = a9 ∧ a10 = a10 ∧ a11 = a11 ∧ p := ⟨rfl, rfl, rfl, rfl, rfl, rfl, rfl, rfl, rfl, rfl, rfl, rfl, h⟩
theorem R13 {A0 : Sort _} {a0 : A0} {A1 : Sort _} {a1 : A1} {A2 : Sort _} {a2 : A2} {A3 : Sort _} {a3 : A3} {A4 : Sort _} {a4 : A4} {A5 : Sort _} {a5 : A5} {A6 : Sort _} {a6 : A6} {A7 : Sort _} {a7 : A7} {A8 : Sort _} {a8 : A8} {A9 : Sort _} {a9 : A9} {A10 : Sort _} {a10 : A10} {A11 : Sort _} {a11 : A11} {A12 : Sort _} {a12 : A12} {p : Prop} (h : p) : a0 = a0 ∧ a1 = a1 ∧ a2 = a2 ∧ a3 = a3 ∧ a4 = a4 ∧ a5 = a5 ∧ a6 = a6 ∧ a7 = a7 ∧ a8 = a8 ∧ a9 = a9 ∧ a10 = a10 ∧ a11 = a11 ∧ a12 = a12 ∧ p := ⟨rfl, rfl, rfl, rfl, rfl, rfl, rfl, rfl, rfl, rfl, rfl, rfl, rfl, h⟩
theorem R14 {A0 : Sort _} {a0 : A0} {A1 : Sort _} {a1 : A1} {A2 : Sort _} {a2 : A2} {A3 : Sort _} {a3 : A3} {A4 : Sort _} {a4 : A4} {A5 : Sort _} {a5 : A5} {A6 : Sort _} {a6 : A6} {A7 : Sort _} {a7 : A7} {A8 : Sort _} {a8 : A8} {A9 : Sort _} {a9 : A9} {A10 : Sort _} {a10 : A10} {A11 : Sort _} {a11 : A11} {A12 : Sort _} {a12 : A12} {A13 : Sort _} {a13 : A13} {p : Prop} (h : p) : a0 = a0 ∧ a1 = a1 ∧ a2 = a2 ∧ a3 = a3 ∧ a4 = a4 ∧ a5 = a5 ∧ a6 = a6 ∧ a7 = a7 ∧ a8 = a8 ∧ a9 = a9 ∧ a10 = a10 ∧ a11 = a11 ∧ a12 = a12 ∧ a13 = a13 ∧ p := ⟨rfl, rfl, rfl, rfl, rfl, rfl, rfl, rfl, rfl, rfl, rfl, rfl, rfl, rfl, h⟩
theorem R15 {A0 : Sort _} {a0 : A0} {A1 : Sort _} {a1 : A1} {A2 : Sort _} {a2 : A2} {A3 : Sort _} {a3 : A3} {A4 : Sort _} {a4 : A4} {A5 : Sort _} {a5 : A5} {A6 : Sort _} {a6 : A6} {A7 : Sort _} {a7 : A7} {A8 : Sort _} {a8 : A8} {A9 : Sort _} {a9 : A9} {A10 : Sort _} {a10 : A10} {A11 : Sort _} {a11 : A11} {A12 : Sort _} {a12 : A12} {A13 : Sort _} {a13 : A13} {A14 : Sort _} {a14 : A14} {p : Prop} (h : p) : a0 = a0 ∧ a1 = a1 ∧ a2 = a2 ∧ a3 = a3 ∧ a4 = a4 ∧ a5 = a5 ∧ a6 = a6 ∧ a7 = a7 ∧ a8 = a8 ∧ a9 = a9 ∧ a10 = a10 ∧ a11 = a11 ∧ a12 = a12 ∧ a13 = a13 ∧ a14 = a14 ∧ p := ⟨rfl, rfl, rfl, rfl, rfl, rfl, rfl, rfl, rfl, rfl, rfl, rfl, rfl, rfl, rfl, h⟩
theorem R16 {A0 : Sort _} {a0 : A0} {A1 : Sort _} {a1 : A1} {A2 : Sort _} {a2 : A2} {A3 : Sort _} {a3 : A3} {A4 : Sort _} {a4 : A4} {A5 : Sort _} {a5 : A5} {A6 : Sort _} {a6 : A6} {A7 : Sort _} {a7 : A7} {A8 : Sort _} {a8 : A8} {A9 : Sort _} {a9 : A9} {A10 : Sort _} {a10 : A10} {A11 : Sort _} {a11 : A11} {A12 : Sort _} {a12 : A12} {A13 : Sort _} {a13 : A13} {A14 : Sort _} {a14 : A14} {A15 : Sort _} {a15 : A15} {p : Prop} (h : p) : a0 = a0 ∧ a1 = a1 ∧ a2 = a2 ∧ a3 = a3 ∧ a4 = a4 ∧ a5 = a5 ∧ a6 = a6 ∧ a7 = a7 ∧ a8 = a8 ∧ a9 = a9 ∧ a10 = a10 ∧ a11 = a11 ∧ a12 = a12 ∧ a13 = a13 ∧ a14 = a14 ∧ a15 = a15 ∧ p := ⟨rfl, rfl, rfl, rfl, rfl, rfl, rfl, rfl, rfl, rfl, rfl, rfl, rfl, rfl, rfl, rfl, h⟩
abbrev InP (n : Nat) : Prop := ∃ fn, Tryz.prog.funcs[n]? = some fn ∧ fn.body.isSome = true ∧ (fn.name == "runtime.NumGoroutine") = false
abbrev VC (f : Func) (C : Con) (x : C.X) (y : C.Y) : Prop := vc Tryz.prog tab f.ntmps 0 (match f.body with | some c => c | none => .skip) (retK tab C f.results.toList y) (C.shIn x).st
abbrev T0 : Ty := .p (.int .i64) (.p (.int .i64) (.p (.int .i64) (.p (.int .i64) (.p (.sl (.int .i64)) (.sl (.int .i64))))))
abbrev T1 : Ty := .sl (.int .i64)
abbrev T2 : Ty := .int .i64
abbrev T3 : Ty := .p (.sl (.int .i64)) (.sl (.int .i64))
abbrev T4 : Ty := .int .u64
abbrev T5 : Ty := .p (.int .i64) (.int .u64)
abbrev T6 : Ty := .sl (.p (.int .i64) (.p (.int .i64) (.p (.int .i64) (.p (.int .i64) (.p (.sl (.int .i64)) (.sl (.int .i64)))))))
abbrev P0 (a b : Nat) : Pat := .raw false [.ptr a b]
abbrev O0 (a : Nat) : Pat := .raw false [.osl a]
abbrev N0 : CV := .c (.slice none 0 0)
abbrev D0 (x : Int) : Pat := .dat (.int .i64) x
abbrev LI := List Int
abbrev ND := Int × Int × Int × Int × LI × LI
theorem NH {p : Prop} : false = true → p := fun h => nomatch h
noncomputable def inB (n : Nat) : Bool := match Tryz.prog.funcs[n]? with | some fn => fn.body.isSome && !(fn.name == "runtime.NumGoroutine") | none => false
theorem inP {n : Nat} (h : inB n = true) : InP n := by
  unfold inB at h
  split at h
  · next fn hf => exact ⟨fn, hf, by simp_all, by simp_all⟩
  · exact absurd h (by decide)
theorem AJ {α : Sort _} {a : α} {p : Prop} (h : p) : (a = a ∧ True) ∧ p := ⟨⟨rfl, trivial⟩, h⟩
theorem K0 {β : Sort _} {b : β} {γ : Sort _} {c : γ} {P p : Prop} (h : p) : (false = true → P) ∧ b = b ∧ c = c ∧ True ∧ True ∧ p := ⟨NH, rfl, rfl, trivial, trivial, h⟩
abbrev NL := List ND
abbrev I2 : Ren := [(0, some 0), (1, some 1)]
abbrev I3 : Ren := [(0, some 0), (1, some 1), (2, some 2)]
abbrev I4 : Ren := [(0, some 0), (1, some 1), (2, some 2), (3, some 3)]
abbrev I5 : Ren := [(0, some 0), (1, some 1), (2, some 2), (3, some 3), (4, some 4)]
abbrev I6 : Ren := [(0, some 0), (1, some 1), (2, some 2), (3, some 3), (4, some 4), (5, some 5)]
abbrev I7 : Ren := [(0, some 0), (1, some 1), (2, some 2), (3, some 3), (4, some 4), (5, some 5), (6, some 6)]
abbrev I8 : Ren := [(0, some 0), (1, some 1), (2, some 2), (3, some 3), (4, some 4), (5, some 5), (6, some 6), (7, some 7)]
abbrev HP (C : Con) (n : Nat) : Prop := C.Holds Tryz.prog n
theorem hH {n : Nat} (fn : Func) {c : Code} (hf : Tryz.prog.funcs[n]? = some fn) (hb : fn.body = some c) {C : Con} (H : ∀ x y, C.F x = some y → vc Tryz.prog tab fn.ntmps C.e c (retK tab C fn.results.toList y) (C.shIn x).st) : HP C n := hV tab_ok mixed hf hb C H
abbrev VE (f : Func) (e : Nat) (C : Con) (x : C.X) (y : C.Y) : Prop := vc Tryz.prog tab f.ntmps e (match f.body with | some c => c | none => .skip) (retK tab C f.results.toList y) (C.shIn x).st
end Go.Proofs
