import Derived.Test.YtlgiakkejlbbfaaGreatAmV
import Derived.Test.YtlgiakkejlbbfaaGreatProg
set_option linter.unusedVariables false
set_option maxRecDepth 100000
set_option maxHeartbeats 8000000
namespace Go.Proofs
open Go.AM
def ti2 : TI := ⟨(.int .i64), 1, 8, (.int .i64 0), some (.int .i64)⟩
theorem ti2_ok : ti2.Ok Tryz.prog 2 := TI.ok_of (by kernel_rfl) (by kernel_rfl) (by intro y hy; cases hy <;> exact ⟨rfl, rfl⟩) (by decide)
def ti3 : TI := ⟨(.int .i64), 1, 8, (.int .i64 0), some (.int .i64)⟩
theorem ti3_ok : ti3.Ok Tryz.prog 3 := TI.ok_of (by kernel_rfl) (by kernel_rfl) (by intro y hy; cases hy <;> exact ⟨rfl, rfl⟩) (by decide)
def ti4 : TI := ⟨.bool, 1, 1, (.bool false), some .bool⟩
theorem ti4_ok : ti4.Ok Tryz.prog 4 := TI.ok_of (by kernel_rfl) (by kernel_rfl) (by intro y hy; cases hy <;> exact ⟨rfl, rfl⟩) (by decide)
def ti5 : TI := ⟨(.int .u8), 1, 1, (.int .u8 0), some (.int .u8)⟩
theorem ti5_ok : ti5.Ok Tryz.prog 5 := TI.ok_of (by kernel_rfl) (by kernel_rfl) (by intro y hy; cases hy <;> exact ⟨rfl, rfl⟩) (by decide)
def ti9 : TI := ⟨.string, 1, 16, (.string ⟨#[]⟩), some .str⟩
theorem ti9_ok : ti9.Ok Tryz.prog 9 := TI.ok_of (by kernel_rfl) (by kernel_rfl) (by intro y hy; cases hy <;> exact ⟨rfl, rfl⟩) (by decide)
def ti23 : TI := ⟨(.pointer 70), 1, 8, (.pointer none), none⟩
theorem ti23_ok : ti23.Ok Tryz.prog 23 := TI.ok_of (by kernel_rfl) (by kernel_rfl) (by intro y hy; cases hy <;> exact ⟨rfl, rfl⟩) (by decide)
def ti25 : TI := ⟨(.int .i64), 1, 8, (.int .i64 0), some (.int .i64)⟩
theorem ti25_ok : ti25.Ok Tryz.prog 25 := TI.ok_of (by kernel_rfl) (by kernel_rfl) (by intro y hy; cases hy <;> exact ⟨rfl, rfl⟩) (by decide)
def ti28 : TI := ⟨(.slice 3), 1, 24, (.slice none 0 0), some (.sl (.int .i64))⟩
theorem ti28_ok : ti28.Ok Tryz.prog 28 := TI.ok_of (by kernel_rfl) (by kernel_rfl) (by intro y hy; cases hy <;> exact ⟨rfl, rfl⟩) (by decide)
def ti29 : TI := ⟨(.slice 33), 1, 24, (.slice none 0 0), some (.sl (.int .i64))⟩
theorem ti29_ok : ti29.Ok Tryz.prog 29 := TI.ok_of (by kernel_rfl) (by kernel_rfl) (by intro y hy; cases hy <;> exact ⟨rfl, rfl⟩) (by decide)
def ti31 : TI := ⟨(.struct #[⟨"Dims", 28, 0, false, "", "", 0⟩, ⟨"V", 29, 1, false, "", "", 24⟩]), 2, 48, (.agg #[(.slice none 0 0), (.slice none 0 0)]), some (.p (.sl (.int .i64)) (.sl (.int .i64)))⟩
theorem ti31_ok : ti31.Ok Tryz.prog 31 := TI.ok_of (by kernel_rfl) (by kernel_rfl) (by intro y hy; cases hy <;> exact ⟨rfl, rfl⟩) (by decide)
def ti33 : TI := ⟨(.int .i64), 1, 8, (.int .i64 0), some (.int .i64)⟩
theorem ti33_ok : ti33.Ok Tryz.prog 33 := TI.ok_of (by kernel_rfl) (by kernel_rfl) (by intro y hy; cases hy <;> exact ⟨rfl, rfl⟩) (by decide)
def ti34 : TI := ⟨(.slice 31), 1, 24, (.slice none 0 0), some (.sl (.p (.sl (.int .i64)) (.sl (.int .i64))))⟩
theorem ti34_ok : ti34.Ok Tryz.prog 34 := TI.ok_of (by kernel_rfl) (by kernel_rfl) (by intro y hy; cases hy <;> exact ⟨rfl, rfl⟩) (by decide)
def ti41 : TI := ⟨(.slice 89), 1, 24, (.slice none 0 0), some (.sl (.p (.int .i64) (.p (.int .i64) (.p (.int .i64) (.p (.int .i64) (.p (.sl (.int .i64)) (.sl (.int .i64))))))))⟩
theorem ti41_ok : ti41.Ok Tryz.prog 41 := TI.ok_of (by kernel_rfl) (by kernel_rfl) (by intro y hy; cases hy <;> exact ⟨rfl, rfl⟩) (by decide)
def ti43 : TI := ⟨(.pointer 49), 1, 8, (.pointer none), none⟩
theorem ti43_ok : ti43.Ok Tryz.prog 43 := TI.ok_of (by kernel_rfl) (by kernel_rfl) (by intro y hy; cases hy <;> exact ⟨rfl, rfl⟩) (by decide)
def ti47 : TI := ⟨(.slice 51), 1, 24, (.slice none 0 0), some (.sl (.p (.int .i64) (.p (.int .i64) (.p (.int .i64) (.p (.int .i64) (.p (.sl (.int .i64)) (.sl (.int .i64))))))))⟩
theorem ti47_ok : ti47.Ok Tryz.prog 47 := TI.ok_of (by kernel_rfl) (by kernel_rfl) (by intro y hy; cases hy <;> exact ⟨rfl, rfl⟩) (by decide)
def ti49 : TI := ⟨(.struct #[⟨"L", 47, 0, false, "", "", 0⟩]), 1, 24, (.agg #[(.slice none 0 0)]), some (.p (.sl (.p (.int .i64) (.p (.int .i64) (.p (.int .i64) (.p (.int .i64) (.p (.sl (.int .i64)) (.sl (.int .i64)))))))) .u)⟩
theorem ti49_ok : ti49.Ok Tryz.prog 49 := TI.ok_of (by kernel_rfl) (by kernel_rfl) (by intro y hy; cases hy <;> exact ⟨rfl, rfl⟩) (by decide)
def ti51 : TI := ⟨(.struct #[⟨"Op", 3, 0, false, "", "", 0⟩, ⟨"A", 3, 1, false, "", "", 8⟩, ⟨"B", 3, 2, false, "", "", 16⟩, ⟨"K", 33, 3, false, "", "", 24⟩, ⟨"T", 31, 4, false, "", "", 32⟩]), 6, 80, (.agg #[(.int .i64 0), (.int .i64 0), (.int .i64 0), (.int .i64 0), (.slice none 0 0), (.slice none 0 0)]), some (.p (.int .i64) (.p (.int .i64) (.p (.int .i64) (.p (.int .i64) (.p (.sl (.int .i64)) (.sl (.int .i64)))))))⟩
theorem ti51_ok : ti51.Ok Tryz.prog 51 := TI.ok_of (by kernel_rfl) (by kernel_rfl) (by intro y hy; cases hy <;> exact ⟨rfl, rfl⟩) (by decide)
def ti58 : TI := ⟨(.slice 60), 1, 24, (.slice none 0 0), some (.sl (.int .i16))⟩
theorem ti58_ok : ti58.Ok Tryz.prog 58 := TI.ok_of (by kernel_rfl) (by kernel_rfl) (by intro y hy; cases hy <;> exact ⟨rfl, rfl⟩) (by decide)
def ti59 : TI := ⟨(.array 2 33), 2, 16, (.agg #[(.int .i64 0), (.int .i64 0)]), none⟩
theorem ti59_ok : ti59.Ok Tryz.prog 59 := TI.ok_of (by kernel_rfl) (by kernel_rfl) (by intro y hy; cases hy <;> exact ⟨rfl, rfl⟩) (by decide)
def ti60 : TI := ⟨(.int .i16), 1, 2, (.int .i16 0), some (.int .i16)⟩
theorem ti60_ok : ti60.Ok Tryz.prog 60 := TI.ok_of (by kernel_rfl) (by kernel_rfl) (by intro y hy; cases hy <;> exact ⟨rfl, rfl⟩) (by decide)
def ti68 : TI := ⟨(.slice 74), 1, 24, (.slice none 0 0), some (.sl (.p (.int .i64) (.p (.int .i64) (.p (.int .i64) (.p (.int .i64) (.p (.sl (.int .i64)) (.sl (.int .i64))))))))⟩
theorem ti68_ok : ti68.Ok Tryz.prog 68 := TI.ok_of (by kernel_rfl) (by kernel_rfl) (by intro y hy; cases hy <;> exact ⟨rfl, rfl⟩) (by decide)
def ti70 : TI := ⟨(.struct #[⟨"l", 68, 0, false, "", "carousel/tape", 0⟩]), 1, 24, (.agg #[(.slice none 0 0)]), some (.p (.sl (.p (.int .i64) (.p (.int .i64) (.p (.int .i64) (.p (.int .i64) (.p (.sl (.int .i64)) (.sl (.int .i64)))))))) .u)⟩
theorem ti70_ok : ti70.Ok Tryz.prog 70 := TI.ok_of (by kernel_rfl) (by kernel_rfl) (by intro y hy; cases hy <;> exact ⟨rfl, rfl⟩) (by decide)
def ti74 : TI := ⟨(.struct #[⟨"Op", 3, 0, false, "", "", 0⟩, ⟨"A", 3, 1, false, "", "", 8⟩, ⟨"B", 3, 2, false, "", "", 16⟩, ⟨"K", 33, 3, false, "", "", 24⟩, ⟨"T", 31, 4, false, "", "", 32⟩]), 6, 80, (.agg #[(.int .i64 0), (.int .i64 0), (.int .i64 0), (.int .i64 0), (.slice none 0 0), (.slice none 0 0)]), some (.p (.int .i64) (.p (.int .i64) (.p (.int .i64) (.p (.int .i64) (.p (.sl (.int .i64)) (.sl (.int .i64)))))))⟩
theorem ti74_ok : ti74.Ok Tryz.prog 74 := TI.ok_of (by kernel_rfl) (by kernel_rfl) (by intro y hy; cases hy <;> exact ⟨rfl, rfl⟩) (by decide)
def ti75 : TI := ⟨(.pointer 78), 1, 8, (.pointer none), none⟩
theorem ti75_ok : ti75.Ok Tryz.prog 75 := TI.ok_of (by kernel_rfl) (by kernel_rfl) (by intro y hy; cases hy <;> exact ⟨rfl, rfl⟩) (by decide)
def ti76 : TI := ⟨(.slice 4), 1, 24, (.slice none 0 0), some (.sl .bool)⟩
theorem ti76_ok : ti76.Ok Tryz.prog 76 := TI.ok_of (by kernel_rfl) (by kernel_rfl) (by intro y hy; cases hy <;> exact ⟨rfl, rfl⟩) (by decide)
def ti78 : TI := ⟨(.struct #[⟨"l", 34, 0, false, "", "carousel/back", 0⟩, ⟨"given", 76, 1, false, "", "carousel/back", 24⟩]), 2, 48, (.agg #[(.slice none 0 0), (.slice none 0 0)]), some (.p (.sl (.p (.sl (.int .i64)) (.sl (.int .i64)))) (.sl .bool))⟩
theorem ti78_ok : ti78.Ok Tryz.prog 78 := TI.ok_of (by kernel_rfl) (by kernel_rfl) (by intro y hy; cases hy <;> exact ⟨rfl, rfl⟩) (by decide)
def ti89 : TI := ⟨(.struct #[⟨"Op", 3, 0, false, "", "", 0⟩, ⟨"A", 3, 1, false, "", "", 8⟩, ⟨"B", 3, 2, false, "", "", 16⟩, ⟨"K", 33, 3, false, "", "", 24⟩, ⟨"T", 31, 4, false, "", "", 32⟩]), 6, 80, (.agg #[(.int .i64 0), (.int .i64 0), (.int .i64 0), (.int .i64 0), (.slice none 0 0), (.slice none 0 0)]), some (.p (.int .i64) (.p (.int .i64) (.p (.int .i64) (.p (.int .i64) (.p (.sl (.int .i64)) (.sl (.int .i64)))))))⟩
theorem ti89_ok : ti89.Ok Tryz.prog 89 := TI.ok_of (by kernel_rfl) (by kernel_rfl) (by intro y hy; cases hy <;> exact ⟨rfl, rfl⟩) (by decide)
def ti102 : TI := ⟨(.int .u64), 1, 8, (.int .u64 0), some (.int .u64)⟩
theorem ti102_ok : ti102.Ok Tryz.prog 102 := TI.ok_of (by kernel_rfl) (by kernel_rfl) (by intro y hy; cases hy <;> exact ⟨rfl, rfl⟩) (by decide)
def ti103 : TI := ⟨(.array 4 102), 4, 32, (.agg #[(.int .u64 0), (.int .u64 0), (.int .u64 0), (.int .u64 0)]), none⟩
theorem ti103_ok : ti103.Ok Tryz.prog 103 := TI.ok_of (by kernel_rfl) (by kernel_rfl) (by intro y hy; cases hy <;> exact ⟨rfl, rfl⟩) (by decide)
def ti105 : TI := ⟨(.struct #[⟨"Neg", 4, 0, false, "", "", 0⟩, ⟨"M", 103, 1, false, "", "", 8⟩]), 5, 40, (.agg #[(.bool false), (.int .u64 0), (.int .u64 0), (.int .u64 0), (.int .u64 0)]), none⟩
theorem ti105_ok : ti105.Ok Tryz.prog 105 := TI.ok_of (by kernel_rfl) (by kernel_rfl) (by intro y hy; cases hy <;> exact ⟨rfl, rfl⟩) (by decide)
def ti116 : TI := ⟨(.pointer 150), 1, 8, (.pointer none), none⟩
theorem ti116_ok : ti116.Ok Tryz.prog 116 := TI.ok_of (by kernel_rfl) (by kernel_rfl) (by intro y hy; cases hy <;> exact ⟨rfl, rfl⟩) (by decide)
def ti136 : TI := ⟨(.struct #[⟨"Hi", 2, 0, false, "", "", 0⟩, ⟨"Lo", 102, 1, false, "", "", 8⟩]), 2, 16, (.agg #[(.int .i64 0), (.int .u64 0)]), some (.p (.int .i64) (.int .u64))⟩
theorem ti136_ok : ti136.Ok Tryz.prog 136 := TI.ok_of (by kernel_rfl) (by kernel_rfl) (by intro y hy; cases hy <;> exact ⟨rfl, rfl⟩) (by decide)
def ti143 : TI := ⟨(.int .u64), 1, 8, (.int .u64 0), some (.int .u64)⟩
theorem ti143_ok : ti143.Ok Tryz.prog 143 := TI.ok_of (by kernel_rfl) (by kernel_rfl) (by intro y hy; cases hy <;> exact ⟨rfl, rfl⟩) (by decide)
def ti148 : TI := ⟨(.array 2 102), 2, 16, (.agg #[(.int .u64 0), (.int .u64 0)]), none⟩
theorem ti148_ok : ti148.Ok Tryz.prog 148 := TI.ok_of (by kernel_rfl) (by kernel_rfl) (by intro y hy; cases hy <;> exact ⟨rfl, rfl⟩) (by decide)
def ti150 : TI := ⟨(.struct #[⟨"t", 23, 0, false, "", "carousel/loss", 0⟩, ⟨"was", 3, 1, false, "", "carousel/loss", 8⟩, ⟨"e", 25, 2, false, "", "carousel/loss", 16⟩]), 3, 24, (.agg #[(.pointer none), (.int .i64 0), (.int .i64 0)]), none⟩
theorem ti150_ok : ti150.Ok Tryz.prog 150 := TI.ok_of (by kernel_rfl) (by kernel_rfl) (by intro y hy; cases hy <;> exact ⟨rfl, rfl⟩) (by decide)
def ti159 : TI := ⟨(.struct #[⟨"top", 2, 0, false, "", "carousel/wide", 0⟩, ⟨"low", 136, 1, false, "", "carousel/wide", 8⟩]), 3, 24, (.agg #[(.int .i64 0), (.int .i64 0), (.int .u64 0)]), some (.p (.int .i64) (.p (.int .i64) (.int .u64)))⟩
theorem ti159_ok : ti159.Ok Tryz.prog 159 := TI.ok_of (by kernel_rfl) (by kernel_rfl) (by intro y hy; cases hy <;> exact ⟨rfl, rfl⟩) (by decide)
def ti162 : TI := ⟨(.slice 136), 1, 24, (.slice none 0 0), some (.sl (.p (.int .i64) (.int .u64)))⟩
theorem ti162_ok : ti162.Ok Tryz.prog 162 := TI.ok_of (by kernel_rfl) (by kernel_rfl) (by intro y hy; cases hy <;> exact ⟨rfl, rfl⟩) (by decide)
def ti178 : TI := ⟨(.int .u32), 1, 4, (.int .u32 0), some (.int .u32)⟩
theorem ti178_ok : ti178.Ok Tryz.prog 178 := TI.ok_of (by kernel_rfl) (by kernel_rfl) (by intro y hy; cases hy <;> exact ⟨rfl, rfl⟩) (by decide)
def ti183 : TI := ⟨(.pointer 159), 1, 8, (.pointer none), none⟩
theorem ti183_ok : ti183.Ok Tryz.prog 183 := TI.ok_of (by kernel_rfl) (by kernel_rfl) (by intro y hy; cases hy <;> exact ⟨rfl, rfl⟩) (by decide)
def tab : TE := [(2, ti2), (3, ti3), (4, ti4), (5, ti5), (9, ti9), (23, ti23), (25, ti25), (28, ti28), (29, ti29), (31, ti31), (33, ti33), (34, ti34), (41, ti41), (43, ti43), (47, ti47), (49, ti49), (51, ti51), (58, ti58), (59, ti59), (60, ti60), (68, ti68), (70, ti70), (74, ti74), (75, ti75), (76, ti76), (78, ti78), (89, ti89), (102, ti102), (103, ti103), (105, ti105), (116, ti116), (136, ti136), (143, ti143), (148, ti148), (150, ti150), (159, ti159), (162, ti162), (178, ti178), (183, ti183)]
theorem tab_ok : tab.Ok Tryz.prog := TE.ok_cons ti2_ok (TE.ok_cons ti3_ok (TE.ok_cons ti4_ok (TE.ok_cons ti5_ok (TE.ok_cons ti9_ok (TE.ok_cons ti23_ok (TE.ok_cons ti25_ok (TE.ok_cons ti28_ok (TE.ok_cons ti29_ok (TE.ok_cons ti31_ok (TE.ok_cons ti33_ok (TE.ok_cons ti34_ok (TE.ok_cons ti41_ok (TE.ok_cons ti43_ok (TE.ok_cons ti47_ok (TE.ok_cons ti49_ok (TE.ok_cons ti51_ok (TE.ok_cons ti58_ok (TE.ok_cons ti59_ok (TE.ok_cons ti60_ok (TE.ok_cons ti68_ok (TE.ok_cons ti70_ok (TE.ok_cons ti74_ok (TE.ok_cons ti75_ok (TE.ok_cons ti76_ok (TE.ok_cons ti78_ok (TE.ok_cons ti89_ok (TE.ok_cons ti102_ok (TE.ok_cons ti103_ok (TE.ok_cons ti105_ok (TE.ok_cons ti116_ok (TE.ok_cons ti136_ok (TE.ok_cons ti143_ok (TE.ok_cons ti148_ok (TE.ok_cons ti150_ok (TE.ok_cons ti159_ok (TE.ok_cons ti162_ok (TE.ok_cons ti178_ok (TE.ok_cons ti183_ok (TE.ok_nil _)))))))))))))))))))))))))))))))))))))))
theorem mixed : Tryz.prog.follows .mixedOrders = true := by kernel_rfl
theorem add64_ok : ExtI Tryz.prog 151 (ext3 add64) := ext_add64 (fn := Tryz.f151) (by kernel_rfl) (by kernel_rfl) (by kernel_rfl) (by kernel_rfl) (by kernel_rfl)
theorem sub64_ok : ExtI Tryz.prog 183 (ext3 sub64) := ext_sub64 (fn := Tryz.f183) (by kernel_rfl) (by kernel_rfl) (by kernel_rfl) (by kernel_rfl) (by kernel_rfl)
open IntKind (i64 u64 i32 u32 i16 u16 i8 u8)
theorem AI {a b : Prop} (x : a) (y : b) : a ∧ b := ⟨x, y⟩
theorem EI {α : Sort _} {p : α → Prop} (w : α) (h : p w) : ∃ x, p x := ⟨w, h⟩
theorem OL {a b : Prop} (x : a) : a ∨ b := .inl x
theorem OQ {a b : Prop} (x : b) : a ∨ b := .inr x
theorem TV : True := True.intro
theorem E4 {e : Nat} {s : St} {J : Sh} (ρ : Ren) (h : (renB J.nx ρ [] && protB e ρ && Nat.ble e J.nx) = true ∧ Weak ρ s J) : toSh e s J := ⟨[], [], [], [], ρ, h⟩
theorem R2 {A0 : Sort _} {a0 : A0} {A1 : Sort _} {a1 : A1} {p : Prop} (h : p) : a0 = a0 ∧ a1 = a1 ∧ p := ⟨rfl, rfl, h⟩
theorem R3 {A0 : Sort _} {a0 : A0} {A1 : Sort _} {a1 : A1} {A2 : Sort _} {a2 : A2} {p : Prop} (h : p) : a0 = a0 ∧ a1 = a1 ∧ a2 = a2 ∧ p := ⟨rfl, rfl, rfl, h⟩
theorem R4 {A0 : Sort _} {a0 : A0} {A1 : Sort _} {a1 : A1} {A2 : Sort _} {a2 : A2} {A3 : Sort _} {a3 : A3} {p : Prop} (h : p) : a0 = a0 ∧ a1 = a1 ∧ a2 = a2 ∧ a3 = a3 ∧ p := ⟨rfl, rfl, rfl, rfl, h⟩
theorem R5 {A0 : Sort _} {a0 : A0} {A1 : Sort _} {a1 : A1} {A2 : Sort _} {a2 : A2} {A3 : Sort _} {a3 : A3} {A4 : Sort _} {a4 : A4} {p : Prop} (h : p) : a0 = a0 ∧ a1 = a1 ∧ a2 = a2 ∧ a3 = a3 ∧ a4 = a4 ∧ p := ⟨rfl, rfl, rfl, rfl, rfl, h⟩
theorem R6 {A0 : Sort _} {a0 : A0} {A1 : Sort _} {a1 : A1} {A2 : Sort _} {a2 : A2} {A3 : Sort _} {a3 : A3} {A4 : Sort _} {a4 : A4} {A5 : Sort _} {a5 : A5} {p : Prop} (h : p) : a0 = a0 ∧ a1 = a1 ∧ a2 = a2 ∧ a3 = a3 ∧ a4 = a4 ∧ a5 = a5 ∧ p := ⟨rfl, rfl, rfl, rfl, rfl, rfl, h⟩
theorem R7 {A0 : Sort _} {a0 : A0} {A1 : Sort _} {a1 : A1} {A2 : Sort _} {a2 : A2} {A3 : Sort _} {a3 : A3} {A4 : Sort _} {a4 : A4} {A5 : Sort _} {a5 : A5} {A6 : Sort _} {a6 : A6} {p : Prop} (h : p) : a0 = a0 ∧ a1 = a1 ∧ a2 = a2 ∧ a3 = a3 ∧ a4 = a4 ∧ a5 = a5 ∧ a6 = a6 ∧ p := ⟨rfl, rfl, rfl, rfl, rfl, rfl, rfl, h⟩
theorem R8 {A0 : Sort _} {a0 : A0} {A1 : Sort _} {a1 : A1} {A2 : Sort _} {a2 : A2} {A3 : Sort _} {a3 : A3} {A4 : Sort _} {a4 : A4} {A5 : Sort _} {a5 : A5} {A6 : Sort _} {a6 : A6} {A7 : Sort _} {a7 : A7} {p : Prop} (h : p) : a0 = a0 ∧ a1 = a1 ∧ a2 = a2 ∧ a3 = a3 ∧ a4 = a4 ∧ a5 = a5 ∧ a6 = a6 ∧ a7 = a7 ∧ p := ⟨rfl, rfl, rfl, rfl, rfl, rfl, rfl, rfl, h⟩
theorem R9 {A0 : Sort _} {a0 : A0} {A1 : Sort _} {a1 : A1} {A2 : Sort _} {a2 : A2} {A3 : Sort _} {a3 : A3} {A4 : Sort _} {a4 : A4} {A5 : Sort _} {a5 : A5} {A6 : Sort _} {a6 : A6} {A7 : Sort _} {a7 : A7} {A8 : Sort _} {a8 : A8} {p : Prop} (h : p) : a0 = a0 ∧ a1 = a1 ∧ a2 = a2 ∧ a3 = a3 ∧ a4 = a4 ∧ a5 = a5 ∧ a6 = a6 ∧ a7 = a7 ∧ a8 = a8 ∧ p := ⟨rfl, rfl, rfl, rfl, rfl, rfl, rfl, rfl, rfl, h⟩
theorem R10 {A0 : Sort _} {a0 : A0} {A1 : Sort _} {a1 : A1} {A2 : Sort _} {a2 : A2} {A3 : Sort _} {a3 : A3} {A4 : Sort _} {a4 : A4} {A5 : Sort _} {a5 : A5} {A6 : Sort _} {a6 : A6} {A7 : Sort _} {a7 : A7} {A8 : Sort _} {a8 : A8} {A9 : Sort _} {a9 : A9} {p : Prop} (h : p) : a0 = a0 ∧ a1 = a1 ∧ a2 = a2 ∧ a3 = a3 ∧ a4 = a4 ∧ a5 = a5 ∧ a6 = a6 ∧ a7 = a7 ∧ a8 = a8 ∧ a9 = a9 ∧ p := ⟨rfl, rfl, rfl, rfl, rfl, rfl, rfl, rfl, rfl, rfl, h⟩
theorem R11 {A0 : Sort _} {a0 : A0} {A1 : Sort _} {a1 : A1} {A2 : Sort _} {a2 : A2} {A3 : Sort _} {a3 : A3} {A4 : Sort _} {a4 : A4} {A5 : Sort _} {a5 : A5} {A6 : Sort _} {a6 : A6} {A7 : Sort _} {a7 : A7} {A8 : Sort _} {a8 : A8} {A9 : Sort _} {a9 : A9} {A10 : Sort _} {a10 : A10} {p : Prop} (h : p) : a0 = a0 ∧ a1 = a1 ∧ a2 = a2 ∧ a3 = a3 ∧ a4 = a4 ∧ a5 = a5 ∧ a6 = a6 ∧ a7 = a7 ∧ a8 = a8 ∧ a9 = a9 ∧ a10 = a10 ∧ p := ⟨rfl, rfl, rfl, rfl, rfl, rfl, rfl, rfl, rfl, rfl, rfl, h⟩
theorem R12 {A0 : Sort _} {a0 : A0} {A1 : Sort _} {a1 : A1} {A2 : Sort _} {a2 : A2} {A3 : Sort _} {a3 : A3} {A4 : Sort _} {a4 : A4} {A5 : Sort _} {a5 : A5} {A6 : Sort _} {a6 : A6} {A7 : Sort _} {a7 : A7} {A8 : Sort _} {a8 : A8} {A9 : Sort _} {a9 : A9} {A10 : Sort _} {a10 : A10} {A11 : Sort _} {a11 : A11} {p : Prop} (h : p) : a0 = a0 ∧ a1 = a1 ∧ a2 = a2 ∧ a3 = a3 ∧ a4 = a4 ∧ a5 = a5 ∧ a6 = a6 ∧ a7 = a7 ∧ a8 = a8 ∧ a9 = a9 ∧ a10 = a10 ∧ a11 = a11 ∧ p := ⟨rfl, rfl, rfl, rfl, rfl, rfl, rfl, rfl, rfl, rfl, rfl, rfl, h⟩
theorem R13 {A0 : Sort _} {a0 : A0} {A1 : Sort _} {a1 : A1} {A2 : Sort _} {a2 : A2} {A3 : Sort _} {a3 : A3} {A4 : Sort _} {a4 : A4} {A5 : Sort _} {a5 : A5} {A6 : Sort _} {a6 : A6} {A7 : Sort _} {a7 : A7} {A8 : Sort _} {a8 : A8} {A9 : Sort _} {a9 : A9} {A10 : Sort _} {a10 : A10} {A11 : Sort _} {a11 : A11} {A12 : Sort _} {a12 : A12} {p : Prop} (h : p) : a0 = a0 ∧ a1 = a1 ∧ a2 = a2 ∧ a3 = a3 ∧ a4 = a4 ∧ a5 = a5 ∧ a6 = a6 ∧ a7 = a7 ∧ a8 = a8 ∧ a9 = a9 ∧ a10 = a10 ∧ a11 = a11 ∧ a12 = a12 ∧ p := ⟨rfl, rfl, rfl, rfl, rfl, rfl, rfl, rfl, rfl, rfl, rfl, rfl, rfl, h⟩
theorem R14 {A0 : Sort _} {a0 : A0} {A1 : Sort _} {a1 : A1} {A2 : Sort _} {a2 : A2} {A3 : Sort _} {a3 : A3} {A4 : Sort _} {a4 : A4} {A5 : Sort _} {a5 : A5} {A6 : Sort _} {a6 : A6} {A7 : Sort _} {a7 : A7} {A8 : Sort _} {a8 : A8} {A9 : Sort _} {a9 : A9} {A10 : Sort _} {a10 : A10} {A11 : Sort _} {a11 : A11} {A12 : Sort _} {a12 : A12} {A13 : Sort _} {a13 : A13} {p : Prop} (h : p) : a0 = a0 ∧ a1 = a1 ∧ a2 = a2 ∧ a3 = a3 ∧ a4 = a4 ∧ a5 = a5 ∧ a6 = a6 ∧ a7 = a7 ∧ a8 = a8 ∧ a9 = a9 ∧ a10 = a10 ∧ a11 = a11 ∧ a12 = a12 ∧ a13 = a13 ∧ p := ⟨rfl, rfl, rfl, rfl, rfl, rfl, rfl, rfl, rfl, rfl, rfl, rfl, rfl, rfl, h⟩
theorem R15 {A0 : Sort _} {a0 : A0} {A1 : Sort _} {a1 : A1} {A2 : Sort _} {a2 : A2} {A3 : Sort _} {a3 : A3} {A4 : Sort _} {a4 : A4} {A5 : Sort _} {a5 : A5} {A6 : Sort _} {a6 : A6} {A7 : Sort _} {a7 : A7} {A8 : Sort _} {a8 : A8} {A9 : Sort _} {a9 : A9} {A10 : Sort _} {a10 : A10} {A11 : Sort _} {a11 : A11} {A12 : Sort _} {a12 : A12} {A13 : Sort _} {a13 : A13} {A14 : Sort _} {a14 : A14} {p : Prop} (h : p) : a0 = a0 ∧ a1 = a1 ∧ a2 = a2 ∧ a3 = a3 ∧ a4 = a4 ∧ a5 = a5 ∧ a6 = a6 ∧ a7 = a7 ∧ a8 = a8 ∧ a9 = a9 ∧ a10 = a10 ∧ a11 = a11 ∧ a12 = a12 ∧ a13 = a13 ∧ a14 = a14 ∧ p := ⟨rfl, rfl, rfl, rfl, rfl, rfl, rfl, rfl, rfl, rfl, rfl, rfl, rfl, rfl, rfl, h⟩
theorem R16 {A0 : Sort _} {a0 : A0} {A1 : Sort _} {a1 : A1} {A2 : Sort _} {a2 : A2} {A3 : Sort _} {a3 : A3} {A4 : Sort _} {a4 : A4} {A5 : Sort _} {a5 : A5} {A6 : Sort _} {a6 : A6} {A7 : Sort _} {a7 : A7} {A8 : Sort _} {a8 : A8} {A9 : Sort _} {a9 : A9} {A10 : Sort _} {a10 : A10} {A11 : Sort _} {a11 : A11} {A12 : Sort _} {a12 : A12} {A13 : Sort _} {a13 : A13} {A14 : Sort _} {a14 : A14} {A15 : Sort _} {a15 : A15} {p : Prop} (h : p) : a0 = a0 ∧ a1 = a1 ∧ a2 = a2 ∧ a3 = a3 ∧ a4 = a4 ∧ a5 = a5 ∧ a6 = a6 ∧ a7 = a7 ∧ a8 = a8 ∧ a9 = a9 ∧ a10 = a10 ∧ a11 = a11 ∧ a12 = a12 ∧ a13 = a13 ∧ a14 = a14 ∧ a15 = a15 ∧ p := ⟨rfl, rfl, rfl, rfl, rfl, rfl, rfl, rfl, rfl, rfl, rfl, rfl, rfl, rfl, rfl, rfl, h⟩
theorem R17 {A0 : Sort _} {a0 : A0} {A1 : Sort _} {a1 : A1} {A2 : Sort _} {a2 : A2} {A3 : Sort _} {a3 : A3} {A4 : Sort _} {a4 : A4} {A5 : Sort _} {a5 : A5} {A6 : Sort _} {a6 : A6} {A7 : Sort _} {a7 : A7} {A8 : Sort _} {a8 : A8} {A9 : Sort _} {a9 : A9} {A10 : Sort _} {a10 : A10} {A11 : Sort _} {a11 : A11} {A12 : Sort _} {a12 : A12} {A13 : Sort _} {a13 : A13} {A14 : Sort _} {a14 : A14} {A15 : Sort _} {a15 : A15} {A16 : Sort _} {a16 : A16} {p : Prop} (h : p) : a0 = a0 ∧ a1 = a1 ∧ a2 = a2 ∧ a3 = a3 ∧ a4 = a4 ∧ a5 = a5 ∧ a6 = a6 ∧ a7 = a7 ∧ a8 = a8 ∧ a9 = a9 ∧ a10 = a10 ∧ a11 = a11 ∧ a12 = a12 ∧ a13 = a13 ∧ a14 = a14 ∧ a15 = a15 ∧ a16 = a16 ∧ p := ⟨rfl, rfl, rfl, rfl, rfl, rfl, rfl, rfl, rfl, rfl, rfl, rfl, rfl, rfl, rfl, rfl, rfl, h⟩
theorem R18 {A0 : Sort _} {a0 : A0} {A1 : Sort _} {a1 : A1} {A2 : Sort _} {a2 : A2} {A3 : Sort _} {a3 : A3} {A4 : Sort _} {a4 : A4} {A5 : Sort _} {a5 : A5} {A6 : Sort _} {a6 : A6} {A7 : Sort _} {a7 : A7} {A8 : Sort _} {a8 : A8} {A9 : Sort _} {a9 : A9} {A10 : Sort _} {a10 : A10} {A11 : Sort _} {a11 : A11} {A12 : Sort _} {a12 : A12} {A13 : Sort _} {a13 : A13} {A14 : Sort _} {a14 : A14} {A15 : Sort _} {a15 : A15} {A16 : Sort _} {a16 : A16} {A17 : Sort _} {a17 : A17} {p : Prop} (h : p) : a0 = a0 ∧ a1 = a1 ∧ a2 = a2 ∧ a3 = a3 ∧ a4 = a4 ∧ a5 = a5 ∧ a6 = a6 ∧ a7 = a7 ∧ a8 = a8 ∧ a9 = a9 ∧ a10 = a10 ∧ a11 = a11 ∧ a12 = a12 ∧ a13 = a13 ∧ a14 = a14 ∧ a15 = a15 ∧ a16 = a16 ∧ a17 = a17 ∧ p := ⟨rfl, rfl, rfl, rfl, rfl, rfl, rfl, rfl, rfl, rfl, rfl, rfl, rfl, rfl, rfl, rfl, rfl, rfl, h⟩
theorem R19 {A0 : Sort _} {a0 : A0} {A1 : Sort _} {a1 : A1} {A2 : Sort _} {a2 : A2} {A3 : Sort _} {a3 : A3} {A4 : Sort _} {a4 : A4} {A5 : Sort _} {a5 : A5} {A6 : Sort _} {a6 : A6} {A7 : Sort _} {a7 : A7} {A8 : Sort _} {a8 : A8} {A9 : Sort _} {a9 : A9} {A10 : Sort _} {a10 : A10} {A11 : Sort _} {a11 : A11} {A12 : Sort _} {a12 : A12} {A13 : Sort _} {a13 : A13} {A14 : Sort _} {a14 : A14} {A15 : Sort _} {a15 : A15} {A16 : Sort _} {a16 : A16} {A17 : Sort _} {a17 : A17} {A18 : Sort _} {a18 : A18} {p : Prop} (h : p) : a0 = a0 ∧ a1 = a1 ∧ a2 = a2 ∧ a3 = a3 ∧ a4 = a4 ∧ a5 = a5 ∧ a6 = a6 ∧ a7 = a7 ∧ a8 = a8 ∧ a9 = a9 ∧ a10 = a10 ∧ a11 = a11 ∧ a12 = a12 ∧ a13 = a13 ∧ a14 = a14 ∧ a15 = a15 ∧ a16 = a16 ∧ a17 = a17 ∧ a18 = a18 ∧ p := ⟨rfl, rfl, rfl, rfl, rfl, rfl, rfl, rfl, rfl, rfl, rfl, rfl, rfl, rfl, rfl, rfl, rfl, rfl, rfl, h⟩
theorem R20 {A0 : Sort _} {a0 : A0} {A1 : Sort _} {a1 : A1} {A2 : Sort _} {a2 : A2} {A3 : Sort _} {a3 : A3} {A4 : Sort _} {a4 : A4} {A5 : Sort _} {a5 : A5} {A6 : Sort _} {a6 : A6} {A7 : Sort _} {a7 : A7} {A8 : Sort _} {a8 : A8} {A9 : Sort _} {a9 : A9} {A10 : Sort _} {a10 : A10} {A11 : Sort _} {a11 : A11} {A12 : Sort _} {a12 : A12} {A13 : Sort _} {a13 : A13} {A14 : Sort _} {a14 : A14} {A15 : Sort _} {a15 : A15} {A16 : Sort _} {a16 : A16} {A17 : Sort _} {a17 : A17} {A18 : Sort _} {a18 : A18} {A19 : Sort _} {a19 : A19} {p : Prop} (h : p) : a0 = a0 ∧ a1 = a1 ∧ a2 = a2 ∧ a3 = a3 ∧ a4 = a4 ∧ a5 = a5 ∧ a6 = a6 ∧ a7 = a7 ∧ a8 = a8 ∧ a9 = a9 ∧ a10 = a10 ∧ a11 = a11 ∧ a12 = a12 ∧ a13 = a13 ∧ a14 = a14 ∧ a15 = a15 ∧ a16 = a16 ∧ a17 = a17 ∧ a18 = a18 ∧ a19 = a19 ∧ p := ⟨rfl, rfl, rfl, rfl, rfl, rfl, rfl, rfl, rfl, rfl, rfl, rfl, rfl, rfl, rfl, rfl, rfl, rfl, rfl, rfl, h⟩
abbrev InP (n : Nat) : Prop := ∃ fn, Tryz.prog.funcs[n]? = some fn ∧ fn.body.isSome = true ∧ (fn.name == "runtime.NumGoroutine") = false
abbrev VC (f : Func) (C : Con) (x : C.X) (y : C.Y) : Prop := vc Tryz.prog tab f.ntmps 0 (match f.body with | some c => c | none => .skip) (retK tab C f.results.toList y) (C.shIn x).st
abbrev T0 : Ty := .p (.int .i64) (.p (.int .i64) (.p (.int .i64) (.p (.int .i64) (.p (.sl (.int .i64)) (.sl (.int .i64))))))
abbrev T1 : Ty := .sl (.int .i64)
abbrev T2 : Ty := .int .i64
abbrev T3 : Ty := .p (.sl (.int .i64)) (.sl (.int .i64))
abbrev T4 : Ty := .int .u64
abbrev T5 : Ty := .p (.int .i64) (.int .u64)
abbrev P0 (a b : Nat) : Pat := .raw false [.ptr a b]
abbrev O0 (a : Nat) : Pat := .raw false [.osl a]
abbrev N0 : CV := .c (.slice none 0 0)
abbrev D0 (x : Int) : Pat := .dat (.int .i64) x
abbrev LI := List Int
abbrev ND := Int × Int × Int × Int × LI × LI
theorem NH {p : Prop} : false = true → p := fun h => nomatch h
noncomputable def inB (n : Nat) : Bool := match Tryz.prog.funcs[n]? with | some fn => fn.body.isSome && !(fn.name == "runtime.NumGoroutine") | none => false
theorem inP {n : Nat} (h : inB n = true) : InP n := by
  unfold inB at h
  split at h
  · next fn hf => exact ⟨fn, hf, by simp_all, by simp_all⟩
  · exact absurd h (by decide)
theorem AJ {α : Sort _} {a : α} {p : Prop} (h : p) : (a = a ∧ True) ∧ p := ⟨⟨rfl, trivial⟩, h⟩
theorem K0 {β : Sort _} {b : β} {γ : Sort _} {c : γ} {P p : Prop} (h : p) : (false = true → P) ∧ b = b ∧ c = c ∧ True ∧ True ∧ p := ⟨NH, rfl, rfl, trivial, trivial, h⟩
abbrev NL := List ND
abbrev I2 : Ren := [(0, some 0), (1, some 1)]
abbrev I3 : Ren := [(0, some 0), (1, some 1), (2, some 2)]
abbrev I4 : Ren := [(0, some 0), (1, some 1), (2, some 2), (3, some 3)]
abbrev I5 : Ren := [(0, some 0), (1, some 1), (2, some 2), (3, some 3), (4, some 4)]
abbrev I6 : Ren := [(0, some 0), (1, some 1), (2, some 2), (3, some 3), (4, some 4), (5, some 5)]
abbrev I7 : Ren := [(0, some 0), (1, some 1), (2, some 2), (3, some 3), (4, some 4), (5, some 5), (6, some 6)]
abbrev I8 : Ren := [(0, some 0), (1, some 1), (2, some 2), (3, some 3), (4, some 4), (5, some 5), (6, some 6), (7, some 7)]
abbrev HP (C : Con) (n : Nat) : Prop := C.Holds Tryz.prog n
theorem hH {n : Nat} (fn : Func) {c : Code} (hf : Tryz.prog.funcs[n]? = some fn) (hb : fn.body = some c) {C : Con} (H : ∀ x y, C.F x = some y → vc Tryz.prog tab fn.ntmps C.e c (retK tab C fn.results.toList y) (C.shIn x).st) : HP C n := hV tab_ok mixed hf hb C H
abbrev VE (f : Func) (e : Nat) (C : Con) (x : C.X) (y : C.Y) : Prop := vc Tryz.prog tab f.ntmps e (match f.body with | some c => c | none => .skip) (retK tab C f.results.toList y) (C.shIn x).st
end Go.Proofs
