
import Derived.Test.YtdnlicefpmiljaaGreatDoorAmW
import Derived.Laws.AppendOwn
import Derived.Shelf.Strings.SlTrimAscii
import Derived.Shelf.Strings.FieldsFuncGrows
import Derived.Shelf.Strconv.Atoi
import Derived.Shelf.Strconv.Itoa3
import Derived.Lib.AtoiErrMem
import Derived.Lib.AppendIntMem
set_option linter.unusedVariables false
set_option linter.unusedSimpArgs false
namespace Go.AM
open Go.RowKit (Below)
theorem args_of {C : Con} {x : C.X} {w : World} {im : Nat → Prop} {φ : Phi} {hg : GlOk w C.e φ} {vs : List Value} (hS : Sat (C.ctx x w im φ hg) φ (C.shIn x).st ⟨⟨vs⟩, []⟩ w) {i : Nat} {p : Pat} (hp : (C.args x)[i]? = some p) :
  ∃ v, vs[i]? = some v ∧ p.av.relR (CV.rel w ((C.ctx x w im φ hg).im (C.shIn x).st φ) φ (C.shIn x).st.ln (C.shIn x).st.nx) v := by
 obtain ⟨h1, h2⟩ := hS.env i p.av (by simp only [Con.shIn, Sh.st, lk_enumP, Nat.zero_le, if_true, Nat.sub_zero, hp, Option.map_some])
 have h1' : i < vs.length := by simpa using h1
 exact ⟨vs[i], by simp [h1'], by simpa [Array.getD_eq_getD_getElem?, h1'] using h2⟩
theorem sat_out {C : Con} {x : C.X} {y : C.Y} {w w' : World} {im : Nat → Prop} {φ φ' : Phi} {hg : GlOk w C.e φ} {us : List Value} (he : C.e = 0) (hb : Below w.heap.size w w')
  (h1 : ∀ i p, (C.ret y)[i]? = some p → i < us.length ∧ p.av.relR (CV.rel w' ((C.ctx x w im φ hg).im (C.shOut y).st φ') φ' (C.shOut y).st.ln (C.shOut y).st.nx) (us.getD i undef))
  (h2 : ∀ id ch, lk (C.hout y) id = some ch → id = 0 ∧ 0 < C.nout ∧ ChunkOk w' ((C.ctx x w im φ hg).im (C.shOut y).st φ') φ' (C.shOut y).st.ln (C.shOut y).st.nx id ch)
  (h3 : ∀ b cap, φ' 0 = some (b, cap) → b < w'.heap.size ∧ w.heap.size ≤ b) :
  Sat (C.ctx x w im φ hg) φ' (C.shOut y).st ⟨⟨us⟩, []⟩ w' := by
 have e0 : (C.ctx x w im φ hg).e = 0 := he
 refine ⟨rfl, fun i hi => absurd hi (by rw [e0]; omega), by rw [e0]; exact Nat.zero_le _, fun i hi => absurd hi (by rw [e0]; omega), ⟨hb.os, hb.tape, hb.output, hb.size, fun b hlt _ => hb.block b hlt⟩, fun i v hi => ?_, fun id ch hi => ?_, fun id id' ch ch' b cap cap' k1 k2 _ _ _ _ => ?_, fun id ch b cap k1 _ k2 => ?_⟩
 ·simp only [Con.shOut, Sh.st, lk_enumP, Nat.zero_le, if_true, Nat.sub_zero] at hi
  cases hp : (C.ret y)[i]? with
  | none => rw [hp] at hi; cases hi
  | some p =>
   rw [hp] at hi
   simp only [Option.map_some, Option.some.injEq] at hi
   subst hi
   obtain ⟨q1, q2⟩ := h1 i p hp
   exact ⟨by simpa using q1, by simpa [Array.getD_eq_getD_getElem?, List.getD] using q2⟩
 ·rw [Sh.at_st] at hi
  obtain ⟨q0, q1, q2⟩ := h2 id ch hi
  subst q0
  exact ⟨q1, q2⟩
 ·rw [Sh.at_st] at k1 k2
  exact (h2 id ch k1).1.trans (h2 id' ch' k2).1.symm
 ·rw [Sh.at_st] at k1
  obtain ⟨q0, _, _⟩ := h2 id ch k1
  subst q0
  obtain ⟨q1, q2⟩ := h3 b cap k2
  exact ⟨q1, .inl q2⟩
theorem ext_str2 {P : Program} {f : FuncId} {F : ByteArray × ByteArray → Option ByteArray}
  (H : ∀ a b y, F (a, b) = some y → ∀ w, Glo w → Calls P f #[.string a, .string b] w (fun e w' => e = .returned (.string y) ∧ Below w.heap.size w w')) :
  (⟨ByteArray × ByteArray, ByteArray, 0, fun x => [.dat .str x.1, .dat .str x.2], fun _ => [], F, fun y => [.dat .str y], fun _ => [], 0⟩ : Con).Holds P f := by
 intro x y hF w im φ hg vs hl hS
 obtain ⟨v0, q0, r0⟩ := args_of hS (i := 0) (p := .dat .str x.1) rfl
 obtain ⟨v1, q1, r1⟩ := args_of hS (i := 1) (p := .dat .str x.2) rfl
 match vs, hl with
 | [u0, u1], _ =>
  cases q0; cases q1
  have s0 : [v0] = [Value.string x.1] := r0
  have s1 : [v1] = [Value.string x.2] := r1
  cases s0; cases s1
  refine (H x.1 x.2 y hF w hg.g).mono fun e w' ⟨h1, h2⟩ => ⟨[.string y], fun _ => none, h1, rfl, sat_out rfl h2 (fun i p hp => ?_) (fun id ch h => by cases h) (fun b cap h => by cases h)⟩
  match i, hp with
  | 0, hp => cases hp; exact ⟨by simp, (rfl : [Value.string y] = [Value.string y])⟩
theorem ext_atoi {P : Program} {f : FuncId} {F : ByteArray → Option Int}
  (H : ∀ a y, F a = some y → ∀ w, Glo w → Calls P f #[.string a] w (fun e w' => e = .returned (.tuple #[.int .i64 y, .nilIface]) ∧ Below w.heap.size w w')) :
  (⟨ByteArray, Int, 0, fun x => [.dat .str x], fun _ => [], F, fun y => [.dat (.int .i64) y, .raw false [.c .nilIface]], fun _ => [], 0⟩ : Con).Holds P f := by
 intro x y hF w im φ hg vs hl hS
 obtain ⟨v0, q0, r0⟩ := args_of hS (i := 0) (p := .dat .str x) rfl
 match vs, hl with
 | [u0], _ =>
  cases q0
  have s0 : [v0] = [Value.string x] := r0
  cases s0
  refine (H x y hF w hg.g).mono fun e w' ⟨h1, h2⟩ => ⟨[.int .i64 y, .nilIface], fun _ => none, h1, rfl, sat_out rfl h2 (fun i p hp => ?_) (fun id ch h => by cases h) (fun b cap h => by cases h)⟩
  match i, hp with
  | 0, hp => cases hp; exact ⟨by simp, (rfl : [Value.int .i64 y] = [Value.int .i64 y])⟩
  | 1, hp => cases hp; exact ⟨by simp, rfl, rfl⟩
theorem ext_itoa {P : Program} {f : FuncId} {F : Int → Option ByteArray}
  (H : ∀ a y, F a = some y → ∀ w, Glo w → Calls P f #[.int .i64 a] w (fun e w' => e = .returned (.string y) ∧ Below w.heap.size w w')) :
  (⟨Int, ByteArray, 0, fun x => [.dat (.int .i64) x], fun _ => [], F, fun y => [.dat .str y], fun _ => [], 0⟩ : Con).Holds P f := by
 intro x y hF w im φ hg vs hl hS
 obtain ⟨v0, q0, r0⟩ := args_of hS (i := 0) (p := .dat (.int .i64) x) rfl
 match vs, hl with
 | [u0], _ =>
  cases q0
  have s0 : [v0] = [Value.int .i64 x] := r0
  cases s0
  refine (H x y hF w hg.g).mono fun e w' ⟨h1, h2⟩ => ⟨[.string y], fun _ => none, h1, rfl, sat_out rfl h2 (fun i p hp => ?_) (fun id ch h => by cases h) (fun b cap h => by cases h)⟩
  match i, hp with
  | 0, hp => cases hp; exact ⟨by simp, (rfl : [Value.string y] = [Value.string y])⟩
theorem ext_fields {P : Program} {f g : FuncId} {t : TypeId} {F : ByteArray → Option (List ByteArray)}
  (H : ∀ a y, F a = some y → ∀ w, Glo w → Calls P f #[.string a, .func (.func g) #[] #[]] w (fun e w' => ∃ A, e = .returned (.slice (some ⟨A, 0, none⟩) y.length y.length) ∧ w.heap.size ≤ A ∧
   w'.ownsRow w.heap.size t 1 (.slice (some ⟨A, 0, none⟩) y.length y.length) y.length (y.map Value.string) ∧ Below w.heap.size w w')) :
  (⟨ByteArray, List ByteArray, 0, fun x => [.dat .str x, .raw false [.c (.func (.func g) #[] #[])]], fun _ => [], F, fun _ => [.raw false [.osl 0]], fun y => [(0, .arr t .str y)], 1⟩ : Con).Holds P f := by
 intro x y hF w im φ hg vs hl hS
 obtain ⟨v0, q0, r0⟩ := args_of hS (i := 0) (p := .dat .str x) rfl
 obtain ⟨v1, q1, r1⟩ := args_of hS (i := 1) (p := .raw false [.c (.func (.func g) #[] #[])]) rfl
 match vs, hl with
 | [u0, u1], _ =>
  cases q0; cases q1
  have s0 : [v0] = [Value.string x] := r0
  have s1 : v1 = .func (.func g) #[] #[] := r1.1
  cases s0; subst s1
  refine (H x y hF w hg.g).mono fun e w' ⟨A, h1, h2, h3, h4⟩ => ⟨[.slice (some ⟨A, 0, none⟩) y.length y.length], fun i => if i = 0 then some (A, y.length) else none, h1, rfl, ?_⟩
  obtain ⟨k1, k2 | ⟨g1, cap, cur, k3, k4, k5, k6, k7, k8, k9⟩⟩ := h3
  ·exact absurd k2.1 (by simp)
  ·injection k3 with k31 k32 k33
   injection k31 with k34
   injection k34 with k35
   subst k33; subst k35
   have hA : A < w'.heap.size := lt_of_some k5
   refine sat_out rfl h4 (fun i p hp => ?_) (fun id ch h => ?_) (fun b cap h => ?_)
   ·match i, hp with
    | 0, hp =>
     cases hp
     refine ⟨by simp, ?_⟩
     refine ⟨Nat.zero_lt_one, rfl, fun n hn => .inl ⟨A, y.length, rfl, ?_⟩⟩
     simp [Con.shOut, Sh.st, heapSt, St.ln, St.at, lk, Chunk.len] at hn
     subst hn
     rfl
   ·simp only [lk] at h
    split at h
    ·rename_i e0
     have e1 : id = 0 := (Nat.eq_of_beq_eq_true e0).symm
     cases h
     subst e1
     refine ⟨rfl, Nat.zero_lt_one, .inr ⟨A, y.length, rfl, Nat.le_refl _, k7, cur, k5, by rw [k8]; rfl, fun i hi => ⟨[.string y[i]], rfl, rfl, fun j hj => ?_⟩⟩⟩
     have hj0 : j = 0 := by simpa using hj
     subst hj0
     have hm : (y.map Value.string)[i]? = some (.string y[i]) := by simp [hi]
     rw [← k9, List.getElem?_take] at hm
     split at hm
     ·simpa [Ty.n] using hm
     ·cases hm
    ·cases h
   ·simp only [if_true, Option.some.injEq, Prod.mk.injEq] at h
    obtain ⟨rfl, _⟩ := h
    exact ⟨hA, h2⟩
def atoiF (s : ByteArray) : Option Int := bif Nat.ble s.size 18 then Go.Lib.atoi s.data.toList else none
def trimF (s c : ByteArray) : Option ByteArray :=
 bif Nat.ble s.size 9223372036854775807 && (Nat.ble c.size 4294967280 && c.data.toList.all (fun b => decide (b.toNat < 128))) then some ⟨(Go.Lib.trimS s.data.toList c.data.toList).toArray⟩ else none
def fieldsF (p : Nat → Bool) (s : ByteArray) : Option (List ByteArray) := bif Nat.ble s.size 4294967296 then some (Go.Lib.goFieldsP p s) else none
theorem bif_some {α : Type} {b : Bool} {x : Option α} {y : α} (h : (bif b then x else none) = some y) : b = true ∧ x = some y := by
 cases b
 ·cases h
 ·exact ⟨rfl, h⟩
section
variable {P : Program} {ρ : Go.Shelf.Ren}
theorem enters_in {g : FuncId} (h : ∃ fn, P.funcs[g]? = some fn ∧ fn.body.isSome = true ∧ (fn.name == "runtime.NumGoroutine") = false) : ∀ args w, (callFunc g args).run P w = .ok (.enter g args) w := by
 obtain ⟨fn, h1, h2, h3⟩ := h
 obtain ⟨c, hc⟩ := Option.isSome_iff_exists.1 h2
 exact Go.Proofs.enters_of h1 h3 hc
theorem atoi_holds (L : Go.Proofs.Lays.n172 P ρ) : (⟨ByteArray, Int, 0, fun x => [.dat .str x], fun _ => [], atoiF, fun y => [.dat (.int .i64) y, .raw false [.c .nilIface]], fun _ => [], 0⟩ : Con).Holds P (ρ.f 172) :=
 ext_atoi (fun a y h w hw => by
  obtain ⟨h1, h2⟩ := bif_some h
  exact (Go.Proofs.Any.strconv_Atoi L a y (Nat.le_of_ble_eq_true h1) h2 w).mono (fun e w' ⟨h1, t, h2⟩ => ⟨h1, h2 ▸ Go.Lib.bytesWorld_below _ _ _⟩))
theorem trim_holds (L : Go.Proofs.Lays.n160 P ρ) (h116 : (P.info? (ρ.t 116)).map (fun i => (i.zero, i.size)) = some (some (.agg (Array.replicate 256 (.bool false))), 256)) :
  (⟨ByteArray × ByteArray, ByteArray, 0, fun x => [.dat .str x.1, .dat .str x.2], fun _ => [], fun x => trimF x.1 x.2, fun y => [.dat .str y], fun _ => [], 0⟩ : Con).Holds P (ρ.f 160) :=
 ext_str2 (F := fun x => trimF x.1 x.2) (fun a b y h w hw => by
  obtain ⟨h1, h2⟩ := bif_some h
  simp only [Bool.and_eq_true] at h1
  obtain ⟨h3, h4, h5⟩ := h1
  injection h2 with h2
  subst h2
  exact Go.Proofs.Any.strings_Trim_laid L h116 a b w (Nat.le_of_ble_eq_true h3) (by have := Nat.le_of_ble_eq_true h4; omega) (Go.Proofs.ascii_of_all h5))
def itoaF4 (n : Int) : Option ByteArray :=
 bif decide (0 ≤ n) && decide (n < 10) then some ⟨#[UInt8.ofNat (48 + n.toNat)]⟩
 else bif decide (10 ≤ n) && decide (n < 100) then some ⟨#[UInt8.ofNat (48 + n.toNat / 10), UInt8.ofNat (48 + n.toNat % 10)]⟩
 else bif decide (100 ≤ n) && decide (n < 1000) then some ⟨#[UInt8.ofNat (48 + n.toNat / 10 / 10), UInt8.ofNat (48 + n.toNat / 10 % 10), UInt8.ofNat (48 + n.toNat % 10)]⟩
 else bif decide (1000 ≤ n) && decide (n < 10000) then some ⟨#[UInt8.ofNat (48 + n.toNat / 10 / 10 / 10), UInt8.ofNat (48 + n.toNat / 10 / 10 % 10), UInt8.ofNat (48 + n.toNat / 10 % 10), UInt8.ofNat (48 + n.toNat % 10)]⟩ else none
theorem itoa4_in {a : Int} {y : ByteArray} (h : itoaF4 a = some y) : ∃ i : Nat, a = i ∧ i < 10000 ∧ y = ⟨(Go.Lib.decDigits i).toArray⟩ := by
 have no : ∀ lo hi : Int, ¬ (lo ≤ a ∧ a < hi) → (decide (lo ≤ a) && decide (a < hi)) = false := fun lo hi h => by simp only [Bool.and_eq_false_iff, decide_eq_false_iff_not]; omega
 have d1 : ∀ i, i < 10 → Go.Lib.decDigits i = [UInt8.ofNat (48 + i)] := fun i hi => by rw [Go.Lib.decDigits, dif_pos hi]
 have d2 : ∀ i, ¬ i < 10 → Go.Lib.decDigits i = Go.Lib.decDigits (i / 10) ++ [UInt8.ofNat (48 + i % 10)] := fun i hi => by rw [Go.Lib.decDigits, dif_neg hi]
 unfold itoaF4 at h
 by_cases h1 : 0 ≤ a ∧ a < 10
 ·rw [decide_eq_true h1.1, decide_eq_true h1.2] at h
  obtain ⟨i, rfl⟩ := Int.eq_ofNat_of_zero_le h1.1
  refine ⟨i, rfl, by omega, ?_⟩
  injection h with h
  rw [← h, d1 i (by omega)]; rfl
 rw [no _ _ h1, cond_false] at h
 by_cases h2 : 10 ≤ a ∧ a < 100
 ·rw [decide_eq_true h2.1, decide_eq_true h2.2] at h
  obtain ⟨i, rfl⟩ := Int.eq_ofNat_of_zero_le (show 0 ≤ a by omega)
  refine ⟨i, rfl, by omega, ?_⟩
  injection h with h
  rw [← h, d2 i (by omega), d1 (i / 10) (by omega)]; rfl
 rw [no _ _ h2, cond_false] at h
 by_cases h3 : 100 ≤ a ∧ a < 1000
 ·rw [decide_eq_true h3.1, decide_eq_true h3.2] at h
  obtain ⟨i, rfl⟩ := Int.eq_ofNat_of_zero_le (show 0 ≤ a by omega)
  refine ⟨i, rfl, by omega, ?_⟩
  injection h with h
  rw [← h, d2 i (by omega), d2 (i / 10) (by omega), d1 (i / 10 / 10) (by omega)]; rfl
 rw [no _ _ h3, cond_false] at h
 obtain ⟨h4, h⟩ := bif_some h
 simp only [Bool.and_eq_true, decide_eq_true_eq] at h4
 obtain ⟨i, rfl⟩ := Int.eq_ofNat_of_zero_le (show 0 ≤ a by omega)
 refine ⟨i, rfl, by omega, ?_⟩
 injection h with h
 rw [← h, d2 i (by omega), d2 (i / 10) (by omega), d2 (i / 10 / 10) (by omega), d1 (i / 10 / 10 / 10) (by omega)]; rfl
theorem tab_of {name : String} {g : Nat} {k : IntKind} {zs : List Int} {w : World} (hg : P.globalNamed name = some g) (hm : (g, zs.map fun z => Value.int k z) ∈ gtab) (hw : Glo w) : Go.Lib.TabIs P w name k zs := by
 obtain ⟨el, fr, e⟩ := hw g _ hm
 unfold Go.Lib.TabIs World.var?
 rw [hg]
 simp only [Option.bind_some, e]
theorem itoa4_holds (L : Go.Proofs.LaysM.n171 P ρ) {g : Nat} (hg : P.globalNamed "internal/strconv.uint64pow10" = some g) (hm : (g, Go.Lib.pow10Tab.map fun z => Value.int .u64 z) ∈ gtab) :
  (⟨Int, ByteArray, 0, fun x => [.dat (.int .i64) x], fun _ => [], itoaF4, fun y => [.dat .str y], fun _ => [], 0⟩ : Con).Holds P (ρ.f 171) :=
 ext_itoa (fun a y h w hw => by
  obtain ⟨i, rfl, hi, rfl⟩ := itoa4_in h
  refine (Go.Proofs.Any.strconv_Itoa L i (by omega) (by omega) w (tab_of hg hm hw)).mono ?_
  rintro e w' ⟨h1, k, os, rfl⟩
  refine ⟨?_, Go.Lib.below_grow _ w (Nat.le_refl _) k os⟩
  rw [h1]
  have e : Go.Lib.itoa (i : Int) = Go.Lib.decDigits i := by unfold Go.Lib.itoa; rw [if_neg (by omega)]; rfl
  rw [e])
theorem Glo.below {w W : World} (h : Glo w) (hb : Below w.heap.size w W) : Glo W := fun b cs hm => by
 obtain ⟨el, fr, e⟩ := h b cs hm
 exact ⟨el, fr, (hb.block b (Array.getElem?_eq_some_iff.1 e).1).trans e⟩
theorem pred_grows {g : FuncId} {F : Int → Option Bool} (hC : (⟨Int, Bool, 0, fun x => [.dat (.int .i32) x], fun _ => [], F, fun y => [.dat .bool y], fun _ => [], 0⟩ : Con).Holds P g) (p : Nat → Bool) (hp : ∀ x : Nat, F x = some (p x)) (w : World) (hw : Glo w) :
  Go.Proofs.PredGrows P g #[] p w := fun W x hx hb =>
 (law_walk hC (hp x) rfl rfl rfl W [.int .i32 x] (hw.below hb) rfl (fun i q hq => by
  match i, hq with
  | 0, hq => cases hq; exact ⟨_, rfl, rfl⟩)).mono (fun e w' ⟨h1, _, h3⟩ => ⟨h1, h3⟩)
theorem fields_holds (L : Go.Proofs.Lays.n229 P ρ) {g : FuncId} {F : Int → Option Bool} (p : Nat → Bool) (eg : ∀ args w, (callFunc g args).run P w = .ok (.enter g args) w)
  (hC : (⟨Int, Bool, 0, fun x => [.dat (.int .i32) x], fun _ => [], F, fun y => [.dat .bool y], fun _ => [], 0⟩ : Con).Holds P g) (hp : ∀ x : Nat, F x = some (p x))
  (hi154 : (P.info? (ρ.t 154)).map (fun i => (i.zero, i.size, i.bytes)) = some (some (.agg #[.int .i64 0, .int .i64 0]), 2, 16))
  (hi9 : (P.info? (ρ.t 9)).map (fun i => (i.zero, i.size, i.bytes)) = some (some (.string ⟨#[]⟩), 1, 16)) :
  (⟨ByteArray, List ByteArray, 0, fun x => [.dat .str x, .raw false [.c (.func (.func g) #[] #[])]], fun _ => [], fieldsF p, fun _ => [.raw false [.osl 0]], fun y => [(0, .arr (ρ.t 9) .str y)], 1⟩ : Con).Holds P (ρ.f 229) :=
 ext_fields (fun a y h w hw => by
  obtain ⟨h1, h2⟩ := bif_some h
  injection h2 with h2
  subst h2
  exact Go.Proofs.Any.strings_FieldsFunc_grows L g #[] eg p a w (Nat.le_of_ble_eq_true h1) (pred_grows hC p hp w hw) hi154 hi9)
end
end Go.AM
