/- The law ModelBack of carousellaw12 holds of the program: every call of it, with any arguments, in any memory, returns true and leaves what was there as it was. No conditions. -/
import Derived.Test.YtdnlicefpmiljaaGreatDoorRows
import Derived.WalkKit
import Derived.ProofKit
import Derived.OpenShut
import Derived.LaidMore
import Derived.Lay
import Derived.SevenTiedAt
import Derived.Stop.Joined
import Derived.Test.YtdnlicefpmiljaaGreatDoorTie
import Derived.Test.YtdnlicefpmiljaaGreatDoorCards
import Derived.Test.YtdnlicefpmiljaaGreatDoorModelBackQ0
import Derived.Test.YtdnlicefpmiljaaGreatDoorAmY
namespace Go.Proofs.YtdnlicefpmiljaaGreatDoor.modelBack
open Go.ChangeShapes Go.WideShapes Go.ChangeAt Go.RowKit Go.AM
set_option linter.unusedVariables false
set_option maxRecDepth 1000000
theorem own : ownKnob Tryz.prog.godebug = none := by kernel_rfl
theorem laidOut : laidOutB Tryz.prog = true := by kernel_rfl
theorem plain0 (a0 : Ty.D (.p (.sl (.int .i64)) (.sl (.p .str (.p (.int .i64) (.int .i64)))))) (w0 : Ty.wf (.p (.sl (.int .i64)) (.sl (.p .str (.p (.int .i64) (.int .i64))))) a0) : C6.F a0 = some true := by
  have e : C6.F = fun x => f6 x := by kernel_rfl
  rw [e]
  exact Cv.lawBack a0
theorem walk (a0 : Ty.D (.p (.sl (.int .i64)) (.sl (.p .str (.p (.int .i64) (.int .i64)))))) (w0 : Ty.wf (.p (.sl (.int .i64)) (.sl (.p .str (.p (.int .i64) (.int .i64))))) a0) (w : World) (hw : Go.AM.Glo w) (v0 : Value) (r0 : (Pat.dat (.p (.sl (.int .i64)) (.sl (.p .str (.p (.int .i64) (.int .i64))))) a0).reads w v0) : Calls Tryz.prog 6 ⟨[v0]⟩ w fun e w' => e = .returned (.bool true) ∧ (∀ may, w.keptBut w' may) ∧ Below w.heap.size w w' :=
  Go.AM.law_walk C6_holds (x := a0) (y := true) (plain0 a0 w0) rfl rfl rfl w [v0] hw rfl (fun i p h => match i, h with
    | 0, h => ⟨v0, rfl, by obtain rfl : _ = p := Option.some.inj h; exact r0⟩
    | _ + 1, h => nomatch h)

theorem laidVars_mem {P : Program} {w : World} {n : String} {d : DataW Unit} : ∀ {laid : List (String × DataW Unit)} {ps : List MemPlace}, DataW.LaidVars P w laid ps → (n, d) ∈ laid → ∃ g t cs fuel p, P.globalNamed n = some g ∧ (P.globals[g]?).map (·.type) = some t ∧ w.var? P n = some cs ∧ DataW.trod (fun _ => ()) P w 0 (fun _ => true) false fuel t cs.toList = some (d, p)
  | (m, e) :: r, ps, h, hm => by
    obtain ⟨g, t, cs, fuel, p, q, h1, h2, h3, h4, h5, _⟩ := h
    rcases List.mem_cons.1 hm with hm | hm
    · cases hm; exact ⟨g, t, cs, fuel, p, h1, h2, h3, h4⟩
    · exact laidVars_mem h5 hm
/-- What a listed table of numbers holds. -/
theorem cells_of {P : Program} {w : World} {n : String} {k : IntKind} {zs : List Int} {d : DataW Unit} {laid : List (String × DataW Unit)} (h : laidMetH P laid w) (hp : (laid.all fun x => x.2.handleName?.isNone) = true)
    (hm : (n, d) ∈ laid) (hd : d = .agg (zs.map fun z => .lit (.int k z))) {g t e : Nat} (hg : P.globalNamed n = some g) (ht : (P.globals[g]?).map (·.type) = some t) (ha : P.underlying t = some (.array zs.length e)) (he : P.underlying e = some (.int k)) (c1 : P.cellsOf e = 1) (c2 : P.cellsOf t = zs.length) :
    ∃ el fr, w.heap[g]? = some (.cells ⟨zs.map fun z => Value.int k z⟩ el fr) := by
  rw [MakeChecks.laidMetH_plain _ _ _ hp] at h
  obtain ⟨ps, hv, _⟩ := h
  obtain ⟨g', t', cs, fuel, p, q1, q2, q3, q4⟩ := laidVars_mem hv hm
  obtain rfl := Option.some.inj (hg.symm.trans q1)
  obtain rfl := Option.some.inj (ht.symm.trans q2)
  subst hd
  obtain ⟨xs, m, _, ex, hc, hl, hel⟩ := DataW.trod_array ha q4
  have hsz : cs.toList = zs.map fun z => Value.int k z := by
    apply List.ext_getElem
    · rw [hc, c2, List.length_map]
    · intro i h1 h2
      have hi : i < zs.length := by simpa using h2
      have hE := hel i hi
      rw [c1, Nat.mul_one, List.getElem?_eq_getElem (by omega)] at hE
      obtain ⟨z, e1, e2, _⟩ := DataW.trod_int he hE
      have e3 : (xs.map (·.1)) = zs.map fun n => .lit (.int k n) := (DataW.agg.inj (Prod.mk.inj ex).1).symm
      have e4 : (xs.map (·.1))[i]? = (zs.map fun n => (DataW.lit (.int k n) : DataW Unit))[i]? := by rw [e3]
      rw [List.getElem?_map, List.getElem?_map, List.getElem?_eq_getElem (by omega : i < xs.length), List.getElem?_eq_getElem hi, Option.map_some, Option.map_some, e2] at e4
      have hz : z = zs[i] := by simpa using e4
      have h0 : ((cs.toList.drop i).take 1)[0]? = some (.int k z) := by rw [e1]; rfl
      have h3 : cs.toList[i]? = some (.int k z) := by simpa using h0
      rw [List.getElem?_eq_getElem h1] at h3
      rw [Option.some.inj h3, hz, List.getElem_map]
  simp only [World.var?, hg, Option.bind_some] at q3
  split at q3
  · rename_i cs' el fr hh
    injection q3 with q3
    subst q3
    exact ⟨el, fr, by rw [hh, ← hsz]⟩
  · cases q3
theorem glo {W : World} (h : laidMetH Tryz.prog Rows.modelBackRow.laid W) : Go.AM.Glo W := fun b cs hm => by
  obtain ⟨rfl, rfl⟩ := Prod.mk.inj (List.mem_singleton.1 hm)
  exact cells_of (n := "internal/strconv.uint64pow10") (d := Rows.laid_internal_strconv_uint64pow10) h (by kernel_rfl) (.tail _ (.tail _ (.head _))) (by kernel_rfl) (by kernel_rfl) (by kernel_rfl) (t := 203) (by kernel_rfl) Tryz.underlying126 (by kernel_rfl) (by kernel_rfl)
theorem lifted (os : Os) (started : os.Started) (H : Type) (enc : TypeId × Value → H) :
    ReturnsInHanded {} Tryz.checked os 6 .any (fun w args => (Rows.modelBackSpec.pre enc Tryz.prog Tryz.f6 Rows.modelBackRow.domain false w args ∧ laidMetH Tryz.prog Rows.modelBackRow.laid w) ∧ sizedMet enc Tryz.prog Tryz.f6 (OpenSpec.ofChange Rows.modelBackSpec) false w args)
      (Rows.modelBackSpec.post enc Tryz.prog Tryz.f6 false true false false) := by
  refine returnsInHanded_of_change_and (C := Tryz.checked) (X := fun w _ => laidMetH Tryz.prog Rows.modelBackRow.laid w) (fun _ _ _ hh h => h.of_heap hh) own started (by kernel_rfl) Tryz.func6
    (ChangeSpec.witness_shaped (enc := enc) (C := Tryz.checked) (os := os) (X := fun w _ => laidMetH Tryz.prog Rows.modelBackRow.laid w) false (World.laidAll Tryz.prog os Rows.modelBackRow.laid) #[.agg #[.slice none 0 0, .slice none 0 0]] 8 (World.laidAll_os _ _ _)
      (World.shaped_of_ZipB (by kernel_rfl) (by kernel_rfl)) (by kernel_rfl) (by kernel_rfl) (by kernel_rfl)
      (by rw [MakeChecks.laidMetH_plain _ _ _ (by kernel_rfl)]; exact laidMet_laidAll _ (by kernel_rfl) (by kernel_rfl))) ?_
  intro W base args ds gs before hval0 hW hcnd _ hL _
  have hval : ∀ (j : Nat) t v, Tryz.f6.params[j]? = some t → args[j]? = some v → Value.okWide Tryz.prog W .any base t v := hval0
  have hW' := hW
  obtain ⟨p, q, hA0, hV, rfl, hfz, hnd⟩ := hW
  have hA : DataW.TrodAll enc Tryz.prog W 0 (fun _ => true) true Tryz.f6.params.toList args.toList ds p := hA0
  rw [Tryz.params6] at hA hval
  obtain ⟨v0, vs0, d0, ds0, p0, q0, hargs, rfl, rfl, h0, r0⟩ := trodAll_cons hA
  obtain ⟨rfl, rfl, rfl⟩ := trodAll_nil r0
  obtain rfl : args = ⟨[v0]⟩ := by cases args; simp_all
  obtain ⟨rfl, rfl⟩ := trodVars_none hV
  obtain ⟨a0, e0, w0⟩ := Go.AM.dat_read (t := (.p (.sl (.int .i64)) (.sl (.p .str (.p (.int .i64) (.int .i64)))))) (T := 26) (.two Tryz.underlying26 rfl rfl (by kernel_rfl) (by kernel_rfl) (by kernel_rfl) (.sl Tryz.underlying23 (by kernel_rfl) (by decide) (.int Tryz.underlying3)) (.sl Tryz.underlying24 (by kernel_rfl) (by decide) (.three Tryz.underlying70 ⟨rfl, rfl, rfl⟩ ⟨by kernel_rfl, by kernel_rfl, by kernel_rfl⟩ (by kernel_rfl) (.str Tryz.underlying9) (.int Tryz.underlying3) (.int Tryz.underlying3)))) (hval 0 26 v0 rfl rfl) h0
  have hlt0 : ∀ x ∈ p0, x.block < W.heap.size := fun x hx => hW'.lt x (by simp [hx])
  clear hA0 hval0
  simp only [List.append_nil] at hW'
  refine (walk a0 w0 W (glo hL) v0 e0).mono fun e W' ⟨he, hg, hb⟩ => ?_
  subst he
  exact ⟨_, rfl, Go.AM.post_am (pa := (p0 ++ [])) (pv := []) hW' (trodAll_cons_mk (shut_bool Tryz.underlying4 _) trodAll_mk0) (trodAll_cons_mk (Below.trod laidOut (by kernel_rfl) (of_decide_eq_true (by kernel_rfl)) h0 hb hlt0) trodAll_mk0) rfl hg⟩

theorem k1 : Tryz.pinned.checked.prog.funcNamed Rows.modelBackRow.func = some 6 := by kernel_rfl
theorem k2 : joinedFacts Tryz.pinned.checked.prog 6 Tryz.f6 Rows.modelBackSpec Rows.modelBackRow = true := by kernel_rfl
theorem k3 : Tryz.f6.isInstance Tryz.pinned.checked.prog Rows.modelBackRow.origin Rows.modelBackRow.targs := of_decide_eq_true (by kernel_rfl)
theorem k4 : Tryz.f6.isWrapper Tryz.pinned.checked.prog Rows.modelBackRow.wrapper Rows.modelBackRow.mainSum := by
  unfold Func.isWrapper
  first | (rw [if_pos (by decide +kernel)]; kernel_rfl) | (rw [if_neg (by decide +kernel)]; exact ⟨rfl, rfl⟩)
theorem over : Rows.modelBackRow.holds Tryz.pinned (OpenSpec.ofChange Rows.modelBackSpec) :=
  OpenClaim.holds_of_wide 6 Tryz.f6 rfl rfl rfl rfl rfl rfl rfl ⟨rfl, rfl, rfl, rfl, rfl⟩ rfl rfl rfl rfl rfl k1 Tryz.func6 k2 k3 k4
    (fun os started H enc _ => lifted os started H enc)

theorem proved : Rows.ModelBackCardSaid :=
  Claim7.holds_tied_plain_at .later [] [.data, .data, .data, .data, .sentinel, .sentinel, .pinned] true (true, "b8e982d4ce3da68af1c51210c0d07e53579d69f721081c99176cbf7218593a65") true over (fun _ h => by cases h) (by kernel_rfl) (fun _ h => by cases h) modelBack_row_tie rfl ⟨rfl, rfl⟩ (by kernel_rfl) rfl
    (fun f fn hf hfn => by
      obtain rfl : f = 6 := Option.some.inj (k1.symm.trans hf) |>.symm
      obtain rfl : fn = Tryz.f6 := (Option.some.inj (Tryz.func6.symm.trans hfn)).symm
      exact ⟨by kernel_rfl, fun j t ht => by
        rw [Tryz.params6] at ht
        have hm : t ∈ [26] := by simpa using Array.mem_of_getElem? ht
        have hall : ([26].all fun u => !Tryz.prog.wantsStandIn u) = true := by kernel_rfl
        exact (show Tryz.prog.wantsStandIn t = false by simpa using List.all_eq_true.1 hall t hm)⟩)
    (by kernel_rfl)
#print axioms proved
end Go.Proofs.YtdnlicefpmiljaaGreatDoor.modelBack
