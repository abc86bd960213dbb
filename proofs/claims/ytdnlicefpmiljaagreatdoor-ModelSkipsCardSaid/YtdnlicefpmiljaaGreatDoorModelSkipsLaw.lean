/- The law ModelSkips of carousellaw12 holds of the program: every call of it, with any arguments, in any memory, returns true and leaves what was there as it was. No conditions. -/
import Derived.Test.YtdnlicefpmiljaaGreatDoorRows
import Derived.WalkKit
import Derived.ProofKit
import Derived.OpenShut
import Derived.LaidMore
import Derived.Lay
import Derived.SevenTiedAt
import Derived.Stop.Joined
import Derived.Test.YtdnlicefpmiljaaGreatDoorTie
import Derived.Test.YtdnlicefpmiljaaGreatDoorCards
import Derived.Test.YtdnlicefpmiljaaGreatDoorModelSkipsQ1
import Derived.Test.YtdnlicefpmiljaaGreatDoorModelSkipsQ0
import Derived.Test.YtdnlicefpmiljaaGreatDoorAmY
namespace Go.Proofs.YtdnlicefpmiljaaGreatDoor.modelSkips
open Go.ChangeShapes Go.WideShapes Go.ChangeAt Go.RowKit Go.AM
set_option linter.unusedVariables false
set_option maxRecDepth 1000000
theorem own : ownKnob Tryz.prog.godebug = none := by kernel_rfl
theorem laidOut : laidOutB Tryz.prog = true := by kernel_rfl
theorem plain0 (a0 : Ty.D (.sl (.int .i64))) (a1 : Ty.D (.int .i64)) (w0 : Ty.wf (.sl (.int .i64)) a0) (w1 : Ty.wf (.int .i64) a1) : C7.F (a0, a1) = some true := by
  have e : C7.F = fun x => f7 x.1 x.2 := by kernel_rfl
  rw [e]
  exact Cv.lawSkips a0 a1 (PlG.row_i64 w0)
theorem walk (a0 : Ty.D (.sl (.int .i64))) (a1 : Ty.D (.int .i64)) (w0 : Ty.wf (.sl (.int .i64)) a0) (w1 : Ty.wf (.int .i64) a1) (w : World) (v0 : Value) (r0 : (Pat.dat (.sl (.int .i64)) a0).reads w v0) (v1 : Value) (r1 : (Pat.dat (.int .i64) a1).reads w v1) : Calls Tryz.prog 7 ⟨[v0, v1]⟩ w fun e w' => e = .returned (.bool true) ∧ (∀ may, w.keptBut w' may) ∧ Below w.heap.size w w' :=
  Go.AM.law_walk C7_holds (x := (a0, a1)) (y := true) (plain0 a0 a1 w0 w1) rfl rfl rfl w [v0, v1] rfl (fun i p h => match i, h with
    | 0, h => ⟨v0, rfl, by obtain rfl : _ = p := Option.some.inj h; exact r0⟩
    | 1, h => ⟨v1, rfl, by obtain rfl : _ = p := Option.some.inj h; exact r1⟩
    | _ + 2, h => nomatch h)

theorem lifted (os : Os) (started : os.Started) (H : Type) (enc : TypeId × Value → H) :
    ReturnsInHanded {} Tryz.checked os 7 .any (fun w args => (Rows.modelSkipsSpec.pre enc Tryz.prog Tryz.f7 Rows.modelSkipsRow.domain false w args ∧ laidMetH Tryz.prog Rows.modelSkipsRow.laid w) ∧ sizedMet enc Tryz.prog Tryz.f7 (OpenSpec.ofChange Rows.modelSkipsSpec) false w args)
      (Rows.modelSkipsSpec.post enc Tryz.prog Tryz.f7 false true false false) := by
  refine returnsInHanded_of_change_and (C := Tryz.checked) (X := fun w _ => laidMetH Tryz.prog Rows.modelSkipsRow.laid w) (fun _ _ _ hh h => h.of_heap hh) own started (by kernel_rfl) Tryz.func7
    (ChangeSpec.witness_shaped (enc := enc) (C := Tryz.checked) (os := os) (X := fun w _ => laidMetH Tryz.prog Rows.modelSkipsRow.laid w) false (World.laidAll Tryz.prog os Rows.modelSkipsRow.laid) #[.slice none 0 0, .int .i64 0] 8 (World.laidAll_os _ _ _)
      (World.shaped_of_ZipB (by kernel_rfl) (by kernel_rfl)) (by kernel_rfl) (by kernel_rfl) (by kernel_rfl)
      (by rw [MakeChecks.laidMetH_plain _ _ _ (by kernel_rfl)]; exact laidMet_laidAll _ (by kernel_rfl) (by kernel_rfl))) ?_
  intro W base args ds gs before hval0 hW hcnd _ hL _
  have hval : ∀ (j : Nat) t v, Tryz.f7.params[j]? = some t → args[j]? = some v → Value.okWide Tryz.prog W .any base t v := hval0
  have hW' := hW
  obtain ⟨p, q, hA0, hV, rfl, hfz, hnd⟩ := hW
  have hA : DataW.TrodAll enc Tryz.prog W 0 (fun _ => true) true Tryz.f7.params.toList args.toList ds p := hA0
  rw [Tryz.params7] at hA hval
  obtain ⟨v0, vs0, d0, ds0, p0, q0, hargs, rfl, rfl, h0, r0⟩ := trodAll_cons hA
  obtain ⟨v1, vs1, d1, ds1, p1, q1, rfl, rfl, rfl, h1, r1⟩ := trodAll_cons r0
  obtain ⟨rfl, rfl, rfl⟩ := trodAll_nil r1
  obtain rfl : args = ⟨[v0, v1]⟩ := by cases args; simp_all
  obtain ⟨rfl, rfl⟩ := trodVars_none hV
  obtain ⟨a0, e0, w0⟩ := Go.AM.dat_read (t := (.sl (.int .i64))) (T := 45) (.sl Tryz.underlying45 (by kernel_rfl) (by decide) (.int Tryz.underlying57)) (hval 0 45 v0 rfl rfl) h0
  obtain ⟨a1, e1, w1⟩ := Go.AM.dat_read (t := (.int .i64)) (T := 3) (.int Tryz.underlying3) (hval 1 3 v1 rfl rfl) h1
  have hlt0 : ∀ x ∈ p0, x.block < W.heap.size := fun x hx => hW'.lt x (by simp [hx])
  have hlt1 : ∀ x ∈ p1, x.block < W.heap.size := fun x hx => hW'.lt x (by simp [hx])
  clear hA0 hval0
  simp only [List.append_nil] at hW'
  refine (walk a0 a1 w0 w1 W v0 e0 v1 e1).mono fun e W' ⟨he, hg, hb⟩ => ?_
  subst he
  exact ⟨_, rfl, Go.AM.post_am (pa := (p0 ++ (p1 ++ []))) (pv := []) hW' (trodAll_cons_mk (shut_bool Tryz.underlying4 _) trodAll_mk0) (trodAll_cons_mk (Below.trod laidOut (by kernel_rfl) (of_decide_eq_true (by kernel_rfl)) h0 hb hlt0) (trodAll_cons_mk (Below.trod laidOut (by kernel_rfl) (of_decide_eq_true (by kernel_rfl)) h1 hb hlt1) trodAll_mk0)) rfl hg⟩

theorem k1 : Tryz.pinned.checked.prog.funcNamed Rows.modelSkipsRow.func = some 7 := by kernel_rfl
theorem k2 : joinedFacts Tryz.pinned.checked.prog 7 Tryz.f7 Rows.modelSkipsSpec Rows.modelSkipsRow = true := by kernel_rfl
theorem k3 : Tryz.f7.isInstance Tryz.pinned.checked.prog Rows.modelSkipsRow.origin Rows.modelSkipsRow.targs := of_decide_eq_true (by kernel_rfl)
theorem k4 : Tryz.f7.isWrapper Tryz.pinned.checked.prog Rows.modelSkipsRow.wrapper Rows.modelSkipsRow.mainSum := by
  unfold Func.isWrapper
  first | (rw [if_pos (by decide +kernel)]; kernel_rfl) | (rw [if_neg (by decide +kernel)]; exact ⟨rfl, rfl⟩)
theorem over : Rows.modelSkipsRow.holds Tryz.pinned (OpenSpec.ofChange Rows.modelSkipsSpec) :=
  OpenClaim.holds_of_wide 7 Tryz.f7 rfl rfl rfl rfl rfl rfl rfl ⟨rfl, rfl, rfl, rfl, rfl⟩ rfl rfl rfl rfl rfl k1 Tryz.func7 k2 k3 k4
    (fun os started H enc _ => lifted os started H enc)

theorem proved : Rows.ModelSkipsCardSaid :=
  Claim7.holds_tied_plain_at .later [] [.data, .data, .data, .data, .sentinel, .sentinel, .pinned] true (true, "b8e982d4ce3da68af1c51210c0d07e53579d69f721081c99176cbf7218593a65") true over (fun _ h => by cases h) (by kernel_rfl) (fun _ h => by cases h) modelSkips_row_tie rfl ⟨rfl, rfl⟩ (by kernel_rfl) rfl
    (fun f fn hf hfn => by
      obtain rfl : f = 7 := Option.some.inj (k1.symm.trans hf) |>.symm
      obtain rfl : fn = Tryz.f7 := (Option.some.inj (Tryz.func7.symm.trans hfn)).symm
      exact ⟨by kernel_rfl, fun j t ht => by
        rw [Tryz.params7] at ht
        have hm : t ∈ [45, 3] := by simpa using Array.mem_of_getElem? ht
        have hall : ([45, 3].all fun u => !Tryz.prog.wantsStandIn u) = true := by kernel_rfl
        exact (show Tryz.prog.wantsStandIn t = false by simpa using List.all_eq_true.1 hall t hm)⟩)
    (by kernel_rfl)
#print axioms proved
end Go.Proofs.YtdnlicefpmiljaaGreatDoor.modelSkips
