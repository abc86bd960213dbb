import Derived.Test.YtdnlicefpmiljaaGreatDoorLay
set_option linter.unusedVariables false
set_option maxRecDepth 100000
set_option maxHeartbeats 8000000
namespace Go.Proofs
open Go.AM
-- carousel/model.Parse$1
def f32 (c : Int) : Option Bool :=
  bif (c == (32 : Int)) then
    some true
  else
    bif (c == (9 : Int)) then
      some true
    else
      some (c == (10 : Int))
def C32 : Con where
  X := Int
  Y := Bool
  e := 0
  args x := [.dat (.int .i32) x]
  hin x := []
  F x := f32 x
  ret y := [.dat .bool y]
  hout y := []
  nout := 0
theorem C32_vc (c : Int) (y : Bool) (hF : f32 c = some y) : vc Tryz.prog tab Tryz.f32.ntmps 0 (match Tryz.f32.body with | some c => c | none => .skip) (retK tab C32 Tryz.f32.results.toList y) (C32.shIn c).st := by
  unfold f32 at hF
  refine Or.inl ?_
  refine Or.inl ?_
  refine condN hF (fun hF => ?_) (fun hF => ?_)
  · refine gdYF ?_
    refine condF ?_
    refine condN hF (fun hF => ?_) (fun hF => ?_)
    · refine gdYF ?_
      refine condF ?_
      have hy := someE hF
      subst hy
      refine And.intro rfl (Exists.intro [] (Exists.intro [] (Exists.intro [] (Exists.intro [] (Exists.intro [] (And.intro rfl (And.intro rfl (And.intro trivial trivial))))))))
    · refine gdNF ?_
      refine condT ?_
      have hy := someE hF
      subst hy
      refine And.intro rfl (Exists.intro [] (Exists.intro [] (Exists.intro [] (Exists.intro [] (Exists.intro [] (And.intro rfl (And.intro rfl (And.intro trivial trivial))))))))
  · refine gdNF ?_
    refine condT ?_
    refine gdNF ?_
    refine gdNF ?_
    refine condT ?_
    have hy := someE hF
    subst hy
    refine And.intro rfl (Exists.intro [] (Exists.intro [] (Exists.intro [] (Exists.intro [] (Exists.intro [] (And.intro rfl (And.intro rfl (And.intro trivial trivial))))))))
theorem C32_holds : C32.Holds Tryz.prog 32 := holds_of_vc tab_ok mixed (fn := Tryz.f32) (by kernel_rfl) rfl C32 (fun x y hF => C32_vc x y hF)
theorem f32_in : ∃ fn, Tryz.prog.funcs[32]? = some fn ∧ fn.body.isSome = true ∧ (fn.name == "runtime.NumGoroutine") = false := ⟨Tryz.f32, by kernel_rfl, by kernel_rfl, by kernel_rfl⟩
end Go.Proofs
namespace Go.Proofs
open Go.AM
-- strings.FieldsFunc
def f31_32 (s : ByteArray) : Option (List ByteArray) :=
  fieldsF (fun x => (f32 x).getD false) s
def C31_32 : Con where
  X := ByteArray
  Y := List ByteArray
  e := 0
  args x := [.dat .str x, .raw false [.c (.func (.func 32) #[] #[])]]
  hin x := []
  F x := f31_32 x
  ret y := [.raw false [.osl 0]]
  hout y := [(0, .arr 9 .str y)]
  nout := 1
theorem C31_32_holds : C31_32.Holds Tryz.prog 31 := fields_holds Tryz.lays229 (fun x => (f32 x).getD false) (enters_in f32_in) C32_holds (by intro x; show f32 (x : Int) = some ((f32 (x : Int)).getD false); unfold f32; generalize (x : Int) = c; cases c == (32 : Int) <;> cases c == (9 : Int) <;> cases c == (10 : Int) <;> rfl) (by kernel_rfl) (by kernel_rfl)
theorem f31_32_in : ∃ fn, Tryz.prog.funcs[31]? = some fn ∧ fn.body.isSome = true ∧ (fn.name == "runtime.NumGoroutine") = false := ⟨Tryz.f31, by kernel_rfl, by kernel_rfl, by kernel_rfl⟩
end Go.Proofs
namespace Go.Proofs
open Go.AM
-- strings.Trim
def f113 (s : ByteArray) (c : ByteArray) : Option ByteArray :=
  trimF s c
def C113 : Con where
  X := ByteArray × ByteArray
  Y := ByteArray
  e := 0
  args x := [.dat .str x.1, .dat .str x.2]
  hin x := []
  F x := f113 x.1 x.2
  ret y := [.dat .str y]
  hout y := []
  nout := 0
theorem C113_holds : C113.Holds Tryz.prog 113 := trim_holds Tryz.lays160 (by kernel_rfl)
theorem f113_in : ∃ fn, Tryz.prog.funcs[113]? = some fn ∧ fn.body.isSome = true ∧ (fn.name == "runtime.NumGoroutine") = false := ⟨Tryz.f113, by kernel_rfl, by kernel_rfl, by kernel_rfl⟩
end Go.Proofs
namespace Go.Proofs
open Go.AM
-- strconv.Atoi
def f114 (s : ByteArray) : Option Int :=
  atoiF s
def C114 : Con where
  X := ByteArray
  Y := Int
  e := 0
  args x := [.dat .str x]
  hin x := []
  F x := f114 x
  ret y := [.dat (.int .i64) y, .raw false [.c .nilIface]]
  hout y := []
  nout := 0
theorem C114_holds : C114.Holds Tryz.prog 114 := atoi_holds Tryz.lays172
theorem f114_in : ∃ fn, Tryz.prog.funcs[114]? = some fn ∧ fn.body.isSome = true ∧ (fn.name == "runtime.NumGoroutine") = false := ⟨Tryz.f114, by kernel_rfl, by kernel_rfl, by kernel_rfl⟩
end Go.Proofs
namespace Go.Proofs
open Go.AM
-- carousel/model.number
def f87_j1 (s : ByteArray) : Option (Sum Unit Unit) :=
  bif (decide ((ByteArray.size s : Int) < (1 : Int))) then
    some (Sum.inr ())
  else
    bif (decide ((ByteArray.size s : Int) > (4 : Int))) then
      some (Sum.inr ())
    else
      bindF (f113 s (ByteArray.mk #[48, 49, 50, 51, 52, 53, 54, 55, 56, 57])) fun r3 =>
      bif (!(ByteArray.toList r3 == ByteArray.toList (ByteArray.mk #[]))) then
        some (Sum.inr ())
      else
        bif (decide ((ByteArray.size s : Int) > (1 : Int))) then
          guardF (0 ≤ (0 : Int) ∧ (0 : Int) < (ByteArray.size s : Int)) <|
          bif ((bt s (0 : Int)) == (48 : Int)) then
            some (Sum.inr ())
          else
            some (Sum.inl ())
        else
          some (Sum.inl ())
def f87 (s : ByteArray) : Option (Int × Bool) :=
  bindF (f87_j1 s) fun z2 =>
  sumF z2 (fun z2a =>
    bindF (f114 s) fun r4 =>
    some (r4, true)) (fun z2b =>
    some ((0 : Int), false))
def C87 : Con where
  X := ByteArray
  Y := Int × Bool
  e := 0
  args x := [.dat .str x]
  hin x := []
  F x := f87 x
  ret y := [.dat (.int .i64) y.1, .dat .bool y.2]
  hout y := []
  nout := 0
theorem C87_vc (s : ByteArray) (y : Int × Bool) (hF : f87 s = some y) : vc Tryz.prog tab Tryz.f87.ntmps 0 (match Tryz.f87.body with | some c => c | none => .skip) (retK tab C87 Tryz.f87.results.toList y) (C87.shIn s).st := by
  unfold f87 at hF
  refine Or.inl ?_
  obtain ⟨z2, hz2, hF⟩ := bindE hF
  refine Or.inr ⟨Sum.elim (fun z2a => [(0, ⟨[(0, .dat .str s)], [], 0⟩)]) (fun z2b => [(1, ⟨[(2, .dat (.int .i64) (0 : Int)), (3, .dat .bool false)], [], 0⟩)]) z2, ?_, ?_⟩
  · have hF := hz2
    clear hz2
    unfold f87_j1 at hF
    refine Or.inl ?_
    refine condN hF (fun hF => ?_) (fun hF => ?_)
    · refine gdYF ?_
      refine gdYF ?_
      refine condF ?_
      refine condN hF (fun hF => ?_) (fun hF => ?_)
      · refine gdYF ?_
        obtain ⟨r3, hr3, hF⟩ := bindE hF
        refine Or.inl (And.intro f113_in (callV0 (callI C113 (s, (ByteArray.mk #[48, 49, 50, 51, 52, 53, 54, 55, 56, 57])) r3 [] false C113_holds hr3 rfl rfl ?_)))
        refine (And.intro rfl (And.intro rfl (And.intro (fun h => nomatch h) (And.intro rfl (And.intro rfl (And.intro trivial (And.intro trivial ?_)))))))
        refine gdYF ?_
        refine condF ?_
        refine condN hF (fun hF => ?_) (fun hF => ?_)
        · refine gdYF ?_
          refine gdYF ?_
          refine gdYF ?_
          refine condI hF (fun hF => ?_) (fun hF => ?_)
          · refine gdYT ?_
            refine guardI hF (fun hF => ?_)
            refine gdYT ?_
            refine gdYF ?_
            refine condT ?_
            refine condF ?_
            refine condI hF (fun hF => ?_) (fun hF => ?_)
            · refine Or.inl ?_
              have hz := someE hF
              subst hz
              refine Exists.intro [] (Exists.intro [] (Exists.intro [] (Exists.intro [] (Exists.intro [] (And.intro rfl (And.intro rfl (And.intro rfl (And.intro trivial trivial))))))))
            · have hz := someE hF
              subst hz
              refine Exists.intro [] (Exists.intro [] (Exists.intro [] (Exists.intro [] (Exists.intro [] (And.intro rfl (And.intro rfl (And.intro trivial trivial)))))))
          · refine gdNT ?_
            refine gdNT ?_
            refine gdYF ?_
            refine condF ?_
            refine condF ?_
            refine condF ?_
            have hz := someE hF
            subst hz
            refine Exists.intro [] (Exists.intro [] (Exists.intro [] (Exists.intro [] (Exists.intro [] (And.intro rfl (And.intro rfl (And.intro trivial trivial)))))))
        · refine gdNF ?_
          refine gdNF ?_
          refine gdNF ?_
          refine gdNF ?_
          refine condT ?_
          refine condT ?_
          refine Or.inl ?_
          have hz := someE hF
          subst hz
          refine Exists.intro [] (Exists.intro [] (Exists.intro [] (Exists.intro [] (Exists.intro [] (And.intro rfl (And.intro rfl (And.intro rfl (And.intro trivial trivial))))))))
      · refine gdNF ?_
        refine gdNF ?_
        refine condT ?_
        refine gdNF ?_
        refine gdNF ?_
        refine gdNF ?_
        refine gdNF ?_
        refine gdNF ?_
        refine condT ?_
        refine condT ?_
        refine Or.inl ?_
        have hz := someE hF
        subst hz
        refine Exists.intro [] (Exists.intro [] (Exists.intro [] (Exists.intro [] (Exists.intro [] (And.intro rfl (And.intro rfl (And.intro rfl (And.intro trivial trivial))))))))
    · refine gdNF ?_
      refine gdNF ?_
      refine condT ?_
      refine gdNF ?_
      refine gdNF ?_
      refine gdNF ?_
      refine condT ?_
      refine gdNF ?_
      refine gdNF ?_
      refine gdNF ?_
      refine gdNF ?_
      refine gdNF ?_
      refine condT ?_
      refine condT ?_
      refine Or.inl ?_
      have hz := someE hF
      subst hz
      refine Exists.intro [] (Exists.intro [] (Exists.intro [] (Exists.intro [] (Exists.intro [] (And.intro rfl (And.intro rfl (And.intro rfl (And.intro trivial trivial))))))))
  · rcases z2 with z2a | z2b
    · dsimp only [sumF] at hF
      refine And.intro ?_ trivial
      refine Or.inl ?_
      obtain ⟨r4, hr4, hF⟩ := bindE hF
      refine Or.inl (And.intro f114_in (callV0 (callI C114 s r4 [] false C114_holds hr4 rfl rfl ?_)))
      refine (And.intro rfl (And.intro (fun h => nomatch h) (And.intro rfl (And.intro rfl (And.intro trivial (And.intro trivial ?_))))))
      refine Or.inl ?_
      refine Exists.intro (.take 0 (.take 1 (.take 2 (.take 3 (.take 4 .done))))) (Exists.intro [] (Exists.intro [] (And.intro rfl ?_)))
      have hy := someE hF
      subst hy
      refine And.intro rfl (Exists.intro [] (Exists.intro [] (Exists.intro [] (Exists.intro [] (Exists.intro [] (And.intro rfl (And.intro rfl (And.intro rfl (And.intro trivial trivial)))))))))
    · dsimp only [sumF] at hF
      refine And.intro ?_ trivial
      have hy := someE hF
      subst hy
      refine And.intro rfl (Exists.intro [] (Exists.intro [] (Exists.intro [] (Exists.intro [] (Exists.intro [] (And.intro rfl (And.intro rfl (And.intro rfl (And.intro trivial trivial)))))))))
theorem C87_holds : C87.Holds Tryz.prog 87 := holds_of_vc tab_ok mixed (fn := Tryz.f87) (by kernel_rfl) rfl C87 (fun x y hF => C87_vc x y hF)
theorem f87_in : ∃ fn, Tryz.prog.funcs[87]? = some fn ∧ fn.body.isSome = true ∧ (fn.name == "runtime.NumGoroutine") = false := ⟨Tryz.f87, by kernel_rfl, by kernel_rfl, by kernel_rfl⟩
end Go.Proofs
namespace Go.Proofs
open Go.AM
-- carousel/model.leading
def f58_l1 (go : ((List ByteArray) × (List Int)) → Option ((List ByteArray) × (List Int))) (w_2 : List ByteArray) (l0 : List Int) : Option ((List ByteArray) × (List Int)) :=
  bif (decide ((List.length w_2 : Int) > (0 : Int))) then
    guardF (0 ≤ (0 : Int) ∧ (0 : Int) < (List.length w_2 : Int)) <|
    bindF (f87 (rd (Ty.z .str) w_2 (0 : Int))) fun r4 =>
    bif (!r4.2) then
      some (w_2, l0)
    else
      guardF ((List.length l0 + List.length ([r4.1])) * 8 ≤ 140737488355328) <|
      guardF (0 ≤ (1 : Int) ∧ (1 : Int) ≤ (List.length w_2 : Int)) <|
      go ((List.drop (Int.toNat (1 : Int)) w_2), (l0 ++ ([r4.1])))
  else
    some (w_2, l0)
def f58 (w : List ByteArray) : Option ((List ByteArray) × (List Int)) :=
  bindF (loopF (fun go x => f58_l1 go x.1 x.2) fuelN (w, [])) fun z3 =>
  some (z3.1, z3.2)
def C58 : Con where
  X := List ByteArray
  Y := (List ByteArray) × (List Int)
  e := 0
  args x := [.dat (.sl .str) x]
  hin x := []
  F x := f58 x
  ret y := [.raw false [(.osl 0)], .dat (.sl .str) y.1]
  hout y := [(0, .arr 3 (.int .i64) y.2)]
  nout := 1
theorem C58_vc (w : List ByteArray) (y : (List ByteArray) × (List Int)) (hF : f58 w = some y) : vc Tryz.prog tab Tryz.f58.ntmps 0 (match Tryz.f58.body with | some c => c | none => .skip) (retK tab C58 Tryz.f58.results.toList y) (C58.shIn w).st := by
  unfold f58 at hF
  refine Or.inl ?_
  refine Or.inl ?_
  refine Or.inl ?_
  obtain ⟨z3, hz3, hF⟩ := bindE hF
  refine loopI ((List ByteArray) × (List Int)) ((List ByteArray) × (List Int)) (fun x => ⟨[(0, .dat (.sl .str) x.1), (4, .raw false [(.osl 0)])], [(0, .arr 3 (.int .i64) x.2)], 1⟩) (fun z => [(2, ⟨[(0, .dat (.sl .str) z.1), (4, .raw false [(.osl 0)])], [(0, .arr 3 (.int .i64) z.2)], 1⟩)]) (loopF (fun go x => f58_l1 go x.1 x.2)) fuelN (w, []) z3 (And.intro hz3 (And.intro (Exists.intro [] (Exists.intro [] (Exists.intro [] (Exists.intro [] (Exists.intro [(0, none)] (And.intro rfl (And.intro rfl (And.intro (And.intro rfl trivial) (And.intro rfl trivial))))))))) (And.intro (fun _ _ h => loopZ h) (And.intro (fun m => curI (fun w_2 => fun l0 z hF => ?_)) ?_))))
  · have hF : f58_l1 (loopF (fun go x => f58_l1 go x.1 x.2) m) w_2 l0 = some z := hF
    unfold f58_l1 at hF
    refine Or.inl ?_
    refine Or.inl ?_
    refine condI hF (fun hF => ?_) (fun hF => ?_)
    · refine Or.inl ?_
      refine guardI hF (fun hF => ?_)
      obtain ⟨r4, hr4, hF⟩ := bindE hF
      refine Or.inl (And.intro f87_in (callV0 (callI C87 (rd (Ty.z .str) w_2 (0 : Int)) r4 [] false C87_holds hr4 rfl rfl ?_)))
      refine (And.intro rfl (And.intro (fun h => nomatch h) (And.intro rfl (And.intro rfl (And.intro trivial (And.intro trivial ?_))))))
      refine Or.inl ?_
      refine Or.inl ?_
      refine condI hF (fun hF => ?_) (fun hF => ?_)
      · have hz := someE hF
        subst hz
        refine Exists.intro [] (Exists.intro [] (Exists.intro [] (Exists.intro [] (Exists.intro [(0, some 0)] (And.intro rfl (And.intro rfl (And.intro (And.intro rfl trivial) (And.intro rfl trivial))))))))
      · refine Or.inl ?_
        refine Or.inl ?_
        refine Or.inl ?_
        refine guardI hF (fun hF => ?_)
        refine guardI hF (fun hF => ?_)
        refine Exists.intro ((List.drop (Int.toNat (1 : Int)) w_2), (l0 ++ ([r4.1]))) (And.intro hF (Exists.intro [] (Exists.intro [] (Exists.intro [] (Exists.intro [] (Exists.intro [(0, some 2)] (And.intro rfl (And.intro rfl (And.intro (And.intro rfl trivial) (And.intro rfl trivial))))))))))
    · have hz := someE hF
      subst hz
      refine Exists.intro [] (Exists.intro [] (Exists.intro [] (Exists.intro [] (Exists.intro [(0, some 0)] (And.intro rfl (And.intro rfl (And.intro (And.intro rfl trivial) (And.intro rfl trivial))))))))
  · refine And.intro ?_ trivial
    refine Or.inl ?_
    have hy := someE hF
    subst hy
    refine And.intro rfl (Exists.intro [] (Exists.intro [] (Exists.intro [] (Exists.intro [] (Exists.intro [(0, some 0)] (And.intro rfl (And.intro rfl (And.intro (And.intro rfl trivial) (And.intro rfl trivial)))))))))
theorem C58_holds : C58.Holds Tryz.prog 58 := holds_of_vc tab_ok mixed (fn := Tryz.f58) (by kernel_rfl) rfl C58 (fun x y hF => C58_vc x y hF)
theorem f58_in : ∃ fn, Tryz.prog.funcs[58]? = some fn ∧ fn.body.isSome = true ∧ (fn.name == "runtime.NumGoroutine") = false := ⟨Tryz.f58, by kernel_rfl, by kernel_rfl, by kernel_rfl⟩
end Go.Proofs
namespace Go.Proofs
open Go.AM
-- carousel/model.counts
def f38_j1 (kind : ByteArray) : Option Bool :=
  bif (ByteArray.toList kind == ByteArray.toList (ByteArray.mk #[100, 101, 110, 115, 101])) then
    some (ByteArray.toList kind == ByteArray.toList (ByteArray.mk #[100, 101, 110, 115, 101]))
  else
    bif (ByteArray.toList kind == ByteArray.toList (ByteArray.mk #[112, 111, 111, 108])) then
      some (ByteArray.toList kind == ByteArray.toList (ByteArray.mk #[112, 111, 111, 108]))
    else
      some (ByteArray.toList kind == ByteArray.toList (ByteArray.mk #[98, 101, 110, 100]))
def f38 (kind : ByteArray) : Option Int :=
  bindF (f38_j1 kind) fun z1 =>
  bif z1 then
    some (1 : Int)
  else
    bif (ByteArray.toList kind == ByteArray.toList (ByteArray.mk #[99, 111, 110, 118])) then
      some (2 : Int)
    else
      bif (ByteArray.toList kind == ByteArray.toList (ByteArray.mk #[115, 107, 105, 112])) then
        some (0 : Int)
      else
        some (-1 : Int)
def C38 : Con where
  X := ByteArray
  Y := Int
  e := 0
  args x := [.dat .str x]
  hin x := []
  F x := f38 x
  ret y := [.dat (.int .i64) y]
  hout y := []
  nout := 0
theorem C38_vc (kind : ByteArray) (y : Int) (hF : f38 kind = some y) : vc Tryz.prog tab Tryz.f38.ntmps 0 (match Tryz.f38.body with | some c => c | none => .skip) (retK tab C38 Tryz.f38.results.toList y) (C38.shIn kind).st := by
  unfold f38 at hF
  refine Or.inl ?_
  refine Or.inl ?_
  refine Or.inl ?_
  obtain ⟨z1, hz1, hF⟩ := bindE hF
  refine Or.inr ⟨[(0, ⟨[(3, .dat .str kind), (4, .dat .bool z1)], [], 0⟩)], ?_, ?_⟩
  · have hF := hz1
    clear hz1
    unfold f38_j1 at hF
    refine Or.inl ?_
    refine condI hF (fun hF => ?_) (fun hF => ?_)
    · have hz := someE hF
      subst hz
      refine Exists.intro [] (Exists.intro [] (Exists.intro [] (Exists.intro [] (Exists.intro [] (And.intro rfl (And.intro rfl (And.intro rfl (And.intro trivial trivial))))))))
    · refine Or.inl ?_
      refine condI hF (fun hF => ?_) (fun hF => ?_)
      · have hz := someE hF
        subst hz
        refine Exists.intro [] (Exists.intro [] (Exists.intro [] (Exists.intro [] (Exists.intro [] (And.intro rfl (And.intro rfl (And.intro rfl (And.intro trivial trivial))))))))
      · have hz := someE hF
        subst hz
        refine Exists.intro [] (Exists.intro [] (Exists.intro [] (Exists.intro [] (Exists.intro [] (And.intro rfl (And.intro rfl (And.intro rfl (And.intro trivial trivial))))))))
  · refine And.intro ?_ trivial
    refine condI hF (fun hF => ?_) (fun hF => ?_)
    · refine Or.inl ?_
      have hy := someE hF
      subst hy
      refine And.intro rfl (Exists.intro [] (Exists.intro [] (Exists.intro [] (Exists.intro [] (Exists.intro [] (And.intro rfl (And.intro rfl (And.intro trivial trivial))))))))
    · refine Or.inl ?_
      refine condI hF (fun hF => ?_) (fun hF => ?_)
      · refine Or.inl ?_
        have hy := someE hF
        subst hy
        refine And.intro rfl (Exists.intro [] (Exists.intro [] (Exists.intro [] (Exists.intro [] (Exists.intro [] (And.intro rfl (And.intro rfl (And.intro trivial trivial))))))))
      · refine Or.inl ?_
        refine condI hF (fun hF => ?_) (fun hF => ?_)
        · refine Or.inl ?_
          have hy := someE hF
          subst hy
          refine And.intro rfl (Exists.intro [] (Exists.intro [] (Exists.intro [] (Exists.intro [] (Exists.intro [] (And.intro rfl (And.intro rfl (And.intro trivial trivial))))))))
        · refine Or.inl ?_
          have hy := someE hF
          subst hy
          refine And.intro rfl (Exists.intro [] (Exists.intro [] (Exists.intro [] (Exists.intro [] (Exists.intro [] (And.intro rfl (And.intro rfl (And.intro trivial trivial))))))))
theorem C38_holds : C38.Holds Tryz.prog 38 := holds_of_vc tab_ok mixed (fn := Tryz.f38) (by kernel_rfl) rfl C38 (fun x y hF => C38_vc x y hF)
theorem f38_in : ∃ fn, Tryz.prog.funcs[38]? = some fn ∧ fn.body.isSome = true ∧ (fn.name == "runtime.NumGoroutine") = false := ⟨Tryz.f38, by kernel_rfl, by kernel_rfl, by kernel_rfl⟩
end Go.Proofs
namespace Go.Proofs
open Go.AM
-- carousel/model.read
def f33_j3 (w : List ByteArray) : Option Bool :=
  bif ((List.length w : Int) == (0 : Int)) then
    some true
  else
    guardF (0 ≤ (0 : Int) ∧ (0 : Int) < (List.length w : Int)) <|
    some (!(ByteArray.toList (rd (Ty.z .str) w (0 : Int)) == ByteArray.toList (ByteArray.mk #[105, 110])))
def f33_j2 (w : List ByteArray) : Option (Sum Unit Unit) :=
  bindF (f33_j3 w) fun z3 =>
  bif z3 then
    some (Sum.inr ())
  else
    some (Sum.inl ())
def f33_j6 (r4 : (List ByteArray) × (List Int)) : Option Bool :=
  bif (decide ((List.length r4.2 : Int) < (1 : Int))) then
    some true
  else
    some (decide ((List.length r4.2 : Int) > (2 : Int)))
def f33_j5 (r4 : (List ByteArray) × (List Int)) : Option (Sum Unit Unit) :=
  bindF (f33_j6 r4) fun z7 =>
  bif z7 then
    some (Sum.inr ())
  else
    some (Sum.inl ())
def f33_l7 (go : ((List ByteArray) × (List (ByteArray × Int × Int))) → Option (Sum Unit (List (ByteArray × Int × Int)))) (w_2 : List ByteArray) (l3 : List (ByteArray × Int × Int)) : Option (Sum Unit (List (ByteArray × Int × Int))) :=
  bif (decide ((List.length w_2 : Int) > (0 : Int))) then
    guardF (0 ≤ (0 : Int) ∧ (0 : Int) < (List.length w_2 : Int)) <|
    guardF (0 ≤ (1 : Int) ∧ (1 : Int) ≤ (List.length w_2 : Int)) <|
    bindF (f58 (List.drop (Int.toNat (1 : Int)) w_2)) fun r13 =>
    bindF (f38 (rd (Ty.z .str) w_2 (0 : Int))) fun r14 =>
    bif ((List.length r13.2 : Int) != r14) then
      some (Sum.inl ())
    else
      guardF ((List.length r13.2 + List.length ([(0 : Int), (0 : Int)])) * 8 ≤ 140737488355328) <|
      guardF (0 ≤ (0 : Int) ∧ (0 : Int) < (List.length (r13.2 ++ ([(0 : Int), (0 : Int)])) : Int)) <|
      guardF (0 ≤ (1 : Int) ∧ (1 : Int) < (List.length (r13.2 ++ ([(0 : Int), (0 : Int)])) : Int)) <|
      guardF ((List.length l3 + List.length ([((rd (Ty.z .str) w_2 (0 : Int)), (rd (0 : Int) (r13.2 ++ ([(0 : Int), (0 : Int)])) (0 : Int)), (rd (0 : Int) (r13.2 ++ ([(0 : Int), (0 : Int)])) (1 : Int)))])) * 32 ≤ 140737488355328) <|
      go (r13.1, (l3 ++ ([((rd (Ty.z .str) w_2 (0 : Int)), (rd (0 : Int) (r13.2 ++ ([(0 : Int), (0 : Int)])) (0 : Int)), (rd (0 : Int) (r13.2 ++ ([(0 : Int), (0 : Int)])) (1 : Int)))])))
  else
    some (Sum.inr l3)
def f33 (w : List ByteArray) : Option (Bool × (List Int) × (List (ByteArray × Int × Int))) :=
  bindF (f33_j2 w) fun z2 =>
  sumF z2 (fun z2a =>
    guardF (0 ≤ (1 : Int) ∧ (1 : Int) ≤ (List.length w : Int)) <|
    bindF (f58 (List.drop (Int.toNat (1 : Int)) w)) fun r4 =>
    bindF (f33_j5 r4) fun z6 =>
    sumF z6 (fun z6a =>
      bindF (loopF (fun go x => f33_l7 go x.1 x.2) fuelN (r4.1, [])) fun z12 =>
      sumF z12 (fun z12a =>
        some (false, [], [])) (fun z12b =>
        some (true, r4.2, z12b))) (fun z6b =>
      some (false, [], []))) (fun z2b =>
    some (false, [], []))
def C33 : Con where
  X := List ByteArray
  Y := Bool × (List Int) × (List (ByteArray × Int × Int))
  e := 0
  args x := [.dat (.sl .str) x]
  hin x := []
  F x := f33 x
  ret y := [.raw true [(.osl 0), (.osl 1)], .dat .bool y.1]
  hout y := [(0, .arr 3 (.int .i64) y.2.1), (1, .arr 70 (.p .str (.p (.int .i64) (.int .i64))) y.2.2)]
  nout := 2
theorem C33_vc (w : List ByteArray) (y : Bool × (List Int) × (List (ByteArray × Int × Int))) (hF : f33 w = some y) : vc Tryz.prog tab Tryz.f33.ntmps 0 (match Tryz.f33.body with | some c => c | none => .skip) (retK tab C33 Tryz.f33.results.toList y) (C33.shIn w).st := by
  unfold f33 at hF
  refine Or.inl ?_
  obtain ⟨z2, hz2, hF⟩ := bindE hF
  refine Or.inr ⟨Sum.elim (fun z2a => [(0, ⟨[(0, .dat (.sl .str) w), (2, .raw false [(.ptr 0 0)])], [(0, .cells [(.c (.slice none 0 0)), (.c (.slice none 0 0))])], 1⟩)]) (fun z2b => [(1, ⟨[(2, .raw false [(.ptr 0 0)]), (3, .dat .bool false)], [(0, .cells [(.c (.slice none 0 0)), (.c (.slice none 0 0))])], 1⟩)]) z2, ?_, ?_⟩
  · have hF := hz2
    clear hz2
    unfold f33_j2 at hF
    obtain ⟨z3, hz3, hF⟩ := bindE hF
    refine Or.inr ⟨[(0, ⟨[(0, .dat (.sl .str) w), (2, .raw false [(.ptr 0 0)]), (16, .dat .bool z3)], [(0, .cells [(.c (.slice none 0 0)), (.c (.slice none 0 0))])], 1⟩)], ?_, ?_⟩
    · have hF := hz3
      clear hz3
      unfold f33_j3 at hF
      refine condN hF (fun hF => ?_) (fun hF => ?_)
      · refine gdYF ?_
        refine guardI hF (fun hF => ?_)
        refine gdYF ?_
        refine gdYF ?_
        refine condF ?_
        have hz := someE hF
        subst hz
        refine Exists.intro [] (Exists.intro [] (Exists.intro [] (Exists.intro [] (Exists.intro [(0, some 0)] (And.intro rfl (And.intro rfl (And.intro rfl (And.intro (And.intro rfl trivial) (And.intro rfl trivial)))))))))
      · refine gdNF ?_
        refine gdNF ?_
        refine gdNF ?_
        refine condT ?_
        have hz := someE hF
        subst hz
        refine Exists.intro [] (Exists.intro [] (Exists.intro [] (Exists.intro [] (Exists.intro [(0, some 0)] (And.intro rfl (And.intro rfl (And.intro rfl (And.intro (And.intro rfl trivial) (And.intro rfl trivial)))))))))
    · refine And.intro ?_ trivial
      refine condI hF (fun hF => ?_) (fun hF => ?_)
      · refine Or.inl ?_
        refine Or.inl ?_
        have hz := someE hF
        subst hz
        refine Exists.intro [] (Exists.intro [] (Exists.intro [] (Exists.intro [] (Exists.intro [(0, some 0)] (And.intro rfl (And.intro rfl (And.intro (And.intro rfl trivial) (And.intro rfl trivial))))))))
      · have hz := someE hF
        subst hz
        refine Exists.intro [] (Exists.intro [] (Exists.intro [] (Exists.intro [] (Exists.intro [(0, some 0)] (And.intro rfl (And.intro rfl (And.intro (And.intro rfl trivial) (And.intro rfl trivial))))))))
  · rcases z2 with z2a | z2b
    · dsimp only [sumF] at hF
      refine And.intro ?_ trivial
      refine Or.inl ?_
      refine guardI hF (fun hF => ?_)
      obtain ⟨r4, hr4, hF⟩ := bindE hF
      refine Or.inl (And.intro f58_in (callV0 (callI C58 (List.drop (Int.toNat (1 : Int)) w) r4 [] false C58_holds hr4 rfl rfl ?_)))
      refine (And.intro rfl (And.intro (fun h => nomatch h) (And.intro rfl (And.intro rfl (And.intro trivial (And.intro trivial ?_))))))
      refine Or.inl ?_
      refine Or.inl ?_
      obtain ⟨z6, hz6, hF⟩ := bindE hF
      refine Or.inr ⟨Sum.elim (fun z6a => [(0, ⟨[(0, .dat (.sl .str) r4.1), (2, .raw false [(.ptr 0 0)]), (5, .raw false [(.ptr 1 0)])], [(0, .cells [(.c (.slice none 0 0)), (.c (.slice none 0 0))]), (1, .cells [(.osl 2), (.c (.slice none 0 0))]), (2, .arr 3 (.int .i64) r4.2)], 3⟩)]) (fun z6b => [(1, ⟨[(2, .raw false [(.ptr 0 0)]), (3, .dat .bool false)], [(0, .cells [(.c (.slice none 0 0)), (.c (.slice none 0 0))])], 1⟩)]) z6, ?_, ?_⟩
      · have hF := hz6
        clear hz6
        unfold f33_j5 at hF
        obtain ⟨z7, hz7, hF⟩ := bindE hF
        refine Or.inr ⟨[(0, ⟨[(0, .dat (.sl .str) r4.1), (2, .raw false [(.ptr 0 0)]), (5, .raw false [(.ptr 1 0)]), (33, .dat .bool z7)], [(0, .cells [(.c (.slice none 0 0)), (.c (.slice none 0 0))]), (1, .cells [(.osl 2), (.c (.slice none 0 0))]), (2, .arr 3 (.int .i64) r4.2)], 3⟩)], ?_, ?_⟩
        · have hF := hz7
          clear hz7
          unfold f33_j6 at hF
          refine condN hF (fun hF => ?_) (fun hF => ?_)
          · refine gdYF ?_
            refine gdYF ?_
            refine condF ?_
            have hz := someE hF
            subst hz
            refine Exists.intro [] (Exists.intro [] (Exists.intro [] (Exists.intro [] (Exists.intro [(0, some 0), (1, some 2), (2, some 1)] (And.intro rfl (And.intro rfl (And.intro rfl (And.intro (And.intro rfl (And.intro rfl trivial)) (And.intro rfl (And.intro rfl (And.intro rfl trivial)))))))))))
          · refine gdNF ?_
            refine gdNF ?_
            refine condT ?_
            have hz := someE hF
            subst hz
            refine Exists.intro [] (Exists.intro [] (Exists.intro [] (Exists.intro [] (Exists.intro [(0, some 0), (1, some 2), (2, some 1)] (And.intro rfl (And.intro rfl (And.intro rfl (And.intro (And.intro rfl (And.intro rfl trivial)) (And.intro rfl (And.intro rfl (And.intro rfl trivial)))))))))))
        · refine And.intro ?_ trivial
          refine condI hF (fun hF => ?_) (fun hF => ?_)
          · refine Or.inl ?_
            refine Or.inl ?_
            have hz := someE hF
            subst hz
            refine Exists.intro [] (Exists.intro [] (Exists.intro [] (Exists.intro [] (Exists.intro [(0, some 0)] (And.intro rfl (And.intro rfl (And.intro (And.intro rfl trivial) (And.intro rfl trivial))))))))
          · have hz := someE hF
            subst hz
            refine Exists.intro [] (Exists.intro [] (Exists.intro [] (Exists.intro [] (Exists.intro [(0, some 0), (1, some 1), (2, some 2)] (And.intro rfl (And.intro rfl (And.intro (And.intro rfl (And.intro rfl trivial)) (And.intro rfl (And.intro rfl (And.intro rfl trivial))))))))))
      · rcases z6 with z6a | z6b
        · dsimp only [sumF] at hF
          refine And.intro ?_ trivial
          refine Or.inl ?_
          obtain ⟨z12, hz12, hF⟩ := bindE hF
          refine loopI ((List ByteArray) × (List (ByteArray × Int × Int))) (Sum Unit (List (ByteArray × Int × Int))) (fun x => ⟨[(0, .dat (.sl .str) x.1), (2, .raw false [(.ptr 0 0)]), (5, .raw false [(.ptr 1 0)])], [(0, .cells [(.c (.slice none 0 0)), (.c (.slice none 0 0))]), (1, .cells [(.osl 2), (.osl 3)]), (2, .arr 3 (.int .i64) r4.2), (3, .arr 70 (.p .str (.p (.int .i64) (.int .i64))) x.2)], 4⟩) (fun z => Sum.elim (fun za => [(1, ⟨[(2, .raw false [(.ptr 0 0)]), (3, .dat .bool false)], [(0, .cells [(.c (.slice none 0 0)), (.c (.slice none 0 0))])], 1⟩)]) (fun zb => [(2, ⟨[(2, .raw false [(.ptr 0 0)]), (5, .raw false [(.ptr 1 0)])], [(0, .cells [(.c (.slice none 0 0)), (.c (.slice none 0 0))]), (1, .cells [(.osl 2), (.osl 3)]), (2, .arr 3 (.int .i64) r4.2), (3, .arr 70 (.p .str (.p (.int .i64) (.int .i64))) zb)], 4⟩)]) z) (loopF (fun go x => f33_l7 go x.1 x.2)) fuelN (r4.1, []) z12 (And.intro hz12 (And.intro (Exists.intro [] (Exists.intro [] (Exists.intro [] (Exists.intro [] (Exists.intro [(0, some 0), (1, some 1), (2, some 2), (3, none)] (And.intro rfl (And.intro rfl (And.intro (And.intro rfl (And.intro rfl trivial)) (And.intro rfl (And.intro rfl (And.intro rfl (And.intro rfl trivial)))))))))))) (And.intro (fun _ _ h => loopZ h) (And.intro (fun m => curI (fun w_2 => fun l3 z hF => ?_)) ?_))))
          · have hF : f33_l7 (loopF (fun go x => f33_l7 go x.1 x.2) m) w_2 l3 = some z := hF
            unfold f33_l7 at hF
            refine Or.inl ?_
            refine Or.inl ?_
            refine condI hF (fun hF => ?_) (fun hF => ?_)
            · refine Or.inl ?_
              refine guardI hF (fun hF => ?_)
              refine Or.inl ?_
              refine Or.inl ?_
              refine guardI hF (fun hF => ?_)
              obtain ⟨r13, hr13, hF⟩ := bindE hF
              refine Or.inl (And.intro f58_in (callV0 (callI C58 (List.drop (Int.toNat (1 : Int)) w_2) r13 [] false C58_holds hr13 rfl rfl ?_)))
              refine (And.intro rfl (And.intro (fun h => nomatch h) (And.intro rfl (And.intro rfl (And.intro trivial (And.intro trivial ?_))))))
              refine Or.inl ?_
              refine Or.inl ?_
              obtain ⟨r14, hr14, hF⟩ := bindE hF
              refine Or.inl (And.intro f38_in (callV0 (callI C38 (rd (Ty.z .str) w_2 (0 : Int)) r14 [] false C38_holds hr14 rfl rfl ?_)))
              refine (And.intro rfl (And.intro (fun h => nomatch h) (And.intro rfl (And.intro rfl (And.intro trivial (And.intro trivial ?_))))))
              refine condI hF (fun hF => ?_) (fun hF => ?_)
              · refine Or.inl ?_
                refine Or.inl ?_
                have hz := someE hF
                subst hz
                refine Exists.intro [] (Exists.intro [] (Exists.intro [] (Exists.intro [] (Exists.intro [(0, some 0)] (And.intro rfl (And.intro rfl (And.intro (And.intro rfl trivial) (And.intro rfl trivial))))))))
              · refine Or.inl ?_
                refine Or.inl ?_
                refine Or.inl ?_
                refine guardI hF (fun hF => ?_)
                refine Exists.intro (.take 0 (.take 1 (.take 2 (.take 3 (.take 4 (.take 5 (.take 6 (.take 7 (.take 8 (.take 9 (.alt 10 (.alt 11 (.take 12 (.alt 13 .done .done)) .done) .done))))))))))) (Exists.intro [(13, [1])] (Exists.intro [] (And.intro rfl ?_)))
                refine guardI hF (fun hF => ?_)
                refine guardI hF (fun hF => ?_)
                refine And.intro trivial ?_
                refine Or.inl ?_
                refine And.intro trivial ?_
                refine Or.inl ?_
                refine guardI hF (fun hF => ?_)
                refine And.intro trivial ?_
                refine Or.inl ?_
                refine Exists.intro (r13.1, (l3 ++ ([((rd (Ty.z .str) w_2 (0 : Int)), (rd (0 : Int) (r13.2 ++ ([(0 : Int), (0 : Int)])) (0 : Int)), (rd (0 : Int) (r13.2 ++ ([(0 : Int), (0 : Int)])) (1 : Int)))]))) (And.intro hF (Exists.intro [] (Exists.intro [] (Exists.intro [] (Exists.intro [] (Exists.intro [(0, some 0), (1, some 1), (2, some 2), (3, some 8)] (And.intro rfl (And.intro rfl (And.intro (And.intro rfl (And.intro rfl trivial)) (And.intro rfl (And.intro rfl (And.intro rfl (And.intro rfl trivial)))))))))))))
            · have hz := someE hF
              subst hz
              refine Exists.intro [] (Exists.intro [] (Exists.intro [] (Exists.intro [] (Exists.intro [(0, some 0), (1, some 1), (2, some 2), (3, some 3)] (And.intro rfl (And.intro (And.intro rfl (And.intro rfl trivial)) (And.intro rfl (And.intro rfl (And.intro rfl (And.intro rfl trivial))))))))))
          · rcases z12 with z12a | z12b
            · dsimp only [sumF] at hF
              refine And.intro ?_ trivial
              have hy := someE hF
              subst hy
              refine And.intro rfl (Exists.intro [] (Exists.intro [] (Exists.intro [] (Exists.intro [] (Exists.intro [(0, none), (1, none)] (And.intro rfl (And.intro rfl (And.intro (And.intro rfl trivial) (And.intro rfl (And.intro rfl trivial))))))))))
            · dsimp only [sumF] at hF
              refine And.intro ?_ trivial
              refine Or.inl ?_
              refine Or.inl ?_
              have hy := someE hF
              subst hy
              refine And.intro rfl (Exists.intro [] (Exists.intro [] (Exists.intro [] (Exists.intro [] (Exists.intro [(0, some 2), (1, some 3)] (And.intro rfl (And.intro rfl (And.intro (And.intro rfl trivial) (And.intro rfl (And.intro rfl trivial))))))))))
        · dsimp only [sumF] at hF
          refine And.intro ?_ trivial
          have hy := someE hF
          subst hy
          refine And.intro rfl (Exists.intro [] (Exists.intro [] (Exists.intro [] (Exists.intro [] (Exists.intro [(0, none), (1, none)] (And.intro rfl (And.intro rfl (And.intro (And.intro rfl trivial) (And.intro rfl (And.intro rfl trivial))))))))))
    · dsimp only [sumF] at hF
      refine And.intro ?_ trivial
      have hy := someE hF
      subst hy
      refine And.intro rfl (Exists.intro [] (Exists.intro [] (Exists.intro [] (Exists.intro [] (Exists.intro [(0, none), (1, none)] (And.intro rfl (And.intro rfl (And.intro (And.intro rfl trivial) (And.intro rfl (And.intro rfl trivial))))))))))
theorem C33_holds : C33.Holds Tryz.prog 33 := holds_of_vc tab_ok mixed (fn := Tryz.f33) (by kernel_rfl) rfl C33 (fun x y hF => C33_vc x y hF)
theorem f33_in : ∃ fn, Tryz.prog.funcs[33]? = some fn ∧ fn.body.isSome = true ∧ (fn.name == "runtime.NumGoroutine") = false := ⟨Tryz.f33, by kernel_rfl, by kernel_rfl, by kernel_rfl⟩
end Go.Proofs
namespace Go.Proofs
open Go.AM
-- carousel/model.within
def f60 (v : Int) (most : Int) : Option Bool :=
  bif (decide (v ≥ (1 : Int))) then
    some (decide (v ≤ most))
  else
    some false
def C60 : Con where
  X := Int × Int
  Y := Bool
  e := 0
  args x := [.dat (.int .i64) x.1, .dat (.int .i64) x.2]
  hin x := []
  F x := f60 x.1 x.2
  ret y := [.dat .bool y]
  hout y := []
  nout := 0
theorem C60_vc (v : Int) (most : Int) (y : Bool) (hF : f60 v most = some y) : vc Tryz.prog tab Tryz.f60.ntmps 0 (match Tryz.f60.body with | some c => c | none => .skip) (retK tab C60 Tryz.f60.results.toList y) (C60.shIn (v, most)).st := by
  unfold f60 at hF
  refine Or.inl ?_
  refine Or.inl ?_
  refine condI hF (fun hF => ?_) (fun hF => ?_)
  · refine gdYT ?_
    refine gdYT ?_
    refine condT ?_
    have hy := someE hF
    subst hy
    refine And.intro rfl (Exists.intro [] (Exists.intro [] (Exists.intro [] (Exists.intro [] (Exists.intro [] (And.intro rfl (And.intro rfl (And.intro trivial trivial))))))))
  · refine gdNT ?_
    refine gdNT ?_
    refine condF ?_
    have hy := someE hF
    subst hy
    refine And.intro rfl (Exists.intro [] (Exists.intro [] (Exists.intro [] (Exists.intro [] (Exists.intro [] (And.intro rfl (And.intro rfl (And.intro trivial trivial))))))))
theorem C60_holds : C60.Holds Tryz.prog 60 := holds_of_vc tab_ok mixed (fn := Tryz.f60) (by kernel_rfl) rfl C60 (fun x y hF => C60_vc x.1 x.2 y hF)
theorem f60_in : ∃ fn, Tryz.prog.funcs[60]? = some fn ∧ fn.body.isSome = true ∧ (fn.name == "runtime.NumGoroutine") = false := ⟨Tryz.f60, by kernel_rfl, by kernel_rfl, by kernel_rfl⟩
end Go.Proofs
namespace Go.Proofs
open Go.AM
-- (carousel/model.Layer).good
def f59_j1 (l : ByteArray × Int × Int) : Option (Sum Unit Unit) :=
  bindF (f38 l.1) fun r3 =>
  bif (decide (r3 < (2 : Int))) then
    bif (l.2.2 != (0 : Int)) then
      some (Sum.inr ())
    else
      some (Sum.inl ())
  else
    some (Sum.inl ())
def f59 (l : ByteArray × Int × Int) : Option Bool :=
  bindF (f59_j1 l) fun z2 =>
  sumF z2 (fun z2a =>
    bif (ByteArray.toList l.1 == ByteArray.toList (ByteArray.mk #[100, 101, 110, 115, 101])) then
      bindF (f60 l.2.1 (256 : Int)) fun r4 =>
      some r4
    else
      bif (ByteArray.toList l.1 == ByteArray.toList (ByteArray.mk #[99, 111, 110, 118])) then
        bindF (f60 l.2.1 (16 : Int)) fun r5 =>
        bif r5 then
          bindF (f60 l.2.2 (16 : Int)) fun r6 =>
          some r6
        else
          some false
      else
        bif (ByteArray.toList l.1 == ByteArray.toList (ByteArray.mk #[112, 111, 111, 108])) then
          bindF (f60 l.2.1 (16 : Int)) fun r7 =>
          some r7
        else
          bif (ByteArray.toList l.1 == ByteArray.toList (ByteArray.mk #[98, 101, 110, 100])) then
            bindF (f60 l.2.1 (5 : Int)) fun r8 =>
            some r8
          else
            bif (ByteArray.toList l.1 == ByteArray.toList (ByteArray.mk #[115, 107, 105, 112])) then
              some (l.2.1 == (0 : Int))
            else
              some false) (fun z2b =>
    some false)
def C59 : Con where
  X := ByteArray × Int × Int
  Y := Bool
  e := 0
  args x := [.dat (.p .str (.p (.int .i64) (.int .i64))) x]
  hin x := []
  F x := f59 x
  ret y := [.dat .bool y]
  hout y := []
  nout := 0
theorem C59_vc (l : ByteArray × Int × Int) (y : Bool) (hF : f59 l = some y) : vc Tryz.prog tab Tryz.f59.ntmps 0 (match Tryz.f59.body with | some c => c | none => .skip) (retK tab C59 Tryz.f59.results.toList y) (C59.shIn l).st := by
  unfold f59 at hF
  refine Or.inl ?_
  obtain ⟨z2, hz2, hF⟩ := bindE hF
  refine Or.inr ⟨Sum.elim (fun z2a => [(0, ⟨[(1, .raw false [(.ptr 0 0)])], [(0, .cells [(.d .str l.1), (.d (.int .i64) l.2.1), (.d (.int .i64) l.2.2)])], 1⟩)]) (fun z2b => [(1, ⟨[(2, .dat .bool false)], [], 0⟩)]) z2, ?_, ?_⟩
  · have hF := hz2
    clear hz2
    unfold f59_j1 at hF
    refine Or.inl ?_
    obtain ⟨r3, hr3, hF⟩ := bindE hF
    refine Or.inl (And.intro f38_in (callV0 (callI C38 l.1 r3 [] false C38_holds hr3 rfl rfl ?_)))
    refine (And.intro rfl (And.intro (fun h => nomatch h) (And.intro rfl (And.intro rfl (And.intro trivial (And.intro trivial ?_))))))
    refine condI hF (fun hF => ?_) (fun hF => ?_)
    · refine gdYT ?_
      refine gdYT ?_
      refine condT ?_
      refine condI hF (fun hF => ?_) (fun hF => ?_)
      · refine Or.inl ?_
        have hz := someE hF
        subst hz
        refine Exists.intro [] (Exists.intro [] (Exists.intro [] (Exists.intro [] (Exists.intro [] (And.intro rfl (And.intro rfl (And.intro trivial trivial)))))))
      · have hz := someE hF
        subst hz
        refine Exists.intro [] (Exists.intro [] (Exists.intro [] (Exists.intro [] (Exists.intro [(0, some 0)] (And.intro rfl (And.intro (And.intro rfl trivial) (And.intro rfl trivial)))))))
    · refine gdNT ?_
      refine gdNT ?_
      refine condF ?_
      refine condF ?_
      have hz := someE hF
      subst hz
      refine Exists.intro [] (Exists.intro [] (Exists.intro [] (Exists.intro [] (Exists.intro [(0, some 0)] (And.intro rfl (And.intro (And.intro rfl trivial) (And.intro rfl trivial)))))))
  · rcases z2 with z2a | z2b
    · dsimp only [sumF] at hF
      refine And.intro ?_ trivial
      refine Or.inl ?_
      refine Or.inl ?_
      refine Or.inl ?_
      refine condI hF (fun hF => ?_) (fun hF => ?_)
      · refine Or.inl ?_
        obtain ⟨r4, hr4, hF⟩ := bindE hF
        refine Or.inl (And.intro f60_in (callV0 (callI C60 (l.2.1, (256 : Int)) r4 [] false C60_holds hr4 rfl rfl ?_)))
        refine (And.intro rfl (And.intro rfl (And.intro (fun h => nomatch h) (And.intro rfl (And.intro rfl (And.intro trivial (And.intro trivial ?_)))))))
        have hy := someE hF
        subst hy
        refine And.intro rfl (Exists.intro [] (Exists.intro [] (Exists.intro [] (Exists.intro [] (Exists.intro [] (And.intro rfl (And.intro rfl (And.intro trivial trivial))))))))
      · refine Or.inl ?_
        refine condI hF (fun hF => ?_) (fun hF => ?_)
        · refine Or.inl ?_
          obtain ⟨r5, hr5, hF⟩ := bindE hF
          refine Or.inl (And.intro f60_in (callV0 (callI C60 (l.2.1, (16 : Int)) r5 [] false C60_holds hr5 rfl rfl ?_)))
          refine (And.intro rfl (And.intro rfl (And.intro (fun h => nomatch h) (And.intro rfl (And.intro rfl (And.intro trivial (And.intro trivial ?_)))))))
          refine condI hF (fun hF => ?_) (fun hF => ?_)
          · refine gdYT ?_
            refine gdYT ?_
            obtain ⟨r6, hr6, hF⟩ := bindE hF
            refine Or.inl (And.intro f60_in (callV0 (callI C60 (l.2.2, (16 : Int)) r6 [] false C60_holds hr6 rfl rfl ?_)))
            refine (And.intro rfl (And.intro rfl (And.intro (fun h => nomatch h) (And.intro rfl (And.intro rfl (And.intro trivial (And.intro trivial ?_)))))))
            refine condT ?_
            have hy := someE hF
            subst hy
            refine And.intro rfl (Exists.intro [] (Exists.intro [] (Exists.intro [] (Exists.intro [] (Exists.intro [] (And.intro rfl (And.intro rfl (And.intro trivial trivial))))))))
          · refine gdNT ?_
            refine gdNT ?_
            refine condF ?_
            have hy := someE hF
            subst hy
            refine And.intro rfl (Exists.intro [] (Exists.intro [] (Exists.intro [] (Exists.intro [] (Exists.intro [] (And.intro rfl (And.intro rfl (And.intro trivial trivial))))))))
        · refine Or.inl ?_
          refine condI hF (fun hF => ?_) (fun hF => ?_)
          · refine Or.inl ?_
            obtain ⟨r7, hr7, hF⟩ := bindE hF
            refine Or.inl (And.intro f60_in (callV0 (callI C60 (l.2.1, (16 : Int)) r7 [] false C60_holds hr7 rfl rfl ?_)))
            refine (And.intro rfl (And.intro rfl (And.intro (fun h => nomatch h) (And.intro rfl (And.intro rfl (And.intro trivial (And.intro trivial ?_)))))))
            have hy := someE hF
            subst hy
            refine And.intro rfl (Exists.intro [] (Exists.intro [] (Exists.intro [] (Exists.intro [] (Exists.intro [] (And.intro rfl (And.intro rfl (And.intro trivial trivial))))))))
          · refine Or.inl ?_
            refine condI hF (fun hF => ?_) (fun hF => ?_)
            · refine Or.inl ?_
              obtain ⟨r8, hr8, hF⟩ := bindE hF
              refine Or.inl (And.intro f60_in (callV0 (callI C60 (l.2.1, (5 : Int)) r8 [] false C60_holds hr8 rfl rfl ?_)))
              refine (And.intro rfl (And.intro rfl (And.intro (fun h => nomatch h) (And.intro rfl (And.intro rfl (And.intro trivial (And.intro trivial ?_)))))))
              have hy := someE hF
              subst hy
              refine And.intro rfl (Exists.intro [] (Exists.intro [] (Exists.intro [] (Exists.intro [] (Exists.intro [] (And.intro rfl (And.intro rfl (And.intro trivial trivial))))))))
            · refine Or.inl ?_
              refine condI hF (fun hF => ?_) (fun hF => ?_)
              · refine gdYT ?_
                refine gdYT ?_
                refine condT ?_
                have hy := someE hF
                subst hy
                refine And.intro rfl (Exists.intro [] (Exists.intro [] (Exists.intro [] (Exists.intro [] (Exists.intro [] (And.intro rfl (And.intro rfl (And.intro trivial trivial))))))))
              · refine gdNT ?_
                refine gdNT ?_
                refine condF ?_
                have hy := someE hF
                subst hy
                refine And.intro rfl (Exists.intro [] (Exists.intro [] (Exists.intro [] (Exists.intro [] (Exists.intro [] (And.intro rfl (And.intro rfl (And.intro trivial trivial))))))))
    · dsimp only [sumF] at hF
      refine And.intro ?_ trivial
      have hy := someE hF
      subst hy
      refine And.intro rfl (Exists.intro [] (Exists.intro [] (Exists.intro [] (Exists.intro [] (Exists.intro [] (And.intro rfl (And.intro rfl (And.intro trivial trivial))))))))
theorem C59_holds : C59.Holds Tryz.prog 59 := holds_of_vc tab_ok mixed (fn := Tryz.f59) (by kernel_rfl) rfl C59 (fun x y hF => C59_vc x y hF)
theorem f59_in : ∃ fn, Tryz.prog.funcs[59]? = some fn ∧ fn.body.isSome = true ∧ (fn.name == "runtime.NumGoroutine") = false := ⟨Tryz.f59, by kernel_rfl, by kernel_rfl, by kernel_rfl⟩
end Go.Proofs
namespace Go.Proofs
open Go.AM
-- (carousel/model.Net).good
def f34_l1 (n : (List Int) × (List (ByteArray × Int × Int))) (go : Int → Option (Sum Unit Unit)) (v8 : Int) : Option (Sum Unit Unit) :=
  bif (decide (v8 < (List.length n.2 : Int))) then
    guardF (0 ≤ v8 ∧ v8 < (List.length n.2 : Int)) <|
    bindF (f59 ((rd (Ty.z (.p .str (.p (.int .i64) (.int .i64)))) n.2 v8).1, ((rd (Ty.z (.p .str (.p (.int .i64) (.int .i64)))) n.2 v8).2).1, ((rd (Ty.z (.p .str (.p (.int .i64) (.int .i64)))) n.2 v8).2).2)) fun r4 =>
    bif (!r4) then
      some (Sum.inl ())
    else
      go (IntKind.i64.wrap (v8 + (1 : Int)))
  else
    some (Sum.inr ())
def f34 (n : (List Int) × (List (ByteArray × Int × Int))) : Option Bool :=
  bindF (loopF (fun go x => f34_l1 n go x) fuelN (0 : Int)) fun z3 =>
  sumF z3 (fun z3a =>
    some false) (fun z3b =>
    bif ((List.length n.1 : Int) == (1 : Int)) then
      guardF (0 ≤ (0 : Int) ∧ (0 : Int) < (List.length n.1 : Int)) <|
      bindF (f60 (rd (0 : Int) n.1 (0 : Int)) (1024 : Int)) fun r5 =>
      some r5
    else
      bif ((List.length n.1 : Int) == (2 : Int)) then
        guardF (0 ≤ (0 : Int) ∧ (0 : Int) < (List.length n.1 : Int)) <|
        bindF (f60 (rd (0 : Int) n.1 (0 : Int)) (64 : Int)) fun r6 =>
        bif r6 then
          guardF (0 ≤ (1 : Int) ∧ (1 : Int) < (List.length n.1 : Int)) <|
          bindF (f60 (rd (0 : Int) n.1 (1 : Int)) (64 : Int)) fun r7 =>
          some r7
        else
          some false
      else
        some false)
def C34 : Con where
  X := (List Int) × (List (ByteArray × Int × Int))
  Y := Bool
  e := 0
  args x := [.dat (.p (.sl (.int .i64)) (.sl (.p .str (.p (.int .i64) (.int .i64))))) x]
  hin x := []
  F x := f34 x
  ret y := [.dat .bool y]
  hout y := []
  nout := 0
theorem C34_vc (n : (List Int) × (List (ByteArray × Int × Int))) (y : Bool) (hF : f34 n = some y) : vc Tryz.prog tab Tryz.f34.ntmps 0 (match Tryz.f34.body with | some c => c | none => .skip) (retK tab C34 Tryz.f34.results.toList y) (C34.shIn n).st := by
  unfold f34 at hF
  refine Or.inl ?_
  refine Or.inl ?_
  refine Or.inl ?_
  obtain ⟨z3, hz3, hF⟩ := bindE hF
  refine loopI Int (Sum Unit Unit) (fun x => ⟨[(1, .raw false [(.ptr 0 0)]), (6, .dat (.sl (.p .str (.p (.int .i64) (.int .i64)))) n.2), (7, .dat (.int .i64) (List.length n.2 : Int)), (8, .dat (.int .i64) x)], [(0, .cells [(.d (.sl (.int .i64)) n.1), (.d (.sl (.p .str (.p (.int .i64) (.int .i64)))) n.2)])], 1⟩) (fun z => Sum.elim (fun za => [(1, ⟨[(2, .dat .bool false)], [], 0⟩)]) (fun zb => [(2, ⟨[(1, .raw false [(.ptr 0 0)])], [(0, .cells [(.d (.sl (.int .i64)) n.1), (.d (.sl (.p .str (.p (.int .i64) (.int .i64)))) n.2)])], 1⟩)]) z) (loopF (fun go x => f34_l1 n go x)) fuelN (0 : Int) z3 (And.intro hz3 (And.intro (Exists.intro [] (Exists.intro [] (Exists.intro [] (Exists.intro [] (Exists.intro [(0, some 0)] (And.intro rfl (And.intro rfl (And.intro rfl (And.intro rfl (And.intro (And.intro rfl trivial) (And.intro rfl trivial))))))))))) (And.intro (fun _ _ h => loopZ h) (And.intro (fun m => fun v8 z hF => ?_) ?_))))
  · have hF : f34_l1 n (loopF (fun go x => f34_l1 n go x) m) v8 = some z := hF
    unfold f34_l1 at hF
    refine Or.inl ?_
    refine Or.inl ?_
    refine condI hF (fun hF => ?_) (fun hF => ?_)
    · refine Or.inl ?_
      refine Or.inl ?_
      refine guardI hF (fun hF => ?_)
      refine Or.inl ?_
      refine Or.inl ?_
      obtain ⟨r4, hr4, hF⟩ := bindE hF
      refine Or.inl (And.intro f59_in (callV0 (callI C59 ((rd (Ty.z (.p .str (.p (.int .i64) (.int .i64)))) n.2 v8).1, ((rd (Ty.z (.p .str (.p (.int .i64) (.int .i64)))) n.2 v8).2).1, ((rd (Ty.z (.p .str (.p (.int .i64) (.int .i64)))) n.2 v8).2).2) r4 [] false C59_holds hr4 rfl rfl ?_)))
      refine (And.intro rfl (And.intro rfl (And.intro (fun h => nomatch h) (And.intro rfl (And.intro rfl (And.intro trivial (And.intro trivial ?_)))))))
      refine condI hF (fun hF => ?_) (fun hF => ?_)
      · refine Or.inl ?_
        have hz := someE hF
        subst hz
        refine Exists.intro [] (Exists.intro [] (Exists.intro [] (Exists.intro [] (Exists.intro [] (And.intro rfl (And.intro rfl (And.intro trivial trivial)))))))
      · refine Exists.intro (IntKind.i64.wrap (v8 + (1 : Int))) (And.intro hF (Exists.intro [] (Exists.intro [] (Exists.intro [] (Exists.intro [] (Exists.intro [(0, some 0)] (And.intro rfl (And.intro rfl (And.intro rfl (And.intro rfl (And.intro (And.intro rfl trivial) (And.intro rfl trivial))))))))))))
    · have hz := someE hF
      subst hz
      refine Exists.intro [] (Exists.intro [] (Exists.intro [] (Exists.intro [] (Exists.intro [(0, some 0)] (And.intro rfl (And.intro (And.intro rfl trivial) (And.intro rfl trivial)))))))
  · rcases z3 with z3a | z3b
    · dsimp only [sumF] at hF
      refine And.intro ?_ trivial
      have hy := someE hF
      subst hy
      refine And.intro rfl (Exists.intro [] (Exists.intro [] (Exists.intro [] (Exists.intro [] (Exists.intro [] (And.intro rfl (And.intro rfl (And.intro trivial trivial))))))))
    · dsimp only [sumF] at hF
      refine And.intro ?_ trivial
      refine Or.inl ?_
      refine Or.inl ?_
      refine Or.inl ?_
      refine condI hF (fun hF => ?_) (fun hF => ?_)
      · refine Or.inl ?_
        refine guardI hF (fun hF => ?_)
        obtain ⟨r5, hr5, hF⟩ := bindE hF
        refine Or.inl (And.intro f60_in (callV0 (callI C60 ((rd (0 : Int) n.1 (0 : Int)), (1024 : Int)) r5 [] false C60_holds hr5 rfl rfl ?_)))
        refine (And.intro rfl (And.intro rfl (And.intro (fun h => nomatch h) (And.intro rfl (And.intro rfl (And.intro trivial (And.intro trivial ?_)))))))
        have hy := someE hF
        subst hy
        refine And.intro rfl (Exists.intro [] (Exists.intro [] (Exists.intro [] (Exists.intro [] (Exists.intro [] (And.intro rfl (And.intro rfl (And.intro trivial trivial))))))))
      · refine Or.inl ?_
        refine condI hF (fun hF => ?_) (fun hF => ?_)
        · refine Or.inl ?_
          refine guardI hF (fun hF => ?_)
          obtain ⟨r6, hr6, hF⟩ := bindE hF
          refine Or.inl (And.intro f60_in (callV0 (callI C60 ((rd (0 : Int) n.1 (0 : Int)), (64 : Int)) r6 [] false C60_holds hr6 rfl rfl ?_)))
          refine (And.intro rfl (And.intro rfl (And.intro (fun h => nomatch h) (And.intro rfl (And.intro rfl (And.intro trivial (And.intro trivial ?_)))))))
          refine condI hF (fun hF => ?_) (fun hF => ?_)
          · refine gdYT ?_
            refine gdYT ?_
            refine guardI hF (fun hF => ?_)
            refine gdYT ?_
            refine gdYT ?_
            obtain ⟨r7, hr7, hF⟩ := bindE hF
            refine Or.inl (And.intro f60_in (callV0 (callI C60 ((rd (0 : Int) n.1 (1 : Int)), (64 : Int)) r7 [] false C60_holds hr7 rfl rfl ?_)))
            refine (And.intro rfl (And.intro rfl (And.intro (fun h => nomatch h) (And.intro rfl (And.intro rfl (And.intro trivial (And.intro trivial ?_)))))))
            refine condT ?_
            have hy := someE hF
            subst hy
            refine And.intro rfl (Exists.intro [] (Exists.intro [] (Exists.intro [] (Exists.intro [] (Exists.intro [] (And.intro rfl (And.intro rfl (And.intro trivial trivial))))))))
          · refine gdNT ?_
            refine gdNT ?_
            refine gdNT ?_
            refine gdNT ?_
            refine condF ?_
            have hy := someE hF
            subst hy
            refine And.intro rfl (Exists.intro [] (Exists.intro [] (Exists.intro [] (Exists.intro [] (Exists.intro [] (And.intro rfl (And.intro rfl (And.intro trivial trivial))))))))
        · refine Or.inl ?_
          have hy := someE hF
          subst hy
          refine And.intro rfl (Exists.intro [] (Exists.intro [] (Exists.intro [] (Exists.intro [] (Exists.intro [] (And.intro rfl (And.intro rfl (And.intro trivial trivial))))))))
theorem C34_holds : C34.Holds Tryz.prog 34 := holds_of_vc tab_ok mixed (fn := Tryz.f34) (by kernel_rfl) rfl C34 (fun x y hF => C34_vc x y hF)
theorem f34_in : ∃ fn, Tryz.prog.funcs[34]? = some fn ∧ fn.body.isSome = true ∧ (fn.name == "runtime.NumGoroutine") = false := ⟨Tryz.f34, by kernel_rfl, by kernel_rfl, by kernel_rfl⟩
end Go.Proofs
namespace Go.Proofs
open Go.AM
-- slices.Clone[[]int,int]
def f61 (s : List Int) : Option (List Int) :=
  nilF s
    (some ([]))
    (guardF ((List.length ([] : List Int) + List.length s) * 8 ≤ 140737488355328) <|
     some (([] : List Int) ++ s))
def C61 : Con where
  X := List Int
  Y := List Int
  e := 0
  args x := [.dat (.sl (.int .i64)) x]
  hin x := []
  F x := f61 x
  ret y := [.raw false [(.osl 0)]]
  hout y := [(0, .arr 3 (.int .i64) y)]
  nout := 1
theorem C61_vc (s : List Int) (y : List Int) (hF : f61 s = some y) : vc Tryz.prog tab Tryz.f61.ntmps 0 (match Tryz.f61.body with | some c => c | none => .skip) (retK tab C61 Tryz.f61.results.toList y) (C61.shIn s).st := by
  unfold f61 at hF
  refine Or.inl ?_
  refine Or.inl ?_
  refine Or.inl ?_
  refine nilI hF (fun hF => ?_) (fun hF => ?_)
  · refine condT ?_
    refine Or.inl ?_
    have hy := someE hF
    subst hy
    refine And.intro rfl (Exists.intro [] (Exists.intro [] (Exists.intro [] (Exists.intro [] (Exists.intro [(0, none)] (And.intro rfl (And.intro (And.intro rfl trivial) (And.intro rfl trivial))))))))
  · refine condF ?_
    refine Or.inl ?_
    refine Or.inl ?_
    refine Or.inl ?_
    refine guardI hF (fun hF => ?_)
    have hy := someE hF
    subst hy
    refine And.intro rfl (Exists.intro [] (Exists.intro [] (Exists.intro [] (Exists.intro [] (Exists.intro [(0, some 1)] (And.intro rfl (And.intro (And.intro rfl trivial) (And.intro rfl trivial))))))))
theorem C61_holds : C61.Holds Tryz.prog 61 := holds_of_vc tab_ok mixed (fn := Tryz.f61) (by kernel_rfl) rfl C61 (fun x y hF => C61_vc x y hF)
theorem f61_in : ∃ fn, Tryz.prog.funcs[61]? = some fn ∧ fn.body.isSome = true ∧ (fn.name == "runtime.NumGoroutine") = false := ⟨Tryz.f61, by kernel_rfl, by kernel_rfl, by kernel_rfl⟩
end Go.Proofs
namespace Go.Proofs
open Go.AM
-- (carousel/model.Layer).out
def f62_j1 (l : ByteArray × Int × Int) (in_ : List Int) : Option (Sum Unit Unit) :=
  bif ((List.length in_ : Int) != (2 : Int)) then
    some (Sum.inr ())
  else
    guardF (0 ≤ (1 : Int) ∧ (1 : Int) < (List.length in_ : Int)) <|
    bif (decide (l.2.2 > (rd (0 : Int) in_ (1 : Int)))) then
      some (Sum.inr ())
    else
      some (Sum.inl ())
def f62_j2 (l : ByteArray × Int × Int) (in_ : List Int) : Option (Sum Unit Unit) :=
  bif ((List.length in_ : Int) != (2 : Int)) then
    some (Sum.inr ())
  else
    guardF (0 ≤ (1 : Int) ∧ (1 : Int) < (List.length in_ : Int)) <|
    bif (decide (l.2.1 > (rd (0 : Int) in_ (1 : Int)))) then
      some (Sum.inr ())
    else
      some (Sum.inl ())
def f62 (l : ByteArray × Int × Int) (in_ : List Int) : Option (Bool × (List Int)) :=
  bif (ByteArray.toList l.1 == ByteArray.toList (ByteArray.mk #[100, 101, 110, 115, 101])) then
    some (true, [l.2.1])
  else
    bif (ByteArray.toList l.1 == ByteArray.toList (ByteArray.mk #[99, 111, 110, 118])) then
      bindF (f62_j1 l in_) fun z1 =>
      sumF z1 (fun z1a =>
        guardF (0 ≤ (1 : Int) ∧ (1 : Int) < (List.length in_ : Int)) <|
        some (true, [l.2.1, (IntKind.i64.wrap ((IntKind.i64.wrap ((rd (0 : Int) in_ (1 : Int)) - l.2.2)) + (1 : Int)))])) (fun z1b =>
        some (false, []))
    else
      bif (ByteArray.toList l.1 == ByteArray.toList (ByteArray.mk #[112, 111, 111, 108])) then
        bindF (f62_j2 l in_) fun z2 =>
        sumF z2 (fun z2a =>
          guardF (0 ≤ (0 : Int) ∧ (0 : Int) < (List.length in_ : Int)) <|
          guardF (0 ≤ (1 : Int) ∧ (1 : Int) < (List.length in_ : Int)) <|
          guardF (l.2.1 ≠ 0) <|
          some (true, [(rd (0 : Int) in_ (0 : Int)), (IntKind.i64.wrap (Int.tdiv (rd (0 : Int) in_ (1 : Int)) l.2.1))])) (fun z2b =>
          some (false, []))
      else
        bindF (f61 in_) fun q11_11 =>
        some (true, q11_11)
def C62 : Con where
  X := (ByteArray × Int × Int) × (List Int)
  Y := Bool × (List Int)
  e := 0
  args x := [.dat (.p .str (.p (.int .i64) (.int .i64))) x.1, .dat (.sl (.int .i64)) x.2]
  hin x := []
  F x := f62 x.1 x.2
  ret y := [.raw false [(.osl 0)], .dat .bool y.1]
  hout y := [(0, .arr 3 (.int .i64) y.2)]
  nout := 1
theorem C62_vc (l : ByteArray × Int × Int) (in_ : List Int) (y : Bool × (List Int)) (hF : f62 l in_ = some y) : vc Tryz.prog tab Tryz.f62.ntmps 0 (match Tryz.f62.body with | some c => c | none => .skip) (retK tab C62 Tryz.f62.results.toList y) (C62.shIn (l, in_)).st := by
  unfold f62 at hF
  refine Or.inl ?_
  refine Or.inl ?_
  refine Or.inl ?_
  refine Or.inl ?_
  refine condI hF (fun hF => ?_) (fun hF => ?_)
  · refine Or.inl ?_
    refine Or.inl ?_
    have hy := someE hF
    subst hy
    refine And.intro rfl (Exists.intro [] (Exists.intro [] (Exists.intro [] (Exists.intro [] (Exists.intro [(0, some 1)] (And.intro rfl (And.intro rfl (And.intro (And.intro rfl trivial) (And.intro rfl trivial)))))))))
  · refine Or.inl ?_
    refine condI hF (fun hF => ?_) (fun hF => ?_)
    · obtain ⟨z1, hz1, hF⟩ := bindE hF
      refine Or.inr ⟨Sum.elim (fun z1a => [(0, ⟨[(1, .dat (.sl (.int .i64)) in_), (2, .raw false [(.ptr 0 0)])], [(0, .cells [(.d .str l.1), (.d (.int .i64) l.2.1), (.d (.int .i64) l.2.2)])], 1⟩)]) (fun z1b => [(1, ⟨[(4, .raw false [(.c (.slice none 0 0))]), (5, .dat .bool false)], [], 0⟩)]) z1, ?_, ?_⟩
      · have hF := hz1
        clear hz1
        unfold f62_j1 at hF
        refine Or.inl ?_
        refine Exists.intro (.take 0 (.take 1 (.take 2 (.take 3 (.take 4 (.take 5 (.take 6 (.take 7 (.take 8 (.take 9 (.take 10 .done))))))))))) (Exists.intro [] (Exists.intro [] (And.intro rfl ?_)))
        refine condN hF (fun hF => ?_) (fun hF => ?_)
        · refine gdYF ?_
          refine gdYF ?_
          refine gdYF ?_
          refine guardI hF (fun hF => ?_)
          refine gdYF ?_
          refine gdYF ?_
          refine condF ?_
          refine condI hF (fun hF => ?_) (fun hF => ?_)
          · refine Or.inl ?_
            have hz := someE hF
            subst hz
            refine Exists.intro [] (Exists.intro [] (Exists.intro [] (Exists.intro [] (Exists.intro [] (And.intro rfl (And.intro rfl (And.intro (And.intro rfl trivial) trivial)))))))
          · have hz := someE hF
            subst hz
            refine Exists.intro [] (Exists.intro [] (Exists.intro [] (Exists.intro [] (Exists.intro [(0, some 0)] (And.intro rfl (And.intro rfl (And.intro (And.intro rfl trivial) (And.intro rfl trivial))))))))
        · refine gdNF ?_
          refine gdNF ?_
          refine gdNF ?_
          refine gdNF ?_
          refine gdNF ?_
          refine condT ?_
          refine condT ?_
          refine Or.inl ?_
          have hz := someE hF
          subst hz
          refine Exists.intro [] (Exists.intro [] (Exists.intro [] (Exists.intro [] (Exists.intro [] (And.intro rfl (And.intro rfl (And.intro (And.intro rfl trivial) trivial)))))))
      · rcases z1 with z1a | z1b
        · dsimp only [sumF] at hF
          refine And.intro ?_ trivial
          refine Or.inl ?_
          refine Exists.intro (.take 0 (.take 1 (.take 2 (.take 3 (.take 4 (.take 5 (.take 6 (.take 7 (.take 8 (.alt 9 (.take 10 (.take 11 .done)) .done)))))))))) (Exists.intro [] (Exists.intro [] (And.intro rfl ?_)))
          refine guardI hF (fun hF => ?_)
          refine And.intro trivial ?_
          refine Or.inl ?_
          have hy := someE hF
          subst hy
          refine And.intro rfl (Exists.intro [] (Exists.intro [] (Exists.intro [] (Exists.intro [] (Exists.intro [(0, some 1)] (And.intro rfl (And.intro rfl (And.intro (And.intro rfl trivial) (And.intro rfl trivial)))))))))
        · dsimp only [sumF] at hF
          refine And.intro ?_ trivial
          have hy := someE hF
          subst hy
          refine And.intro rfl (Exists.intro [] (Exists.intro [] (Exists.intro [] (Exists.intro [] (Exists.intro [(0, none)] (And.intro rfl (And.intro rfl (And.intro (And.intro rfl trivial) (And.intro rfl trivial)))))))))
    · refine Or.inl ?_
      refine condI hF (fun hF => ?_) (fun hF => ?_)
      · obtain ⟨z2, hz2, hF⟩ := bindE hF
        refine Or.inr ⟨Sum.elim (fun z2a => [(0, ⟨[(1, .dat (.sl (.int .i64)) in_), (2, .raw false [(.ptr 0 0)])], [(0, .cells [(.d .str l.1), (.d (.int .i64) l.2.1), (.d (.int .i64) l.2.2)])], 1⟩)]) (fun z2b => [(1, ⟨[(4, .raw false [(.c (.slice none 0 0))]), (5, .dat .bool false)], [], 0⟩)]) z2, ?_, ?_⟩
        · have hF := hz2
          clear hz2
          unfold f62_j2 at hF
          refine Or.inl ?_
          refine Exists.intro (.take 0 (.take 1 (.take 2 (.take 3 (.take 4 (.take 5 (.take 6 (.take 7 (.take 8 (.take 9 (.take 10 .done))))))))))) (Exists.intro [] (Exists.intro [] (And.intro rfl ?_)))
          refine condN hF (fun hF => ?_) (fun hF => ?_)
          · refine gdYF ?_
            refine gdYF ?_
            refine gdYF ?_
            refine guardI hF (fun hF => ?_)
            refine gdYF ?_
            refine gdYF ?_
            refine condF ?_
            refine condI hF (fun hF => ?_) (fun hF => ?_)
            · refine Or.inl ?_
              have hz := someE hF
              subst hz
              refine Exists.intro [] (Exists.intro [] (Exists.intro [] (Exists.intro [] (Exists.intro [] (And.intro rfl (And.intro rfl (And.intro (And.intro rfl trivial) trivial)))))))
            · have hz := someE hF
              subst hz
              refine Exists.intro [] (Exists.intro [] (Exists.intro [] (Exists.intro [] (Exists.intro [(0, some 0)] (And.intro rfl (And.intro rfl (And.intro (And.intro rfl trivial) (And.intro rfl trivial))))))))
          · refine gdNF ?_
            refine gdNF ?_
            refine gdNF ?_
            refine gdNF ?_
            refine gdNF ?_
            refine condT ?_
            refine condT ?_
            refine Or.inl ?_
            have hz := someE hF
            subst hz
            refine Exists.intro [] (Exists.intro [] (Exists.intro [] (Exists.intro [] (Exists.intro [] (And.intro rfl (And.intro rfl (And.intro (And.intro rfl trivial) trivial)))))))
        · rcases z2 with z2a | z2b
          · dsimp only [sumF] at hF
            refine And.intro ?_ trivial
            refine Or.inl ?_
            refine Exists.intro (.take 0 (.take 1 (.take 2 (.take 3 (.take 4 (.take 5 (.take 6 (.take 7 (.take 8 (.alt 9 (.take 10 (.take 11 .done)) .done)))))))))) (Exists.intro [] (Exists.intro [] (And.intro rfl ?_)))
            refine guardI hF (fun hF => ?_)
            refine guardI hF (fun hF => ?_)
            refine guardI hF (fun hF => ?_)
            refine And.intro trivial ?_
            refine Or.inl ?_
            have hy := someE hF
            subst hy
            refine And.intro rfl (Exists.intro [] (Exists.intro [] (Exists.intro [] (Exists.intro [] (Exists.intro [(0, some 1)] (And.intro rfl (And.intro rfl (And.intro (And.intro rfl trivial) (And.intro rfl trivial)))))))))
          · dsimp only [sumF] at hF
            refine And.intro ?_ trivial
            have hy := someE hF
            subst hy
            refine And.intro rfl (Exists.intro [] (Exists.intro [] (Exists.intro [] (Exists.intro [] (Exists.intro [(0, none)] (And.intro rfl (And.intro rfl (And.intro (And.intro rfl trivial) (And.intro rfl trivial)))))))))
      · refine Or.inl ?_
        obtain ⟨q11_11, hq11_11, hF⟩ := bindE hF
        refine Or.inl (And.intro f61_in (callV0 (callI C61 in_ q11_11 [] false C61_holds hq11_11 rfl rfl ?_)))
        refine (And.intro rfl (And.intro (fun h => nomatch h) (And.intro rfl (And.intro rfl (And.intro trivial (And.intro trivial ?_))))))
        have hy := someE hF
        subst hy
        refine And.intro rfl (Exists.intro [] (Exists.intro [] (Exists.intro [] (Exists.intro [] (Exists.intro [(0, some 1)] (And.intro rfl (And.intro rfl (And.intro (And.intro rfl trivial) (And.intro rfl trivial)))))))))
theorem C62_holds : C62.Holds Tryz.prog 62 := holds_of_vc tab_ok mixed (fn := Tryz.f62) (by kernel_rfl) rfl C62 (fun x y hF => C62_vc x.1 x.2 y hF)
theorem f62_in : ∃ fn, Tryz.prog.funcs[62]? = some fn ∧ fn.body.isSome = true ∧ (fn.name == "runtime.NumGoroutine") = false := ⟨Tryz.f62, by kernel_rfl, by kernel_rfl, by kernel_rfl⟩
end Go.Proofs
namespace Go.Proofs
open Go.AM
-- slices.Equal[[]int,int]
def f115_l1 (s1 : List Int) (s2 : List Int) (go : Int → Option (Sum Unit Unit)) (v13 : Int) : Option (Sum Unit Unit) :=
  bif (decide (v13 < (List.length s1 : Int))) then
    guardF (0 ≤ v13 ∧ v13 < (List.length s1 : Int)) <|
    guardF (0 ≤ v13 ∧ v13 < (List.length s2 : Int)) <|
    bif ((rd (0 : Int) s1 v13) != (rd (0 : Int) s2 v13)) then
      some (Sum.inl ())
    else
      go (IntKind.i64.wrap (v13 + (1 : Int)))
  else
    some (Sum.inr ())
def f115 (s1 : List Int) (s2 : List Int) : Option Bool :=
  bif ((List.length s1 : Int) != (List.length s2 : Int)) then
    some false
  else
    bindF (loopF (fun go x => f115_l1 s1 s2 go x) fuelN (0 : Int)) fun z1 =>
    sumF z1 (fun z1a =>
      some false) (fun z1b =>
      some true)
def C115 : Con where
  X := (List Int) × (List Int)
  Y := Bool
  e := 0
  args x := [.dat (.sl (.int .i64)) x.1, .dat (.sl (.int .i64)) x.2]
  hin x := []
  F x := f115 x.1 x.2
  ret y := [.dat .bool y]
  hout y := []
  nout := 0
theorem C115_vc (s1 : List Int) (s2 : List Int) (y : Bool) (hF : f115 s1 s2 = some y) : vc Tryz.prog tab Tryz.f115.ntmps 0 (match Tryz.f115.body with | some c => c | none => .skip) (retK tab C115 Tryz.f115.results.toList y) (C115.shIn (s1, s2)).st := by
  unfold f115 at hF
  refine Or.inl ?_
  refine Or.inl ?_
  refine Or.inl ?_
  refine condI hF (fun hF => ?_) (fun hF => ?_)
  · refine Or.inl ?_
    have hy := someE hF
    subst hy
    refine And.intro rfl (Exists.intro [] (Exists.intro [] (Exists.intro [] (Exists.intro [] (Exists.intro [] (And.intro rfl (And.intro rfl (And.intro trivial trivial))))))))
  · refine Or.inl ?_
    refine Or.inl ?_
    obtain ⟨z1, hz1, hF⟩ := bindE hF
    refine loopI Int (Sum Unit Unit) (fun x => ⟨[(0, .dat (.sl (.int .i64)) s1), (1, .dat (.sl (.int .i64)) s2), (12, .dat (.int .i64) (List.length s1 : Int)), (13, .dat (.int .i64) x)], [], 0⟩) (fun z => Sum.elim (fun za => [(1, ⟨[(4, .dat .bool false)], [], 0⟩)]) (fun zb => [(2, ⟨[], [], 0⟩)]) z) (loopF (fun go x => f115_l1 s1 s2 go x)) fuelN (0 : Int) z1 (And.intro hz1 (And.intro (Exists.intro [] (Exists.intro [] (Exists.intro [] (Exists.intro [] (Exists.intro [] (And.intro rfl (And.intro rfl (And.intro rfl (And.intro rfl (And.intro rfl (And.intro trivial trivial))))))))))) (And.intro (fun _ _ h => loopZ h) (And.intro (fun m => fun v13 z hF => ?_) ?_))))
    · have hF : f115_l1 s1 s2 (loopF (fun go x => f115_l1 s1 s2 go x) m) v13 = some z := hF
      unfold f115_l1 at hF
      refine Or.inl ?_
      refine Or.inl ?_
      refine condI hF (fun hF => ?_) (fun hF => ?_)
      · refine Or.inl ?_
        refine Or.inl ?_
        refine Or.inl ?_
        refine Exists.intro (.take 0 (.take 1 (.take 2 (.take 3 (.take 4 (.take 5 (.take 6 (.take 7 (.take 8 .done))))))))) (Exists.intro [] (Exists.intro [] (And.intro rfl ?_)))
        refine guardI hF (fun hF => ?_)
        refine guardI hF (fun hF => ?_)
        refine condI hF (fun hF => ?_) (fun hF => ?_)
        · refine Or.inl ?_
          have hz := someE hF
          subst hz
          refine Exists.intro [] (Exists.intro [] (Exists.intro [] (Exists.intro [] (Exists.intro [] (And.intro rfl (And.intro rfl (And.intro trivial trivial)))))))
        · refine Exists.intro (IntKind.i64.wrap (v13 + (1 : Int))) (And.intro hF (Exists.intro [] (Exists.intro [] (Exists.intro [] (Exists.intro [] (Exists.intro [] (And.intro rfl (And.intro rfl (And.intro rfl (And.intro rfl (And.intro rfl (And.intro trivial trivial))))))))))))
      · have hz := someE hF
        subst hz
        refine Exists.intro [] (Exists.intro [] (Exists.intro [] (Exists.intro [] (Exists.intro [] (And.intro rfl (And.intro trivial trivial))))))
    · rcases z1 with z1a | z1b
      · dsimp only [sumF] at hF
        refine And.intro ?_ trivial
        have hy := someE hF
        subst hy
        refine And.intro rfl (Exists.intro [] (Exists.intro [] (Exists.intro [] (Exists.intro [] (Exists.intro [] (And.intro rfl (And.intro rfl (And.intro trivial trivial))))))))
      · dsimp only [sumF] at hF
        refine And.intro ?_ trivial
        refine Or.inl ?_
        have hy := someE hF
        subst hy
        refine And.intro rfl (Exists.intro [] (Exists.intro [] (Exists.intro [] (Exists.intro [] (Exists.intro [] (And.intro rfl (And.intro rfl (And.intro trivial trivial))))))))
theorem C115_holds : C115.Holds Tryz.prog 115 := holds_of_vc tab_ok mixed (fn := Tryz.f115) (by kernel_rfl) rfl C115 (fun x y hF => C115_vc x.1 x.2 y hF)
theorem f115_in : ∃ fn, Tryz.prog.funcs[115]? = some fn ∧ fn.body.isSome = true ∧ (fn.name == "runtime.NumGoroutine") = false := ⟨Tryz.f115, by kernel_rfl, by kernel_rfl, by kernel_rfl⟩
end Go.Proofs
namespace Go.Proofs
open Go.AM
-- carousel/shape.Same
def f88 (a : List Int) (b : List Int) : Option Bool :=
  bindF (f115 a b) fun r1 =>
  some r1
def C88 : Con where
  X := (List Int) × (List Int)
  Y := Bool
  e := 0
  args x := [.dat (.sl (.int .i64)) x.1, .dat (.sl (.int .i64)) x.2]
  hin x := []
  F x := f88 x.1 x.2
  ret y := [.dat .bool y]
  hout y := []
  nout := 0
theorem C88_vc (a : List Int) (b : List Int) (y : Bool) (hF : f88 a b = some y) : vc Tryz.prog tab Tryz.f88.ntmps 0 (match Tryz.f88.body with | some c => c | none => .skip) (retK tab C88 Tryz.f88.results.toList y) (C88.shIn (a, b)).st := by
  unfold f88 at hF
  refine Or.inl ?_
  refine Or.inl ?_
  obtain ⟨r1, hr1, hF⟩ := bindE hF
  refine Or.inl (And.intro f115_in (callV0 (callI C115 (a, b) r1 [] false C115_holds hr1 rfl rfl ?_)))
  refine (And.intro rfl (And.intro rfl (And.intro (fun h => nomatch h) (And.intro rfl (And.intro rfl (And.intro trivial (And.intro trivial ?_)))))))
  have hy := someE hF
  subst hy
  refine And.intro rfl (Exists.intro [] (Exists.intro [] (Exists.intro [] (Exists.intro [] (Exists.intro [] (And.intro rfl (And.intro rfl (And.intro trivial trivial))))))))
theorem C88_holds : C88.Holds Tryz.prog 88 := holds_of_vc tab_ok mixed (fn := Tryz.f88) (by kernel_rfl) rfl C88 (fun x y hF => C88_vc x.1 x.2 y hF)
theorem f88_in : ∃ fn, Tryz.prog.funcs[88]? = some fn ∧ fn.body.isSome = true ∧ (fn.name == "runtime.NumGoroutine") = false := ⟨Tryz.f88, by kernel_rfl, by kernel_rfl, by kernel_rfl⟩
end Go.Proofs
namespace Go.Proofs
open Go.AM
-- (carousel/model.Net).skips
def f63 (n : (List Int) × (List (ByteArray × Int × Int))) (i : Int) (d : List (List Int)) : Option Bool :=
  bif (decide (i > (0 : Int))) then
    guardF (0 ≤ (IntKind.i64.wrap (i - (1 : Int))) ∧ (IntKind.i64.wrap (i - (1 : Int))) < (List.length n.2 : Int)) <|
    bif (!(ByteArray.toList ((rd (Ty.z (.p .str (.p (.int .i64) (.int .i64)))) n.2 (IntKind.i64.wrap (i - (1 : Int)))).1) == ByteArray.toList (ByteArray.mk #[115, 107, 105, 112]))) then
      guardF (0 ≤ (IntKind.i64.wrap (i - (1 : Int))) ∧ (IntKind.i64.wrap (i - (1 : Int))) < (List.length d : Int)) <|
      guardF (0 ≤ i ∧ i < (List.length d : Int)) <|
      bindF (f88 (rd (Ty.z (.sl (.int .i64))) d (IntKind.i64.wrap (i - (1 : Int)))) (rd (Ty.z (.sl (.int .i64))) d i)) fun q1_22 =>
      some q1_22
    else
      some false
  else
    some false
def C63 : Con where
  X := ((List Int) × (List (ByteArray × Int × Int))) × Int × (List (List Int))
  Y := Bool
  e := 0
  args x := [.dat (.p (.sl (.int .i64)) (.sl (.p .str (.p (.int .i64) (.int .i64))))) x.1, .dat (.int .i64) x.2.1, .dat (.sl (.sl (.int .i64))) x.2.2]
  hin x := []
  F x := f63 x.1 x.2.1 x.2.2
  ret y := [.dat .bool y]
  hout y := []
  nout := 0
theorem C63_vc (n : (List Int) × (List (ByteArray × Int × Int))) (i : Int) (d : List (List Int)) (y : Bool) (hF : f63 n i d = some y) : vc Tryz.prog tab Tryz.f63.ntmps 0 (match Tryz.f63.body with | some c => c | none => .skip) (retK tab C63 Tryz.f63.results.toList y) (C63.shIn (n, i, d)).st := by
  unfold f63 at hF
  refine Or.inl ?_
  refine Or.inl ?_
  refine Exists.intro (.take 0 (.take 1 (.take 2 (.take 3 (.take 4 (.take 5 (.take 6 (.take 7 (.take 8 (.take 9 (.take 10 (.take 11 (.take 12 (.take 13 (.take 14 (.take 15 (.take 16 (.take 17 (.take 18 (.take 19 (.take 20 (.take 21 (.alt 22 (.take 23 (.take 24 .done)) .done))))))))))))))))))))))) (Exists.intro [] (Exists.intro [] (And.intro rfl ?_)))
  refine condI hF (fun hF => ?_) (fun hF => ?_)
  · refine gdYT ?_
    refine gdYT ?_
    refine gdYT ?_
    refine gdYT ?_
    refine guardI hF (fun hF => ?_)
    refine gdYT ?_
    refine gdYT ?_
    refine gdYT ?_
    refine condT ?_
    refine condI hF (fun hF => ?_) (fun hF => ?_)
    · refine gdYT ?_
      refine gdYT ?_
      refine gdYT ?_
      refine guardI hF (fun hF => ?_)
      refine gdYT ?_
      refine gdYT ?_
      refine gdYT ?_
      refine gdYT ?_
      refine guardI hF (fun hF => ?_)
      refine gdYT ?_
      refine And.intro trivial ?_
      refine gdYT ?_
      obtain ⟨q1_22, hq1_22, hF⟩ := bindE hF
      refine Or.inl (And.intro f88_in (callV0 (callI C88 ((rd (Ty.z (.sl (.int .i64))) d (IntKind.i64.wrap (i - (1 : Int)))), (rd (Ty.z (.sl (.int .i64))) d i)) q1_22 [] false C88_holds hq1_22 rfl rfl ?_)))
      refine (And.intro rfl (And.intro rfl (And.intro (fun h => nomatch h) (And.intro rfl (And.intro rfl (And.intro trivial (And.intro trivial ?_)))))))
      refine condT ?_
      have hy := someE hF
      subst hy
      refine And.intro rfl (Exists.intro [] (Exists.intro [] (Exists.intro [] (Exists.intro [] (Exists.intro [] (And.intro rfl (And.intro rfl (And.intro trivial trivial))))))))
    · refine gdNT ?_
      refine gdNT ?_
      refine gdNT ?_
      refine gdNT ?_
      refine gdNT ?_
      refine gdNT ?_
      refine gdNT ?_
      refine gdNT ?_
      refine And.intro trivial ?_
      refine gdNT ?_
      refine condF ?_
      have hy := someE hF
      subst hy
      refine And.intro rfl (Exists.intro [] (Exists.intro [] (Exists.intro [] (Exists.intro [] (Exists.intro [] (And.intro rfl (And.intro rfl (And.intro trivial trivial))))))))
  · refine gdNT ?_
    refine gdNT ?_
    refine gdNT ?_
    refine gdNT ?_
    refine gdNT ?_
    refine gdNT ?_
    refine gdNT ?_
    refine condF ?_
    refine gdNT ?_
    refine gdNT ?_
    refine gdNT ?_
    refine gdNT ?_
    refine gdNT ?_
    refine gdNT ?_
    refine gdNT ?_
    refine gdNT ?_
    refine gdNT ?_
    refine And.intro trivial ?_
    refine gdNT ?_
    refine condF ?_
    have hy := someE hF
    subst hy
    refine And.intro rfl (Exists.intro [] (Exists.intro [] (Exists.intro [] (Exists.intro [] (Exists.intro [] (And.intro rfl (And.intro rfl (And.intro trivial trivial))))))))
theorem C63_holds : C63.Holds Tryz.prog 63 := holds_of_vc tab_ok mixed (fn := Tryz.f63) (by kernel_rfl) rfl C63 (fun x y hF => C63_vc x.1 x.2.1 x.2.2 y hF)
theorem f63_in : ∃ fn, Tryz.prog.funcs[63]? = some fn ∧ fn.body.isSome = true ∧ (fn.name == "runtime.NumGoroutine") = false := ⟨Tryz.f63, by kernel_rfl, by kernel_rfl, by kernel_rfl⟩
end Go.Proofs
namespace Go.Proofs
open Go.AM
-- (carousel/model.Net).walk
def f35_j4 (n : (List Int) × (List (ByteArray × Int × Int))) (v16 : Int) (l1 : List (List Int)) (q5_5 : Bool × (List Int)) : Option (Sum Unit Unit) :=
  bif (!q5_5.1) then
    some (Sum.inr ())
  else
    bif (ByteArray.toList ((rd (Ty.z (.p .str (.p (.int .i64) (.int .i64)))) n.2 v16).1) == ByteArray.toList (ByteArray.mk #[115, 107, 105, 112])) then
      bindF (f63 (n.1, n.2) v16 l1) fun r8 =>
      bif (!r8) then
        some (Sum.inr ())
      else
        some (Sum.inl ())
    else
      some (Sum.inl ())
def f35_l3 (n : (List Int) × (List (ByteArray × Int × Int))) (go : (Int × (List (List Int))) → Option (Sum Unit (List (List Int)))) (v16 : Int) (l1 : List (List Int)) : Option (Sum Unit (List (List Int))) :=
  bif (decide (v16 < (List.length n.2 : Int))) then
    guardF (0 ≤ v16 ∧ v16 < (List.length n.2 : Int)) <|
    guardF (0 ≤ v16 ∧ v16 < (List.length l1 : Int)) <|
    bindF (f62 ((rd (Ty.z (.p .str (.p (.int .i64) (.int .i64)))) n.2 v16).1, ((rd (Ty.z (.p .str (.p (.int .i64) (.int .i64)))) n.2 v16).2).1, ((rd (Ty.z (.p .str (.p (.int .i64) (.int .i64)))) n.2 v16).2).2) (rd (Ty.z (.sl (.int .i64))) l1 v16)) fun q5_5 =>
    bindF (f35_j4 n v16 l1 q5_5) fun z7 =>
    sumF z7 (fun z7a =>
      guardF ((List.length l1 + List.length ([q5_5.2])) * 24 ≤ 140737488355328) <|
      go ((IntKind.i64.wrap (v16 + (1 : Int))), (l1 ++ ([q5_5.2])))) (fun z7b =>
      some (Sum.inl ()))
  else
    some (Sum.inr l1)
def f35 (n : (List Int) × (List (ByteArray × Int × Int))) : Option (Bool × (List (List Int))) :=
  bindF (f61 n.1) fun r1 =>
  bindF (loopF (fun go x => f35_l3 n go x.1 x.2) fuelN ((0 : Int), [r1])) fun z6 =>
  sumF z6 (fun z6a =>
    some (false, [])) (fun z6b =>
    some (true, z6b))
def C35 : Con where
  X := (List Int) × (List (ByteArray × Int × Int))
  Y := Bool × (List (List Int))
  e := 0
  args x := [.dat (.p (.sl (.int .i64)) (.sl (.p .str (.p (.int .i64) (.int .i64))))) x]
  hin x := []
  F x := f35 x
  ret y := [.raw false [(.osl 0)], .dat .bool y.1]
  hout y := [(0, .arr 23 (.sl (.int .i64)) y.2)]
  nout := 1
theorem C35_vc (n : (List Int) × (List (ByteArray × Int × Int))) (y : Bool × (List (List Int))) (hF : f35 n = some y) : vc Tryz.prog tab Tryz.f35.ntmps 0 (match Tryz.f35.body with | some c => c | none => .skip) (retK tab C35 Tryz.f35.results.toList y) (C35.shIn n).st := by
  unfold f35 at hF
  refine Or.inl ?_
  refine Or.inl ?_
  obtain ⟨r1, hr1, hF⟩ := bindE hF
  refine Or.inl (And.intro f61_in (callV0 (callI C61 n.1 r1 [] false C61_holds hr1 rfl rfl ?_)))
  refine (And.intro rfl (And.intro (fun h => nomatch h) (And.intro rfl (And.intro rfl (And.intro trivial (And.intro trivial ?_))))))
  refine Or.inl ?_
  refine Or.inl ?_
  refine Or.inl ?_
  obtain ⟨z6, hz6, hF⟩ := bindE hF
  refine loopI (Int × (List (List Int))) (Sum Unit (List (List Int))) (fun x => ⟨[(1, .raw false [(.ptr 0 0)]), (4, .raw false [(.osl 1)]), (14, .dat (.sl (.p .str (.p (.int .i64) (.int .i64)))) n.2), (15, .dat (.int .i64) (List.length n.2 : Int)), (16, .dat (.int .i64) x.1)], [(0, .cells [(.d (.sl (.int .i64)) n.1), (.d (.sl (.p .str (.p (.int .i64) (.int .i64)))) n.2)]), (1, .arr 23 (.sl (.int .i64)) x.2)], 2⟩) (fun z => Sum.elim (fun za => [(1, ⟨[(2, .raw false [(.c (.slice none 0 0))]), (3, .dat .bool false)], [], 0⟩)]) (fun zb => [(2, ⟨[(4, .raw false [(.osl 0)])], [(0, .arr 23 (.sl (.int .i64)) zb)], 1⟩)]) z) (loopF (fun go x => f35_l3 n go x.1 x.2)) fuelN ((0 : Int), [r1]) z6 (And.intro hz6 (And.intro (Exists.intro [] (Exists.intro [] (Exists.intro [] (Exists.intro [] (Exists.intro [(0, some 0), (1, some 2)] (And.intro rfl (And.intro rfl (And.intro rfl (And.intro rfl (And.intro (And.intro rfl (And.intro rfl trivial)) (And.intro rfl (And.intro rfl trivial)))))))))))) (And.intro (fun _ _ h => loopZ h) (And.intro (fun m => curI (fun v16 => fun l1 z hF => ?_)) ?_))))
  · have hF : f35_l3 n (loopF (fun go x => f35_l3 n go x.1 x.2) m) v16 l1 = some z := hF
    unfold f35_l3 at hF
    refine Or.inl ?_
    refine Or.inl ?_
    refine condI hF (fun hF => ?_) (fun hF => ?_)
    · refine Or.inl ?_
      refine Or.inl ?_
      refine guardI hF (fun hF => ?_)
      refine Or.inl ?_
      refine Or.inl ?_
      refine Exists.intro (.take 0 (.take 1 (.take 2 (.take 3 (.take 4 (.alt 5 (.take 6 (.take 7 (.take 8 (.take 9 (.take 10 .done))))) .done)))))) (Exists.intro [] (Exists.intro [] (And.intro rfl ?_)))
      refine guardI hF (fun hF => ?_)
      refine And.intro trivial ?_
      obtain ⟨q5_5, hq5_5, hF⟩ := bindE hF
      refine Or.inl (And.intro f62_in (callV0 (callI C62 (((rd (Ty.z (.p .str (.p (.int .i64) (.int .i64)))) n.2 v16).1, ((rd (Ty.z (.p .str (.p (.int .i64) (.int .i64)))) n.2 v16).2).1, ((rd (Ty.z (.p .str (.p (.int .i64) (.int .i64)))) n.2 v16).2).2), (rd (Ty.z (.sl (.int .i64))) l1 v16)) q5_5 [] false C62_holds hq5_5 rfl rfl ?_)))
      refine (And.intro rfl (And.intro rfl (And.intro rfl (And.intro (fun h => nomatch h) (And.intro rfl (And.intro rfl (And.intro trivial (And.intro trivial ?_))))))))
      obtain ⟨z7, hz7, hF⟩ := bindE hF
      refine Or.inr ⟨Sum.elim (fun z7a => [(0, ⟨[(1, .raw false [(.ptr 0 0)]), (4, .raw false [(.osl 1)]), (7, .raw false [(.osl 2)]), (14, .dat (.sl (.p .str (.p (.int .i64) (.int .i64)))) n.2), (15, .dat (.int .i64) (List.length n.2 : Int)), (16, .dat (.int .i64) v16)], [(0, .cells [(.d (.sl (.int .i64)) n.1), (.d (.sl (.p .str (.p (.int .i64) (.int .i64)))) n.2)]), (1, .arr 23 (.sl (.int .i64)) l1), (2, .arr 3 (.int .i64) q5_5.2)], 3⟩)]) (fun z7b => [(1, ⟨[(2, .raw false [(.c (.slice none 0 0))]), (3, .dat .bool false)], [], 0⟩)]) z7, ?_, ?_⟩
      · have hF := hz7
        clear hz7
        unfold f35_j4 at hF
        refine Or.inl ?_
        refine condN hF (fun hF => ?_) (fun hF => ?_)
        · refine gdYF ?_
          refine gdYF ?_
          refine gdYF ?_
          refine condI hF (fun hF => ?_) (fun hF => ?_)
          · refine gdYT ?_
            refine gdYT ?_
            refine gdYT ?_
            obtain ⟨r8, hr8, hF⟩ := bindE hF
            refine Or.inl (And.intro f63_in (callV0 (callI C63 ((n.1, n.2), v16, l1) r8 [] true C63_holds hr8 rfl rfl ?_)))
            refine (And.intro rfl (And.intro rfl (And.intro rfl (And.intro rfl (And.intro (fun _ => rfl) (And.intro rfl (And.intro rfl (And.intro trivial (And.intro trivial ?_)))))))))
            refine gdYT ?_
            refine gdYF ?_
            refine condT ?_
            refine condF ?_
            refine condI hF (fun hF => ?_) (fun hF => ?_)
            · refine Or.inl ?_
              have hz := someE hF
              subst hz
              refine Exists.intro [] (Exists.intro [] (Exists.intro [] (Exists.intro [] (Exists.intro [] (And.intro rfl (And.intro rfl (And.intro (And.intro rfl trivial) trivial)))))))
            · have hz := someE hF
              subst hz
              refine Exists.intro [] (Exists.intro [] (Exists.intro [] (Exists.intro [] (Exists.intro [(0, some 0), (1, some 1), (2, some 3)] (And.intro rfl (And.intro rfl (And.intro rfl (And.intro rfl (And.intro (And.intro rfl (And.intro rfl (And.intro rfl trivial))) (And.intro rfl (And.intro rfl (And.intro rfl trivial))))))))))))
          · refine gdNT ?_
            refine gdNT ?_
            refine gdNT ?_
            refine gdNT ?_
            refine gdYF ?_
            refine condF ?_
            refine condF ?_
            refine condF ?_
            have hz := someE hF
            subst hz
            refine Exists.intro [] (Exists.intro [] (Exists.intro [] (Exists.intro [] (Exists.intro [(0, some 0), (1, some 1), (2, some 3)] (And.intro rfl (And.intro rfl (And.intro rfl (And.intro rfl (And.intro (And.intro rfl (And.intro rfl (And.intro rfl trivial))) (And.intro rfl (And.intro rfl (And.intro rfl trivial))))))))))))
        · refine gdNF ?_
          refine gdNF ?_
          refine gdNF ?_
          refine gdNF ?_
          refine condT ?_
          refine condT ?_
          refine Or.inl ?_
          have hz := someE hF
          subst hz
          refine Exists.intro [] (Exists.intro [] (Exists.intro [] (Exists.intro [] (Exists.intro [] (And.intro rfl (And.intro rfl (And.intro (And.intro rfl trivial) trivial)))))))
      · rcases z7 with z7a | z7b
        · dsimp only [sumF] at hF
          refine And.intro ?_ trivial
          refine Or.inl ?_
          refine Or.inl ?_
          refine guardI hF (fun hF => ?_)
          refine Exists.intro ((IntKind.i64.wrap (v16 + (1 : Int))), (l1 ++ ([q5_5.2]))) (And.intro hF (Exists.intro [] (Exists.intro [] (Exists.intro [] (Exists.intro [] (Exists.intro [(0, some 0), (1, some 4)] (And.intro rfl (And.intro rfl (And.intro rfl (And.intro rfl (And.intro (And.intro rfl (And.intro rfl trivial)) (And.intro rfl (And.intro rfl trivial)))))))))))))
        · dsimp only [sumF] at hF
          refine And.intro ?_ trivial
          have hz := someE hF
          subst hz
          refine Exists.intro [] (Exists.intro [] (Exists.intro [] (Exists.intro [] (Exists.intro [] (And.intro rfl (And.intro rfl (And.intro (And.intro rfl trivial) trivial)))))))
    · have hz := someE hF
      subst hz
      refine Exists.intro [] (Exists.intro [] (Exists.intro [] (Exists.intro [] (Exists.intro [(0, some 1)] (And.intro rfl (And.intro (And.intro rfl trivial) (And.intro rfl trivial)))))))
  · rcases z6 with z6a | z6b
    · dsimp only [sumF] at hF
      refine And.intro ?_ trivial
      have hy := someE hF
      subst hy
      refine And.intro rfl (Exists.intro [] (Exists.intro [] (Exists.intro [] (Exists.intro [] (Exists.intro [(0, none)] (And.intro rfl (And.intro rfl (And.intro (And.intro rfl trivial) (And.intro rfl trivial)))))))))
    · dsimp only [sumF] at hF
      refine And.intro ?_ trivial
      refine Or.inl ?_
      have hy := someE hF
      subst hy
      refine And.intro rfl (Exists.intro [] (Exists.intro [] (Exists.intro [] (Exists.intro [] (Exists.intro [(0, some 0)] (And.intro rfl (And.intro rfl (And.intro (And.intro rfl trivial) (And.intro rfl trivial)))))))))
theorem C35_holds : C35.Holds Tryz.prog 35 := holds_of_vc tab_ok mixed (fn := Tryz.f35) (by kernel_rfl) rfl C35 (fun x y hF => C35_vc x y hF)
theorem f35_in : ∃ fn, Tryz.prog.funcs[35]? = some fn ∧ fn.body.isSome = true ∧ (fn.name == "runtime.NumGoroutine") = false := ⟨Tryz.f35, by kernel_rfl, by kernel_rfl, by kernel_rfl⟩
end Go.Proofs
namespace Go.Proofs
open Go.AM
-- carousel/model.product
def f42_l1 (d : List Int) (go : (Int × Int) → Option Int) (n : Int) (v8 : Int) : Option Int :=
  bif (decide (v8 < (List.length d : Int))) then
    guardF (0 ≤ v8 ∧ v8 < (List.length d : Int)) <|
    go ((IntKind.i64.wrap (n * (rd (0 : Int) d v8))), (IntKind.i64.wrap (v8 + (1 : Int))))
  else
    some n
def f42 (d : List Int) : Option Int :=
  bindF (loopF (fun go x => f42_l1 d go x.1 x.2) fuelN ((1 : Int), (0 : Int))) fun z1 =>
  some z1
def C42 : Con where
  X := List Int
  Y := Int
  e := 0
  args x := [.dat (.sl (.int .i64)) x]
  hin x := []
  F x := f42 x
  ret y := [.dat (.int .i64) y]
  hout y := []
  nout := 0
theorem C42_vc (d : List Int) (y : Int) (hF : f42 d = some y) : vc Tryz.prog tab Tryz.f42.ntmps 0 (match Tryz.f42.body with | some c => c | none => .skip) (retK tab C42 Tryz.f42.results.toList y) (C42.shIn d).st := by
  unfold f42 at hF
  refine Or.inl ?_
  refine Or.inl ?_
  refine Or.inl ?_
  refine Or.inl ?_
  obtain ⟨z1, hz1, hF⟩ := bindE hF
  refine loopI (Int × Int) Int (fun x => ⟨[(3, .dat (.int .i64) x.1), (6, .dat (.sl (.int .i64)) d), (7, .dat (.int .i64) (List.length d : Int)), (8, .dat (.int .i64) x.2)], [], 0⟩) (fun z => [(2, ⟨[(3, .dat (.int .i64) z)], [], 0⟩)]) (loopF (fun go x => f42_l1 d go x.1 x.2)) fuelN ((1 : Int), (0 : Int)) z1 (And.intro hz1 (And.intro (Exists.intro [] (Exists.intro [] (Exists.intro [] (Exists.intro [] (Exists.intro [] (And.intro rfl (And.intro rfl (And.intro rfl (And.intro rfl (And.intro rfl (And.intro trivial trivial))))))))))) (And.intro (fun _ _ h => loopZ h) (And.intro (fun m => curI (fun n => fun v8 z hF => ?_)) ?_))))
  · have hF : f42_l1 d (loopF (fun go x => f42_l1 d go x.1 x.2) m) n v8 = some z := hF
    unfold f42_l1 at hF
    refine Or.inl ?_
    refine Or.inl ?_
    refine condI hF (fun hF => ?_) (fun hF => ?_)
    · refine Or.inl ?_
      refine Or.inl ?_
      refine guardI hF (fun hF => ?_)
      refine Exists.intro ((IntKind.i64.wrap (n * (rd (0 : Int) d v8))), (IntKind.i64.wrap (v8 + (1 : Int)))) (And.intro hF (Exists.intro [] (Exists.intro [] (Exists.intro [] (Exists.intro [] (Exists.intro [] (And.intro rfl (And.intro rfl (And.intro rfl (And.intro rfl (And.intro rfl (And.intro trivial trivial))))))))))))
    · have hz := someE hF
      subst hz
      refine Exists.intro [] (Exists.intro [] (Exists.intro [] (Exists.intro [] (Exists.intro [] (And.intro rfl (And.intro rfl (And.intro trivial trivial)))))))
  · refine And.intro ?_ trivial
    refine Or.inl ?_
    have hy := someE hF
    subst hy
    refine And.intro rfl (Exists.intro [] (Exists.intro [] (Exists.intro [] (Exists.intro [] (Exists.intro [] (And.intro rfl (And.intro rfl (And.intro trivial trivial))))))))
theorem C42_holds : C42.Holds Tryz.prog 42 := holds_of_vc tab_ok mixed (fn := Tryz.f42) (by kernel_rfl) rfl C42 (fun x y hF => C42_vc x y hF)
theorem f42_in : ∃ fn, Tryz.prog.funcs[42]? = some fn ∧ fn.body.isSome = true ∧ (fn.name == "runtime.NumGoroutine") = false := ⟨Tryz.f42, by kernel_rfl, by kernel_rfl, by kernel_rfl⟩
end Go.Proofs
namespace Go.Proofs
open Go.AM
-- (carousel/model.Layer).params
def f64 (l : ByteArray × Int × Int) (in_ : List Int) : Option (List (List Int)) :=
  bif (ByteArray.toList l.1 == ByteArray.toList (ByteArray.mk #[100, 101, 110, 115, 101])) then
    bindF (f42 in_) fun q3_3 =>
    some ([[l.2.1, q3_3], [l.2.1]])
  else
    bif (ByteArray.toList l.1 == ByteArray.toList (ByteArray.mk #[99, 111, 110, 118])) then
      guardF (0 ≤ (0 : Int) ∧ (0 : Int) < (List.length in_ : Int)) <|
      some ([[l.2.1, (rd (0 : Int) in_ (0 : Int)), l.2.2]])
    else
      some ([])
def C64 : Con where
  X := (ByteArray × Int × Int) × (List Int)
  Y := List (List Int)
  e := 0
  args x := [.dat (.p .str (.p (.int .i64) (.int .i64))) x.1, .dat (.sl (.int .i64)) x.2]
  hin x := []
  F x := f64 x.1 x.2
  ret y := [.raw false [(.osl 0)]]
  hout y := [(0, .arr 23 (.sl (.int .i64)) y)]
  nout := 1
theorem C64_vc (l : ByteArray × Int × Int) (in_ : List Int) (y : List (List Int)) (hF : f64 l in_ = some y) : vc Tryz.prog tab Tryz.f64.ntmps 0 (match Tryz.f64.body with | some c => c | none => .skip) (retK tab C64 Tryz.f64.results.toList y) (C64.shIn (l, in_)).st := by
  unfold f64 at hF
  refine Or.inl ?_
  refine Or.inl ?_
  refine Or.inl ?_
  refine Or.inl ?_
  refine condI hF (fun hF => ?_) (fun hF => ?_)
  · refine Or.inl ?_
    obtain ⟨q3_3, hq3_3, hF⟩ := bindE hF
    refine Exists.intro (.take 0 (.take 1 (.take 2 (.take 5 (.take 6 (.alt 3 (.alt 4 (.alt 7 (.alt 8 (.take 9 .done) .done) .done) (.alt 7 (.alt 4 (.alt 8 (.take 9 .done) .done) .done) .done)) (.alt 7 (.alt 3 (.alt 4 (.alt 8 (.take 9 .done) .done) .done) .done) .done))))))) (Exists.intro [] (Exists.intro [] (And.intro rfl ?_)))
    refine And.intro (And.intro trivial ?_) ?_
    · refine Or.inl ?_
      refine And.intro trivial ?_
      refine Or.inl (And.intro f42_in (callV0 (callI C42 in_ q3_3 [] false C42_holds hq3_3 rfl rfl ?_)))
      refine (And.intro rfl (And.intro (fun h => nomatch h) (And.intro rfl (And.intro rfl (And.intro trivial (And.intro trivial ?_))))))
      refine And.intro trivial ?_
      refine Or.inl ?_
      refine And.intro trivial ?_
      refine Or.inl ?_
      have hy := someE hF
      subst hy
      refine And.intro rfl (Exists.intro [] (Exists.intro [] (Exists.intro [] (Exists.intro [] (Exists.intro [(0, some 3)] (And.intro rfl (And.intro (And.intro rfl trivial) (And.intro rfl trivial))))))))
    · refine Or.inl (And.intro f42_in (callV0 (callI C42 in_ q3_3 [] false C42_holds hq3_3 rfl rfl ?_)))
      refine (And.intro rfl (And.intro (fun h => nomatch h) (And.intro rfl (And.intro rfl (And.intro trivial (And.intro trivial ?_))))))
      refine And.intro (And.intro trivial ?_) ?_
      · refine Or.inl ?_
        refine And.intro trivial ?_
        refine Or.inl ?_
        refine And.intro trivial ?_
        refine Or.inl ?_
        have hy := someE hF
        subst hy
        refine And.intro rfl (Exists.intro [] (Exists.intro [] (Exists.intro [] (Exists.intro [] (Exists.intro [(0, some 3)] (And.intro rfl (And.intro (And.intro rfl trivial) (And.intro rfl trivial))))))))
      · refine Or.inl ?_
        refine And.intro trivial ?_
        refine Or.inl ?_
        refine And.intro trivial ?_
        refine Or.inl ?_
        have hy := someE hF
        subst hy
        refine And.intro rfl (Exists.intro [] (Exists.intro [] (Exists.intro [] (Exists.intro [] (Exists.intro [(0, some 3)] (And.intro rfl (And.intro (And.intro rfl trivial) (And.intro rfl trivial))))))))
  · refine Or.inl ?_
    refine condI hF (fun hF => ?_) (fun hF => ?_)
    · refine Or.inl ?_
      refine Exists.intro (.take 0 (.take 1 (.take 2 (.take 3 (.take 4 (.take 5 (.take 6 (.alt 7 (.alt 8 (.take 9 .done) .done) .done)))))))) (Exists.intro [] (Exists.intro [] (And.intro rfl ?_)))
      refine guardI hF (fun hF => ?_)
      refine And.intro trivial ?_
      refine Or.inl ?_
      refine And.intro trivial ?_
      refine Or.inl ?_
      have hy := someE hF
      subst hy
      refine And.intro rfl (Exists.intro [] (Exists.intro [] (Exists.intro [] (Exists.intro [] (Exists.intro [(0, some 2)] (And.intro rfl (And.intro (And.intro rfl trivial) (And.intro rfl trivial))))))))
    · refine Or.inl ?_
      have hy := someE hF
      subst hy
      refine And.intro rfl (Exists.intro [] (Exists.intro [] (Exists.intro [] (Exists.intro [] (Exists.intro [(0, none)] (And.intro rfl (And.intro (And.intro rfl trivial) (And.intro rfl trivial))))))))
theorem C64_holds : C64.Holds Tryz.prog 64 := holds_of_vc tab_ok mixed (fn := Tryz.f64) (by kernel_rfl) rfl C64 (fun x y hF => C64_vc x.1 x.2 y hF)
theorem f64_in : ∃ fn, Tryz.prog.funcs[64]? = some fn ∧ fn.body.isSome = true ∧ (fn.name == "runtime.NumGoroutine") = false := ⟨Tryz.f64, by kernel_rfl, by kernel_rfl, by kernel_rfl⟩
end Go.Proofs
namespace Go.Proofs
open Go.AM
-- carousel/shape.product
def f89_j4 (d : List Int) (v11 : Int) : Option (Sum Unit Unit) :=
  bif (decide ((rd (0 : Int) d v11) < (1 : Int))) then
    some (Sum.inr ())
  else
    bif (decide ((rd (0 : Int) d v11) > (4096 : Int))) then
      some (Sum.inr ())
    else
      some (Sum.inl ())
def f89_l3 (d : List Int) (go : (Int × Int) → Option (Sum Unit Int)) (n : Int) (v11 : Int) : Option (Sum Unit Int) :=
  bif (decide (v11 < (List.length d : Int))) then
    guardF (0 ≤ v11 ∧ v11 < (List.length d : Int)) <|
    bindF (f89_j4 d v11) fun z4 =>
    sumF z4 (fun z4a =>
      bif (decide ((IntKind.i64.wrap (n * (rd (0 : Int) d v11))) > (4096 : Int))) then
        some (Sum.inl ())
      else
        go ((IntKind.i64.wrap (n * (rd (0 : Int) d v11))), (IntKind.i64.wrap (v11 + (1 : Int))))) (fun z4b =>
      some (Sum.inl ()))
  else
    some (Sum.inr n)
def f89 (d : List Int) : Option Int :=
  bif (decide ((List.length d : Int) > (4 : Int))) then
    some (0 : Int)
  else
    bindF (loopF (fun go x => f89_l3 d go x.1 x.2) fuelN ((1 : Int), (0 : Int))) fun z3 =>
    sumF z3 (fun z3a =>
      some (0 : Int)) (fun z3b =>
      some z3b)
def C89 : Con where
  X := List Int
  Y := Int
  e := 0
  args x := [.dat (.sl (.int .i64)) x]
  hin x := []
  F x := f89 x
  ret y := [.dat (.int .i64) y]
  hout y := []
  nout := 0
theorem C89_vc (d : List Int) (y : Int) (hF : f89 d = some y) : vc Tryz.prog tab Tryz.f89.ntmps 0 (match Tryz.f89.body with | some c => c | none => .skip) (retK tab C89 Tryz.f89.results.toList y) (C89.shIn d).st := by
  unfold f89 at hF
  refine Or.inl ?_
  refine Or.inl ?_
  refine Or.inl ?_
  refine condI hF (fun hF => ?_) (fun hF => ?_)
  · refine Or.inl ?_
    have hy := someE hF
    subst hy
    refine And.intro rfl (Exists.intro [] (Exists.intro [] (Exists.intro [] (Exists.intro [] (Exists.intro [] (And.intro rfl (And.intro rfl (And.intro trivial trivial))))))))
  · refine Or.inl ?_
    refine Or.inl ?_
    refine Or.inl ?_
    obtain ⟨z3, hz3, hF⟩ := bindE hF
    refine loopI (Int × Int) (Sum Unit Int) (fun x => ⟨[(3, .dat (.int .i64) x.1), (9, .dat (.sl (.int .i64)) d), (10, .dat (.int .i64) (List.length d : Int)), (11, .dat (.int .i64) x.2)], [], 0⟩) (fun z => Sum.elim (fun za => [(1, ⟨[(2, .dat (.int .i64) (0 : Int))], [], 0⟩)]) (fun zb => [(2, ⟨[(3, .dat (.int .i64) zb)], [], 0⟩)]) z) (loopF (fun go x => f89_l3 d go x.1 x.2)) fuelN ((1 : Int), (0 : Int)) z3 (And.intro hz3 (And.intro (Exists.intro [] (Exists.intro [] (Exists.intro [] (Exists.intro [] (Exists.intro [] (And.intro rfl (And.intro rfl (And.intro rfl (And.intro rfl (And.intro rfl (And.intro trivial trivial))))))))))) (And.intro (fun _ _ h => loopZ h) (And.intro (fun m => curI (fun n => fun v11 z hF => ?_)) ?_))))
    · have hF : f89_l3 d (loopF (fun go x => f89_l3 d go x.1 x.2) m) n v11 = some z := hF
      unfold f89_l3 at hF
      refine Or.inl ?_
      refine Or.inl ?_
      refine condI hF (fun hF => ?_) (fun hF => ?_)
      · refine Or.inl ?_
        refine Or.inl ?_
        refine guardI hF (fun hF => ?_)
        obtain ⟨z4, hz4, hF⟩ := bindE hF
        refine Or.inr ⟨Sum.elim (fun z4a => [(0, ⟨[(3, .dat (.int .i64) n), (5, .dat (.int .i64) (rd (0 : Int) d v11)), (9, .dat (.sl (.int .i64)) d), (10, .dat (.int .i64) (List.length d : Int)), (11, .dat (.int .i64) v11)], [], 0⟩)]) (fun z4b => [(1, ⟨[(2, .dat (.int .i64) (0 : Int))], [], 0⟩)]) z4, ?_, ?_⟩
        · have hF := hz4
          clear hz4
          unfold f89_j4 at hF
          refine Or.inl ?_
          refine condN hF (fun hF => ?_) (fun hF => ?_)
          · refine gdYF ?_
            refine condF ?_
            refine condI hF (fun hF => ?_) (fun hF => ?_)
            · refine Or.inl ?_
              have hz := someE hF
              subst hz
              refine Exists.intro [] (Exists.intro [] (Exists.intro [] (Exists.intro [] (Exists.intro [] (And.intro rfl (And.intro rfl (And.intro trivial trivial)))))))
            · have hz := someE hF
              subst hz
              refine Exists.intro [] (Exists.intro [] (Exists.intro [] (Exists.intro [] (Exists.intro [] (And.intro rfl (And.intro rfl (And.intro rfl (And.intro rfl (And.intro rfl (And.intro rfl (And.intro trivial trivial)))))))))))
          · refine gdNF ?_
            refine condT ?_
            refine condT ?_
            refine Or.inl ?_
            have hz := someE hF
            subst hz
            refine Exists.intro [] (Exists.intro [] (Exists.intro [] (Exists.intro [] (Exists.intro [] (And.intro rfl (And.intro rfl (And.intro trivial trivial)))))))
        · rcases z4 with z4a | z4b
          · dsimp only [sumF] at hF
            refine And.intro ?_ trivial
            refine Or.inl ?_
            refine Or.inl ?_
            refine condI hF (fun hF => ?_) (fun hF => ?_)
            · refine Or.inl ?_
              have hz := someE hF
              subst hz
              refine Exists.intro [] (Exists.intro [] (Exists.intro [] (Exists.intro [] (Exists.intro [] (And.intro rfl (And.intro rfl (And.intro trivial trivial)))))))
            · refine Exists.intro ((IntKind.i64.wrap (n * (rd (0 : Int) d v11))), (IntKind.i64.wrap (v11 + (1 : Int)))) (And.intro hF (Exists.intro [] (Exists.intro [] (Exists.intro [] (Exists.intro [] (Exists.intro [] (And.intro rfl (And.intro rfl (And.intro rfl (And.intro rfl (And.intro rfl (And.intro trivial trivial))))))))))))
          · dsimp only [sumF] at hF
            refine And.intro ?_ trivial
            have hz := someE hF
            subst hz
            refine Exists.intro [] (Exists.intro [] (Exists.intro [] (Exists.intro [] (Exists.intro [] (And.intro rfl (And.intro rfl (And.intro trivial trivial)))))))
      · have hz := someE hF
        subst hz
        refine Exists.intro [] (Exists.intro [] (Exists.intro [] (Exists.intro [] (Exists.intro [] (And.intro rfl (And.intro rfl (And.intro trivial trivial)))))))
    · rcases z3 with z3a | z3b
      · dsimp only [sumF] at hF
        refine And.intro ?_ trivial
        have hy := someE hF
        subst hy
        refine And.intro rfl (Exists.intro [] (Exists.intro [] (Exists.intro [] (Exists.intro [] (Exists.intro [] (And.intro rfl (And.intro rfl (And.intro trivial trivial))))))))
      · dsimp only [sumF] at hF
        refine And.intro ?_ trivial
        refine Or.inl ?_
        have hy := someE hF
        subst hy
        refine And.intro rfl (Exists.intro [] (Exists.intro [] (Exists.intro [] (Exists.intro [] (Exists.intro [] (And.intro rfl (And.intro rfl (And.intro trivial trivial))))))))
theorem C89_holds : C89.Holds Tryz.prog 89 := holds_of_vc tab_ok mixed (fn := Tryz.f89) (by kernel_rfl) rfl C89 (fun x y hF => C89_vc x y hF)
theorem f89_in : ∃ fn, Tryz.prog.funcs[89]? = some fn ∧ fn.body.isSome = true ∧ (fn.name == "runtime.NumGoroutine") = false := ⟨Tryz.f89, by kernel_rfl, by kernel_rfl, by kernel_rfl⟩
end Go.Proofs
namespace Go.Proofs
open Go.AM
-- carousel/shape.Good
def f65 (d : List Int) : Option Bool :=
  bindF (f89 d) fun r1 =>
  some (decide (r1 > (0 : Int)))
def C65 : Con where
  X := List Int
  Y := Bool
  e := 0
  args x := [.dat (.sl (.int .i64)) x]
  hin x := []
  F x := f65 x
  ret y := [.dat .bool y]
  hout y := []
  nout := 0
theorem C65_vc (d : List Int) (y : Bool) (hF : f65 d = some y) : vc Tryz.prog tab Tryz.f65.ntmps 0 (match Tryz.f65.body with | some c => c | none => .skip) (retK tab C65 Tryz.f65.results.toList y) (C65.shIn d).st := by
  unfold f65 at hF
  refine Or.inl ?_
  refine Or.inl ?_
  obtain ⟨r1, hr1, hF⟩ := bindE hF
  refine Or.inl (And.intro f89_in (callV0 (callI C89 d r1 [] false C89_holds hr1 rfl rfl ?_)))
  refine (And.intro rfl (And.intro (fun h => nomatch h) (And.intro rfl (And.intro rfl (And.intro trivial (And.intro trivial ?_))))))
  have hy := someE hF
  subst hy
  refine And.intro rfl (Exists.intro [] (Exists.intro [] (Exists.intro [] (Exists.intro [] (Exists.intro [] (And.intro rfl (And.intro rfl (And.intro trivial trivial))))))))
theorem C65_holds : C65.Holds Tryz.prog 65 := holds_of_vc tab_ok mixed (fn := Tryz.f65) (by kernel_rfl) rfl C65 (fun x y hF => C65_vc x y hF)
theorem f65_in : ∃ fn, Tryz.prog.funcs[65]? = some fn ∧ fn.body.isSome = true ∧ (fn.name == "runtime.NumGoroutine") = false := ⟨Tryz.f65, by kernel_rfl, by kernel_rfl, by kernel_rfl⟩
end Go.Proofs
