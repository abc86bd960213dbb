import Derived.Test.YtgkmdgdkmgkelaaGreatFb
set_option linter.unusedVariables false
set_option maxRecDepth 100000
set_option maxHeartbeats 8000000
namespace Go.Proofs
open Go.AM
-- carousel/carousellaw14.line
def f9 : Option Unit :=
  some ()
def C9 : Con where
  X := Unit
  Y := Unit
  e := 0
  args x := []
  hin x := []
  F x := f9
  ret y := [.raw true [(.osl 0), (.osl 1)]]
  hout y := [(0, .arr 3 (.int .i64) ([(1 : Int)])), (1, .arr 50 (.p .str (.p (.int .i64) (.int .i64))) ([((ByteArray.mk #[100, 101, 110, 115, 101]), (1 : Int), (0 : Int))]))]
  nout := 2
theorem C9_vc (y : Unit) (hF : f9 = some y) : vc Tryz.prog tab Tryz.f9.ntmps 0 (match Tryz.f9.body with | some c => c | none => .skip) (retK tab C9 Tryz.f9.results.toList y) (C9.shIn ()).st := by
  unfold f9 at hF
  refine Or.inl ?_
  refine Or.inl ?_
  refine Or.inl ?_
  refine Or.inl ?_
  refine Or.inl ?_
  have hy := someE hF
  subst hy
  refine And.intro rfl (Exists.intro [] (Exists.intro [] (Exists.intro [] (Exists.intro [] (Exists.intro [(0, some 1), (1, some 2)] (And.intro rfl (And.intro (And.intro rfl trivial) (And.intro rfl (And.intro rfl trivial)))))))))
theorem C9_holds : C9.Holds Tryz.prog 9 := holds_of_vc tab_ok mixed (fn := Tryz.f9) (by kernel_rfl) rfl C9 (fun x y hF => C9_vc y hF)
theorem f9_in : ∃ fn, Tryz.prog.funcs[9]? = some fn ∧ fn.body.isSome = true ∧ (fn.name == "runtime.NumGoroutine") = false := ⟨Tryz.f9, by kernel_rfl, by kernel_rfl, by kernel_rfl⟩
end Go.Proofs
namespace Go.Proofs
open Go.AM
-- carousel/model.counts
def f135_j1 (kind : ByteArray) : Option Bool :=
  bif (ByteArray.toList kind == ByteArray.toList (ByteArray.mk #[100, 101, 110, 115, 101])) then
    some (ByteArray.toList kind == ByteArray.toList (ByteArray.mk #[100, 101, 110, 115, 101]))
  else
    bif (ByteArray.toList kind == ByteArray.toList (ByteArray.mk #[112, 111, 111, 108])) then
      some (ByteArray.toList kind == ByteArray.toList (ByteArray.mk #[112, 111, 111, 108]))
    else
      some (ByteArray.toList kind == ByteArray.toList (ByteArray.mk #[98, 101, 110, 100]))
def f135 (kind : ByteArray) : Option Int :=
  bindF (f135_j1 kind) fun z1 =>
  bif z1 then
    some (1 : Int)
  else
    bif (ByteArray.toList kind == ByteArray.toList (ByteArray.mk #[99, 111, 110, 118])) then
      some (2 : Int)
    else
      bif (ByteArray.toList kind == ByteArray.toList (ByteArray.mk #[115, 107, 105, 112])) then
        some (0 : Int)
      else
        some (-1 : Int)
def C135 : Con where
  X := ByteArray
  Y := Int
  e := 0
  args x := [.dat .str x]
  hin x := []
  F x := f135 x
  ret y := [.dat (.int .i64) y]
  hout y := []
  nout := 0
theorem C135_vc (kind : ByteArray) (y : Int) (hF : f135 kind = some y) : vc Tryz.prog tab Tryz.f135.ntmps 0 (match Tryz.f135.body with | some c => c | none => .skip) (retK tab C135 Tryz.f135.results.toList y) (C135.shIn kind).st := by
  unfold f135 at hF
  refine Or.inl ?_
  refine Or.inl ?_
  refine Or.inl ?_
  obtain ⟨z1, hz1, hF⟩ := bindE hF
  refine Or.inr ⟨[(0, ⟨[(3, .dat .str kind), (4, .dat .bool z1)], [], 0⟩)], ?_, ?_⟩
  · have hF := hz1
    clear hz1
    unfold f135_j1 at hF
    refine Or.inl ?_
    refine condI hF (fun hF => ?_) (fun hF => ?_)
    · have hz := someE hF
      subst hz
      refine Exists.intro [] (Exists.intro [] (Exists.intro [] (Exists.intro [] (Exists.intro [] (And.intro rfl (And.intro rfl (And.intro rfl (And.intro trivial trivial))))))))
    · refine Or.inl ?_
      refine condI hF (fun hF => ?_) (fun hF => ?_)
      · have hz := someE hF
        subst hz
        refine Exists.intro [] (Exists.intro [] (Exists.intro [] (Exists.intro [] (Exists.intro [] (And.intro rfl (And.intro rfl (And.intro rfl (And.intro trivial trivial))))))))
      · have hz := someE hF
        subst hz
        refine Exists.intro [] (Exists.intro [] (Exists.intro [] (Exists.intro [] (Exists.intro [] (And.intro rfl (And.intro rfl (And.intro rfl (And.intro trivial trivial))))))))
  · refine And.intro ?_ trivial
    refine condI hF (fun hF => ?_) (fun hF => ?_)
    · refine Or.inl ?_
      have hy := someE hF
      subst hy
      refine And.intro rfl (Exists.intro [] (Exists.intro [] (Exists.intro [] (Exists.intro [] (Exists.intro [] (And.intro rfl (And.intro rfl (And.intro trivial trivial))))))))
    · refine Or.inl ?_
      refine condI hF (fun hF => ?_) (fun hF => ?_)
      · refine Or.inl ?_
        have hy := someE hF
        subst hy
        refine And.intro rfl (Exists.intro [] (Exists.intro [] (Exists.intro [] (Exists.intro [] (Exists.intro [] (And.intro rfl (And.intro rfl (And.intro trivial trivial))))))))
      · refine Or.inl ?_
        refine condI hF (fun hF => ?_) (fun hF => ?_)
        · refine Or.inl ?_
          have hy := someE hF
          subst hy
          refine And.intro rfl (Exists.intro [] (Exists.intro [] (Exists.intro [] (Exists.intro [] (Exists.intro [] (And.intro rfl (And.intro rfl (And.intro trivial trivial))))))))
        · refine Or.inl ?_
          have hy := someE hF
          subst hy
          refine And.intro rfl (Exists.intro [] (Exists.intro [] (Exists.intro [] (Exists.intro [] (Exists.intro [] (And.intro rfl (And.intro rfl (And.intro trivial trivial))))))))
theorem C135_holds : C135.Holds Tryz.prog 135 := holds_of_vc tab_ok mixed (fn := Tryz.f135) (by kernel_rfl) rfl C135 (fun x y hF => C135_vc x y hF)
theorem f135_in : ∃ fn, Tryz.prog.funcs[135]? = some fn ∧ fn.body.isSome = true ∧ (fn.name == "runtime.NumGoroutine") = false := ⟨Tryz.f135, by kernel_rfl, by kernel_rfl, by kernel_rfl⟩
end Go.Proofs
namespace Go.Proofs
open Go.AM
-- carousel/model.within
def f100 (v : Int) (most : Int) : Option Bool :=
  bif (decide (v ≥ (1 : Int))) then
    some (decide (v ≤ most))
  else
    some false
def C100 : Con where
  X := Int × Int
  Y := Bool
  e := 0
  args x := [.dat (.int .i64) x.1, .dat (.int .i64) x.2]
  hin x := []
  F x := f100 x.1 x.2
  ret y := [.dat .bool y]
  hout y := []
  nout := 0
theorem C100_vc (v : Int) (most : Int) (y : Bool) (hF : f100 v most = some y) : vc Tryz.prog tab Tryz.f100.ntmps 0 (match Tryz.f100.body with | some c => c | none => .skip) (retK tab C100 Tryz.f100.results.toList y) (C100.shIn (v, most)).st := by
  unfold f100 at hF
  refine Or.inl ?_
  refine Or.inl ?_
  refine condI hF (fun hF => ?_) (fun hF => ?_)
  · refine gdYT ?_
    refine gdYT ?_
    refine condT ?_
    have hy := someE hF
    subst hy
    refine And.intro rfl (Exists.intro [] (Exists.intro [] (Exists.intro [] (Exists.intro [] (Exists.intro [] (And.intro rfl (And.intro rfl (And.intro trivial trivial))))))))
  · refine gdNT ?_
    refine gdNT ?_
    refine condF ?_
    have hy := someE hF
    subst hy
    refine And.intro rfl (Exists.intro [] (Exists.intro [] (Exists.intro [] (Exists.intro [] (Exists.intro [] (And.intro rfl (And.intro rfl (And.intro trivial trivial))))))))
theorem C100_holds : C100.Holds Tryz.prog 100 := holds_of_vc tab_ok mixed (fn := Tryz.f100) (by kernel_rfl) rfl C100 (fun x y hF => C100_vc x.1 x.2 y hF)
theorem f100_in : ∃ fn, Tryz.prog.funcs[100]? = some fn ∧ fn.body.isSome = true ∧ (fn.name == "runtime.NumGoroutine") = false := ⟨Tryz.f100, by kernel_rfl, by kernel_rfl, by kernel_rfl⟩
end Go.Proofs
namespace Go.Proofs
open Go.AM
-- (carousel/model.Layer).good
def f99_j1 (l : ByteArray × Int × Int) : Option (Sum Unit Unit) :=
  bindF (f135 l.1) fun r3 =>
  bif (decide (r3 < (2 : Int))) then
    bif (l.2.2 != (0 : Int)) then
      some (Sum.inr ())
    else
      some (Sum.inl ())
  else
    some (Sum.inl ())
def f99 (l : ByteArray × Int × Int) : Option Bool :=
  bindF (f99_j1 l) fun z2 =>
  sumF z2 (fun z2a =>
    bif (ByteArray.toList l.1 == ByteArray.toList (ByteArray.mk #[100, 101, 110, 115, 101])) then
      bindF (f100 l.2.1 (256 : Int)) fun r4 =>
      some r4
    else
      bif (ByteArray.toList l.1 == ByteArray.toList (ByteArray.mk #[99, 111, 110, 118])) then
        bindF (f100 l.2.1 (16 : Int)) fun r5 =>
        bif r5 then
          bindF (f100 l.2.2 (16 : Int)) fun r6 =>
          some r6
        else
          some false
      else
        bif (ByteArray.toList l.1 == ByteArray.toList (ByteArray.mk #[112, 111, 111, 108])) then
          bindF (f100 l.2.1 (16 : Int)) fun r7 =>
          some r7
        else
          bif (ByteArray.toList l.1 == ByteArray.toList (ByteArray.mk #[98, 101, 110, 100])) then
            bindF (f100 l.2.1 (5 : Int)) fun r8 =>
            some r8
          else
            bif (ByteArray.toList l.1 == ByteArray.toList (ByteArray.mk #[115, 107, 105, 112])) then
              some (l.2.1 == (0 : Int))
            else
              some false) (fun z2b =>
    some false)
def C99 : Con where
  X := ByteArray × Int × Int
  Y := Bool
  e := 0
  args x := [.dat (.p .str (.p (.int .i64) (.int .i64))) x]
  hin x := []
  F x := f99 x
  ret y := [.dat .bool y]
  hout y := []
  nout := 0
theorem C99_vc (l : ByteArray × Int × Int) (y : Bool) (hF : f99 l = some y) : vc Tryz.prog tab Tryz.f99.ntmps 0 (match Tryz.f99.body with | some c => c | none => .skip) (retK tab C99 Tryz.f99.results.toList y) (C99.shIn l).st := by
  unfold f99 at hF
  refine Or.inl ?_
  obtain ⟨z2, hz2, hF⟩ := bindE hF
  refine Or.inr ⟨Sum.elim (fun z2a => [(0, ⟨[(1, .raw false [(.ptr 0 0)])], [(0, .cells [(.d .str l.1), (.d (.int .i64) l.2.1), (.d (.int .i64) l.2.2)])], 1⟩)]) (fun z2b => [(1, ⟨[(2, .dat .bool false)], [], 0⟩)]) z2, ?_, ?_⟩
  · have hF := hz2
    clear hz2
    unfold f99_j1 at hF
    refine Or.inl ?_
    obtain ⟨r3, hr3, hF⟩ := bindE hF
    refine Or.inl (And.intro f135_in (callV0 (callI C135 l.1 r3 [] false C135_holds hr3 rfl rfl ?_)))
    refine (And.intro rfl (And.intro (fun h => nomatch h) (And.intro rfl (And.intro rfl (And.intro trivial (And.intro trivial ?_))))))
    refine condI hF (fun hF => ?_) (fun hF => ?_)
    · refine gdYT ?_
      refine gdYT ?_
      refine condT ?_
      refine condI hF (fun hF => ?_) (fun hF => ?_)
      · refine Or.inl ?_
        have hz := someE hF
        subst hz
        refine Exists.intro [] (Exists.intro [] (Exists.intro [] (Exists.intro [] (Exists.intro [] (And.intro rfl (And.intro rfl (And.intro trivial trivial)))))))
      · have hz := someE hF
        subst hz
        refine Exists.intro [] (Exists.intro [] (Exists.intro [] (Exists.intro [] (Exists.intro [(0, some 0)] (And.intro rfl (And.intro (And.intro rfl trivial) (And.intro rfl trivial)))))))
    · refine gdNT ?_
      refine gdNT ?_
      refine condF ?_
      refine condF ?_
      have hz := someE hF
      subst hz
      refine Exists.intro [] (Exists.intro [] (Exists.intro [] (Exists.intro [] (Exists.intro [(0, some 0)] (And.intro rfl (And.intro (And.intro rfl trivial) (And.intro rfl trivial)))))))
  · rcases z2 with z2a | z2b
    · dsimp only [sumF] at hF
      refine And.intro ?_ trivial
      refine Or.inl ?_
      refine Or.inl ?_
      refine Or.inl ?_
      refine condI hF (fun hF => ?_) (fun hF => ?_)
      · refine Or.inl ?_
        obtain ⟨r4, hr4, hF⟩ := bindE hF
        refine Or.inl (And.intro f100_in (callV0 (callI C100 (l.2.1, (256 : Int)) r4 [] false C100_holds hr4 rfl rfl ?_)))
        refine (And.intro rfl (And.intro rfl (And.intro (fun h => nomatch h) (And.intro rfl (And.intro rfl (And.intro trivial (And.intro trivial ?_)))))))
        have hy := someE hF
        subst hy
        refine And.intro rfl (Exists.intro [] (Exists.intro [] (Exists.intro [] (Exists.intro [] (Exists.intro [] (And.intro rfl (And.intro rfl (And.intro trivial trivial))))))))
      · refine Or.inl ?_
        refine condI hF (fun hF => ?_) (fun hF => ?_)
        · refine Or.inl ?_
          obtain ⟨r5, hr5, hF⟩ := bindE hF
          refine Or.inl (And.intro f100_in (callV0 (callI C100 (l.2.1, (16 : Int)) r5 [] false C100_holds hr5 rfl rfl ?_)))
          refine (And.intro rfl (And.intro rfl (And.intro (fun h => nomatch h) (And.intro rfl (And.intro rfl (And.intro trivial (And.intro trivial ?_)))))))
          refine condI hF (fun hF => ?_) (fun hF => ?_)
          · refine gdYT ?_
            refine gdYT ?_
            obtain ⟨r6, hr6, hF⟩ := bindE hF
            refine Or.inl (And.intro f100_in (callV0 (callI C100 (l.2.2, (16 : Int)) r6 [] false C100_holds hr6 rfl rfl ?_)))
            refine (And.intro rfl (And.intro rfl (And.intro (fun h => nomatch h) (And.intro rfl (And.intro rfl (And.intro trivial (And.intro trivial ?_)))))))
            refine condT ?_
            have hy := someE hF
            subst hy
            refine And.intro rfl (Exists.intro [] (Exists.intro [] (Exists.intro [] (Exists.intro [] (Exists.intro [] (And.intro rfl (And.intro rfl (And.intro trivial trivial))))))))
          · refine gdNT ?_
            refine gdNT ?_
            refine condF ?_
            have hy := someE hF
            subst hy
            refine And.intro rfl (Exists.intro [] (Exists.intro [] (Exists.intro [] (Exists.intro [] (Exists.intro [] (And.intro rfl (And.intro rfl (And.intro trivial trivial))))))))
        · refine Or.inl ?_
          refine condI hF (fun hF => ?_) (fun hF => ?_)
          · refine Or.inl ?_
            obtain ⟨r7, hr7, hF⟩ := bindE hF
            refine Or.inl (And.intro f100_in (callV0 (callI C100 (l.2.1, (16 : Int)) r7 [] false C100_holds hr7 rfl rfl ?_)))
            refine (And.intro rfl (And.intro rfl (And.intro (fun h => nomatch h) (And.intro rfl (And.intro rfl (And.intro trivial (And.intro trivial ?_)))))))
            have hy := someE hF
            subst hy
            refine And.intro rfl (Exists.intro [] (Exists.intro [] (Exists.intro [] (Exists.intro [] (Exists.intro [] (And.intro rfl (And.intro rfl (And.intro trivial trivial))))))))
          · refine Or.inl ?_
            refine condI hF (fun hF => ?_) (fun hF => ?_)
            · refine Or.inl ?_
              obtain ⟨r8, hr8, hF⟩ := bindE hF
              refine Or.inl (And.intro f100_in (callV0 (callI C100 (l.2.1, (5 : Int)) r8 [] false C100_holds hr8 rfl rfl ?_)))
              refine (And.intro rfl (And.intro rfl (And.intro (fun h => nomatch h) (And.intro rfl (And.intro rfl (And.intro trivial (And.intro trivial ?_)))))))
              have hy := someE hF
              subst hy
              refine And.intro rfl (Exists.intro [] (Exists.intro [] (Exists.intro [] (Exists.intro [] (Exists.intro [] (And.intro rfl (And.intro rfl (And.intro trivial trivial))))))))
            · refine Or.inl ?_
              refine condI hF (fun hF => ?_) (fun hF => ?_)
              · refine gdYT ?_
                refine gdYT ?_
                refine condT ?_
                have hy := someE hF
                subst hy
                refine And.intro rfl (Exists.intro [] (Exists.intro [] (Exists.intro [] (Exists.intro [] (Exists.intro [] (And.intro rfl (And.intro rfl (And.intro trivial trivial))))))))
              · refine gdNT ?_
                refine gdNT ?_
                refine condF ?_
                have hy := someE hF
                subst hy
                refine And.intro rfl (Exists.intro [] (Exists.intro [] (Exists.intro [] (Exists.intro [] (Exists.intro [] (And.intro rfl (And.intro rfl (And.intro trivial trivial))))))))
    · dsimp only [sumF] at hF
      refine And.intro ?_ trivial
      have hy := someE hF
      subst hy
      refine And.intro rfl (Exists.intro [] (Exists.intro [] (Exists.intro [] (Exists.intro [] (Exists.intro [] (And.intro rfl (And.intro rfl (And.intro trivial trivial))))))))
theorem C99_holds : C99.Holds Tryz.prog 99 := holds_of_vc tab_ok mixed (fn := Tryz.f99) (by kernel_rfl) rfl C99 (fun x y hF => C99_vc x y hF)
theorem f99_in : ∃ fn, Tryz.prog.funcs[99]? = some fn ∧ fn.body.isSome = true ∧ (fn.name == "runtime.NumGoroutine") = false := ⟨Tryz.f99, by kernel_rfl, by kernel_rfl, by kernel_rfl⟩
end Go.Proofs
namespace Go.Proofs
open Go.AM
-- (carousel/model.Net).good
def f69_l1 (n : (List Int) × (List (ByteArray × Int × Int))) (go : Int → Option (Sum Unit Unit)) (v8 : Int) : Option (Sum Unit Unit) :=
  bif (decide (v8 < (List.length n.2 : Int))) then
    guardF (0 ≤ v8 ∧ v8 < (List.length n.2 : Int)) <|
    bindF (f99 ((rd (Ty.z (.p .str (.p (.int .i64) (.int .i64)))) n.2 v8).1, ((rd (Ty.z (.p .str (.p (.int .i64) (.int .i64)))) n.2 v8).2).1, ((rd (Ty.z (.p .str (.p (.int .i64) (.int .i64)))) n.2 v8).2).2)) fun r4 =>
    bif (!r4) then
      some (Sum.inl ())
    else
      go (IntKind.i64.wrap (v8 + (1 : Int)))
  else
    some (Sum.inr ())
def f69 (n : (List Int) × (List (ByteArray × Int × Int))) : Option Bool :=
  bindF (loopF (fun go x => f69_l1 n go x) fuelN (0 : Int)) fun z3 =>
  sumF z3 (fun z3a =>
    some false) (fun z3b =>
    bif ((List.length n.1 : Int) == (1 : Int)) then
      guardF (0 ≤ (0 : Int) ∧ (0 : Int) < (List.length n.1 : Int)) <|
      bindF (f100 (rd (0 : Int) n.1 (0 : Int)) (1024 : Int)) fun r5 =>
      some r5
    else
      bif ((List.length n.1 : Int) == (2 : Int)) then
        guardF (0 ≤ (0 : Int) ∧ (0 : Int) < (List.length n.1 : Int)) <|
        bindF (f100 (rd (0 : Int) n.1 (0 : Int)) (64 : Int)) fun r6 =>
        bif r6 then
          guardF (0 ≤ (1 : Int) ∧ (1 : Int) < (List.length n.1 : Int)) <|
          bindF (f100 (rd (0 : Int) n.1 (1 : Int)) (64 : Int)) fun r7 =>
          some r7
        else
          some false
      else
        some false)
def C69 : Con where
  X := (List Int) × (List (ByteArray × Int × Int))
  Y := Bool
  e := 0
  args x := [.dat (.p (.sl (.int .i64)) (.sl (.p .str (.p (.int .i64) (.int .i64))))) x]
  hin x := []
  F x := f69 x
  ret y := [.dat .bool y]
  hout y := []
  nout := 0
theorem C69_vc (n : (List Int) × (List (ByteArray × Int × Int))) (y : Bool) (hF : f69 n = some y) : vc Tryz.prog tab Tryz.f69.ntmps 0 (match Tryz.f69.body with | some c => c | none => .skip) (retK tab C69 Tryz.f69.results.toList y) (C69.shIn n).st := by
  unfold f69 at hF
  refine Or.inl ?_
  refine Or.inl ?_
  refine Or.inl ?_
  obtain ⟨z3, hz3, hF⟩ := bindE hF
  refine loopI Int (Sum Unit Unit) (fun x => ⟨[(1, .raw false [(.ptr 0 0)]), (6, .dat (.sl (.p .str (.p (.int .i64) (.int .i64)))) n.2), (7, .dat (.int .i64) (List.length n.2 : Int)), (8, .dat (.int .i64) x)], [(0, .cells [(.d (.sl (.int .i64)) n.1), (.d (.sl (.p .str (.p (.int .i64) (.int .i64)))) n.2)])], 1⟩) (fun z => Sum.elim (fun za => [(1, ⟨[(2, .dat .bool false)], [], 0⟩)]) (fun zb => [(2, ⟨[(1, .raw false [(.ptr 0 0)])], [(0, .cells [(.d (.sl (.int .i64)) n.1), (.d (.sl (.p .str (.p (.int .i64) (.int .i64)))) n.2)])], 1⟩)]) z) (loopF (fun go x => f69_l1 n go x)) fuelN (0 : Int) z3 (And.intro hz3 (And.intro (Exists.intro [] (Exists.intro [] (Exists.intro [] (Exists.intro [] (Exists.intro [(0, some 0)] (And.intro rfl (And.intro rfl (And.intro rfl (And.intro rfl (And.intro (And.intro rfl trivial) (And.intro rfl trivial))))))))))) (And.intro (fun _ _ h => loopZ h) (And.intro (fun m => fun v8 z hF => ?_) ?_))))
  · have hF : f69_l1 n (loopF (fun go x => f69_l1 n go x) m) v8 = some z := hF
    unfold f69_l1 at hF
    refine Or.inl ?_
    refine Or.inl ?_
    refine condI hF (fun hF => ?_) (fun hF => ?_)
    · refine Or.inl ?_
      refine Or.inl ?_
      refine guardI hF (fun hF => ?_)
      refine Or.inl ?_
      refine Or.inl ?_
      obtain ⟨r4, hr4, hF⟩ := bindE hF
      refine Or.inl (And.intro f99_in (callV0 (callI C99 ((rd (Ty.z (.p .str (.p (.int .i64) (.int .i64)))) n.2 v8).1, ((rd (Ty.z (.p .str (.p (.int .i64) (.int .i64)))) n.2 v8).2).1, ((rd (Ty.z (.p .str (.p (.int .i64) (.int .i64)))) n.2 v8).2).2) r4 [] false C99_holds hr4 rfl rfl ?_)))
      refine (And.intro rfl (And.intro rfl (And.intro (fun h => nomatch h) (And.intro rfl (And.intro rfl (And.intro trivial (And.intro trivial ?_)))))))
      refine condI hF (fun hF => ?_) (fun hF => ?_)
      · refine Or.inl ?_
        have hz := someE hF
        subst hz
        refine Exists.intro [] (Exists.intro [] (Exists.intro [] (Exists.intro [] (Exists.intro [] (And.intro rfl (And.intro rfl (And.intro trivial trivial)))))))
      · refine Exists.intro (IntKind.i64.wrap (v8 + (1 : Int))) (And.intro hF (Exists.intro [] (Exists.intro [] (Exists.intro [] (Exists.intro [] (Exists.intro [(0, some 0)] (And.intro rfl (And.intro rfl (And.intro rfl (And.intro rfl (And.intro (And.intro rfl trivial) (And.intro rfl trivial))))))))))))
    · have hz := someE hF
      subst hz
      refine Exists.intro [] (Exists.intro [] (Exists.intro [] (Exists.intro [] (Exists.intro [(0, some 0)] (And.intro rfl (And.intro (And.intro rfl trivial) (And.intro rfl trivial)))))))
  · rcases z3 with z3a | z3b
    · dsimp only [sumF] at hF
      refine And.intro ?_ trivial
      have hy := someE hF
      subst hy
      refine And.intro rfl (Exists.intro [] (Exists.intro [] (Exists.intro [] (Exists.intro [] (Exists.intro [] (And.intro rfl (And.intro rfl (And.intro trivial trivial))))))))
    · dsimp only [sumF] at hF
      refine And.intro ?_ trivial
      refine Or.inl ?_
      refine Or.inl ?_
      refine Or.inl ?_
      refine condI hF (fun hF => ?_) (fun hF => ?_)
      · refine Or.inl ?_
        refine guardI hF (fun hF => ?_)
        obtain ⟨r5, hr5, hF⟩ := bindE hF
        refine Or.inl (And.intro f100_in (callV0 (callI C100 ((rd (0 : Int) n.1 (0 : Int)), (1024 : Int)) r5 [] false C100_holds hr5 rfl rfl ?_)))
        refine (And.intro rfl (And.intro rfl (And.intro (fun h => nomatch h) (And.intro rfl (And.intro rfl (And.intro trivial (And.intro trivial ?_)))))))
        have hy := someE hF
        subst hy
        refine And.intro rfl (Exists.intro [] (Exists.intro [] (Exists.intro [] (Exists.intro [] (Exists.intro [] (And.intro rfl (And.intro rfl (And.intro trivial trivial))))))))
      · refine Or.inl ?_
        refine condI hF (fun hF => ?_) (fun hF => ?_)
        · refine Or.inl ?_
          refine guardI hF (fun hF => ?_)
          obtain ⟨r6, hr6, hF⟩ := bindE hF
          refine Or.inl (And.intro f100_in (callV0 (callI C100 ((rd (0 : Int) n.1 (0 : Int)), (64 : Int)) r6 [] false C100_holds hr6 rfl rfl ?_)))
          refine (And.intro rfl (And.intro rfl (And.intro (fun h => nomatch h) (And.intro rfl (And.intro rfl (And.intro trivial (And.intro trivial ?_)))))))
          refine condI hF (fun hF => ?_) (fun hF => ?_)
          · refine gdYT ?_
            refine gdYT ?_
            refine guardI hF (fun hF => ?_)
            refine gdYT ?_
            refine gdYT ?_
            obtain ⟨r7, hr7, hF⟩ := bindE hF
            refine Or.inl (And.intro f100_in (callV0 (callI C100 ((rd (0 : Int) n.1 (1 : Int)), (64 : Int)) r7 [] false C100_holds hr7 rfl rfl ?_)))
            refine (And.intro rfl (And.intro rfl (And.intro (fun h => nomatch h) (And.intro rfl (And.intro rfl (And.intro trivial (And.intro trivial ?_)))))))
            refine condT ?_
            have hy := someE hF
            subst hy
            refine And.intro rfl (Exists.intro [] (Exists.intro [] (Exists.intro [] (Exists.intro [] (Exists.intro [] (And.intro rfl (And.intro rfl (And.intro trivial trivial))))))))
          · refine gdNT ?_
            refine gdNT ?_
            refine gdNT ?_
            refine gdNT ?_
            refine condF ?_
            have hy := someE hF
            subst hy
            refine And.intro rfl (Exists.intro [] (Exists.intro [] (Exists.intro [] (Exists.intro [] (Exists.intro [] (And.intro rfl (And.intro rfl (And.intro trivial trivial))))))))
        · refine Or.inl ?_
          have hy := someE hF
          subst hy
          refine And.intro rfl (Exists.intro [] (Exists.intro [] (Exists.intro [] (Exists.intro [] (Exists.intro [] (And.intro rfl (And.intro rfl (And.intro trivial trivial))))))))
theorem C69_holds : C69.Holds Tryz.prog 69 := holds_of_vc tab_ok mixed (fn := Tryz.f69) (by kernel_rfl) rfl C69 (fun x y hF => C69_vc x y hF)
theorem f69_in : ∃ fn, Tryz.prog.funcs[69]? = some fn ∧ fn.body.isSome = true ∧ (fn.name == "runtime.NumGoroutine") = false := ⟨Tryz.f69, by kernel_rfl, by kernel_rfl, by kernel_rfl⟩
end Go.Proofs
namespace Go.Proofs
open Go.AM
-- slices.Clone[[]int,int]
def f82 (s : List Int) : Option (List Int) :=
  nilF s
    (some ([]))
    (guardF ((List.length ([] : List Int) + List.length s) * 8 ≤ 140737488355328) <|
     some (([] : List Int) ++ s))
def C82 : Con where
  X := List Int
  Y := List Int
  e := 0
  args x := [.dat (.sl (.int .i64)) x]
  hin x := []
  F x := f82 x
  ret y := [.raw false [(.osl 0)]]
  hout y := [(0, .arr 3 (.int .i64) y)]
  nout := 1
theorem C82_vc (s : List Int) (y : List Int) (hF : f82 s = some y) : vc Tryz.prog tab Tryz.f82.ntmps 0 (match Tryz.f82.body with | some c => c | none => .skip) (retK tab C82 Tryz.f82.results.toList y) (C82.shIn s).st := by
  unfold f82 at hF
  refine Or.inl ?_
  refine Or.inl ?_
  refine Or.inl ?_
  refine nilI hF (fun hF => ?_) (fun hF => ?_)
  · refine condT ?_
    refine Or.inl ?_
    have hy := someE hF
    subst hy
    refine And.intro rfl (Exists.intro [] (Exists.intro [] (Exists.intro [] (Exists.intro [] (Exists.intro [(0, none)] (And.intro rfl (And.intro (And.intro rfl trivial) (And.intro rfl trivial))))))))
  · refine condF ?_
    refine Or.inl ?_
    refine Or.inl ?_
    refine Or.inl ?_
    refine guardI hF (fun hF => ?_)
    have hy := someE hF
    subst hy
    refine And.intro rfl (Exists.intro [] (Exists.intro [] (Exists.intro [] (Exists.intro [] (Exists.intro [(0, some 1)] (And.intro rfl (And.intro (And.intro rfl trivial) (And.intro rfl trivial))))))))
theorem C82_holds : C82.Holds Tryz.prog 82 := holds_of_vc tab_ok mixed (fn := Tryz.f82) (by kernel_rfl) rfl C82 (fun x y hF => C82_vc x y hF)
theorem f82_in : ∃ fn, Tryz.prog.funcs[82]? = some fn ∧ fn.body.isSome = true ∧ (fn.name == "runtime.NumGoroutine") = false := ⟨Tryz.f82, by kernel_rfl, by kernel_rfl, by kernel_rfl⟩
end Go.Proofs
namespace Go.Proofs
open Go.AM
-- (carousel/model.Layer).out
def f101_j1 (l : ByteArray × Int × Int) (in_ : List Int) : Option (Sum Unit Unit) :=
  bif ((List.length in_ : Int) != (2 : Int)) then
    some (Sum.inr ())
  else
    guardF (0 ≤ (1 : Int) ∧ (1 : Int) < (List.length in_ : Int)) <|
    bif (decide (l.2.2 > (rd (0 : Int) in_ (1 : Int)))) then
      some (Sum.inr ())
    else
      some (Sum.inl ())
def f101_j2 (l : ByteArray × Int × Int) (in_ : List Int) : Option (Sum Unit Unit) :=
  bif ((List.length in_ : Int) != (2 : Int)) then
    some (Sum.inr ())
  else
    guardF (0 ≤ (1 : Int) ∧ (1 : Int) < (List.length in_ : Int)) <|
    bif (decide (l.2.1 > (rd (0 : Int) in_ (1 : Int)))) then
      some (Sum.inr ())
    else
      some (Sum.inl ())
def f101 (l : ByteArray × Int × Int) (in_ : List Int) : Option (Bool × (List Int)) :=
  bif (ByteArray.toList l.1 == ByteArray.toList (ByteArray.mk #[100, 101, 110, 115, 101])) then
    some (true, [l.2.1])
  else
    bif (ByteArray.toList l.1 == ByteArray.toList (ByteArray.mk #[99, 111, 110, 118])) then
      bindF (f101_j1 l in_) fun z1 =>
      sumF z1 (fun z1a =>
        guardF (0 ≤ (1 : Int) ∧ (1 : Int) < (List.length in_ : Int)) <|
        some (true, [l.2.1, (IntKind.i64.wrap ((IntKind.i64.wrap ((rd (0 : Int) in_ (1 : Int)) - l.2.2)) + (1 : Int)))])) (fun z1b =>
        some (false, []))
    else
      bif (ByteArray.toList l.1 == ByteArray.toList (ByteArray.mk #[112, 111, 111, 108])) then
        bindF (f101_j2 l in_) fun z2 =>
        sumF z2 (fun z2a =>
          guardF (0 ≤ (0 : Int) ∧ (0 : Int) < (List.length in_ : Int)) <|
          guardF (0 ≤ (1 : Int) ∧ (1 : Int) < (List.length in_ : Int)) <|
          guardF (l.2.1 ≠ 0) <|
          some (true, [(rd (0 : Int) in_ (0 : Int)), (IntKind.i64.wrap (Int.tdiv (rd (0 : Int) in_ (1 : Int)) l.2.1))])) (fun z2b =>
          some (false, []))
      else
        bindF (f82 in_) fun q11_11 =>
        some (true, q11_11)
def C101 : Con where
  X := (ByteArray × Int × Int) × (List Int)
  Y := Bool × (List Int)
  e := 0
  args x := [.dat (.p .str (.p (.int .i64) (.int .i64))) x.1, .dat (.sl (.int .i64)) x.2]
  hin x := []
  F x := f101 x.1 x.2
  ret y := [.raw false [(.osl 0)], .dat .bool y.1]
  hout y := [(0, .arr 3 (.int .i64) y.2)]
  nout := 1
theorem C101_vc (l : ByteArray × Int × Int) (in_ : List Int) (y : Bool × (List Int)) (hF : f101 l in_ = some y) : vc Tryz.prog tab Tryz.f101.ntmps 0 (match Tryz.f101.body with | some c => c | none => .skip) (retK tab C101 Tryz.f101.results.toList y) (C101.shIn (l, in_)).st := by
  unfold f101 at hF
  refine Or.inl ?_
  refine Or.inl ?_
  refine Or.inl ?_
  refine Or.inl ?_
  refine condI hF (fun hF => ?_) (fun hF => ?_)
  · refine Or.inl ?_
    refine Or.inl ?_
    have hy := someE hF
    subst hy
    refine And.intro rfl (Exists.intro [] (Exists.intro [] (Exists.intro [] (Exists.intro [] (Exists.intro [(0, some 1)] (And.intro rfl (And.intro rfl (And.intro (And.intro rfl trivial) (And.intro rfl trivial)))))))))
  · refine Or.inl ?_
    refine condI hF (fun hF => ?_) (fun hF => ?_)
    · obtain ⟨z1, hz1, hF⟩ := bindE hF
      refine Or.inr ⟨Sum.elim (fun z1a => [(0, ⟨[(1, .dat (.sl (.int .i64)) in_), (2, .raw false [(.ptr 0 0)])], [(0, .cells [(.d .str l.1), (.d (.int .i64) l.2.1), (.d (.int .i64) l.2.2)])], 1⟩)]) (fun z1b => [(1, ⟨[(4, .raw false [(.c (.slice none 0 0))]), (5, .dat .bool false)], [], 0⟩)]) z1, ?_, ?_⟩
      · have hF := hz1
        clear hz1
        unfold f101_j1 at hF
        refine Or.inl ?_
        refine Exists.intro (.take 0 (.take 1 (.take 2 (.take 3 (.take 4 (.take 5 (.take 6 (.take 7 (.take 8 (.take 9 (.take 10 .done))))))))))) (Exists.intro [] (Exists.intro [] (And.intro rfl ?_)))
        refine condN hF (fun hF => ?_) (fun hF => ?_)
        · refine gdYF ?_
          refine gdYF ?_
          refine gdYF ?_
          refine guardI hF (fun hF => ?_)
          refine gdYF ?_
          refine gdYF ?_
          refine condF ?_
          refine condI hF (fun hF => ?_) (fun hF => ?_)
          · refine Or.inl ?_
            have hz := someE hF
            subst hz
            refine Exists.intro [] (Exists.intro [] (Exists.intro [] (Exists.intro [] (Exists.intro [] (And.intro rfl (And.intro rfl (And.intro (And.intro rfl trivial) trivial)))))))
          · have hz := someE hF
            subst hz
            refine Exists.intro [] (Exists.intro [] (Exists.intro [] (Exists.intro [] (Exists.intro [(0, some 0)] (And.intro rfl (And.intro rfl (And.intro (And.intro rfl trivial) (And.intro rfl trivial))))))))
        · refine gdNF ?_
          refine gdNF ?_
          refine gdNF ?_
          refine gdNF ?_
          refine gdNF ?_
          refine condT ?_
          refine condT ?_
          refine Or.inl ?_
          have hz := someE hF
          subst hz
          refine Exists.intro [] (Exists.intro [] (Exists.intro [] (Exists.intro [] (Exists.intro [] (And.intro rfl (And.intro rfl (And.intro (And.intro rfl trivial) trivial)))))))
      · rcases z1 with z1a | z1b
        · dsimp only [sumF] at hF
          refine And.intro ?_ trivial
          refine Or.inl ?_
          refine Exists.intro (.take 0 (.take 1 (.take 2 (.take 3 (.take 4 (.take 5 (.take 6 (.take 7 (.take 8 (.alt 9 (.take 10 (.take 11 .done)) .done)))))))))) (Exists.intro [] (Exists.intro [] (And.intro rfl ?_)))
          refine guardI hF (fun hF => ?_)
          refine And.intro trivial ?_
          refine Or.inl ?_
          have hy := someE hF
          subst hy
          refine And.intro rfl (Exists.intro [] (Exists.intro [] (Exists.intro [] (Exists.intro [] (Exists.intro [(0, some 1)] (And.intro rfl (And.intro rfl (And.intro (And.intro rfl trivial) (And.intro rfl trivial)))))))))
        · dsimp only [sumF] at hF
          refine And.intro ?_ trivial
          have hy := someE hF
          subst hy
          refine And.intro rfl (Exists.intro [] (Exists.intro [] (Exists.intro [] (Exists.intro [] (Exists.intro [(0, none)] (And.intro rfl (And.intro rfl (And.intro (And.intro rfl trivial) (And.intro rfl trivial)))))))))
    · refine Or.inl ?_
      refine condI hF (fun hF => ?_) (fun hF => ?_)
      · obtain ⟨z2, hz2, hF⟩ := bindE hF
        refine Or.inr ⟨Sum.elim (fun z2a => [(0, ⟨[(1, .dat (.sl (.int .i64)) in_), (2, .raw false [(.ptr 0 0)])], [(0, .cells [(.d .str l.1), (.d (.int .i64) l.2.1), (.d (.int .i64) l.2.2)])], 1⟩)]) (fun z2b => [(1, ⟨[(4, .raw false [(.c (.slice none 0 0))]), (5, .dat .bool false)], [], 0⟩)]) z2, ?_, ?_⟩
        · have hF := hz2
          clear hz2
          unfold f101_j2 at hF
          refine Or.inl ?_
          refine Exists.intro (.take 0 (.take 1 (.take 2 (.take 3 (.take 4 (.take 5 (.take 6 (.take 7 (.take 8 (.take 9 (.take 10 .done))))))))))) (Exists.intro [] (Exists.intro [] (And.intro rfl ?_)))
          refine condN hF (fun hF => ?_) (fun hF => ?_)
          · refine gdYF ?_
            refine gdYF ?_
            refine gdYF ?_
            refine guardI hF (fun hF => ?_)
            refine gdYF ?_
            refine gdYF ?_
            refine condF ?_
            refine condI hF (fun hF => ?_) (fun hF => ?_)
            · refine Or.inl ?_
              have hz := someE hF
              subst hz
              refine Exists.intro [] (Exists.intro [] (Exists.intro [] (Exists.intro [] (Exists.intro [] (And.intro rfl (And.intro rfl (And.intro (And.intro rfl trivial) trivial)))))))
            · have hz := someE hF
              subst hz
              refine Exists.intro [] (Exists.intro [] (Exists.intro [] (Exists.intro [] (Exists.intro [(0, some 0)] (And.intro rfl (And.intro rfl (And.intro (And.intro rfl trivial) (And.intro rfl trivial))))))))
          · refine gdNF ?_
            refine gdNF ?_
            refine gdNF ?_
            refine gdNF ?_
            refine gdNF ?_
            refine condT ?_
            refine condT ?_
            refine Or.inl ?_
            have hz := someE hF
            subst hz
            refine Exists.intro [] (Exists.intro [] (Exists.intro [] (Exists.intro [] (Exists.intro [] (And.intro rfl (And.intro rfl (And.intro (And.intro rfl trivial) trivial)))))))
        · rcases z2 with z2a | z2b
          · dsimp only [sumF] at hF
            refine And.intro ?_ trivial
            refine Or.inl ?_
            refine Exists.intro (.take 0 (.take 1 (.take 2 (.take 3 (.take 4 (.take 5 (.take 6 (.take 7 (.take 8 (.alt 9 (.take 10 (.take 11 .done)) .done)))))))))) (Exists.intro [] (Exists.intro [] (And.intro rfl ?_)))
            refine guardI hF (fun hF => ?_)
            refine guardI hF (fun hF => ?_)
            refine guardI hF (fun hF => ?_)
            refine And.intro trivial ?_
            refine Or.inl ?_
            have hy := someE hF
            subst hy
            refine And.intro rfl (Exists.intro [] (Exists.intro [] (Exists.intro [] (Exists.intro [] (Exists.intro [(0, some 1)] (And.intro rfl (And.intro rfl (And.intro (And.intro rfl trivial) (And.intro rfl trivial)))))))))
          · dsimp only [sumF] at hF
            refine And.intro ?_ trivial
            have hy := someE hF
            subst hy
            refine And.intro rfl (Exists.intro [] (Exists.intro [] (Exists.intro [] (Exists.intro [] (Exists.intro [(0, none)] (And.intro rfl (And.intro rfl (And.intro (And.intro rfl trivial) (And.intro rfl trivial)))))))))
      · refine Or.inl ?_
        obtain ⟨q11_11, hq11_11, hF⟩ := bindE hF
        refine Or.inl (And.intro f82_in (callV0 (callI C82 in_ q11_11 [] false C82_holds hq11_11 rfl rfl ?_)))
        refine (And.intro rfl (And.intro (fun h => nomatch h) (And.intro rfl (And.intro rfl (And.intro trivial (And.intro trivial ?_))))))
        have hy := someE hF
        subst hy
        refine And.intro rfl (Exists.intro [] (Exists.intro [] (Exists.intro [] (Exists.intro [] (Exists.intro [(0, some 1)] (And.intro rfl (And.intro rfl (And.intro (And.intro rfl trivial) (And.intro rfl trivial)))))))))
theorem C101_holds : C101.Holds Tryz.prog 101 := holds_of_vc tab_ok mixed (fn := Tryz.f101) (by kernel_rfl) rfl C101 (fun x y hF => C101_vc x.1 x.2 y hF)
theorem f101_in : ∃ fn, Tryz.prog.funcs[101]? = some fn ∧ fn.body.isSome = true ∧ (fn.name == "runtime.NumGoroutine") = false := ⟨Tryz.f101, by kernel_rfl, by kernel_rfl, by kernel_rfl⟩
end Go.Proofs
namespace Go.Proofs
open Go.AM
-- slices.Equal[[]int,int]
def f107_l1 (s1 : List Int) (s2 : List Int) (go : Int → Option (Sum Unit Unit)) (v13 : Int) : Option (Sum Unit Unit) :=
  bif (decide (v13 < (List.length s1 : Int))) then
    guardF (0 ≤ v13 ∧ v13 < (List.length s1 : Int)) <|
    guardF (0 ≤ v13 ∧ v13 < (List.length s2 : Int)) <|
    bif ((rd (0 : Int) s1 v13) != (rd (0 : Int) s2 v13)) then
      some (Sum.inl ())
    else
      go (IntKind.i64.wrap (v13 + (1 : Int)))
  else
    some (Sum.inr ())
def f107 (s1 : List Int) (s2 : List Int) : Option Bool :=
  bif ((List.length s1 : Int) != (List.length s2 : Int)) then
    some false
  else
    bindF (loopF (fun go x => f107_l1 s1 s2 go x) fuelN (0 : Int)) fun z1 =>
    sumF z1 (fun z1a =>
      some false) (fun z1b =>
      some true)
def C107 : Con where
  X := (List Int) × (List Int)
  Y := Bool
  e := 0
  args x := [.dat (.sl (.int .i64)) x.1, .dat (.sl (.int .i64)) x.2]
  hin x := []
  F x := f107 x.1 x.2
  ret y := [.dat .bool y]
  hout y := []
  nout := 0
theorem C107_vc (s1 : List Int) (s2 : List Int) (y : Bool) (hF : f107 s1 s2 = some y) : vc Tryz.prog tab Tryz.f107.ntmps 0 (match Tryz.f107.body with | some c => c | none => .skip) (retK tab C107 Tryz.f107.results.toList y) (C107.shIn (s1, s2)).st := by
  unfold f107 at hF
  refine Or.inl ?_
  refine Or.inl ?_
  refine Or.inl ?_
  refine condI hF (fun hF => ?_) (fun hF => ?_)
  · refine Or.inl ?_
    have hy := someE hF
    subst hy
    refine And.intro rfl (Exists.intro [] (Exists.intro [] (Exists.intro [] (Exists.intro [] (Exists.intro [] (And.intro rfl (And.intro rfl (And.intro trivial trivial))))))))
  · refine Or.inl ?_
    refine Or.inl ?_
    obtain ⟨z1, hz1, hF⟩ := bindE hF
    refine loopI Int (Sum Unit Unit) (fun x => ⟨[(0, .dat (.sl (.int .i64)) s1), (1, .dat (.sl (.int .i64)) s2), (12, .dat (.int .i64) (List.length s1 : Int)), (13, .dat (.int .i64) x)], [], 0⟩) (fun z => Sum.elim (fun za => [(1, ⟨[(4, .dat .bool false)], [], 0⟩)]) (fun zb => [(2, ⟨[], [], 0⟩)]) z) (loopF (fun go x => f107_l1 s1 s2 go x)) fuelN (0 : Int) z1 (And.intro hz1 (And.intro (Exists.intro [] (Exists.intro [] (Exists.intro [] (Exists.intro [] (Exists.intro [] (And.intro rfl (And.intro rfl (And.intro rfl (And.intro rfl (And.intro rfl (And.intro trivial trivial))))))))))) (And.intro (fun _ _ h => loopZ h) (And.intro (fun m => fun v13 z hF => ?_) ?_))))
    · have hF : f107_l1 s1 s2 (loopF (fun go x => f107_l1 s1 s2 go x) m) v13 = some z := hF
      unfold f107_l1 at hF
      refine Or.inl ?_
      refine Or.inl ?_
      refine condI hF (fun hF => ?_) (fun hF => ?_)
      · refine Or.inl ?_
        refine Or.inl ?_
        refine Or.inl ?_
        refine Exists.intro (.take 0 (.take 1 (.take 2 (.take 3 (.take 4 (.take 5 (.take 6 (.take 7 (.take 8 .done))))))))) (Exists.intro [] (Exists.intro [] (And.intro rfl ?_)))
        refine guardI hF (fun hF => ?_)
        refine guardI hF (fun hF => ?_)
        refine condI hF (fun hF => ?_) (fun hF => ?_)
        · refine Or.inl ?_
          have hz := someE hF
          subst hz
          refine Exists.intro [] (Exists.intro [] (Exists.intro [] (Exists.intro [] (Exists.intro [] (And.intro rfl (And.intro rfl (And.intro trivial trivial)))))))
        · refine Exists.intro (IntKind.i64.wrap (v13 + (1 : Int))) (And.intro hF (Exists.intro [] (Exists.intro [] (Exists.intro [] (Exists.intro [] (Exists.intro [] (And.intro rfl (And.intro rfl (And.intro rfl (And.intro rfl (And.intro rfl (And.intro trivial trivial))))))))))))
      · have hz := someE hF
        subst hz
        refine Exists.intro [] (Exists.intro [] (Exists.intro [] (Exists.intro [] (Exists.intro [] (And.intro rfl (And.intro trivial trivial))))))
    · rcases z1 with z1a | z1b
      · dsimp only [sumF] at hF
        refine And.intro ?_ trivial
        have hy := someE hF
        subst hy
        refine And.intro rfl (Exists.intro [] (Exists.intro [] (Exists.intro [] (Exists.intro [] (Exists.intro [] (And.intro rfl (And.intro rfl (And.intro trivial trivial))))))))
      · dsimp only [sumF] at hF
        refine And.intro ?_ trivial
        refine Or.inl ?_
        have hy := someE hF
        subst hy
        refine And.intro rfl (Exists.intro [] (Exists.intro [] (Exists.intro [] (Exists.intro [] (Exists.intro [] (And.intro rfl (And.intro rfl (And.intro trivial trivial))))))))
theorem C107_holds : C107.Holds Tryz.prog 107 := holds_of_vc tab_ok mixed (fn := Tryz.f107) (by kernel_rfl) rfl C107 (fun x y hF => C107_vc x.1 x.2 y hF)
theorem f107_in : ∃ fn, Tryz.prog.funcs[107]? = some fn ∧ fn.body.isSome = true ∧ (fn.name == "runtime.NumGoroutine") = false := ⟨Tryz.f107, by kernel_rfl, by kernel_rfl, by kernel_rfl⟩
end Go.Proofs
namespace Go.Proofs
open Go.AM
-- carousel/shape.Same
def f87 (a : List Int) (b : List Int) : Option Bool :=
  bindF (f107 a b) fun r1 =>
  some r1
def C87 : Con where
  X := (List Int) × (List Int)
  Y := Bool
  e := 0
  args x := [.dat (.sl (.int .i64)) x.1, .dat (.sl (.int .i64)) x.2]
  hin x := []
  F x := f87 x.1 x.2
  ret y := [.dat .bool y]
  hout y := []
  nout := 0
theorem C87_vc (a : List Int) (b : List Int) (y : Bool) (hF : f87 a b = some y) : vc Tryz.prog tab Tryz.f87.ntmps 0 (match Tryz.f87.body with | some c => c | none => .skip) (retK tab C87 Tryz.f87.results.toList y) (C87.shIn (a, b)).st := by
  unfold f87 at hF
  refine Or.inl ?_
  refine Or.inl ?_
  obtain ⟨r1, hr1, hF⟩ := bindE hF
  refine Or.inl (And.intro f107_in (callV0 (callI C107 (a, b) r1 [] false C107_holds hr1 rfl rfl ?_)))
  refine (And.intro rfl (And.intro rfl (And.intro (fun h => nomatch h) (And.intro rfl (And.intro rfl (And.intro trivial (And.intro trivial ?_)))))))
  have hy := someE hF
  subst hy
  refine And.intro rfl (Exists.intro [] (Exists.intro [] (Exists.intro [] (Exists.intro [] (Exists.intro [] (And.intro rfl (And.intro rfl (And.intro trivial trivial))))))))
theorem C87_holds : C87.Holds Tryz.prog 87 := holds_of_vc tab_ok mixed (fn := Tryz.f87) (by kernel_rfl) rfl C87 (fun x y hF => C87_vc x.1 x.2 y hF)
theorem f87_in : ∃ fn, Tryz.prog.funcs[87]? = some fn ∧ fn.body.isSome = true ∧ (fn.name == "runtime.NumGoroutine") = false := ⟨Tryz.f87, by kernel_rfl, by kernel_rfl, by kernel_rfl⟩
end Go.Proofs
namespace Go.Proofs
open Go.AM
-- (carousel/model.Net).skips
def f102 (n : (List Int) × (List (ByteArray × Int × Int))) (i : Int) (d : List (List Int)) : Option Bool :=
  bif (decide (i > (0 : Int))) then
    guardF (0 ≤ (IntKind.i64.wrap (i - (1 : Int))) ∧ (IntKind.i64.wrap (i - (1 : Int))) < (List.length n.2 : Int)) <|
    bif (!(ByteArray.toList ((rd (Ty.z (.p .str (.p (.int .i64) (.int .i64)))) n.2 (IntKind.i64.wrap (i - (1 : Int)))).1) == ByteArray.toList (ByteArray.mk #[115, 107, 105, 112]))) then
      guardF (0 ≤ (IntKind.i64.wrap (i - (1 : Int))) ∧ (IntKind.i64.wrap (i - (1 : Int))) < (List.length d : Int)) <|
      guardF (0 ≤ i ∧ i < (List.length d : Int)) <|
      bindF (f87 (rd (Ty.z (.sl (.int .i64))) d (IntKind.i64.wrap (i - (1 : Int)))) (rd (Ty.z (.sl (.int .i64))) d i)) fun q1_22 =>
      some q1_22
    else
      some false
  else
    some false
def C102 : Con where
  X := ((List Int) × (List (ByteArray × Int × Int))) × Int × (List (List Int))
  Y := Bool
  e := 0
  args x := [.dat (.p (.sl (.int .i64)) (.sl (.p .str (.p (.int .i64) (.int .i64))))) x.1, .dat (.int .i64) x.2.1, .dat (.sl (.sl (.int .i64))) x.2.2]
  hin x := []
  F x := f102 x.1 x.2.1 x.2.2
  ret y := [.dat .bool y]
  hout y := []
  nout := 0
theorem C102_vc (n : (List Int) × (List (ByteArray × Int × Int))) (i : Int) (d : List (List Int)) (y : Bool) (hF : f102 n i d = some y) : vc Tryz.prog tab Tryz.f102.ntmps 0 (match Tryz.f102.body with | some c => c | none => .skip) (retK tab C102 Tryz.f102.results.toList y) (C102.shIn (n, i, d)).st := by
  unfold f102 at hF
  refine Or.inl ?_
  refine Or.inl ?_
  refine Exists.intro (.take 0 (.take 1 (.take 2 (.take 3 (.take 4 (.take 5 (.take 6 (.take 7 (.take 8 (.take 9 (.take 10 (.take 11 (.take 12 (.take 13 (.take 14 (.take 15 (.take 16 (.take 17 (.take 18 (.take 19 (.take 20 (.take 21 (.alt 22 (.take 23 (.take 24 .done)) .done))))))))))))))))))))))) (Exists.intro [] (Exists.intro [] (And.intro rfl ?_)))
  refine condI hF (fun hF => ?_) (fun hF => ?_)
  · refine gdYT ?_
    refine gdYT ?_
    refine gdYT ?_
    refine gdYT ?_
    refine guardI hF (fun hF => ?_)
    refine gdYT ?_
    refine gdYT ?_
    refine gdYT ?_
    refine condT ?_
    refine condI hF (fun hF => ?_) (fun hF => ?_)
    · refine gdYT ?_
      refine gdYT ?_
      refine gdYT ?_
      refine guardI hF (fun hF => ?_)
      refine gdYT ?_
      refine gdYT ?_
      refine gdYT ?_
      refine gdYT ?_
      refine guardI hF (fun hF => ?_)
      refine gdYT ?_
      refine And.intro trivial ?_
      refine gdYT ?_
      obtain ⟨q1_22, hq1_22, hF⟩ := bindE hF
      refine Or.inl (And.intro f87_in (callV0 (callI C87 ((rd (Ty.z (.sl (.int .i64))) d (IntKind.i64.wrap (i - (1 : Int)))), (rd (Ty.z (.sl (.int .i64))) d i)) q1_22 [] false C87_holds hq1_22 rfl rfl ?_)))
      refine (And.intro rfl (And.intro rfl (And.intro (fun h => nomatch h) (And.intro rfl (And.intro rfl (And.intro trivial (And.intro trivial ?_)))))))
      refine condT ?_
      have hy := someE hF
      subst hy
      refine And.intro rfl (Exists.intro [] (Exists.intro [] (Exists.intro [] (Exists.intro [] (Exists.intro [] (And.intro rfl (And.intro rfl (And.intro trivial trivial))))))))
    · refine gdNT ?_
      refine gdNT ?_
      refine gdNT ?_
      refine gdNT ?_
      refine gdNT ?_
      refine gdNT ?_
      refine gdNT ?_
      refine gdNT ?_
      refine And.intro trivial ?_
      refine gdNT ?_
      refine condF ?_
      have hy := someE hF
      subst hy
      refine And.intro rfl (Exists.intro [] (Exists.intro [] (Exists.intro [] (Exists.intro [] (Exists.intro [] (And.intro rfl (And.intro rfl (And.intro trivial trivial))))))))
  · refine gdNT ?_
    refine gdNT ?_
    refine gdNT ?_
    refine gdNT ?_
    refine gdNT ?_
    refine gdNT ?_
    refine gdNT ?_
    refine condF ?_
    refine gdNT ?_
    refine gdNT ?_
    refine gdNT ?_
    refine gdNT ?_
    refine gdNT ?_
    refine gdNT ?_
    refine gdNT ?_
    refine gdNT ?_
    refine gdNT ?_
    refine And.intro trivial ?_
    refine gdNT ?_
    refine condF ?_
    have hy := someE hF
    subst hy
    refine And.intro rfl (Exists.intro [] (Exists.intro [] (Exists.intro [] (Exists.intro [] (Exists.intro [] (And.intro rfl (And.intro rfl (And.intro trivial trivial))))))))
theorem C102_holds : C102.Holds Tryz.prog 102 := holds_of_vc tab_ok mixed (fn := Tryz.f102) (by kernel_rfl) rfl C102 (fun x y hF => C102_vc x.1 x.2.1 x.2.2 y hF)
theorem f102_in : ∃ fn, Tryz.prog.funcs[102]? = some fn ∧ fn.body.isSome = true ∧ (fn.name == "runtime.NumGoroutine") = false := ⟨Tryz.f102, by kernel_rfl, by kernel_rfl, by kernel_rfl⟩
end Go.Proofs
namespace Go.Proofs
open Go.AM
-- (carousel/model.Net).walk
def f70_j4 (n : (List Int) × (List (ByteArray × Int × Int))) (v16 : Int) (l1 : List (List Int)) (q5_5 : Bool × (List Int)) : Option (Sum Unit Unit) :=
  bif (!q5_5.1) then
    some (Sum.inr ())
  else
    bif (ByteArray.toList ((rd (Ty.z (.p .str (.p (.int .i64) (.int .i64)))) n.2 v16).1) == ByteArray.toList (ByteArray.mk #[115, 107, 105, 112])) then
      bindF (f102 (n.1, n.2) v16 l1) fun r8 =>
      bif (!r8) then
        some (Sum.inr ())
      else
        some (Sum.inl ())
    else
      some (Sum.inl ())
def f70_l3 (n : (List Int) × (List (ByteArray × Int × Int))) (go : (Int × (List (List Int))) → Option (Sum Unit (List (List Int)))) (v16 : Int) (l1 : List (List Int)) : Option (Sum Unit (List (List Int))) :=
  bif (decide (v16 < (List.length n.2 : Int))) then
    guardF (0 ≤ v16 ∧ v16 < (List.length n.2 : Int)) <|
    guardF (0 ≤ v16 ∧ v16 < (List.length l1 : Int)) <|
    bindF (f101 ((rd (Ty.z (.p .str (.p (.int .i64) (.int .i64)))) n.2 v16).1, ((rd (Ty.z (.p .str (.p (.int .i64) (.int .i64)))) n.2 v16).2).1, ((rd (Ty.z (.p .str (.p (.int .i64) (.int .i64)))) n.2 v16).2).2) (rd (Ty.z (.sl (.int .i64))) l1 v16)) fun q5_5 =>
    bindF (f70_j4 n v16 l1 q5_5) fun z7 =>
    sumF z7 (fun z7a =>
      guardF ((List.length l1 + List.length ([q5_5.2])) * 24 ≤ 140737488355328) <|
      go ((IntKind.i64.wrap (v16 + (1 : Int))), (l1 ++ ([q5_5.2])))) (fun z7b =>
      some (Sum.inl ()))
  else
    some (Sum.inr l1)
def f70 (n : (List Int) × (List (ByteArray × Int × Int))) : Option (Bool × (List (List Int))) :=
  bindF (f82 n.1) fun r1 =>
  bindF (loopF (fun go x => f70_l3 n go x.1 x.2) fuelN ((0 : Int), [r1])) fun z6 =>
  sumF z6 (fun z6a =>
    some (false, [])) (fun z6b =>
    some (true, z6b))
def C70 : Con where
  X := (List Int) × (List (ByteArray × Int × Int))
  Y := Bool × (List (List Int))
  e := 0
  args x := [.dat (.p (.sl (.int .i64)) (.sl (.p .str (.p (.int .i64) (.int .i64))))) x]
  hin x := []
  F x := f70 x
  ret y := [.raw false [(.osl 0)], .dat .bool y.1]
  hout y := [(0, .arr 30 (.sl (.int .i64)) y.2)]
  nout := 1
theorem C70_vc (n : (List Int) × (List (ByteArray × Int × Int))) (y : Bool × (List (List Int))) (hF : f70 n = some y) : vc Tryz.prog tab Tryz.f70.ntmps 0 (match Tryz.f70.body with | some c => c | none => .skip) (retK tab C70 Tryz.f70.results.toList y) (C70.shIn n).st := by
  unfold f70 at hF
  refine Or.inl ?_
  refine Or.inl ?_
  obtain ⟨r1, hr1, hF⟩ := bindE hF
  refine Or.inl (And.intro f82_in (callV0 (callI C82 n.1 r1 [] false C82_holds hr1 rfl rfl ?_)))
  refine (And.intro rfl (And.intro (fun h => nomatch h) (And.intro rfl (And.intro rfl (And.intro trivial (And.intro trivial ?_))))))
  refine Or.inl ?_
  refine Or.inl ?_
  refine Or.inl ?_
  obtain ⟨z6, hz6, hF⟩ := bindE hF
  refine loopI (Int × (List (List Int))) (Sum Unit (List (List Int))) (fun x => ⟨[(1, .raw false [(.ptr 0 0)]), (4, .raw false [(.osl 1)]), (14, .dat (.sl (.p .str (.p (.int .i64) (.int .i64)))) n.2), (15, .dat (.int .i64) (List.length n.2 : Int)), (16, .dat (.int .i64) x.1)], [(0, .cells [(.d (.sl (.int .i64)) n.1), (.d (.sl (.p .str (.p (.int .i64) (.int .i64)))) n.2)]), (1, .arr 30 (.sl (.int .i64)) x.2)], 2⟩) (fun z => Sum.elim (fun za => [(1, ⟨[(2, .raw false [(.c (.slice none 0 0))]), (3, .dat .bool false)], [], 0⟩)]) (fun zb => [(2, ⟨[(4, .raw false [(.osl 0)])], [(0, .arr 30 (.sl (.int .i64)) zb)], 1⟩)]) z) (loopF (fun go x => f70_l3 n go x.1 x.2)) fuelN ((0 : Int), [r1]) z6 (And.intro hz6 (And.intro (Exists.intro [] (Exists.intro [] (Exists.intro [] (Exists.intro [] (Exists.intro [(0, some 0), (1, some 2)] (And.intro rfl (And.intro rfl (And.intro rfl (And.intro rfl (And.intro (And.intro rfl (And.intro rfl trivial)) (And.intro rfl (And.intro rfl trivial)))))))))))) (And.intro (fun _ _ h => loopZ h) (And.intro (fun m => curI (fun v16 => fun l1 z hF => ?_)) ?_))))
  · have hF : f70_l3 n (loopF (fun go x => f70_l3 n go x.1 x.2) m) v16 l1 = some z := hF
    unfold f70_l3 at hF
    refine Or.inl ?_
    refine Or.inl ?_
    refine condI hF (fun hF => ?_) (fun hF => ?_)
    · refine Or.inl ?_
      refine Or.inl ?_
      refine guardI hF (fun hF => ?_)
      refine Or.inl ?_
      refine Or.inl ?_
      refine Exists.intro (.take 0 (.take 1 (.take 2 (.take 3 (.take 4 (.alt 5 (.take 6 (.take 7 (.take 8 (.take 9 (.take 10 .done))))) .done)))))) (Exists.intro [] (Exists.intro [] (And.intro rfl ?_)))
      refine guardI hF (fun hF => ?_)
      refine And.intro trivial ?_
      obtain ⟨q5_5, hq5_5, hF⟩ := bindE hF
      refine Or.inl (And.intro f101_in (callV0 (callI C101 (((rd (Ty.z (.p .str (.p (.int .i64) (.int .i64)))) n.2 v16).1, ((rd (Ty.z (.p .str (.p (.int .i64) (.int .i64)))) n.2 v16).2).1, ((rd (Ty.z (.p .str (.p (.int .i64) (.int .i64)))) n.2 v16).2).2), (rd (Ty.z (.sl (.int .i64))) l1 v16)) q5_5 [] false C101_holds hq5_5 rfl rfl ?_)))
      refine (And.intro rfl (And.intro rfl (And.intro rfl (And.intro (fun h => nomatch h) (And.intro rfl (And.intro rfl (And.intro trivial (And.intro trivial ?_))))))))
      obtain ⟨z7, hz7, hF⟩ := bindE hF
      refine Or.inr ⟨Sum.elim (fun z7a => [(0, ⟨[(1, .raw false [(.ptr 0 0)]), (4, .raw false [(.osl 1)]), (7, .raw false [(.osl 2)]), (14, .dat (.sl (.p .str (.p (.int .i64) (.int .i64)))) n.2), (15, .dat (.int .i64) (List.length n.2 : Int)), (16, .dat (.int .i64) v16)], [(0, .cells [(.d (.sl (.int .i64)) n.1), (.d (.sl (.p .str (.p (.int .i64) (.int .i64)))) n.2)]), (1, .arr 30 (.sl (.int .i64)) l1), (2, .arr 3 (.int .i64) q5_5.2)], 3⟩)]) (fun z7b => [(1, ⟨[(2, .raw false [(.c (.slice none 0 0))]), (3, .dat .bool false)], [], 0⟩)]) z7, ?_, ?_⟩
      · have hF := hz7
        clear hz7
        unfold f70_j4 at hF
        refine Or.inl ?_
        refine condN hF (fun hF => ?_) (fun hF => ?_)
        · refine gdYF ?_
          refine gdYF ?_
          refine gdYF ?_
          refine condI hF (fun hF => ?_) (fun hF => ?_)
          · refine gdYT ?_
            refine gdYT ?_
            refine gdYT ?_
            obtain ⟨r8, hr8, hF⟩ := bindE hF
            refine Or.inl (And.intro f102_in (callV0 (callI C102 ((n.1, n.2), v16, l1) r8 [] true C102_holds hr8 rfl rfl ?_)))
            refine (And.intro rfl (And.intro rfl (And.intro rfl (And.intro rfl (And.intro (fun _ => rfl) (And.intro rfl (And.intro rfl (And.intro trivial (And.intro trivial ?_)))))))))
            refine gdYT ?_
            refine gdYF ?_
            refine condT ?_
            refine condF ?_
            refine condI hF (fun hF => ?_) (fun hF => ?_)
            · refine Or.inl ?_
              have hz := someE hF
              subst hz
              refine Exists.intro [] (Exists.intro [] (Exists.intro [] (Exists.intro [] (Exists.intro [] (And.intro rfl (And.intro rfl (And.intro (And.intro rfl trivial) trivial)))))))
            · have hz := someE hF
              subst hz
              refine Exists.intro [] (Exists.intro [] (Exists.intro [] (Exists.intro [] (Exists.intro [(0, some 0), (1, some 1), (2, some 3)] (And.intro rfl (And.intro rfl (And.intro rfl (And.intro rfl (And.intro (And.intro rfl (And.intro rfl (And.intro rfl trivial))) (And.intro rfl (And.intro rfl (And.intro rfl trivial))))))))))))
          · refine gdNT ?_
            refine gdNT ?_
            refine gdNT ?_
            refine gdNT ?_
            refine gdYF ?_
            refine condF ?_
            refine condF ?_
            refine condF ?_
            have hz := someE hF
            subst hz
            refine Exists.intro [] (Exists.intro [] (Exists.intro [] (Exists.intro [] (Exists.intro [(0, some 0), (1, some 1), (2, some 3)] (And.intro rfl (And.intro rfl (And.intro rfl (And.intro rfl (And.intro (And.intro rfl (And.intro rfl (And.intro rfl trivial))) (And.intro rfl (And.intro rfl (And.intro rfl trivial))))))))))))
        · refine gdNF ?_
          refine gdNF ?_
          refine gdNF ?_
          refine gdNF ?_
          refine condT ?_
          refine condT ?_
          refine Or.inl ?_
          have hz := someE hF
          subst hz
          refine Exists.intro [] (Exists.intro [] (Exists.intro [] (Exists.intro [] (Exists.intro [] (And.intro rfl (And.intro rfl (And.intro (And.intro rfl trivial) trivial)))))))
      · rcases z7 with z7a | z7b
        · dsimp only [sumF] at hF
          refine And.intro ?_ trivial
          refine Or.inl ?_
          refine Or.inl ?_
          refine guardI hF (fun hF => ?_)
          refine Exists.intro ((IntKind.i64.wrap (v16 + (1 : Int))), (l1 ++ ([q5_5.2]))) (And.intro hF (Exists.intro [] (Exists.intro [] (Exists.intro [] (Exists.intro [] (Exists.intro [(0, some 0), (1, some 4)] (And.intro rfl (And.intro rfl (And.intro rfl (And.intro rfl (And.intro (And.intro rfl (And.intro rfl trivial)) (And.intro rfl (And.intro rfl trivial)))))))))))))
        · dsimp only [sumF] at hF
          refine And.intro ?_ trivial
          have hz := someE hF
          subst hz
          refine Exists.intro [] (Exists.intro [] (Exists.intro [] (Exists.intro [] (Exists.intro [] (And.intro rfl (And.intro rfl (And.intro (And.intro rfl trivial) trivial)))))))
    · have hz := someE hF
      subst hz
      refine Exists.intro [] (Exists.intro [] (Exists.intro [] (Exists.intro [] (Exists.intro [(0, some 1)] (And.intro rfl (And.intro (And.intro rfl trivial) (And.intro rfl trivial)))))))
  · rcases z6 with z6a | z6b
    · dsimp only [sumF] at hF
      refine And.intro ?_ trivial
      have hy := someE hF
      subst hy
      refine And.intro rfl (Exists.intro [] (Exists.intro [] (Exists.intro [] (Exists.intro [] (Exists.intro [(0, none)] (And.intro rfl (And.intro rfl (And.intro (And.intro rfl trivial) (And.intro rfl trivial)))))))))
    · dsimp only [sumF] at hF
      refine And.intro ?_ trivial
      refine Or.inl ?_
      have hy := someE hF
      subst hy
      refine And.intro rfl (Exists.intro [] (Exists.intro [] (Exists.intro [] (Exists.intro [] (Exists.intro [(0, some 0)] (And.intro rfl (And.intro rfl (And.intro (And.intro rfl trivial) (And.intro rfl trivial)))))))))
theorem C70_holds : C70.Holds Tryz.prog 70 := holds_of_vc tab_ok mixed (fn := Tryz.f70) (by kernel_rfl) rfl C70 (fun x y hF => C70_vc x y hF)
theorem f70_in : ∃ fn, Tryz.prog.funcs[70]? = some fn ∧ fn.body.isSome = true ∧ (fn.name == "runtime.NumGoroutine") = false := ⟨Tryz.f70, by kernel_rfl, by kernel_rfl, by kernel_rfl⟩
end Go.Proofs
namespace Go.Proofs
open Go.AM
-- carousel/model.product
def f44_l1 (d : List Int) (go : (Int × Int) → Option Int) (n : Int) (v8 : Int) : Option Int :=
  bif (decide (v8 < (List.length d : Int))) then
    guardF (0 ≤ v8 ∧ v8 < (List.length d : Int)) <|
    go ((IntKind.i64.wrap (n * (rd (0 : Int) d v8))), (IntKind.i64.wrap (v8 + (1 : Int))))
  else
    some n
def f44 (d : List Int) : Option Int :=
  bindF (loopF (fun go x => f44_l1 d go x.1 x.2) fuelN ((1 : Int), (0 : Int))) fun z1 =>
  some z1
def C44 : Con where
  X := List Int
  Y := Int
  e := 0
  args x := [.dat (.sl (.int .i64)) x]
  hin x := []
  F x := f44 x
  ret y := [.dat (.int .i64) y]
  hout y := []
  nout := 0
theorem C44_vc (d : List Int) (y : Int) (hF : f44 d = some y) : vc Tryz.prog tab Tryz.f44.ntmps 0 (match Tryz.f44.body with | some c => c | none => .skip) (retK tab C44 Tryz.f44.results.toList y) (C44.shIn d).st := by
  unfold f44 at hF
  refine Or.inl ?_
  refine Or.inl ?_
  refine Or.inl ?_
  refine Or.inl ?_
  obtain ⟨z1, hz1, hF⟩ := bindE hF
  refine loopI (Int × Int) Int (fun x => ⟨[(3, .dat (.int .i64) x.1), (6, .dat (.sl (.int .i64)) d), (7, .dat (.int .i64) (List.length d : Int)), (8, .dat (.int .i64) x.2)], [], 0⟩) (fun z => [(2, ⟨[(3, .dat (.int .i64) z)], [], 0⟩)]) (loopF (fun go x => f44_l1 d go x.1 x.2)) fuelN ((1 : Int), (0 : Int)) z1 (And.intro hz1 (And.intro (Exists.intro [] (Exists.intro [] (Exists.intro [] (Exists.intro [] (Exists.intro [] (And.intro rfl (And.intro rfl (And.intro rfl (And.intro rfl (And.intro rfl (And.intro trivial trivial))))))))))) (And.intro (fun _ _ h => loopZ h) (And.intro (fun m => curI (fun n => fun v8 z hF => ?_)) ?_))))
  · have hF : f44_l1 d (loopF (fun go x => f44_l1 d go x.1 x.2) m) n v8 = some z := hF
    unfold f44_l1 at hF
    refine Or.inl ?_
    refine Or.inl ?_
    refine condI hF (fun hF => ?_) (fun hF => ?_)
    · refine Or.inl ?_
      refine Or.inl ?_
      refine guardI hF (fun hF => ?_)
      refine Exists.intro ((IntKind.i64.wrap (n * (rd (0 : Int) d v8))), (IntKind.i64.wrap (v8 + (1 : Int)))) (And.intro hF (Exists.intro [] (Exists.intro [] (Exists.intro [] (Exists.intro [] (Exists.intro [] (And.intro rfl (And.intro rfl (And.intro rfl (And.intro rfl (And.intro rfl (And.intro trivial trivial))))))))))))
    · have hz := someE hF
      subst hz
      refine Exists.intro [] (Exists.intro [] (Exists.intro [] (Exists.intro [] (Exists.intro [] (And.intro rfl (And.intro rfl (And.intro trivial trivial)))))))
  · refine And.intro ?_ trivial
    refine Or.inl ?_
    have hy := someE hF
    subst hy
    refine And.intro rfl (Exists.intro [] (Exists.intro [] (Exists.intro [] (Exists.intro [] (Exists.intro [] (And.intro rfl (And.intro rfl (And.intro trivial trivial))))))))
theorem C44_holds : C44.Holds Tryz.prog 44 := holds_of_vc tab_ok mixed (fn := Tryz.f44) (by kernel_rfl) rfl C44 (fun x y hF => C44_vc x y hF)
theorem f44_in : ∃ fn, Tryz.prog.funcs[44]? = some fn ∧ fn.body.isSome = true ∧ (fn.name == "runtime.NumGoroutine") = false := ⟨Tryz.f44, by kernel_rfl, by kernel_rfl, by kernel_rfl⟩
end Go.Proofs
namespace Go.Proofs
open Go.AM
-- (carousel/model.Layer).params
def f71 (l : ByteArray × Int × Int) (in_ : List Int) : Option (List (List Int)) :=
  bif (ByteArray.toList l.1 == ByteArray.toList (ByteArray.mk #[100, 101, 110, 115, 101])) then
    bindF (f44 in_) fun q3_3 =>
    some ([[l.2.1, q3_3], [l.2.1]])
  else
    bif (ByteArray.toList l.1 == ByteArray.toList (ByteArray.mk #[99, 111, 110, 118])) then
      guardF (0 ≤ (0 : Int) ∧ (0 : Int) < (List.length in_ : Int)) <|
      some ([[l.2.1, (rd (0 : Int) in_ (0 : Int)), l.2.2]])
    else
      some ([])
def C71 : Con where
  X := (ByteArray × Int × Int) × (List Int)
  Y := List (List Int)
  e := 0
  args x := [.dat (.p .str (.p (.int .i64) (.int .i64))) x.1, .dat (.sl (.int .i64)) x.2]
  hin x := []
  F x := f71 x.1 x.2
  ret y := [.raw false [(.osl 0)]]
  hout y := [(0, .arr 30 (.sl (.int .i64)) y)]
  nout := 1
theorem C71_vc (l : ByteArray × Int × Int) (in_ : List Int) (y : List (List Int)) (hF : f71 l in_ = some y) : vc Tryz.prog tab Tryz.f71.ntmps 0 (match Tryz.f71.body with | some c => c | none => .skip) (retK tab C71 Tryz.f71.results.toList y) (C71.shIn (l, in_)).st := by
  unfold f71 at hF
  refine Or.inl ?_
  refine Or.inl ?_
  refine Or.inl ?_
  refine Or.inl ?_
  refine condI hF (fun hF => ?_) (fun hF => ?_)
  · refine Or.inl ?_
    obtain ⟨q3_3, hq3_3, hF⟩ := bindE hF
    refine Exists.intro (.take 0 (.take 1 (.take 2 (.take 5 (.take 6 (.alt 3 (.alt 4 (.alt 7 (.alt 8 (.take 9 .done) .done) .done) (.alt 7 (.alt 4 (.alt 8 (.take 9 .done) .done) .done) .done)) (.alt 7 (.alt 3 (.alt 4 (.alt 8 (.take 9 .done) .done) .done) .done) .done))))))) (Exists.intro [] (Exists.intro [] (And.intro rfl ?_)))
    refine And.intro (And.intro trivial ?_) ?_
    · refine Or.inl ?_
      refine And.intro trivial ?_
      refine Or.inl (And.intro f44_in (callV0 (callI C44 in_ q3_3 [] false C44_holds hq3_3 rfl rfl ?_)))
      refine (And.intro rfl (And.intro (fun h => nomatch h) (And.intro rfl (And.intro rfl (And.intro trivial (And.intro trivial ?_))))))
      refine And.intro trivial ?_
      refine Or.inl ?_
      refine And.intro trivial ?_
      refine Or.inl ?_
      have hy := someE hF
      subst hy
      refine And.intro rfl (Exists.intro [] (Exists.intro [] (Exists.intro [] (Exists.intro [] (Exists.intro [(0, some 3)] (And.intro rfl (And.intro (And.intro rfl trivial) (And.intro rfl trivial))))))))
    · refine Or.inl (And.intro f44_in (callV0 (callI C44 in_ q3_3 [] false C44_holds hq3_3 rfl rfl ?_)))
      refine (And.intro rfl (And.intro (fun h => nomatch h) (And.intro rfl (And.intro rfl (And.intro trivial (And.intro trivial ?_))))))
      refine And.intro (And.intro trivial ?_) ?_
      · refine Or.inl ?_
        refine And.intro trivial ?_
        refine Or.inl ?_
        refine And.intro trivial ?_
        refine Or.inl ?_
        have hy := someE hF
        subst hy
        refine And.intro rfl (Exists.intro [] (Exists.intro [] (Exists.intro [] (Exists.intro [] (Exists.intro [(0, some 3)] (And.intro rfl (And.intro (And.intro rfl trivial) (And.intro rfl trivial))))))))
      · refine Or.inl ?_
        refine And.intro trivial ?_
        refine Or.inl ?_
        refine And.intro trivial ?_
        refine Or.inl ?_
        have hy := someE hF
        subst hy
        refine And.intro rfl (Exists.intro [] (Exists.intro [] (Exists.intro [] (Exists.intro [] (Exists.intro [(0, some 3)] (And.intro rfl (And.intro (And.intro rfl trivial) (And.intro rfl trivial))))))))
  · refine Or.inl ?_
    refine condI hF (fun hF => ?_) (fun hF => ?_)
    · refine Or.inl ?_
      refine Exists.intro (.take 0 (.take 1 (.take 2 (.take 3 (.take 4 (.take 5 (.take 6 (.alt 7 (.alt 8 (.take 9 .done) .done) .done)))))))) (Exists.intro [] (Exists.intro [] (And.intro rfl ?_)))
      refine guardI hF (fun hF => ?_)
      refine And.intro trivial ?_
      refine Or.inl ?_
      refine And.intro trivial ?_
      refine Or.inl ?_
      have hy := someE hF
      subst hy
      refine And.intro rfl (Exists.intro [] (Exists.intro [] (Exists.intro [] (Exists.intro [] (Exists.intro [(0, some 2)] (And.intro rfl (And.intro (And.intro rfl trivial) (And.intro rfl trivial))))))))
    · refine Or.inl ?_
      have hy := someE hF
      subst hy
      refine And.intro rfl (Exists.intro [] (Exists.intro [] (Exists.intro [] (Exists.intro [] (Exists.intro [(0, none)] (And.intro rfl (And.intro (And.intro rfl trivial) (And.intro rfl trivial))))))))
theorem C71_holds : C71.Holds Tryz.prog 71 := holds_of_vc tab_ok mixed (fn := Tryz.f71) (by kernel_rfl) rfl C71 (fun x y hF => C71_vc x.1 x.2 y hF)
theorem f71_in : ∃ fn, Tryz.prog.funcs[71]? = some fn ∧ fn.body.isSome = true ∧ (fn.name == "runtime.NumGoroutine") = false := ⟨Tryz.f71, by kernel_rfl, by kernel_rfl, by kernel_rfl⟩
end Go.Proofs
namespace Go.Proofs
open Go.AM
-- carousel/shape.product
def f103_j4 (d : List Int) (v11 : Int) : Option (Sum Unit Unit) :=
  bif (decide ((rd (0 : Int) d v11) < (1 : Int))) then
    some (Sum.inr ())
  else
    bif (decide ((rd (0 : Int) d v11) > (4096 : Int))) then
      some (Sum.inr ())
    else
      some (Sum.inl ())
def f103_l3 (d : List Int) (go : (Int × Int) → Option (Sum Unit Int)) (n : Int) (v11 : Int) : Option (Sum Unit Int) :=
  bif (decide (v11 < (List.length d : Int))) then
    guardF (0 ≤ v11 ∧ v11 < (List.length d : Int)) <|
    bindF (f103_j4 d v11) fun z4 =>
    sumF z4 (fun z4a =>
      bif (decide ((IntKind.i64.wrap (n * (rd (0 : Int) d v11))) > (4096 : Int))) then
        some (Sum.inl ())
      else
        go ((IntKind.i64.wrap (n * (rd (0 : Int) d v11))), (IntKind.i64.wrap (v11 + (1 : Int))))) (fun z4b =>
      some (Sum.inl ()))
  else
    some (Sum.inr n)
def f103 (d : List Int) : Option Int :=
  bif (decide ((List.length d : Int) > (4 : Int))) then
    some (0 : Int)
  else
    bindF (loopF (fun go x => f103_l3 d go x.1 x.2) fuelN ((1 : Int), (0 : Int))) fun z3 =>
    sumF z3 (fun z3a =>
      some (0 : Int)) (fun z3b =>
      some z3b)
def C103 : Con where
  X := List Int
  Y := Int
  e := 0
  args x := [.dat (.sl (.int .i64)) x]
  hin x := []
  F x := f103 x
  ret y := [.dat (.int .i64) y]
  hout y := []
  nout := 0
theorem C103_vc (d : List Int) (y : Int) (hF : f103 d = some y) : vc Tryz.prog tab Tryz.f103.ntmps 0 (match Tryz.f103.body with | some c => c | none => .skip) (retK tab C103 Tryz.f103.results.toList y) (C103.shIn d).st := by
  unfold f103 at hF
  refine Or.inl ?_
  refine Or.inl ?_
  refine Or.inl ?_
  refine condI hF (fun hF => ?_) (fun hF => ?_)
  · refine Or.inl ?_
    have hy := someE hF
    subst hy
    refine And.intro rfl (Exists.intro [] (Exists.intro [] (Exists.intro [] (Exists.intro [] (Exists.intro [] (And.intro rfl (And.intro rfl (And.intro trivial trivial))))))))
  · refine Or.inl ?_
    refine Or.inl ?_
    refine Or.inl ?_
    obtain ⟨z3, hz3, hF⟩ := bindE hF
    refine loopI (Int × Int) (Sum Unit Int) (fun x => ⟨[(3, .dat (.int .i64) x.1), (9, .dat (.sl (.int .i64)) d), (10, .dat (.int .i64) (List.length d : Int)), (11, .dat (.int .i64) x.2)], [], 0⟩) (fun z => Sum.elim (fun za => [(1, ⟨[(2, .dat (.int .i64) (0 : Int))], [], 0⟩)]) (fun zb => [(2, ⟨[(3, .dat (.int .i64) zb)], [], 0⟩)]) z) (loopF (fun go x => f103_l3 d go x.1 x.2)) fuelN ((1 : Int), (0 : Int)) z3 (And.intro hz3 (And.intro (Exists.intro [] (Exists.intro [] (Exists.intro [] (Exists.intro [] (Exists.intro [] (And.intro rfl (And.intro rfl (And.intro rfl (And.intro rfl (And.intro rfl (And.intro trivial trivial))))))))))) (And.intro (fun _ _ h => loopZ h) (And.intro (fun m => curI (fun n => fun v11 z hF => ?_)) ?_))))
    · have hF : f103_l3 d (loopF (fun go x => f103_l3 d go x.1 x.2) m) n v11 = some z := hF
      unfold f103_l3 at hF
      refine Or.inl ?_
      refine Or.inl ?_
      refine condI hF (fun hF => ?_) (fun hF => ?_)
      · refine Or.inl ?_
        refine Or.inl ?_
        refine guardI hF (fun hF => ?_)
        obtain ⟨z4, hz4, hF⟩ := bindE hF
        refine Or.inr ⟨Sum.elim (fun z4a => [(0, ⟨[(3, .dat (.int .i64) n), (5, .dat (.int .i64) (rd (0 : Int) d v11)), (9, .dat (.sl (.int .i64)) d), (10, .dat (.int .i64) (List.length d : Int)), (11, .dat (.int .i64) v11)], [], 0⟩)]) (fun z4b => [(1, ⟨[(2, .dat (.int .i64) (0 : Int))], [], 0⟩)]) z4, ?_, ?_⟩
        · have hF := hz4
          clear hz4
          unfold f103_j4 at hF
          refine Or.inl ?_
          refine condN hF (fun hF => ?_) (fun hF => ?_)
          · refine gdYF ?_
            refine condF ?_
            refine condI hF (fun hF => ?_) (fun hF => ?_)
            · refine Or.inl ?_
              have hz := someE hF
              subst hz
              refine Exists.intro [] (Exists.intro [] (Exists.intro [] (Exists.intro [] (Exists.intro [] (And.intro rfl (And.intro rfl (And.intro trivial trivial)))))))
            · have hz := someE hF
              subst hz
              refine Exists.intro [] (Exists.intro [] (Exists.intro [] (Exists.intro [] (Exists.intro [] (And.intro rfl (And.intro rfl (And.intro rfl (And.intro rfl (And.intro rfl (And.intro rfl (And.intro trivial trivial)))))))))))
          · refine gdNF ?_
            refine condT ?_
            refine condT ?_
            refine Or.inl ?_
            have hz := someE hF
            subst hz
            refine Exists.intro [] (Exists.intro [] (Exists.intro [] (Exists.intro [] (Exists.intro [] (And.intro rfl (And.intro rfl (And.intro trivial trivial)))))))
        · rcases z4 with z4a | z4b
          · dsimp only [sumF] at hF
            refine And.intro ?_ trivial
            refine Or.inl ?_
            refine Or.inl ?_
            refine condI hF (fun hF => ?_) (fun hF => ?_)
            · refine Or.inl ?_
              have hz := someE hF
              subst hz
              refine Exists.intro [] (Exists.intro [] (Exists.intro [] (Exists.intro [] (Exists.intro [] (And.intro rfl (And.intro rfl (And.intro trivial trivial)))))))
            · refine Exists.intro ((IntKind.i64.wrap (n * (rd (0 : Int) d v11))), (IntKind.i64.wrap (v11 + (1 : Int)))) (And.intro hF (Exists.intro [] (Exists.intro [] (Exists.intro [] (Exists.intro [] (Exists.intro [] (And.intro rfl (And.intro rfl (And.intro rfl (And.intro rfl (And.intro rfl (And.intro trivial trivial))))))))))))
          · dsimp only [sumF] at hF
            refine And.intro ?_ trivial
            have hz := someE hF
            subst hz
            refine Exists.intro [] (Exists.intro [] (Exists.intro [] (Exists.intro [] (Exists.intro [] (And.intro rfl (And.intro rfl (And.intro trivial trivial)))))))
      · have hz := someE hF
        subst hz
        refine Exists.intro [] (Exists.intro [] (Exists.intro [] (Exists.intro [] (Exists.intro [] (And.intro rfl (And.intro rfl (And.intro trivial trivial)))))))
    · rcases z3 with z3a | z3b
      · dsimp only [sumF] at hF
        refine And.intro ?_ trivial
        have hy := someE hF
        subst hy
        refine And.intro rfl (Exists.intro [] (Exists.intro [] (Exists.intro [] (Exists.intro [] (Exists.intro [] (And.intro rfl (And.intro rfl (And.intro trivial trivial))))))))
      · dsimp only [sumF] at hF
        refine And.intro ?_ trivial
        refine Or.inl ?_
        have hy := someE hF
        subst hy
        refine And.intro rfl (Exists.intro [] (Exists.intro [] (Exists.intro [] (Exists.intro [] (Exists.intro [] (And.intro rfl (And.intro rfl (And.intro trivial trivial))))))))
theorem C103_holds : C103.Holds Tryz.prog 103 := holds_of_vc tab_ok mixed (fn := Tryz.f103) (by kernel_rfl) rfl C103 (fun x y hF => C103_vc x y hF)
theorem f103_in : ∃ fn, Tryz.prog.funcs[103]? = some fn ∧ fn.body.isSome = true ∧ (fn.name == "runtime.NumGoroutine") = false := ⟨Tryz.f103, by kernel_rfl, by kernel_rfl, by kernel_rfl⟩
end Go.Proofs
namespace Go.Proofs
open Go.AM
-- carousel/shape.Good
def f72 (d : List Int) : Option Bool :=
  bindF (f103 d) fun r1 =>
  some (decide (r1 > (0 : Int)))
def C72 : Con where
  X := List Int
  Y := Bool
  e := 0
  args x := [.dat (.sl (.int .i64)) x]
  hin x := []
  F x := f72 x
  ret y := [.dat .bool y]
  hout y := []
  nout := 0
theorem C72_vc (d : List Int) (y : Bool) (hF : f72 d = some y) : vc Tryz.prog tab Tryz.f72.ntmps 0 (match Tryz.f72.body with | some c => c | none => .skip) (retK tab C72 Tryz.f72.results.toList y) (C72.shIn d).st := by
  unfold f72 at hF
  refine Or.inl ?_
  refine Or.inl ?_
  obtain ⟨r1, hr1, hF⟩ := bindE hF
  refine Or.inl (And.intro f103_in (callV0 (callI C103 d r1 [] false C103_holds hr1 rfl rfl ?_)))
  refine (And.intro rfl (And.intro (fun h => nomatch h) (And.intro rfl (And.intro rfl (And.intro trivial (And.intro trivial ?_))))))
  have hy := someE hF
  subst hy
  refine And.intro rfl (Exists.intro [] (Exists.intro [] (Exists.intro [] (Exists.intro [] (Exists.intro [] (And.intro rfl (And.intro rfl (And.intro trivial trivial))))))))
theorem C72_holds : C72.Holds Tryz.prog 72 := holds_of_vc tab_ok mixed (fn := Tryz.f72) (by kernel_rfl) rfl C72 (fun x y hF => C72_vc x y hF)
theorem f72_in : ∃ fn, Tryz.prog.funcs[72]? = some fn ∧ fn.body.isSome = true ∧ (fn.name == "runtime.NumGoroutine") = false := ⟨Tryz.f72, by kernel_rfl, by kernel_rfl, by kernel_rfl⟩
end Go.Proofs
namespace Go.Proofs
open Go.AM
-- (carousel/model.Net).sum
def f43_l4 (q5_5 : List (List Int)) (go : (Int × Bool × Int) → Option (Int × Bool)) (many_2 : Int) (ok_2 : Bool) (v31 : Int) : Option (Int × Bool) :=
  bif (decide (v31 < (List.length q5_5 : Int))) then
    guardF (0 ≤ v31 ∧ v31 < (List.length q5_5 : Int)) <|
    bindF (f44 (rd (Ty.z (.sl (.int .i64))) q5_5 v31)) fun r25 =>
    bif ok_2 then
      bindF (f72 (rd (Ty.z (.sl (.int .i64))) q5_5 v31)) fun r26 =>
      go ((IntKind.i64.wrap (many_2 + r25)), r26, (IntKind.i64.wrap (v31 + (1 : Int))))
    else
      go ((IntKind.i64.wrap (many_2 + r25)), false, (IntKind.i64.wrap (v31 + (1 : Int))))
  else
    some (many_2, ok_2)
def f43_l3 (n : (List Int) × (List (ByteArray × Int × Int))) (d : List (List Int)) (go : (Int × Bool × Int) → Option (Int × Bool)) (many : Int) (ok : Bool) (v19 : Int) : Option (Int × Bool) :=
  bif (decide (v19 < (List.length n.2 : Int))) then
    guardF (0 ≤ v19 ∧ v19 < (List.length n.2 : Int)) <|
    guardF (0 ≤ v19 ∧ v19 < (List.length d : Int)) <|
    bindF (f71 ((rd (Ty.z (.p .str (.p (.int .i64) (.int .i64)))) n.2 v19).1, ((rd (Ty.z (.p .str (.p (.int .i64) (.int .i64)))) n.2 v19).2).1, ((rd (Ty.z (.p .str (.p (.int .i64) (.int .i64)))) n.2 v19).2).2) (rd (Ty.z (.sl (.int .i64))) d v19)) fun q5_5 =>
    bindF (loopF (fun go x => f43_l4 q5_5 go x.1 x.2.1 x.2.2) fuelN (many, ok, (0 : Int))) fun z24 =>
    bif z24.2 then
      guardF (0 ≤ v19 ∧ v19 < (List.length d : Int)) <|
      bindF (f72 (rd (Ty.z (.sl (.int .i64))) d v19)) fun r27 =>
      bif r27 then
        guardF (0 ≤ (IntKind.i64.wrap (v19 + (1 : Int))) ∧ (IntKind.i64.wrap (v19 + (1 : Int))) < (List.length d : Int)) <|
        bindF (f72 (rd (Ty.z (.sl (.int .i64))) d (IntKind.i64.wrap (v19 + (1 : Int))))) fun r28 =>
        go (z24.1, r28, (IntKind.i64.wrap (v19 + (1 : Int))))
      else
        go (z24.1, false, (IntKind.i64.wrap (v19 + (1 : Int))))
    else
      go (z24.1, false, (IntKind.i64.wrap (v19 + (1 : Int))))
  else
    some (many, ok)
def f43 (n : (List Int) × (List (ByteArray × Int × Int))) (d : List (List Int)) : Option (Int × Bool) :=
  bindF (loopF (fun go x => f43_l3 n d go x.1 x.2.1 x.2.2) fuelN ((0 : Int), (decide ((List.length n.2 : Int) ≤ (16 : Int))), (0 : Int))) fun z19 =>
  bif z19.2 then
    bindF (f72 n.1) fun r29 =>
    bif r29 then
      some (z19.1, (decide (z19.1 ≤ (4096 : Int))))
    else
      some (z19.1, false)
  else
    some (z19.1, false)
def C43 : Con where
  X := ((List Int) × (List (ByteArray × Int × Int))) × (List (List Int))
  Y := Int × Bool
  e := 0
  args x := [.dat (.p (.sl (.int .i64)) (.sl (.p .str (.p (.int .i64) (.int .i64))))) x.1, .dat (.sl (.sl (.int .i64))) x.2]
  hin x := []
  F x := f43 x.1 x.2
  ret y := [.dat (.int .i64) y.1, .dat .bool y.2]
  hout y := []
  nout := 0
theorem C43_vc (n : (List Int) × (List (ByteArray × Int × Int))) (d : List (List Int)) (y : Int × Bool) (hF : f43 n d = some y) : vc Tryz.prog tab Tryz.f43.ntmps 0 (match Tryz.f43.body with | some c => c | none => .skip) (retK tab C43 Tryz.f43.results.toList y) (C43.shIn (n, d)).st := by
  unfold f43 at hF
  refine Or.inl ?_
  refine Or.inl ?_
  refine Exists.intro (.take 0 (.take 1 (.take 2 (.take 3 (.take 4 (.take 5 .done)))))) (Exists.intro [] (Exists.intro [] (And.intro rfl ?_)))
  refine Or.inl ?_
  refine Or.inl ?_
  obtain ⟨z19, hz19, hF⟩ := bindE hF
  refine loopI (Int × Bool × Int) (Int × Bool) (fun x => ⟨[(1, .dat (.sl (.sl (.int .i64))) d), (2, .raw false [(.ptr 0 0)]), (6, .dat (.int .i64) x.1), (7, .dat .bool x.2.1), (17, .dat (.sl (.p .str (.p (.int .i64) (.int .i64)))) n.2), (18, .dat (.int .i64) (List.length n.2 : Int)), (19, .dat (.int .i64) x.2.2)], [(0, .cells [(.d (.sl (.int .i64)) n.1), (.d (.sl (.p .str (.p (.int .i64) (.int .i64)))) n.2)])], 1⟩) (fun z => [(2, ⟨[(2, .raw false [(.ptr 0 0)]), (6, .dat (.int .i64) z.1), (7, .dat .bool z.2)], [(0, .cells [(.d (.sl (.int .i64)) n.1), (.d (.sl (.p .str (.p (.int .i64) (.int .i64)))) n.2)])], 1⟩)]) (loopF (fun go x => f43_l3 n d go x.1 x.2.1 x.2.2)) fuelN ((0 : Int), (decide ((List.length n.2 : Int) ≤ (16 : Int))), (0 : Int)) z19 (And.intro hz19 (And.intro (Exists.intro [] (Exists.intro [] (Exists.intro [] (Exists.intro [] (Exists.intro [(0, some 0)] (And.intro rfl (And.intro rfl (And.intro rfl (And.intro rfl (And.intro rfl (And.intro rfl (And.intro rfl (And.intro (And.intro rfl trivial) (And.intro rfl trivial)))))))))))))) (And.intro (fun _ _ h => loopZ h) (And.intro (fun m => curI (fun many => curI (fun ok => fun v19 z hF => ?_))) ?_))))
  · have hF : f43_l3 n d (loopF (fun go x => f43_l3 n d go x.1 x.2.1 x.2.2) m) many ok v19 = some z := hF
    unfold f43_l3 at hF
    refine Or.inl ?_
    refine Or.inl ?_
    refine condI hF (fun hF => ?_) (fun hF => ?_)
    · refine Or.inl ?_
      refine Or.inl ?_
      refine guardI hF (fun hF => ?_)
      refine Or.inl ?_
      refine Or.inl ?_
      refine Or.inl ?_
      refine Exists.intro (.take 0 (.take 1 (.take 2 (.take 3 (.take 4 (.take 7 (.alt 5 (.take 6 .done) .done))))))) (Exists.intro [] (Exists.intro [] (And.intro rfl ?_)))
      refine guardI hF (fun hF => ?_)
      refine And.intro trivial ?_
      obtain ⟨q5_5, hq5_5, hF⟩ := bindE hF
      refine Or.inl (And.intro f71_in (callV0 (callI C71 (((rd (Ty.z (.p .str (.p (.int .i64) (.int .i64)))) n.2 v19).1, ((rd (Ty.z (.p .str (.p (.int .i64) (.int .i64)))) n.2 v19).2).1, ((rd (Ty.z (.p .str (.p (.int .i64) (.int .i64)))) n.2 v19).2).2), (rd (Ty.z (.sl (.int .i64))) d v19)) q5_5 [] false C71_holds hq5_5 rfl rfl ?_)))
      refine (And.intro rfl (And.intro rfl (And.intro rfl (And.intro (fun h => nomatch h) (And.intro rfl (And.intro rfl (And.intro trivial (And.intro trivial ?_))))))))
      obtain ⟨z24, hz24, hF⟩ := bindE hF
      refine loopI (Int × Bool × Int) (Int × Bool) (fun x => ⟨[(1, .dat (.sl (.sl (.int .i64))) d), (2, .raw false [(.ptr 0 0)]), (6, .dat (.int .i64) x.1), (7, .dat .bool x.2.1), (8, .dat (.int .i64) v19), (17, .dat (.sl (.p .str (.p (.int .i64) (.int .i64)))) n.2), (18, .dat (.int .i64) (List.length n.2 : Int)), (19, .dat (.int .i64) v19), (29, .raw false [(.osl 1)]), (30, .dat (.int .i64) (List.length q5_5 : Int)), (31, .dat (.int .i64) x.2.2)], [(0, .cells [(.d (.sl (.int .i64)) n.1), (.d (.sl (.p .str (.p (.int .i64) (.int .i64)))) n.2)]), (1, .arr 30 (.sl (.int .i64)) q5_5)], 2⟩) (fun z => [(4, ⟨[(1, .dat (.sl (.sl (.int .i64))) d), (2, .raw false [(.ptr 0 0)]), (6, .dat (.int .i64) z.1), (7, .dat .bool z.2), (8, .dat (.int .i64) v19), (17, .dat (.sl (.p .str (.p (.int .i64) (.int .i64)))) n.2), (18, .dat (.int .i64) (List.length n.2 : Int)), (19, .dat (.int .i64) v19)], [(0, .cells [(.d (.sl (.int .i64)) n.1), (.d (.sl (.p .str (.p (.int .i64) (.int .i64)))) n.2)])], 1⟩)]) (loopF (fun go x => f43_l4 q5_5 go x.1 x.2.1 x.2.2)) fuelN (many, ok, (0 : Int)) z24 (And.intro hz24 (And.intro (Exists.intro [] (Exists.intro [] (Exists.intro [] (Exists.intro [] (Exists.intro [(0, some 0), (1, some 2)] (And.intro rfl (And.intro rfl (And.intro rfl (And.intro rfl (And.intro rfl (And.intro rfl (And.intro rfl (And.intro rfl (And.intro rfl (And.intro rfl (And.intro (And.intro rfl (And.intro rfl trivial)) (And.intro rfl (And.intro rfl trivial)))))))))))))))))) (And.intro (fun _ _ h => loopZ h) (And.intro (fun m => curI (fun many_2 => curI (fun ok_2 => fun v31 z hF => ?_))) ?_))))
      · have hF : f43_l4 q5_5 (loopF (fun go x => f43_l4 q5_5 go x.1 x.2.1 x.2.2) m) many_2 ok_2 v31 = some z := hF
        unfold f43_l4 at hF
        refine Or.inl ?_
        refine Or.inl ?_
        refine condI hF (fun hF => ?_) (fun hF => ?_)
        · refine Or.inl ?_
          refine Or.inl ?_
          refine guardI hF (fun hF => ?_)
          refine Or.inl ?_
          obtain ⟨r25, hr25, hF⟩ := bindE hF
          refine Or.inl (And.intro f44_in (callV0 (callI C44 (rd (Ty.z (.sl (.int .i64))) q5_5 v31) r25 [] false C44_holds hr25 rfl rfl ?_)))
          refine (And.intro rfl (And.intro (fun h => nomatch h) (And.intro rfl (And.intro rfl (And.intro trivial (And.intro trivial ?_))))))
          refine condI hF (fun hF => ?_) (fun hF => ?_)
          · refine gdYT ?_
            obtain ⟨r26, hr26, hF⟩ := bindE hF
            refine Or.inl (And.intro f72_in (callV0 (callI C72 (rd (Ty.z (.sl (.int .i64))) q5_5 v31) r26 [] false C72_holds hr26 rfl rfl ?_)))
            refine (And.intro rfl (And.intro (fun h => nomatch h) (And.intro rfl (And.intro rfl (And.intro trivial (And.intro trivial ?_))))))
            refine condT ?_
            refine Exists.intro ((IntKind.i64.wrap (many_2 + r25)), r26, (IntKind.i64.wrap (v31 + (1 : Int)))) (And.intro hF (Exists.intro [] (Exists.intro [] (Exists.intro [] (Exists.intro [] (Exists.intro [(0, some 0), (1, some 1)] (And.intro rfl (And.intro rfl (And.intro rfl (And.intro rfl (And.intro rfl (And.intro rfl (And.intro rfl (And.intro rfl (And.intro rfl (And.intro rfl (And.intro (And.intro rfl (And.intro rfl trivial)) (And.intro rfl (And.intro rfl trivial)))))))))))))))))))
          · refine gdNT ?_
            refine condF ?_
            refine Exists.intro ((IntKind.i64.wrap (many_2 + r25)), false, (IntKind.i64.wrap (v31 + (1 : Int)))) (And.intro hF (Exists.intro [] (Exists.intro [] (Exists.intro [] (Exists.intro [] (Exists.intro [(0, some 0), (1, some 1)] (And.intro rfl (And.intro rfl (And.intro rfl (And.intro rfl (And.intro rfl (And.intro rfl (And.intro rfl (And.intro rfl (And.intro rfl (And.intro rfl (And.intro (And.intro rfl (And.intro rfl trivial)) (And.intro rfl (And.intro rfl trivial)))))))))))))))))))
        · have hz := someE hF
          subst hz
          refine Exists.intro [] (Exists.intro [] (Exists.intro [] (Exists.intro [] (Exists.intro [(0, some 0)] (And.intro rfl (And.intro rfl (And.intro rfl (And.intro rfl (And.intro rfl (And.intro rfl (And.intro rfl (And.intro rfl (And.intro (And.intro rfl trivial) (And.intro rfl trivial))))))))))))))
      · refine And.intro ?_ trivial
        refine condI hF (fun hF => ?_) (fun hF => ?_)
        · refine gdYT ?_
          refine gdYT ?_
          refine guardI hF (fun hF => ?_)
          refine gdYT ?_
          refine gdYT ?_
          obtain ⟨r27, hr27, hF⟩ := bindE hF
          refine Or.inl (And.intro f72_in (callV0 (callI C72 (rd (Ty.z (.sl (.int .i64))) d v19) r27 [] false C72_holds hr27 rfl rfl ?_)))
          refine (And.intro rfl (And.intro (fun h => nomatch h) (And.intro rfl (And.intro rfl (And.intro trivial (And.intro trivial ?_))))))
          refine condT ?_
          refine condI hF (fun hF => ?_) (fun hF => ?_)
          · refine gdYT ?_
            refine gdYT ?_
            refine gdYT ?_
            refine guardI hF (fun hF => ?_)
            refine gdYT ?_
            refine gdYT ?_
            obtain ⟨r28, hr28, hF⟩ := bindE hF
            refine Or.inl (And.intro f72_in (callV0 (callI C72 (rd (Ty.z (.sl (.int .i64))) d (IntKind.i64.wrap (v19 + (1 : Int)))) r28 [] false C72_holds hr28 rfl rfl ?_)))
            refine (And.intro rfl (And.intro (fun h => nomatch h) (And.intro rfl (And.intro rfl (And.intro trivial (And.intro trivial ?_))))))
            refine condT ?_
            refine Exists.intro (z24.1, r28, (IntKind.i64.wrap (v19 + (1 : Int)))) (And.intro hF (Exists.intro [] (Exists.intro [] (Exists.intro [] (Exists.intro [] (Exists.intro [(0, some 0)] (And.intro rfl (And.intro rfl (And.intro rfl (And.intro rfl (And.intro rfl (And.intro rfl (And.intro rfl (And.intro (And.intro rfl trivial) (And.intro rfl trivial)))))))))))))))
          · refine gdNT ?_
            refine gdNT ?_
            refine gdNT ?_
            refine gdNT ?_
            refine gdNT ?_
            refine condF ?_
            refine Exists.intro (z24.1, false, (IntKind.i64.wrap (v19 + (1 : Int)))) (And.intro hF (Exists.intro [] (Exists.intro [] (Exists.intro [] (Exists.intro [] (Exists.intro [(0, some 0)] (And.intro rfl (And.intro rfl (And.intro rfl (And.intro rfl (And.intro rfl (And.intro rfl (And.intro rfl (And.intro (And.intro rfl trivial) (And.intro rfl trivial)))))))))))))))
        · refine gdNT ?_
          refine gdNT ?_
          refine gdNT ?_
          refine gdNT ?_
          refine condF ?_
          refine gdNT ?_
          refine gdNT ?_
          refine gdNT ?_
          refine gdNT ?_
          refine gdNT ?_
          refine gdNT ?_
          refine condF ?_
          refine Exists.intro (z24.1, false, (IntKind.i64.wrap (v19 + (1 : Int)))) (And.intro hF (Exists.intro [] (Exists.intro [] (Exists.intro [] (Exists.intro [] (Exists.intro [(0, some 0)] (And.intro rfl (And.intro rfl (And.intro rfl (And.intro rfl (And.intro rfl (And.intro rfl (And.intro rfl (And.intro (And.intro rfl trivial) (And.intro rfl trivial)))))))))))))))
    · have hz := someE hF
      subst hz
      refine Exists.intro [] (Exists.intro [] (Exists.intro [] (Exists.intro [] (Exists.intro [(0, some 0)] (And.intro rfl (And.intro rfl (And.intro rfl (And.intro (And.intro rfl trivial) (And.intro rfl trivial)))))))))
  · refine And.intro ?_ trivial
    refine Or.inl ?_
    refine condI hF (fun hF => ?_) (fun hF => ?_)
    · refine gdYT ?_
      refine gdYT ?_
      obtain ⟨r29, hr29, hF⟩ := bindE hF
      refine Or.inl (And.intro f72_in (callV0 (callI C72 n.1 r29 [] false C72_holds hr29 rfl rfl ?_)))
      refine (And.intro rfl (And.intro (fun h => nomatch h) (And.intro rfl (And.intro rfl (And.intro trivial (And.intro trivial ?_))))))
      refine condT ?_
      refine condI hF (fun hF => ?_) (fun hF => ?_)
      · refine gdYT ?_
        refine condT ?_
        have hy := someE hF
        subst hy
        refine And.intro rfl (Exists.intro [] (Exists.intro [] (Exists.intro [] (Exists.intro [] (Exists.intro [] (And.intro rfl (And.intro rfl (And.intro rfl (And.intro trivial trivial)))))))))
      · refine gdNT ?_
        refine condF ?_
        have hy := someE hF
        subst hy
        refine And.intro rfl (Exists.intro [] (Exists.intro [] (Exists.intro [] (Exists.intro [] (Exists.intro [] (And.intro rfl (And.intro rfl (And.intro rfl (And.intro trivial trivial)))))))))
    · refine gdNT ?_
      refine gdNT ?_
      refine condF ?_
      refine gdNT ?_
      refine gdNT ?_
      refine condF ?_
      have hy := someE hF
      subst hy
      refine And.intro rfl (Exists.intro [] (Exists.intro [] (Exists.intro [] (Exists.intro [] (Exists.intro [] (And.intro rfl (And.intro rfl (And.intro rfl (And.intro trivial trivial)))))))))
theorem C43_holds : C43.Holds Tryz.prog 43 := holds_of_vc tab_ok mixed (fn := Tryz.f43) (by kernel_rfl) rfl C43 (fun x y hF => C43_vc x.1 x.2 y hF)
theorem f43_in : ∃ fn, Tryz.prog.funcs[43]? = some fn ∧ fn.body.isSome = true ∧ (fn.name == "runtime.NumGoroutine") = false := ⟨Tryz.f43, by kernel_rfl, by kernel_rfl, by kernel_rfl⟩
end Go.Proofs
namespace Go.Proofs
open Go.AM
-- carousel/model.Shapes
def f42 (n : (List Int) × (List (ByteArray × Int × Int))) : Option (Int × (List (List Int))) :=
  bindF (f69 (n.1, n.2)) fun r1 =>
  bif (!r1) then
    some ((1 : Int), [])
  else
    bindF (f70 (n.1, n.2)) fun r2 =>
    bif (!r2.1) then
      some ((4 : Int), [])
    else
      bindF (f43 (n.1, n.2) r2.2) fun r3 =>
      bif (!r3.2) then
        some ((2 : Int), [])
      else
        some ((0 : Int), r2.2)
def C42 : Con where
  X := (List Int) × (List (ByteArray × Int × Int))
  Y := Int × (List (List Int))
  e := 0
  args x := [.dat (.p (.sl (.int .i64)) (.sl (.p .str (.p (.int .i64) (.int .i64))))) x]
  hin x := []
  F x := f42 x
  ret y := [.raw false [(.osl 0)], .dat (.int .i64) y.1]
  hout y := [(0, .arr 30 (.sl (.int .i64)) y.2)]
  nout := 1
theorem C42_vc (n : (List Int) × (List (ByteArray × Int × Int))) (y : Int × (List (List Int))) (hF : f42 n = some y) : vc Tryz.prog tab Tryz.f42.ntmps 0 (match Tryz.f42.body with | some c => c | none => .skip) (retK tab C42 Tryz.f42.results.toList y) (C42.shIn n).st := by
  unfold f42 at hF
  refine Or.inl ?_
  refine Or.inl ?_
  refine Or.inl ?_
  obtain ⟨r1, hr1, hF⟩ := bindE hF
  refine Or.inl (And.intro f69_in (callV0 (callI C69 (n.1, n.2) r1 [] false C69_holds hr1 rfl rfl ?_)))
  refine (And.intro rfl (And.intro rfl (And.intro (fun h => nomatch h) (And.intro rfl (And.intro rfl (And.intro trivial (And.intro trivial ?_)))))))
  refine condI hF (fun hF => ?_) (fun hF => ?_)
  · refine Or.inl ?_
    have hy := someE hF
    subst hy
    refine And.intro rfl (Exists.intro [] (Exists.intro [] (Exists.intro [] (Exists.intro [] (Exists.intro [(0, none)] (And.intro rfl (And.intro rfl (And.intro (And.intro rfl trivial) (And.intro rfl trivial)))))))))
  · refine Or.inl ?_
    obtain ⟨r2, hr2, hF⟩ := bindE hF
    refine Or.inl (And.intro f70_in (callV0 (callI C70 (n.1, n.2) r2 [] false C70_holds hr2 rfl rfl ?_)))
    refine (And.intro rfl (And.intro rfl (And.intro (fun h => nomatch h) (And.intro rfl (And.intro rfl (And.intro trivial (And.intro trivial ?_)))))))
    refine Or.inl ?_
    refine Or.inl ?_
    refine condI hF (fun hF => ?_) (fun hF => ?_)
    · refine Or.inl ?_
      have hy := someE hF
      subst hy
      refine And.intro rfl (Exists.intro [] (Exists.intro [] (Exists.intro [] (Exists.intro [] (Exists.intro [(0, none)] (And.intro rfl (And.intro rfl (And.intro (And.intro rfl trivial) (And.intro rfl trivial)))))))))
    · refine Or.inl ?_
      refine Or.inl ?_
      obtain ⟨r3, hr3, hF⟩ := bindE hF
      refine Or.inl (And.intro f43_in (callV0 (callI C43 ((n.1, n.2), r2.2) r3 [] true C43_holds hr3 rfl rfl ?_)))
      refine (And.intro rfl (And.intro rfl (And.intro rfl (And.intro (fun _ => rfl) (And.intro rfl (And.intro rfl (And.intro trivial (And.intro trivial ?_))))))))
      refine Or.inl ?_
      refine condI hF (fun hF => ?_) (fun hF => ?_)
      · refine Or.inl ?_
        have hy := someE hF
        subst hy
        refine And.intro rfl (Exists.intro [] (Exists.intro [] (Exists.intro [] (Exists.intro [] (Exists.intro [(0, none)] (And.intro rfl (And.intro rfl (And.intro (And.intro rfl trivial) (And.intro rfl trivial)))))))))
      · refine Or.inl ?_
        have hy := someE hF
        subst hy
        refine And.intro rfl (Exists.intro [] (Exists.intro [] (Exists.intro [] (Exists.intro [] (Exists.intro [(0, some 1)] (And.intro rfl (And.intro rfl (And.intro (And.intro rfl trivial) (And.intro rfl trivial)))))))))
theorem C42_holds : C42.Holds Tryz.prog 42 := holds_of_vc tab_ok mixed (fn := Tryz.f42) (by kernel_rfl) rfl C42 (fun x y hF => C42_vc x y hF)
theorem f42_in : ∃ fn, Tryz.prog.funcs[42]? = some fn ∧ fn.body.isSome = true ∧ (fn.name == "runtime.NumGoroutine") = false := ⟨Tryz.f42, by kernel_rfl, by kernel_rfl, by kernel_rfl⟩
end Go.Proofs
namespace Go.Proofs
open Go.AM
-- carousel/model.Params
def f37 (n : (List Int) × (List (ByteArray × Int × Int))) : Option (Int × Int) :=
  bindF (f42 (n.1, n.2)) fun r1 =>
  bif (r1.1 != (0 : Int)) then
    some ((0 : Int), r1.1)
  else
    bindF (f43 (n.1, n.2) r1.2) fun r2 =>
    some (r2.1, (0 : Int))
def C37 : Con where
  X := (List Int) × (List (ByteArray × Int × Int))
  Y := Int × Int
  e := 0
  args x := [.dat (.p (.sl (.int .i64)) (.sl (.p .str (.p (.int .i64) (.int .i64))))) x]
  hin x := []
  F x := f37 x
  ret y := [.dat (.int .i64) y.1, .dat (.int .i64) y.2]
  hout y := []
  nout := 0
theorem C37_vc (n : (List Int) × (List (ByteArray × Int × Int))) (y : Int × Int) (hF : f37 n = some y) : vc Tryz.prog tab Tryz.f37.ntmps 0 (match Tryz.f37.body with | some c => c | none => .skip) (retK tab C37 Tryz.f37.results.toList y) (C37.shIn n).st := by
  unfold f37 at hF
  refine Or.inl ?_
  refine Or.inl ?_
  obtain ⟨r1, hr1, hF⟩ := bindE hF
  refine Or.inl (And.intro f42_in (callV0 (callI C42 (n.1, n.2) r1 [] false C42_holds hr1 rfl rfl ?_)))
  refine (And.intro rfl (And.intro rfl (And.intro (fun h => nomatch h) (And.intro rfl (And.intro rfl (And.intro trivial (And.intro trivial ?_)))))))
  refine Or.inl ?_
  refine Or.inl ?_
  refine condI hF (fun hF => ?_) (fun hF => ?_)
  · refine Or.inl ?_
    have hy := someE hF
    subst hy
    refine And.intro rfl (Exists.intro [] (Exists.intro [] (Exists.intro [] (Exists.intro [] (Exists.intro [] (And.intro rfl (And.intro rfl (And.intro rfl (And.intro trivial trivial)))))))))
  · refine Or.inl ?_
    obtain ⟨r2, hr2, hF⟩ := bindE hF
    refine Or.inl (And.intro f43_in (callV0 (callI C43 ((n.1, n.2), r1.2) r2 [] true C43_holds hr2 rfl rfl ?_)))
    refine (And.intro rfl (And.intro rfl (And.intro rfl (And.intro (fun _ => rfl) (And.intro rfl (And.intro rfl (And.intro trivial (And.intro trivial ?_))))))))
    refine Or.inl ?_
    have hy := someE hF
    subst hy
    refine And.intro rfl (Exists.intro [] (Exists.intro [] (Exists.intro [] (Exists.intro [] (Exists.intro [] (And.intro rfl (And.intro rfl (And.intro rfl (And.intro trivial trivial)))))))))
theorem C37_holds : C37.Holds Tryz.prog 37 := holds_of_vc tab_ok mixed (fn := Tryz.f37) (by kernel_rfl) rfl C37 (fun x y hF => C37_vc x y hF)
theorem f37_in : ∃ fn, Tryz.prog.funcs[37]? = some fn ∧ fn.body.isSome = true ∧ (fn.name == "runtime.NumGoroutine") = false := ⟨Tryz.f37, by kernel_rfl, by kernel_rfl, by kernel_rfl⟩
end Go.Proofs
namespace Go.Proofs
open Go.AM
-- carousel/tape.New
def f21 : Option Unit :=
  some ()
def C21 : Con where
  X := Unit
  Y := Unit
  e := 0
  args x := []
  hin x := []
  F x := f21
  ret y := [.raw false [(.ptr 0 0)]]
  hout y := [(0, .cells [(.osl 1)]), (1, .arr 132 (.p (.int .i64) (.p (.int .i64) (.p (.int .i64) (.p (.int .i64) (.p (.sl (.int .i64)) (.sl (.int .i64))))))) ([]))]
  nout := 2
theorem C21_vc (y : Unit) (hF : f21 = some y) : vc Tryz.prog tab Tryz.f21.ntmps 0 (match Tryz.f21.body with | some c => c | none => .skip) (retK tab C21 Tryz.f21.results.toList y) (C21.shIn ()).st := by
  unfold f21 at hF
  refine Or.inl ?_
  refine Or.inl ?_
  have hy := someE hF
  subst hy
  refine And.intro rfl (Exists.intro [] (Exists.intro [] (Exists.intro [] (Exists.intro [] (Exists.intro [(0, some 0), (1, none)] (And.intro rfl (And.intro (And.intro rfl trivial) (And.intro rfl (And.intro rfl trivial)))))))))
theorem C21_holds : C21.Holds Tryz.prog 21 := holds_of_vc tab_ok mixed (fn := Tryz.f21) (by kernel_rfl) rfl C21 (fun x y hF => C21_vc y hF)
theorem f21_in : ∃ fn, Tryz.prog.funcs[21]? = some fn ∧ fn.body.isSome = true ∧ (fn.name == "runtime.NumGoroutine") = false := ⟨Tryz.f21, by kernel_rfl, by kernel_rfl, by kernel_rfl⟩
end Go.Proofs
namespace Go.Proofs
open Go.AM
-- (*carousel/tape.Tape).Len
def f45 (t_l : List (Int × Int × Int × Int × (List Int) × (List Int))) : Option (Int × (List (Int × Int × Int × Int × (List Int) × (List Int)))) :=
  some ((List.length t_l : Int), t_l)
def C45 : Con where
  X := List (Int × Int × Int × Int × (List Int) × (List Int))
  Y := Int × (List (Int × Int × Int × Int × (List Int) × (List Int)))
  e := 2
  args x := [.raw false [(.ptr 0 0)]]
  hin x := [(0, .cells [(.osl 1)]), (1, .arr 132 (.p (.int .i64) (.p (.int .i64) (.p (.int .i64) (.p (.int .i64) (.p (.sl (.int .i64)) (.sl (.int .i64))))))) x)]
  F x := f45 x
  ret y := [.dat (.int .i64) y.1]
  hout y := [(0, .cells [(.osl 1)]), (1, .arr 132 (.p (.int .i64) (.p (.int .i64) (.p (.int .i64) (.p (.int .i64) (.p (.sl (.int .i64)) (.sl (.int .i64))))))) y.2)]
  nout := 2
theorem C45_vc (t_l : List (Int × Int × Int × Int × (List Int) × (List Int))) (y : Int × (List (Int × Int × Int × Int × (List Int) × (List Int)))) (hF : f45 t_l = some y) : vc Tryz.prog tab Tryz.f45.ntmps 2 (match Tryz.f45.body with | some c => c | none => .skip) (retK tab C45 Tryz.f45.results.toList y) (C45.shIn t_l).st := by
  unfold f45 at hF
  refine Or.inl ?_
  refine Or.inl ?_
  have hy := someE hF
  subst hy
  refine And.intro rfl (Exists.intro [] (Exists.intro [] (Exists.intro [] (Exists.intro [] (Exists.intro [(0, some 0), (1, some 1)] (And.intro rfl (And.intro rfl (And.intro trivial (And.intro rfl (And.intro rfl trivial))))))))))
theorem C45_holds : C45.Holds Tryz.prog 45 := holds_of_vc tab_ok mixed (fn := Tryz.f45) (by kernel_rfl) rfl C45 (fun x y hF => C45_vc x y hF)
theorem f45_in : ∃ fn, Tryz.prog.funcs[45]? = some fn ∧ fn.body.isSome = true ∧ (fn.name == "runtime.NumGoroutine") = false := ⟨Tryz.f45, by kernel_rfl, by kernel_rfl, by kernel_rfl⟩
end Go.Proofs
namespace Go.Proofs
open Go.AM
-- carousel/shape.Size
def f83 (d : List Int) : Option Int :=
  bindF (f103 d) fun r1 =>
  some r1
def C83 : Con where
  X := List Int
  Y := Int
  e := 0
  args x := [.dat (.sl (.int .i64)) x]
  hin x := []
  F x := f83 x
  ret y := [.dat (.int .i64) y]
  hout y := []
  nout := 0
theorem C83_vc (d : List Int) (y : Int) (hF : f83 d = some y) : vc Tryz.prog tab Tryz.f83.ntmps 0 (match Tryz.f83.body with | some c => c | none => .skip) (retK tab C83 Tryz.f83.results.toList y) (C83.shIn d).st := by
  unfold f83 at hF
  refine Or.inl ?_
  refine Or.inl ?_
  obtain ⟨r1, hr1, hF⟩ := bindE hF
  refine Or.inl (And.intro f103_in (callV0 (callI C103 d r1 [] false C103_holds hr1 rfl rfl ?_)))
  refine (And.intro rfl (And.intro (fun h => nomatch h) (And.intro rfl (And.intro rfl (And.intro trivial (And.intro trivial ?_))))))
  have hy := someE hF
  subst hy
  refine And.intro rfl (Exists.intro [] (Exists.intro [] (Exists.intro [] (Exists.intro [] (Exists.intro [] (And.intro rfl (And.intro rfl (And.intro trivial trivial))))))))
theorem C83_holds : C83.Holds Tryz.prog 83 := holds_of_vc tab_ok mixed (fn := Tryz.f83) (by kernel_rfl) rfl C83 (fun x y hF => C83_vc x y hF)
theorem f83_in : ∃ fn, Tryz.prog.funcs[83]? = some fn ∧ fn.body.isSome = true ∧ (fn.name == "runtime.NumGoroutine") = false := ⟨Tryz.f83, by kernel_rfl, by kernel_rfl, by kernel_rfl⟩
end Go.Proofs
namespace Go.Proofs
open Go.AM
-- carousel/tens.Good
def f86 (t : (List Int) × (List Int)) : Option Bool :=
  bindF (f72 t.1) fun q1_2 =>
  bif q1_2 then
    bindF (f83 t.1) fun q1_9 =>
    some ((List.length t.2 : Int) == q1_9)
  else
    some false
def C86 : Con where
  X := (List Int) × (List Int)
  Y := Bool
  e := 0
  args x := [.dat (.p (.sl (.int .i64)) (.sl (.int .i64))) x]
  hin x := []
  F x := f86 x
  ret y := [.dat .bool y]
  hout y := []
  nout := 0
theorem C86_vc (t : (List Int) × (List Int)) (y : Bool) (hF : f86 t = some y) : vc Tryz.prog tab Tryz.f86.ntmps 0 (match Tryz.f86.body with | some c => c | none => .skip) (retK tab C86 Tryz.f86.results.toList y) (C86.shIn t).st := by
  unfold f86 at hF
  refine Or.inl ?_
  refine Or.inl ?_
  refine Exists.intro (.take 0 (.take 1 (.alt 2 (.take 3 (.take 4 (.take 5 (.take 6 (.take 7 (.take 8 (.alt 9 (.take 10 (.take 11 (.take 12 .done))) .done))))))) .done))) (Exists.intro [] (Exists.intro [] (And.intro rfl ?_)))
  refine And.intro trivial ?_
  obtain ⟨q1_2, hq1_2, hF⟩ := bindE hF
  refine Or.inl (And.intro f72_in (callV0 (callI C72 t.1 q1_2 [] false C72_holds hq1_2 rfl rfl ?_)))
  refine (And.intro rfl (And.intro (fun h => nomatch h) (And.intro rfl (And.intro rfl (And.intro trivial (And.intro trivial ?_))))))
  refine condI hF (fun hF => ?_) (fun hF => ?_)
  · refine gdYT ?_
    refine gdYT ?_
    refine gdYT ?_
    refine gdYT ?_
    refine And.intro trivial ?_
    refine gdYT ?_
    obtain ⟨q1_9, hq1_9, hF⟩ := bindE hF
    refine Or.inl (And.intro f83_in (callV0 (callI C83 t.1 q1_9 [] false C83_holds hq1_9 rfl rfl ?_)))
    refine (And.intro rfl (And.intro (fun h => nomatch h) (And.intro rfl (And.intro rfl (And.intro trivial (And.intro trivial ?_))))))
    refine gdYT ?_
    refine condT ?_
    have hy := someE hF
    subst hy
    refine And.intro rfl (Exists.intro [] (Exists.intro [] (Exists.intro [] (Exists.intro [] (Exists.intro [] (And.intro rfl (And.intro rfl (And.intro trivial trivial))))))))
  · refine gdNT ?_
    refine gdNT ?_
    refine gdNT ?_
    refine gdNT ?_
    refine And.intro trivial ?_
    refine gdNT ?_
    refine gdNT ?_
    refine condF ?_
    have hy := someE hF
    subst hy
    refine And.intro rfl (Exists.intro [] (Exists.intro [] (Exists.intro [] (Exists.intro [] (Exists.intro [] (And.intro rfl (And.intro rfl (And.intro trivial trivial))))))))
theorem C86_holds : C86.Holds Tryz.prog 86 := holds_of_vc tab_ok mixed (fn := Tryz.f86) (by kernel_rfl) rfl C86 (fun x y hF => C86_vc x y hF)
theorem f86_in : ∃ fn, Tryz.prog.funcs[86]? = some fn ∧ fn.body.isSome = true ∧ (fn.name == "runtime.NumGoroutine") = false := ⟨Tryz.f86, by kernel_rfl, by kernel_rfl, by kernel_rfl⟩
end Go.Proofs
namespace Go.Proofs
open Go.AM
-- slices.Clone[[]carousel/api.Fix,carousel/api.Fix]
def f60 (s : List Int) : Option (List Int) :=
  nilF s
    (some ([]))
    (guardF ((List.length ([] : List Int) + List.length s) * 8 ≤ 140737488355328) <|
     some (([] : List Int) ++ s))
def C60 : Con where
  X := List Int
  Y := List Int
  e := 0
  args x := [.dat (.sl (.int .i64)) x]
  hin x := []
  F x := f60 x
  ret y := [.raw false [(.osl 0)]]
  hout y := [(0, .arr 23 (.int .i64) y)]
  nout := 1
theorem C60_vc (s : List Int) (y : List Int) (hF : f60 s = some y) : vc Tryz.prog tab Tryz.f60.ntmps 0 (match Tryz.f60.body with | some c => c | none => .skip) (retK tab C60 Tryz.f60.results.toList y) (C60.shIn s).st := by
  unfold f60 at hF
  refine Or.inl ?_
  refine Or.inl ?_
  refine Or.inl ?_
  refine nilI hF (fun hF => ?_) (fun hF => ?_)
  · refine condT ?_
    refine Or.inl ?_
    have hy := someE hF
    subst hy
    refine And.intro rfl (Exists.intro [] (Exists.intro [] (Exists.intro [] (Exists.intro [] (Exists.intro [(0, none)] (And.intro rfl (And.intro (And.intro rfl trivial) (And.intro rfl trivial))))))))
  · refine condF ?_
    refine Or.inl ?_
    refine Or.inl ?_
    refine Or.inl ?_
    refine guardI hF (fun hF => ?_)
    have hy := someE hF
    subst hy
    refine And.intro rfl (Exists.intro [] (Exists.intro [] (Exists.intro [] (Exists.intro [] (Exists.intro [(0, some 1)] (And.intro rfl (And.intro (And.intro rfl trivial) (And.intro rfl trivial))))))))
theorem C60_holds : C60.Holds Tryz.prog 60 := holds_of_vc tab_ok mixed (fn := Tryz.f60) (by kernel_rfl) rfl C60 (fun x y hF => C60_vc x y hF)
theorem f60_in : ∃ fn, Tryz.prog.funcs[60]? = some fn ∧ fn.body.isSome = true ∧ (fn.name == "runtime.NumGoroutine") = false := ⟨Tryz.f60, by kernel_rfl, by kernel_rfl, by kernel_rfl⟩
end Go.Proofs
namespace Go.Proofs
open Go.AM
-- carousel/tens.Copy
def f85 (t : (List Int) × (List Int)) : Option ((List Int) × (List Int)) :=
  bindF (f82 t.1) fun q1_2 =>
  bindF (f60 t.2) fun q1_5 =>
  some (q1_2, q1_5)
def C85 : Con where
  X := (List Int) × (List Int)
  Y := (List Int) × (List Int)
  e := 0
  args x := [.dat (.p (.sl (.int .i64)) (.sl (.int .i64))) x]
  hin x := []
  F x := f85 x
  ret y := [.raw true [(.osl 0), (.osl 1)]]
  hout y := [(0, .arr 3 (.int .i64) y.1), (1, .arr 23 (.int .i64) y.2)]
  nout := 2
theorem C85_vc (t : (List Int) × (List Int)) (y : (List Int) × (List Int)) (hF : f85 t = some y) : vc Tryz.prog tab Tryz.f85.ntmps 0 (match Tryz.f85.body with | some c => c | none => .skip) (retK tab C85 Tryz.f85.results.toList y) (C85.shIn t).st := by
  unfold f85 at hF
  refine Or.inl ?_
  refine Or.inl ?_
  refine Exists.intro (.take 0 (.take 1 (.take 3 (.take 4 (.alt 2 (.alt 5 (.take 6 (.alt 7 .done .done)) .done) .done))))) (Exists.intro [] (Exists.intro [] (And.intro rfl ?_)))
  refine And.intro trivial ?_
  obtain ⟨q1_2, hq1_2, hF⟩ := bindE hF
  refine Or.inl (And.intro f82_in (callV0 (callI C82 t.1 q1_2 [] false C82_holds hq1_2 rfl rfl ?_)))
  refine (And.intro rfl (And.intro (fun h => nomatch h) (And.intro rfl (And.intro rfl (And.intro trivial (And.intro trivial ?_))))))
  refine And.intro trivial ?_
  obtain ⟨q1_5, hq1_5, hF⟩ := bindE hF
  refine Or.inl (And.intro f60_in (callV0 (callI C60 t.2 q1_5 [] false C60_holds hq1_5 rfl rfl ?_)))
  refine (And.intro rfl (And.intro (fun h => nomatch h) (And.intro rfl (And.intro rfl (And.intro trivial (And.intro trivial ?_))))))
  refine And.intro trivial ?_
  refine Or.inl ?_
  have hy := someE hF
  subst hy
  refine And.intro rfl (Exists.intro [] (Exists.intro [] (Exists.intro [] (Exists.intro [] (Exists.intro [(0, some 2), (1, some 3)] (And.intro rfl (And.intro (And.intro rfl trivial) (And.intro rfl (And.intro rfl trivial)))))))))
theorem C85_holds : C85.Holds Tryz.prog 85 := holds_of_vc tab_ok mixed (fn := Tryz.f85) (by kernel_rfl) rfl C85 (fun x y hF => C85_vc x y hF)
theorem f85_in : ∃ fn, Tryz.prog.funcs[85]? = some fn ∧ fn.body.isSome = true ∧ (fn.name == "runtime.NumGoroutine") = false := ⟨Tryz.f85, by kernel_rfl, by kernel_rfl, by kernel_rfl⟩
end Go.Proofs
namespace Go.Proofs
open Go.AM
-- (*carousel/tape.Tape).add
def f104 (t_l : List (Int × Int × Int × Int × (List Int) × (List Int))) (n : Int × Int × Int × Int × (List Int) × (List Int)) : Option (Int × (List (Int × Int × Int × Int × (List Int) × (List Int)))) :=
  guardF ((List.length t_l + List.length ([(n.1, n.2.1, n.2.2.1, n.2.2.2.1, n.2.2.2.2.1, n.2.2.2.2.2)])) * 80 ≤ 140737488355328) <|
  some ((IntKind.i64.wrap ((List.length (t_l ++ ([(n.1, n.2.1, n.2.2.1, n.2.2.2.1, n.2.2.2.2.1, n.2.2.2.2.2)])) : Int) - (1 : Int))), (t_l ++ ([(n.1, n.2.1, n.2.2.1, n.2.2.2.1, n.2.2.2.2.1, n.2.2.2.2.2)])))
def C104 : Con where
  X := (List (Int × Int × Int × Int × (List Int) × (List Int))) × (Int × Int × Int × Int × (List Int) × (List Int))
  Y := Int × (List (Int × Int × Int × Int × (List Int) × (List Int)))
  e := 2
  args x := [.raw false [(.ptr 0 0)], .dat (.p (.int .i64) (.p (.int .i64) (.p (.int .i64) (.p (.int .i64) (.p (.sl (.int .i64)) (.sl (.int .i64))))))) x.2]
  hin x := [(0, .cells [(.osl 1)]), (1, .arr 132 (.p (.int .i64) (.p (.int .i64) (.p (.int .i64) (.p (.int .i64) (.p (.sl (.int .i64)) (.sl (.int .i64))))))) x.1)]
  F x := f104 x.1 x.2
  ret y := [.dat (.int .i64) y.1, .dat (.int .i64) (0 : Int)]
  hout y := [(0, .cells [(.osl 2)]), (2, .arr 132 (.p (.int .i64) (.p (.int .i64) (.p (.int .i64) (.p (.int .i64) (.p (.sl (.int .i64)) (.sl (.int .i64))))))) y.2)]
  nout := 3
theorem C104_vc (t_l : List (Int × Int × Int × Int × (List Int) × (List Int))) (n : Int × Int × Int × Int × (List Int) × (List Int)) (y : Int × (List (Int × Int × Int × Int × (List Int) × (List Int)))) (hF : f104 t_l n = some y) : vc Tryz.prog tab Tryz.f104.ntmps 2 (match Tryz.f104.body with | some c => c | none => .skip) (retK tab C104 Tryz.f104.results.toList y) (C104.shIn (t_l, n)).st := by
  unfold f104 at hF
  refine Or.inl ?_
  refine Or.inl ?_
  refine Exists.intro (.take 0 (.take 1 (.take 2 (.take 3 (.take 4 (.take 5 (.alt 6 (.alt 7 (.take 8 (.take 9 (.alt 10 .done .done))) .done) .done))))))) (Exists.intro [(10, [0])] (Exists.intro [] (And.intro rfl ?_)))
  refine And.intro trivial ?_
  refine Or.inl ?_
  refine And.intro trivial ?_
  refine Or.inl ?_
  refine guardI hF (fun hF => ?_)
  refine And.intro trivial ?_
  refine Or.inl ?_
  refine Or.inl ?_
  have hy := someE hF
  subst hy
  refine And.intro rfl (Exists.intro [] (Exists.intro [] (Exists.intro [] (Exists.intro [] (Exists.intro [(0, some 0), (2, some 4)] (And.intro rfl (And.intro rfl (And.intro rfl (And.intro trivial (And.intro rfl (And.intro rfl trivial)))))))))))
theorem C104_holds : C104.Holds Tryz.prog 104 := holds_of_vc tab_ok mixed (fn := Tryz.f104) (by kernel_rfl) rfl C104 (fun x y hF => C104_vc x.1 x.2 y hF)
theorem f104_in : ∃ fn, Tryz.prog.funcs[104]? = some fn ∧ fn.body.isSome = true ∧ (fn.name == "runtime.NumGoroutine") = false := ⟨Tryz.f104, by kernel_rfl, by kernel_rfl, by kernel_rfl⟩
end Go.Proofs
