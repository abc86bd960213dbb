import Derived.Test.YtdnlicefpmiljaaGreatDoorModelCountsF0
set_option linter.unusedVariables false
set_option maxRecDepth 100000
set_option maxHeartbeats 8000000
namespace Go.Proofs
open Go.AM
-- (carousel/model.Net).sum
def f36_l4 (q5_5 : List (List Int)) (go : (Int × Bool × Int) → Option (Int × Bool)) (many_2 : Int) (ok_2 : Bool) (v31 : Int) : Option (Int × Bool) :=
  bif (decide (v31 < (List.length q5_5 : Int))) then
    guardF (0 ≤ v31 ∧ v31 < (List.length q5_5 : Int)) <|
    bindF (f42 (rd (Ty.z (.sl (.int .i64))) q5_5 v31)) fun r25 =>
    bif ok_2 then
      bindF (f65 (rd (Ty.z (.sl (.int .i64))) q5_5 v31)) fun r26 =>
      go ((IntKind.i64.wrap (many_2 + r25)), r26, (IntKind.i64.wrap (v31 + (1 : Int))))
    else
      go ((IntKind.i64.wrap (many_2 + r25)), false, (IntKind.i64.wrap (v31 + (1 : Int))))
  else
    some (many_2, ok_2)
def f36_l3 (n : (List Int) × (List (ByteArray × Int × Int))) (d : List (List Int)) (go : (Int × Bool × Int) → Option (Int × Bool)) (many : Int) (ok : Bool) (v19 : Int) : Option (Int × Bool) :=
  bif (decide (v19 < (List.length n.2 : Int))) then
    guardF (0 ≤ v19 ∧ v19 < (List.length n.2 : Int)) <|
    guardF (0 ≤ v19 ∧ v19 < (List.length d : Int)) <|
    bindF (f64 ((rd (Ty.z (.p .str (.p (.int .i64) (.int .i64)))) n.2 v19).1, ((rd (Ty.z (.p .str (.p (.int .i64) (.int .i64)))) n.2 v19).2).1, ((rd (Ty.z (.p .str (.p (.int .i64) (.int .i64)))) n.2 v19).2).2) (rd (Ty.z (.sl (.int .i64))) d v19)) fun q5_5 =>
    bindF (loopF (fun go x => f36_l4 q5_5 go x.1 x.2.1 x.2.2) fuelN (many, ok, (0 : Int))) fun z24 =>
    bif z24.2 then
      guardF (0 ≤ v19 ∧ v19 < (List.length d : Int)) <|
      bindF (f65 (rd (Ty.z (.sl (.int .i64))) d v19)) fun r27 =>
      bif r27 then
        guardF (0 ≤ (IntKind.i64.wrap (v19 + (1 : Int))) ∧ (IntKind.i64.wrap (v19 + (1 : Int))) < (List.length d : Int)) <|
        bindF (f65 (rd (Ty.z (.sl (.int .i64))) d (IntKind.i64.wrap (v19 + (1 : Int))))) fun r28 =>
        go (z24.1, r28, (IntKind.i64.wrap (v19 + (1 : Int))))
      else
        go (z24.1, false, (IntKind.i64.wrap (v19 + (1 : Int))))
    else
      go (z24.1, false, (IntKind.i64.wrap (v19 + (1 : Int))))
  else
    some (many, ok)
def f36 (n : (List Int) × (List (ByteArray × Int × Int))) (d : List (List Int)) : Option (Int × Bool) :=
  bindF (loopF (fun go x => f36_l3 n d go x.1 x.2.1 x.2.2) fuelN ((0 : Int), (decide ((List.length n.2 : Int) ≤ (16 : Int))), (0 : Int))) fun z19 =>
  bif z19.2 then
    bindF (f65 n.1) fun r29 =>
    bif r29 then
      some (z19.1, (decide (z19.1 ≤ (4096 : Int))))
    else
      some (z19.1, false)
  else
    some (z19.1, false)
def C36 : Con where
  X := ((List Int) × (List (ByteArray × Int × Int))) × (List (List Int))
  Y := Int × Bool
  e := 0
  args x := [.dat (.p (.sl (.int .i64)) (.sl (.p .str (.p (.int .i64) (.int .i64))))) x.1, .dat (.sl (.sl (.int .i64))) x.2]
  hin x := []
  F x := f36 x.1 x.2
  ret y := [.dat (.int .i64) y.1, .dat .bool y.2]
  hout y := []
  nout := 0
theorem C36_vc (n : (List Int) × (List (ByteArray × Int × Int))) (d : List (List Int)) (y : Int × Bool) (hF : f36 n d = some y) : vc Tryz.prog tab Tryz.f36.ntmps 0 (match Tryz.f36.body with | some c => c | none => .skip) (retK tab C36 Tryz.f36.results.toList y) (C36.shIn (n, d)).st := by
  unfold f36 at hF
  refine Or.inl ?_
  refine Or.inl ?_
  refine Exists.intro (.take 0 (.take 1 (.take 2 (.take 3 (.take 4 (.take 5 .done)))))) (Exists.intro [] (Exists.intro [] (And.intro rfl ?_)))
  refine Or.inl ?_
  refine Or.inl ?_
  obtain ⟨z19, hz19, hF⟩ := bindE hF
  refine loopI (Int × Bool × Int) (Int × Bool) (fun x => ⟨[(1, .dat (.sl (.sl (.int .i64))) d), (2, .raw false [(.ptr 0 0)]), (6, .dat (.int .i64) x.1), (7, .dat .bool x.2.1), (17, .dat (.sl (.p .str (.p (.int .i64) (.int .i64)))) n.2), (18, .dat (.int .i64) (List.length n.2 : Int)), (19, .dat (.int .i64) x.2.2)], [(0, .cells [(.d (.sl (.int .i64)) n.1), (.d (.sl (.p .str (.p (.int .i64) (.int .i64)))) n.2)])], 1⟩) (fun z => [(2, ⟨[(2, .raw false [(.ptr 0 0)]), (6, .dat (.int .i64) z.1), (7, .dat .bool z.2)], [(0, .cells [(.d (.sl (.int .i64)) n.1), (.d (.sl (.p .str (.p (.int .i64) (.int .i64)))) n.2)])], 1⟩)]) (loopF (fun go x => f36_l3 n d go x.1 x.2.1 x.2.2)) fuelN ((0 : Int), (decide ((List.length n.2 : Int) ≤ (16 : Int))), (0 : Int)) z19 (And.intro hz19 (And.intro (Exists.intro [] (Exists.intro [] (Exists.intro [] (Exists.intro [] (Exists.intro [(0, some 0)] (And.intro rfl (And.intro rfl (And.intro rfl (And.intro rfl (And.intro rfl (And.intro rfl (And.intro rfl (And.intro (And.intro rfl trivial) (And.intro rfl trivial)))))))))))))) (And.intro (fun _ _ h => loopZ h) (And.intro (fun m => curI (fun many => curI (fun ok => fun v19 z hF => ?_))) ?_))))
  · have hF : f36_l3 n d (loopF (fun go x => f36_l3 n d go x.1 x.2.1 x.2.2) m) many ok v19 = some z := hF
    unfold f36_l3 at hF
    refine Or.inl ?_
    refine Or.inl ?_
    refine condI hF (fun hF => ?_) (fun hF => ?_)
    · refine Or.inl ?_
      refine Or.inl ?_
      refine guardI hF (fun hF => ?_)
      refine Or.inl ?_
      refine Or.inl ?_
      refine Or.inl ?_
      refine Exists.intro (.take 0 (.take 1 (.take 2 (.take 3 (.take 4 (.take 7 (.alt 5 (.take 6 .done) .done))))))) (Exists.intro [] (Exists.intro [] (And.intro rfl ?_)))
      refine guardI hF (fun hF => ?_)
      refine And.intro trivial ?_
      obtain ⟨q5_5, hq5_5, hF⟩ := bindE hF
      refine Or.inl (And.intro f64_in (callV0 (callI C64 (((rd (Ty.z (.p .str (.p (.int .i64) (.int .i64)))) n.2 v19).1, ((rd (Ty.z (.p .str (.p (.int .i64) (.int .i64)))) n.2 v19).2).1, ((rd (Ty.z (.p .str (.p (.int .i64) (.int .i64)))) n.2 v19).2).2), (rd (Ty.z (.sl (.int .i64))) d v19)) q5_5 [] false C64_holds hq5_5 rfl rfl ?_)))
      refine (And.intro rfl (And.intro rfl (And.intro rfl (And.intro (fun h => nomatch h) (And.intro rfl (And.intro rfl (And.intro trivial (And.intro trivial ?_))))))))
      obtain ⟨z24, hz24, hF⟩ := bindE hF
      refine loopI (Int × Bool × Int) (Int × Bool) (fun x => ⟨[(1, .dat (.sl (.sl (.int .i64))) d), (2, .raw false [(.ptr 0 0)]), (6, .dat (.int .i64) x.1), (7, .dat .bool x.2.1), (8, .dat (.int .i64) v19), (17, .dat (.sl (.p .str (.p (.int .i64) (.int .i64)))) n.2), (18, .dat (.int .i64) (List.length n.2 : Int)), (19, .dat (.int .i64) v19), (29, .raw false [(.osl 1)]), (30, .dat (.int .i64) (List.length q5_5 : Int)), (31, .dat (.int .i64) x.2.2)], [(0, .cells [(.d (.sl (.int .i64)) n.1), (.d (.sl (.p .str (.p (.int .i64) (.int .i64)))) n.2)]), (1, .arr 23 (.sl (.int .i64)) q5_5)], 2⟩) (fun z => [(4, ⟨[(1, .dat (.sl (.sl (.int .i64))) d), (2, .raw false [(.ptr 0 0)]), (6, .dat (.int .i64) z.1), (7, .dat .bool z.2), (8, .dat (.int .i64) v19), (17, .dat (.sl (.p .str (.p (.int .i64) (.int .i64)))) n.2), (18, .dat (.int .i64) (List.length n.2 : Int)), (19, .dat (.int .i64) v19)], [(0, .cells [(.d (.sl (.int .i64)) n.1), (.d (.sl (.p .str (.p (.int .i64) (.int .i64)))) n.2)])], 1⟩)]) (loopF (fun go x => f36_l4 q5_5 go x.1 x.2.1 x.2.2)) fuelN (many, ok, (0 : Int)) z24 (And.intro hz24 (And.intro (Exists.intro [] (Exists.intro [] (Exists.intro [] (Exists.intro [] (Exists.intro [(0, some 0), (1, some 2)] (And.intro rfl (And.intro rfl (And.intro rfl (And.intro rfl (And.intro rfl (And.intro rfl (And.intro rfl (And.intro rfl (And.intro rfl (And.intro rfl (And.intro (And.intro rfl (And.intro rfl trivial)) (And.intro rfl (And.intro rfl trivial)))))))))))))))))) (And.intro (fun _ _ h => loopZ h) (And.intro (fun m => curI (fun many_2 => curI (fun ok_2 => fun v31 z hF => ?_))) ?_))))
      · have hF : f36_l4 q5_5 (loopF (fun go x => f36_l4 q5_5 go x.1 x.2.1 x.2.2) m) many_2 ok_2 v31 = some z := hF
        unfold f36_l4 at hF
        refine Or.inl ?_
        refine Or.inl ?_
        refine condI hF (fun hF => ?_) (fun hF => ?_)
        · refine Or.inl ?_
          refine Or.inl ?_
          refine guardI hF (fun hF => ?_)
          refine Or.inl ?_
          obtain ⟨r25, hr25, hF⟩ := bindE hF
          refine Or.inl (And.intro f42_in (callV0 (callI C42 (rd (Ty.z (.sl (.int .i64))) q5_5 v31) r25 [] false C42_holds hr25 rfl rfl ?_)))
          refine (And.intro rfl (And.intro (fun h => nomatch h) (And.intro rfl (And.intro rfl (And.intro trivial (And.intro trivial ?_))))))
          refine condI hF (fun hF => ?_) (fun hF => ?_)
          · refine gdYT ?_
            obtain ⟨r26, hr26, hF⟩ := bindE hF
            refine Or.inl (And.intro f65_in (callV0 (callI C65 (rd (Ty.z (.sl (.int .i64))) q5_5 v31) r26 [] false C65_holds hr26 rfl rfl ?_)))
            refine (And.intro rfl (And.intro (fun h => nomatch h) (And.intro rfl (And.intro rfl (And.intro trivial (And.intro trivial ?_))))))
            refine condT ?_
            refine Exists.intro ((IntKind.i64.wrap (many_2 + r25)), r26, (IntKind.i64.wrap (v31 + (1 : Int)))) (And.intro hF (Exists.intro [] (Exists.intro [] (Exists.intro [] (Exists.intro [] (Exists.intro [(0, some 0), (1, some 1)] (And.intro rfl (And.intro rfl (And.intro rfl (And.intro rfl (And.intro rfl (And.intro rfl (And.intro rfl (And.intro rfl (And.intro rfl (And.intro rfl (And.intro (And.intro rfl (And.intro rfl trivial)) (And.intro rfl (And.intro rfl trivial)))))))))))))))))))
          · refine gdNT ?_
            refine condF ?_
            refine Exists.intro ((IntKind.i64.wrap (many_2 + r25)), false, (IntKind.i64.wrap (v31 + (1 : Int)))) (And.intro hF (Exists.intro [] (Exists.intro [] (Exists.intro [] (Exists.intro [] (Exists.intro [(0, some 0), (1, some 1)] (And.intro rfl (And.intro rfl (And.intro rfl (And.intro rfl (And.intro rfl (And.intro rfl (And.intro rfl (And.intro rfl (And.intro rfl (And.intro rfl (And.intro (And.intro rfl (And.intro rfl trivial)) (And.intro rfl (And.intro rfl trivial)))))))))))))))))))
        · have hz := someE hF
          subst hz
          refine Exists.intro [] (Exists.intro [] (Exists.intro [] (Exists.intro [] (Exists.intro [(0, some 0)] (And.intro rfl (And.intro rfl (And.intro rfl (And.intro rfl (And.intro rfl (And.intro rfl (And.intro rfl (And.intro rfl (And.intro (And.intro rfl trivial) (And.intro rfl trivial))))))))))))))
      · refine And.intro ?_ trivial
        refine condI hF (fun hF => ?_) (fun hF => ?_)
        · refine gdYT ?_
          refine gdYT ?_
          refine guardI hF (fun hF => ?_)
          refine gdYT ?_
          refine gdYT ?_
          obtain ⟨r27, hr27, hF⟩ := bindE hF
          refine Or.inl (And.intro f65_in (callV0 (callI C65 (rd (Ty.z (.sl (.int .i64))) d v19) r27 [] false C65_holds hr27 rfl rfl ?_)))
          refine (And.intro rfl (And.intro (fun h => nomatch h) (And.intro rfl (And.intro rfl (And.intro trivial (And.intro trivial ?_))))))
          refine condT ?_
          refine condI hF (fun hF => ?_) (fun hF => ?_)
          · refine gdYT ?_
            refine gdYT ?_
            refine gdYT ?_
            refine guardI hF (fun hF => ?_)
            refine gdYT ?_
            refine gdYT ?_
            obtain ⟨r28, hr28, hF⟩ := bindE hF
            refine Or.inl (And.intro f65_in (callV0 (callI C65 (rd (Ty.z (.sl (.int .i64))) d (IntKind.i64.wrap (v19 + (1 : Int)))) r28 [] false C65_holds hr28 rfl rfl ?_)))
            refine (And.intro rfl (And.intro (fun h => nomatch h) (And.intro rfl (And.intro rfl (And.intro trivial (And.intro trivial ?_))))))
            refine condT ?_
            refine Exists.intro (z24.1, r28, (IntKind.i64.wrap (v19 + (1 : Int)))) (And.intro hF (Exists.intro [] (Exists.intro [] (Exists.intro [] (Exists.intro [] (Exists.intro [(0, some 0)] (And.intro rfl (And.intro rfl (And.intro rfl (And.intro rfl (And.intro rfl (And.intro rfl (And.intro rfl (And.intro (And.intro rfl trivial) (And.intro rfl trivial)))))))))))))))
          · refine gdNT ?_
            refine gdNT ?_
            refine gdNT ?_
            refine gdNT ?_
            refine gdNT ?_
            refine condF ?_
            refine Exists.intro (z24.1, false, (IntKind.i64.wrap (v19 + (1 : Int)))) (And.intro hF (Exists.intro [] (Exists.intro [] (Exists.intro [] (Exists.intro [] (Exists.intro [(0, some 0)] (And.intro rfl (And.intro rfl (And.intro rfl (And.intro rfl (And.intro rfl (And.intro rfl (And.intro rfl (And.intro (And.intro rfl trivial) (And.intro rfl trivial)))))))))))))))
        · refine gdNT ?_
          refine gdNT ?_
          refine gdNT ?_
          refine gdNT ?_
          refine condF ?_
          refine gdNT ?_
          refine gdNT ?_
          refine gdNT ?_
          refine gdNT ?_
          refine gdNT ?_
          refine gdNT ?_
          refine condF ?_
          refine Exists.intro (z24.1, false, (IntKind.i64.wrap (v19 + (1 : Int)))) (And.intro hF (Exists.intro [] (Exists.intro [] (Exists.intro [] (Exists.intro [] (Exists.intro [(0, some 0)] (And.intro rfl (And.intro rfl (And.intro rfl (And.intro rfl (And.intro rfl (And.intro rfl (And.intro rfl (And.intro (And.intro rfl trivial) (And.intro rfl trivial)))))))))))))))
    · have hz := someE hF
      subst hz
      refine Exists.intro [] (Exists.intro [] (Exists.intro [] (Exists.intro [] (Exists.intro [(0, some 0)] (And.intro rfl (And.intro rfl (And.intro rfl (And.intro (And.intro rfl trivial) (And.intro rfl trivial)))))))))
  · refine And.intro ?_ trivial
    refine Or.inl ?_
    refine condI hF (fun hF => ?_) (fun hF => ?_)
    · refine gdYT ?_
      refine gdYT ?_
      obtain ⟨r29, hr29, hF⟩ := bindE hF
      refine Or.inl (And.intro f65_in (callV0 (callI C65 n.1 r29 [] false C65_holds hr29 rfl rfl ?_)))
      refine (And.intro rfl (And.intro (fun h => nomatch h) (And.intro rfl (And.intro rfl (And.intro trivial (And.intro trivial ?_))))))
      refine condT ?_
      refine condI hF (fun hF => ?_) (fun hF => ?_)
      · refine gdYT ?_
        refine condT ?_
        have hy := someE hF
        subst hy
        refine And.intro rfl (Exists.intro [] (Exists.intro [] (Exists.intro [] (Exists.intro [] (Exists.intro [] (And.intro rfl (And.intro rfl (And.intro rfl (And.intro trivial trivial)))))))))
      · refine gdNT ?_
        refine condF ?_
        have hy := someE hF
        subst hy
        refine And.intro rfl (Exists.intro [] (Exists.intro [] (Exists.intro [] (Exists.intro [] (Exists.intro [] (And.intro rfl (And.intro rfl (And.intro rfl (And.intro trivial trivial)))))))))
    · refine gdNT ?_
      refine gdNT ?_
      refine condF ?_
      refine gdNT ?_
      refine gdNT ?_
      refine condF ?_
      have hy := someE hF
      subst hy
      refine And.intro rfl (Exists.intro [] (Exists.intro [] (Exists.intro [] (Exists.intro [] (Exists.intro [] (And.intro rfl (And.intro rfl (And.intro rfl (And.intro trivial trivial)))))))))
theorem C36_holds : C36.Holds Tryz.prog 36 := holds_of_vc tab_ok mixed (fn := Tryz.f36) (by kernel_rfl) rfl C36 (fun x y hF => C36_vc x.1 x.2 y hF)
theorem f36_in : ∃ fn, Tryz.prog.funcs[36]? = some fn ∧ fn.body.isSome = true ∧ (fn.name == "runtime.NumGoroutine") = false := ⟨Tryz.f36, by kernel_rfl, by kernel_rfl, by kernel_rfl⟩
end Go.Proofs
namespace Go.Proofs
open Go.AM
-- carousel/model.Shapes
def f11 (n : (List Int) × (List (ByteArray × Int × Int))) : Option (Int × (List (List Int))) :=
  bindF (f34 (n.1, n.2)) fun r1 =>
  bif (!r1) then
    some ((1 : Int), [])
  else
    bindF (f35 (n.1, n.2)) fun r2 =>
    bif (!r2.1) then
      some ((4 : Int), [])
    else
      bindF (f36 (n.1, n.2) r2.2) fun r3 =>
      bif (!r3.2) then
        some ((2 : Int), [])
      else
        some ((0 : Int), r2.2)
def C11 : Con where
  X := (List Int) × (List (ByteArray × Int × Int))
  Y := Int × (List (List Int))
  e := 0
  args x := [.dat (.p (.sl (.int .i64)) (.sl (.p .str (.p (.int .i64) (.int .i64))))) x]
  hin x := []
  F x := f11 x
  ret y := [.raw false [(.osl 0)], .dat (.int .i64) y.1]
  hout y := [(0, .arr 23 (.sl (.int .i64)) y.2)]
  nout := 1
theorem C11_vc (n : (List Int) × (List (ByteArray × Int × Int))) (y : Int × (List (List Int))) (hF : f11 n = some y) : vc Tryz.prog tab Tryz.f11.ntmps 0 (match Tryz.f11.body with | some c => c | none => .skip) (retK tab C11 Tryz.f11.results.toList y) (C11.shIn n).st := by
  unfold f11 at hF
  refine Or.inl ?_
  refine Or.inl ?_
  refine Or.inl ?_
  obtain ⟨r1, hr1, hF⟩ := bindE hF
  refine Or.inl (And.intro f34_in (callV0 (callI C34 (n.1, n.2) r1 [] false C34_holds hr1 rfl rfl ?_)))
  refine (And.intro rfl (And.intro rfl (And.intro (fun h => nomatch h) (And.intro rfl (And.intro rfl (And.intro trivial (And.intro trivial ?_)))))))
  refine condI hF (fun hF => ?_) (fun hF => ?_)
  · refine Or.inl ?_
    have hy := someE hF
    subst hy
    refine And.intro rfl (Exists.intro [] (Exists.intro [] (Exists.intro [] (Exists.intro [] (Exists.intro [(0, none)] (And.intro rfl (And.intro rfl (And.intro (And.intro rfl trivial) (And.intro rfl trivial)))))))))
  · refine Or.inl ?_
    obtain ⟨r2, hr2, hF⟩ := bindE hF
    refine Or.inl (And.intro f35_in (callV0 (callI C35 (n.1, n.2) r2 [] false C35_holds hr2 rfl rfl ?_)))
    refine (And.intro rfl (And.intro rfl (And.intro (fun h => nomatch h) (And.intro rfl (And.intro rfl (And.intro trivial (And.intro trivial ?_)))))))
    refine Or.inl ?_
    refine Or.inl ?_
    refine condI hF (fun hF => ?_) (fun hF => ?_)
    · refine Or.inl ?_
      have hy := someE hF
      subst hy
      refine And.intro rfl (Exists.intro [] (Exists.intro [] (Exists.intro [] (Exists.intro [] (Exists.intro [(0, none)] (And.intro rfl (And.intro rfl (And.intro (And.intro rfl trivial) (And.intro rfl trivial)))))))))
    · refine Or.inl ?_
      refine Or.inl ?_
      obtain ⟨r3, hr3, hF⟩ := bindE hF
      refine Or.inl (And.intro f36_in (callV0 (callI C36 ((n.1, n.2), r2.2) r3 [] true C36_holds hr3 rfl rfl ?_)))
      refine (And.intro rfl (And.intro rfl (And.intro rfl (And.intro (fun _ => rfl) (And.intro rfl (And.intro rfl (And.intro trivial (And.intro trivial ?_))))))))
      refine Or.inl ?_
      refine condI hF (fun hF => ?_) (fun hF => ?_)
      · refine Or.inl ?_
        have hy := someE hF
        subst hy
        refine And.intro rfl (Exists.intro [] (Exists.intro [] (Exists.intro [] (Exists.intro [] (Exists.intro [(0, none)] (And.intro rfl (And.intro rfl (And.intro (And.intro rfl trivial) (And.intro rfl trivial)))))))))
      · refine Or.inl ?_
        have hy := someE hF
        subst hy
        refine And.intro rfl (Exists.intro [] (Exists.intro [] (Exists.intro [] (Exists.intro [] (Exists.intro [(0, some 1)] (And.intro rfl (And.intro rfl (And.intro (And.intro rfl trivial) (And.intro rfl trivial)))))))))
theorem C11_holds : C11.Holds Tryz.prog 11 := holds_of_vc tab_ok mixed (fn := Tryz.f11) (by kernel_rfl) rfl C11 (fun x y hF => C11_vc x y hF)
theorem f11_in : ∃ fn, Tryz.prog.funcs[11]? = some fn ∧ fn.body.isSome = true ∧ (fn.name == "runtime.NumGoroutine") = false := ⟨Tryz.f11, by kernel_rfl, by kernel_rfl, by kernel_rfl⟩
end Go.Proofs
namespace Go.Proofs
open Go.AM
-- carousel/model.Parse
def f10 (text : ByteArray) : Option (((List Int) × (List (ByteArray × Int × Int))) × Int) :=
  bif (decide ((ByteArray.size text : Int) > (16384 : Int))) then
    some (([], []), (2 : Int))
  else
    bindF (f31_32 text) fun r1 =>
    bindF (f33 r1) fun r2 =>
    bif (!r2.1) then
      some (([], []), (7 : Int))
    else
      bindF (f11 (r2.2.1, r2.2.2)) fun r3 =>
      bif (r3.1 != (0 : Int)) then
        some (([], []), r3.1)
      else
        some ((r2.2.1, r2.2.2), (0 : Int))
def C10 : Con where
  X := ByteArray
  Y := ((List Int) × (List (ByteArray × Int × Int))) × Int
  e := 0
  args x := [.dat .str x]
  hin x := []
  F x := f10 x
  ret y := [.dat (.p (.sl (.int .i64)) (.sl (.p .str (.p (.int .i64) (.int .i64))))) y.1, .dat (.int .i64) y.2]
  hout y := []
  nout := 0
theorem C10_vc (text : ByteArray) (y : ((List Int) × (List (ByteArray × Int × Int))) × Int) (hF : f10 text = some y) : vc Tryz.prog tab Tryz.f10.ntmps 0 (match Tryz.f10.body with | some c => c | none => .skip) (retK tab C10 Tryz.f10.results.toList y) (C10.shIn text).st := by
  unfold f10 at hF
  refine Or.inl ?_
  refine Or.inl ?_
  refine Or.inl ?_
  refine condI hF (fun hF => ?_) (fun hF => ?_)
  · refine Or.inl ?_
    refine Or.inl ?_
    have hy := someE hF
    subst hy
    refine And.intro rfl (Exists.intro [] (Exists.intro [] (Exists.intro [] (Exists.intro [] (Exists.intro [] (And.intro rfl (And.intro rfl (And.intro rfl (And.intro rfl (And.intro trivial trivial))))))))))
  · refine Or.inl ?_
    obtain ⟨r1, hr1, hF⟩ := bindE hF
    refine Or.inl (And.intro f31_32_in (callV0 (callI C31_32 text r1 [] false C31_32_holds hr1 rfl rfl ?_)))
    refine (And.intro rfl (And.intro (fun h => nomatch h) (And.intro rfl (And.intro rfl (And.intro (And.intro rfl trivial) (And.intro trivial ?_))))))
    refine Or.inl ?_
    obtain ⟨r2, hr2, hF⟩ := bindE hF
    refine Or.inl (And.intro f33_in (callV0 (callI C33 r1 r2 [] true C33_holds hr2 rfl rfl ?_)))
    refine (And.intro rfl (And.intro (fun _ => rfl) (And.intro rfl (And.intro rfl (And.intro trivial (And.intro trivial ?_))))))
    refine Or.inl ?_
    refine Or.inl ?_
    refine Or.inl ?_
    refine condI hF (fun hF => ?_) (fun hF => ?_)
    · refine Or.inl ?_
      refine Or.inl ?_
      have hy := someE hF
      subst hy
      refine And.intro rfl (Exists.intro [] (Exists.intro [] (Exists.intro [] (Exists.intro [] (Exists.intro [] (And.intro rfl (And.intro rfl (And.intro rfl (And.intro rfl (And.intro trivial trivial))))))))))
    · refine Or.inl ?_
      refine Or.inl ?_
      obtain ⟨r3, hr3, hF⟩ := bindE hF
      refine Or.inl (And.intro f11_in (callV0 (callI C11 (r2.2.1, r2.2.2) r3 [] false C11_holds hr3 rfl rfl ?_)))
      refine (And.intro rfl (And.intro rfl (And.intro (fun h => nomatch h) (And.intro rfl (And.intro rfl (And.intro trivial (And.intro trivial ?_)))))))
      refine Or.inl ?_
      refine condI hF (fun hF => ?_) (fun hF => ?_)
      · refine Or.inl ?_
        refine Or.inl ?_
        have hy := someE hF
        subst hy
        refine And.intro rfl (Exists.intro [] (Exists.intro [] (Exists.intro [] (Exists.intro [] (Exists.intro [] (And.intro rfl (And.intro rfl (And.intro rfl (And.intro rfl (And.intro trivial trivial))))))))))
      · refine Or.inl ?_
        refine Or.inl ?_
        have hy := someE hF
        subst hy
        refine And.intro rfl (Exists.intro [] (Exists.intro [] (Exists.intro [] (Exists.intro [] (Exists.intro [] (And.intro rfl (And.intro rfl (And.intro rfl (And.intro rfl (And.intro trivial trivial))))))))))
theorem C10_holds : C10.Holds Tryz.prog 10 := holds_of_vc tab_ok mixed (fn := Tryz.f10) (by kernel_rfl) rfl C10 (fun x y hF => C10_vc x y hF)
theorem f10_in : ∃ fn, Tryz.prog.funcs[10]? = some fn ∧ fn.body.isSome = true ∧ (fn.name == "runtime.NumGoroutine") = false := ⟨Tryz.f10, by kernel_rfl, by kernel_rfl, by kernel_rfl⟩
end Go.Proofs
namespace Go.Proofs
open Go.AM
-- carousel/model.Params
def f12 (n : (List Int) × (List (ByteArray × Int × Int))) : Option (Int × Int) :=
  bindF (f11 (n.1, n.2)) fun r1 =>
  bif (r1.1 != (0 : Int)) then
    some ((0 : Int), r1.1)
  else
    bindF (f36 (n.1, n.2) r1.2) fun r2 =>
    some (r2.1, (0 : Int))
def C12 : Con where
  X := (List Int) × (List (ByteArray × Int × Int))
  Y := Int × Int
  e := 0
  args x := [.dat (.p (.sl (.int .i64)) (.sl (.p .str (.p (.int .i64) (.int .i64))))) x]
  hin x := []
  F x := f12 x
  ret y := [.dat (.int .i64) y.1, .dat (.int .i64) y.2]
  hout y := []
  nout := 0
theorem C12_vc (n : (List Int) × (List (ByteArray × Int × Int))) (y : Int × Int) (hF : f12 n = some y) : vc Tryz.prog tab Tryz.f12.ntmps 0 (match Tryz.f12.body with | some c => c | none => .skip) (retK tab C12 Tryz.f12.results.toList y) (C12.shIn n).st := by
  unfold f12 at hF
  refine Or.inl ?_
  refine Or.inl ?_
  obtain ⟨r1, hr1, hF⟩ := bindE hF
  refine Or.inl (And.intro f11_in (callV0 (callI C11 (n.1, n.2) r1 [] false C11_holds hr1 rfl rfl ?_)))
  refine (And.intro rfl (And.intro rfl (And.intro (fun h => nomatch h) (And.intro rfl (And.intro rfl (And.intro trivial (And.intro trivial ?_)))))))
  refine Or.inl ?_
  refine Or.inl ?_
  refine condI hF (fun hF => ?_) (fun hF => ?_)
  · refine Or.inl ?_
    have hy := someE hF
    subst hy
    refine And.intro rfl (Exists.intro [] (Exists.intro [] (Exists.intro [] (Exists.intro [] (Exists.intro [] (And.intro rfl (And.intro rfl (And.intro rfl (And.intro trivial trivial)))))))))
  · refine Or.inl ?_
    obtain ⟨r2, hr2, hF⟩ := bindE hF
    refine Or.inl (And.intro f36_in (callV0 (callI C36 ((n.1, n.2), r1.2) r2 [] true C36_holds hr2 rfl rfl ?_)))
    refine (And.intro rfl (And.intro rfl (And.intro rfl (And.intro (fun _ => rfl) (And.intro rfl (And.intro rfl (And.intro trivial (And.intro trivial ?_))))))))
    refine Or.inl ?_
    have hy := someE hF
    subst hy
    refine And.intro rfl (Exists.intro [] (Exists.intro [] (Exists.intro [] (Exists.intro [] (Exists.intro [] (And.intro rfl (And.intro rfl (And.intro rfl (And.intro trivial trivial)))))))))
theorem C12_holds : C12.Holds Tryz.prog 12 := holds_of_vc tab_ok mixed (fn := Tryz.f12) (by kernel_rfl) rfl C12 (fun x y hF => C12_vc x y hF)
theorem f12_in : ∃ fn, Tryz.prog.funcs[12]? = some fn ∧ fn.body.isSome = true ∧ (fn.name == "runtime.NumGoroutine") = false := ⟨Tryz.f12, by kernel_rfl, by kernel_rfl, by kernel_rfl⟩
end Go.Proofs
namespace Go.Proofs
open Go.AM
-- carousel/tape.New
def f20 : Option Unit :=
  some ()
def C20 : Con where
  X := Unit
  Y := Unit
  e := 0
  args x := []
  hin x := []
  F x := f20
  ret y := [.raw false [(.ptr 0 0)]]
  hout y := [(0, .cells [(.osl 1)]), (1, .arr 61 (.p (.int .i64) (.p (.int .i64) (.p (.int .i64) (.p (.int .i64) (.p (.sl (.int .i64)) (.sl (.int .i64))))))) ([]))]
  nout := 2
theorem C20_vc (y : Unit) (hF : f20 = some y) : vc Tryz.prog tab Tryz.f20.ntmps 0 (match Tryz.f20.body with | some c => c | none => .skip) (retK tab C20 Tryz.f20.results.toList y) (C20.shIn ()).st := by
  unfold f20 at hF
  refine Or.inl ?_
  refine Or.inl ?_
  have hy := someE hF
  subst hy
  refine And.intro rfl (Exists.intro [] (Exists.intro [] (Exists.intro [] (Exists.intro [] (Exists.intro [(0, some 0), (1, none)] (And.intro rfl (And.intro (And.intro rfl trivial) (And.intro rfl (And.intro rfl trivial)))))))))
theorem C20_holds : C20.Holds Tryz.prog 20 := holds_of_vc tab_ok mixed (fn := Tryz.f20) (by kernel_rfl) rfl C20 (fun x y hF => C20_vc y hF)
theorem f20_in : ∃ fn, Tryz.prog.funcs[20]? = some fn ∧ fn.body.isSome = true ∧ (fn.name == "runtime.NumGoroutine") = false := ⟨Tryz.f20, by kernel_rfl, by kernel_rfl, by kernel_rfl⟩
end Go.Proofs
namespace Go.Proofs
open Go.AM
-- (*carousel/tape.Tape).Len
def f25 (t_l : List (Int × Int × Int × Int × (List Int) × (List Int))) : Option (Int × (List (Int × Int × Int × Int × (List Int) × (List Int)))) :=
  some ((List.length t_l : Int), t_l)
def C25 : Con where
  X := List (Int × Int × Int × Int × (List Int) × (List Int))
  Y := Int × (List (Int × Int × Int × Int × (List Int) × (List Int)))
  e := 2
  args x := [.raw false [(.ptr 0 0)]]
  hin x := [(0, .cells [(.osl 1)]), (1, .arr 61 (.p (.int .i64) (.p (.int .i64) (.p (.int .i64) (.p (.int .i64) (.p (.sl (.int .i64)) (.sl (.int .i64))))))) x)]
  F x := f25 x
  ret y := [.dat (.int .i64) y.1]
  hout y := [(0, .cells [(.osl 1)]), (1, .arr 61 (.p (.int .i64) (.p (.int .i64) (.p (.int .i64) (.p (.int .i64) (.p (.sl (.int .i64)) (.sl (.int .i64))))))) y.2)]
  nout := 2
theorem C25_vc (t_l : List (Int × Int × Int × Int × (List Int) × (List Int))) (y : Int × (List (Int × Int × Int × Int × (List Int) × (List Int)))) (hF : f25 t_l = some y) : vc Tryz.prog tab Tryz.f25.ntmps 2 (match Tryz.f25.body with | some c => c | none => .skip) (retK tab C25 Tryz.f25.results.toList y) (C25.shIn t_l).st := by
  unfold f25 at hF
  refine Or.inl ?_
  refine Or.inl ?_
  have hy := someE hF
  subst hy
  refine And.intro rfl (Exists.intro [] (Exists.intro [] (Exists.intro [] (Exists.intro [] (Exists.intro [(0, some 0), (1, some 1)] (And.intro rfl (And.intro rfl (And.intro trivial (And.intro rfl (And.intro rfl trivial))))))))))
theorem C25_holds : C25.Holds Tryz.prog 25 := holds_of_vc tab_ok mixed (fn := Tryz.f25) (by kernel_rfl) rfl C25 (fun x y hF => C25_vc x y hF)
theorem f25_in : ∃ fn, Tryz.prog.funcs[25]? = some fn ∧ fn.body.isSome = true ∧ (fn.name == "runtime.NumGoroutine") = false := ⟨Tryz.f25, by kernel_rfl, by kernel_rfl, by kernel_rfl⟩
end Go.Proofs
namespace Go.Proofs
open Go.AM
-- carousel/shape.Size
def f117 (d : List Int) : Option Int :=
  bindF (f89 d) fun r1 =>
  some r1
def C117 : Con where
  X := List Int
  Y := Int
  e := 0
  args x := [.dat (.sl (.int .i64)) x]
  hin x := []
  F x := f117 x
  ret y := [.dat (.int .i64) y]
  hout y := []
  nout := 0
theorem C117_vc (d : List Int) (y : Int) (hF : f117 d = some y) : vc Tryz.prog tab Tryz.f117.ntmps 0 (match Tryz.f117.body with | some c => c | none => .skip) (retK tab C117 Tryz.f117.results.toList y) (C117.shIn d).st := by
  unfold f117 at hF
  refine Or.inl ?_
  refine Or.inl ?_
  obtain ⟨r1, hr1, hF⟩ := bindE hF
  refine Or.inl (And.intro f89_in (callV0 (callI C89 d r1 [] false C89_holds hr1 rfl rfl ?_)))
  refine (And.intro rfl (And.intro (fun h => nomatch h) (And.intro rfl (And.intro rfl (And.intro trivial (And.intro trivial ?_))))))
  have hy := someE hF
  subst hy
  refine And.intro rfl (Exists.intro [] (Exists.intro [] (Exists.intro [] (Exists.intro [] (Exists.intro [] (And.intro rfl (And.intro rfl (And.intro trivial trivial))))))))
theorem C117_holds : C117.Holds Tryz.prog 117 := holds_of_vc tab_ok mixed (fn := Tryz.f117) (by kernel_rfl) rfl C117 (fun x y hF => C117_vc x y hF)
theorem f117_in : ∃ fn, Tryz.prog.funcs[117]? = some fn ∧ fn.body.isSome = true ∧ (fn.name == "runtime.NumGoroutine") = false := ⟨Tryz.f117, by kernel_rfl, by kernel_rfl, by kernel_rfl⟩
end Go.Proofs
namespace Go.Proofs
open Go.AM
-- carousel/tens.Good
def f91 (t : (List Int) × (List Int)) : Option Bool :=
  bindF (f65 t.1) fun q1_2 =>
  bif q1_2 then
    bindF (f117 t.1) fun q1_9 =>
    some ((List.length t.2 : Int) == q1_9)
  else
    some false
def C91 : Con where
  X := (List Int) × (List Int)
  Y := Bool
  e := 0
  args x := [.dat (.p (.sl (.int .i64)) (.sl (.int .i64))) x]
  hin x := []
  F x := f91 x
  ret y := [.dat .bool y]
  hout y := []
  nout := 0
theorem C91_vc (t : (List Int) × (List Int)) (y : Bool) (hF : f91 t = some y) : vc Tryz.prog tab Tryz.f91.ntmps 0 (match Tryz.f91.body with | some c => c | none => .skip) (retK tab C91 Tryz.f91.results.toList y) (C91.shIn t).st := by
  unfold f91 at hF
  refine Or.inl ?_
  refine Or.inl ?_
  refine Exists.intro (.take 0 (.take 1 (.alt 2 (.take 3 (.take 4 (.take 5 (.take 6 (.take 7 (.take 8 (.alt 9 (.take 10 (.take 11 (.take 12 .done))) .done))))))) .done))) (Exists.intro [] (Exists.intro [] (And.intro rfl ?_)))
  refine And.intro trivial ?_
  obtain ⟨q1_2, hq1_2, hF⟩ := bindE hF
  refine Or.inl (And.intro f65_in (callV0 (callI C65 t.1 q1_2 [] false C65_holds hq1_2 rfl rfl ?_)))
  refine (And.intro rfl (And.intro (fun h => nomatch h) (And.intro rfl (And.intro rfl (And.intro trivial (And.intro trivial ?_))))))
  refine condI hF (fun hF => ?_) (fun hF => ?_)
  · refine gdYT ?_
    refine gdYT ?_
    refine gdYT ?_
    refine gdYT ?_
    refine And.intro trivial ?_
    refine gdYT ?_
    obtain ⟨q1_9, hq1_9, hF⟩ := bindE hF
    refine Or.inl (And.intro f117_in (callV0 (callI C117 t.1 q1_9 [] false C117_holds hq1_9 rfl rfl ?_)))
    refine (And.intro rfl (And.intro (fun h => nomatch h) (And.intro rfl (And.intro rfl (And.intro trivial (And.intro trivial ?_))))))
    refine gdYT ?_
    refine condT ?_
    have hy := someE hF
    subst hy
    refine And.intro rfl (Exists.intro [] (Exists.intro [] (Exists.intro [] (Exists.intro [] (Exists.intro [] (And.intro rfl (And.intro rfl (And.intro trivial trivial))))))))
  · refine gdNT ?_
    refine gdNT ?_
    refine gdNT ?_
    refine gdNT ?_
    refine And.intro trivial ?_
    refine gdNT ?_
    refine gdNT ?_
    refine condF ?_
    have hy := someE hF
    subst hy
    refine And.intro rfl (Exists.intro [] (Exists.intro [] (Exists.intro [] (Exists.intro [] (Exists.intro [] (And.intro rfl (And.intro rfl (And.intro trivial trivial))))))))
theorem C91_holds : C91.Holds Tryz.prog 91 := holds_of_vc tab_ok mixed (fn := Tryz.f91) (by kernel_rfl) rfl C91 (fun x y hF => C91_vc x y hF)
theorem f91_in : ∃ fn, Tryz.prog.funcs[91]? = some fn ∧ fn.body.isSome = true ∧ (fn.name == "runtime.NumGoroutine") = false := ⟨Tryz.f91, by kernel_rfl, by kernel_rfl, by kernel_rfl⟩
end Go.Proofs
namespace Go.Proofs
open Go.AM
-- slices.Clone[[]carousel/api.Fix,carousel/api.Fix]
def f75 (s : List Int) : Option (List Int) :=
  nilF s
    (some ([]))
    (guardF ((List.length ([] : List Int) + List.length s) * 8 ≤ 140737488355328) <|
     some (([] : List Int) ++ s))
def C75 : Con where
  X := List Int
  Y := List Int
  e := 0
  args x := [.dat (.sl (.int .i64)) x]
  hin x := []
  F x := f75 x
  ret y := [.raw false [(.osl 0)]]
  hout y := [(0, .arr 57 (.int .i64) y)]
  nout := 1
theorem C75_vc (s : List Int) (y : List Int) (hF : f75 s = some y) : vc Tryz.prog tab Tryz.f75.ntmps 0 (match Tryz.f75.body with | some c => c | none => .skip) (retK tab C75 Tryz.f75.results.toList y) (C75.shIn s).st := by
  unfold f75 at hF
  refine Or.inl ?_
  refine Or.inl ?_
  refine Or.inl ?_
  refine nilI hF (fun hF => ?_) (fun hF => ?_)
  · refine condT ?_
    refine Or.inl ?_
    have hy := someE hF
    subst hy
    refine And.intro rfl (Exists.intro [] (Exists.intro [] (Exists.intro [] (Exists.intro [] (Exists.intro [(0, none)] (And.intro rfl (And.intro (And.intro rfl trivial) (And.intro rfl trivial))))))))
  · refine condF ?_
    refine Or.inl ?_
    refine Or.inl ?_
    refine Or.inl ?_
    refine guardI hF (fun hF => ?_)
    have hy := someE hF
    subst hy
    refine And.intro rfl (Exists.intro [] (Exists.intro [] (Exists.intro [] (Exists.intro [] (Exists.intro [(0, some 1)] (And.intro rfl (And.intro (And.intro rfl trivial) (And.intro rfl trivial))))))))
theorem C75_holds : C75.Holds Tryz.prog 75 := holds_of_vc tab_ok mixed (fn := Tryz.f75) (by kernel_rfl) rfl C75 (fun x y hF => C75_vc x y hF)
theorem f75_in : ∃ fn, Tryz.prog.funcs[75]? = some fn ∧ fn.body.isSome = true ∧ (fn.name == "runtime.NumGoroutine") = false := ⟨Tryz.f75, by kernel_rfl, by kernel_rfl, by kernel_rfl⟩
end Go.Proofs
namespace Go.Proofs
open Go.AM
-- carousel/tens.Copy
def f49 (t : (List Int) × (List Int)) : Option ((List Int) × (List Int)) :=
  bindF (f61 t.1) fun q1_2 =>
  bindF (f75 t.2) fun q1_5 =>
  some (q1_2, q1_5)
def C49 : Con where
  X := (List Int) × (List Int)
  Y := (List Int) × (List Int)
  e := 0
  args x := [.dat (.p (.sl (.int .i64)) (.sl (.int .i64))) x]
  hin x := []
  F x := f49 x
  ret y := [.raw true [(.osl 0), (.osl 1)]]
  hout y := [(0, .arr 3 (.int .i64) y.1), (1, .arr 57 (.int .i64) y.2)]
  nout := 2
theorem C49_vc (t : (List Int) × (List Int)) (y : (List Int) × (List Int)) (hF : f49 t = some y) : vc Tryz.prog tab Tryz.f49.ntmps 0 (match Tryz.f49.body with | some c => c | none => .skip) (retK tab C49 Tryz.f49.results.toList y) (C49.shIn t).st := by
  unfold f49 at hF
  refine Or.inl ?_
  refine Or.inl ?_
  refine Exists.intro (.take 0 (.take 1 (.take 3 (.take 4 (.alt 2 (.alt 5 (.take 6 (.alt 7 .done .done)) .done) .done))))) (Exists.intro [] (Exists.intro [] (And.intro rfl ?_)))
  refine And.intro trivial ?_
  obtain ⟨q1_2, hq1_2, hF⟩ := bindE hF
  refine Or.inl (And.intro f61_in (callV0 (callI C61 t.1 q1_2 [] false C61_holds hq1_2 rfl rfl ?_)))
  refine (And.intro rfl (And.intro (fun h => nomatch h) (And.intro rfl (And.intro rfl (And.intro trivial (And.intro trivial ?_))))))
  refine And.intro trivial ?_
  obtain ⟨q1_5, hq1_5, hF⟩ := bindE hF
  refine Or.inl (And.intro f75_in (callV0 (callI C75 t.2 q1_5 [] false C75_holds hq1_5 rfl rfl ?_)))
  refine (And.intro rfl (And.intro (fun h => nomatch h) (And.intro rfl (And.intro rfl (And.intro trivial (And.intro trivial ?_))))))
  refine And.intro trivial ?_
  refine Or.inl ?_
  have hy := someE hF
  subst hy
  refine And.intro rfl (Exists.intro [] (Exists.intro [] (Exists.intro [] (Exists.intro [] (Exists.intro [(0, some 2), (1, some 3)] (And.intro rfl (And.intro (And.intro rfl trivial) (And.intro rfl (And.intro rfl trivial)))))))))
theorem C49_holds : C49.Holds Tryz.prog 49 := holds_of_vc tab_ok mixed (fn := Tryz.f49) (by kernel_rfl) rfl C49 (fun x y hF => C49_vc x y hF)
theorem f49_in : ∃ fn, Tryz.prog.funcs[49]? = some fn ∧ fn.body.isSome = true ∧ (fn.name == "runtime.NumGoroutine") = false := ⟨Tryz.f49, by kernel_rfl, by kernel_rfl, by kernel_rfl⟩
end Go.Proofs
namespace Go.Proofs
open Go.AM
-- (*carousel/tape.Tape).add
def f92 (t_l : List (Int × Int × Int × Int × (List Int) × (List Int))) (n : Int × Int × Int × Int × (List Int) × (List Int)) : Option (Int × (List (Int × Int × Int × Int × (List Int) × (List Int)))) :=
  guardF ((List.length t_l + List.length ([(n.1, n.2.1, n.2.2.1, n.2.2.2.1, n.2.2.2.2.1, n.2.2.2.2.2)])) * 80 ≤ 140737488355328) <|
  some ((IntKind.i64.wrap ((List.length (t_l ++ ([(n.1, n.2.1, n.2.2.1, n.2.2.2.1, n.2.2.2.2.1, n.2.2.2.2.2)])) : Int) - (1 : Int))), (t_l ++ ([(n.1, n.2.1, n.2.2.1, n.2.2.2.1, n.2.2.2.2.1, n.2.2.2.2.2)])))
def C92 : Con where
  X := (List (Int × Int × Int × Int × (List Int) × (List Int))) × (Int × Int × Int × Int × (List Int) × (List Int))
  Y := Int × (List (Int × Int × Int × Int × (List Int) × (List Int)))
  e := 2
  args x := [.raw false [(.ptr 0 0)], .dat (.p (.int .i64) (.p (.int .i64) (.p (.int .i64) (.p (.int .i64) (.p (.sl (.int .i64)) (.sl (.int .i64))))))) x.2]
  hin x := [(0, .cells [(.osl 1)]), (1, .arr 61 (.p (.int .i64) (.p (.int .i64) (.p (.int .i64) (.p (.int .i64) (.p (.sl (.int .i64)) (.sl (.int .i64))))))) x.1)]
  F x := f92 x.1 x.2
  ret y := [.dat (.int .i64) y.1, .dat (.int .i64) (0 : Int)]
  hout y := [(0, .cells [(.osl 2)]), (2, .arr 61 (.p (.int .i64) (.p (.int .i64) (.p (.int .i64) (.p (.int .i64) (.p (.sl (.int .i64)) (.sl (.int .i64))))))) y.2)]
  nout := 3
theorem C92_vc (t_l : List (Int × Int × Int × Int × (List Int) × (List Int))) (n : Int × Int × Int × Int × (List Int) × (List Int)) (y : Int × (List (Int × Int × Int × Int × (List Int) × (List Int)))) (hF : f92 t_l n = some y) : vc Tryz.prog tab Tryz.f92.ntmps 2 (match Tryz.f92.body with | some c => c | none => .skip) (retK tab C92 Tryz.f92.results.toList y) (C92.shIn (t_l, n)).st := by
  unfold f92 at hF
  refine Or.inl ?_
  refine Or.inl ?_
  refine Exists.intro (.take 0 (.take 1 (.take 2 (.take 3 (.take 4 (.take 5 (.alt 6 (.alt 7 (.take 8 (.take 9 (.alt 10 .done .done))) .done) .done))))))) (Exists.intro [(10, [0])] (Exists.intro [] (And.intro rfl ?_)))
  refine And.intro trivial ?_
  refine Or.inl ?_
  refine And.intro trivial ?_
  refine Or.inl ?_
  refine guardI hF (fun hF => ?_)
  refine And.intro trivial ?_
  refine Or.inl ?_
  refine Or.inl ?_
  have hy := someE hF
  subst hy
  refine And.intro rfl (Exists.intro [] (Exists.intro [] (Exists.intro [] (Exists.intro [] (Exists.intro [(0, some 0), (2, some 4)] (And.intro rfl (And.intro rfl (And.intro rfl (And.intro trivial (And.intro rfl (And.intro rfl trivial)))))))))))
theorem C92_holds : C92.Holds Tryz.prog 92 := holds_of_vc tab_ok mixed (fn := Tryz.f92) (by kernel_rfl) rfl C92 (fun x y hF => C92_vc x.1 x.2 y hF)
theorem f92_in : ∃ fn, Tryz.prog.funcs[92]? = some fn ∧ fn.body.isSome = true ∧ (fn.name == "runtime.NumGoroutine") = false := ⟨Tryz.f92, by kernel_rfl, by kernel_rfl, by kernel_rfl⟩
end Go.Proofs
namespace Go.Proofs
open Go.AM
-- (*carousel/tape.Tape).Leaf
def f69 (t_l : List (Int × Int × Int × Int × (List Int) × (List Int))) (x_ : (List Int) × (List Int)) : Option (Int × Int × (List (Int × Int × Int × Int × (List Int) × (List Int)))) :=
  bif (decide ((List.length t_l : Int) ≥ (512 : Int))) then
    some ((0 : Int), (2 : Int), t_l)
  else
    bindF (f91 (x_.1, x_.2)) fun r1 =>
    bif (!r1) then
      some ((0 : Int), (1 : Int), t_l)
    else
      bindF (f49 (x_.1, x_.2)) fun r2 =>
      bindF (f92 t_l ((1 : Int), (-1 : Int), (-1 : Int), (0 : Int), r2.1, r2.2)) fun r3 =>
      some (r3.1, (0 : Int), r3.2)
def C69 : Con where
  X := (List (Int × Int × Int × Int × (List Int) × (List Int))) × ((List Int) × (List Int))
  Y := Int × Int × (List (Int × Int × Int × Int × (List Int) × (List Int)))
  e := 2
  args x := [.raw false [(.ptr 0 0)], .dat (.p (.sl (.int .i64)) (.sl (.int .i64))) x.2]
  hin x := [(0, .cells [(.osl 1)]), (1, .arr 61 (.p (.int .i64) (.p (.int .i64) (.p (.int .i64) (.p (.int .i64) (.p (.sl (.int .i64)) (.sl (.int .i64))))))) x.1)]
  F x := f69 x.1 x.2
  ret y := [.dat (.int .i64) y.1, .dat (.int .i64) y.2.1]
  hout y := [(0, .cells [(.osl 2)]), (2, .arr 61 (.p (.int .i64) (.p (.int .i64) (.p (.int .i64) (.p (.int .i64) (.p (.sl (.int .i64)) (.sl (.int .i64))))))) y.2.2)]
  nout := 3
theorem C69_vc (t_l : List (Int × Int × Int × Int × (List Int) × (List Int))) (x_ : (List Int) × (List Int)) (y : Int × Int × (List (Int × Int × Int × Int × (List Int) × (List Int)))) (hF : f69 t_l x_ = some y) : vc Tryz.prog tab Tryz.f69.ntmps 2 (match Tryz.f69.body with | some c => c | none => .skip) (retK tab C69 Tryz.f69.results.toList y) (C69.shIn (t_l, x_)).st := by
  unfold f69 at hF
  refine Or.inl ?_
  refine Or.inl ?_
  refine Or.inl ?_
  refine condI hF (fun hF => ?_) (fun hF => ?_)
  · refine Or.inl ?_
    have hy := someE hF
    subst hy
    refine And.intro rfl (Exists.intro [] (Exists.intro [] (Exists.intro [] (Exists.intro [] (Exists.intro [(0, some 0), (2, some 1)] (And.intro rfl (And.intro rfl (And.intro rfl (And.intro trivial (And.intro rfl (And.intro rfl trivial)))))))))))
  · refine Or.inl ?_
    obtain ⟨r1, hr1, hF⟩ := bindE hF
    refine Or.inl (And.intro f91_in (callV0 (callI C91 (x_.1, x_.2) r1 [] false C91_holds hr1 rfl rfl ?_)))
    refine (And.intro rfl (And.intro rfl (And.intro (fun h => nomatch h) (And.intro rfl (And.intro rfl (And.intro trivial (And.intro trivial ?_)))))))
    refine condI hF (fun hF => ?_) (fun hF => ?_)
    · refine Or.inl ?_
      have hy := someE hF
      subst hy
      refine And.intro rfl (Exists.intro [] (Exists.intro [] (Exists.intro [] (Exists.intro [] (Exists.intro [(0, some 0), (2, some 1)] (And.intro rfl (And.intro rfl (And.intro rfl (And.intro trivial (And.intro rfl (And.intro rfl trivial)))))))))))
    · refine Or.inl ?_
      obtain ⟨r2, hr2, hF⟩ := bindE hF
      refine Or.inl (And.intro f49_in (callV0 (callI C49 (x_.1, x_.2) r2 [] false C49_holds hr2 rfl rfl ?_)))
      refine (And.intro rfl (And.intro rfl (And.intro (fun h => nomatch h) (And.intro rfl (And.intro rfl (And.intro trivial (And.intro trivial ?_)))))))
      obtain ⟨r3, hr3, hF⟩ := bindE hF
      have hr3 : C92.F (t_l, ((1 : Int), (-1 : Int), (-1 : Int), (0 : Int), r2.1, r2.2)) = some r3 := hr3
      refine Or.inl (And.intro f92_in (callV0 (callI C92 _ r3 [(0, some 0), (1, some 1)] false C92_holds hr3 rfl rfl ?_)))
      refine (And.intro rfl (And.intro rfl (And.intro (fun h => nomatch h) (And.intro rfl (And.intro rfl (And.intro (And.intro rfl trivial) (And.intro (And.intro rfl (And.intro rfl trivial)) ?_)))))))
      have hy := someE hF
      subst hy
      refine And.intro rfl (Exists.intro [] (Exists.intro [] (Exists.intro [] (Exists.intro [] (Exists.intro [(0, some 0), (2, some 7)] (And.intro rfl (And.intro rfl (And.intro rfl (And.intro trivial (And.intro rfl (And.intro rfl trivial)))))))))))
theorem C69_holds : C69.Holds Tryz.prog 69 := holds_of_vc tab_ok mixed (fn := Tryz.f69) (by kernel_rfl) rfl C69 (fun x y hF => C69_vc x.1 x.2 y hF)
theorem f69_in : ∃ fn, Tryz.prog.funcs[69]? = some fn ∧ fn.body.isSome = true ∧ (fn.name == "runtime.NumGoroutine") = false := ⟨Tryz.f69, by kernel_rfl, by kernel_rfl, by kernel_rfl⟩
end Go.Proofs
namespace Go.Proofs
open Go.AM
-- (*carousel/model.runner).leaf
def f43 (r_t_l : List (Int × Int × Int × Int × (List Int) × (List Int))) (r_e : Int) (r_p : List Int) (r_leafs : List Int) (d : List Int) (v : List Int) : Option (Int × Int × (List Int) × (List Int) × (List (Int × Int × Int × Int × (List Int) × (List Int)))) :=
  bif (r_e != (0 : Int)) then
    some ((0 : Int), r_e, r_p, r_leafs, r_t_l)
  else
    bindF (f69 r_t_l (d, v)) fun r1 =>
    some (r1.1, r1.2.1, r_p, r_leafs, r1.2.2)
def C43 : Con where
  X := (List (Int × Int × Int × Int × (List Int) × (List Int))) × Int × (List Int) × (List Int) × (List Int) × (List Int)
  Y := Int × Int × (List Int) × (List Int) × (List (Int × Int × Int × Int × (List Int) × (List Int)))
  e := 4
  args x := [.raw false [(.ptr 0 0)], .dat (.sl (.int .i64)) x.2.2.2.2.1, .dat (.sl (.int .i64)) x.2.2.2.2.2]
  hin x := [(0, .cells [(.ptr 1 0), (.d (.int .i64) x.2.1), (.d (.sl (.int .i64)) x.2.2.1), (.osl 3)]), (1, .cells [(.osl 2)]), (2, .arr 61 (.p (.int .i64) (.p (.int .i64) (.p (.int .i64) (.p (.int .i64) (.p (.sl (.int .i64)) (.sl (.int .i64))))))) x.1), (3, .arr 3 (.int .i64) x.2.2.2.1)]
  F x := f43 x.1 x.2.1 x.2.2.1 x.2.2.2.1 x.2.2.2.2.1 x.2.2.2.2.2
  ret y := [.dat (.int .i64) y.1]
  hout y := [(0, .cells [(.ptr 1 0), (.d (.int .i64) y.2.1), (.d (.sl (.int .i64)) y.2.2.1), (.osl 3)]), (1, .cells [(.osl 4)]), (3, .arr 3 (.int .i64) y.2.2.2.1), (4, .arr 61 (.p (.int .i64) (.p (.int .i64) (.p (.int .i64) (.p (.int .i64) (.p (.sl (.int .i64)) (.sl (.int .i64))))))) y.2.2.2.2)]
  nout := 5
theorem C43_vc (r_t_l : List (Int × Int × Int × Int × (List Int) × (List Int))) (r_e : Int) (r_p : List Int) (r_leafs : List Int) (d : List Int) (v : List Int) (y : Int × Int × (List Int) × (List Int) × (List (Int × Int × Int × Int × (List Int) × (List Int)))) (hF : f43 r_t_l r_e r_p r_leafs d v = some y) : vc Tryz.prog tab Tryz.f43.ntmps 4 (match Tryz.f43.body with | some c => c | none => .skip) (retK tab C43 Tryz.f43.results.toList y) (C43.shIn (r_t_l, r_e, r_p, r_leafs, d, v)).st := by
  unfold f43 at hF
  refine Or.inl ?_
  refine Or.inl ?_
  refine Or.inl ?_
  refine condI hF (fun hF => ?_) (fun hF => ?_)
  · refine Or.inl ?_
    have hy := someE hF
    subst hy
    refine And.intro rfl (Exists.intro [] (Exists.intro [] (Exists.intro [] (Exists.intro [] (Exists.intro [(0, some 0), (1, some 1), (3, some 3), (4, some 2)] (And.intro rfl (And.intro rfl (And.intro trivial (And.intro rfl (And.intro rfl (And.intro rfl (And.intro rfl trivial))))))))))))
  · refine Or.inl ?_
    obtain ⟨r1, hr1, hF⟩ := bindE hF
    refine Or.inl (And.intro f69_in (callV0 (callI C69 (r_t_l, (d, v)) r1 [(0, some 1), (1, some 2)] false C69_holds hr1 rfl rfl ?_)))
    refine (And.intro rfl (And.intro rfl (And.intro (fun h => nomatch h) (And.intro rfl (And.intro rfl (And.intro (And.intro rfl trivial) (And.intro (And.intro rfl (And.intro rfl trivial)) ?_)))))))
    refine Or.inl ?_
    refine Or.inl ?_
    refine Or.inl ?_
    have hy := someE hF
    subst hy
    refine And.intro rfl (Exists.intro [] (Exists.intro [] (Exists.intro [] (Exists.intro [] (Exists.intro [(0, some 0), (1, some 1), (3, some 3), (4, some 6)] (And.intro rfl (And.intro rfl (And.intro trivial (And.intro rfl (And.intro rfl (And.intro rfl (And.intro rfl trivial))))))))))))
theorem C43_holds : C43.Holds Tryz.prog 43 := holds_of_vc tab_ok mixed (fn := Tryz.f43) (by kernel_rfl) rfl C43 (fun x y hF => C43_vc x.1 x.2.1 x.2.2.1 x.2.2.2.1 x.2.2.2.2.1 x.2.2.2.2.2 y hF)
theorem f43_in : ∃ fn, Tryz.prog.funcs[43]? = some fn ∧ fn.body.isSome = true ∧ (fn.name == "runtime.NumGoroutine") = false := ⟨Tryz.f43, by kernel_rfl, by kernel_rfl, by kernel_rfl⟩
end Go.Proofs
namespace Go.Proofs
open Go.AM
-- (*carousel/model.runner).params
def f70_j4 (l : List (List Int)) (v12 : Int) (c0_1 : Int) (c0_2 : List Int) (l4 : List Int) (l5 : List (Int × Int × Int × Int × (List Int) × (List Int))) : Option (Int × Int × (List Int) × (List Int) × (List (Int × Int × Int × Int × (List Int) × (List Int)))) :=
  bindF (f42 (rd (Ty.z (.sl (.int .i64))) l v12)) fun q5_7 =>
  guardF (0 ≤ q5_7 ∧ q5_7 ≤ (List.length c0_2 : Int)) <|
  bindF (f43 l5 c0_1 c0_2 l4 (rd (Ty.z (.sl (.int .i64))) l v12) (List.take (Int.toNat q5_7) c0_2)) fun q5_9 =>
  some (q5_9.1, q5_9.2.1, q5_9.2.2.1, q5_9.2.2.2.1, q5_9.2.2.2.2)
def f70_l3 (l : List (List Int)) (go : (Int × Int × Int × Int × (List Int) × (List Int) × (List (Int × Int × Int × Int × (List Int) × (List Int)))) → Option (Int × Int × Int × (List Int) × (List Int) × (List (Int × Int × Int × Int × (List Int) × (List Int))))) (first : Int) (last : Int) (v12 : Int) (c0_1 : Int) (c0_2 : List Int) (l4 : List Int) (l5 : List (Int × Int × Int × Int × (List Int) × (List Int))) : Option (Int × Int × Int × (List Int) × (List Int) × (List (Int × Int × Int × Int × (List Int) × (List Int)))) :=
  bif (decide (v12 < (List.length l : Int))) then
    guardF (0 ≤ v12 ∧ v12 < (List.length l : Int)) <|
    bindF (f70_j4 l v12 c0_1 c0_2 l4 l5) fun z4 =>
    bindF (f42 (rd (Ty.z (.sl (.int .i64))) l v12)) fun q6_6 =>
    guardF (0 ≤ q6_6 ∧ q6_6 ≤ (List.length z4.2.2.1 : Int)) <|
    guardF ((List.length z4.2.2.2.1 + List.length ([z4.1])) * 8 ≤ 140737488355328) <|
    bif (v12 == (0 : Int)) then
      go (z4.1, z4.1, (IntKind.i64.wrap (v12 + (1 : Int))), z4.2.1, (List.drop (Int.toNat q6_6) z4.2.2.1), (z4.2.2.2.1 ++ ([z4.1])), z4.2.2.2.2)
    else
      go (first, z4.1, (IntKind.i64.wrap (v12 + (1 : Int))), z4.2.1, (List.drop (Int.toNat q6_6) z4.2.2.1), (z4.2.2.2.1 ++ ([z4.1])), z4.2.2.2.2)
  else
    some (first, last, c0_1, c0_2, l4, l5)
def f70 (r_t_l : List (Int × Int × Int × Int × (List Int) × (List Int))) (r_e : Int) (r_p : List Int) (r_leafs : List Int) (l : List (List Int)) : Option (Int × Int × Int × (List Int) × (List Int) × (List (Int × Int × Int × Int × (List Int) × (List Int)))) :=
  bindF (loopF (fun go x => f70_l3 l go x.1 x.2.1 x.2.2.1 x.2.2.2.1 x.2.2.2.2.1 x.2.2.2.2.2.1 x.2.2.2.2.2.2) fuelN ((0 : Int), (0 : Int), (0 : Int), r_e, r_p, r_leafs, r_t_l)) fun z3 =>
  some (z3.1, z3.2.1, z3.2.2.1, z3.2.2.2.1, z3.2.2.2.2.1, z3.2.2.2.2.2)
def C70 : Con where
  X := (List (Int × Int × Int × Int × (List Int) × (List Int))) × Int × (List Int) × (List Int) × (List (List Int))
  Y := Int × Int × Int × (List Int) × (List Int) × (List (Int × Int × Int × Int × (List Int) × (List Int)))
  e := 4
  args x := [.raw false [(.ptr 0 0)], .dat (.sl (.sl (.int .i64))) x.2.2.2.2]
  hin x := [(0, .cells [(.ptr 1 0), (.d (.int .i64) x.2.1), (.d (.sl (.int .i64)) x.2.2.1), (.osl 3)]), (1, .cells [(.osl 2)]), (2, .arr 61 (.p (.int .i64) (.p (.int .i64) (.p (.int .i64) (.p (.int .i64) (.p (.sl (.int .i64)) (.sl (.int .i64))))))) x.1), (3, .arr 3 (.int .i64) x.2.2.2.1)]
  F x := f70 x.1 x.2.1 x.2.2.1 x.2.2.2.1 x.2.2.2.2
  ret y := [.dat (.int .i64) y.1, .dat (.int .i64) y.2.1]
  hout y := [(0, .cells [(.ptr 1 0), (.d (.int .i64) y.2.2.1), (.d (.sl (.int .i64)) y.2.2.2.1), (.osl 4)]), (1, .cells [(.osl 5)]), (4, .arr 3 (.int .i64) y.2.2.2.2.1), (5, .arr 61 (.p (.int .i64) (.p (.int .i64) (.p (.int .i64) (.p (.int .i64) (.p (.sl (.int .i64)) (.sl (.int .i64))))))) y.2.2.2.2.2)]
  nout := 6
theorem C70_vc (r_t_l : List (Int × Int × Int × Int × (List Int) × (List Int))) (r_e : Int) (r_p : List Int) (r_leafs : List Int) (l : List (List Int)) (y : Int × Int × Int × (List Int) × (List Int) × (List (Int × Int × Int × Int × (List Int) × (List Int)))) (hF : f70 r_t_l r_e r_p r_leafs l = some y) : vc Tryz.prog tab Tryz.f70.ntmps 4 (match Tryz.f70.body with | some c => c | none => .skip) (retK tab C70 Tryz.f70.results.toList y) (C70.shIn (r_t_l, r_e, r_p, r_leafs, l)).st := by
  unfold f70 at hF
  refine Or.inl ?_
  refine Or.inl ?_
  refine Or.inl ?_
  refine Or.inl ?_
  obtain ⟨z3, hz3, hF⟩ := bindE hF
  refine loopI (Int × Int × Int × Int × (List Int) × (List Int) × (List (Int × Int × Int × Int × (List Int) × (List Int)))) (Int × Int × Int × (List Int) × (List Int) × (List (Int × Int × Int × Int × (List Int) × (List Int)))) (fun x => ⟨[(0, .raw false [(.ptr 0 0)]), (6, .dat (.int .i64) x.1), (7, .dat (.int .i64) x.2.1), (10, .dat (.sl (.sl (.int .i64))) l), (11, .dat (.int .i64) (List.length l : Int)), (12, .dat (.int .i64) x.2.2.1)], [(0, .cells [(.ptr 1 0), (.d (.int .i64) x.2.2.2.1), (.d (.sl (.int .i64)) x.2.2.2.2.1), (.osl 4)]), (1, .cells [(.osl 5)]), (4, .arr 3 (.int .i64) x.2.2.2.2.2.1), (5, .arr 61 (.p (.int .i64) (.p (.int .i64) (.p (.int .i64) (.p (.int .i64) (.p (.sl (.int .i64)) (.sl (.int .i64))))))) x.2.2.2.2.2.2)], 6⟩) (fun z => [(2, ⟨[(6, .dat (.int .i64) z.1), (7, .dat (.int .i64) z.2.1)], [(0, .cells [(.ptr 1 0), (.d (.int .i64) z.2.2.1), (.d (.sl (.int .i64)) z.2.2.2.1), (.osl 4)]), (1, .cells [(.osl 5)]), (4, .arr 3 (.int .i64) z.2.2.2.2.1), (5, .arr 61 (.p (.int .i64) (.p (.int .i64) (.p (.int .i64) (.p (.int .i64) (.p (.sl (.int .i64)) (.sl (.int .i64))))))) z.2.2.2.2.2)], 6⟩)]) (loopF (fun go x => f70_l3 l go x.1 x.2.1 x.2.2.1 x.2.2.2.1 x.2.2.2.2.1 x.2.2.2.2.2.1 x.2.2.2.2.2.2)) fuelN ((0 : Int), (0 : Int), (0 : Int), r_e, r_p, r_leafs, r_t_l) z3 (And.intro hz3 (And.intro (Exists.intro [] (Exists.intro [] (Exists.intro [] (Exists.intro [] (Exists.intro [(0, some 0), (1, some 1), (4, some 3), (5, some 2)] (And.intro rfl (And.intro rfl (And.intro rfl (And.intro rfl (And.intro rfl (And.intro rfl (And.intro (And.intro rfl trivial) (And.intro rfl (And.intro rfl (And.intro rfl (And.intro rfl trivial)))))))))))))))) (And.intro (fun _ _ h => loopZ h) (And.intro (fun m => curI (fun first => curI (fun last => curI (fun v12 => curI (fun c0_1 => curI (fun c0_2 => curI (fun l4 => fun l5 z hF => ?_))))))) ?_))))
  · have hF : f70_l3 l (loopF (fun go x => f70_l3 l go x.1 x.2.1 x.2.2.1 x.2.2.2.1 x.2.2.2.2.1 x.2.2.2.2.2.1 x.2.2.2.2.2.2) m) first last v12 c0_1 c0_2 l4 l5 = some z := hF
    unfold f70_l3 at hF
    refine Or.inl ?_
    refine Or.inl ?_
    refine condI hF (fun hF => ?_) (fun hF => ?_)
    · refine Or.inl ?_
      refine Or.inl ?_
      refine guardI hF (fun hF => ?_)
      obtain ⟨z4, hz4, hF⟩ := bindE hF
      refine Or.inr ⟨[(0, ⟨[(0, .raw false [(.ptr 0 0)]), (6, .dat (.int .i64) first), (7, .dat (.int .i64) z4.1), (8, .dat (.int .i64) v12), (9, .dat (.sl (.int .i64)) (rd (Ty.z (.sl (.int .i64))) l v12)), (10, .dat (.sl (.sl (.int .i64))) l), (11, .dat (.int .i64) (List.length l : Int)), (12, .dat (.int .i64) v12)], [(0, .cells [(.ptr 1 0), (.d (.int .i64) z4.2.1), (.d (.sl (.int .i64)) z4.2.2.1), (.osl 4)]), (1, .cells [(.osl 5)]), (4, .arr 3 (.int .i64) z4.2.2.2.1), (5, .arr 61 (.p (.int .i64) (.p (.int .i64) (.p (.int .i64) (.p (.int .i64) (.p (.sl (.int .i64)) (.sl (.int .i64))))))) z4.2.2.2.2)], 6⟩)], ?_, ?_⟩
      · have hF := hz4
        clear hz4
        unfold f70_j4 at hF
        obtain ⟨q5_7, hq5_7, hF⟩ := bindE hF
        obtain ⟨g5_1, hF⟩ := guardE hF
        obtain ⟨q5_9, hq5_9, hF⟩ := bindE hF
        refine Exists.intro (.take 0 (.take 1 (.take 2 (.take 3 (.take 4 (.take 6 (.alt 5 (.alt 7 (.take 8 (.alt 9 (.take 10 .done) .done)) .done) (.alt 7 (.alt 5 (.take 8 (.alt 9 (.take 10 .done) .done)) .done) .done)))))))) (Exists.intro [(9, [0])] (Exists.intro [] (And.intro rfl ?_)))
        refine And.intro (And.intro trivial ?_) ?_
        · refine Or.inl (And.intro f42_in (callV0 (callI C42 (rd (Ty.z (.sl (.int .i64))) l v12) q5_7 [] false C42_holds hq5_7 rfl rfl ?_)))
          refine (And.intro rfl (And.intro (fun h => nomatch h) (And.intro rfl (And.intro rfl (And.intro trivial (And.intro trivial ?_))))))
          refine And.intro trivial ?_
          refine And.intro g5_1 ?_
          refine And.intro trivial ?_
          refine Or.inl (And.intro f43_in (callV0 (callI C43 (l5, c0_1, c0_2, l4, (rd (Ty.z (.sl (.int .i64))) l v12), (List.take (Int.toNat q5_7) c0_2)) q5_9 [(0, some 0), (1, some 1), (2, some 5), (3, some 4)] false C43_holds hq5_9 rfl rfl ?_)))
          refine (And.intro rfl (And.intro rfl (And.intro (fun h => nomatch h) (And.intro rfl (And.intro rfl (And.intro (And.intro rfl trivial) (And.intro (And.intro rfl (And.intro rfl (And.intro rfl (And.intro rfl trivial)))) ?_)))))))
          have hz := someE hF
          subst hz
          refine Exists.intro [] (Exists.intro [] (Exists.intro [] (Exists.intro [] (Exists.intro [(0, some 0), (1, some 1), (4, some 4), (5, some 10)] (And.intro rfl (And.intro rfl (And.intro rfl (And.intro rfl (And.intro rfl (And.intro rfl (And.intro rfl (And.intro rfl (And.intro (And.intro rfl trivial) (And.intro rfl (And.intro rfl (And.intro rfl (And.intro rfl trivial)))))))))))))))))
        · refine And.intro trivial ?_
          refine Or.inl (And.intro f42_in (callV0 (callI C42 (rd (Ty.z (.sl (.int .i64))) l v12) q5_7 [] false C42_holds hq5_7 rfl rfl ?_)))
          refine (And.intro rfl (And.intro (fun h => nomatch h) (And.intro rfl (And.intro rfl (And.intro trivial (And.intro trivial ?_))))))
          refine And.intro g5_1 ?_
          refine And.intro trivial ?_
          refine Or.inl (And.intro f43_in (callV0 (callI C43 (l5, c0_1, c0_2, l4, (rd (Ty.z (.sl (.int .i64))) l v12), (List.take (Int.toNat q5_7) c0_2)) q5_9 [(0, some 0), (1, some 1), (2, some 5), (3, some 4)] false C43_holds hq5_9 rfl rfl ?_)))
          refine (And.intro rfl (And.intro rfl (And.intro (fun h => nomatch h) (And.intro rfl (And.intro rfl (And.intro (And.intro rfl trivial) (And.intro (And.intro rfl (And.intro rfl (And.intro rfl (And.intro rfl trivial)))) ?_)))))))
          have hz := someE hF
          subst hz
          refine Exists.intro [] (Exists.intro [] (Exists.intro [] (Exists.intro [] (Exists.intro [(0, some 0), (1, some 1), (4, some 4), (5, some 10)] (And.intro rfl (And.intro rfl (And.intro rfl (And.intro rfl (And.intro rfl (And.intro rfl (And.intro rfl (And.intro rfl (And.intro (And.intro rfl trivial) (And.intro rfl (And.intro rfl (And.intro rfl (And.intro rfl trivial)))))))))))))))))
      · refine And.intro ?_ trivial
        refine Or.inl ?_
        refine Exists.intro (.take 0 (.take 1 (.take 2 (.take 3 (.take 4 (.take 5 (.alt 6 (.take 7 (.take 8 (.take 9 (.alt 10 .done .done)))) .done))))))) (Exists.intro [(10, [0])] (Exists.intro [] (And.intro rfl ?_)))
        refine And.intro trivial ?_
        obtain ⟨q6_6, hq6_6, hF⟩ := bindE hF
        refine Or.inl (And.intro f42_in (callV0 (callI C42 (rd (Ty.z (.sl (.int .i64))) l v12) q6_6 [] false C42_holds hq6_6 rfl rfl ?_)))
        refine (And.intro rfl (And.intro (fun h => nomatch h) (And.intro rfl (And.intro rfl (And.intro trivial (And.intro trivial ?_))))))
        refine guardI hF (fun hF => ?_)
        refine And.intro trivial ?_
        refine Or.inl ?_
        refine Or.inl ?_
        refine Or.inl ?_
        refine Or.inl ?_
        refine guardI hF (fun hF => ?_)
        refine Or.inl ?_
        refine Or.inl ?_
        refine condI hF (fun hF => ?_) (fun hF => ?_)
        · refine Exists.intro (z4.1, z4.1, (IntKind.i64.wrap (v12 + (1 : Int))), z4.2.1, (List.drop (Int.toNat q6_6) z4.2.2.1), (z4.2.2.2.1 ++ ([z4.1])), z4.2.2.2.2) (And.intro hF (Exists.intro [] (Exists.intro [] (Exists.intro [] (Exists.intro [] (Exists.intro [(0, some 0), (1, some 1), (4, some 7), (5, some 5)] (And.intro rfl (And.intro rfl (And.intro rfl (And.intro rfl (And.intro rfl (And.intro rfl (And.intro (And.intro rfl trivial) (And.intro rfl (And.intro rfl (And.intro rfl (And.intro rfl trivial)))))))))))))))))
        · refine Exists.intro (first, z4.1, (IntKind.i64.wrap (v12 + (1 : Int))), z4.2.1, (List.drop (Int.toNat q6_6) z4.2.2.1), (z4.2.2.2.1 ++ ([z4.1])), z4.2.2.2.2) (And.intro hF (Exists.intro [] (Exists.intro [] (Exists.intro [] (Exists.intro [] (Exists.intro [(0, some 0), (1, some 1), (4, some 7), (5, some 5)] (And.intro rfl (And.intro rfl (And.intro rfl (And.intro rfl (And.intro rfl (And.intro rfl (And.intro (And.intro rfl trivial) (And.intro rfl (And.intro rfl (And.intro rfl (And.intro rfl trivial)))))))))))))))))
    · have hz := someE hF
      subst hz
      refine Exists.intro [] (Exists.intro [] (Exists.intro [] (Exists.intro [] (Exists.intro [(0, some 0), (1, some 1), (4, some 4), (5, some 5)] (And.intro rfl (And.intro rfl (And.intro rfl (And.intro trivial (And.intro rfl (And.intro rfl (And.intro rfl (And.intro rfl trivial))))))))))))
  · refine And.intro ?_ trivial
    refine Or.inl ?_
    have hy := someE hF
    subst hy
    refine And.intro rfl (Exists.intro [] (Exists.intro [] (Exists.intro [] (Exists.intro [] (Exists.intro [(0, some 0), (1, some 1), (4, some 4), (5, some 5)] (And.intro rfl (And.intro rfl (And.intro rfl (And.intro trivial (And.intro rfl (And.intro rfl (And.intro rfl (And.intro rfl trivial)))))))))))))
theorem C70_holds : C70.Holds Tryz.prog 70 := holds_of_vc tab_ok mixed (fn := Tryz.f70) (by kernel_rfl) rfl C70 (fun x y hF => C70_vc x.1 x.2.1 x.2.2.1 x.2.2.2.1 x.2.2.2.2 y hF)
theorem f70_in : ∃ fn, Tryz.prog.funcs[70]? = some fn ∧ fn.body.isSome = true ∧ (fn.name == "runtime.NumGoroutine") = false := ⟨Tryz.f70, by kernel_rfl, by kernel_rfl, by kernel_rfl⟩
end Go.Proofs
namespace Go.Proofs
open Go.AM
-- (*carousel/tape.Tape).has
def f48 (t_l : List (Int × Int × Int × Int × (List Int) × (List Int))) (n : Int) : Option (Bool × (List (Int × Int × Int × Int × (List Int) × (List Int)))) :=
  bif (decide (n ≥ (0 : Int))) then
    some ((decide (n < (List.length t_l : Int))), t_l)
  else
    some (false, t_l)
def C48 : Con where
  X := (List (Int × Int × Int × Int × (List Int) × (List Int))) × Int
  Y := Bool × (List (Int × Int × Int × Int × (List Int) × (List Int)))
  e := 2
  args x := [.raw false [(.ptr 0 0)], .dat (.int .i64) x.2]
  hin x := [(0, .cells [(.osl 1)]), (1, .arr 61 (.p (.int .i64) (.p (.int .i64) (.p (.int .i64) (.p (.int .i64) (.p (.sl (.int .i64)) (.sl (.int .i64))))))) x.1)]
  F x := f48 x.1 x.2
  ret y := [.dat .bool y.1]
  hout y := [(0, .cells [(.osl 1)]), (1, .arr 61 (.p (.int .i64) (.p (.int .i64) (.p (.int .i64) (.p (.int .i64) (.p (.sl (.int .i64)) (.sl (.int .i64))))))) y.2)]
  nout := 2
theorem C48_vc (t_l : List (Int × Int × Int × Int × (List Int) × (List Int))) (n : Int) (y : Bool × (List (Int × Int × Int × Int × (List Int) × (List Int)))) (hF : f48 t_l n = some y) : vc Tryz.prog tab Tryz.f48.ntmps 2 (match Tryz.f48.body with | some c => c | none => .skip) (retK tab C48 Tryz.f48.results.toList y) (C48.shIn (t_l, n)).st := by
  unfold f48 at hF
  refine Or.inl ?_
  refine Or.inl ?_
  refine condI hF (fun hF => ?_) (fun hF => ?_)
  · refine gdYT ?_
    refine gdYT ?_
    refine gdYT ?_
    refine gdYT ?_
    refine gdYT ?_
    refine gdYT ?_
    refine condT ?_
    have hy := someE hF
    subst hy
    refine And.intro rfl (Exists.intro [] (Exists.intro [] (Exists.intro [] (Exists.intro [] (Exists.intro [(0, some 0), (1, some 1)] (And.intro rfl (And.intro rfl (And.intro trivial (And.intro rfl (And.intro rfl trivial))))))))))
  · refine gdNT ?_
    refine gdNT ?_
    refine gdNT ?_
    refine gdNT ?_
    refine gdNT ?_
    refine gdNT ?_
    refine condF ?_
    have hy := someE hF
    subst hy
    refine And.intro rfl (Exists.intro [] (Exists.intro [] (Exists.intro [] (Exists.intro [] (Exists.intro [(0, some 0), (1, some 1)] (And.intro rfl (And.intro rfl (And.intro trivial (And.intro rfl (And.intro rfl trivial))))))))))
theorem C48_holds : C48.Holds Tryz.prog 48 := holds_of_vc tab_ok mixed (fn := Tryz.f48) (by kernel_rfl) rfl C48 (fun x y hF => C48_vc x.1 x.2 y hF)
theorem f48_in : ∃ fn, Tryz.prog.funcs[48]? = some fn ∧ fn.body.isSome = true ∧ (fn.name == "runtime.NumGoroutine") = false := ⟨Tryz.f48, by kernel_rfl, by kernel_rfl, by kernel_rfl⟩
end Go.Proofs
namespace Go.Proofs
open Go.AM
-- carousel/tape.two
def f118 (op : Int) : Option Bool :=
  bif (op == (2 : Int)) then
    some true
  else
    bif (op == (3 : Int)) then
      some true
    else
      bif (op == (4 : Int)) then
        some true
      else
        bif (op == (6 : Int)) then
          some true
        else
          some (op == (12 : Int))
def C118 : Con where
  X := Int
  Y := Bool
  e := 0
  args x := [.dat (.int .i64) x]
  hin x := []
  F x := f118 x
  ret y := [.dat .bool y]
  hout y := []
  nout := 0
theorem C118_vc (op : Int) (y : Bool) (hF : f118 op = some y) : vc Tryz.prog tab Tryz.f118.ntmps 0 (match Tryz.f118.body with | some c => c | none => .skip) (retK tab C118 Tryz.f118.results.toList y) (C118.shIn op).st := by
  unfold f118 at hF
  refine Or.inl ?_
  refine Or.inl ?_
  refine condN hF (fun hF => ?_) (fun hF => ?_)
  · refine gdYF ?_
    refine condF ?_
    refine condN hF (fun hF => ?_) (fun hF => ?_)
    · refine gdYF ?_
      refine condF ?_
      refine condN hF (fun hF => ?_) (fun hF => ?_)
      · refine gdYF ?_
        refine condF ?_
        refine condN hF (fun hF => ?_) (fun hF => ?_)
        · refine gdYF ?_
          refine condF ?_
          have hy := someE hF
          subst hy
          refine And.intro rfl (Exists.intro [] (Exists.intro [] (Exists.intro [] (Exists.intro [] (Exists.intro [] (And.intro rfl (And.intro rfl (And.intro trivial trivial))))))))
        · refine gdNF ?_
          refine condT ?_
          have hy := someE hF
          subst hy
          refine And.intro rfl (Exists.intro [] (Exists.intro [] (Exists.intro [] (Exists.intro [] (Exists.intro [] (And.intro rfl (And.intro rfl (And.intro trivial trivial))))))))
      · refine gdNF ?_
        refine condT ?_
        refine gdNF ?_
        refine gdNF ?_
        refine condT ?_
        have hy := someE hF
        subst hy
        refine And.intro rfl (Exists.intro [] (Exists.intro [] (Exists.intro [] (Exists.intro [] (Exists.intro [] (And.intro rfl (And.intro rfl (And.intro trivial trivial))))))))
    · refine gdNF ?_
      refine condT ?_
      refine gdNF ?_
      refine gdNF ?_
      refine condT ?_
      refine gdNF ?_
      refine gdNF ?_
      refine condT ?_
      have hy := someE hF
      subst hy
      refine And.intro rfl (Exists.intro [] (Exists.intro [] (Exists.intro [] (Exists.intro [] (Exists.intro [] (And.intro rfl (And.intro rfl (And.intro trivial trivial))))))))
  · refine gdNF ?_
    refine condT ?_
    refine gdNF ?_
    refine gdNF ?_
    refine condT ?_
    refine gdNF ?_
    refine gdNF ?_
    refine condT ?_
    refine gdNF ?_
    refine gdNF ?_
    refine condT ?_
    have hy := someE hF
    subst hy
    refine And.intro rfl (Exists.intro [] (Exists.intro [] (Exists.intro [] (Exists.intro [] (Exists.intro [] (And.intro rfl (And.intro rfl (And.intro trivial trivial))))))))
theorem C118_holds : C118.Holds Tryz.prog 118 := holds_of_vc tab_ok mixed (fn := Tryz.f118) (by kernel_rfl) rfl C118 (fun x y hF => C118_vc x y hF)
theorem f118_in : ∃ fn, Tryz.prog.funcs[118]? = some fn ∧ fn.body.isSome = true ∧ (fn.name == "runtime.NumGoroutine") = false := ⟨Tryz.f118, by kernel_rfl, by kernel_rfl, by kernel_rfl⟩
end Go.Proofs
namespace Go.Proofs
open Go.AM
-- carousel/tape.counts
def f119 (op : Int) : Option Bool :=
  bif (op == (5 : Int)) then
    some true
  else
    bif (op == (8 : Int)) then
      some true
    else
      bif (op == (11 : Int)) then
        some true
      else
        bif (op == (12 : Int)) then
          some true
        else
          some (op == (13 : Int))
def C119 : Con where
  X := Int
  Y := Bool
  e := 0
  args x := [.dat (.int .i64) x]
  hin x := []
  F x := f119 x
  ret y := [.dat .bool y]
  hout y := []
  nout := 0
theorem C119_vc (op : Int) (y : Bool) (hF : f119 op = some y) : vc Tryz.prog tab Tryz.f119.ntmps 0 (match Tryz.f119.body with | some c => c | none => .skip) (retK tab C119 Tryz.f119.results.toList y) (C119.shIn op).st := by
  unfold f119 at hF
  refine Or.inl ?_
  refine Or.inl ?_
  refine condN hF (fun hF => ?_) (fun hF => ?_)
  · refine gdYF ?_
    refine condF ?_
    refine condN hF (fun hF => ?_) (fun hF => ?_)
    · refine gdYF ?_
      refine condF ?_
      refine condN hF (fun hF => ?_) (fun hF => ?_)
      · refine gdYF ?_
        refine condF ?_
        refine condN hF (fun hF => ?_) (fun hF => ?_)
        · refine gdYF ?_
          refine condF ?_
          have hy := someE hF
          subst hy
          refine And.intro rfl (Exists.intro [] (Exists.intro [] (Exists.intro [] (Exists.intro [] (Exists.intro [] (And.intro rfl (And.intro rfl (And.intro trivial trivial))))))))
        · refine gdNF ?_
          refine condT ?_
          have hy := someE hF
          subst hy
          refine And.intro rfl (Exists.intro [] (Exists.intro [] (Exists.intro [] (Exists.intro [] (Exists.intro [] (And.intro rfl (And.intro rfl (And.intro trivial trivial))))))))
      · refine gdNF ?_
        refine condT ?_
        refine gdNF ?_
        refine gdNF ?_
        refine condT ?_
        have hy := someE hF
        subst hy
        refine And.intro rfl (Exists.intro [] (Exists.intro [] (Exists.intro [] (Exists.intro [] (Exists.intro [] (And.intro rfl (And.intro rfl (And.intro trivial trivial))))))))
    · refine gdNF ?_
      refine condT ?_
      refine gdNF ?_
      refine gdNF ?_
      refine condT ?_
      refine gdNF ?_
      refine gdNF ?_
      refine condT ?_
      have hy := someE hF
      subst hy
      refine And.intro rfl (Exists.intro [] (Exists.intro [] (Exists.intro [] (Exists.intro [] (Exists.intro [] (And.intro rfl (And.intro rfl (And.intro trivial trivial))))))))
  · refine gdNF ?_
    refine condT ?_
    refine gdNF ?_
    refine gdNF ?_
    refine condT ?_
    refine gdNF ?_
    refine gdNF ?_
    refine condT ?_
    refine gdNF ?_
    refine gdNF ?_
    refine condT ?_
    have hy := someE hF
    subst hy
    refine And.intro rfl (Exists.intro [] (Exists.intro [] (Exists.intro [] (Exists.intro [] (Exists.intro [] (And.intro rfl (And.intro rfl (And.intro trivial trivial))))))))
theorem C119_holds : C119.Holds Tryz.prog 119 := holds_of_vc tab_ok mixed (fn := Tryz.f119) (by kernel_rfl) rfl C119 (fun x y hF => C119_vc x y hF)
theorem f119_in : ∃ fn, Tryz.prog.funcs[119]? = some fn ∧ fn.body.isSome = true ∧ (fn.name == "runtime.NumGoroutine") = false := ⟨Tryz.f119, by kernel_rfl, by kernel_rfl, by kernel_rfl⟩
end Go.Proofs
namespace Go.Proofs
open Go.AM
-- carousel/shape.side
def f222 (d : List Int) (i : Int) : Option Int :=
  bif (decide (i ≥ (List.length d : Int))) then
    some (1 : Int)
  else
    guardF (0 ≤ (IntKind.i64.wrap ((IntKind.i64.wrap ((List.length d : Int) - (1 : Int))) - i)) ∧ (IntKind.i64.wrap ((IntKind.i64.wrap ((List.length d : Int) - (1 : Int))) - i)) < (List.length d : Int)) <|
    some (rd (0 : Int) d (IntKind.i64.wrap ((IntKind.i64.wrap ((List.length d : Int) - (1 : Int))) - i)))
def C222 : Con where
  X := (List Int) × Int
  Y := Int
  e := 0
  args x := [.dat (.sl (.int .i64)) x.1, .dat (.int .i64) x.2]
  hin x := []
  F x := f222 x.1 x.2
  ret y := [.dat (.int .i64) y]
  hout y := []
  nout := 0
theorem C222_vc (d : List Int) (i : Int) (y : Int) (hF : f222 d i = some y) : vc Tryz.prog tab Tryz.f222.ntmps 0 (match Tryz.f222.body with | some c => c | none => .skip) (retK tab C222 Tryz.f222.results.toList y) (C222.shIn (d, i)).st := by
  unfold f222 at hF
  refine Or.inl ?_
  refine Or.inl ?_
  refine Or.inl ?_
  refine condI hF (fun hF => ?_) (fun hF => ?_)
  · refine Or.inl ?_
    have hy := someE hF
    subst hy
    refine And.intro rfl (Exists.intro [] (Exists.intro [] (Exists.intro [] (Exists.intro [] (Exists.intro [] (And.intro rfl (And.intro rfl (And.intro trivial trivial))))))))
  · refine Or.inl ?_
    refine guardI hF (fun hF => ?_)
    have hy := someE hF
    subst hy
    refine And.intro rfl (Exists.intro [] (Exists.intro [] (Exists.intro [] (Exists.intro [] (Exists.intro [] (And.intro rfl (And.intro rfl (And.intro trivial trivial))))))))
theorem C222_holds : C222.Holds Tryz.prog 222 := holds_of_vc tab_ok mixed (fn := Tryz.f222) (by kernel_rfl) rfl C222 (fun x y hF => C222_vc x.1 x.2 y hF)
theorem f222_in : ∃ fn, Tryz.prog.funcs[222]? = some fn ∧ fn.body.isSome = true ∧ (fn.name == "runtime.NumGoroutine") = false := ⟨Tryz.f222, by kernel_rfl, by kernel_rfl, by kernel_rfl⟩
end Go.Proofs
namespace Go.Proofs
open Go.AM
-- carousel/shape.Join
def f195_j1 (a : List Int) (b : List Int) : Option (Sum Unit Unit) :=
  bindF (f65 a) fun r4 =>
  bif (!r4) then
    some (Sum.inr ())
  else
    bindF (f65 b) fun r5 =>
    bif (!r5) then
      some (Sum.inr ())
    else
      some (Sum.inl ())
def f195_j5 (r13 : Int) (r14 : Int) : Option (Sum Unit Unit) :=
  bif (r13 != r14) then
    bif (r13 != (1 : Int)) then
      bif (r14 != (1 : Int)) then
        some (Sum.inr ())
      else
        some (Sum.inl ())
    else
      some (Sum.inl ())
  else
    some (Sum.inl ())
def f195_l4 (a : List Int) (b : List Int) (go : (Int × (List Int)) → Option (Sum Unit (List Int))) (v26 : Int) (l0 : List Int) : Option (Sum Unit (List Int)) :=
  bif (decide (v26 < (List.length (List.replicate (Int.toNat (if (List.length b : Int) > (List.length a : Int) then (List.length b : Int) else (List.length a : Int))) (0 : Int)) : Int))) then
    bindF (f222 a v26) fun r13 =>
    bindF (f222 b v26) fun r14 =>
    bindF (f195_j5 r13 r14) fun z15 =>
    sumF z15 (fun z15a =>
      guardF (0 ≤ (IntKind.i64.wrap ((IntKind.i64.wrap ((List.length l0 : Int) - (1 : Int))) - v26)) ∧ (IntKind.i64.wrap ((IntKind.i64.wrap ((List.length l0 : Int) - (1 : Int))) - v26)) < (List.length l0 : Int)) <|
      go ((IntKind.i64.wrap (v26 + (1 : Int))), (List.set l0 (Int.toNat (IntKind.i64.wrap ((IntKind.i64.wrap ((List.length l0 : Int) - (1 : Int))) - v26))) (if r14 > r13 then r14 else r13)))) (fun z15b =>
      some (Sum.inl ()))
  else
    some (Sum.inr l0)
def f195 (a : List Int) (b : List Int) : Option (Int × (List Int)) :=
  bindF (f195_j1 a b) fun z3 =>
  sumF z3 (fun z3a =>
    guardF (0 ≤ (if (List.length b : Int) > (List.length a : Int) then (List.length b : Int) else (List.length a : Int)) ∧ (if (List.length b : Int) > (List.length a : Int) then (List.length b : Int) else (List.length a : Int)) ≤ (if (List.length b : Int) > (List.length a : Int) then (List.length b : Int) else (List.length a : Int)) ∧ Int.toNat (if (List.length b : Int) > (List.length a : Int) then (List.length b : Int) else (List.length a : Int)) * 8 ≤ 140737488355328) <|
    bindF (loopF (fun go x => f195_l4 a b go x.1 x.2) fuelN ((0 : Int), (List.replicate (Int.toNat (if (List.length b : Int) > (List.length a : Int) then (List.length b : Int) else (List.length a : Int))) (0 : Int)))) fun z12 =>
    sumF z12 (fun z12a =>
      some ((4 : Int), [])) (fun z12b =>
      bindF (f65 z12b) fun r16 =>
      bif (!r16) then
        some ((2 : Int), [])
      else
        some ((0 : Int), z12b))) (fun z3b =>
    some ((1 : Int), []))
def C195 : Con where
  X := (List Int) × (List Int)
  Y := Int × (List Int)
  e := 0
  args x := [.dat (.sl (.int .i64)) x.1, .dat (.sl (.int .i64)) x.2]
  hin x := []
  F x := f195 x.1 x.2
  ret y := [.raw false [(.osl 0)], .dat (.int .i64) y.1]
  hout y := [(0, .arr 3 (.int .i64) y.2)]
  nout := 1
theorem C195_vc (a : List Int) (b : List Int) (y : Int × (List Int)) (hF : f195 a b = some y) : vc Tryz.prog tab Tryz.f195.ntmps 0 (match Tryz.f195.body with | some c => c | none => .skip) (retK tab C195 Tryz.f195.results.toList y) (C195.shIn (a, b)).st := by
  unfold f195 at hF
  refine Or.inl ?_
  obtain ⟨z3, hz3, hF⟩ := bindE hF
  refine Or.inr ⟨Sum.elim (fun z3a => [(0, ⟨[(0, .dat (.sl (.int .i64)) a), (1, .dat (.sl (.int .i64)) b)], [], 0⟩)]) (fun z3b => [(1, ⟨[(4, .raw false [(.c (.slice none 0 0))]), (5, .dat (.int .i64) (1 : Int))], [], 0⟩)]) z3, ?_, ?_⟩
  · have hF := hz3
    clear hz3
    unfold f195_j1 at hF
    refine Or.inl ?_
    obtain ⟨r4, hr4, hF⟩ := bindE hF
    refine Or.inl (And.intro f65_in (callV0 (callI C65 a r4 [] false C65_holds hr4 rfl rfl ?_)))
    refine (And.intro rfl (And.intro (fun h => nomatch h) (And.intro rfl (And.intro rfl (And.intro trivial (And.intro trivial ?_))))))
    refine condN hF (fun hF => ?_) (fun hF => ?_)
    · refine gdYF ?_
      obtain ⟨r5, hr5, hF⟩ := bindE hF
      refine Or.inl (And.intro f65_in (callV0 (callI C65 b r5 [] false C65_holds hr5 rfl rfl ?_)))
      refine (And.intro rfl (And.intro (fun h => nomatch h) (And.intro rfl (And.intro rfl (And.intro trivial (And.intro trivial ?_))))))
      refine gdYF ?_
      refine condF ?_
      refine condI hF (fun hF => ?_) (fun hF => ?_)
      · refine Or.inl ?_
        have hz := someE hF
        subst hz
        refine Exists.intro [] (Exists.intro [] (Exists.intro [] (Exists.intro [] (Exists.intro [] (And.intro rfl (And.intro rfl (And.intro (And.intro rfl trivial) trivial)))))))
      · have hz := someE hF
        subst hz
        refine Exists.intro [] (Exists.intro [] (Exists.intro [] (Exists.intro [] (Exists.intro [] (And.intro rfl (And.intro rfl (And.intro rfl (And.intro trivial trivial))))))))
    · refine gdNF ?_
      refine gdNF ?_
      refine condT ?_
      refine condT ?_
      refine Or.inl ?_
      have hz := someE hF
      subst hz
      refine Exists.intro [] (Exists.intro [] (Exists.intro [] (Exists.intro [] (Exists.intro [] (And.intro rfl (And.intro rfl (And.intro (And.intro rfl trivial) trivial)))))))
  · rcases z3 with z3a | z3b
    · dsimp only [sumF] at hF
      refine And.intro ?_ trivial
      refine Or.inl ?_
      refine guardI hF (fun hF => ?_)
      refine Or.inl ?_
      refine Or.inl ?_
      obtain ⟨z12, hz12, hF⟩ := bindE hF
      refine loopI (Int × (List Int)) (Sum Unit (List Int)) (fun x => ⟨[(0, .dat (.sl (.int .i64)) a), (1, .dat (.sl (.int .i64)) b), (6, .raw false [(.osl 0)]), (25, .dat (.int .i64) (List.length (List.replicate (Int.toNat (if (List.length b : Int) > (List.length a : Int) then (List.length b : Int) else (List.length a : Int))) (0 : Int)) : Int)), (26, .dat (.int .i64) x.1)], [(0, .arr 3 (.int .i64) x.2)], 1⟩) (fun z => Sum.elim (fun za => [(1, ⟨[(4, .raw false [(.c (.slice none 0 0))]), (5, .dat (.int .i64) (4 : Int))], [], 0⟩)]) (fun zb => [(2, ⟨[(6, .raw false [(.osl 0)])], [(0, .arr 3 (.int .i64) zb)], 1⟩)]) z) (loopF (fun go x => f195_l4 a b go x.1 x.2)) fuelN ((0 : Int), (List.replicate (Int.toNat (if (List.length b : Int) > (List.length a : Int) then (List.length b : Int) else (List.length a : Int))) (0 : Int))) z12 (And.intro hz12 (And.intro (Exists.intro [] (Exists.intro [] (Exists.intro [] (Exists.intro [] (Exists.intro [(0, some 0)] (And.intro rfl (And.intro rfl (And.intro rfl (And.intro rfl (And.intro rfl (And.intro (And.intro rfl trivial) (And.intro rfl trivial)))))))))))) (And.intro (fun _ _ h => loopZ h) (And.intro (fun m => curI (fun v26 => fun l0 z hF => ?_)) ?_))))
      · have hF : f195_l4 a b (loopF (fun go x => f195_l4 a b go x.1 x.2) m) v26 l0 = some z := hF
        unfold f195_l4 at hF
        refine Or.inl ?_
        refine Or.inl ?_
        refine condI hF (fun hF => ?_) (fun hF => ?_)
        · refine Or.inl ?_
          refine Or.inl ?_
          refine Or.inl ?_
          obtain ⟨r13, hr13, hF⟩ := bindE hF
          refine Or.inl (And.intro f222_in (callV0 (callI C222 (a, v26) r13 [] false C222_holds hr13 rfl rfl ?_)))
          refine (And.intro rfl (And.intro rfl (And.intro (fun h => nomatch h) (And.intro rfl (And.intro rfl (And.intro trivial (And.intro trivial ?_)))))))
          obtain ⟨r14, hr14, hF⟩ := bindE hF
          refine Or.inl (And.intro f222_in (callV0 (callI C222 (b, v26) r14 [] false C222_holds hr14 rfl rfl ?_)))
          refine (And.intro rfl (And.intro rfl (And.intro (fun h => nomatch h) (And.intro rfl (And.intro rfl (And.intro trivial (And.intro trivial ?_)))))))
          obtain ⟨z15, hz15, hF⟩ := bindE hF
          refine Or.inr ⟨Sum.elim (fun z15a => [(0, ⟨[(0, .dat (.sl (.int .i64)) a), (1, .dat (.sl (.int .i64)) b), (6, .raw false [(.osl 0)]), (7, .dat (.int .i64) v26), (8, .dat (.int .i64) r13), (9, .dat (.int .i64) r14), (25, .dat (.int .i64) (List.length (List.replicate (Int.toNat (if (List.length b : Int) > (List.length a : Int) then (List.length b : Int) else (List.length a : Int))) (0 : Int)) : Int)), (26, .dat (.int .i64) v26)], [(0, .arr 3 (.int .i64) l0)], 1⟩)]) (fun z15b => [(1, ⟨[(4, .raw false [(.c (.slice none 0 0))]), (5, .dat (.int .i64) (4 : Int))], [], 0⟩)]) z15, ?_, ?_⟩
          · have hF := hz15
            clear hz15
            unfold f195_j5 at hF
            refine Or.inl ?_
            refine condI hF (fun hF => ?_) (fun hF => ?_)
            · refine gdYT ?_
              refine condT ?_
              refine condI hF (fun hF => ?_) (fun hF => ?_)
              · refine gdYT ?_
                refine condT ?_
                refine condI hF (fun hF => ?_) (fun hF => ?_)
                · refine Or.inl ?_
                  have hz := someE hF
                  subst hz
                  refine Exists.intro [] (Exists.intro [] (Exists.intro [] (Exists.intro [] (Exists.intro [] (And.intro rfl (And.intro rfl (And.intro (And.intro rfl trivial) trivial)))))))
                · have hz := someE hF
                  subst hz
                  refine Exists.intro [] (Exists.intro [] (Exists.intro [] (Exists.intro [] (Exists.intro [(0, some 0)] (And.intro rfl (And.intro rfl (And.intro rfl (And.intro rfl (And.intro rfl (And.intro rfl (And.intro rfl (And.intro rfl (And.intro (And.intro rfl trivial) (And.intro rfl trivial))))))))))))))
              · refine gdNT ?_
                refine condF ?_
                refine condF ?_
                have hz := someE hF
                subst hz
                refine Exists.intro [] (Exists.intro [] (Exists.intro [] (Exists.intro [] (Exists.intro [(0, some 0)] (And.intro rfl (And.intro rfl (And.intro rfl (And.intro rfl (And.intro rfl (And.intro rfl (And.intro rfl (And.intro rfl (And.intro (And.intro rfl trivial) (And.intro rfl trivial))))))))))))))
            · refine gdNT ?_
              refine condF ?_
              refine gdNT ?_
              refine gdNT ?_
              refine condF ?_
              refine condF ?_
              have hz := someE hF
              subst hz
              refine Exists.intro [] (Exists.intro [] (Exists.intro [] (Exists.intro [] (Exists.intro [(0, some 0)] (And.intro rfl (And.intro rfl (And.intro rfl (And.intro rfl (And.intro rfl (And.intro rfl (And.intro rfl (And.intro rfl (And.intro (And.intro rfl trivial) (And.intro rfl trivial))))))))))))))
          · rcases z15 with z15a | z15b
            · dsimp only [sumF] at hF
              refine And.intro ?_ trivial
              refine guardI hF (fun hF => ?_)
              refine Or.inl ?_
              refine Exists.intro ((IntKind.i64.wrap (v26 + (1 : Int))), (List.set l0 (Int.toNat (IntKind.i64.wrap ((IntKind.i64.wrap ((List.length l0 : Int) - (1 : Int))) - v26))) (if r14 > r13 then r14 else r13))) (And.intro hF (Exists.intro [] (Exists.intro [] (Exists.intro [] (Exists.intro [] (Exists.intro [(0, some 0)] (And.intro rfl (And.intro rfl (And.intro rfl (And.intro rfl (And.intro rfl (And.intro (And.intro rfl trivial) (And.intro rfl trivial)))))))))))))
            · dsimp only [sumF] at hF
              refine And.intro ?_ trivial
              have hz := someE hF
              subst hz
              refine Exists.intro [] (Exists.intro [] (Exists.intro [] (Exists.intro [] (Exists.intro [] (And.intro rfl (And.intro rfl (And.intro (And.intro rfl trivial) trivial)))))))
        · have hz := someE hF
          subst hz
          refine Exists.intro [] (Exists.intro [] (Exists.intro [] (Exists.intro [] (Exists.intro [(0, some 0)] (And.intro rfl (And.intro (And.intro rfl trivial) (And.intro rfl trivial)))))))
      · rcases z12 with z12a | z12b
        · dsimp only [sumF] at hF
          refine And.intro ?_ trivial
          have hy := someE hF
          subst hy
          refine And.intro rfl (Exists.intro [] (Exists.intro [] (Exists.intro [] (Exists.intro [] (Exists.intro [(0, none)] (And.intro rfl (And.intro rfl (And.intro (And.intro rfl trivial) (And.intro rfl trivial)))))))))
        · dsimp only [sumF] at hF
          refine And.intro ?_ trivial
          refine Or.inl ?_
          refine Or.inl ?_
          obtain ⟨r16, hr16, hF⟩ := bindE hF
          refine Or.inl (And.intro f65_in (callV0 (callI C65 z12b r16 [] true C65_holds hr16 rfl rfl ?_)))
          refine (And.intro rfl (And.intro (fun _ => rfl) (And.intro rfl (And.intro rfl (And.intro trivial (And.intro trivial ?_))))))
          refine condI hF (fun hF => ?_) (fun hF => ?_)
          · refine Or.inl ?_
            have hy := someE hF
            subst hy
            refine And.intro rfl (Exists.intro [] (Exists.intro [] (Exists.intro [] (Exists.intro [] (Exists.intro [(0, none)] (And.intro rfl (And.intro rfl (And.intro (And.intro rfl trivial) (And.intro rfl trivial)))))))))
          · refine Or.inl ?_
            have hy := someE hF
            subst hy
            refine And.intro rfl (Exists.intro [] (Exists.intro [] (Exists.intro [] (Exists.intro [] (Exists.intro [(0, some 0)] (And.intro rfl (And.intro rfl (And.intro (And.intro rfl trivial) (And.intro rfl trivial)))))))))
    · dsimp only [sumF] at hF
      refine And.intro ?_ trivial
      have hy := someE hF
      subst hy
      refine And.intro rfl (Exists.intro [] (Exists.intro [] (Exists.intro [] (Exists.intro [] (Exists.intro [(0, none)] (And.intro rfl (And.intro rfl (And.intro (And.intro rfl trivial) (And.intro rfl trivial)))))))))
theorem C195_holds : C195.Holds Tryz.prog 195 := holds_of_vc tab_ok mixed (fn := Tryz.f195) (by kernel_rfl) rfl C195 (fun x y hF => C195_vc x.1 x.2 y hF)
theorem f195_in : ∃ fn, Tryz.prog.funcs[195]? = some fn ∧ fn.body.isSome = true ∧ (fn.name == "runtime.NumGoroutine") = false := ⟨Tryz.f195, by kernel_rfl, by kernel_rfl, by kernel_rfl⟩
end Go.Proofs
namespace Go.Proofs
open Go.AM
-- math/bits.Mul64
def f197 (x_ : Int) (y_ : Int) : Option (Int × Int) :=
  some ((IntKind.u64.wrap ((IntKind.u64.wrap ((IntKind.u64.wrap ((Int.fdiv x_ (2 ^ min (Int.toNat (32 : Int)) (IntKind.bits IntKind.u64))) * (Int.fdiv y_ (2 ^ min (Int.toNat (32 : Int)) (IntKind.bits IntKind.u64))))) + (Int.fdiv (IntKind.u64.wrap ((IntKind.u64.wrap ((Int.fdiv x_ (2 ^ min (Int.toNat (32 : Int)) (IntKind.bits IntKind.u64))) * (bitsOf IntKind.u64 (fun p q => p &&& q) y_ (4294967295 : Int)))) + (Int.fdiv (IntKind.u64.wrap ((bitsOf IntKind.u64 (fun p q => p &&& q) x_ (4294967295 : Int)) * (bitsOf IntKind.u64 (fun p q => p &&& q) y_ (4294967295 : Int)))) (2 ^ min (Int.toNat (32 : Int)) (IntKind.bits IntKind.u64))))) (2 ^ min (Int.toNat (32 : Int)) (IntKind.bits IntKind.u64))))) + (Int.fdiv (IntKind.u64.wrap ((bitsOf IntKind.u64 (fun p q => p &&& q) (IntKind.u64.wrap ((IntKind.u64.wrap ((Int.fdiv x_ (2 ^ min (Int.toNat (32 : Int)) (IntKind.bits IntKind.u64))) * (bitsOf IntKind.u64 (fun p q => p &&& q) y_ (4294967295 : Int)))) + (Int.fdiv (IntKind.u64.wrap ((bitsOf IntKind.u64 (fun p q => p &&& q) x_ (4294967295 : Int)) * (bitsOf IntKind.u64 (fun p q => p &&& q) y_ (4294967295 : Int)))) (2 ^ min (Int.toNat (32 : Int)) (IntKind.bits IntKind.u64))))) (4294967295 : Int)) + (IntKind.u64.wrap ((bitsOf IntKind.u64 (fun p q => p &&& q) x_ (4294967295 : Int)) * (Int.fdiv y_ (2 ^ min (Int.toNat (32 : Int)) (IntKind.bits IntKind.u64))))))) (2 ^ min (Int.toNat (32 : Int)) (IntKind.bits IntKind.u64))))), (IntKind.u64.wrap (x_ * y_)))
def C197 : Con where
  X := Int × Int
  Y := Int × Int
  e := 0
  args x := [.dat (.int .u64) x.1, .dat (.int .u64) x.2]
  hin x := []
  F x := f197 x.1 x.2
  ret y := [.dat (.int .u64) y.1, .dat (.int .u64) y.2]
  hout y := []
  nout := 0
theorem C197_vc (x_ : Int) (y_ : Int) (y : Int × Int) (hF : f197 x_ y_ = some y) : vc Tryz.prog tab Tryz.f197.ntmps 0 (match Tryz.f197.body with | some c => c | none => .skip) (retK tab C197 Tryz.f197.results.toList y) (C197.shIn (x_, y_)).st := by
  unfold f197 at hF
  refine Or.inl ?_
  refine Or.inl ?_
  refine Or.inl ?_
  refine And.intro (by decide) ?_
  refine Or.inl ?_
  refine Or.inl ?_
  refine And.intro (by decide) ?_
  refine Or.inl ?_
  refine Or.inl ?_
  refine And.intro (by decide) ?_
  refine Or.inl ?_
  refine Or.inl ?_
  refine And.intro (by decide) ?_
  refine Or.inl ?_
  refine Or.inl ?_
  refine And.intro (by decide) ?_
  refine Or.inl ?_
  have hy := someE hF
  subst hy
  refine And.intro rfl (Exists.intro [] (Exists.intro [] (Exists.intro [] (Exists.intro [] (Exists.intro [] (And.intro rfl (And.intro rfl (And.intro rfl (And.intro trivial trivial)))))))))
theorem C197_holds : C197.Holds Tryz.prog 197 := holds_of_vc tab_ok mixed (fn := Tryz.f197) (by kernel_rfl) rfl C197 (fun x y hF => C197_vc x.1 x.2 y hF)
theorem f197_in : ∃ fn, Tryz.prog.funcs[197]? = some fn ∧ fn.body.isSome = true ∧ (fn.name == "runtime.NumGoroutine") = false := ⟨Tryz.f197, by kernel_rfl, by kernel_rfl, by kernel_rfl⟩
end Go.Proofs
namespace Go.Proofs
open Go.AM
-- math/bits.Mul
def f223 (x_ : Int) (y_ : Int) : Option (Int × Int) :=
  bindF (f197 x_ y_) fun r1 =>
  some (r1.1, r1.2)
def C223 : Con where
  X := Int × Int
  Y := Int × Int
  e := 0
  args x := [.dat (.int .u64) x.1, .dat (.int .u64) x.2]
  hin x := []
  F x := f223 x.1 x.2
  ret y := [.dat (.int .u64) y.1, .dat (.int .u64) y.2]
  hout y := []
  nout := 0
theorem C223_vc (x_ : Int) (y_ : Int) (y : Int × Int) (hF : f223 x_ y_ = some y) : vc Tryz.prog tab Tryz.f223.ntmps 0 (match Tryz.f223.body with | some c => c | none => .skip) (retK tab C223 Tryz.f223.results.toList y) (C223.shIn (x_, y_)).st := by
  unfold f223 at hF
  refine Or.inl ?_
  refine Or.inl ?_
  refine condF ?_
  refine Or.inl ?_
  obtain ⟨r1, hr1, hF⟩ := bindE hF
  refine Or.inl (And.intro f197_in (callV0 (callI C197 (x_, y_) r1 [] false C197_holds hr1 rfl rfl ?_)))
  refine (And.intro rfl (And.intro rfl (And.intro (fun h => nomatch h) (And.intro rfl (And.intro rfl (And.intro trivial (And.intro trivial ?_)))))))
  refine Or.inl ?_
  have hy := someE hF
  subst hy
  refine And.intro rfl (Exists.intro [] (Exists.intro [] (Exists.intro [] (Exists.intro [] (Exists.intro [] (And.intro rfl (And.intro rfl (And.intro rfl (And.intro trivial trivial)))))))))
theorem C223_holds : C223.Holds Tryz.prog 223 := holds_of_vc tab_ok mixed (fn := Tryz.f223) (by kernel_rfl) rfl C223 (fun x y hF => C223_vc x.1 x.2 y hF)
theorem f223_in : ∃ fn, Tryz.prog.funcs[223]? = some fn ∧ fn.body.isSome = true ∧ (fn.name == "runtime.NumGoroutine") = false := ⟨Tryz.f223, by kernel_rfl, by kernel_rfl, by kernel_rfl⟩
end Go.Proofs
namespace Go.Proofs
open Go.AM
-- slices.Repeat[[]carousel/api.Fix,carousel/api.Fix]
def f201_j1 (r1 : Int × Int) : Option Unit :=
  bif (decide (r1.1 > (0 : Int))) then
    none
  else
    bif (decide (r1.2 > (9223372036854775807 : Int))) then
      none
    else
      some ()
def f201_l2 (go : (Int × (List Int)) → Option (List Int)) (n : Int) (l0 : List Int) : Option (List Int) :=
  bif (decide (n < (List.length l0 : Int))) then
    guardF (0 ≤ n ∧ n ≤ (List.length l0 : Int)) <|
    guardF (0 ≤ n ∧ n ≤ (List.length l0 : Int)) <|
    go ((IntKind.i64.wrap (n + (List.length (List.take (Int.toNat (List.length l0 : Int) - Int.toNat n) (List.drop (Int.toNat (0 : Int)) (List.take (Int.toNat n) l0))) : Int))), (over l0 n (List.take (Int.toNat (List.length l0 : Int) - Int.toNat n) (List.drop (Int.toNat (0 : Int)) (List.take (Int.toNat n) l0)))))
  else
    some l0
def f201 (x_ : List Int) (count : Int) : Option (List Int) :=
  bif (decide (count < (0 : Int))) then
    none
  else
    bindF (f223 (IntKind.u64.wrap (List.length x_ : Int)) (IntKind.u64.wrap count)) fun r1 =>
    bindF (f201_j1 r1) fun z2 =>
    guardF (0 ≤ (IntKind.i64.wrap r1.2) ∧ (IntKind.i64.wrap r1.2) ≤ (IntKind.i64.wrap r1.2) ∧ Int.toNat (IntKind.i64.wrap r1.2) * 8 ≤ 140737488355328) <|
    bindF (loopF (fun go x => f201_l2 go x.1 x.2) fuelN ((List.length (List.take (Int.toNat (List.length (List.replicate (Int.toNat (IntKind.i64.wrap r1.2)) (0 : Int)) : Int) - Int.toNat (0 : Int)) x_) : Int), (over (List.replicate (Int.toNat (IntKind.i64.wrap r1.2)) (0 : Int)) (0 : Int) (List.take (Int.toNat (List.length (List.replicate (Int.toNat (IntKind.i64.wrap r1.2)) (0 : Int)) : Int) - Int.toNat (0 : Int)) x_)))) fun z3 =>
    some z3
def C201 : Con where
  X := (List Int) × Int
  Y := List Int
  e := 0
  args x := [.dat (.sl (.int .i64)) x.1, .dat (.int .i64) x.2]
  hin x := []
  F x := f201 x.1 x.2
  ret y := [.raw false [(.osl 0)]]
  hout y := [(0, .arr 57 (.int .i64) y)]
  nout := 1
theorem C201_vc (x_ : List Int) (count : Int) (y : List Int) (hF : f201 x_ count = some y) : vc Tryz.prog tab Tryz.f201.ntmps 0 (match Tryz.f201.body with | some c => c | none => .skip) (retK tab C201 Tryz.f201.results.toList y) (C201.shIn (x_, count)).st := by
  unfold f201 at hF
  refine Or.inl ?_
  refine Or.inl ?_
  refine Or.inl ?_
  refine condI hF (fun hF => ?_) (fun hF => ?_)
  · exact nomatch hF
  · refine Or.inl ?_
    obtain ⟨r1, hr1, hF⟩ := bindE hF
    refine Or.inl (And.intro f223_in (callV0 (callI C223 ((IntKind.u64.wrap (List.length x_ : Int)), (IntKind.u64.wrap count)) r1 [] false C223_holds hr1 rfl rfl ?_)))
    refine (And.intro rfl (And.intro rfl (And.intro (fun h => nomatch h) (And.intro rfl (And.intro rfl (And.intro trivial (And.intro trivial ?_)))))))
    obtain ⟨z2, hz2, hF⟩ := bindE hF
    refine Or.inr ⟨[(0, ⟨[(0, .dat (.sl (.int .i64)) x_), (6, .dat (.int .u64) r1.2)], [], 0⟩)], ?_, ?_⟩
    · have hF := hz2
      clear hz2
      unfold f201_j1 at hF
      refine Or.inl ?_
      refine condN hF (fun hF => ?_) (fun hF => ?_)
      · refine gdYF ?_
        refine condF ?_
        refine condI hF (fun hF => ?_) (fun hF => ?_)
        · exact nomatch hF
        · have hz := someE hF
          subst hz
          refine Exists.intro [] (Exists.intro [] (Exists.intro [] (Exists.intro [] (Exists.intro [] (And.intro rfl (And.intro rfl (And.intro rfl (And.intro trivial trivial))))))))
      · refine gdNF ?_
        refine condT ?_
        refine condT ?_
        exact nomatch hF
    · refine And.intro ?_ trivial
      refine Or.inl ?_
      refine guardI hF (fun hF => ?_)
      refine Or.inl ?_
      refine Or.inl ?_
      obtain ⟨z3, hz3, hF⟩ := bindE hF
      refine loopI (Int × (List Int)) (List Int) (fun x => ⟨[(7, .raw false [(.osl 0)]), (8, .dat (.int .i64) x.1)], [(0, .arr 57 (.int .i64) x.2)], 1⟩) (fun z => [(2, ⟨[(7, .raw false [(.osl 0)])], [(0, .arr 57 (.int .i64) z)], 1⟩)]) (loopF (fun go x => f201_l2 go x.1 x.2)) fuelN ((List.length (List.take (Int.toNat (List.length (List.replicate (Int.toNat (IntKind.i64.wrap r1.2)) (0 : Int)) : Int) - Int.toNat (0 : Int)) x_) : Int), (over (List.replicate (Int.toNat (IntKind.i64.wrap r1.2)) (0 : Int)) (0 : Int) (List.take (Int.toNat (List.length (List.replicate (Int.toNat (IntKind.i64.wrap r1.2)) (0 : Int)) : Int) - Int.toNat (0 : Int)) x_))) z3 (And.intro hz3 (And.intro (Exists.intro [] (Exists.intro [] (Exists.intro [] (Exists.intro [] (Exists.intro [(0, some 0)] (And.intro rfl (And.intro rfl (And.intro (And.intro rfl trivial) (And.intro rfl trivial))))))))) (And.intro (fun _ _ h => loopZ h) (And.intro (fun m => curI (fun n => fun l0 z hF => ?_)) ?_))))
      · have hF : f201_l2 (loopF (fun go x => f201_l2 go x.1 x.2) m) n l0 = some z := hF
        unfold f201_l2 at hF
        refine Or.inl ?_
        refine Or.inl ?_
        refine condI hF (fun hF => ?_) (fun hF => ?_)
        · refine Exists.intro (.take 0 (.take 1 (.take 2 (.take 3 (.take 4 (.take 5 (.take 6 (.alt 7 (.take 8 (.take 9 .done)) .done)))))))) (Exists.intro [] (Exists.intro [] (And.intro rfl ?_)))
          refine guardI hF (fun hF => ?_)
          refine guardI hF (fun hF => ?_)
          refine And.intro trivial ?_
          refine Exists.intro ((IntKind.i64.wrap (n + (List.length (List.take (Int.toNat (List.length l0 : Int) - Int.toNat n) (List.drop (Int.toNat (0 : Int)) (List.take (Int.toNat n) l0))) : Int))), (over l0 n (List.take (Int.toNat (List.length l0 : Int) - Int.toNat n) (List.drop (Int.toNat (0 : Int)) (List.take (Int.toNat n) l0))))) (And.intro hF (Exists.intro [] (Exists.intro [] (Exists.intro [] (Exists.intro [] (Exists.intro [(0, some 0)] (And.intro rfl (And.intro rfl (And.intro (And.intro rfl trivial) (And.intro rfl trivial))))))))))
        · have hz := someE hF
          subst hz
          refine Exists.intro [] (Exists.intro [] (Exists.intro [] (Exists.intro [] (Exists.intro [(0, some 0)] (And.intro rfl (And.intro (And.intro rfl trivial) (And.intro rfl trivial)))))))
      · refine And.intro ?_ trivial
        refine Or.inl ?_
        have hy := someE hF
        subst hy
        refine And.intro rfl (Exists.intro [] (Exists.intro [] (Exists.intro [] (Exists.intro [] (Exists.intro [(0, some 0)] (And.intro rfl (And.intro (And.intro rfl trivial) (And.intro rfl trivial))))))))
theorem C201_holds : C201.Holds Tryz.prog 201 := holds_of_vc tab_ok mixed (fn := Tryz.f201) (by kernel_rfl) rfl C201 (fun x y hF => C201_vc x.1 x.2 y hF)
theorem f201_in : ∃ fn, Tryz.prog.funcs[201]? = some fn ∧ fn.body.isSome = true ∧ (fn.name == "runtime.NumGoroutine") = false := ⟨Tryz.f201, by kernel_rfl, by kernel_rfl, by kernel_rfl⟩
end Go.Proofs
namespace Go.Proofs
open Go.AM
-- carousel/tens.New
def f171 (d : List Int) (v : Int) : Option (Int × (List Int) × (List Int)) :=
  bindF (f65 d) fun r1 =>
  bif (!r1) then
    some ((1 : Int), [], [])
  else
    bindF (f61 d) fun r2 =>
    bindF (f117 d) fun r3 =>
    bindF (f201 ([v]) r3) fun r4 =>
    some ((0 : Int), r2, r4)
def C171 : Con where
  X := (List Int) × Int
  Y := Int × (List Int) × (List Int)
  e := 0
  args x := [.dat (.sl (.int .i64)) x.1, .dat (.int .i64) x.2]
  hin x := []
  F x := f171 x.1 x.2
  ret y := [.raw true [(.osl 0), (.osl 1)], .dat (.int .i64) y.1]
  hout y := [(0, .arr 3 (.int .i64) y.2.1), (1, .arr 57 (.int .i64) y.2.2)]
  nout := 2
theorem C171_vc (d : List Int) (v : Int) (y : Int × (List Int) × (List Int)) (hF : f171 d v = some y) : vc Tryz.prog tab Tryz.f171.ntmps 0 (match Tryz.f171.body with | some c => c | none => .skip) (retK tab C171 Tryz.f171.results.toList y) (C171.shIn (d, v)).st := by
  unfold f171 at hF
  refine Or.inl ?_
  refine Or.inl ?_
  refine Or.inl ?_
  obtain ⟨r1, hr1, hF⟩ := bindE hF
  refine Or.inl (And.intro f65_in (callV0 (callI C65 d r1 [] false C65_holds hr1 rfl rfl ?_)))
  refine (And.intro rfl (And.intro (fun h => nomatch h) (And.intro rfl (And.intro rfl (And.intro trivial (And.intro trivial ?_))))))
  refine condI hF (fun hF => ?_) (fun hF => ?_)
  · refine Or.inl ?_
    refine Or.inl ?_
    have hy := someE hF
    subst hy
    refine And.intro rfl (Exists.intro [] (Exists.intro [] (Exists.intro [] (Exists.intro [] (Exists.intro [(0, none), (1, none)] (And.intro rfl (And.intro rfl (And.intro (And.intro rfl trivial) (And.intro rfl (And.intro rfl trivial))))))))))
  · refine Or.inl ?_
    obtain ⟨r2, hr2, hF⟩ := bindE hF
    refine Or.inl (And.intro f61_in (callV0 (callI C61 d r2 [] false C61_holds hr2 rfl rfl ?_)))
    refine (And.intro rfl (And.intro (fun h => nomatch h) (And.intro rfl (And.intro rfl (And.intro trivial (And.intro trivial ?_))))))
    refine Or.inl ?_
    obtain ⟨r3, hr3, hF⟩ := bindE hF
    refine Or.inl (And.intro f117_in (callV0 (callI C117 d r3 [] false C117_holds hr3 rfl rfl ?_)))
    refine (And.intro rfl (And.intro (fun h => nomatch h) (And.intro rfl (And.intro rfl (And.intro trivial (And.intro trivial ?_))))))
    obtain ⟨r4, hr4, hF⟩ := bindE hF
    refine Or.inl (And.intro f201_in (callV0 (callI C201 ([v], r3) r4 [] true C201_holds hr4 rfl rfl ?_)))
    refine (And.intro rfl (And.intro rfl (And.intro (fun _ => rfl) (And.intro rfl (And.intro rfl (And.intro trivial (And.intro trivial ?_)))))))
    refine Or.inl ?_
    have hy := someE hF
    subst hy
    refine And.intro rfl (Exists.intro [] (Exists.intro [] (Exists.intro [] (Exists.intro [] (Exists.intro [(0, some 1), (1, some 3)] (And.intro rfl (And.intro rfl (And.intro (And.intro rfl trivial) (And.intro rfl (And.intro rfl trivial))))))))))
theorem C171_holds : C171.Holds Tryz.prog 171 := holds_of_vc tab_ok mixed (fn := Tryz.f171) (by kernel_rfl) rfl C171 (fun x y hF => C171_vc x.1 x.2 y hF)
theorem f171_in : ∃ fn, Tryz.prog.funcs[171]? = some fn ∧ fn.body.isSome = true ∧ (fn.name == "runtime.NumGoroutine") = false := ⟨Tryz.f171, by kernel_rfl, by kernel_rfl, by kernel_rfl⟩
end Go.Proofs
namespace Go.Proofs
open Go.AM
-- carousel/shape.Strides
def f179_l1 (d : List Int) (go : (Int × Int × (List Int)) → Option (List Int)) (n : Int) (i : Int) (l0 : List Int) : Option (List Int) :=
  bif (decide (i ≥ (0 : Int))) then
    guardF (0 ≤ i ∧ i < (List.length l0 : Int)) <|
    guardF (0 ≤ i ∧ i < (List.length d : Int)) <|
    go ((IntKind.i64.wrap (n * (rd (0 : Int) d i))), (IntKind.i64.wrap (i - (1 : Int))), (List.set l0 (Int.toNat i) n))
  else
    some l0
def f179 (d : List Int) : Option (List Int) :=
  bindF (f65 d) fun r1 =>
  bif (!r1) then
    some ([])
  else
    guardF (0 ≤ (List.length d : Int) ∧ (List.length d : Int) ≤ (List.length d : Int) ∧ Int.toNat (List.length d : Int) * 8 ≤ 140737488355328) <|
    bindF (loopF (fun go x => f179_l1 d go x.1 x.2.1 x.2.2) fuelN ((1 : Int), (IntKind.i64.wrap ((List.length d : Int) - (1 : Int))), (List.replicate (Int.toNat (List.length d : Int)) (0 : Int)))) fun z2 =>
    some z2
def C179 : Con where
  X := List Int
  Y := List Int
  e := 0
  args x := [.dat (.sl (.int .i64)) x]
  hin x := []
  F x := f179 x
  ret y := [.raw false [(.osl 0)]]
  hout y := [(0, .arr 3 (.int .i64) y)]
  nout := 1
theorem C179_vc (d : List Int) (y : List Int) (hF : f179 d = some y) : vc Tryz.prog tab Tryz.f179.ntmps 0 (match Tryz.f179.body with | some c => c | none => .skip) (retK tab C179 Tryz.f179.results.toList y) (C179.shIn d).st := by
  unfold f179 at hF
  refine Or.inl ?_
  refine Or.inl ?_
  refine Or.inl ?_
  obtain ⟨r1, hr1, hF⟩ := bindE hF
  refine Or.inl (And.intro f65_in (callV0 (callI C65 d r1 [] false C65_holds hr1 rfl rfl ?_)))
  refine (And.intro rfl (And.intro (fun h => nomatch h) (And.intro rfl (And.intro rfl (And.intro trivial (And.intro trivial ?_))))))
  refine condI hF (fun hF => ?_) (fun hF => ?_)
  · refine Or.inl ?_
    have hy := someE hF
    subst hy
    refine And.intro rfl (Exists.intro [] (Exists.intro [] (Exists.intro [] (Exists.intro [] (Exists.intro [(0, none)] (And.intro rfl (And.intro (And.intro rfl trivial) (And.intro rfl trivial))))))))
  · refine Or.inl ?_
    refine guardI hF (fun hF => ?_)
    refine Or.inl ?_
    refine Or.inl ?_
    refine Or.inl ?_
    obtain ⟨z2, hz2, hF⟩ := bindE hF
    refine loopI (Int × Int × (List Int)) (List Int) (fun x => ⟨[(0, .dat (.sl (.int .i64)) d), (3, .raw false [(.osl 0)]), (4, .dat (.int .i64) x.1), (5, .dat (.int .i64) x.2.1)], [(0, .arr 3 (.int .i64) x.2.2)], 1⟩) (fun z => [(2, ⟨[(3, .raw false [(.osl 0)])], [(0, .arr 3 (.int .i64) z)], 1⟩)]) (loopF (fun go x => f179_l1 d go x.1 x.2.1 x.2.2)) fuelN ((1 : Int), (IntKind.i64.wrap ((List.length d : Int) - (1 : Int))), (List.replicate (Int.toNat (List.length d : Int)) (0 : Int))) z2 (And.intro hz2 (And.intro (Exists.intro [] (Exists.intro [] (Exists.intro [] (Exists.intro [] (Exists.intro [(0, some 0)] (And.intro rfl (And.intro rfl (And.intro rfl (And.intro rfl (And.intro (And.intro rfl trivial) (And.intro rfl trivial))))))))))) (And.intro (fun _ _ h => loopZ h) (And.intro (fun m => curI (fun n => curI (fun i => fun l0 z hF => ?_))) ?_))))
    · have hF : f179_l1 d (loopF (fun go x => f179_l1 d go x.1 x.2.1 x.2.2) m) n i l0 = some z := hF
      unfold f179_l1 at hF
      refine Or.inl ?_
      refine Or.inl ?_
      refine condI hF (fun hF => ?_) (fun hF => ?_)
      · refine Or.inl ?_
        refine Or.inl ?_
        refine guardI hF (fun hF => ?_)
        refine Or.inl ?_
        refine guardI hF (fun hF => ?_)
        refine Exists.intro ((IntKind.i64.wrap (n * (rd (0 : Int) d i))), (IntKind.i64.wrap (i - (1 : Int))), (List.set l0 (Int.toNat i) n)) (And.intro hF (Exists.intro [] (Exists.intro [] (Exists.intro [] (Exists.intro [] (Exists.intro [(0, some 0)] (And.intro rfl (And.intro rfl (And.intro rfl (And.intro rfl (And.intro (And.intro rfl trivial) (And.intro rfl trivial))))))))))))
      · have hz := someE hF
        subst hz
        refine Exists.intro [] (Exists.intro [] (Exists.intro [] (Exists.intro [] (Exists.intro [(0, some 0)] (And.intro rfl (And.intro (And.intro rfl trivial) (And.intro rfl trivial)))))))
    · refine And.intro ?_ trivial
      refine Or.inl ?_
      have hy := someE hF
      subst hy
      refine And.intro rfl (Exists.intro [] (Exists.intro [] (Exists.intro [] (Exists.intro [] (Exists.intro [(0, some 0)] (And.intro rfl (And.intro (And.intro rfl trivial) (And.intro rfl trivial))))))))
theorem C179_holds : C179.Holds Tryz.prog 179 := holds_of_vc tab_ok mixed (fn := Tryz.f179) (by kernel_rfl) rfl C179 (fun x y hF => C179_vc x y hF)
theorem f179_in : ∃ fn, Tryz.prog.funcs[179]? = some fn ∧ fn.body.isSome = true ∧ (fn.name == "runtime.NumGoroutine") = false := ⟨Tryz.f179, by kernel_rfl, by kernel_rfl, by kernel_rfl⟩
end Go.Proofs
