import Derived.Test.YtlgiakkejlbbfaaGreatBackKnownF5
set_option linter.unusedVariables false
set_option maxRecDepth 100000
set_option maxHeartbeats 8000000
namespace Go.Proofs
open Go.AM
-- carousel/conv.BackKernel
def f105_j4 (g : (List Int) × (List Int)) (a : (List Int) × (List Int)) (step : Int) (wid : Int) : Option Bool :=
  bindF (f33 (g.1, g.2)) fun r15 =>
  bif (!r15) then
    some true
  else
    bindF (f33 (a.1, a.2)) fun r16 =>
    bif (!r16) then
      some true
    else
      bindF (f130 step) fun r17 =>
      bif (!r17) then
        some true
      else
        bindF (f154 wid) fun r18 =>
        some (!r18)
def f105_j5 (g : (List Int) × (List Int)) (a : (List Int) × (List Int)) (step : Int) (wid : Int) : Option Bool :=
  bif ((List.length g.1 : Int) != (2 : Int)) then
    some true
  else
    bif ((List.length a.1 : Int) != (2 : Int)) then
      some true
    else
      guardF (0 ≤ (1 : Int) ∧ (1 : Int) < (List.length a.1 : Int)) <|
      guardF (0 ≤ (1 : Int) ∧ (1 : Int) < (List.length g.1 : Int)) <|
      bindF (f131 (rd (0 : Int) a.1 (1 : Int)) wid step) fun q3_17 =>
      some (q3_17 != (rd (0 : Int) g.1 (1 : Int)))
def f105_j3 (g : (List Int) × (List Int)) (a : (List Int) × (List Int)) (step : Int) (wid : Int) : Option (Sum Unit Int) :=
  bindF (f105_j4 g a step wid) fun z14 =>
  bif z14 then
    some (Sum.inr (1 : Int))
  else
    bindF (f105_j5 g a step wid) fun z19 =>
    bif z19 then
      some (Sum.inr (4 : Int))
    else
      some (Sum.inl ())
def f105_l9 (g : (List Int) × (List Int)) (a : (List Int) × (List Int)) (step : Int) (wid : Int) (v97 : Int) (go : (Int × Int × Int × Int) → Option (Int × Int × Int)) (v114 : Int) (c4_0 : Int) (c4_1 : Int) (c4_2 : Int) : Option (Int × Int × Int) :=
  bif (decide (v114 < (rd (0 : Int) g.1 (1 : Int)))) then
    guardF (0 ≤ (IntKind.i64.wrap ((IntKind.i64.wrap ((IntKind.i64.wrap (Int.tdiv v97 (IntKind.i64.wrap ((rd (0 : Int) a.1 (0 : Int)) * wid)))) * (rd (0 : Int) g.1 (1 : Int)))) + v114)) ∧ (IntKind.i64.wrap ((IntKind.i64.wrap ((IntKind.i64.wrap (Int.tdiv v97 (IntKind.i64.wrap ((rd (0 : Int) a.1 (0 : Int)) * wid)))) * (rd (0 : Int) g.1 (1 : Int)))) + v114)) < (List.length g.2 : Int)) <|
    guardF (0 ≤ (IntKind.i64.wrap ((IntKind.i64.wrap ((IntKind.i64.wrap ((Int.tmod (IntKind.i64.wrap (Int.tdiv v97 wid)) (rd (0 : Int) a.1 (0 : Int))) * (rd (0 : Int) a.1 (1 : Int)))) + (IntKind.i64.wrap (v114 * step)))) + (Int.tmod v97 wid))) ∧ (IntKind.i64.wrap ((IntKind.i64.wrap ((IntKind.i64.wrap ((Int.tmod (IntKind.i64.wrap (Int.tdiv v97 wid)) (rd (0 : Int) a.1 (0 : Int))) * (rd (0 : Int) a.1 (1 : Int)))) + (IntKind.i64.wrap (v114 * step)))) + (Int.tmod v97 wid))) < (List.length a.2 : Int)) <|
    bindF (f133 c4_0 c4_1 c4_2 (rd (0 : Int) g.2 (IntKind.i64.wrap ((IntKind.i64.wrap ((IntKind.i64.wrap (Int.tdiv v97 (IntKind.i64.wrap ((rd (0 : Int) a.1 (0 : Int)) * wid)))) * (rd (0 : Int) g.1 (1 : Int)))) + v114))) (rd (0 : Int) a.2 (IntKind.i64.wrap ((IntKind.i64.wrap ((IntKind.i64.wrap ((Int.tmod (IntKind.i64.wrap (Int.tdiv v97 wid)) (rd (0 : Int) a.1 (0 : Int))) * (rd (0 : Int) a.1 (1 : Int)))) + (IntKind.i64.wrap (v114 * step)))) + (Int.tmod v97 wid))))) fun q17_22 =>
    go ((IntKind.i64.wrap (v114 + (1 : Int))), q17_22.1, q17_22.2.1, q17_22.2.2)
  else
    some (c4_0, c4_1, c4_2)
def f105_l8 (g : (List Int) × (List Int)) (a : (List Int) × (List Int)) (step : Int) (wid : Int) (q5_14 : Int × (List Int) × (List Int)) (go : (Int × (List Int)) → Option (List Int)) (v97 : Int) (l5 : List Int) : Option (List Int) :=
  bif (decide (v97 < (List.length q5_14.2.2 : Int))) then
    guardF ((IntKind.i64.wrap ((rd (0 : Int) a.1 (0 : Int)) * wid)) ≠ 0) <|
    guardF (wid ≠ 0) <|
    guardF ((rd (0 : Int) a.1 (0 : Int)) ≠ 0) <|
    guardF (wid ≠ 0) <|
    bindF (loopF (fun go x => f105_l9 g a step wid v97 go x.1 x.2.1 x.2.2.1 x.2.2.2) fuelN ((0 : Int), (0 : Int), (0 : Int), (0 : Int))) fun z23 =>
    bindF (f134 z23.1 z23.2.1 z23.2.2 (32 : Int)) fun q19_3 =>
    guardF (0 ≤ v97 ∧ v97 < (List.length l5 : Int)) <|
    go ((IntKind.i64.wrap (v97 + (1 : Int))), (List.set l5 (Int.toNat v97) q19_3.1))
  else
    some l5
def f105 (g : (List Int) × (List Int)) (a : (List Int) × (List Int)) (step : Int) (wid : Int) : Option (Int × (List Int) × (List Int)) :=
  bindF (f105_j3 g a step wid) fun z10 =>
  sumF z10 (fun z10a =>
    guardF (0 ≤ (0 : Int) ∧ (0 : Int) < (List.length a.1 : Int)) <|
    guardF (0 ≤ (1 : Int) ∧ (1 : Int) < (List.length a.1 : Int)) <|
    guardF (0 ≤ (1 : Int) ∧ (1 : Int) < (List.length g.1 : Int)) <|
    guardF (0 ≤ (0 : Int) ∧ (0 : Int) < (List.length g.1 : Int)) <|
    bindF (f132 ([(rd (0 : Int) g.1 (0 : Int)), (rd (0 : Int) a.1 (0 : Int)), wid])) fun q5_14 =>
    bif (q5_14.1 != (0 : Int)) then
      some (q5_14.1, [], [])
    else
      bindF (loopF (fun go x => f105_l8 g a step wid q5_14 go x.1 x.2) fuelN ((0 : Int), q5_14.2.2)) fun z22 =>
      some ((0 : Int), q5_14.2.1, z22)) (fun z10b =>
    some (z10b, [], []))
def C105 : Con where
  X := ((List Int) × (List Int)) × ((List Int) × (List Int)) × Int × Int
  Y := Int × (List Int) × (List Int)
  e := 0
  args x := [.dat (.p (.sl (.int .i64)) (.sl (.int .i64))) x.1, .dat (.p (.sl (.int .i64)) (.sl (.int .i64))) x.2.1, .dat (.int .i64) x.2.2.1, .dat (.int .i64) x.2.2.2]
  hin x := []
  F x := f105 x.1 x.2.1 x.2.2.1 x.2.2.2
  ret y := [.raw true [(.osl 0), (.osl 1)], .dat (.int .i64) y.1]
  hout y := [(0, .arr 3 (.int .i64) y.2.1), (1, .arr 33 (.int .i64) y.2.2)]
  nout := 2
theorem C105_vc (g : (List Int) × (List Int)) (a : (List Int) × (List Int)) (step : Int) (wid : Int) (y : Int × (List Int) × (List Int)) (hF : f105 g a step wid = some y) : vc Tryz.prog tab Tryz.f105.ntmps 0 (match Tryz.f105.body with | some c => c | none => .skip) (retK tab C105 Tryz.f105.results.toList y) (C105.shIn (g, a, step, wid)).st := by
  unfold f105 at hF
  refine Or.inl ?_
  obtain ⟨z10, hz10, hF⟩ := bindE hF
  refine Or.inr ⟨Sum.elim (fun z10a => [(0, ⟨[(2, .dat (.int .i64) step), (3, .dat (.int .i64) wid), (4, .raw false [(.ptr 0 0)]), (5, .raw false [(.ptr 1 0)]), (8, .raw false [(.ptr 2 0)])], [(0, .cells [(.d (.sl (.int .i64)) g.1), (.d (.sl (.int .i64)) g.2)]), (1, .cells [(.d (.sl (.int .i64)) a.1), (.d (.sl (.int .i64)) a.2)]), (2, .cells [(.c (.slice none 0 0)), (.c (.slice none 0 0))])], 3⟩)]) (fun z10b => [(1, ⟨[(8, .raw false [(.ptr 0 0)]), (9, .dat (.int .i64) z10b)], [(0, .cells [(.c (.slice none 0 0)), (.c (.slice none 0 0))])], 1⟩)]) z10, ?_, ?_⟩
  · have hF := hz10
    clear hz10
    unfold f105_j3 at hF
    obtain ⟨z14, hz14, hF⟩ := bindE hF
    refine Or.inr ⟨[(0, ⟨[(2, .dat (.int .i64) step), (3, .dat (.int .i64) wid), (4, .raw false [(.ptr 0 0)]), (5, .raw false [(.ptr 1 0)]), (8, .raw false [(.ptr 2 0)]), (21, .dat .bool z14)], [(0, .cells [(.d (.sl (.int .i64)) g.1), (.d (.sl (.int .i64)) g.2)]), (1, .cells [(.d (.sl (.int .i64)) a.1), (.d (.sl (.int .i64)) a.2)]), (2, .cells [(.c (.slice none 0 0)), (.c (.slice none 0 0))])], 3⟩)], ?_, ?_⟩
    · have hF := hz14
      clear hz14
      unfold f105_j4 at hF
      obtain ⟨r15, hr15, hF⟩ := bindE hF
      refine Or.inl (And.intro f33_in (callV0 (callI C33 (g.1, g.2) r15 [] false C33_holds hr15 rfl rfl ?_)))
      refine (And.intro rfl (And.intro rfl (And.intro (fun h => nomatch h) (And.intro rfl (And.intro rfl (And.intro trivial (And.intro trivial ?_)))))))
      refine condN hF (fun hF => ?_) (fun hF => ?_)
      · refine gdYF ?_
        obtain ⟨r16, hr16, hF⟩ := bindE hF
        refine Or.inl (And.intro f33_in (callV0 (callI C33 (a.1, a.2) r16 [] false C33_holds hr16 rfl rfl ?_)))
        refine (And.intro rfl (And.intro rfl (And.intro (fun h => nomatch h) (And.intro rfl (And.intro rfl (And.intro trivial (And.intro trivial ?_)))))))
        refine gdYF ?_
        refine condF ?_
        refine condN hF (fun hF => ?_) (fun hF => ?_)
        · refine gdYF ?_
          obtain ⟨r17, hr17, hF⟩ := bindE hF
          refine Or.inl (And.intro f130_in (callV0 (callI C130 step r17 [] false C130_holds hr17 rfl rfl ?_)))
          refine (And.intro rfl (And.intro (fun h => nomatch h) (And.intro rfl (And.intro rfl (And.intro trivial (And.intro trivial ?_))))))
          refine gdYF ?_
          refine condF ?_
          refine condN hF (fun hF => ?_) (fun hF => ?_)
          · refine gdYF ?_
            obtain ⟨r18, hr18, hF⟩ := bindE hF
            refine Or.inl (And.intro f154_in (callV0 (callI C154 wid r18 [] false C154_holds hr18 rfl rfl ?_)))
            refine (And.intro rfl (And.intro (fun h => nomatch h) (And.intro rfl (And.intro rfl (And.intro trivial (And.intro trivial ?_))))))
            refine gdYF ?_
            refine condF ?_
            have hz := someE hF
            subst hz
            refine Exists.intro [] (Exists.intro [] (Exists.intro [] (Exists.intro [] (Exists.intro [(0, some 0), (1, some 1), (2, some 2)] (And.intro rfl (And.intro rfl (And.intro rfl (And.intro rfl (And.intro (And.intro rfl (And.intro rfl (And.intro rfl trivial))) (And.intro rfl (And.intro rfl (And.intro rfl trivial))))))))))))
          · refine gdNF ?_
            refine gdNF ?_
            refine condT ?_
            have hz := someE hF
            subst hz
            refine Exists.intro [] (Exists.intro [] (Exists.intro [] (Exists.intro [] (Exists.intro [(0, some 0), (1, some 1), (2, some 2)] (And.intro rfl (And.intro rfl (And.intro rfl (And.intro rfl (And.intro (And.intro rfl (And.intro rfl (And.intro rfl trivial))) (And.intro rfl (And.intro rfl (And.intro rfl trivial))))))))))))
        · refine gdNF ?_
          refine gdNF ?_
          refine condT ?_
          refine gdNF ?_
          refine gdNF ?_
          refine gdNF ?_
          refine condT ?_
          have hz := someE hF
          subst hz
          refine Exists.intro [] (Exists.intro [] (Exists.intro [] (Exists.intro [] (Exists.intro [(0, some 0), (1, some 1), (2, some 2)] (And.intro rfl (And.intro rfl (And.intro rfl (And.intro rfl (And.intro (And.intro rfl (And.intro rfl (And.intro rfl trivial))) (And.intro rfl (And.intro rfl (And.intro rfl trivial))))))))))))
      · refine gdNF ?_
        refine gdNF ?_
        refine condT ?_
        refine gdNF ?_
        refine gdNF ?_
        refine gdNF ?_
        refine condT ?_
        refine gdNF ?_
        refine gdNF ?_
        refine gdNF ?_
        refine condT ?_
        have hz := someE hF
        subst hz
        refine Exists.intro [] (Exists.intro [] (Exists.intro [] (Exists.intro [] (Exists.intro [(0, some 0), (1, some 1), (2, some 2)] (And.intro rfl (And.intro rfl (And.intro rfl (And.intro rfl (And.intro (And.intro rfl (And.intro rfl (And.intro rfl trivial))) (And.intro rfl (And.intro rfl (And.intro rfl trivial))))))))))))
    · refine And.intro ?_ trivial
      refine condI hF (fun hF => ?_) (fun hF => ?_)
      · refine Or.inl ?_
        refine Or.inl ?_
        have hz := someE hF
        subst hz
        refine Exists.intro [] (Exists.intro [] (Exists.intro [] (Exists.intro [] (Exists.intro [(0, some 2)] (And.intro rfl (And.intro rfl (And.intro (And.intro rfl trivial) (And.intro rfl trivial))))))))
      · obtain ⟨z19, hz19, hF⟩ := bindE hF
        refine Or.inr ⟨[(0, ⟨[(2, .dat (.int .i64) step), (3, .dat (.int .i64) wid), (4, .raw false [(.ptr 0 0)]), (5, .raw false [(.ptr 1 0)]), (8, .raw false [(.ptr 2 0)]), (41, .dat .bool z19)], [(0, .cells [(.d (.sl (.int .i64)) g.1), (.d (.sl (.int .i64)) g.2)]), (1, .cells [(.d (.sl (.int .i64)) a.1), (.d (.sl (.int .i64)) a.2)]), (2, .cells [(.c (.slice none 0 0)), (.c (.slice none 0 0))])], 3⟩)], ?_, ?_⟩
        · have hF := hz19
          clear hz19
          unfold f105_j5 at hF
          refine Exists.intro (.take 0 (.take 1 (.take 2 (.take 3 (.take 4 (.take 5 (.take 6 (.take 7 (.take 8 (.take 9 (.take 10 (.take 11 (.take 12 (.take 13 (.take 14 (.take 15 (.take 16 (.take 18 (.take 19 (.take 20 (.take 21 (.alt 17 (.take 22 (.take 23 (.take 24 .done))) .done)))))))))))))))))))))) (Exists.intro [] (Exists.intro [] (And.intro rfl ?_)))
          refine condN hF (fun hF => ?_) (fun hF => ?_)
          · refine gdYF ?_
            refine gdYF ?_
            refine gdYF ?_
            refine condF ?_
            refine condN hF (fun hF => ?_) (fun hF => ?_)
            · refine gdYF ?_
              refine gdYF ?_
              refine guardI hF (fun hF => ?_)
              refine gdYF ?_
              refine gdYF ?_
              refine gdYF ?_
              refine gdYF ?_
              refine gdYF ?_
              refine gdYF ?_
              refine guardI hF (fun hF => ?_)
              refine gdYF ?_
              refine And.intro trivial ?_
              refine gdYF ?_
              obtain ⟨q3_17, hq3_17, hF⟩ := bindE hF
              refine Or.inl (And.intro f131_in (callV0 (callI C131 ((rd (0 : Int) a.1 (1 : Int)), wid, step) q3_17 [] false C131_holds hq3_17 rfl rfl ?_)))
              refine (And.intro rfl (And.intro rfl (And.intro rfl (And.intro (fun h => nomatch h) (And.intro rfl (And.intro rfl (And.intro trivial (And.intro trivial ?_))))))))
              refine gdYF ?_
              refine condF ?_
              have hz := someE hF
              subst hz
              refine Exists.intro [] (Exists.intro [] (Exists.intro [] (Exists.intro [] (Exists.intro [(0, some 0), (1, some 1), (2, some 2)] (And.intro rfl (And.intro rfl (And.intro rfl (And.intro rfl (And.intro (And.intro rfl (And.intro rfl (And.intro rfl trivial))) (And.intro rfl (And.intro rfl (And.intro rfl trivial))))))))))))
            · refine gdNF ?_
              refine gdNF ?_
              refine gdNF ?_
              refine gdNF ?_
              refine gdNF ?_
              refine gdNF ?_
              refine gdNF ?_
              refine gdNF ?_
              refine gdNF ?_
              refine And.intro trivial ?_
              refine gdNF ?_
              refine gdNF ?_
              refine condT ?_
              have hz := someE hF
              subst hz
              refine Exists.intro [] (Exists.intro [] (Exists.intro [] (Exists.intro [] (Exists.intro [(0, some 0), (1, some 1), (2, some 2)] (And.intro rfl (And.intro rfl (And.intro rfl (And.intro rfl (And.intro (And.intro rfl (And.intro rfl (And.intro rfl trivial))) (And.intro rfl (And.intro rfl (And.intro rfl trivial))))))))))))
          · refine gdNF ?_
            refine gdNF ?_
            refine gdNF ?_
            refine condT ?_
            refine gdNF ?_
            refine gdNF ?_
            refine gdNF ?_
            refine gdNF ?_
            refine gdNF ?_
            refine gdNF ?_
            refine gdNF ?_
            refine gdNF ?_
            refine gdNF ?_
            refine gdNF ?_
            refine And.intro trivial ?_
            refine gdNF ?_
            refine gdNF ?_
            refine condT ?_
            have hz := someE hF
            subst hz
            refine Exists.intro [] (Exists.intro [] (Exists.intro [] (Exists.intro [] (Exists.intro [(0, some 0), (1, some 1), (2, some 2)] (And.intro rfl (And.intro rfl (And.intro rfl (And.intro rfl (And.intro (And.intro rfl (And.intro rfl (And.intro rfl trivial))) (And.intro rfl (And.intro rfl (And.intro rfl trivial))))))))))))
        · refine And.intro ?_ trivial
          refine condI hF (fun hF => ?_) (fun hF => ?_)
          · refine Or.inl ?_
            refine Or.inl ?_
            have hz := someE hF
            subst hz
            refine Exists.intro [] (Exists.intro [] (Exists.intro [] (Exists.intro [] (Exists.intro [(0, some 2)] (And.intro rfl (And.intro rfl (And.intro (And.intro rfl trivial) (And.intro rfl trivial))))))))
          · have hz := someE hF
            subst hz
            refine Exists.intro [] (Exists.intro [] (Exists.intro [] (Exists.intro [] (Exists.intro [(0, some 0), (1, some 1), (2, some 2)] (And.intro rfl (And.intro rfl (And.intro rfl (And.intro (And.intro rfl (And.intro rfl (And.intro rfl trivial))) (And.intro rfl (And.intro rfl (And.intro rfl trivial)))))))))))
  · rcases z10 with z10a | z10b
    · dsimp only [sumF] at hF
      refine And.intro ?_ trivial
      refine Or.inl ?_
      refine Exists.intro (.take 0 (.take 1 (.take 2 (.take 3 (.take 4 (.take 5 (.take 6 (.take 7 (.take 8 (.take 9 (.take 10 (.take 11 (.take 12 (.take 13 (.take 14 .done))))))))))))))) (Exists.intro [] (Exists.intro [] (And.intro rfl ?_)))
      refine guardI hF (fun hF => ?_)
      refine guardI hF (fun hF => ?_)
      refine guardI hF (fun hF => ?_)
      refine Or.inl ?_
      refine guardI hF (fun hF => ?_)
      refine Or.inl ?_
      obtain ⟨q5_14, hq5_14, hF⟩ := bindE hF
      refine Or.inl (And.intro f132_in (callV0 (callI C132 [(rd (0 : Int) g.1 (0 : Int)), (rd (0 : Int) a.1 (0 : Int)), wid] q5_14 [] true C132_holds hq5_14 rfl rfl ?_)))
      refine (And.intro rfl (And.intro (fun _ => rfl) (And.intro rfl (And.intro rfl (And.intro trivial (And.intro trivial ?_))))))
      refine Or.inl ?_
      refine Or.inl ?_
      refine Or.inl ?_
      refine condI hF (fun hF => ?_) (fun hF => ?_)
      · refine Or.inl ?_
        refine Or.inl ?_
        have hy := someE hF
        subst hy
        refine And.intro rfl (Exists.intro [] (Exists.intro [] (Exists.intro [] (Exists.intro [] (Exists.intro [(0, none), (1, none)] (And.intro rfl (And.intro rfl (And.intro (And.intro rfl trivial) (And.intro rfl (And.intro rfl trivial))))))))))
      · refine Or.inl ?_
        refine Or.inl ?_
        obtain ⟨z22, hz22, hF⟩ := bindE hF
        refine loopI (Int × (List Int)) (List Int) (fun x => ⟨[(2, .dat (.int .i64) step), (3, .dat (.int .i64) wid), (4, .raw false [(.ptr 0 0)]), (5, .raw false [(.ptr 1 0)]), (8, .raw false [(.ptr 2 0)]), (10, .dat (.int .i64) (rd (0 : Int) a.1 (0 : Int))), (11, .dat (.int .i64) (rd (0 : Int) a.1 (1 : Int))), (12, .dat (.int .i64) (rd (0 : Int) g.1 (1 : Int))), (13, .raw false [(.ptr 3 0)]), (96, .dat (.int .i64) (List.length q5_14.2.2 : Int)), (97, .dat (.int .i64) x.1)], [(0, .cells [(.d (.sl (.int .i64)) g.1), (.d (.sl (.int .i64)) g.2)]), (1, .cells [(.d (.sl (.int .i64)) a.1), (.d (.sl (.int .i64)) a.2)]), (2, .cells [(.c (.slice none 0 0)), (.c (.slice none 0 0))]), (3, .cells [(.osl 4), (.osl 5)]), (4, .arr 3 (.int .i64) q5_14.2.1), (5, .arr 33 (.int .i64) x.2)], 6⟩) (fun z => [(3, ⟨[(8, .raw false [(.ptr 0 0)]), (13, .raw false [(.ptr 1 0)])], [(0, .cells [(.c (.slice none 0 0)), (.c (.slice none 0 0))]), (1, .cells [(.osl 2), (.osl 3)]), (2, .arr 3 (.int .i64) q5_14.2.1), (3, .arr 33 (.int .i64) z)], 4⟩)]) (loopF (fun go x => f105_l8 g a step wid q5_14 go x.1 x.2)) fuelN ((0 : Int), q5_14.2.2) z22 (And.intro hz22 (And.intro (Exists.intro [] (Exists.intro [] (Exists.intro [] (Exists.intro [] (Exists.intro [(0, some 0), (1, some 1), (2, some 2), (3, some 6), (4, some 4), (5, some 5)] (And.intro rfl (And.intro rfl (And.intro rfl (And.intro rfl (And.intro rfl (And.intro rfl (And.intro rfl (And.intro rfl (And.intro (And.intro rfl (And.intro rfl (And.intro rfl (And.intro rfl trivial)))) (And.intro rfl (And.intro rfl (And.intro rfl (And.intro rfl (And.intro rfl (And.intro rfl trivial)))))))))))))))))))) (And.intro (fun _ _ h => loopZ h) (And.intro (fun m => curI (fun v97 => fun l5 z hF => ?_)) ?_))))
        · have hF : f105_l8 g a step wid q5_14 (loopF (fun go x => f105_l8 g a step wid q5_14 go x.1 x.2) m) v97 l5 = some z := hF
          unfold f105_l8 at hF
          refine Or.inl ?_
          refine Or.inl ?_
          refine condI hF (fun hF => ?_) (fun hF => ?_)
          · refine Or.inl ?_
            refine Or.inl ?_
            refine Or.inl ?_
            refine Exists.intro (.take 0 (.take 1 (.take 2 (.take 3 (.take 4 (.take 5 (.take 6 (.take 7 (.take 8 (.take 9 (.take 10 (.take 11 (.take 12 (.take 13 (.take 14 (.take 15 .done)))))))))))))))) (Exists.intro [] (Exists.intro [] (And.intro rfl ?_)))
            refine guardI hF (fun hF => ?_)
            refine guardI hF (fun hF => ?_)
            refine guardI hF (fun hF => ?_)
            refine guardI hF (fun hF => ?_)
            refine Or.inl ?_
            refine Or.inl ?_
            refine Or.inl ?_
            obtain ⟨z23, hz23, hF⟩ := bindE hF
            refine loopI (Int × Int × Int × Int) (Int × Int × Int) (fun x => ⟨[(2, .dat (.int .i64) step), (3, .dat (.int .i64) wid), (4, .raw false [(.ptr 0 0)]), (5, .raw false [(.ptr 1 0)]), (8, .raw false [(.ptr 2 0)]), (10, .dat (.int .i64) (rd (0 : Int) a.1 (0 : Int))), (11, .dat (.int .i64) (rd (0 : Int) a.1 (1 : Int))), (12, .dat (.int .i64) (rd (0 : Int) g.1 (1 : Int))), (13, .raw false [(.ptr 3 0)]), (15, .dat (.int .i64) v97), (16, .dat (.int .i64) (IntKind.i64.wrap (Int.tdiv v97 (IntKind.i64.wrap ((rd (0 : Int) a.1 (0 : Int)) * wid))))), (17, .dat (.int .i64) (Int.tmod (IntKind.i64.wrap (Int.tdiv v97 wid)) (rd (0 : Int) a.1 (0 : Int)))), (18, .dat (.int .i64) (Int.tmod v97 wid)), (19, .raw false [(.ptr 4 0)]), (96, .dat (.int .i64) (List.length q5_14.2.2 : Int)), (97, .dat (.int .i64) v97), (113, .dat (.int .i64) (rd (0 : Int) g.1 (1 : Int))), (114, .dat (.int .i64) x.1)], [(0, .cells [(.d (.sl (.int .i64)) g.1), (.d (.sl (.int .i64)) g.2)]), (1, .cells [(.d (.sl (.int .i64)) a.1), (.d (.sl (.int .i64)) a.2)]), (2, .cells [(.c (.slice none 0 0)), (.c (.slice none 0 0))]), (3, .cells [(.osl 5), (.osl 6)]), (4, .cells [(.d (.int .i64) x.2.1), (.d (.int .i64) x.2.2.1), (.d (.int .u64) x.2.2.2)]), (5, .arr 3 (.int .i64) q5_14.2.1), (6, .arr 33 (.int .i64) l5)], 7⟩) (fun z => [(5, ⟨[(2, .dat (.int .i64) step), (3, .dat (.int .i64) wid), (4, .raw false [(.ptr 0 0)]), (5, .raw false [(.ptr 1 0)]), (8, .raw false [(.ptr 2 0)]), (10, .dat (.int .i64) (rd (0 : Int) a.1 (0 : Int))), (11, .dat (.int .i64) (rd (0 : Int) a.1 (1 : Int))), (12, .dat (.int .i64) (rd (0 : Int) g.1 (1 : Int))), (13, .raw false [(.ptr 3 0)]), (15, .dat (.int .i64) v97), (19, .raw false [(.ptr 4 0)]), (96, .dat (.int .i64) (List.length q5_14.2.2 : Int)), (97, .dat (.int .i64) v97)], [(0, .cells [(.d (.sl (.int .i64)) g.1), (.d (.sl (.int .i64)) g.2)]), (1, .cells [(.d (.sl (.int .i64)) a.1), (.d (.sl (.int .i64)) a.2)]), (2, .cells [(.c (.slice none 0 0)), (.c (.slice none 0 0))]), (3, .cells [(.osl 5), (.osl 6)]), (4, .cells [(.d (.int .i64) z.1), (.d (.int .i64) z.2.1), (.d (.int .u64) z.2.2)]), (5, .arr 3 (.int .i64) q5_14.2.1), (6, .arr 33 (.int .i64) l5)], 7⟩)]) (loopF (fun go x => f105_l9 g a step wid v97 go x.1 x.2.1 x.2.2.1 x.2.2.2)) fuelN ((0 : Int), (0 : Int), (0 : Int), (0 : Int)) z23 (And.intro hz23 (And.intro (Exists.intro [] (Exists.intro [] (Exists.intro [] (Exists.intro [] (Exists.intro [(0, some 0), (1, some 1), (2, some 2), (3, some 3), (4, some 6), (5, some 4), (6, some 5)] (And.intro rfl (And.intro rfl (And.intro rfl (And.intro rfl (And.intro rfl (And.intro rfl (And.intro rfl (And.intro rfl (And.intro rfl (And.intro rfl (And.intro rfl (And.intro rfl (And.intro rfl (And.intro rfl (And.intro (And.intro rfl (And.intro rfl (And.intro rfl (And.intro rfl (And.intro rfl trivial))))) (And.intro rfl (And.intro rfl (And.intro rfl (And.intro rfl (And.intro rfl (And.intro rfl (And.intro rfl trivial))))))))))))))))))))))))))) (And.intro (fun _ _ h => loopZ h) (And.intro (fun m => curI (fun v114 => curI (fun c4_0 => curI (fun c4_1 => fun c4_2 z hF => ?_)))) ?_))))
            · have hF : f105_l9 g a step wid v97 (loopF (fun go x => f105_l9 g a step wid v97 go x.1 x.2.1 x.2.2.1 x.2.2.2) m) v114 c4_0 c4_1 c4_2 = some z := hF
              unfold f105_l9 at hF
              refine Or.inl ?_
              refine Or.inl ?_
              refine condI hF (fun hF => ?_) (fun hF => ?_)
              · refine Or.inl ?_
                refine Or.inl ?_
                refine Exists.intro (.take 0 (.take 1 (.take 2 (.take 3 (.take 4 (.take 5 (.take 6 (.take 7 (.take 8 (.take 9 (.take 10 (.take 11 (.take 12 (.take 13 (.take 14 (.take 15 (.take 16 (.take 17 (.take 18 (.take 19 (.take 20 (.take 21 (.alt 22 .done .done))))))))))))))))))))))) (Exists.intro [] (Exists.intro [] (And.intro rfl ?_)))
                refine guardI hF (fun hF => ?_)
                refine guardI hF (fun hF => ?_)
                refine And.intro trivial ?_
                obtain ⟨q17_22, hq17_22, hF⟩ := bindE hF
                refine Or.inl (And.intro f133_in (callV0 (callI C133 (c4_0, c4_1, c4_2, (rd (0 : Int) g.2 (IntKind.i64.wrap ((IntKind.i64.wrap ((IntKind.i64.wrap (Int.tdiv v97 (IntKind.i64.wrap ((rd (0 : Int) a.1 (0 : Int)) * wid)))) * (rd (0 : Int) g.1 (1 : Int)))) + v114))), (rd (0 : Int) a.2 (IntKind.i64.wrap ((IntKind.i64.wrap ((IntKind.i64.wrap ((Int.tmod (IntKind.i64.wrap (Int.tdiv v97 wid)) (rd (0 : Int) a.1 (0 : Int))) * (rd (0 : Int) a.1 (1 : Int)))) + (IntKind.i64.wrap (v114 * step)))) + (Int.tmod v97 wid))))) q17_22 [(0, some 4)] false C133_holds hq17_22 rfl rfl ?_)))
                refine (And.intro rfl (And.intro rfl (And.intro (fun h => nomatch h) (And.intro rfl (And.intro rfl (And.intro (And.intro rfl trivial) (And.intro (And.intro rfl trivial) ?_)))))))
                refine Exists.intro ((IntKind.i64.wrap (v114 + (1 : Int))), q17_22.1, q17_22.2.1, q17_22.2.2) (And.intro hF (Exists.intro [] (Exists.intro [] (Exists.intro [] (Exists.intro [] (Exists.intro [(0, some 0), (1, some 1), (2, some 2), (3, some 3), (4, some 4), (5, some 5), (6, some 6)] (And.intro rfl (And.intro rfl (And.intro rfl (And.intro rfl (And.intro rfl (And.intro rfl (And.intro rfl (And.intro rfl (And.intro rfl (And.intro rfl (And.intro rfl (And.intro rfl (And.intro rfl (And.intro rfl (And.intro (And.intro rfl (And.intro rfl (And.intro rfl (And.intro rfl (And.intro rfl trivial))))) (And.intro rfl (And.intro rfl (And.intro rfl (And.intro rfl (And.intro rfl (And.intro rfl (And.intro rfl trivial))))))))))))))))))))))))))))
              · have hz := someE hF
                subst hz
                refine Exists.intro [] (Exists.intro [] (Exists.intro [] (Exists.intro [] (Exists.intro [(0, some 0), (1, some 1), (2, some 2), (3, some 3), (4, some 4), (5, some 5), (6, some 6)] (And.intro rfl (And.intro rfl (And.intro rfl (And.intro rfl (And.intro rfl (And.intro rfl (And.intro rfl (And.intro rfl (And.intro rfl (And.intro (And.intro rfl (And.intro rfl (And.intro rfl (And.intro rfl (And.intro rfl trivial))))) (And.intro rfl (And.intro rfl (And.intro rfl (And.intro rfl (And.intro rfl (And.intro rfl (And.intro rfl trivial)))))))))))))))))))))
            · refine And.intro ?_ trivial
              refine Exists.intro (.take 0 (.take 1 (.take 2 (.alt 3 (.take 4 (.alt 5 .done .done)) .done)))) (Exists.intro [] (Exists.intro [] (And.intro rfl ?_)))
              refine And.intro trivial ?_
              obtain ⟨q19_3, hq19_3, hF⟩ := bindE hF
              refine Or.inl (And.intro f134_in (callV0 (callI C134 (z23.1, z23.2.1, z23.2.2, (32 : Int)) q19_3 [(0, some 4)] false C134_holds hq19_3 rfl rfl ?_)))
              refine (And.intro rfl (And.intro (fun h => nomatch h) (And.intro rfl (And.intro rfl (And.intro (And.intro rfl trivial) (And.intro (And.intro rfl trivial) ?_))))))
              refine guardI hF (fun hF => ?_)
              refine And.intro trivial ?_
              refine Or.inl ?_
              refine Exists.intro ((IntKind.i64.wrap (v97 + (1 : Int))), (List.set l5 (Int.toNat v97) q19_3.1)) (And.intro hF (Exists.intro [] (Exists.intro [] (Exists.intro [] (Exists.intro [] (Exists.intro [(0, some 0), (1, some 1), (2, some 2), (3, some 3), (4, some 5), (5, some 6)] (And.intro rfl (And.intro rfl (And.intro rfl (And.intro rfl (And.intro rfl (And.intro rfl (And.intro rfl (And.intro rfl (And.intro (And.intro rfl (And.intro rfl (And.intro rfl (And.intro rfl trivial)))) (And.intro rfl (And.intro rfl (And.intro rfl (And.intro rfl (And.intro rfl (And.intro rfl trivial)))))))))))))))))))))
          · have hz := someE hF
            subst hz
            refine Exists.intro [] (Exists.intro [] (Exists.intro [] (Exists.intro [] (Exists.intro [(0, some 2), (1, some 3), (2, some 4), (3, some 5)] (And.intro rfl (And.intro (And.intro rfl (And.intro rfl trivial)) (And.intro rfl (And.intro rfl (And.intro rfl (And.intro rfl trivial))))))))))
        · refine And.intro ?_ trivial
          refine Or.inl ?_
          refine Or.inl ?_
          have hy := someE hF
          subst hy
          refine And.intro rfl (Exists.intro [] (Exists.intro [] (Exists.intro [] (Exists.intro [] (Exists.intro [(0, some 2), (1, some 3)] (And.intro rfl (And.intro rfl (And.intro (And.intro rfl trivial) (And.intro rfl (And.intro rfl trivial))))))))))
    · dsimp only [sumF] at hF
      refine And.intro ?_ trivial
      have hy := someE hF
      subst hy
      refine And.intro rfl (Exists.intro [] (Exists.intro [] (Exists.intro [] (Exists.intro [] (Exists.intro [(0, none), (1, none)] (And.intro rfl (And.intro rfl (And.intro (And.intro rfl trivial) (And.intro rfl (And.intro rfl trivial))))))))))
theorem C105_holds : C105.Holds Tryz.prog 105 := holds_of_vc tab_ok mixed (fn := Tryz.f105) (by kernel_rfl) rfl C105 (fun x y hF => C105_vc x.1 x.2.1 x.2.2.1 x.2.2.2 y hF)
theorem f105_in : ∃ fn, Tryz.prog.funcs[105]? = some fn ∧ fn.body.isSome = true ∧ (fn.name == "runtime.NumGoroutine") = false := ⟨Tryz.f105, by kernel_rfl, by kernel_rfl, by kernel_rfl⟩
end Go.Proofs
namespace Go.Proofs
open Go.AM
-- carousel/back.forB
def f46 (n : Int × Int × Int × Int × (List Int) × (List Int)) (a : (List Int) × (List Int)) (b : (List Int) × (List Int)) (g : (List Int) × (List Int)) : Option (Int × (List Int) × (List Int)) :=
  bif (n.1 == (2 : Int)) then
    bindF (f96 (g.1, g.2) b.1) fun q13_12 =>
    some (q13_12.1, q13_12.2.1, q13_12.2.2)
  else
    bif (n.1 == (3 : Int)) then
      bindF (f86 (g.1, g.2) (-4294967296 : Int)) fun r1 =>
      bindF (f97 (r1.2.1, r1.2.2) r1.1 b.1) fun r2 =>
      some (r2.1, r2.2.1, r2.2.2)
    else
      bif (n.1 == (4 : Int)) then
        bindF (f83 (g.1, g.2) (a.1, a.2)) fun r3 =>
        bindF (f97 (r3.2.1, r3.2.2) r3.1 b.1) fun r4 =>
        some (r4.1, r4.2.1, r4.2.2)
      else
        bif (n.1 == (6 : Int)) then
          bindF (f98 (a.1, a.2) (g.1, g.2) true) fun r5 =>
          some (r5.1, r5.2.1, r5.2.2)
        else
          bif (n.1 == (12 : Int)) then
            guardF (0 ≤ (2 : Int) ∧ (2 : Int) < (List.length b.1 : Int)) <|
            bindF (f105 (g.1, g.2) (a.1, a.2) n.2.2.2.1 (rd (0 : Int) b.1 (2 : Int))) fun q13_8 =>
            some (q13_8.1, q13_8.2.1, q13_8.2.2)
          else
            some ((0 : Int), [], [])
def C46 : Con where
  X := (Int × Int × Int × Int × (List Int) × (List Int)) × ((List Int) × (List Int)) × ((List Int) × (List Int)) × ((List Int) × (List Int))
  Y := Int × (List Int) × (List Int)
  e := 0
  args x := [.dat (.p (.int .i64) (.p (.int .i64) (.p (.int .i64) (.p (.int .i64) (.p (.sl (.int .i64)) (.sl (.int .i64))))))) x.1, .dat (.p (.sl (.int .i64)) (.sl (.int .i64))) x.2.1, .dat (.p (.sl (.int .i64)) (.sl (.int .i64))) x.2.2.1, .dat (.p (.sl (.int .i64)) (.sl (.int .i64))) x.2.2.2]
  hin x := []
  F x := f46 x.1 x.2.1 x.2.2.1 x.2.2.2
  ret y := [.raw true [(.osl 0), (.osl 1)], .dat (.int .i64) y.1]
  hout y := [(0, .arr 3 (.int .i64) y.2.1), (1, .arr 33 (.int .i64) y.2.2)]
  nout := 2
theorem C46_vc (n : Int × Int × Int × Int × (List Int) × (List Int)) (a : (List Int) × (List Int)) (b : (List Int) × (List Int)) (g : (List Int) × (List Int)) (y : Int × (List Int) × (List Int)) (hF : f46 n a b g = some y) : vc Tryz.prog tab Tryz.f46.ntmps 0 (match Tryz.f46.body with | some c => c | none => .skip) (retK tab C46 Tryz.f46.results.toList y) (C46.shIn (n, a, b, g)).st := by
  unfold f46 at hF
  refine Or.inl ?_
  refine Or.inl ?_
  refine Or.inl ?_
  refine Or.inl ?_
  refine condI hF (fun hF => ?_) (fun hF => ?_)
  · refine Or.inl ?_
    obtain ⟨q13_12, hq13_12, hF⟩ := bindE hF
    refine Or.inl (And.intro f96_in (callV0 (callI C96 ((g.1, g.2), b.1) q13_12 [] false C96_holds hq13_12 rfl rfl ?_)))
    refine (And.intro rfl (And.intro rfl (And.intro rfl (And.intro (fun h => nomatch h) (And.intro rfl (And.intro rfl (And.intro trivial (And.intro trivial ?_))))))))
    refine Or.inl ?_
    have hy := someE hF
    subst hy
    refine And.intro rfl (Exists.intro [] (Exists.intro [] (Exists.intro [] (Exists.intro [] (Exists.intro [(0, some 5), (1, some 6)] (And.intro rfl (And.intro rfl (And.intro (And.intro rfl trivial) (And.intro rfl (And.intro rfl trivial))))))))))
  · refine Or.inl ?_
    refine condI hF (fun hF => ?_) (fun hF => ?_)
    · refine Or.inl ?_
      obtain ⟨r1, hr1, hF⟩ := bindE hF
      have hr1 : C86.F ((g.1, g.2), (-4294967296 : Int)) = some r1 := hr1
      refine Or.inl (And.intro f86_in (callV0 (callI C86 _ r1 [] false C86_holds hr1 rfl rfl ?_)))
      refine (And.intro rfl (And.intro rfl (And.intro rfl (And.intro (fun h => nomatch h) (And.intro rfl (And.intro rfl (And.intro trivial (And.intro trivial ?_))))))))
      refine Or.inl ?_
      refine Or.inl ?_
      obtain ⟨r2, hr2, hF⟩ := bindE hF
      refine Or.inl (And.intro f97_in (callV0 (callI C97 ((r1.2.1, r1.2.2), r1.1, b.1) r2 [] true C97_holds hr2 rfl rfl ?_)))
      refine (And.intro rfl (And.intro rfl (And.intro rfl (And.intro rfl (And.intro (fun _ => rfl) (And.intro rfl (And.intro rfl (And.intro trivial (And.intro trivial ?_)))))))))
      refine Or.inl ?_
      have hy := someE hF
      subst hy
      refine And.intro rfl (Exists.intro [] (Exists.intro [] (Exists.intro [] (Exists.intro [] (Exists.intro [(0, some 8), (1, some 9)] (And.intro rfl (And.intro rfl (And.intro (And.intro rfl trivial) (And.intro rfl (And.intro rfl trivial))))))))))
    · refine Or.inl ?_
      refine condI hF (fun hF => ?_) (fun hF => ?_)
      · refine Or.inl ?_
        obtain ⟨r3, hr3, hF⟩ := bindE hF
        refine Or.inl (And.intro f83_in (callV0 (callI C83 ((g.1, g.2), (a.1, a.2)) r3 [] false C83_holds hr3 rfl rfl ?_)))
        refine (And.intro rfl (And.intro rfl (And.intro rfl (And.intro rfl (And.intro (fun h => nomatch h) (And.intro rfl (And.intro rfl (And.intro trivial (And.intro trivial ?_)))))))))
        refine Or.inl ?_
        refine Or.inl ?_
        obtain ⟨r4, hr4, hF⟩ := bindE hF
        refine Or.inl (And.intro f97_in (callV0 (callI C97 ((r3.2.1, r3.2.2), r3.1, b.1) r4 [] true C97_holds hr4 rfl rfl ?_)))
        refine (And.intro rfl (And.intro rfl (And.intro rfl (And.intro rfl (And.intro (fun _ => rfl) (And.intro rfl (And.intro rfl (And.intro trivial (And.intro trivial ?_)))))))))
        refine Or.inl ?_
        have hy := someE hF
        subst hy
        refine And.intro rfl (Exists.intro [] (Exists.intro [] (Exists.intro [] (Exists.intro [] (Exists.intro [(0, some 8), (1, some 9)] (And.intro rfl (And.intro rfl (And.intro (And.intro rfl trivial) (And.intro rfl (And.intro rfl trivial))))))))))
      · refine Or.inl ?_
        refine condI hF (fun hF => ?_) (fun hF => ?_)
        · refine Or.inl ?_
          obtain ⟨r5, hr5, hF⟩ := bindE hF
          refine Or.inl (And.intro f98_in (callV0 (callI C98 ((a.1, a.2), (g.1, g.2), true) r5 [] false C98_holds hr5 rfl rfl ?_)))
          refine (And.intro rfl (And.intro rfl (And.intro rfl (And.intro rfl (And.intro rfl (And.intro (fun h => nomatch h) (And.intro rfl (And.intro rfl (And.intro trivial (And.intro trivial ?_))))))))))
          refine Or.inl ?_
          have hy := someE hF
          subst hy
          refine And.intro rfl (Exists.intro [] (Exists.intro [] (Exists.intro [] (Exists.intro [] (Exists.intro [(0, some 5), (1, some 6)] (And.intro rfl (And.intro rfl (And.intro (And.intro rfl trivial) (And.intro rfl (And.intro rfl trivial))))))))))
        · refine Or.inl ?_
          refine condI hF (fun hF => ?_) (fun hF => ?_)
          · refine Or.inl ?_
            refine Exists.intro (.take 0 (.take 1 (.take 2 (.take 3 (.take 4 (.take 5 (.take 6 (.take 7 (.alt 8 (.take 9 (.take 10 (.alt 11 (.take 12 .done) .done))) .done))))))))) (Exists.intro [] (Exists.intro [] (And.intro rfl ?_)))
            refine guardI hF (fun hF => ?_)
            refine And.intro trivial ?_
            obtain ⟨q13_8, hq13_8, hF⟩ := bindE hF
            refine Or.inl (And.intro f105_in (callV0 (callI C105 ((g.1, g.2), (a.1, a.2), n.2.2.2.1, (rd (0 : Int) b.1 (2 : Int))) q13_8 [] false C105_holds hq13_8 rfl rfl ?_)))
            refine (And.intro rfl (And.intro rfl (And.intro rfl (And.intro rfl (And.intro rfl (And.intro rfl (And.intro (fun h => nomatch h) (And.intro rfl (And.intro rfl (And.intro trivial (And.intro trivial ?_)))))))))))
            refine And.intro trivial ?_
            refine Or.inl ?_
            have hy := someE hF
            subst hy
            refine And.intro rfl (Exists.intro [] (Exists.intro [] (Exists.intro [] (Exists.intro [] (Exists.intro [(0, some 5), (1, some 6)] (And.intro rfl (And.intro rfl (And.intro (And.intro rfl trivial) (And.intro rfl (And.intro rfl trivial))))))))))
          · refine Or.inl ?_
            refine Or.inl ?_
            have hy := someE hF
            subst hy
            refine And.intro rfl (Exists.intro [] (Exists.intro [] (Exists.intro [] (Exists.intro [] (Exists.intro [(0, none), (1, none)] (And.intro rfl (And.intro rfl (And.intro (And.intro rfl trivial) (And.intro rfl (And.intro rfl trivial))))))))))
theorem C46_holds : C46.Holds Tryz.prog 46 := holds_of_vc tab_ok mixed (fn := Tryz.f46) (by kernel_rfl) rfl C46 (fun x y hF => C46_vc x.1 x.2.1 x.2.2.1 x.2.2.2 y hF)
theorem f46_in : ∃ fn, Tryz.prog.funcs[46]? = some fn ∧ fn.body.isSome = true ∧ (fn.name == "runtime.NumGoroutine") = false := ⟨Tryz.f46, by kernel_rfl, by kernel_rfl, by kernel_rfl⟩
end Go.Proofs
namespace Go.Proofs
open Go.AM
-- carousel/back.One
def f18_j3 (g : (List Int) × (List Int)) (q12_4 : Int × Int × Int × Int × Bool × (List Int) × (List Int) × (List (Int × Int × Int × Int × (List Int) × (List Int)))) : Option Bool :=
  bif (!q12_4.2.2.2.2.1) then
    some true
  else
    bindF (f33 (g.1, g.2)) fun r10 =>
    bif (!r10) then
      some true
    else
      bindF (f44 g.1 q12_4.2.2.2.2.2.1) fun r11 =>
      some (!r11)
def f18_j2 (g : (List Int) × (List Int)) (q12_4 : Int × Int × Int × Int × Bool × (List Int) × (List Int) × (List (Int × Int × Int × Int × (List Int) × (List Int)))) : Option (Sum Unit Unit) :=
  bindF (f18_j3 g q12_4) fun z9 =>
  bif z9 then
    some (Sum.inr ())
  else
    some (Sum.inl ())
def f18 (t_l : List (Int × Int × Int × Int × (List Int) × (List Int))) (n : Int) (g : (List Int) × (List Int)) : Option (Int × (List Int) × (List Int) × (List Int) × (List Int) × (List (Int × Int × Int × Int × (List Int) × (List Int)))) :=
  bindF (f37 t_l n) fun q12_4 =>
  bindF (f18_j2 g q12_4) fun z6 =>
  sumF z6 (fun z6a =>
    bindF (f26 q12_4.2.2.2.2.2.2.2 q12_4.2.1) fun r12 =>
    bindF (f26 r12.2.2.2 q12_4.2.2.1) fun r13 =>
    bindF (f45 (q12_4.1, q12_4.2.1, q12_4.2.2.1, q12_4.2.2.2.1, q12_4.2.2.2.2.2.1, q12_4.2.2.2.2.2.2.1) (r12.2.1, r12.2.2.1) (r13.2.1, r13.2.2.1) (g.1, g.2)) fun r14 =>
    bif (r14.1 != (0 : Int)) then
      some (r14.1, [], [], [], [], r13.2.2.2)
    else
      bindF (f46 (q12_4.1, q12_4.2.1, q12_4.2.2.1, q12_4.2.2.2.1, q12_4.2.2.2.2.2.1, q12_4.2.2.2.2.2.2.1) (r12.2.1, r12.2.2.1) (r13.2.1, r13.2.2.1) (g.1, g.2)) fun r15 =>
      bif (r15.1 != (0 : Int)) then
        some (r15.1, [], [], [], [], r13.2.2.2)
      else
        some ((0 : Int), r14.2.1, r14.2.2, r15.2.1, r15.2.2, r13.2.2.2)) (fun z6b =>
    some ((1 : Int), [], [], [], [], q12_4.2.2.2.2.2.2.2))
def C18 : Con where
  X := (List (Int × Int × Int × Int × (List Int) × (List Int))) × Int × ((List Int) × (List Int))
  Y := Int × (List Int) × (List Int) × (List Int) × (List Int) × (List (Int × Int × Int × Int × (List Int) × (List Int)))
  e := 2
  args x := [.raw false [(.ptr 0 0)], .dat (.int .i64) x.2.1, .dat (.p (.sl (.int .i64)) (.sl (.int .i64))) x.2.2]
  hin x := [(0, .cells [(.osl 1)]), (1, .arr 74 (.p (.int .i64) (.p (.int .i64) (.p (.int .i64) (.p (.int .i64) (.p (.sl (.int .i64)) (.sl (.int .i64))))))) x.1)]
  F x := f18 x.1 x.2.1 x.2.2
  ret y := [.raw true [(.osl 2), (.osl 3)], .raw true [(.osl 4), (.osl 5)], .dat (.int .i64) y.1]
  hout y := [(0, .cells [(.osl 1)]), (1, .arr 74 (.p (.int .i64) (.p (.int .i64) (.p (.int .i64) (.p (.int .i64) (.p (.sl (.int .i64)) (.sl (.int .i64))))))) y.2.2.2.2.2), (2, .arr 3 (.int .i64) y.2.1), (3, .arr 33 (.int .i64) y.2.2.1), (4, .arr 3 (.int .i64) y.2.2.2.1), (5, .arr 33 (.int .i64) y.2.2.2.2.1)]
  nout := 6
theorem C18_vc (t_l : List (Int × Int × Int × Int × (List Int) × (List Int))) (n : Int) (g : (List Int) × (List Int)) (y : Int × (List Int) × (List Int) × (List Int) × (List Int) × (List (Int × Int × Int × Int × (List Int) × (List Int)))) (hF : f18 t_l n g = some y) : vc Tryz.prog tab Tryz.f18.ntmps 2 (match Tryz.f18.body with | some c => c | none => .skip) (retK tab C18 Tryz.f18.results.toList y) (C18.shIn (t_l, n, g)).st := by
  unfold f18 at hF
  refine Or.inl ?_
  refine Or.inl ?_
  obtain ⟨q12_4, hq12_4, hF⟩ := bindE hF
  refine Or.inl (And.intro f37_in (callV0 (callI C37 (t_l, n) q12_4 [(0, some 0), (1, some 1)] false C37_holds hq12_4 rfl rfl ?_)))
  refine (And.intro rfl (And.intro (fun h => nomatch h) (And.intro rfl (And.intro rfl (And.intro (And.intro rfl trivial) (And.intro (And.intro rfl (And.intro rfl trivial)) ?_))))))
  refine Or.inl ?_
  obtain ⟨z6, hz6, hF⟩ := bindE hF
  refine Or.inr ⟨Sum.elim (fun z6a => [(0, ⟨[(0, .raw false [(.ptr 0 0)]), (5, .raw false [(.ptr 2 0)]), (6, .raw false [(.ptr 3 0)]), (7, .raw false [(.ptr 4 0)]), (9, .raw false [(.ptr 5 0)])], [(0, .cells [(.osl 1)]), (1, .arr 74 (.p (.int .i64) (.p (.int .i64) (.p (.int .i64) (.p (.int .i64) (.p (.sl (.int .i64)) (.sl (.int .i64))))))) q12_4.2.2.2.2.2.2.2), (2, .cells [(.d (.sl (.int .i64)) g.1), (.d (.sl (.int .i64)) g.2)]), (3, .cells [(.c (.slice none 0 0)), (.c (.slice none 0 0))]), (4, .cells [(.c (.slice none 0 0)), (.c (.slice none 0 0))]), (5, .cells [(.d (.int .i64) q12_4.1), (.d (.int .i64) q12_4.2.1), (.d (.int .i64) q12_4.2.2.1), (.d (.int .i64) q12_4.2.2.2.1), (.osl 6), (.osl 7)]), (6, .arr 3 (.int .i64) q12_4.2.2.2.2.2.1), (7, .arr 33 (.int .i64) q12_4.2.2.2.2.2.2.1)], 8⟩)]) (fun z6b => [(1, ⟨[(6, .raw false [(.ptr 2 0)]), (7, .raw false [(.ptr 3 0)]), (8, .dat (.int .i64) (1 : Int))], [(0, .cells [(.osl 1)]), (1, .arr 74 (.p (.int .i64) (.p (.int .i64) (.p (.int .i64) (.p (.int .i64) (.p (.sl (.int .i64)) (.sl (.int .i64))))))) q12_4.2.2.2.2.2.2.2), (2, .cells [(.c (.slice none 0 0)), (.c (.slice none 0 0))]), (3, .cells [(.c (.slice none 0 0)), (.c (.slice none 0 0))])], 4⟩)]) z6, ?_, ?_⟩
  · have hF := hz6
    clear hz6
    unfold f18_j2 at hF
    obtain ⟨z9, hz9, hF⟩ := bindE hF
    refine Or.inr ⟨[(0, ⟨[(0, .raw false [(.ptr 0 0)]), (5, .raw false [(.ptr 2 0)]), (6, .raw false [(.ptr 3 0)]), (7, .raw false [(.ptr 4 0)]), (9, .raw false [(.ptr 5 0)]), (39, .dat .bool z9)], [(0, .cells [(.osl 1)]), (1, .arr 74 (.p (.int .i64) (.p (.int .i64) (.p (.int .i64) (.p (.int .i64) (.p (.sl (.int .i64)) (.sl (.int .i64))))))) q12_4.2.2.2.2.2.2.2), (2, .cells [(.d (.sl (.int .i64)) g.1), (.d (.sl (.int .i64)) g.2)]), (3, .cells [(.c (.slice none 0 0)), (.c (.slice none 0 0))]), (4, .cells [(.c (.slice none 0 0)), (.c (.slice none 0 0))]), (5, .cells [(.d (.int .i64) q12_4.1), (.d (.int .i64) q12_4.2.1), (.d (.int .i64) q12_4.2.2.1), (.d (.int .i64) q12_4.2.2.2.1), (.osl 6), (.osl 7)]), (6, .arr 3 (.int .i64) q12_4.2.2.2.2.2.1), (7, .arr 33 (.int .i64) q12_4.2.2.2.2.2.2.1)], 8⟩)], ?_, ?_⟩
    · have hF := hz9
      clear hz9
      unfold f18_j3 at hF
      refine condN hF (fun hF => ?_) (fun hF => ?_)
      · refine gdYF ?_
        obtain ⟨r10, hr10, hF⟩ := bindE hF
        refine Or.inl (And.intro f33_in (callV0 (callI C33 (g.1, g.2) r10 [] false C33_holds hr10 rfl rfl ?_)))
        refine (And.intro rfl (And.intro rfl (And.intro (fun h => nomatch h) (And.intro rfl (And.intro rfl (And.intro trivial (And.intro trivial ?_)))))))
        refine gdYF ?_
        refine condF ?_
        refine condN hF (fun hF => ?_) (fun hF => ?_)
        · refine gdYF ?_
          refine gdYF ?_
          refine gdYF ?_
          refine gdYF ?_
          refine gdYF ?_
          obtain ⟨r11, hr11, hF⟩ := bindE hF
          refine Or.inl (And.intro f44_in (callV0 (callI C44 (g.1, q12_4.2.2.2.2.2.1) r11 [] true C44_holds hr11 rfl rfl ?_)))
          refine (And.intro rfl (And.intro rfl (And.intro (fun _ => rfl) (And.intro rfl (And.intro rfl (And.intro trivial (And.intro trivial ?_)))))))
          refine gdYF ?_
          refine condF ?_
          have hz := someE hF
          subst hz
          refine Exists.intro [] (Exists.intro [] (Exists.intro [] (Exists.intro [] (Exists.intro [(0, some 0), (1, some 1), (2, some 2), (3, some 3), (4, some 4), (5, some 9), (6, some 7), (7, some 8)] (And.intro rfl (And.intro rfl (And.intro (And.intro rfl (And.intro rfl (And.intro rfl (And.intro rfl (And.intro rfl trivial))))) (And.intro rfl (And.intro rfl (And.intro rfl (And.intro rfl (And.intro rfl (And.intro rfl (And.intro rfl (And.intro rfl trivial)))))))))))))))
        · refine gdNF ?_
          refine gdNF ?_
          refine gdNF ?_
          refine gdNF ?_
          refine gdNF ?_
          refine gdNF ?_
          refine condT ?_
          have hz := someE hF
          subst hz
          refine Exists.intro [] (Exists.intro [] (Exists.intro [] (Exists.intro [] (Exists.intro [(0, some 0), (1, some 1), (2, some 2), (3, some 3), (4, some 4), (5, some 9), (6, some 7), (7, some 8)] (And.intro rfl (And.intro rfl (And.intro (And.intro rfl (And.intro rfl (And.intro rfl (And.intro rfl (And.intro rfl trivial))))) (And.intro rfl (And.intro rfl (And.intro rfl (And.intro rfl (And.intro rfl (And.intro rfl (And.intro rfl (And.intro rfl trivial)))))))))))))))
      · refine gdNF ?_
        refine gdNF ?_
        refine condT ?_
        refine gdNF ?_
        refine gdNF ?_
        refine gdNF ?_
        refine gdNF ?_
        refine gdNF ?_
        refine gdNF ?_
        refine gdNF ?_
        refine condT ?_
        have hz := someE hF
        subst hz
        refine Exists.intro [] (Exists.intro [] (Exists.intro [] (Exists.intro [] (Exists.intro [(0, some 0), (1, some 1), (2, some 2), (3, some 3), (4, some 4), (5, some 9), (6, some 7), (7, some 8)] (And.intro rfl (And.intro rfl (And.intro (And.intro rfl (And.intro rfl (And.intro rfl (And.intro rfl (And.intro rfl trivial))))) (And.intro rfl (And.intro rfl (And.intro rfl (And.intro rfl (And.intro rfl (And.intro rfl (And.intro rfl (And.intro rfl trivial)))))))))))))))
    · refine And.intro ?_ trivial
      refine condI hF (fun hF => ?_) (fun hF => ?_)
      · refine Or.inl ?_
        refine Or.inl ?_
        refine Or.inl ?_
        have hz := someE hF
        subst hz
        refine Exists.intro [] (Exists.intro [] (Exists.intro [] (Exists.intro [] (Exists.intro [(0, some 0), (1, some 1), (2, some 3), (3, some 4)] (And.intro rfl (And.intro rfl (And.intro (And.intro rfl (And.intro rfl trivial)) (And.intro rfl (And.intro rfl (And.intro rfl (And.intro rfl trivial)))))))))))
      · have hz := someE hF
        subst hz
        refine Exists.intro [] (Exists.intro [] (Exists.intro [] (Exists.intro [] (Exists.intro [(0, some 0), (1, some 1), (2, some 2), (3, some 3), (4, some 4), (5, some 5), (6, some 6), (7, some 7)] (And.intro rfl (And.intro (And.intro rfl (And.intro rfl (And.intro rfl (And.intro rfl (And.intro rfl trivial))))) (And.intro rfl (And.intro rfl (And.intro rfl (And.intro rfl (And.intro rfl (And.intro rfl (And.intro rfl (And.intro rfl trivial))))))))))))))
  · rcases z6 with z6a | z6b
    · dsimp only [sumF] at hF
      refine And.intro ?_ trivial
      refine Or.inl ?_
      obtain ⟨r12, hr12, hF⟩ := bindE hF
      refine Or.inl (And.intro f26_in (callV0 (callI C26 (q12_4.2.2.2.2.2.2.2, q12_4.2.1) r12 [(0, some 0), (1, some 1)] false C26_holds hr12 rfl rfl ?_)))
      refine (And.intro rfl (And.intro (fun h => nomatch h) (And.intro rfl (And.intro rfl (And.intro (And.intro rfl trivial) (And.intro (And.intro rfl (And.intro rfl trivial)) ?_))))))
      refine Or.inl ?_
      refine Or.inl ?_
      obtain ⟨r13, hr13, hF⟩ := bindE hF
      refine Or.inl (And.intro f26_in (callV0 (callI C26 (r12.2.2.2, q12_4.2.2.1) r13 [(0, some 0), (1, some 1)] false C26_holds hr13 rfl rfl ?_)))
      refine (And.intro rfl (And.intro (fun h => nomatch h) (And.intro rfl (And.intro rfl (And.intro (And.intro rfl trivial) (And.intro (And.intro rfl (And.intro rfl trivial)) ?_))))))
      refine Or.inl ?_
      refine Or.inl ?_
      obtain ⟨r14, hr14, hF⟩ := bindE hF
      refine Or.inl (And.intro f45_in (callV0 (callI C45 ((q12_4.1, q12_4.2.1, q12_4.2.2.1, q12_4.2.2.2.1, q12_4.2.2.2.2.2.1, q12_4.2.2.2.2.2.2.1), (r12.2.1, r12.2.2.1), (r13.2.1, r13.2.2.1), (g.1, g.2)) r14 [] true C45_holds hr14 rfl rfl ?_)))
      refine (And.intro rfl (And.intro rfl (And.intro rfl (And.intro rfl (And.intro rfl (And.intro rfl (And.intro rfl (And.intro rfl (And.intro (fun _ => rfl) (And.intro rfl (And.intro rfl (And.intro trivial (And.intro trivial ?_)))))))))))))
      refine Or.inl ?_
      refine Or.inl ?_
      refine Or.inl ?_
      refine condI hF (fun hF => ?_) (fun hF => ?_)
      · refine Or.inl ?_
        refine Or.inl ?_
        refine Or.inl ?_
        have hy := someE hF
        subst hy
        refine And.intro rfl (Exists.intro [] (Exists.intro [] (Exists.intro [] (Exists.intro [] (Exists.intro [(0, some 0), (1, some 1), (2, none), (3, none), (4, none), (5, none)] (And.intro rfl (And.intro rfl (And.intro (And.intro rfl (And.intro rfl trivial)) (And.intro rfl (And.intro rfl (And.intro rfl (And.intro rfl (And.intro rfl (And.intro rfl trivial))))))))))))))
      · refine Or.inl ?_
        obtain ⟨r15, hr15, hF⟩ := bindE hF
        refine Or.inl (And.intro f46_in (callV0 (callI C46 ((q12_4.1, q12_4.2.1, q12_4.2.2.1, q12_4.2.2.2.1, q12_4.2.2.2.2.2.1, q12_4.2.2.2.2.2.2.1), (r12.2.1, r12.2.2.1), (r13.2.1, r13.2.2.1), (g.1, g.2)) r15 [] true C46_holds hr15 rfl rfl ?_)))
        refine (And.intro rfl (And.intro rfl (And.intro rfl (And.intro rfl (And.intro rfl (And.intro rfl (And.intro rfl (And.intro rfl (And.intro (fun _ => rfl) (And.intro rfl (And.intro rfl (And.intro trivial (And.intro trivial ?_)))))))))))))
        refine Or.inl ?_
        refine Or.inl ?_
        refine Or.inl ?_
        refine condI hF (fun hF => ?_) (fun hF => ?_)
        · refine Or.inl ?_
          refine Or.inl ?_
          refine Or.inl ?_
          have hy := someE hF
          subst hy
          refine And.intro rfl (Exists.intro [] (Exists.intro [] (Exists.intro [] (Exists.intro [] (Exists.intro [(0, some 0), (1, some 1), (2, none), (3, none), (4, none), (5, none)] (And.intro rfl (And.intro rfl (And.intro (And.intro rfl (And.intro rfl trivial)) (And.intro rfl (And.intro rfl (And.intro rfl (And.intro rfl (And.intro rfl (And.intro rfl trivial))))))))))))))
        · refine Or.inl ?_
          refine Exists.intro (.take 0 (.take 1 (.alt 2 (.alt 3 (.take 4 .done) .done) .done))) (Exists.intro [] (Exists.intro [] (And.intro rfl ?_)))
          refine And.intro trivial ?_
          refine Or.inl ?_
          refine And.intro trivial ?_
          refine Or.inl ?_
          have hy := someE hF
          subst hy
          refine And.intro rfl (Exists.intro [] (Exists.intro [] (Exists.intro [] (Exists.intro [] (Exists.intro [(0, some 0), (1, some 1), (2, some 18), (3, some 19), (4, some 21), (5, some 22)] (And.intro rfl (And.intro rfl (And.intro (And.intro rfl (And.intro rfl trivial)) (And.intro rfl (And.intro rfl (And.intro rfl (And.intro rfl (And.intro rfl (And.intro rfl trivial))))))))))))))
    · dsimp only [sumF] at hF
      refine And.intro ?_ trivial
      have hy := someE hF
      subst hy
      refine And.intro rfl (Exists.intro [] (Exists.intro [] (Exists.intro [] (Exists.intro [] (Exists.intro [(0, some 0), (1, some 1), (2, none), (3, none), (4, none), (5, none)] (And.intro rfl (And.intro rfl (And.intro (And.intro rfl (And.intro rfl trivial)) (And.intro rfl (And.intro rfl (And.intro rfl (And.intro rfl (And.intro rfl (And.intro rfl trivial))))))))))))))
theorem C18_holds : C18.Holds Tryz.prog 18 := holds_of_vc tab_ok mixed (fn := Tryz.f18) (by kernel_rfl) rfl C18 (fun x y hF => C18_vc x.1 x.2.1 x.2.2 y hF)
theorem f18_in : ∃ fn, Tryz.prog.funcs[18]? = some fn ∧ fn.body.isSome = true ∧ (fn.name == "runtime.NumGoroutine") = false := ⟨Tryz.f18, by kernel_rfl, by kernel_rfl, by kernel_rfl⟩
end Go.Proofs
namespace Go.Proofs
open Go.AM
-- (*carousel/back.sweep).give
def f38 (s_l : List ((List Int) × (List Int))) (s_given : List Bool) (n : Int) (g : (List Int) × (List Int)) : Option (Int × (List ((List Int) × (List Int))) × (List Bool)) :=
  bif (decide (n < (0 : Int))) then
    some ((0 : Int), s_l, s_given)
  else
    guardF (0 ≤ n ∧ n < (List.length s_l : Int)) <|
    bindF (f81 ((rd (Ty.z (.p (.sl (.int .i64)) (.sl (.int .i64)))) s_l n).1, (rd (Ty.z (.p (.sl (.int .i64)) (.sl (.int .i64)))) s_l n).2) (g.1, g.2)) fun q4_13 =>
    guardF (0 ≤ n ∧ n < (List.length s_l : Int)) <|
    guardF (0 ≤ n ∧ n < (List.length s_given : Int)) <|
    some (q4_13.1, (List.set s_l (Int.toNat n) (q4_13.2.1, q4_13.2.2)), (List.set s_given (Int.toNat n) true))
def C38 : Con where
  X := (List ((List Int) × (List Int))) × (List Bool) × Int × ((List Int) × (List Int))
  Y := Int × (List ((List Int) × (List Int))) × (List Bool)
  e := 3
  args x := [.raw false [(.ptr 0 0)], .dat (.int .i64) x.2.2.1, .dat (.p (.sl (.int .i64)) (.sl (.int .i64))) x.2.2.2]
  hin x := [(0, .cells [(.osl 1), (.osl 2)]), (1, .arr 31 (.p (.sl (.int .i64)) (.sl (.int .i64))) x.1), (2, .arr 4 .bool x.2.1)]
  F x := f38 x.1 x.2.1 x.2.2.1 x.2.2.2
  ret y := [.dat (.int .i64) y.1]
  hout y := [(0, .cells [(.osl 1), (.osl 2)]), (1, .arr 31 (.p (.sl (.int .i64)) (.sl (.int .i64))) y.2.1), (2, .arr 4 .bool y.2.2)]
  nout := 3
theorem C38_vc (s_l : List ((List Int) × (List Int))) (s_given : List Bool) (n : Int) (g : (List Int) × (List Int)) (y : Int × (List ((List Int) × (List Int))) × (List Bool)) (hF : f38 s_l s_given n g = some y) : vc Tryz.prog tab Tryz.f38.ntmps 3 (match Tryz.f38.body with | some c => c | none => .skip) (retK tab C38 Tryz.f38.results.toList y) (C38.shIn (s_l, s_given, n, g)).st := by
  unfold f38 at hF
  refine Or.inl ?_
  refine Or.inl ?_
  refine Or.inl ?_
  refine condI hF (fun hF => ?_) (fun hF => ?_)
  · refine Or.inl ?_
    have hy := someE hF
    subst hy
    refine And.intro rfl (Exists.intro [] (Exists.intro [] (Exists.intro [] (Exists.intro [] (Exists.intro [(0, some 0), (1, some 1), (2, some 2)] (And.intro rfl (And.intro rfl (And.intro trivial (And.intro rfl (And.intro rfl (And.intro rfl trivial)))))))))))
  · refine Or.inl ?_
    refine Or.inl ?_
    refine Exists.intro (.take 0 (.take 1 (.take 2 (.take 3 (.take 4 (.take 5 (.take 6 (.take 7 (.take 8 (.take 9 (.take 10 (.take 11 (.take 12 (.alt 13 (.take 14 (.take 15 (.take 16 (.take 17 (.alt 18 (.take 19 .done) .done))))) .done)))))))))))))) (Exists.intro [(18, [1])] (Exists.intro [] (And.intro rfl ?_)))
    refine guardI hF (fun hF => ?_)
    refine And.intro trivial ?_
    obtain ⟨q4_13, hq4_13, hF⟩ := bindE hF
    refine Or.inl (And.intro f81_in (callV0 (callI C81 (((rd (Ty.z (.p (.sl (.int .i64)) (.sl (.int .i64)))) s_l n).1, (rd (Ty.z (.p (.sl (.int .i64)) (.sl (.int .i64)))) s_l n).2), (g.1, g.2)) q4_13 [] false C81_holds hq4_13 rfl rfl ?_)))
    refine (And.intro rfl (And.intro rfl (And.intro rfl (And.intro rfl (And.intro (fun h => nomatch h) (And.intro rfl (And.intro rfl (And.intro trivial (And.intro trivial ?_)))))))))
    refine guardI hF (fun hF => ?_)
    refine And.intro trivial ?_
    refine Or.inl ?_
    refine Or.inl ?_
    refine guardI hF (fun hF => ?_)
    refine Or.inl ?_
    refine Or.inl ?_
    have hy := someE hF
    subst hy
    refine And.intro rfl (Exists.intro [] (Exists.intro [] (Exists.intro [] (Exists.intro [] (Exists.intro [(0, some 0), (1, some 1), (2, some 2)] (And.intro rfl (And.intro rfl (And.intro trivial (And.intro rfl (And.intro rfl (And.intro rfl trivial)))))))))))
theorem C38_holds : C38.Holds Tryz.prog 38 := holds_of_vc tab_ok mixed (fn := Tryz.f38) (by kernel_rfl) rfl C38 (fun x y hF => C38_vc x.1 x.2.1 x.2.2.1 x.2.2.2 y hF)
theorem f38_in : ∃ fn, Tryz.prog.funcs[38]? = some fn ∧ fn.body.isSome = true ∧ (fn.name == "runtime.NumGoroutine") = false := ⟨Tryz.f38, by kernel_rfl, by kernel_rfl, by kernel_rfl⟩
end Go.Proofs
namespace Go.Proofs
open Go.AM
-- carousel/back.Sweep
def f16_l1 (root : Int) (go : (Int × (List (Int × Int × Int × Int × (List Int) × (List Int))) × (List ((List Int) × (List Int))) × Int × (List Int) × (List Int)) → Option ((List (Int × Int × Int × Int × (List Int) × (List Int))) × (List ((List Int) × (List Int))) × Int × (List Int) × (List Int))) (v43 : Int) (l1 : List (Int × Int × Int × Int × (List Int) × (List Int))) (l3 : List ((List Int) × (List Int))) (i3 : Int) (l5 : List Int) (l6 : List Int) : Option ((List (Int × Int × Int × Int × (List Int) × (List Int))) × (List ((List Int) × (List Int))) × Int × (List Int) × (List Int)) :=
  bif (decide (v43 < (IntKind.i64.wrap (root + (1 : Int))))) then
    bindF (f26 l1 v43) fun q12_10 =>
    bindF (f36 q12_10.2.1 (0 : Int)) fun r6 =>
    guardF ((List.length (List.set l3 (Int.toNat i3) (l5, l6)) + 1) * 48 ≤ 140737488355328) <|
    go ((IntKind.i64.wrap (v43 + (1 : Int))), q12_10.2.2.2, ((List.set l3 (Int.toNat i3) (l5, l6)) ++ [(Ty.z (.p (.sl (.int .i64)) (.sl (.int .i64))))]), (List.length (List.set l3 (Int.toNat i3) (l5, l6)) : Int), r6.2.1, r6.2.2)
  else
    some (l1, l3, i3, l5, l6)
def f16_l2 (go : (Int × (List (Int × Int × Int × Int × (List Int) × (List Int))) × (List ((List Int) × (List Int))) × (List Bool)) → Option (Sum (Int × (List (Int × Int × Int × Int × (List Int) × (List Int)))) ((List (Int × Int × Int × Int × (List Int) × (List Int))) × (List ((List Int) × (List Int))) × (List Bool)))) (n : Int) (l1 : List (Int × Int × Int × Int × (List Int) × (List Int))) (l3 : List ((List Int) × (List Int))) (l4 : List Bool) : Option (Sum (Int × (List (Int × Int × Int × Int × (List Int) × (List Int)))) ((List (Int × Int × Int × Int × (List Int) × (List Int))) × (List ((List Int) × (List Int))) × (List Bool))) :=
  bif (decide (n ≥ (0 : Int))) then
    guardF (0 ≤ n ∧ n < (List.length l4 : Int)) <|
    bif (!(rd false l4 n)) then
      go ((IntKind.i64.wrap (n - (1 : Int))), l1, l3, l4)
    else
      bindF (f37 l1 n) fun r15 =>
      guardF (0 ≤ n ∧ n < (List.length l3 : Int)) <|
      bindF (f18 r15.2.2.2.2.2.2.2 n ((rd (Ty.z (.p (.sl (.int .i64)) (.sl (.int .i64)))) l3 n).1, (rd (Ty.z (.p (.sl (.int .i64)) (.sl (.int .i64)))) l3 n).2)) fun r16 =>
      bif (r16.1 != (0 : Int)) then
        some (Sum.inl (r16.1, r16.2.2.2.2.2))
      else
        bindF (f38 l3 l4 r15.2.1 (r16.2.1, r16.2.2.1)) fun r17 =>
        bif (r17.1 != (0 : Int)) then
          some (Sum.inl (r17.1, r16.2.2.2.2.2))
        else
          bindF (f38 r17.2.1 r17.2.2 r15.2.2.1 (r16.2.2.2.1, r16.2.2.2.2.1)) fun r18 =>
          bif (r18.1 != (0 : Int)) then
            some (Sum.inl (r18.1, r16.2.2.2.2.2))
          else
            go ((IntKind.i64.wrap (n - (1 : Int))), r16.2.2.2.2.2, r18.2.1, r18.2.2)
  else
    some (Sum.inr (l1, l3, l4))
def f16 (t_l : List (Int × Int × Int × Int × (List Int) × (List Int))) (root : Int) : Option (Int × (List ((List Int) × (List Int))) × (List (Int × Int × Int × Int × (List Int) × (List Int)))) :=
  bindF (f26 t_l root) fun r1 =>
  bif (!r1.1) then
    some ((1 : Int), [], r1.2.2.2)
  else
    bif (decide ((List.length r1.2.2.1 : Int) > (1 : Int))) then
      some ((4 : Int), [], r1.2.2.2)
    else
      guardF (0 ≤ (IntKind.i64.wrap (root + (1 : Int))) ∧ (IntKind.i64.wrap (root + (1 : Int))) ≤ (IntKind.i64.wrap (root + (1 : Int))) ∧ Int.toNat (IntKind.i64.wrap (root + (1 : Int))) * 1 ≤ 140737488355328) <|
      bindF (loopF (fun go x => f16_l1 root go x.1 x.2.1 x.2.2.1 x.2.2.2.1 x.2.2.2.2.1 x.2.2.2.2.2) fuelN ((0 : Int), r1.2.2.2, [], (0 : Int), [], [])) fun z5 =>
      guardF (0 ≤ root ∧ root < (List.length z5.2.1 : Int)) <|
      guardF (root = z5.2.2.1) <|
      guardF (0 ≤ (0 : Int) ∧ (0 : Int) < (List.length z5.2.2.2.2 : Int)) <|
      guardF (0 ≤ root ∧ root < (List.length (List.replicate (Int.toNat (IntKind.i64.wrap (root + (1 : Int)))) false) : Int)) <|
      bindF (loopF (fun go x => f16_l2 go x.1 x.2.1 x.2.2.1 x.2.2.2) fuelN (root, z5.1, (List.set z5.2.1 (Int.toNat z5.2.2.1) (z5.2.2.2.1, (List.set z5.2.2.2.2 (Int.toNat (0 : Int)) (4294967296 : Int)))), (List.set (List.replicate (Int.toNat (IntKind.i64.wrap (root + (1 : Int)))) false) (Int.toNat root) true))) fun z14 =>
      sumF z14 (fun z14a =>
        some (z14a.1, [], z14a.2)) (fun z14b =>
        some ((0 : Int), z14b.2.1, z14b.1))
def C16 : Con where
  X := (List (Int × Int × Int × Int × (List Int) × (List Int))) × Int
  Y := Int × (List ((List Int) × (List Int))) × (List (Int × Int × Int × Int × (List Int) × (List Int)))
  e := 2
  args x := [.raw false [(.ptr 0 0)], .dat (.int .i64) x.2]
  hin x := [(0, .cells [(.osl 1)]), (1, .arr 74 (.p (.int .i64) (.p (.int .i64) (.p (.int .i64) (.p (.int .i64) (.p (.sl (.int .i64)) (.sl (.int .i64))))))) x.1)]
  F x := f16 x.1 x.2
  ret y := [.raw false [(.osl 2)], .dat (.int .i64) y.1]
  hout y := [(0, .cells [(.osl 1)]), (1, .arr 74 (.p (.int .i64) (.p (.int .i64) (.p (.int .i64) (.p (.int .i64) (.p (.sl (.int .i64)) (.sl (.int .i64))))))) y.2.2), (2, .arr 31 (.p (.sl (.int .i64)) (.sl (.int .i64))) y.2.1)]
  nout := 3
theorem C16_vc (t_l : List (Int × Int × Int × Int × (List Int) × (List Int))) (root : Int) (y : Int × (List ((List Int) × (List Int))) × (List (Int × Int × Int × Int × (List Int) × (List Int)))) (hF : f16 t_l root = some y) : vc Tryz.prog tab Tryz.f16.ntmps 2 (match Tryz.f16.body with | some c => c | none => .skip) (retK tab C16 Tryz.f16.results.toList y) (C16.shIn (t_l, root)).st := by
  unfold f16 at hF
  refine Or.inl ?_
  refine Or.inl ?_
  obtain ⟨r1, hr1, hF⟩ := bindE hF
  refine Or.inl (And.intro f26_in (callV0 (callI C26 (t_l, root) r1 [(0, some 0), (1, some 1)] false C26_holds hr1 rfl rfl ?_)))
  refine (And.intro rfl (And.intro (fun h => nomatch h) (And.intro rfl (And.intro rfl (And.intro (And.intro rfl trivial) (And.intro (And.intro rfl (And.intro rfl trivial)) ?_))))))
  refine Or.inl ?_
  refine Or.inl ?_
  refine Or.inl ?_
  refine condI hF (fun hF => ?_) (fun hF => ?_)
  · refine Or.inl ?_
    have hy := someE hF
    subst hy
    refine And.intro rfl (Exists.intro [] (Exists.intro [] (Exists.intro [] (Exists.intro [] (Exists.intro [(0, some 0), (1, some 1), (2, none)] (And.intro rfl (And.intro rfl (And.intro (And.intro rfl trivial) (And.intro rfl (And.intro rfl (And.intro rfl trivial)))))))))))
  · refine Or.inl ?_
    refine condI hF (fun hF => ?_) (fun hF => ?_)
    · refine Or.inl ?_
      have hy := someE hF
      subst hy
      refine And.intro rfl (Exists.intro [] (Exists.intro [] (Exists.intro [] (Exists.intro [] (Exists.intro [(0, some 0), (1, some 1), (2, none)] (And.intro rfl (And.intro rfl (And.intro (And.intro rfl trivial) (And.intro rfl (And.intro rfl (And.intro rfl trivial)))))))))))
    · refine Or.inl ?_
      refine guardI hF (fun hF => ?_)
      refine Or.inl ?_
      refine Or.inl ?_
      obtain ⟨z5, hz5, hF⟩ := bindE hF
      refine loopI (Int × (List (Int × Int × Int × Int × (List Int) × (List Int))) × (List ((List Int) × (List Int))) × Int × (List Int) × (List Int)) ((List (Int × Int × Int × Int × (List Int) × (List Int))) × (List ((List Int) × (List Int))) × Int × (List Int) × (List Int)) (fun x => ⟨[(0, .raw false [(.ptr 0 0)]), (1, .dat (.int .i64) root), (8, .raw false [(.ptr 2 0)]), (42, .dat (.int .i64) (IntKind.i64.wrap (root + (1 : Int)))), (43, .dat (.int .i64) x.1)], [(0, .cells [(.osl 1)]), (1, .arr 74 (.p (.int .i64) (.p (.int .i64) (.p (.int .i64) (.p (.int .i64) (.p (.sl (.int .i64)) (.sl (.int .i64))))))) x.2.1), (2, .cells [(.osl 3), (.osl 4)]), (3, .hol 31 (.p (.sl (.int .i64)) (.sl (.int .i64))) x.2.2.1 x.2.2.2.1 [(.osl 5), (.osl 6)]), (4, .arr 4 .bool (List.replicate (Int.toNat (IntKind.i64.wrap (root + (1 : Int)))) false)), (5, .arr 3 (.int .i64) x.2.2.2.2.1), (6, .arr 33 (.int .i64) x.2.2.2.2.2)], 7⟩) (fun z => [(3, ⟨[(0, .raw false [(.ptr 0 0)]), (1, .dat (.int .i64) root), (8, .raw false [(.ptr 2 0)])], [(0, .cells [(.osl 1)]), (1, .arr 74 (.p (.int .i64) (.p (.int .i64) (.p (.int .i64) (.p (.int .i64) (.p (.sl (.int .i64)) (.sl (.int .i64))))))) z.1), (2, .cells [(.osl 3), (.osl 4)]), (3, .hol 31 (.p (.sl (.int .i64)) (.sl (.int .i64))) z.2.1 z.2.2.1 [(.osl 5), (.osl 6)]), (4, .arr 4 .bool (List.replicate (Int.toNat (IntKind.i64.wrap (root + (1 : Int)))) false)), (5, .arr 3 (.int .i64) z.2.2.2.1), (6, .arr 33 (.int .i64) z.2.2.2.2)], 7⟩)]) (loopF (fun go x => f16_l1 root go x.1 x.2.1 x.2.2.1 x.2.2.2.1 x.2.2.2.2.1 x.2.2.2.2.2)) fuelN ((0 : Int), r1.2.2.2, [], (0 : Int), [], []) z5 (And.intro hz5 (And.intro (Exists.intro [] (Exists.intro [] (Exists.intro [] (Exists.intro [] (Exists.intro [(0, some 0), (1, some 1), (2, some 8), (3, none), (4, some 7), (5, none), (6, none)] (And.intro rfl (And.intro rfl (And.intro rfl (And.intro rfl (And.intro (And.intro rfl (And.intro rfl trivial)) (And.intro rfl (And.intro rfl (And.intro rfl (And.intro rfl (And.intro rfl (And.intro rfl (And.intro rfl trivial))))))))))))))))) (And.intro (fun _ _ h => loopZ h) (And.intro (fun m => curI (fun v43 => curI (fun l1 => curI (fun l3 => curI (fun i3 => curI (fun l5 => fun l6 z hF => ?_)))))) ?_))))
      · have hF : f16_l1 root (loopF (fun go x => f16_l1 root go x.1 x.2.1 x.2.2.1 x.2.2.2.1 x.2.2.2.2.1 x.2.2.2.2.2) m) v43 l1 l3 i3 l5 l6 = some z := hF
        unfold f16_l1 at hF
        refine Or.inl ?_
        refine Or.inl ?_
        refine condI hF (fun hF => ?_) (fun hF => ?_)
        · refine Or.inl ?_
          refine Or.inl ?_
          refine Or.inl ?_
          obtain ⟨q12_10, hq12_10, hF⟩ := bindE hF
          refine Or.inl (And.intro f26_in (callV0 (callI C26 (l1, v43) q12_10 [(0, some 0), (1, some 1)] false C26_holds hq12_10 rfl rfl ?_)))
          refine (And.intro rfl (And.intro (fun h => nomatch h) (And.intro rfl (And.intro rfl (And.intro (And.intro rfl trivial) (And.intro (And.intro rfl (And.intro rfl trivial)) ?_))))))
          refine Or.inl ?_
          refine Or.inl ?_
          obtain ⟨r6, hr6, hF⟩ := bindE hF
          refine Or.inl (And.intro f36_in (callV0 (callI C36 (q12_10.2.1, (0 : Int)) r6 [] true C36_holds hr6 rfl rfl ?_)))
          refine (And.intro rfl (And.intro rfl (And.intro (fun _ => rfl) (And.intro rfl (And.intro rfl (And.intro trivial (And.intro trivial ?_)))))))
          refine Or.inl ?_
          refine Exists.intro (.take 0 (.take 1 (.take 2 (.take 3 (.take 4 (.take 5 (.alt 6 (.alt 7 (.take 8 (.take 9 (.alt 10 .done .done))) .done) .done))))))) (Exists.intro [(10, [2])] (Exists.intro [] (And.intro rfl ?_)))
          refine And.intro trivial ?_
          refine Or.inr ?_
          refine And.intro trivial ?_
          refine Or.inr ?_
          refine And.intro rfl ?_
          refine And.intro (And.intro rfl rfl) ?_
          refine guardI hF (fun hF => ?_)
          refine And.intro trivial ?_
          refine Or.inl ?_
          refine Exists.intro ((IntKind.i64.wrap (v43 + (1 : Int))), q12_10.2.2.2, ((List.set l3 (Int.toNat i3) (l5, l6)) ++ [(Ty.z (.p (.sl (.int .i64)) (.sl (.int .i64))))]), (List.length (List.set l3 (Int.toNat i3) (l5, l6)) : Int), r6.2.1, r6.2.2) (And.intro hF (Exists.intro [] (Exists.intro [] (Exists.intro [] (Exists.intro [] (Exists.intro [(0, some 0), (1, some 1), (2, some 2), (3, some 16), (4, some 4), (5, some 12), (6, some 13)] (And.intro rfl (And.intro rfl (And.intro rfl (And.intro rfl (And.intro (And.intro rfl (And.intro rfl trivial)) (And.intro rfl (And.intro rfl (And.intro rfl (And.intro rfl (And.intro rfl (And.intro rfl (And.intro rfl trivial))))))))))))))))))
        · have hz := someE hF
          subst hz
          refine Exists.intro [] (Exists.intro [] (Exists.intro [] (Exists.intro [] (Exists.intro [(0, some 0), (1, some 1), (2, some 2), (3, some 3), (4, some 4), (5, some 5), (6, some 6)] (And.intro rfl (And.intro rfl (And.intro (And.intro rfl (And.intro rfl trivial)) (And.intro rfl (And.intro rfl (And.intro rfl (And.intro rfl (And.intro rfl (And.intro rfl (And.intro rfl trivial))))))))))))))
      · refine And.intro ?_ trivial
        refine Or.inl ?_
        refine Exists.intro (.take 0 (.take 1 (.take 2 (.take 3 (.take 4 (.take 5 (.take 6 (.take 7 (.take 8 (.take 9 (.take 10 (.take 11 (.take 12 (.take 13 (.alt 14 (.take 15 (.alt 16 .done .done)) .done))))))))))))))) (Exists.intro [] (Exists.intro [] (And.intro rfl ?_)))
        refine guardI hF (fun hF => ?_)
        refine guardI hF (fun hF => ?_)
        refine guardI hF (fun hF => ?_)
        refine And.intro trivial ?_
        refine Or.inl ?_
        refine guardI hF (fun hF => ?_)
        refine And.intro trivial ?_
        refine Or.inl ?_
        refine Or.inl ?_
        refine Or.inl ?_
        obtain ⟨z14, hz14, hF⟩ := bindE hF
        refine loopI (Int × (List (Int × Int × Int × Int × (List Int) × (List Int))) × (List ((List Int) × (List Int))) × (List Bool)) (Sum (Int × (List (Int × Int × Int × Int × (List Int) × (List Int)))) ((List (Int × Int × Int × Int × (List Int) × (List Int))) × (List ((List Int) × (List Int))) × (List Bool))) (fun x => ⟨[(0, .raw false [(.ptr 0 0)]), (8, .raw false [(.ptr 2 0)]), (14, .dat (.int .i64) x.1)], [(0, .cells [(.osl 1)]), (1, .arr 74 (.p (.int .i64) (.p (.int .i64) (.p (.int .i64) (.p (.int .i64) (.p (.sl (.int .i64)) (.sl (.int .i64))))))) x.2.1), (2, .cells [(.osl 3), (.osl 4)]), (3, .arr 31 (.p (.sl (.int .i64)) (.sl (.int .i64))) x.2.2.1), (4, .arr 4 .bool x.2.2.2)], 5⟩) (fun z => Sum.elim (fun za => [(1, ⟨[(4, .raw false [(.c (.slice none 0 0))]), (5, .dat (.int .i64) za.1)], [(0, .cells [(.osl 1)]), (1, .arr 74 (.p (.int .i64) (.p (.int .i64) (.p (.int .i64) (.p (.int .i64) (.p (.sl (.int .i64)) (.sl (.int .i64))))))) za.2)], 2⟩)]) (fun zb => [(5, ⟨[(8, .raw false [(.ptr 2 0)])], [(0, .cells [(.osl 1)]), (1, .arr 74 (.p (.int .i64) (.p (.int .i64) (.p (.int .i64) (.p (.int .i64) (.p (.sl (.int .i64)) (.sl (.int .i64))))))) zb.1), (2, .cells [(.osl 3), (.osl 4)]), (3, .arr 31 (.p (.sl (.int .i64)) (.sl (.int .i64))) zb.2.1), (4, .arr 4 .bool zb.2.2)], 5⟩)]) z) (loopF (fun go x => f16_l2 go x.1 x.2.1 x.2.2.1 x.2.2.2)) fuelN (root, z5.1, (List.set z5.2.1 (Int.toNat z5.2.2.1) (z5.2.2.2.1, (List.set z5.2.2.2.2 (Int.toNat (0 : Int)) (4294967296 : Int)))), (List.set (List.replicate (Int.toNat (IntKind.i64.wrap (root + (1 : Int)))) false) (Int.toNat root) true)) z14 (And.intro hz14 (And.intro (Exists.intro [3] (And.intro rfl (Exists.intro [] (Exists.intro [] (Exists.intro [] (Exists.intro [(0, some 0), (1, some 1), (2, some 2), (3, some 3), (4, some 4)] (And.intro rfl (And.intro rfl (And.intro (And.intro rfl (And.intro rfl trivial)) (And.intro rfl (And.intro rfl (And.intro rfl (And.intro rfl (And.intro rfl trivial)))))))))))))) (And.intro (fun _ _ h => loopZ h) (And.intro (fun m => curI (fun n => curI (fun l1 => curI (fun l3 => fun l4 z hF => ?_)))) ?_))))
        · have hF : f16_l2 (loopF (fun go x => f16_l2 go x.1 x.2.1 x.2.2.1 x.2.2.2) m) n l1 l3 l4 = some z := hF
          unfold f16_l2 at hF
          refine Or.inl ?_
          refine Or.inl ?_
          refine condI hF (fun hF => ?_) (fun hF => ?_)
          · refine Or.inl ?_
            refine Or.inl ?_
            refine Or.inl ?_
            refine guardI hF (fun hF => ?_)
            refine condI hF (fun hF => ?_) (fun hF => ?_)
            · refine Exists.intro ((IntKind.i64.wrap (n - (1 : Int))), l1, l3, l4) (And.intro hF (Exists.intro [] (Exists.intro [] (Exists.intro [] (Exists.intro [] (Exists.intro [(0, some 0), (1, some 1), (2, some 2), (3, some 3), (4, some 4)] (And.intro rfl (And.intro rfl (And.intro (And.intro rfl (And.intro rfl trivial)) (And.intro rfl (And.intro rfl (And.intro rfl (And.intro rfl (And.intro rfl trivial))))))))))))))
            · refine Or.inl ?_
              obtain ⟨r15, hr15, hF⟩ := bindE hF
              refine Or.inl (And.intro f37_in (callV0 (callI C37 (l1, n) r15 [(0, some 0), (1, some 1)] false C37_holds hr15 rfl rfl ?_)))
              refine (And.intro rfl (And.intro (fun h => nomatch h) (And.intro rfl (And.intro rfl (And.intro (And.intro rfl trivial) (And.intro (And.intro rfl (And.intro rfl trivial)) ?_))))))
              refine Or.inl ?_
              refine Or.inl ?_
              refine guardI hF (fun hF => ?_)
              obtain ⟨r16, hr16, hF⟩ := bindE hF
              refine Or.inl (And.intro f18_in (callV0 (callI C18 (r15.2.2.2.2.2.2.2, n, ((rd (Ty.z (.p (.sl (.int .i64)) (.sl (.int .i64)))) l3 n).1, (rd (Ty.z (.p (.sl (.int .i64)) (.sl (.int .i64)))) l3 n).2)) r16 [(0, some 0), (1, some 1)] false C18_holds hr16 rfl rfl ?_)))
              refine (And.intro rfl (And.intro rfl (And.intro rfl (And.intro (fun h => nomatch h) (And.intro rfl (And.intro rfl (And.intro (And.intro rfl trivial) (And.intro (And.intro rfl (And.intro rfl trivial)) ?_))))))))
              refine Or.inl ?_
              refine Or.inl ?_
              refine Or.inl ?_
              refine Or.inl ?_
              refine condI hF (fun hF => ?_) (fun hF => ?_)
              · refine Or.inl ?_
                have hz := someE hF
                subst hz
                refine Exists.intro [] (Exists.intro [] (Exists.intro [] (Exists.intro [] (Exists.intro [(0, some 0), (1, some 1)] (And.intro rfl (And.intro rfl (And.intro (And.intro rfl trivial) (And.intro rfl (And.intro rfl trivial)))))))))
              · refine Or.inl ?_
                refine Or.inl ?_
                obtain ⟨r17, hr17, hF⟩ := bindE hF
                refine Or.inl (And.intro f38_in (callV0 (callI C38 (l3, l4, r15.2.1, (r16.2.1, r16.2.2.1)) r17 [(0, some 2), (1, some 3), (2, some 4)] false C38_holds hr17 rfl rfl ?_)))
                refine (And.intro rfl (And.intro rfl (And.intro rfl (And.intro (fun h => nomatch h) (And.intro rfl (And.intro rfl (And.intro (And.intro rfl trivial) (And.intro (And.intro rfl (And.intro rfl (And.intro rfl trivial))) ?_))))))))
                refine Or.inl ?_
                refine condI hF (fun hF => ?_) (fun hF => ?_)
                · refine Or.inl ?_
                  have hz := someE hF
                  subst hz
                  refine Exists.intro [] (Exists.intro [] (Exists.intro [] (Exists.intro [] (Exists.intro [(0, some 0), (1, some 1)] (And.intro rfl (And.intro rfl (And.intro (And.intro rfl trivial) (And.intro rfl (And.intro rfl trivial)))))))))
                · refine Or.inl ?_
                  obtain ⟨r18, hr18, hF⟩ := bindE hF
                  refine Or.inl (And.intro f38_in (callV0 (callI C38 (r17.2.1, r17.2.2, r15.2.2.1, (r16.2.2.2.1, r16.2.2.2.2.1)) r18 [(0, some 2), (1, some 3), (2, some 4)] false C38_holds hr18 rfl rfl ?_)))
                  refine (And.intro rfl (And.intro rfl (And.intro rfl (And.intro (fun h => nomatch h) (And.intro rfl (And.intro rfl (And.intro (And.intro rfl trivial) (And.intro (And.intro rfl (And.intro rfl (And.intro rfl trivial))) ?_))))))))
                  refine Or.inl ?_
                  refine condI hF (fun hF => ?_) (fun hF => ?_)
                  · refine Or.inl ?_
                    have hz := someE hF
                    subst hz
                    refine Exists.intro [] (Exists.intro [] (Exists.intro [] (Exists.intro [] (Exists.intro [(0, some 0), (1, some 1)] (And.intro rfl (And.intro rfl (And.intro (And.intro rfl trivial) (And.intro rfl (And.intro rfl trivial)))))))))
                  · refine Exists.intro ((IntKind.i64.wrap (n - (1 : Int))), r16.2.2.2.2.2, r18.2.1, r18.2.2) (And.intro hF (Exists.intro [] (Exists.intro [] (Exists.intro [] (Exists.intro [] (Exists.intro [(0, some 0), (1, some 1), (2, some 2), (3, some 3), (4, some 4)] (And.intro rfl (And.intro rfl (And.intro (And.intro rfl (And.intro rfl trivial)) (And.intro rfl (And.intro rfl (And.intro rfl (And.intro rfl (And.intro rfl trivial))))))))))))))
          · have hz := someE hF
            subst hz
            refine Exists.intro [] (Exists.intro [] (Exists.intro [] (Exists.intro [] (Exists.intro [(0, some 0), (1, some 1), (2, some 2), (3, some 3), (4, some 4)] (And.intro rfl (And.intro (And.intro rfl trivial) (And.intro rfl (And.intro rfl (And.intro rfl (And.intro rfl (And.intro rfl trivial)))))))))))
        · rcases z14 with z14a | z14b
          · dsimp only [sumF] at hF
            refine And.intro ?_ trivial
            have hy := someE hF
            subst hy
            refine And.intro rfl (Exists.intro [] (Exists.intro [] (Exists.intro [] (Exists.intro [] (Exists.intro [(0, some 0), (1, some 1), (2, none)] (And.intro rfl (And.intro rfl (And.intro (And.intro rfl trivial) (And.intro rfl (And.intro rfl (And.intro rfl trivial)))))))))))
          · dsimp only [sumF] at hF
            refine And.intro ?_ trivial
            refine Or.inl ?_
            have hy := someE hF
            subst hy
            refine And.intro rfl (Exists.intro [] (Exists.intro [] (Exists.intro [] (Exists.intro [] (Exists.intro [(0, some 0), (1, some 1), (2, some 3)] (And.intro rfl (And.intro rfl (And.intro (And.intro rfl trivial) (And.intro rfl (And.intro rfl (And.intro rfl trivial)))))))))))
theorem C16_holds : C16.Holds Tryz.prog 16 := holds_of_vc tab_ok mixed (fn := Tryz.f16) (by kernel_rfl) rfl C16 (fun x y hF => C16_vc x.1 x.2 y hF)
theorem f16_in : ∃ fn, Tryz.prog.funcs[16]? = some fn ∧ fn.body.isSome = true ∧ (fn.name == "runtime.NumGoroutine") = false := ⟨Tryz.f16, by kernel_rfl, by kernel_rfl, by kernel_rfl⟩
end Go.Proofs
namespace Go.Proofs
open Go.AM
-- carousel/carouselref5.Same
def f47_l1 (a : List Int) (b : List Int) (go : Int → Option (Sum Unit Unit)) (i : Int) : Option (Sum Unit Unit) :=
  bif (decide (i < (List.length a : Int))) then
    guardF (0 ≤ i ∧ i < (List.length a : Int)) <|
    guardF (0 ≤ i ∧ i < (List.length b : Int)) <|
    bif ((rd (0 : Int) a i) != (rd (0 : Int) b i)) then
      some (Sum.inl ())
    else
      go (IntKind.i64.wrap (i + (1 : Int)))
  else
    some (Sum.inr ())
def f47 (a : List Int) (b : List Int) : Option Bool :=
  bif ((List.length a : Int) != (List.length b : Int)) then
    some false
  else
    bindF (loopF (fun go x => f47_l1 a b go x) fuelN (0 : Int)) fun z1 =>
    sumF z1 (fun z1a =>
      some false) (fun z1b =>
      some true)
def C47 : Con where
  X := (List Int) × (List Int)
  Y := Bool
  e := 0
  args x := [.dat (.sl (.int .i64)) x.1, .dat (.sl (.int .i64)) x.2]
  hin x := []
  F x := f47 x.1 x.2
  ret y := [.dat .bool y]
  hout y := []
  nout := 0
theorem C47_vc (a : List Int) (b : List Int) (y : Bool) (hF : f47 a b = some y) : vc Tryz.prog tab Tryz.f47.ntmps 0 (match Tryz.f47.body with | some c => c | none => .skip) (retK tab C47 Tryz.f47.results.toList y) (C47.shIn (a, b)).st := by
  unfold f47 at hF
  refine Or.inl ?_
  refine Or.inl ?_
  refine Or.inl ?_
  refine condI hF (fun hF => ?_) (fun hF => ?_)
  · refine Or.inl ?_
    have hy := someE hF
    subst hy
    refine And.intro rfl (Exists.intro [] (Exists.intro [] (Exists.intro [] (Exists.intro [] (Exists.intro [] (And.intro rfl (And.intro rfl (And.intro trivial trivial))))))))
  · refine Or.inl ?_
    refine Or.inl ?_
    obtain ⟨z1, hz1, hF⟩ := bindE hF
    refine loopI Int (Sum Unit Unit) (fun x => ⟨[(0, .dat (.sl (.int .i64)) a), (1, .dat (.sl (.int .i64)) b), (5, .dat (.int .i64) x)], [], 0⟩) (fun z => Sum.elim (fun za => [(1, ⟨[(4, .dat .bool false)], [], 0⟩)]) (fun zb => [(2, ⟨[], [], 0⟩)]) z) (loopF (fun go x => f47_l1 a b go x)) fuelN (0 : Int) z1 (And.intro hz1 (And.intro (Exists.intro [] (Exists.intro [] (Exists.intro [] (Exists.intro [] (Exists.intro [] (And.intro rfl (And.intro rfl (And.intro rfl (And.intro rfl (And.intro trivial trivial)))))))))) (And.intro (fun _ _ h => loopZ h) (And.intro (fun m => fun i z hF => ?_) ?_))))
    · have hF : f47_l1 a b (loopF (fun go x => f47_l1 a b go x) m) i = some z := hF
      unfold f47_l1 at hF
      refine Or.inl ?_
      refine Or.inl ?_
      refine condI hF (fun hF => ?_) (fun hF => ?_)
      · refine Or.inl ?_
        refine Or.inl ?_
        refine Exists.intro (.take 0 (.take 1 (.take 2 (.take 3 (.take 4 (.take 5 (.take 6 (.take 7 (.take 8 .done))))))))) (Exists.intro [] (Exists.intro [] (And.intro rfl ?_)))
        refine guardI hF (fun hF => ?_)
        refine guardI hF (fun hF => ?_)
        refine condI hF (fun hF => ?_) (fun hF => ?_)
        · refine Or.inl ?_
          have hz := someE hF
          subst hz
          refine Exists.intro [] (Exists.intro [] (Exists.intro [] (Exists.intro [] (Exists.intro [] (And.intro rfl (And.intro rfl (And.intro trivial trivial)))))))
        · refine Exists.intro (IntKind.i64.wrap (i + (1 : Int))) (And.intro hF (Exists.intro [] (Exists.intro [] (Exists.intro [] (Exists.intro [] (Exists.intro [] (And.intro rfl (And.intro rfl (And.intro rfl (And.intro rfl (And.intro trivial trivial)))))))))))
      · have hz := someE hF
        subst hz
        refine Exists.intro [] (Exists.intro [] (Exists.intro [] (Exists.intro [] (Exists.intro [] (And.intro rfl (And.intro trivial trivial))))))
    · rcases z1 with z1a | z1b
      · dsimp only [sumF] at hF
        refine And.intro ?_ trivial
        have hy := someE hF
        subst hy
        refine And.intro rfl (Exists.intro [] (Exists.intro [] (Exists.intro [] (Exists.intro [] (Exists.intro [] (And.intro rfl (And.intro rfl (And.intro trivial trivial))))))))
      · dsimp only [sumF] at hF
        refine And.intro ?_ trivial
        refine Or.inl ?_
        have hy := someE hF
        subst hy
        refine And.intro rfl (Exists.intro [] (Exists.intro [] (Exists.intro [] (Exists.intro [] (Exists.intro [] (And.intro rfl (And.intro rfl (And.intro trivial trivial))))))))
theorem C47_holds : C47.Holds Tryz.prog 47 := holds_of_vc tab_ok mixed (fn := Tryz.f47) (by kernel_rfl) rfl C47 (fun x y hF => C47_vc x.1 x.2 y hF)
theorem f47_in : ∃ fn, Tryz.prog.funcs[47]? = some fn ∧ fn.body.isSome = true ∧ (fn.name == "runtime.NumGoroutine") = false := ⟨Tryz.f47, by kernel_rfl, by kernel_rfl, by kernel_rfl⟩
end Go.Proofs
namespace Go.Proofs
open Go.AM
-- carousel/carouselref5.Alike
def f19_j1 (a : (List Int) × (List Int)) (b : (List Int) × (List Int)) : Option (Sum Unit Unit) :=
  bindF (f47 a.1 b.1) fun r2 =>
  bif (!r2) then
    some (Sum.inr ())
  else
    bif ((List.length a.2 : Int) != (List.length b.2 : Int)) then
      some (Sum.inr ())
    else
      some (Sum.inl ())
def f19_l2 (a : (List Int) × (List Int)) (b : (List Int) × (List Int)) (go : Int → Option (Sum Unit Unit)) (i : Int) : Option (Sum Unit Unit) :=
  bif (decide (i < (List.length a.2 : Int))) then
    guardF (0 ≤ i ∧ i < (List.length a.2 : Int)) <|
    guardF (0 ≤ i ∧ i < (List.length b.2 : Int)) <|
    bif ((rd (0 : Int) a.2 i) != (rd (0 : Int) b.2 i)) then
      some (Sum.inl ())
    else
      go (IntKind.i64.wrap (i + (1 : Int)))
  else
    some (Sum.inr ())
def f19 (a : (List Int) × (List Int)) (b : (List Int) × (List Int)) : Option Bool :=
  bindF (f19_j1 a b) fun z1 =>
  sumF z1 (fun z1a =>
    bindF (loopF (fun go x => f19_l2 a b go x) fuelN (0 : Int)) fun z3 =>
    sumF z3 (fun z3a =>
      some false) (fun z3b =>
      some true)) (fun z1b =>
    some false)
def C19 : Con where
  X := ((List Int) × (List Int)) × ((List Int) × (List Int))
  Y := Bool
  e := 0
  args x := [.dat (.p (.sl (.int .i64)) (.sl (.int .i64))) x.1, .dat (.p (.sl (.int .i64)) (.sl (.int .i64))) x.2]
  hin x := []
  F x := f19 x.1 x.2
  ret y := [.dat .bool y]
  hout y := []
  nout := 0
theorem C19_vc (a : (List Int) × (List Int)) (b : (List Int) × (List Int)) (y : Bool) (hF : f19 a b = some y) : vc Tryz.prog tab Tryz.f19.ntmps 0 (match Tryz.f19.body with | some c => c | none => .skip) (retK tab C19 Tryz.f19.results.toList y) (C19.shIn (a, b)).st := by
  unfold f19 at hF
  refine Or.inl ?_
  obtain ⟨z1, hz1, hF⟩ := bindE hF
  refine Or.inr ⟨Sum.elim (fun z1a => [(0, ⟨[(2, .raw false [(.ptr 0 0)]), (3, .raw false [(.ptr 1 0)])], [(0, .cells [(.d (.sl (.int .i64)) a.1), (.d (.sl (.int .i64)) a.2)]), (1, .cells [(.d (.sl (.int .i64)) b.1), (.d (.sl (.int .i64)) b.2)])], 2⟩)]) (fun z1b => [(1, ⟨[(4, .dat .bool false)], [], 0⟩)]) z1, ?_, ?_⟩
  · have hF := hz1
    clear hz1
    unfold f19_j1 at hF
    refine Or.inl ?_
    obtain ⟨r2, hr2, hF⟩ := bindE hF
    refine Or.inl (And.intro f47_in (callV0 (callI C47 (a.1, b.1) r2 [] false C47_holds hr2 rfl rfl ?_)))
    refine (And.intro rfl (And.intro rfl (And.intro (fun h => nomatch h) (And.intro rfl (And.intro rfl (And.intro trivial (And.intro trivial ?_)))))))
    refine condN hF (fun hF => ?_) (fun hF => ?_)
    · refine gdYF ?_
      refine gdYF ?_
      refine gdYF ?_
      refine gdYF ?_
      refine gdYF ?_
      refine gdYF ?_
      refine condF ?_
      refine condI hF (fun hF => ?_) (fun hF => ?_)
      · refine Or.inl ?_
        have hz := someE hF
        subst hz
        refine Exists.intro [] (Exists.intro [] (Exists.intro [] (Exists.intro [] (Exists.intro [] (And.intro rfl (And.intro rfl (And.intro trivial trivial)))))))
      · have hz := someE hF
        subst hz
        refine Exists.intro [] (Exists.intro [] (Exists.intro [] (Exists.intro [] (Exists.intro [(0, some 0), (1, some 1)] (And.intro rfl (And.intro (And.intro rfl (And.intro rfl trivial)) (And.intro rfl (And.intro rfl trivial))))))))
    · refine gdNF ?_
      refine gdNF ?_
      refine gdNF ?_
      refine gdNF ?_
      refine gdNF ?_
      refine gdNF ?_
      refine condT ?_
      refine condT ?_
      refine Or.inl ?_
      have hz := someE hF
      subst hz
      refine Exists.intro [] (Exists.intro [] (Exists.intro [] (Exists.intro [] (Exists.intro [] (And.intro rfl (And.intro rfl (And.intro trivial trivial)))))))
  · rcases z1 with z1a | z1b
    · dsimp only [sumF] at hF
      refine And.intro ?_ trivial
      refine Or.inl ?_
      refine Or.inl ?_
      obtain ⟨z3, hz3, hF⟩ := bindE hF
      refine loopI Int (Sum Unit Unit) (fun x => ⟨[(2, .raw false [(.ptr 0 0)]), (3, .raw false [(.ptr 1 0)]), (5, .dat (.int .i64) x)], [(0, .cells [(.d (.sl (.int .i64)) a.1), (.d (.sl (.int .i64)) a.2)]), (1, .cells [(.d (.sl (.int .i64)) b.1), (.d (.sl (.int .i64)) b.2)])], 2⟩) (fun z => Sum.elim (fun za => [(1, ⟨[(4, .dat .bool false)], [], 0⟩)]) (fun zb => [(2, ⟨[], [], 0⟩)]) z) (loopF (fun go x => f19_l2 a b go x)) fuelN (0 : Int) z3 (And.intro hz3 (And.intro (Exists.intro [] (Exists.intro [] (Exists.intro [] (Exists.intro [] (Exists.intro [(0, some 0), (1, some 1)] (And.intro rfl (And.intro rfl (And.intro (And.intro rfl (And.intro rfl trivial)) (And.intro rfl (And.intro rfl trivial)))))))))) (And.intro (fun _ _ h => loopZ h) (And.intro (fun m => fun i z hF => ?_) ?_))))
      · have hF : f19_l2 a b (loopF (fun go x => f19_l2 a b go x) m) i = some z := hF
        unfold f19_l2 at hF
        refine Or.inl ?_
        refine Or.inl ?_
        refine condI hF (fun hF => ?_) (fun hF => ?_)
        · refine Or.inl ?_
          refine Or.inl ?_
          refine Exists.intro (.take 0 (.take 1 (.take 2 (.take 3 (.take 4 (.take 5 (.take 6 (.take 7 (.take 8 (.take 9 (.take 10 .done))))))))))) (Exists.intro [] (Exists.intro [] (And.intro rfl ?_)))
          refine guardI hF (fun hF => ?_)
          refine guardI hF (fun hF => ?_)
          refine condI hF (fun hF => ?_) (fun hF => ?_)
          · refine Or.inl ?_
            have hz := someE hF
            subst hz
            refine Exists.intro [] (Exists.intro [] (Exists.intro [] (Exists.intro [] (Exists.intro [] (And.intro rfl (And.intro rfl (And.intro trivial trivial)))))))
          · refine Exists.intro (IntKind.i64.wrap (i + (1 : Int))) (And.intro hF (Exists.intro [] (Exists.intro [] (Exists.intro [] (Exists.intro [] (Exists.intro [(0, some 0), (1, some 1)] (And.intro rfl (And.intro rfl (And.intro (And.intro rfl (And.intro rfl trivial)) (And.intro rfl (And.intro rfl trivial)))))))))))
        · have hz := someE hF
          subst hz
          refine Exists.intro [] (Exists.intro [] (Exists.intro [] (Exists.intro [] (Exists.intro [] (And.intro rfl (And.intro trivial trivial))))))
      · rcases z3 with z3a | z3b
        · dsimp only [sumF] at hF
          refine And.intro ?_ trivial
          have hy := someE hF
          subst hy
          refine And.intro rfl (Exists.intro [] (Exists.intro [] (Exists.intro [] (Exists.intro [] (Exists.intro [] (And.intro rfl (And.intro rfl (And.intro trivial trivial))))))))
        · dsimp only [sumF] at hF
          refine And.intro ?_ trivial
          refine Or.inl ?_
          have hy := someE hF
          subst hy
          refine And.intro rfl (Exists.intro [] (Exists.intro [] (Exists.intro [] (Exists.intro [] (Exists.intro [] (And.intro rfl (And.intro rfl (And.intro trivial trivial))))))))
    · dsimp only [sumF] at hF
      refine And.intro ?_ trivial
      have hy := someE hF
      subst hy
      refine And.intro rfl (Exists.intro [] (Exists.intro [] (Exists.intro [] (Exists.intro [] (Exists.intro [] (And.intro rfl (And.intro rfl (And.intro trivial trivial))))))))
theorem C19_holds : C19.Holds Tryz.prog 19 := holds_of_vc tab_ok mixed (fn := Tryz.f19) (by kernel_rfl) rfl C19 (fun x y hF => C19_vc x.1 x.2 y hF)
theorem f19_in : ∃ fn, Tryz.prog.funcs[19]? = some fn ∧ fn.body.isSome = true ∧ (fn.name == "runtime.NumGoroutine") = false := ⟨Tryz.f19, by kernel_rfl, by kernel_rfl, by kernel_rfl⟩
end Go.Proofs
namespace Go.Proofs
open Go.AM
-- carousel/carousellaw11.awake
def f12 : Option Bool :=
  bindF (f13) fun q7_23 =>
  bindF (f15 ([(12884901888 : Int)])) fun r1 =>
  bindF (f14 ([]) (r1.2, r1.1)) fun r2 =>
  bindF (f17 r2.2.2 (4 : Int) r2.1 r2.1 (0 : Int)) fun r3 =>
  bindF (f16 r3.2.2 r3.1) fun r4 =>
  bif (r4.1 == (0 : Int)) then
    bif ((List.length r4.2.1 : Int) == (2 : Int)) then
      guardF (0 ≤ (0 : Int) ∧ (0 : Int) < (List.length r4.2.1 : Int)) <|
      bindF (f15 ([(25769803776 : Int)])) fun q7_12 =>
      bindF (f19 ((rd (Ty.z (.p (.sl (.int .i64)) (.sl (.int .i64)))) r4.2.1 (0 : Int)).1, (rd (Ty.z (.p (.sl (.int .i64)) (.sl (.int .i64)))) r4.2.1 (0 : Int)).2) (q7_12.2, q7_12.1)) fun q7_13 =>
      bif q7_13 then
        guardF (0 ≤ (1 : Int) ∧ (1 : Int) < (List.length r4.2.1 : Int)) <|
        bindF (f15 ([(4294967296 : Int)])) fun q7_20 =>
        bindF (f19 ((rd (Ty.z (.p (.sl (.int .i64)) (.sl (.int .i64)))) r4.2.1 (1 : Int)).1, (rd (Ty.z (.p (.sl (.int .i64)) (.sl (.int .i64)))) r4.2.1 (1 : Int)).2) (q7_20.2, q7_20.1)) fun q7_21 =>
        some q7_21
      else
        some false
    else
      some false
  else
    some false
def C12 : Con where
  X := Unit
  Y := Bool
  e := 0
  args x := []
  hin x := []
  F x := f12
  ret y := [.dat .bool y]
  hout y := []
  nout := 0
theorem C12_vc (y : Bool) (hF : f12 = some y) : vc Tryz.prog tab Tryz.f12.ntmps 0 (match Tryz.f12.body with | some c => c | none => .skip) (retK tab C12 Tryz.f12.results.toList y) (C12.shIn ()).st := by
  unfold f12 at hF
  refine Or.inl ?_
  refine Or.inl ?_
  obtain ⟨q7_23, hq7_23, hF⟩ := bindE hF
  refine Or.inl (And.intro f13_in (callV0 (callI C13 () q7_23 [] false C13_holds hq7_23 rfl rfl ?_)))
  refine (And.intro (fun h => nomatch h) (And.intro rfl (And.intro rfl (And.intro trivial (And.intro trivial ?_)))))
  refine Or.inl ?_
  refine Or.inl ?_
  refine condF ?_
  refine Or.inl ?_
  refine Or.inl ?_
  obtain ⟨r1, hr1, hF⟩ := bindE hF
  refine Or.inl (And.intro f15_in (callV0 (callI C15 [(12884901888 : Int)] r1 [] false C15_holds hr1 rfl rfl ?_)))
  refine (And.intro rfl (And.intro (fun h => nomatch h) (And.intro rfl (And.intro rfl (And.intro trivial (And.intro trivial ?_))))))
  obtain ⟨r2, hr2, hF⟩ := bindE hF
  refine Or.inl (And.intro f14_in (callV0 (callI C14 ([], (r1.2, r1.1)) r2 [(0, some 0), (1, some 1)] false C14_holds hr2 rfl rfl ?_)))
  refine (And.intro rfl (And.intro rfl (And.intro (fun h => nomatch h) (And.intro rfl (And.intro rfl (And.intro (And.intro rfl trivial) (And.intro (And.intro rfl (And.intro rfl trivial)) ?_)))))))
  refine Or.inl ?_
  obtain ⟨r3, hr3, hF⟩ := bindE hF
  refine Or.inl (And.intro f17_in (callV0 (callI C17 (r2.2.2, (4 : Int), r2.1, r2.1, (0 : Int)) r3 [(0, some 0), (1, some 6)] false C17_holds hr3 rfl rfl ?_)))
  refine (And.intro rfl (And.intro rfl (And.intro rfl (And.intro rfl (And.intro (fun h => nomatch h) (And.intro rfl (And.intro rfl (And.intro (And.intro rfl trivial) (And.intro (And.intro rfl (And.intro rfl trivial)) ?_)))))))))
  refine Or.inl ?_
  obtain ⟨r4, hr4, hF⟩ := bindE hF
  refine Or.inl (And.intro f16_in (callV0 (callI C16 (r3.2.2, r3.1) r4 [(0, some 0), (1, some 9)] false C16_holds hr4 rfl rfl ?_)))
  refine (And.intro rfl (And.intro (fun h => nomatch h) (And.intro rfl (And.intro rfl (And.intro (And.intro rfl trivial) (And.intro (And.intro rfl (And.intro rfl trivial)) ?_))))))
  refine Or.inl ?_
  refine Exists.intro (.take 0 (.take 1 (.take 2 (.take 3 (.take 4 (.take 5 (.take 6 (.take 7 (.take 8 (.take 9 (.take 10 (.alt 11 (.alt 12 (.alt 13 (.take 14 (.take 15 (.take 16 (.take 17 (.take 18 (.alt 19 (.alt 20 (.alt 21 (.take 22 (.take 23 .done)) .done) .done) .done)))))) .done) .done) .done)))))))))))) (Exists.intro [] (Exists.intro [] (And.intro rfl ?_)))
  refine condI hF (fun hF => ?_) (fun hF => ?_)
  · refine gdYT ?_
    refine gdYT ?_
    refine condT ?_
    refine condI hF (fun hF => ?_) (fun hF => ?_)
    · refine gdYT ?_
      refine guardI hF (fun hF => ?_)
      refine gdYT ?_
      refine And.intro trivial ?_
      refine gdYT ?_
      refine Or.inl ?_
      refine And.intro trivial ?_
      refine gdYT ?_
      obtain ⟨q7_12, hq7_12, hF⟩ := bindE hF
      refine Or.inl (And.intro f15_in (callV0 (callI C15 [(25769803776 : Int)] q7_12 [] false C15_holds hq7_12 rfl rfl ?_)))
      refine (And.intro rfl (And.intro (fun h => nomatch h) (And.intro rfl (And.intro rfl (And.intro trivial (And.intro trivial ?_))))))
      refine And.intro trivial ?_
      refine gdYT ?_
      obtain ⟨q7_13, hq7_13, hF⟩ := bindE hF
      refine Or.inl (And.intro f19_in (callV0 (callI C19 (((rd (Ty.z (.p (.sl (.int .i64)) (.sl (.int .i64)))) r4.2.1 (0 : Int)).1, (rd (Ty.z (.p (.sl (.int .i64)) (.sl (.int .i64)))) r4.2.1 (0 : Int)).2), (q7_12.2, q7_12.1)) q7_13 [] true C19_holds hq7_13 rfl rfl ?_)))
      refine (And.intro rfl (And.intro rfl (And.intro rfl (And.intro rfl (And.intro (fun _ => rfl) (And.intro rfl (And.intro rfl (And.intro trivial (And.intro trivial ?_)))))))))
      refine condT ?_
      refine condI hF (fun hF => ?_) (fun hF => ?_)
      · refine gdYT ?_
        refine guardI hF (fun hF => ?_)
        refine gdYT ?_
        refine And.intro trivial ?_
        refine gdYT ?_
        refine Or.inl ?_
        refine And.intro trivial ?_
        refine gdYT ?_
        obtain ⟨q7_20, hq7_20, hF⟩ := bindE hF
        refine Or.inl (And.intro f15_in (callV0 (callI C15 [(4294967296 : Int)] q7_20 [] false C15_holds hq7_20 rfl rfl ?_)))
        refine (And.intro rfl (And.intro (fun h => nomatch h) (And.intro rfl (And.intro rfl (And.intro trivial (And.intro trivial ?_))))))
        refine And.intro trivial ?_
        refine gdYT ?_
        obtain ⟨q7_21, hq7_21, hF⟩ := bindE hF
        refine Or.inl (And.intro f19_in (callV0 (callI C19 (((rd (Ty.z (.p (.sl (.int .i64)) (.sl (.int .i64)))) r4.2.1 (1 : Int)).1, (rd (Ty.z (.p (.sl (.int .i64)) (.sl (.int .i64)))) r4.2.1 (1 : Int)).2), (q7_20.2, q7_20.1)) q7_21 [] true C19_holds hq7_21 rfl rfl ?_)))
        refine (And.intro rfl (And.intro rfl (And.intro rfl (And.intro rfl (And.intro (fun _ => rfl) (And.intro rfl (And.intro rfl (And.intro trivial (And.intro trivial ?_)))))))))
        refine condT ?_
        have hy := someE hF
        subst hy
        refine And.intro rfl (Exists.intro [] (Exists.intro [] (Exists.intro [] (Exists.intro [] (Exists.intro [] (And.intro rfl (And.intro rfl (And.intro trivial trivial))))))))
      · refine gdNT ?_
        refine gdNT ?_
        refine And.intro trivial ?_
        refine gdNT ?_
        refine And.intro trivial ?_
        refine gdNT ?_
        refine And.intro trivial ?_
        refine gdNT ?_
        refine condF ?_
        have hy := someE hF
        subst hy
        refine And.intro rfl (Exists.intro [] (Exists.intro [] (Exists.intro [] (Exists.intro [] (Exists.intro [] (And.intro rfl (And.intro rfl (And.intro trivial trivial))))))))
    · refine gdNT ?_
      refine gdNT ?_
      refine And.intro trivial ?_
      refine gdNT ?_
      refine And.intro trivial ?_
      refine gdNT ?_
      refine And.intro trivial ?_
      refine gdNT ?_
      refine condF ?_
      refine gdNT ?_
      refine gdNT ?_
      refine gdNT ?_
      refine And.intro trivial ?_
      refine gdNT ?_
      refine And.intro trivial ?_
      refine gdNT ?_
      refine And.intro trivial ?_
      refine gdNT ?_
      refine condF ?_
      have hy := someE hF
      subst hy
      refine And.intro rfl (Exists.intro [] (Exists.intro [] (Exists.intro [] (Exists.intro [] (Exists.intro [] (And.intro rfl (And.intro rfl (And.intro trivial trivial))))))))
  · refine gdNT ?_
    refine gdNT ?_
    refine condF ?_
    refine gdNT ?_
    refine gdNT ?_
    refine gdNT ?_
    refine And.intro trivial ?_
    refine gdNT ?_
    refine And.intro trivial ?_
    refine gdNT ?_
    refine And.intro trivial ?_
    refine gdNT ?_
    refine condF ?_
    refine gdNT ?_
    refine gdNT ?_
    refine gdNT ?_
    refine And.intro trivial ?_
    refine gdNT ?_
    refine And.intro trivial ?_
    refine gdNT ?_
    refine And.intro trivial ?_
    refine gdNT ?_
    refine condF ?_
    have hy := someE hF
    subst hy
    refine And.intro rfl (Exists.intro [] (Exists.intro [] (Exists.intro [] (Exists.intro [] (Exists.intro [] (And.intro rfl (And.intro rfl (And.intro trivial trivial))))))))
theorem C12_holds : C12.Holds Tryz.prog 12 := holds_of_vc tab_ok mixed (fn := Tryz.f12) (by kernel_rfl) rfl C12 (fun x y hF => C12_vc y hF)
theorem f12_in : ∃ fn, Tryz.prog.funcs[12]? = some fn ∧ fn.body.isSome = true ∧ (fn.name == "runtime.NumGoroutine") = false := ⟨Tryz.f12, by kernel_rfl, by kernel_rfl, by kernel_rfl⟩
end Go.Proofs
