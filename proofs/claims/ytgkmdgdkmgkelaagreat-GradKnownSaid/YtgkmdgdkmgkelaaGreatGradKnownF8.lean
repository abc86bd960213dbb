import Derived.Test.YtgkmdgdkmgkelaaGreatGradKnownF7
set_option linter.unusedVariables false
set_option maxRecDepth 100000
set_option maxHeartbeats 8000000
namespace Go.Proofs
open Go.AM
-- carousel/conv.BackKernel
def f119_j4 (g : (List Int) × (List Int)) (a : (List Int) × (List Int)) (step : Int) (wid : Int) : Option Bool :=
  bindF (f86 (g.1, g.2)) fun r15 =>
  bif (!r15) then
    some true
  else
    bindF (f86 (a.1, a.2)) fun r16 =>
    bif (!r16) then
      some true
    else
      bindF (f150 step) fun r17 =>
      bif (!r17) then
        some true
      else
        bindF (f151 wid) fun r18 =>
        some (!r18)
def f119_j5 (g : (List Int) × (List Int)) (a : (List Int) × (List Int)) (step : Int) (wid : Int) : Option Bool :=
  bif ((List.length g.1 : Int) != (2 : Int)) then
    some true
  else
    bif ((List.length a.1 : Int) != (2 : Int)) then
      some true
    else
      guardF (0 ≤ (1 : Int) ∧ (1 : Int) < (List.length a.1 : Int)) <|
      guardF (0 ≤ (1 : Int) ∧ (1 : Int) < (List.length g.1 : Int)) <|
      bindF (f152 (rd (0 : Int) a.1 (1 : Int)) wid step) fun q3_17 =>
      some (q3_17 != (rd (0 : Int) g.1 (1 : Int)))
def f119_j3 (g : (List Int) × (List Int)) (a : (List Int) × (List Int)) (step : Int) (wid : Int) : Option (Sum Unit Int) :=
  bindF (f119_j4 g a step wid) fun z14 =>
  bif z14 then
    some (Sum.inr (1 : Int))
  else
    bindF (f119_j5 g a step wid) fun z19 =>
    bif z19 then
      some (Sum.inr (4 : Int))
    else
      some (Sum.inl ())
def f119_l9 (g : (List Int) × (List Int)) (a : (List Int) × (List Int)) (step : Int) (wid : Int) (v97 : Int) (go : (Int × Int × Int × Int) → Option (Int × Int × Int)) (v114 : Int) (c4_0 : Int) (c4_1 : Int) (c4_2 : Int) : Option (Int × Int × Int) :=
  bif (decide (v114 < (rd (0 : Int) g.1 (1 : Int)))) then
    guardF (0 ≤ (IntKind.i64.wrap ((IntKind.i64.wrap ((IntKind.i64.wrap (Int.tdiv v97 (IntKind.i64.wrap ((rd (0 : Int) a.1 (0 : Int)) * wid)))) * (rd (0 : Int) g.1 (1 : Int)))) + v114)) ∧ (IntKind.i64.wrap ((IntKind.i64.wrap ((IntKind.i64.wrap (Int.tdiv v97 (IntKind.i64.wrap ((rd (0 : Int) a.1 (0 : Int)) * wid)))) * (rd (0 : Int) g.1 (1 : Int)))) + v114)) < (List.length g.2 : Int)) <|
    guardF (0 ≤ (IntKind.i64.wrap ((IntKind.i64.wrap ((IntKind.i64.wrap ((Int.tmod (IntKind.i64.wrap (Int.tdiv v97 wid)) (rd (0 : Int) a.1 (0 : Int))) * (rd (0 : Int) a.1 (1 : Int)))) + (IntKind.i64.wrap (v114 * step)))) + (Int.tmod v97 wid))) ∧ (IntKind.i64.wrap ((IntKind.i64.wrap ((IntKind.i64.wrap ((Int.tmod (IntKind.i64.wrap (Int.tdiv v97 wid)) (rd (0 : Int) a.1 (0 : Int))) * (rd (0 : Int) a.1 (1 : Int)))) + (IntKind.i64.wrap (v114 * step)))) + (Int.tmod v97 wid))) < (List.length a.2 : Int)) <|
    bindF (f154 c4_0 c4_1 c4_2 (rd (0 : Int) g.2 (IntKind.i64.wrap ((IntKind.i64.wrap ((IntKind.i64.wrap (Int.tdiv v97 (IntKind.i64.wrap ((rd (0 : Int) a.1 (0 : Int)) * wid)))) * (rd (0 : Int) g.1 (1 : Int)))) + v114))) (rd (0 : Int) a.2 (IntKind.i64.wrap ((IntKind.i64.wrap ((IntKind.i64.wrap ((Int.tmod (IntKind.i64.wrap (Int.tdiv v97 wid)) (rd (0 : Int) a.1 (0 : Int))) * (rd (0 : Int) a.1 (1 : Int)))) + (IntKind.i64.wrap (v114 * step)))) + (Int.tmod v97 wid))))) fun q17_22 =>
    go ((IntKind.i64.wrap (v114 + (1 : Int))), q17_22.1, q17_22.2.1, q17_22.2.2)
  else
    some (c4_0, c4_1, c4_2)
def f119_l8 (g : (List Int) × (List Int)) (a : (List Int) × (List Int)) (step : Int) (wid : Int) (q5_14 : Int × (List Int) × (List Int)) (go : (Int × (List Int)) → Option (List Int)) (v97 : Int) (l5 : List Int) : Option (List Int) :=
  bif (decide (v97 < (List.length q5_14.2.2 : Int))) then
    guardF ((IntKind.i64.wrap ((rd (0 : Int) a.1 (0 : Int)) * wid)) ≠ 0) <|
    guardF (wid ≠ 0) <|
    guardF ((rd (0 : Int) a.1 (0 : Int)) ≠ 0) <|
    guardF (wid ≠ 0) <|
    bindF (loopF (fun go x => f119_l9 g a step wid v97 go x.1 x.2.1 x.2.2.1 x.2.2.2) fuelN ((0 : Int), (0 : Int), (0 : Int), (0 : Int))) fun z23 =>
    bindF (f155 z23.1 z23.2.1 z23.2.2 (32 : Int)) fun q19_3 =>
    guardF (0 ≤ v97 ∧ v97 < (List.length l5 : Int)) <|
    go ((IntKind.i64.wrap (v97 + (1 : Int))), (List.set l5 (Int.toNat v97) q19_3.1))
  else
    some l5
def f119 (g : (List Int) × (List Int)) (a : (List Int) × (List Int)) (step : Int) (wid : Int) : Option (Int × (List Int) × (List Int)) :=
  bindF (f119_j3 g a step wid) fun z10 =>
  sumF z10 (fun z10a =>
    guardF (0 ≤ (0 : Int) ∧ (0 : Int) < (List.length a.1 : Int)) <|
    guardF (0 ≤ (1 : Int) ∧ (1 : Int) < (List.length a.1 : Int)) <|
    guardF (0 ≤ (1 : Int) ∧ (1 : Int) < (List.length g.1 : Int)) <|
    guardF (0 ≤ (0 : Int) ∧ (0 : Int) < (List.length g.1 : Int)) <|
    bindF (f153 ([(rd (0 : Int) g.1 (0 : Int)), (rd (0 : Int) a.1 (0 : Int)), wid])) fun q5_14 =>
    bif (q5_14.1 != (0 : Int)) then
      some (q5_14.1, [], [])
    else
      bindF (loopF (fun go x => f119_l8 g a step wid q5_14 go x.1 x.2) fuelN ((0 : Int), q5_14.2.2)) fun z22 =>
      some ((0 : Int), q5_14.2.1, z22)) (fun z10b =>
    some (z10b, [], []))
def C119 : Con where
  X := ((List Int) × (List Int)) × ((List Int) × (List Int)) × Int × Int
  Y := Int × (List Int) × (List Int)
  e := 0
  args x := [.dat (.p (.sl (.int .i64)) (.sl (.int .i64))) x.1, .dat (.p (.sl (.int .i64)) (.sl (.int .i64))) x.2.1, .dat (.int .i64) x.2.2.1, .dat (.int .i64) x.2.2.2]
  hin x := []
  F x := f119 x.1 x.2.1 x.2.2.1 x.2.2.2
  ret y := [.raw true [(.osl 0), (.osl 1)], .dat (.int .i64) y.1]
  hout y := [(0, .arr 3 (.int .i64) y.2.1), (1, .arr 23 (.int .i64) y.2.2)]
  nout := 2
theorem C119_vc (g : (List Int) × (List Int)) (a : (List Int) × (List Int)) (step : Int) (wid : Int) (y : Int × (List Int) × (List Int)) (hF : f119 g a step wid = some y) : vc Tryz.prog tab Tryz.f119.ntmps 0 (match Tryz.f119.body with | some c => c | none => .skip) (retK tab C119 Tryz.f119.results.toList y) (C119.shIn (g, a, step, wid)).st := by
  unfold f119 at hF
  refine Or.inl ?_
  obtain ⟨z10, hz10, hF⟩ := bindE hF
  refine Or.inr ⟨Sum.elim (fun z10a => [(0, ⟨[(2, .dat (.int .i64) step), (3, .dat (.int .i64) wid), (4, .raw false [(.ptr 0 0)]), (5, .raw false [(.ptr 1 0)]), (8, .raw false [(.ptr 2 0)])], [(0, .cells [(.d (.sl (.int .i64)) g.1), (.d (.sl (.int .i64)) g.2)]), (1, .cells [(.d (.sl (.int .i64)) a.1), (.d (.sl (.int .i64)) a.2)]), (2, .cells [(.c (.slice none 0 0)), (.c (.slice none 0 0))])], 3⟩)]) (fun z10b => [(1, ⟨[(8, .raw false [(.ptr 0 0)]), (9, .dat (.int .i64) z10b)], [(0, .cells [(.c (.slice none 0 0)), (.c (.slice none 0 0))])], 1⟩)]) z10, ?_, ?_⟩
  · have hF := hz10
    clear hz10
    unfold f119_j3 at hF
    obtain ⟨z14, hz14, hF⟩ := bindE hF
    refine Or.inr ⟨[(0, ⟨[(2, .dat (.int .i64) step), (3, .dat (.int .i64) wid), (4, .raw false [(.ptr 0 0)]), (5, .raw false [(.ptr 1 0)]), (8, .raw false [(.ptr 2 0)]), (21, .dat .bool z14)], [(0, .cells [(.d (.sl (.int .i64)) g.1), (.d (.sl (.int .i64)) g.2)]), (1, .cells [(.d (.sl (.int .i64)) a.1), (.d (.sl (.int .i64)) a.2)]), (2, .cells [(.c (.slice none 0 0)), (.c (.slice none 0 0))])], 3⟩)], ?_, ?_⟩
    · have hF := hz14
      clear hz14
      unfold f119_j4 at hF
      obtain ⟨r15, hr15, hF⟩ := bindE hF
      refine Or.inl (And.intro f86_in (callV0 (callI C86 (g.1, g.2) r15 [] false C86_holds hr15 rfl rfl ?_)))
      refine (And.intro rfl (And.intro rfl (And.intro (fun h => nomatch h) (And.intro rfl (And.intro rfl (And.intro trivial (And.intro trivial ?_)))))))
      refine condN hF (fun hF => ?_) (fun hF => ?_)
      · refine gdYF ?_
        obtain ⟨r16, hr16, hF⟩ := bindE hF
        refine Or.inl (And.intro f86_in (callV0 (callI C86 (a.1, a.2) r16 [] false C86_holds hr16 rfl rfl ?_)))
        refine (And.intro rfl (And.intro rfl (And.intro (fun h => nomatch h) (And.intro rfl (And.intro rfl (And.intro trivial (And.intro trivial ?_)))))))
        refine gdYF ?_
        refine condF ?_
        refine condN hF (fun hF => ?_) (fun hF => ?_)
        · refine gdYF ?_
          obtain ⟨r17, hr17, hF⟩ := bindE hF
          refine Or.inl (And.intro f150_in (callV0 (callI C150 step r17 [] false C150_holds hr17 rfl rfl ?_)))
          refine (And.intro rfl (And.intro (fun h => nomatch h) (And.intro rfl (And.intro rfl (And.intro trivial (And.intro trivial ?_))))))
          refine gdYF ?_
          refine condF ?_
          refine condN hF (fun hF => ?_) (fun hF => ?_)
          · refine gdYF ?_
            obtain ⟨r18, hr18, hF⟩ := bindE hF
            refine Or.inl (And.intro f151_in (callV0 (callI C151 wid r18 [] false C151_holds hr18 rfl rfl ?_)))
            refine (And.intro rfl (And.intro (fun h => nomatch h) (And.intro rfl (And.intro rfl (And.intro trivial (And.intro trivial ?_))))))
            refine gdYF ?_
            refine condF ?_
            have hz := someE hF
            subst hz
            refine Exists.intro [] (Exists.intro [] (Exists.intro [] (Exists.intro [] (Exists.intro [(0, some 0), (1, some 1), (2, some 2)] (And.intro rfl (And.intro rfl (And.intro rfl (And.intro rfl (And.intro (And.intro rfl (And.intro rfl (And.intro rfl trivial))) (And.intro rfl (And.intro rfl (And.intro rfl trivial))))))))))))
          · refine gdNF ?_
            refine gdNF ?_
            refine condT ?_
            have hz := someE hF
            subst hz
            refine Exists.intro [] (Exists.intro [] (Exists.intro [] (Exists.intro [] (Exists.intro [(0, some 0), (1, some 1), (2, some 2)] (And.intro rfl (And.intro rfl (And.intro rfl (And.intro rfl (And.intro (And.intro rfl (And.intro rfl (And.intro rfl trivial))) (And.intro rfl (And.intro rfl (And.intro rfl trivial))))))))))))
        · refine gdNF ?_
          refine gdNF ?_
          refine condT ?_
          refine gdNF ?_
          refine gdNF ?_
          refine gdNF ?_
          refine condT ?_
          have hz := someE hF
          subst hz
          refine Exists.intro [] (Exists.intro [] (Exists.intro [] (Exists.intro [] (Exists.intro [(0, some 0), (1, some 1), (2, some 2)] (And.intro rfl (And.intro rfl (And.intro rfl (And.intro rfl (And.intro (And.intro rfl (And.intro rfl (And.intro rfl trivial))) (And.intro rfl (And.intro rfl (And.intro rfl trivial))))))))))))
      · refine gdNF ?_
        refine gdNF ?_
        refine condT ?_
        refine gdNF ?_
        refine gdNF ?_
        refine gdNF ?_
        refine condT ?_
        refine gdNF ?_
        refine gdNF ?_
        refine gdNF ?_
        refine condT ?_
        have hz := someE hF
        subst hz
        refine Exists.intro [] (Exists.intro [] (Exists.intro [] (Exists.intro [] (Exists.intro [(0, some 0), (1, some 1), (2, some 2)] (And.intro rfl (And.intro rfl (And.intro rfl (And.intro rfl (And.intro (And.intro rfl (And.intro rfl (And.intro rfl trivial))) (And.intro rfl (And.intro rfl (And.intro rfl trivial))))))))))))
    · refine And.intro ?_ trivial
      refine condI hF (fun hF => ?_) (fun hF => ?_)
      · refine Or.inl ?_
        refine Or.inl ?_
        have hz := someE hF
        subst hz
        refine Exists.intro [] (Exists.intro [] (Exists.intro [] (Exists.intro [] (Exists.intro [(0, some 2)] (And.intro rfl (And.intro rfl (And.intro (And.intro rfl trivial) (And.intro rfl trivial))))))))
      · obtain ⟨z19, hz19, hF⟩ := bindE hF
        refine Or.inr ⟨[(0, ⟨[(2, .dat (.int .i64) step), (3, .dat (.int .i64) wid), (4, .raw false [(.ptr 0 0)]), (5, .raw false [(.ptr 1 0)]), (8, .raw false [(.ptr 2 0)]), (41, .dat .bool z19)], [(0, .cells [(.d (.sl (.int .i64)) g.1), (.d (.sl (.int .i64)) g.2)]), (1, .cells [(.d (.sl (.int .i64)) a.1), (.d (.sl (.int .i64)) a.2)]), (2, .cells [(.c (.slice none 0 0)), (.c (.slice none 0 0))])], 3⟩)], ?_, ?_⟩
        · have hF := hz19
          clear hz19
          unfold f119_j5 at hF
          refine Exists.intro (.take 0 (.take 1 (.take 2 (.take 3 (.take 4 (.take 5 (.take 6 (.take 7 (.take 8 (.take 9 (.take 10 (.take 11 (.take 12 (.take 13 (.take 14 (.take 15 (.take 16 (.take 18 (.take 19 (.take 20 (.take 21 (.alt 17 (.take 22 (.take 23 (.take 24 .done))) .done)))))))))))))))))))))) (Exists.intro [] (Exists.intro [] (And.intro rfl ?_)))
          refine condN hF (fun hF => ?_) (fun hF => ?_)
          · refine gdYF ?_
            refine gdYF ?_
            refine gdYF ?_
            refine condF ?_
            refine condN hF (fun hF => ?_) (fun hF => ?_)
            · refine gdYF ?_
              refine gdYF ?_
              refine guardI hF (fun hF => ?_)
              refine gdYF ?_
              refine gdYF ?_
              refine gdYF ?_
              refine gdYF ?_
              refine gdYF ?_
              refine gdYF ?_
              refine guardI hF (fun hF => ?_)
              refine gdYF ?_
              refine And.intro trivial ?_
              refine gdYF ?_
              obtain ⟨q3_17, hq3_17, hF⟩ := bindE hF
              refine Or.inl (And.intro f152_in (callV0 (callI C152 ((rd (0 : Int) a.1 (1 : Int)), wid, step) q3_17 [] false C152_holds hq3_17 rfl rfl ?_)))
              refine (And.intro rfl (And.intro rfl (And.intro rfl (And.intro (fun h => nomatch h) (And.intro rfl (And.intro rfl (And.intro trivial (And.intro trivial ?_))))))))
              refine gdYF ?_
              refine condF ?_
              have hz := someE hF
              subst hz
              refine Exists.intro [] (Exists.intro [] (Exists.intro [] (Exists.intro [] (Exists.intro [(0, some 0), (1, some 1), (2, some 2)] (And.intro rfl (And.intro rfl (And.intro rfl (And.intro rfl (And.intro (And.intro rfl (And.intro rfl (And.intro rfl trivial))) (And.intro rfl (And.intro rfl (And.intro rfl trivial))))))))))))
            · refine gdNF ?_
              refine gdNF ?_
              refine gdNF ?_
              refine gdNF ?_
              refine gdNF ?_
              refine gdNF ?_
              refine gdNF ?_
              refine gdNF ?_
              refine gdNF ?_
              refine And.intro trivial ?_
              refine gdNF ?_
              refine gdNF ?_
              refine condT ?_
              have hz := someE hF
              subst hz
              refine Exists.intro [] (Exists.intro [] (Exists.intro [] (Exists.intro [] (Exists.intro [(0, some 0), (1, some 1), (2, some 2)] (And.intro rfl (And.intro rfl (And.intro rfl (And.intro rfl (And.intro (And.intro rfl (And.intro rfl (And.intro rfl trivial))) (And.intro rfl (And.intro rfl (And.intro rfl trivial))))))))))))
          · refine gdNF ?_
            refine gdNF ?_
            refine gdNF ?_
            refine condT ?_
            refine gdNF ?_
            refine gdNF ?_
            refine gdNF ?_
            refine gdNF ?_
            refine gdNF ?_
            refine gdNF ?_
            refine gdNF ?_
            refine gdNF ?_
            refine gdNF ?_
            refine gdNF ?_
            refine And.intro trivial ?_
            refine gdNF ?_
            refine gdNF ?_
            refine condT ?_
            have hz := someE hF
            subst hz
            refine Exists.intro [] (Exists.intro [] (Exists.intro [] (Exists.intro [] (Exists.intro [(0, some 0), (1, some 1), (2, some 2)] (And.intro rfl (And.intro rfl (And.intro rfl (And.intro rfl (And.intro (And.intro rfl (And.intro rfl (And.intro rfl trivial))) (And.intro rfl (And.intro rfl (And.intro rfl trivial))))))))))))
        · refine And.intro ?_ trivial
          refine condI hF (fun hF => ?_) (fun hF => ?_)
          · refine Or.inl ?_
            refine Or.inl ?_
            have hz := someE hF
            subst hz
            refine Exists.intro [] (Exists.intro [] (Exists.intro [] (Exists.intro [] (Exists.intro [(0, some 2)] (And.intro rfl (And.intro rfl (And.intro (And.intro rfl trivial) (And.intro rfl trivial))))))))
          · have hz := someE hF
            subst hz
            refine Exists.intro [] (Exists.intro [] (Exists.intro [] (Exists.intro [] (Exists.intro [(0, some 0), (1, some 1), (2, some 2)] (And.intro rfl (And.intro rfl (And.intro rfl (And.intro (And.intro rfl (And.intro rfl (And.intro rfl trivial))) (And.intro rfl (And.intro rfl (And.intro rfl trivial)))))))))))
  · rcases z10 with z10a | z10b
    · dsimp only [sumF] at hF
      refine And.intro ?_ trivial
      refine Or.inl ?_
      refine Exists.intro (.take 0 (.take 1 (.take 2 (.take 3 (.take 4 (.take 5 (.take 6 (.take 7 (.take 8 (.take 9 (.take 10 (.take 11 (.take 12 (.take 13 (.take 14 .done))))))))))))))) (Exists.intro [] (Exists.intro [] (And.intro rfl ?_)))
      refine guardI hF (fun hF => ?_)
      refine guardI hF (fun hF => ?_)
      refine guardI hF (fun hF => ?_)
      refine Or.inl ?_
      refine guardI hF (fun hF => ?_)
      refine Or.inl ?_
      obtain ⟨q5_14, hq5_14, hF⟩ := bindE hF
      refine Or.inl (And.intro f153_in (callV0 (callI C153 [(rd (0 : Int) g.1 (0 : Int)), (rd (0 : Int) a.1 (0 : Int)), wid] q5_14 [] true C153_holds hq5_14 rfl rfl ?_)))
      refine (And.intro rfl (And.intro (fun _ => rfl) (And.intro rfl (And.intro rfl (And.intro trivial (And.intro trivial ?_))))))
      refine Or.inl ?_
      refine Or.inl ?_
      refine Or.inl ?_
      refine condI hF (fun hF => ?_) (fun hF => ?_)
      · refine Or.inl ?_
        refine Or.inl ?_
        have hy := someE hF
        subst hy
        refine And.intro rfl (Exists.intro [] (Exists.intro [] (Exists.intro [] (Exists.intro [] (Exists.intro [(0, none), (1, none)] (And.intro rfl (And.intro rfl (And.intro (And.intro rfl trivial) (And.intro rfl (And.intro rfl trivial))))))))))
      · refine Or.inl ?_
        refine Or.inl ?_
        obtain ⟨z22, hz22, hF⟩ := bindE hF
        refine loopI (Int × (List Int)) (List Int) (fun x => ⟨[(2, .dat (.int .i64) step), (3, .dat (.int .i64) wid), (4, .raw false [(.ptr 0 0)]), (5, .raw false [(.ptr 1 0)]), (8, .raw false [(.ptr 2 0)]), (10, .dat (.int .i64) (rd (0 : Int) a.1 (0 : Int))), (11, .dat (.int .i64) (rd (0 : Int) a.1 (1 : Int))), (12, .dat (.int .i64) (rd (0 : Int) g.1 (1 : Int))), (13, .raw false [(.ptr 3 0)]), (96, .dat (.int .i64) (List.length q5_14.2.2 : Int)), (97, .dat (.int .i64) x.1)], [(0, .cells [(.d (.sl (.int .i64)) g.1), (.d (.sl (.int .i64)) g.2)]), (1, .cells [(.d (.sl (.int .i64)) a.1), (.d (.sl (.int .i64)) a.2)]), (2, .cells [(.c (.slice none 0 0)), (.c (.slice none 0 0))]), (3, .cells [(.osl 4), (.osl 5)]), (4, .arr 3 (.int .i64) q5_14.2.1), (5, .arr 23 (.int .i64) x.2)], 6⟩) (fun z => [(3, ⟨[(8, .raw false [(.ptr 0 0)]), (13, .raw false [(.ptr 1 0)])], [(0, .cells [(.c (.slice none 0 0)), (.c (.slice none 0 0))]), (1, .cells [(.osl 2), (.osl 3)]), (2, .arr 3 (.int .i64) q5_14.2.1), (3, .arr 23 (.int .i64) z)], 4⟩)]) (loopF (fun go x => f119_l8 g a step wid q5_14 go x.1 x.2)) fuelN ((0 : Int), q5_14.2.2) z22 (And.intro hz22 (And.intro (Exists.intro [] (Exists.intro [] (Exists.intro [] (Exists.intro [] (Exists.intro [(0, some 0), (1, some 1), (2, some 2), (3, some 6), (4, some 4), (5, some 5)] (And.intro rfl (And.intro rfl (And.intro rfl (And.intro rfl (And.intro rfl (And.intro rfl (And.intro rfl (And.intro rfl (And.intro (And.intro rfl (And.intro rfl (And.intro rfl (And.intro rfl trivial)))) (And.intro rfl (And.intro rfl (And.intro rfl (And.intro rfl (And.intro rfl (And.intro rfl trivial)))))))))))))))))))) (And.intro (fun _ _ h => loopZ h) (And.intro (fun m => curI (fun v97 => fun l5 z hF => ?_)) ?_))))
        · have hF : f119_l8 g a step wid q5_14 (loopF (fun go x => f119_l8 g a step wid q5_14 go x.1 x.2) m) v97 l5 = some z := hF
          unfold f119_l8 at hF
          refine Or.inl ?_
          refine Or.inl ?_
          refine condI hF (fun hF => ?_) (fun hF => ?_)
          · refine Or.inl ?_
            refine Or.inl ?_
            refine Or.inl ?_
            refine Exists.intro (.take 0 (.take 1 (.take 2 (.take 3 (.take 4 (.take 5 (.take 6 (.take 7 (.take 8 (.take 9 (.take 10 (.take 11 (.take 12 (.take 13 (.take 14 (.take 15 .done)))))))))))))))) (Exists.intro [] (Exists.intro [] (And.intro rfl ?_)))
            refine guardI hF (fun hF => ?_)
            refine guardI hF (fun hF => ?_)
            refine guardI hF (fun hF => ?_)
            refine guardI hF (fun hF => ?_)
            refine Or.inl ?_
            refine Or.inl ?_
            refine Or.inl ?_
            obtain ⟨z23, hz23, hF⟩ := bindE hF
            refine loopI (Int × Int × Int × Int) (Int × Int × Int) (fun x => ⟨[(2, .dat (.int .i64) step), (3, .dat (.int .i64) wid), (4, .raw false [(.ptr 0 0)]), (5, .raw false [(.ptr 1 0)]), (8, .raw false [(.ptr 2 0)]), (10, .dat (.int .i64) (rd (0 : Int) a.1 (0 : Int))), (11, .dat (.int .i64) (rd (0 : Int) a.1 (1 : Int))), (12, .dat (.int .i64) (rd (0 : Int) g.1 (1 : Int))), (13, .raw false [(.ptr 3 0)]), (15, .dat (.int .i64) v97), (16, .dat (.int .i64) (IntKind.i64.wrap (Int.tdiv v97 (IntKind.i64.wrap ((rd (0 : Int) a.1 (0 : Int)) * wid))))), (17, .dat (.int .i64) (Int.tmod (IntKind.i64.wrap (Int.tdiv v97 wid)) (rd (0 : Int) a.1 (0 : Int)))), (18, .dat (.int .i64) (Int.tmod v97 wid)), (19, .raw false [(.ptr 4 0)]), (96, .dat (.int .i64) (List.length q5_14.2.2 : Int)), (97, .dat (.int .i64) v97), (113, .dat (.int .i64) (rd (0 : Int) g.1 (1 : Int))), (114, .dat (.int .i64) x.1)], [(0, .cells [(.d (.sl (.int .i64)) g.1), (.d (.sl (.int .i64)) g.2)]), (1, .cells [(.d (.sl (.int .i64)) a.1), (.d (.sl (.int .i64)) a.2)]), (2, .cells [(.c (.slice none 0 0)), (.c (.slice none 0 0))]), (3, .cells [(.osl 5), (.osl 6)]), (4, .cells [(.d (.int .i64) x.2.1), (.d (.int .i64) x.2.2.1), (.d (.int .u64) x.2.2.2)]), (5, .arr 3 (.int .i64) q5_14.2.1), (6, .arr 23 (.int .i64) l5)], 7⟩) (fun z => [(5, ⟨[(2, .dat (.int .i64) step), (3, .dat (.int .i64) wid), (4, .raw false [(.ptr 0 0)]), (5, .raw false [(.ptr 1 0)]), (8, .raw false [(.ptr 2 0)]), (10, .dat (.int .i64) (rd (0 : Int) a.1 (0 : Int))), (11, .dat (.int .i64) (rd (0 : Int) a.1 (1 : Int))), (12, .dat (.int .i64) (rd (0 : Int) g.1 (1 : Int))), (13, .raw false [(.ptr 3 0)]), (15, .dat (.int .i64) v97), (19, .raw false [(.ptr 4 0)]), (96, .dat (.int .i64) (List.length q5_14.2.2 : Int)), (97, .dat (.int .i64) v97)], [(0, .cells [(.d (.sl (.int .i64)) g.1), (.d (.sl (.int .i64)) g.2)]), (1, .cells [(.d (.sl (.int .i64)) a.1), (.d (.sl (.int .i64)) a.2)]), (2, .cells [(.c (.slice none 0 0)), (.c (.slice none 0 0))]), (3, .cells [(.osl 5), (.osl 6)]), (4, .cells [(.d (.int .i64) z.1), (.d (.int .i64) z.2.1), (.d (.int .u64) z.2.2)]), (5, .arr 3 (.int .i64) q5_14.2.1), (6, .arr 23 (.int .i64) l5)], 7⟩)]) (loopF (fun go x => f119_l9 g a step wid v97 go x.1 x.2.1 x.2.2.1 x.2.2.2)) fuelN ((0 : Int), (0 : Int), (0 : Int), (0 : Int)) z23 (And.intro hz23 (And.intro (Exists.intro [] (Exists.intro [] (Exists.intro [] (Exists.intro [] (Exists.intro [(0, some 0), (1, some 1), (2, some 2), (3, some 3), (4, some 6), (5, some 4), (6, some 5)] (And.intro rfl (And.intro rfl (And.intro rfl (And.intro rfl (And.intro rfl (And.intro rfl (And.intro rfl (And.intro rfl (And.intro rfl (And.intro rfl (And.intro rfl (And.intro rfl (And.intro rfl (And.intro rfl (And.intro (And.intro rfl (And.intro rfl (And.intro rfl (And.intro rfl (And.intro rfl trivial))))) (And.intro rfl (And.intro rfl (And.intro rfl (And.intro rfl (And.intro rfl (And.intro rfl (And.intro rfl trivial))))))))))))))))))))))))))) (And.intro (fun _ _ h => loopZ h) (And.intro (fun m => curI (fun v114 => curI (fun c4_0 => curI (fun c4_1 => fun c4_2 z hF => ?_)))) ?_))))
            · have hF : f119_l9 g a step wid v97 (loopF (fun go x => f119_l9 g a step wid v97 go x.1 x.2.1 x.2.2.1 x.2.2.2) m) v114 c4_0 c4_1 c4_2 = some z := hF
              unfold f119_l9 at hF
              refine Or.inl ?_
              refine Or.inl ?_
              refine condI hF (fun hF => ?_) (fun hF => ?_)
              · refine Or.inl ?_
                refine Or.inl ?_
                refine Exists.intro (.take 0 (.take 1 (.take 2 (.take 3 (.take 4 (.take 5 (.take 6 (.take 7 (.take 8 (.take 9 (.take 10 (.take 11 (.take 12 (.take 13 (.take 14 (.take 15 (.take 16 (.take 17 (.take 18 (.take 19 (.take 20 (.take 21 (.alt 22 .done .done))))))))))))))))))))))) (Exists.intro [] (Exists.intro [] (And.intro rfl ?_)))
                refine guardI hF (fun hF => ?_)
                refine guardI hF (fun hF => ?_)
                refine And.intro trivial ?_
                obtain ⟨q17_22, hq17_22, hF⟩ := bindE hF
                refine Or.inl (And.intro f154_in (callV0 (callI C154 (c4_0, c4_1, c4_2, (rd (0 : Int) g.2 (IntKind.i64.wrap ((IntKind.i64.wrap ((IntKind.i64.wrap (Int.tdiv v97 (IntKind.i64.wrap ((rd (0 : Int) a.1 (0 : Int)) * wid)))) * (rd (0 : Int) g.1 (1 : Int)))) + v114))), (rd (0 : Int) a.2 (IntKind.i64.wrap ((IntKind.i64.wrap ((IntKind.i64.wrap ((Int.tmod (IntKind.i64.wrap (Int.tdiv v97 wid)) (rd (0 : Int) a.1 (0 : Int))) * (rd (0 : Int) a.1 (1 : Int)))) + (IntKind.i64.wrap (v114 * step)))) + (Int.tmod v97 wid))))) q17_22 [(0, some 4)] false C154_holds hq17_22 rfl rfl ?_)))
                refine (And.intro rfl (And.intro rfl (And.intro (fun h => nomatch h) (And.intro rfl (And.intro rfl (And.intro (And.intro rfl trivial) (And.intro (And.intro rfl trivial) ?_)))))))
                refine Exists.intro ((IntKind.i64.wrap (v114 + (1 : Int))), q17_22.1, q17_22.2.1, q17_22.2.2) (And.intro hF (Exists.intro [] (Exists.intro [] (Exists.intro [] (Exists.intro [] (Exists.intro [(0, some 0), (1, some 1), (2, some 2), (3, some 3), (4, some 4), (5, some 5), (6, some 6)] (And.intro rfl (And.intro rfl (And.intro rfl (And.intro rfl (And.intro rfl (And.intro rfl (And.intro rfl (And.intro rfl (And.intro rfl (And.intro rfl (And.intro rfl (And.intro rfl (And.intro rfl (And.intro rfl (And.intro (And.intro rfl (And.intro rfl (And.intro rfl (And.intro rfl (And.intro rfl trivial))))) (And.intro rfl (And.intro rfl (And.intro rfl (And.intro rfl (And.intro rfl (And.intro rfl (And.intro rfl trivial))))))))))))))))))))))))))))
              · have hz := someE hF
                subst hz
                refine Exists.intro [] (Exists.intro [] (Exists.intro [] (Exists.intro [] (Exists.intro [(0, some 0), (1, some 1), (2, some 2), (3, some 3), (4, some 4), (5, some 5), (6, some 6)] (And.intro rfl (And.intro rfl (And.intro rfl (And.intro rfl (And.intro rfl (And.intro rfl (And.intro rfl (And.intro rfl (And.intro rfl (And.intro (And.intro rfl (And.intro rfl (And.intro rfl (And.intro rfl (And.intro rfl trivial))))) (And.intro rfl (And.intro rfl (And.intro rfl (And.intro rfl (And.intro rfl (And.intro rfl (And.intro rfl trivial)))))))))))))))))))))
            · refine And.intro ?_ trivial
              refine Exists.intro (.take 0 (.take 1 (.take 2 (.alt 3 (.take 4 (.alt 5 .done .done)) .done)))) (Exists.intro [] (Exists.intro [] (And.intro rfl ?_)))
              refine And.intro trivial ?_
              obtain ⟨q19_3, hq19_3, hF⟩ := bindE hF
              refine Or.inl (And.intro f155_in (callV0 (callI C155 (z23.1, z23.2.1, z23.2.2, (32 : Int)) q19_3 [(0, some 4)] false C155_holds hq19_3 rfl rfl ?_)))
              refine (And.intro rfl (And.intro (fun h => nomatch h) (And.intro rfl (And.intro rfl (And.intro (And.intro rfl trivial) (And.intro (And.intro rfl trivial) ?_))))))
              refine guardI hF (fun hF => ?_)
              refine And.intro trivial ?_
              refine Or.inl ?_
              refine Exists.intro ((IntKind.i64.wrap (v97 + (1 : Int))), (List.set l5 (Int.toNat v97) q19_3.1)) (And.intro hF (Exists.intro [] (Exists.intro [] (Exists.intro [] (Exists.intro [] (Exists.intro [(0, some 0), (1, some 1), (2, some 2), (3, some 3), (4, some 5), (5, some 6)] (And.intro rfl (And.intro rfl (And.intro rfl (And.intro rfl (And.intro rfl (And.intro rfl (And.intro rfl (And.intro rfl (And.intro (And.intro rfl (And.intro rfl (And.intro rfl (And.intro rfl trivial)))) (And.intro rfl (And.intro rfl (And.intro rfl (And.intro rfl (And.intro rfl (And.intro rfl trivial)))))))))))))))))))))
          · have hz := someE hF
            subst hz
            refine Exists.intro [] (Exists.intro [] (Exists.intro [] (Exists.intro [] (Exists.intro [(0, some 2), (1, some 3), (2, some 4), (3, some 5)] (And.intro rfl (And.intro (And.intro rfl (And.intro rfl trivial)) (And.intro rfl (And.intro rfl (And.intro rfl (And.intro rfl trivial))))))))))
        · refine And.intro ?_ trivial
          refine Or.inl ?_
          refine Or.inl ?_
          have hy := someE hF
          subst hy
          refine And.intro rfl (Exists.intro [] (Exists.intro [] (Exists.intro [] (Exists.intro [] (Exists.intro [(0, some 2), (1, some 3)] (And.intro rfl (And.intro rfl (And.intro (And.intro rfl trivial) (And.intro rfl (And.intro rfl trivial))))))))))
    · dsimp only [sumF] at hF
      refine And.intro ?_ trivial
      have hy := someE hF
      subst hy
      refine And.intro rfl (Exists.intro [] (Exists.intro [] (Exists.intro [] (Exists.intro [] (Exists.intro [(0, none), (1, none)] (And.intro rfl (And.intro rfl (And.intro (And.intro rfl trivial) (And.intro rfl (And.intro rfl trivial))))))))))
theorem C119_holds : C119.Holds Tryz.prog 119 := holds_of_vc tab_ok mixed (fn := Tryz.f119) (by kernel_rfl) rfl C119 (fun x y hF => C119_vc x.1 x.2.1 x.2.2.1 x.2.2.2 y hF)
theorem f119_in : ∃ fn, Tryz.prog.funcs[119]? = some fn ∧ fn.body.isSome = true ∧ (fn.name == "runtime.NumGoroutine") = false := ⟨Tryz.f119, by kernel_rfl, by kernel_rfl, by kernel_rfl⟩
end Go.Proofs
namespace Go.Proofs
open Go.AM
-- carousel/back.forB
def f89 (n : Int × Int × Int × Int × (List Int) × (List Int)) (a : (List Int) × (List Int)) (b : (List Int) × (List Int)) (g : (List Int) × (List Int)) : Option (Int × (List Int) × (List Int)) :=
  bif (n.1 == (2 : Int)) then
    bindF (f108 (g.1, g.2) b.1) fun q13_12 =>
    some (q13_12.1, q13_12.2.1, q13_12.2.2)
  else
    bif (n.1 == (3 : Int)) then
      bindF (f111 (g.1, g.2) (-4294967296 : Int)) fun r1 =>
      bindF (f110 (r1.2.1, r1.2.2) r1.1 b.1) fun r2 =>
      some (r2.1, r2.2.1, r2.2.2)
    else
      bif (n.1 == (4 : Int)) then
        bindF (f109 (g.1, g.2) (a.1, a.2)) fun r3 =>
        bindF (f110 (r3.2.1, r3.2.2) r3.1 b.1) fun r4 =>
        some (r4.1, r4.2.1, r4.2.2)
      else
        bif (n.1 == (6 : Int)) then
          bindF (f112 (a.1, a.2) (g.1, g.2) true) fun r5 =>
          some (r5.1, r5.2.1, r5.2.2)
        else
          bif (n.1 == (12 : Int)) then
            guardF (0 ≤ (2 : Int) ∧ (2 : Int) < (List.length b.1 : Int)) <|
            bindF (f119 (g.1, g.2) (a.1, a.2) n.2.2.2.1 (rd (0 : Int) b.1 (2 : Int))) fun q13_8 =>
            some (q13_8.1, q13_8.2.1, q13_8.2.2)
          else
            some ((0 : Int), [], [])
def C89 : Con where
  X := (Int × Int × Int × Int × (List Int) × (List Int)) × ((List Int) × (List Int)) × ((List Int) × (List Int)) × ((List Int) × (List Int))
  Y := Int × (List Int) × (List Int)
  e := 0
  args x := [.dat (.p (.int .i64) (.p (.int .i64) (.p (.int .i64) (.p (.int .i64) (.p (.sl (.int .i64)) (.sl (.int .i64))))))) x.1, .dat (.p (.sl (.int .i64)) (.sl (.int .i64))) x.2.1, .dat (.p (.sl (.int .i64)) (.sl (.int .i64))) x.2.2.1, .dat (.p (.sl (.int .i64)) (.sl (.int .i64))) x.2.2.2]
  hin x := []
  F x := f89 x.1 x.2.1 x.2.2.1 x.2.2.2
  ret y := [.raw true [(.osl 0), (.osl 1)], .dat (.int .i64) y.1]
  hout y := [(0, .arr 3 (.int .i64) y.2.1), (1, .arr 23 (.int .i64) y.2.2)]
  nout := 2
theorem C89_vc (n : Int × Int × Int × Int × (List Int) × (List Int)) (a : (List Int) × (List Int)) (b : (List Int) × (List Int)) (g : (List Int) × (List Int)) (y : Int × (List Int) × (List Int)) (hF : f89 n a b g = some y) : vc Tryz.prog tab Tryz.f89.ntmps 0 (match Tryz.f89.body with | some c => c | none => .skip) (retK tab C89 Tryz.f89.results.toList y) (C89.shIn (n, a, b, g)).st := by
  unfold f89 at hF
  refine Or.inl ?_
  refine Or.inl ?_
  refine Or.inl ?_
  refine Or.inl ?_
  refine condI hF (fun hF => ?_) (fun hF => ?_)
  · refine Or.inl ?_
    obtain ⟨q13_12, hq13_12, hF⟩ := bindE hF
    refine Or.inl (And.intro f108_in (callV0 (callI C108 ((g.1, g.2), b.1) q13_12 [] false C108_holds hq13_12 rfl rfl ?_)))
    refine (And.intro rfl (And.intro rfl (And.intro rfl (And.intro (fun h => nomatch h) (And.intro rfl (And.intro rfl (And.intro trivial (And.intro trivial ?_))))))))
    refine Or.inl ?_
    have hy := someE hF
    subst hy
    refine And.intro rfl (Exists.intro [] (Exists.intro [] (Exists.intro [] (Exists.intro [] (Exists.intro [(0, some 5), (1, some 6)] (And.intro rfl (And.intro rfl (And.intro (And.intro rfl trivial) (And.intro rfl (And.intro rfl trivial))))))))))
  · refine Or.inl ?_
    refine condI hF (fun hF => ?_) (fun hF => ?_)
    · refine Or.inl ?_
      obtain ⟨r1, hr1, hF⟩ := bindE hF
      have hr1 : C111.F ((g.1, g.2), (-4294967296 : Int)) = some r1 := hr1
      refine Or.inl (And.intro f111_in (callV0 (callI C111 _ r1 [] false C111_holds hr1 rfl rfl ?_)))
      refine (And.intro rfl (And.intro rfl (And.intro rfl (And.intro (fun h => nomatch h) (And.intro rfl (And.intro rfl (And.intro trivial (And.intro trivial ?_))))))))
      refine Or.inl ?_
      refine Or.inl ?_
      obtain ⟨r2, hr2, hF⟩ := bindE hF
      refine Or.inl (And.intro f110_in (callV0 (callI C110 ((r1.2.1, r1.2.2), r1.1, b.1) r2 [] true C110_holds hr2 rfl rfl ?_)))
      refine (And.intro rfl (And.intro rfl (And.intro rfl (And.intro rfl (And.intro (fun _ => rfl) (And.intro rfl (And.intro rfl (And.intro trivial (And.intro trivial ?_)))))))))
      refine Or.inl ?_
      have hy := someE hF
      subst hy
      refine And.intro rfl (Exists.intro [] (Exists.intro [] (Exists.intro [] (Exists.intro [] (Exists.intro [(0, some 8), (1, some 9)] (And.intro rfl (And.intro rfl (And.intro (And.intro rfl trivial) (And.intro rfl (And.intro rfl trivial))))))))))
    · refine Or.inl ?_
      refine condI hF (fun hF => ?_) (fun hF => ?_)
      · refine Or.inl ?_
        obtain ⟨r3, hr3, hF⟩ := bindE hF
        refine Or.inl (And.intro f109_in (callV0 (callI C109 ((g.1, g.2), (a.1, a.2)) r3 [] false C109_holds hr3 rfl rfl ?_)))
        refine (And.intro rfl (And.intro rfl (And.intro rfl (And.intro rfl (And.intro (fun h => nomatch h) (And.intro rfl (And.intro rfl (And.intro trivial (And.intro trivial ?_)))))))))
        refine Or.inl ?_
        refine Or.inl ?_
        obtain ⟨r4, hr4, hF⟩ := bindE hF
        refine Or.inl (And.intro f110_in (callV0 (callI C110 ((r3.2.1, r3.2.2), r3.1, b.1) r4 [] true C110_holds hr4 rfl rfl ?_)))
        refine (And.intro rfl (And.intro rfl (And.intro rfl (And.intro rfl (And.intro (fun _ => rfl) (And.intro rfl (And.intro rfl (And.intro trivial (And.intro trivial ?_)))))))))
        refine Or.inl ?_
        have hy := someE hF
        subst hy
        refine And.intro rfl (Exists.intro [] (Exists.intro [] (Exists.intro [] (Exists.intro [] (Exists.intro [(0, some 8), (1, some 9)] (And.intro rfl (And.intro rfl (And.intro (And.intro rfl trivial) (And.intro rfl (And.intro rfl trivial))))))))))
      · refine Or.inl ?_
        refine condI hF (fun hF => ?_) (fun hF => ?_)
        · refine Or.inl ?_
          obtain ⟨r5, hr5, hF⟩ := bindE hF
          refine Or.inl (And.intro f112_in (callV0 (callI C112 ((a.1, a.2), (g.1, g.2), true) r5 [] false C112_holds hr5 rfl rfl ?_)))
          refine (And.intro rfl (And.intro rfl (And.intro rfl (And.intro rfl (And.intro rfl (And.intro (fun h => nomatch h) (And.intro rfl (And.intro rfl (And.intro trivial (And.intro trivial ?_))))))))))
          refine Or.inl ?_
          have hy := someE hF
          subst hy
          refine And.intro rfl (Exists.intro [] (Exists.intro [] (Exists.intro [] (Exists.intro [] (Exists.intro [(0, some 5), (1, some 6)] (And.intro rfl (And.intro rfl (And.intro (And.intro rfl trivial) (And.intro rfl (And.intro rfl trivial))))))))))
        · refine Or.inl ?_
          refine condI hF (fun hF => ?_) (fun hF => ?_)
          · refine Or.inl ?_
            refine Exists.intro (.take 0 (.take 1 (.take 2 (.take 3 (.take 4 (.take 5 (.take 6 (.take 7 (.alt 8 (.take 9 (.take 10 (.alt 11 (.take 12 .done) .done))) .done))))))))) (Exists.intro [] (Exists.intro [] (And.intro rfl ?_)))
            refine guardI hF (fun hF => ?_)
            refine And.intro trivial ?_
            obtain ⟨q13_8, hq13_8, hF⟩ := bindE hF
            refine Or.inl (And.intro f119_in (callV0 (callI C119 ((g.1, g.2), (a.1, a.2), n.2.2.2.1, (rd (0 : Int) b.1 (2 : Int))) q13_8 [] false C119_holds hq13_8 rfl rfl ?_)))
            refine (And.intro rfl (And.intro rfl (And.intro rfl (And.intro rfl (And.intro rfl (And.intro rfl (And.intro (fun h => nomatch h) (And.intro rfl (And.intro rfl (And.intro trivial (And.intro trivial ?_)))))))))))
            refine And.intro trivial ?_
            refine Or.inl ?_
            have hy := someE hF
            subst hy
            refine And.intro rfl (Exists.intro [] (Exists.intro [] (Exists.intro [] (Exists.intro [] (Exists.intro [(0, some 5), (1, some 6)] (And.intro rfl (And.intro rfl (And.intro (And.intro rfl trivial) (And.intro rfl (And.intro rfl trivial))))))))))
          · refine Or.inl ?_
            refine Or.inl ?_
            have hy := someE hF
            subst hy
            refine And.intro rfl (Exists.intro [] (Exists.intro [] (Exists.intro [] (Exists.intro [] (Exists.intro [(0, none), (1, none)] (And.intro rfl (And.intro rfl (And.intro (And.intro rfl trivial) (And.intro rfl (And.intro rfl trivial))))))))))
theorem C89_holds : C89.Holds Tryz.prog 89 := holds_of_vc tab_ok mixed (fn := Tryz.f89) (by kernel_rfl) rfl C89 (fun x y hF => C89_vc x.1 x.2.1 x.2.2.1 x.2.2.2 y hF)
theorem f89_in : ∃ fn, Tryz.prog.funcs[89]? = some fn ∧ fn.body.isSome = true ∧ (fn.name == "runtime.NumGoroutine") = false := ⟨Tryz.f89, by kernel_rfl, by kernel_rfl, by kernel_rfl⟩
end Go.Proofs
namespace Go.Proofs
open Go.AM
-- carousel/back.One
def f54_j3 (g : (List Int) × (List Int)) (q12_4 : Int × Int × Int × Int × Bool × (List Int) × (List Int) × (List (Int × Int × Int × Int × (List Int) × (List Int)))) : Option Bool :=
  bif (!q12_4.2.2.2.2.1) then
    some true
  else
    bindF (f86 (g.1, g.2)) fun r10 =>
    bif (!r10) then
      some true
    else
      bindF (f87 g.1 q12_4.2.2.2.2.2.1) fun r11 =>
      some (!r11)
def f54_j2 (g : (List Int) × (List Int)) (q12_4 : Int × Int × Int × Int × Bool × (List Int) × (List Int) × (List (Int × Int × Int × Int × (List Int) × (List Int)))) : Option (Sum Unit Unit) :=
  bindF (f54_j3 g q12_4) fun z9 =>
  bif z9 then
    some (Sum.inr ())
  else
    some (Sum.inl ())
def f54 (t_l : List (Int × Int × Int × Int × (List Int) × (List Int))) (n : Int) (g : (List Int) × (List Int)) : Option (Int × (List Int) × (List Int) × (List Int) × (List Int) × (List (Int × Int × Int × Int × (List Int) × (List Int)))) :=
  bindF (f53 t_l n) fun q12_4 =>
  bindF (f54_j2 g q12_4) fun z6 =>
  sumF z6 (fun z6a =>
    bindF (f25 q12_4.2.2.2.2.2.2.2 q12_4.2.1) fun r12 =>
    bindF (f25 r12.2.2.2 q12_4.2.2.1) fun r13 =>
    bindF (f88 (q12_4.1, q12_4.2.1, q12_4.2.2.1, q12_4.2.2.2.1, q12_4.2.2.2.2.2.1, q12_4.2.2.2.2.2.2.1) (r12.2.1, r12.2.2.1) (r13.2.1, r13.2.2.1) (g.1, g.2)) fun r14 =>
    bif (r14.1 != (0 : Int)) then
      some (r14.1, [], [], [], [], r13.2.2.2)
    else
      bindF (f89 (q12_4.1, q12_4.2.1, q12_4.2.2.1, q12_4.2.2.2.1, q12_4.2.2.2.2.2.1, q12_4.2.2.2.2.2.2.1) (r12.2.1, r12.2.2.1) (r13.2.1, r13.2.2.1) (g.1, g.2)) fun r15 =>
      bif (r15.1 != (0 : Int)) then
        some (r15.1, [], [], [], [], r13.2.2.2)
      else
        some ((0 : Int), r14.2.1, r14.2.2, r15.2.1, r15.2.2, r13.2.2.2)) (fun z6b =>
    some ((1 : Int), [], [], [], [], q12_4.2.2.2.2.2.2.2))
def C54 : Con where
  X := (List (Int × Int × Int × Int × (List Int) × (List Int))) × Int × ((List Int) × (List Int))
  Y := Int × (List Int) × (List Int) × (List Int) × (List Int) × (List (Int × Int × Int × Int × (List Int) × (List Int)))
  e := 2
  args x := [.raw false [(.ptr 0 0)], .dat (.int .i64) x.2.1, .dat (.p (.sl (.int .i64)) (.sl (.int .i64))) x.2.2]
  hin x := [(0, .cells [(.osl 1)]), (1, .arr 132 (.p (.int .i64) (.p (.int .i64) (.p (.int .i64) (.p (.int .i64) (.p (.sl (.int .i64)) (.sl (.int .i64))))))) x.1)]
  F x := f54 x.1 x.2.1 x.2.2
  ret y := [.raw true [(.osl 2), (.osl 3)], .raw true [(.osl 4), (.osl 5)], .dat (.int .i64) y.1]
  hout y := [(0, .cells [(.osl 1)]), (1, .arr 132 (.p (.int .i64) (.p (.int .i64) (.p (.int .i64) (.p (.int .i64) (.p (.sl (.int .i64)) (.sl (.int .i64))))))) y.2.2.2.2.2), (2, .arr 3 (.int .i64) y.2.1), (3, .arr 23 (.int .i64) y.2.2.1), (4, .arr 3 (.int .i64) y.2.2.2.1), (5, .arr 23 (.int .i64) y.2.2.2.2.1)]
  nout := 6
theorem C54_vc (t_l : List (Int × Int × Int × Int × (List Int) × (List Int))) (n : Int) (g : (List Int) × (List Int)) (y : Int × (List Int) × (List Int) × (List Int) × (List Int) × (List (Int × Int × Int × Int × (List Int) × (List Int)))) (hF : f54 t_l n g = some y) : vc Tryz.prog tab Tryz.f54.ntmps 2 (match Tryz.f54.body with | some c => c | none => .skip) (retK tab C54 Tryz.f54.results.toList y) (C54.shIn (t_l, n, g)).st := by
  unfold f54 at hF
  refine Or.inl ?_
  refine Or.inl ?_
  obtain ⟨q12_4, hq12_4, hF⟩ := bindE hF
  refine Or.inl (And.intro f53_in (callV0 (callI C53 (t_l, n) q12_4 [(0, some 0), (1, some 1)] false C53_holds hq12_4 rfl rfl ?_)))
  refine (And.intro rfl (And.intro (fun h => nomatch h) (And.intro rfl (And.intro rfl (And.intro (And.intro rfl trivial) (And.intro (And.intro rfl (And.intro rfl trivial)) ?_))))))
  refine Or.inl ?_
  obtain ⟨z6, hz6, hF⟩ := bindE hF
  refine Or.inr ⟨Sum.elim (fun z6a => [(0, ⟨[(0, .raw false [(.ptr 0 0)]), (5, .raw false [(.ptr 2 0)]), (6, .raw false [(.ptr 3 0)]), (7, .raw false [(.ptr 4 0)]), (9, .raw false [(.ptr 5 0)])], [(0, .cells [(.osl 1)]), (1, .arr 132 (.p (.int .i64) (.p (.int .i64) (.p (.int .i64) (.p (.int .i64) (.p (.sl (.int .i64)) (.sl (.int .i64))))))) q12_4.2.2.2.2.2.2.2), (2, .cells [(.d (.sl (.int .i64)) g.1), (.d (.sl (.int .i64)) g.2)]), (3, .cells [(.c (.slice none 0 0)), (.c (.slice none 0 0))]), (4, .cells [(.c (.slice none 0 0)), (.c (.slice none 0 0))]), (5, .cells [(.d (.int .i64) q12_4.1), (.d (.int .i64) q12_4.2.1), (.d (.int .i64) q12_4.2.2.1), (.d (.int .i64) q12_4.2.2.2.1), (.osl 6), (.osl 7)]), (6, .arr 3 (.int .i64) q12_4.2.2.2.2.2.1), (7, .arr 23 (.int .i64) q12_4.2.2.2.2.2.2.1)], 8⟩)]) (fun z6b => [(1, ⟨[(6, .raw false [(.ptr 2 0)]), (7, .raw false [(.ptr 3 0)]), (8, .dat (.int .i64) (1 : Int))], [(0, .cells [(.osl 1)]), (1, .arr 132 (.p (.int .i64) (.p (.int .i64) (.p (.int .i64) (.p (.int .i64) (.p (.sl (.int .i64)) (.sl (.int .i64))))))) q12_4.2.2.2.2.2.2.2), (2, .cells [(.c (.slice none 0 0)), (.c (.slice none 0 0))]), (3, .cells [(.c (.slice none 0 0)), (.c (.slice none 0 0))])], 4⟩)]) z6, ?_, ?_⟩
  · have hF := hz6
    clear hz6
    unfold f54_j2 at hF
    obtain ⟨z9, hz9, hF⟩ := bindE hF
    refine Or.inr ⟨[(0, ⟨[(0, .raw false [(.ptr 0 0)]), (5, .raw false [(.ptr 2 0)]), (6, .raw false [(.ptr 3 0)]), (7, .raw false [(.ptr 4 0)]), (9, .raw false [(.ptr 5 0)]), (39, .dat .bool z9)], [(0, .cells [(.osl 1)]), (1, .arr 132 (.p (.int .i64) (.p (.int .i64) (.p (.int .i64) (.p (.int .i64) (.p (.sl (.int .i64)) (.sl (.int .i64))))))) q12_4.2.2.2.2.2.2.2), (2, .cells [(.d (.sl (.int .i64)) g.1), (.d (.sl (.int .i64)) g.2)]), (3, .cells [(.c (.slice none 0 0)), (.c (.slice none 0 0))]), (4, .cells [(.c (.slice none 0 0)), (.c (.slice none 0 0))]), (5, .cells [(.d (.int .i64) q12_4.1), (.d (.int .i64) q12_4.2.1), (.d (.int .i64) q12_4.2.2.1), (.d (.int .i64) q12_4.2.2.2.1), (.osl 6), (.osl 7)]), (6, .arr 3 (.int .i64) q12_4.2.2.2.2.2.1), (7, .arr 23 (.int .i64) q12_4.2.2.2.2.2.2.1)], 8⟩)], ?_, ?_⟩
    · have hF := hz9
      clear hz9
      unfold f54_j3 at hF
      refine condN hF (fun hF => ?_) (fun hF => ?_)
      · refine gdYF ?_
        obtain ⟨r10, hr10, hF⟩ := bindE hF
        refine Or.inl (And.intro f86_in (callV0 (callI C86 (g.1, g.2) r10 [] false C86_holds hr10 rfl rfl ?_)))
        refine (And.intro rfl (And.intro rfl (And.intro (fun h => nomatch h) (And.intro rfl (And.intro rfl (And.intro trivial (And.intro trivial ?_)))))))
        refine gdYF ?_
        refine condF ?_
        refine condN hF (fun hF => ?_) (fun hF => ?_)
        · refine gdYF ?_
          refine gdYF ?_
          refine gdYF ?_
          refine gdYF ?_
          refine gdYF ?_
          obtain ⟨r11, hr11, hF⟩ := bindE hF
          refine Or.inl (And.intro f87_in (callV0 (callI C87 (g.1, q12_4.2.2.2.2.2.1) r11 [] true C87_holds hr11 rfl rfl ?_)))
          refine (And.intro rfl (And.intro rfl (And.intro (fun _ => rfl) (And.intro rfl (And.intro rfl (And.intro trivial (And.intro trivial ?_)))))))
          refine gdYF ?_
          refine condF ?_
          have hz := someE hF
          subst hz
          refine Exists.intro [] (Exists.intro [] (Exists.intro [] (Exists.intro [] (Exists.intro [(0, some 0), (1, some 1), (2, some 2), (3, some 3), (4, some 4), (5, some 9), (6, some 7), (7, some 8)] (And.intro rfl (And.intro rfl (And.intro (And.intro rfl (And.intro rfl (And.intro rfl (And.intro rfl (And.intro rfl trivial))))) (And.intro rfl (And.intro rfl (And.intro rfl (And.intro rfl (And.intro rfl (And.intro rfl (And.intro rfl (And.intro rfl trivial)))))))))))))))
        · refine gdNF ?_
          refine gdNF ?_
          refine gdNF ?_
          refine gdNF ?_
          refine gdNF ?_
          refine gdNF ?_
          refine condT ?_
          have hz := someE hF
          subst hz
          refine Exists.intro [] (Exists.intro [] (Exists.intro [] (Exists.intro [] (Exists.intro [(0, some 0), (1, some 1), (2, some 2), (3, some 3), (4, some 4), (5, some 9), (6, some 7), (7, some 8)] (And.intro rfl (And.intro rfl (And.intro (And.intro rfl (And.intro rfl (And.intro rfl (And.intro rfl (And.intro rfl trivial))))) (And.intro rfl (And.intro rfl (And.intro rfl (And.intro rfl (And.intro rfl (And.intro rfl (And.intro rfl (And.intro rfl trivial)))))))))))))))
      · refine gdNF ?_
        refine gdNF ?_
        refine condT ?_
        refine gdNF ?_
        refine gdNF ?_
        refine gdNF ?_
        refine gdNF ?_
        refine gdNF ?_
        refine gdNF ?_
        refine gdNF ?_
        refine condT ?_
        have hz := someE hF
        subst hz
        refine Exists.intro [] (Exists.intro [] (Exists.intro [] (Exists.intro [] (Exists.intro [(0, some 0), (1, some 1), (2, some 2), (3, some 3), (4, some 4), (5, some 9), (6, some 7), (7, some 8)] (And.intro rfl (And.intro rfl (And.intro (And.intro rfl (And.intro rfl (And.intro rfl (And.intro rfl (And.intro rfl trivial))))) (And.intro rfl (And.intro rfl (And.intro rfl (And.intro rfl (And.intro rfl (And.intro rfl (And.intro rfl (And.intro rfl trivial)))))))))))))))
    · refine And.intro ?_ trivial
      refine condI hF (fun hF => ?_) (fun hF => ?_)
      · refine Or.inl ?_
        refine Or.inl ?_
        refine Or.inl ?_
        have hz := someE hF
        subst hz
        refine Exists.intro [] (Exists.intro [] (Exists.intro [] (Exists.intro [] (Exists.intro [(0, some 0), (1, some 1), (2, some 3), (3, some 4)] (And.intro rfl (And.intro rfl (And.intro (And.intro rfl (And.intro rfl trivial)) (And.intro rfl (And.intro rfl (And.intro rfl (And.intro rfl trivial)))))))))))
      · have hz := someE hF
        subst hz
        refine Exists.intro [] (Exists.intro [] (Exists.intro [] (Exists.intro [] (Exists.intro [(0, some 0), (1, some 1), (2, some 2), (3, some 3), (4, some 4), (5, some 5), (6, some 6), (7, some 7)] (And.intro rfl (And.intro (And.intro rfl (And.intro rfl (And.intro rfl (And.intro rfl (And.intro rfl trivial))))) (And.intro rfl (And.intro rfl (And.intro rfl (And.intro rfl (And.intro rfl (And.intro rfl (And.intro rfl (And.intro rfl trivial))))))))))))))
  · rcases z6 with z6a | z6b
    · dsimp only [sumF] at hF
      refine And.intro ?_ trivial
      refine Or.inl ?_
      obtain ⟨r12, hr12, hF⟩ := bindE hF
      refine Or.inl (And.intro f25_in (callV0 (callI C25 (q12_4.2.2.2.2.2.2.2, q12_4.2.1) r12 [(0, some 0), (1, some 1)] false C25_holds hr12 rfl rfl ?_)))
      refine (And.intro rfl (And.intro (fun h => nomatch h) (And.intro rfl (And.intro rfl (And.intro (And.intro rfl trivial) (And.intro (And.intro rfl (And.intro rfl trivial)) ?_))))))
      refine Or.inl ?_
      refine Or.inl ?_
      obtain ⟨r13, hr13, hF⟩ := bindE hF
      refine Or.inl (And.intro f25_in (callV0 (callI C25 (r12.2.2.2, q12_4.2.2.1) r13 [(0, some 0), (1, some 1)] false C25_holds hr13 rfl rfl ?_)))
      refine (And.intro rfl (And.intro (fun h => nomatch h) (And.intro rfl (And.intro rfl (And.intro (And.intro rfl trivial) (And.intro (And.intro rfl (And.intro rfl trivial)) ?_))))))
      refine Or.inl ?_
      refine Or.inl ?_
      obtain ⟨r14, hr14, hF⟩ := bindE hF
      refine Or.inl (And.intro f88_in (callV0 (callI C88 ((q12_4.1, q12_4.2.1, q12_4.2.2.1, q12_4.2.2.2.1, q12_4.2.2.2.2.2.1, q12_4.2.2.2.2.2.2.1), (r12.2.1, r12.2.2.1), (r13.2.1, r13.2.2.1), (g.1, g.2)) r14 [] true C88_holds hr14 rfl rfl ?_)))
      refine (And.intro rfl (And.intro rfl (And.intro rfl (And.intro rfl (And.intro rfl (And.intro rfl (And.intro rfl (And.intro rfl (And.intro (fun _ => rfl) (And.intro rfl (And.intro rfl (And.intro trivial (And.intro trivial ?_)))))))))))))
      refine Or.inl ?_
      refine Or.inl ?_
      refine Or.inl ?_
      refine condI hF (fun hF => ?_) (fun hF => ?_)
      · refine Or.inl ?_
        refine Or.inl ?_
        refine Or.inl ?_
        have hy := someE hF
        subst hy
        refine And.intro rfl (Exists.intro [] (Exists.intro [] (Exists.intro [] (Exists.intro [] (Exists.intro [(0, some 0), (1, some 1), (2, none), (3, none), (4, none), (5, none)] (And.intro rfl (And.intro rfl (And.intro (And.intro rfl (And.intro rfl trivial)) (And.intro rfl (And.intro rfl (And.intro rfl (And.intro rfl (And.intro rfl (And.intro rfl trivial))))))))))))))
      · refine Or.inl ?_
        obtain ⟨r15, hr15, hF⟩ := bindE hF
        refine Or.inl (And.intro f89_in (callV0 (callI C89 ((q12_4.1, q12_4.2.1, q12_4.2.2.1, q12_4.2.2.2.1, q12_4.2.2.2.2.2.1, q12_4.2.2.2.2.2.2.1), (r12.2.1, r12.2.2.1), (r13.2.1, r13.2.2.1), (g.1, g.2)) r15 [] true C89_holds hr15 rfl rfl ?_)))
        refine (And.intro rfl (And.intro rfl (And.intro rfl (And.intro rfl (And.intro rfl (And.intro rfl (And.intro rfl (And.intro rfl (And.intro (fun _ => rfl) (And.intro rfl (And.intro rfl (And.intro trivial (And.intro trivial ?_)))))))))))))
        refine Or.inl ?_
        refine Or.inl ?_
        refine Or.inl ?_
        refine condI hF (fun hF => ?_) (fun hF => ?_)
        · refine Or.inl ?_
          refine Or.inl ?_
          refine Or.inl ?_
          have hy := someE hF
          subst hy
          refine And.intro rfl (Exists.intro [] (Exists.intro [] (Exists.intro [] (Exists.intro [] (Exists.intro [(0, some 0), (1, some 1), (2, none), (3, none), (4, none), (5, none)] (And.intro rfl (And.intro rfl (And.intro (And.intro rfl (And.intro rfl trivial)) (And.intro rfl (And.intro rfl (And.intro rfl (And.intro rfl (And.intro rfl (And.intro rfl trivial))))))))))))))
        · refine Or.inl ?_
          refine Exists.intro (.take 0 (.take 1 (.alt 2 (.alt 3 (.take 4 .done) .done) .done))) (Exists.intro [] (Exists.intro [] (And.intro rfl ?_)))
          refine And.intro trivial ?_
          refine Or.inl ?_
          refine And.intro trivial ?_
          refine Or.inl ?_
          have hy := someE hF
          subst hy
          refine And.intro rfl (Exists.intro [] (Exists.intro [] (Exists.intro [] (Exists.intro [] (Exists.intro [(0, some 0), (1, some 1), (2, some 18), (3, some 19), (4, some 21), (5, some 22)] (And.intro rfl (And.intro rfl (And.intro (And.intro rfl (And.intro rfl trivial)) (And.intro rfl (And.intro rfl (And.intro rfl (And.intro rfl (And.intro rfl (And.intro rfl trivial))))))))))))))
    · dsimp only [sumF] at hF
      refine And.intro ?_ trivial
      have hy := someE hF
      subst hy
      refine And.intro rfl (Exists.intro [] (Exists.intro [] (Exists.intro [] (Exists.intro [] (Exists.intro [(0, some 0), (1, some 1), (2, none), (3, none), (4, none), (5, none)] (And.intro rfl (And.intro rfl (And.intro (And.intro rfl (And.intro rfl trivial)) (And.intro rfl (And.intro rfl (And.intro rfl (And.intro rfl (And.intro rfl (And.intro rfl trivial))))))))))))))
theorem C54_holds : C54.Holds Tryz.prog 54 := holds_of_vc tab_ok mixed (fn := Tryz.f54) (by kernel_rfl) rfl C54 (fun x y hF => C54_vc x.1 x.2.1 x.2.2 y hF)
theorem f54_in : ∃ fn, Tryz.prog.funcs[54]? = some fn ∧ fn.body.isSome = true ∧ (fn.name == "runtime.NumGoroutine") = false := ⟨Tryz.f54, by kernel_rfl, by kernel_rfl, by kernel_rfl⟩
end Go.Proofs
namespace Go.Proofs
open Go.AM
-- (*carousel/back.sweep).give
def f55 (s_l : List ((List Int) × (List Int))) (s_given : List Bool) (n : Int) (g : (List Int) × (List Int)) : Option (Int × (List ((List Int) × (List Int))) × (List Bool)) :=
  bif (decide (n < (0 : Int))) then
    some ((0 : Int), s_l, s_given)
  else
    guardF (0 ≤ n ∧ n < (List.length s_l : Int)) <|
    bindF (f90 ((rd (Ty.z (.p (.sl (.int .i64)) (.sl (.int .i64)))) s_l n).1, (rd (Ty.z (.p (.sl (.int .i64)) (.sl (.int .i64)))) s_l n).2) (g.1, g.2)) fun q4_13 =>
    guardF (0 ≤ n ∧ n < (List.length s_l : Int)) <|
    guardF (0 ≤ n ∧ n < (List.length s_given : Int)) <|
    some (q4_13.1, (List.set s_l (Int.toNat n) (q4_13.2.1, q4_13.2.2)), (List.set s_given (Int.toNat n) true))
def C55 : Con where
  X := (List ((List Int) × (List Int))) × (List Bool) × Int × ((List Int) × (List Int))
  Y := Int × (List ((List Int) × (List Int))) × (List Bool)
  e := 3
  args x := [.raw false [(.ptr 0 0)], .dat (.int .i64) x.2.2.1, .dat (.p (.sl (.int .i64)) (.sl (.int .i64))) x.2.2.2]
  hin x := [(0, .cells [(.osl 1), (.osl 2)]), (1, .arr 75 (.p (.sl (.int .i64)) (.sl (.int .i64))) x.1), (2, .arr 4 .bool x.2.1)]
  F x := f55 x.1 x.2.1 x.2.2.1 x.2.2.2
  ret y := [.dat (.int .i64) y.1]
  hout y := [(0, .cells [(.osl 1), (.osl 2)]), (1, .arr 75 (.p (.sl (.int .i64)) (.sl (.int .i64))) y.2.1), (2, .arr 4 .bool y.2.2)]
  nout := 3
theorem C55_vc (s_l : List ((List Int) × (List Int))) (s_given : List Bool) (n : Int) (g : (List Int) × (List Int)) (y : Int × (List ((List Int) × (List Int))) × (List Bool)) (hF : f55 s_l s_given n g = some y) : vc Tryz.prog tab Tryz.f55.ntmps 3 (match Tryz.f55.body with | some c => c | none => .skip) (retK tab C55 Tryz.f55.results.toList y) (C55.shIn (s_l, s_given, n, g)).st := by
  unfold f55 at hF
  refine Or.inl ?_
  refine Or.inl ?_
  refine Or.inl ?_
  refine condI hF (fun hF => ?_) (fun hF => ?_)
  · refine Or.inl ?_
    have hy := someE hF
    subst hy
    refine And.intro rfl (Exists.intro [] (Exists.intro [] (Exists.intro [] (Exists.intro [] (Exists.intro [(0, some 0), (1, some 1), (2, some 2)] (And.intro rfl (And.intro rfl (And.intro trivial (And.intro rfl (And.intro rfl (And.intro rfl trivial)))))))))))
  · refine Or.inl ?_
    refine Or.inl ?_
    refine Exists.intro (.take 0 (.take 1 (.take 2 (.take 3 (.take 4 (.take 5 (.take 6 (.take 7 (.take 8 (.take 9 (.take 10 (.take 11 (.take 12 (.alt 13 (.take 14 (.take 15 (.take 16 (.take 17 (.alt 18 (.take 19 .done) .done))))) .done)))))))))))))) (Exists.intro [(18, [1])] (Exists.intro [] (And.intro rfl ?_)))
    refine guardI hF (fun hF => ?_)
    refine And.intro trivial ?_
    obtain ⟨q4_13, hq4_13, hF⟩ := bindE hF
    refine Or.inl (And.intro f90_in (callV0 (callI C90 (((rd (Ty.z (.p (.sl (.int .i64)) (.sl (.int .i64)))) s_l n).1, (rd (Ty.z (.p (.sl (.int .i64)) (.sl (.int .i64)))) s_l n).2), (g.1, g.2)) q4_13 [] false C90_holds hq4_13 rfl rfl ?_)))
    refine (And.intro rfl (And.intro rfl (And.intro rfl (And.intro rfl (And.intro (fun h => nomatch h) (And.intro rfl (And.intro rfl (And.intro trivial (And.intro trivial ?_)))))))))
    refine guardI hF (fun hF => ?_)
    refine And.intro trivial ?_
    refine Or.inl ?_
    refine Or.inl ?_
    refine guardI hF (fun hF => ?_)
    refine Or.inl ?_
    refine Or.inl ?_
    have hy := someE hF
    subst hy
    refine And.intro rfl (Exists.intro [] (Exists.intro [] (Exists.intro [] (Exists.intro [] (Exists.intro [(0, some 0), (1, some 1), (2, some 2)] (And.intro rfl (And.intro rfl (And.intro trivial (And.intro rfl (And.intro rfl (And.intro rfl trivial)))))))))))
theorem C55_holds : C55.Holds Tryz.prog 55 := holds_of_vc tab_ok mixed (fn := Tryz.f55) (by kernel_rfl) rfl C55 (fun x y hF => C55_vc x.1 x.2.1 x.2.2.1 x.2.2.2 y hF)
theorem f55_in : ∃ fn, Tryz.prog.funcs[55]? = some fn ∧ fn.body.isSome = true ∧ (fn.name == "runtime.NumGoroutine") = false := ⟨Tryz.f55, by kernel_rfl, by kernel_rfl, by kernel_rfl⟩
end Go.Proofs
namespace Go.Proofs
open Go.AM
-- carousel/back.Sweep
def f24_l1 (root : Int) (go : (Int × (List (Int × Int × Int × Int × (List Int) × (List Int))) × (List ((List Int) × (List Int))) × Int × (List Int) × (List Int)) → Option ((List (Int × Int × Int × Int × (List Int) × (List Int))) × (List ((List Int) × (List Int))) × Int × (List Int) × (List Int))) (v43 : Int) (l1 : List (Int × Int × Int × Int × (List Int) × (List Int))) (l3 : List ((List Int) × (List Int))) (i3 : Int) (l5 : List Int) (l6 : List Int) : Option ((List (Int × Int × Int × Int × (List Int) × (List Int))) × (List ((List Int) × (List Int))) × Int × (List Int) × (List Int)) :=
  bif (decide (v43 < (IntKind.i64.wrap (root + (1 : Int))))) then
    bindF (f25 l1 v43) fun q12_10 =>
    bindF (f52 q12_10.2.1 (0 : Int)) fun r6 =>
    guardF ((List.length (List.set l3 (Int.toNat i3) (l5, l6)) + 1) * 48 ≤ 140737488355328) <|
    go ((IntKind.i64.wrap (v43 + (1 : Int))), q12_10.2.2.2, ((List.set l3 (Int.toNat i3) (l5, l6)) ++ [(Ty.z (.p (.sl (.int .i64)) (.sl (.int .i64))))]), (List.length (List.set l3 (Int.toNat i3) (l5, l6)) : Int), r6.2.1, r6.2.2)
  else
    some (l1, l3, i3, l5, l6)
def f24_l2 (go : (Int × (List (Int × Int × Int × Int × (List Int) × (List Int))) × (List ((List Int) × (List Int))) × (List Bool)) → Option (Sum (Int × (List (Int × Int × Int × Int × (List Int) × (List Int)))) ((List ((List Int) × (List Int))) × (List Bool) × (List (Int × Int × Int × Int × (List Int) × (List Int)))))) (n : Int) (l1 : List (Int × Int × Int × Int × (List Int) × (List Int))) (l3 : List ((List Int) × (List Int))) (l4 : List Bool) : Option (Sum (Int × (List (Int × Int × Int × Int × (List Int) × (List Int)))) ((List ((List Int) × (List Int))) × (List Bool) × (List (Int × Int × Int × Int × (List Int) × (List Int))))) :=
  bif (decide (n ≥ (0 : Int))) then
    guardF (0 ≤ n ∧ n < (List.length l4 : Int)) <|
    bif (!(rd false l4 n)) then
      go ((IntKind.i64.wrap (n - (1 : Int))), l1, l3, l4)
    else
      bindF (f53 l1 n) fun r15 =>
      guardF (0 ≤ n ∧ n < (List.length l3 : Int)) <|
      bindF (f54 r15.2.2.2.2.2.2.2 n ((rd (Ty.z (.p (.sl (.int .i64)) (.sl (.int .i64)))) l3 n).1, (rd (Ty.z (.p (.sl (.int .i64)) (.sl (.int .i64)))) l3 n).2)) fun r16 =>
      bif (r16.1 != (0 : Int)) then
        some (Sum.inl (r16.1, r16.2.2.2.2.2))
      else
        bindF (f55 l3 l4 r15.2.1 (r16.2.1, r16.2.2.1)) fun r17 =>
        bif (r17.1 != (0 : Int)) then
          some (Sum.inl (r17.1, r16.2.2.2.2.2))
        else
          bindF (f55 r17.2.1 r17.2.2 r15.2.2.1 (r16.2.2.2.1, r16.2.2.2.2.1)) fun r18 =>
          bif (r18.1 != (0 : Int)) then
            some (Sum.inl (r18.1, r16.2.2.2.2.2))
          else
            go ((IntKind.i64.wrap (n - (1 : Int))), r16.2.2.2.2.2, r18.2.1, r18.2.2)
  else
    some (Sum.inr (l3, l4, l1))
def f24 (t_l : List (Int × Int × Int × Int × (List Int) × (List Int))) (root : Int) : Option (Int × (List ((List Int) × (List Int))) × (List (Int × Int × Int × Int × (List Int) × (List Int)))) :=
  bindF (f25 t_l root) fun r1 =>
  bif (!r1.1) then
    some ((1 : Int), [], r1.2.2.2)
  else
    bif (decide ((List.length r1.2.2.1 : Int) > (1 : Int))) then
      some ((4 : Int), [], r1.2.2.2)
    else
      guardF (0 ≤ (IntKind.i64.wrap (root + (1 : Int))) ∧ (IntKind.i64.wrap (root + (1 : Int))) ≤ (IntKind.i64.wrap (root + (1 : Int))) ∧ Int.toNat (IntKind.i64.wrap (root + (1 : Int))) * 1 ≤ 140737488355328) <|
      bindF (loopF (fun go x => f24_l1 root go x.1 x.2.1 x.2.2.1 x.2.2.2.1 x.2.2.2.2.1 x.2.2.2.2.2) fuelN ((0 : Int), r1.2.2.2, [], (0 : Int), [], [])) fun z5 =>
      guardF (0 ≤ root ∧ root < (List.length z5.2.1 : Int)) <|
      guardF (root = z5.2.2.1) <|
      guardF (0 ≤ (0 : Int) ∧ (0 : Int) < (List.length z5.2.2.2.2 : Int)) <|
      guardF (0 ≤ root ∧ root < (List.length (List.replicate (Int.toNat (IntKind.i64.wrap (root + (1 : Int)))) false) : Int)) <|
      bindF (loopF (fun go x => f24_l2 go x.1 x.2.1 x.2.2.1 x.2.2.2) fuelN (root, z5.1, (List.set z5.2.1 (Int.toNat z5.2.2.1) (z5.2.2.2.1, (List.set z5.2.2.2.2 (Int.toNat (0 : Int)) (4294967296 : Int)))), (List.set (List.replicate (Int.toNat (IntKind.i64.wrap (root + (1 : Int)))) false) (Int.toNat root) true))) fun z14 =>
      sumF z14 (fun z14a =>
        some (z14a.1, [], z14a.2)) (fun z14b =>
        some ((0 : Int), z14b.1, z14b.2.2))
def C24 : Con where
  X := (List (Int × Int × Int × Int × (List Int) × (List Int))) × Int
  Y := Int × (List ((List Int) × (List Int))) × (List (Int × Int × Int × Int × (List Int) × (List Int)))
  e := 2
  args x := [.raw false [(.ptr 0 0)], .dat (.int .i64) x.2]
  hin x := [(0, .cells [(.osl 1)]), (1, .arr 132 (.p (.int .i64) (.p (.int .i64) (.p (.int .i64) (.p (.int .i64) (.p (.sl (.int .i64)) (.sl (.int .i64))))))) x.1)]
  F x := f24 x.1 x.2
  ret y := [.raw false [(.osl 2)], .dat (.int .i64) y.1]
  hout y := [(0, .cells [(.osl 1)]), (1, .arr 132 (.p (.int .i64) (.p (.int .i64) (.p (.int .i64) (.p (.int .i64) (.p (.sl (.int .i64)) (.sl (.int .i64))))))) y.2.2), (2, .arr 75 (.p (.sl (.int .i64)) (.sl (.int .i64))) y.2.1)]
  nout := 3
theorem C24_vc (t_l : List (Int × Int × Int × Int × (List Int) × (List Int))) (root : Int) (y : Int × (List ((List Int) × (List Int))) × (List (Int × Int × Int × Int × (List Int) × (List Int)))) (hF : f24 t_l root = some y) : vc Tryz.prog tab Tryz.f24.ntmps 2 (match Tryz.f24.body with | some c => c | none => .skip) (retK tab C24 Tryz.f24.results.toList y) (C24.shIn (t_l, root)).st := by
  unfold f24 at hF
  refine Or.inl ?_
  refine Or.inl ?_
  obtain ⟨r1, hr1, hF⟩ := bindE hF
  refine Or.inl (And.intro f25_in (callV0 (callI C25 (t_l, root) r1 [(0, some 0), (1, some 1)] false C25_holds hr1 rfl rfl ?_)))
  refine (And.intro rfl (And.intro (fun h => nomatch h) (And.intro rfl (And.intro rfl (And.intro (And.intro rfl trivial) (And.intro (And.intro rfl (And.intro rfl trivial)) ?_))))))
  refine Or.inl ?_
  refine Or.inl ?_
  refine Or.inl ?_
  refine condI hF (fun hF => ?_) (fun hF => ?_)
  · refine Or.inl ?_
    have hy := someE hF
    subst hy
    refine And.intro rfl (Exists.intro [] (Exists.intro [] (Exists.intro [] (Exists.intro [] (Exists.intro [(0, some 0), (1, some 1), (2, none)] (And.intro rfl (And.intro rfl (And.intro (And.intro rfl trivial) (And.intro rfl (And.intro rfl (And.intro rfl trivial)))))))))))
  · refine Or.inl ?_
    refine condI hF (fun hF => ?_) (fun hF => ?_)
    · refine Or.inl ?_
      have hy := someE hF
      subst hy
      refine And.intro rfl (Exists.intro [] (Exists.intro [] (Exists.intro [] (Exists.intro [] (Exists.intro [(0, some 0), (1, some 1), (2, none)] (And.intro rfl (And.intro rfl (And.intro (And.intro rfl trivial) (And.intro rfl (And.intro rfl (And.intro rfl trivial)))))))))))
    · refine Or.inl ?_
      refine guardI hF (fun hF => ?_)
      refine Or.inl ?_
      refine Or.inl ?_
      obtain ⟨z5, hz5, hF⟩ := bindE hF
      refine loopI (Int × (List (Int × Int × Int × Int × (List Int) × (List Int))) × (List ((List Int) × (List Int))) × Int × (List Int) × (List Int)) ((List (Int × Int × Int × Int × (List Int) × (List Int))) × (List ((List Int) × (List Int))) × Int × (List Int) × (List Int)) (fun x => ⟨[(0, .raw false [(.ptr 0 0)]), (1, .dat (.int .i64) root), (8, .raw false [(.ptr 2 0)]), (42, .dat (.int .i64) (IntKind.i64.wrap (root + (1 : Int)))), (43, .dat (.int .i64) x.1)], [(0, .cells [(.osl 1)]), (1, .arr 132 (.p (.int .i64) (.p (.int .i64) (.p (.int .i64) (.p (.int .i64) (.p (.sl (.int .i64)) (.sl (.int .i64))))))) x.2.1), (2, .cells [(.osl 3), (.osl 4)]), (3, .hol 75 (.p (.sl (.int .i64)) (.sl (.int .i64))) x.2.2.1 x.2.2.2.1 [(.osl 5), (.osl 6)]), (4, .arr 4 .bool (List.replicate (Int.toNat (IntKind.i64.wrap (root + (1 : Int)))) false)), (5, .arr 3 (.int .i64) x.2.2.2.2.1), (6, .arr 23 (.int .i64) x.2.2.2.2.2)], 7⟩) (fun z => [(3, ⟨[(0, .raw false [(.ptr 0 0)]), (1, .dat (.int .i64) root), (8, .raw false [(.ptr 2 0)])], [(0, .cells [(.osl 1)]), (1, .arr 132 (.p (.int .i64) (.p (.int .i64) (.p (.int .i64) (.p (.int .i64) (.p (.sl (.int .i64)) (.sl (.int .i64))))))) z.1), (2, .cells [(.osl 3), (.osl 4)]), (3, .hol 75 (.p (.sl (.int .i64)) (.sl (.int .i64))) z.2.1 z.2.2.1 [(.osl 5), (.osl 6)]), (4, .arr 4 .bool (List.replicate (Int.toNat (IntKind.i64.wrap (root + (1 : Int)))) false)), (5, .arr 3 (.int .i64) z.2.2.2.1), (6, .arr 23 (.int .i64) z.2.2.2.2)], 7⟩)]) (loopF (fun go x => f24_l1 root go x.1 x.2.1 x.2.2.1 x.2.2.2.1 x.2.2.2.2.1 x.2.2.2.2.2)) fuelN ((0 : Int), r1.2.2.2, [], (0 : Int), [], []) z5 (And.intro hz5 (And.intro (Exists.intro [] (Exists.intro [] (Exists.intro [] (Exists.intro [] (Exists.intro [(0, some 0), (1, some 1), (2, some 8), (3, none), (4, some 7), (5, none), (6, none)] (And.intro rfl (And.intro rfl (And.intro rfl (And.intro rfl (And.intro (And.intro rfl (And.intro rfl trivial)) (And.intro rfl (And.intro rfl (And.intro rfl (And.intro rfl (And.intro rfl (And.intro rfl (And.intro rfl trivial))))))))))))))))) (And.intro (fun _ _ h => loopZ h) (And.intro (fun m => curI (fun v43 => curI (fun l1 => curI (fun l3 => curI (fun i3 => curI (fun l5 => fun l6 z hF => ?_)))))) ?_))))
      · have hF : f24_l1 root (loopF (fun go x => f24_l1 root go x.1 x.2.1 x.2.2.1 x.2.2.2.1 x.2.2.2.2.1 x.2.2.2.2.2) m) v43 l1 l3 i3 l5 l6 = some z := hF
        unfold f24_l1 at hF
        refine Or.inl ?_
        refine Or.inl ?_
        refine condI hF (fun hF => ?_) (fun hF => ?_)
        · refine Or.inl ?_
          refine Or.inl ?_
          refine Or.inl ?_
          obtain ⟨q12_10, hq12_10, hF⟩ := bindE hF
          refine Or.inl (And.intro f25_in (callV0 (callI C25 (l1, v43) q12_10 [(0, some 0), (1, some 1)] false C25_holds hq12_10 rfl rfl ?_)))
          refine (And.intro rfl (And.intro (fun h => nomatch h) (And.intro rfl (And.intro rfl (And.intro (And.intro rfl trivial) (And.intro (And.intro rfl (And.intro rfl trivial)) ?_))))))
          refine Or.inl ?_
          refine Or.inl ?_
          obtain ⟨r6, hr6, hF⟩ := bindE hF
          refine Or.inl (And.intro f52_in (callV0 (callI C52 (q12_10.2.1, (0 : Int)) r6 [] true C52_holds hr6 rfl rfl ?_)))
          refine (And.intro rfl (And.intro rfl (And.intro (fun _ => rfl) (And.intro rfl (And.intro rfl (And.intro trivial (And.intro trivial ?_)))))))
          refine Or.inl ?_
          refine Exists.intro (.take 0 (.take 1 (.take 2 (.take 3 (.take 4 (.take 5 (.alt 6 (.alt 7 (.take 8 (.take 9 (.alt 10 .done .done))) .done) .done))))))) (Exists.intro [(10, [2])] (Exists.intro [] (And.intro rfl ?_)))
          refine And.intro trivial ?_
          refine Or.inr ?_
          refine And.intro trivial ?_
          refine Or.inr ?_
          refine And.intro rfl ?_
          refine And.intro (And.intro rfl rfl) ?_
          refine guardI hF (fun hF => ?_)
          refine And.intro trivial ?_
          refine Or.inl ?_
          refine Exists.intro ((IntKind.i64.wrap (v43 + (1 : Int))), q12_10.2.2.2, ((List.set l3 (Int.toNat i3) (l5, l6)) ++ [(Ty.z (.p (.sl (.int .i64)) (.sl (.int .i64))))]), (List.length (List.set l3 (Int.toNat i3) (l5, l6)) : Int), r6.2.1, r6.2.2) (And.intro hF (Exists.intro [] (Exists.intro [] (Exists.intro [] (Exists.intro [] (Exists.intro [(0, some 0), (1, some 1), (2, some 2), (3, some 16), (4, some 4), (5, some 12), (6, some 13)] (And.intro rfl (And.intro rfl (And.intro rfl (And.intro rfl (And.intro (And.intro rfl (And.intro rfl trivial)) (And.intro rfl (And.intro rfl (And.intro rfl (And.intro rfl (And.intro rfl (And.intro rfl (And.intro rfl trivial))))))))))))))))))
        · have hz := someE hF
          subst hz
          refine Exists.intro [] (Exists.intro [] (Exists.intro [] (Exists.intro [] (Exists.intro [(0, some 0), (1, some 1), (2, some 2), (3, some 3), (4, some 4), (5, some 5), (6, some 6)] (And.intro rfl (And.intro rfl (And.intro (And.intro rfl (And.intro rfl trivial)) (And.intro rfl (And.intro rfl (And.intro rfl (And.intro rfl (And.intro rfl (And.intro rfl (And.intro rfl trivial))))))))))))))
      · refine And.intro ?_ trivial
        refine Or.inl ?_
        refine Exists.intro (.take 0 (.take 1 (.take 2 (.take 3 (.take 4 (.take 5 (.take 6 (.take 7 (.take 8 (.take 9 (.take 10 (.take 11 (.take 12 (.take 13 (.alt 14 (.take 15 (.alt 16 .done .done)) .done))))))))))))))) (Exists.intro [] (Exists.intro [] (And.intro rfl ?_)))
        refine guardI hF (fun hF => ?_)
        refine guardI hF (fun hF => ?_)
        refine guardI hF (fun hF => ?_)
        refine And.intro trivial ?_
        refine Or.inl ?_
        refine guardI hF (fun hF => ?_)
        refine And.intro trivial ?_
        refine Or.inl ?_
        refine Or.inl ?_
        refine Or.inl ?_
        obtain ⟨z14, hz14, hF⟩ := bindE hF
        refine loopI (Int × (List (Int × Int × Int × Int × (List Int) × (List Int))) × (List ((List Int) × (List Int))) × (List Bool)) (Sum (Int × (List (Int × Int × Int × Int × (List Int) × (List Int)))) ((List ((List Int) × (List Int))) × (List Bool) × (List (Int × Int × Int × Int × (List Int) × (List Int))))) (fun x => ⟨[(0, .raw false [(.ptr 0 0)]), (8, .raw false [(.ptr 2 0)]), (14, .dat (.int .i64) x.1)], [(0, .cells [(.osl 1)]), (1, .arr 132 (.p (.int .i64) (.p (.int .i64) (.p (.int .i64) (.p (.int .i64) (.p (.sl (.int .i64)) (.sl (.int .i64))))))) x.2.1), (2, .cells [(.osl 3), (.osl 4)]), (3, .arr 75 (.p (.sl (.int .i64)) (.sl (.int .i64))) x.2.2.1), (4, .arr 4 .bool x.2.2.2)], 5⟩) (fun z => Sum.elim (fun za => [(1, ⟨[(4, .raw false [(.c (.slice none 0 0))]), (5, .dat (.int .i64) za.1)], [(0, .cells [(.osl 1)]), (1, .arr 132 (.p (.int .i64) (.p (.int .i64) (.p (.int .i64) (.p (.int .i64) (.p (.sl (.int .i64)) (.sl (.int .i64))))))) za.2)], 2⟩)]) (fun zb => [(5, ⟨[(8, .raw false [(.ptr 2 0)])], [(0, .cells [(.osl 1)]), (1, .arr 132 (.p (.int .i64) (.p (.int .i64) (.p (.int .i64) (.p (.int .i64) (.p (.sl (.int .i64)) (.sl (.int .i64))))))) zb.2.2), (2, .cells [(.osl 3), (.osl 4)]), (3, .arr 75 (.p (.sl (.int .i64)) (.sl (.int .i64))) zb.1), (4, .arr 4 .bool zb.2.1)], 5⟩)]) z) (loopF (fun go x => f24_l2 go x.1 x.2.1 x.2.2.1 x.2.2.2)) fuelN (root, z5.1, (List.set z5.2.1 (Int.toNat z5.2.2.1) (z5.2.2.2.1, (List.set z5.2.2.2.2 (Int.toNat (0 : Int)) (4294967296 : Int)))), (List.set (List.replicate (Int.toNat (IntKind.i64.wrap (root + (1 : Int)))) false) (Int.toNat root) true)) z14 (And.intro hz14 (And.intro (Exists.intro [3] (And.intro rfl (Exists.intro [] (Exists.intro [] (Exists.intro [] (Exists.intro [(0, some 0), (1, some 1), (2, some 2), (3, some 3), (4, some 4)] (And.intro rfl (And.intro rfl (And.intro (And.intro rfl (And.intro rfl trivial)) (And.intro rfl (And.intro rfl (And.intro rfl (And.intro rfl (And.intro rfl trivial)))))))))))))) (And.intro (fun _ _ h => loopZ h) (And.intro (fun m => curI (fun n => curI (fun l1 => curI (fun l3 => fun l4 z hF => ?_)))) ?_))))
        · have hF : f24_l2 (loopF (fun go x => f24_l2 go x.1 x.2.1 x.2.2.1 x.2.2.2) m) n l1 l3 l4 = some z := hF
          unfold f24_l2 at hF
          refine Or.inl ?_
          refine Or.inl ?_
          refine condI hF (fun hF => ?_) (fun hF => ?_)
          · refine Or.inl ?_
            refine Or.inl ?_
            refine Or.inl ?_
            refine guardI hF (fun hF => ?_)
            refine condI hF (fun hF => ?_) (fun hF => ?_)
            · refine Exists.intro ((IntKind.i64.wrap (n - (1 : Int))), l1, l3, l4) (And.intro hF (Exists.intro [] (Exists.intro [] (Exists.intro [] (Exists.intro [] (Exists.intro [(0, some 0), (1, some 1), (2, some 2), (3, some 3), (4, some 4)] (And.intro rfl (And.intro rfl (And.intro (And.intro rfl (And.intro rfl trivial)) (And.intro rfl (And.intro rfl (And.intro rfl (And.intro rfl (And.intro rfl trivial))))))))))))))
            · refine Or.inl ?_
              obtain ⟨r15, hr15, hF⟩ := bindE hF
              refine Or.inl (And.intro f53_in (callV0 (callI C53 (l1, n) r15 [(0, some 0), (1, some 1)] false C53_holds hr15 rfl rfl ?_)))
              refine (And.intro rfl (And.intro (fun h => nomatch h) (And.intro rfl (And.intro rfl (And.intro (And.intro rfl trivial) (And.intro (And.intro rfl (And.intro rfl trivial)) ?_))))))
              refine Or.inl ?_
              refine Or.inl ?_
              refine guardI hF (fun hF => ?_)
              obtain ⟨r16, hr16, hF⟩ := bindE hF
              refine Or.inl (And.intro f54_in (callV0 (callI C54 (r15.2.2.2.2.2.2.2, n, ((rd (Ty.z (.p (.sl (.int .i64)) (.sl (.int .i64)))) l3 n).1, (rd (Ty.z (.p (.sl (.int .i64)) (.sl (.int .i64)))) l3 n).2)) r16 [(0, some 0), (1, some 1)] false C54_holds hr16 rfl rfl ?_)))
              refine (And.intro rfl (And.intro rfl (And.intro rfl (And.intro (fun h => nomatch h) (And.intro rfl (And.intro rfl (And.intro (And.intro rfl trivial) (And.intro (And.intro rfl (And.intro rfl trivial)) ?_))))))))
              refine Or.inl ?_
              refine Or.inl ?_
              refine Or.inl ?_
              refine Or.inl ?_
              refine condI hF (fun hF => ?_) (fun hF => ?_)
              · refine Or.inl ?_
                have hz := someE hF
                subst hz
                refine Exists.intro [] (Exists.intro [] (Exists.intro [] (Exists.intro [] (Exists.intro [(0, some 0), (1, some 1)] (And.intro rfl (And.intro rfl (And.intro (And.intro rfl trivial) (And.intro rfl (And.intro rfl trivial)))))))))
              · refine Or.inl ?_
                refine Or.inl ?_
                obtain ⟨r17, hr17, hF⟩ := bindE hF
                refine Or.inl (And.intro f55_in (callV0 (callI C55 (l3, l4, r15.2.1, (r16.2.1, r16.2.2.1)) r17 [(0, some 2), (1, some 3), (2, some 4)] false C55_holds hr17 rfl rfl ?_)))
                refine (And.intro rfl (And.intro rfl (And.intro rfl (And.intro (fun h => nomatch h) (And.intro rfl (And.intro rfl (And.intro (And.intro rfl trivial) (And.intro (And.intro rfl (And.intro rfl (And.intro rfl trivial))) ?_))))))))
                refine Or.inl ?_
                refine condI hF (fun hF => ?_) (fun hF => ?_)
                · refine Or.inl ?_
                  have hz := someE hF
                  subst hz
                  refine Exists.intro [] (Exists.intro [] (Exists.intro [] (Exists.intro [] (Exists.intro [(0, some 0), (1, some 1)] (And.intro rfl (And.intro rfl (And.intro (And.intro rfl trivial) (And.intro rfl (And.intro rfl trivial)))))))))
                · refine Or.inl ?_
                  obtain ⟨r18, hr18, hF⟩ := bindE hF
                  refine Or.inl (And.intro f55_in (callV0 (callI C55 (r17.2.1, r17.2.2, r15.2.2.1, (r16.2.2.2.1, r16.2.2.2.2.1)) r18 [(0, some 2), (1, some 3), (2, some 4)] false C55_holds hr18 rfl rfl ?_)))
                  refine (And.intro rfl (And.intro rfl (And.intro rfl (And.intro (fun h => nomatch h) (And.intro rfl (And.intro rfl (And.intro (And.intro rfl trivial) (And.intro (And.intro rfl (And.intro rfl (And.intro rfl trivial))) ?_))))))))
                  refine Or.inl ?_
                  refine condI hF (fun hF => ?_) (fun hF => ?_)
                  · refine Or.inl ?_
                    have hz := someE hF
                    subst hz
                    refine Exists.intro [] (Exists.intro [] (Exists.intro [] (Exists.intro [] (Exists.intro [(0, some 0), (1, some 1)] (And.intro rfl (And.intro rfl (And.intro (And.intro rfl trivial) (And.intro rfl (And.intro rfl trivial)))))))))
                  · refine Exists.intro ((IntKind.i64.wrap (n - (1 : Int))), r16.2.2.2.2.2, r18.2.1, r18.2.2) (And.intro hF (Exists.intro [] (Exists.intro [] (Exists.intro [] (Exists.intro [] (Exists.intro [(0, some 0), (1, some 1), (2, some 2), (3, some 3), (4, some 4)] (And.intro rfl (And.intro rfl (And.intro (And.intro rfl (And.intro rfl trivial)) (And.intro rfl (And.intro rfl (And.intro rfl (And.intro rfl (And.intro rfl trivial))))))))))))))
          · have hz := someE hF
            subst hz
            refine Exists.intro [] (Exists.intro [] (Exists.intro [] (Exists.intro [] (Exists.intro [(0, some 0), (1, some 1), (2, some 2), (3, some 3), (4, some 4)] (And.intro rfl (And.intro (And.intro rfl trivial) (And.intro rfl (And.intro rfl (And.intro rfl (And.intro rfl (And.intro rfl trivial)))))))))))
        · rcases z14 with z14a | z14b
          · dsimp only [sumF] at hF
            refine And.intro ?_ trivial
            have hy := someE hF
            subst hy
            refine And.intro rfl (Exists.intro [] (Exists.intro [] (Exists.intro [] (Exists.intro [] (Exists.intro [(0, some 0), (1, some 1), (2, none)] (And.intro rfl (And.intro rfl (And.intro (And.intro rfl trivial) (And.intro rfl (And.intro rfl (And.intro rfl trivial)))))))))))
          · dsimp only [sumF] at hF
            refine And.intro ?_ trivial
            refine Or.inl ?_
            have hy := someE hF
            subst hy
            refine And.intro rfl (Exists.intro [] (Exists.intro [] (Exists.intro [] (Exists.intro [] (Exists.intro [(0, some 0), (1, some 1), (2, some 3)] (And.intro rfl (And.intro rfl (And.intro (And.intro rfl trivial) (And.intro rfl (And.intro rfl (And.intro rfl trivial)))))))))))
theorem C24_holds : C24.Holds Tryz.prog 24 := holds_of_vc tab_ok mixed (fn := Tryz.f24) (by kernel_rfl) rfl C24 (fun x y hF => C24_vc x.1 x.2 y hF)
theorem f24_in : ∃ fn, Tryz.prog.funcs[24]? = some fn ∧ fn.body.isSome = true ∧ (fn.name == "runtime.NumGoroutine") = false := ⟨Tryz.f24, by kernel_rfl, by kernel_rfl, by kernel_rfl⟩
end Go.Proofs
namespace Go.Proofs
open Go.AM
-- carousel/grad.Of
def f8_j3 (kind : Int) : Option Bool :=
  bif (decide (kind < (1 : Int))) then
    some true
  else
    some (decide (kind > (3 : Int)))
def f8_j2 (kind : Int) : Option (Sum Unit Unit) :=
  bindF (f8_j3 kind) fun z3 =>
  bif z3 then
    some (Sum.inr ())
  else
    some (Sum.inl ())
def f8_l4 (r4 : Int × Int × (List Int) × (List (Int × Int × Int × Int × (List Int) × (List Int)))) (r6 : Int × (List ((List Int) × (List Int))) × (List (Int × Int × Int × Int × (List Int) × (List Int)))) (go : (Int × (List Int)) → Option (List Int)) (v64 : Int) (l2 : List Int) : Option (List Int) :=
  bif (decide (v64 < (List.length r4.2.2.1 : Int))) then
    guardF (0 ≤ v64 ∧ v64 < (List.length r4.2.2.1 : Int)) <|
    guardF (0 ≤ (rd (0 : Int) r4.2.2.1 v64) ∧ (rd (0 : Int) r4.2.2.1 v64) < (List.length r6.2.1 : Int)) <|
    guardF ((List.length l2 + List.length ((rd (Ty.z (.p (.sl (.int .i64)) (.sl (.int .i64)))) r6.2.1 (rd (0 : Int) r4.2.2.1 v64)).2)) * 8 ≤ 140737488355328) <|
    go ((IntKind.i64.wrap (v64 + (1 : Int))), (l2 ++ ((rd (Ty.z (.p (.sl (.int .i64)) (.sl (.int .i64)))) r6.2.1 (rd (0 : Int) r4.2.2.1 v64)).2)))
  else
    some l2
def f8 (n : (List Int) × (List (ByteArray × Int × Int))) (kind : Int) (p_ : List Int) (x_ : (List Int) × (List Int) × Int) : Option (Int × Int × (List Int)) :=
  bindF (f8_j2 kind) fun z2 =>
  sumF z2 (fun z2a =>
    bindF (f21) fun q20_7 =>
    bindF (f22 ([]) (n.1, n.2) p_ x_.1) fun r4 =>
    bif (r4.2.1 != (0 : Int)) then
      some ((0 : Int), r4.2.1, [])
    else
      bindF (f23 r4.2.2.2 kind r4.1 (x_.1, x_.2.1, x_.2.2)) fun r5 =>
      bif (r5.2.1 != (0 : Int)) then
        some ((0 : Int), r5.2.1, [])
      else
        bindF (f24 r5.2.2 r5.1) fun r6 =>
        bif (r6.1 != (0 : Int)) then
          some ((0 : Int), r6.1, [])
        else
          bindF (loopF (fun go x => f8_l4 r4 r6 go x.1 x.2) fuelN ((0 : Int), [])) fun z7 =>
          bindF (f25 r6.2.2 r5.1) fun r8 =>
          guardF (0 ≤ (0 : Int) ∧ (0 : Int) < (List.length r8.2.2.1 : Int)) <|
          some ((rd (0 : Int) r8.2.2.1 (0 : Int)), (0 : Int), z7)) (fun z2b =>
    some ((0 : Int), (1 : Int), []))
def C8 : Con where
  X := ((List Int) × (List (ByteArray × Int × Int))) × Int × (List Int) × ((List Int) × (List Int) × Int)
  Y := Int × Int × (List Int)
  e := 0
  args x := [.dat (.p (.sl (.int .i64)) (.sl (.p .str (.p (.int .i64) (.int .i64))))) x.1, .dat (.int .i64) x.2.1, .dat (.sl (.int .i64)) x.2.2.1, .dat (.p (.sl (.int .i64)) (.p (.sl (.int .i64)) (.int .i64))) x.2.2.2]
  hin x := []
  F x := f8 x.1 x.2.1 x.2.2.1 x.2.2.2
  ret y := [.raw false [(.osl 0)], .dat (.int .i64) y.1, .dat (.int .i64) y.2.1]
  hout y := [(0, .arr 23 (.int .i64) y.2.2)]
  nout := 1
theorem C8_vc (n : (List Int) × (List (ByteArray × Int × Int))) (kind : Int) (p_ : List Int) (x_ : (List Int) × (List Int) × Int) (y : Int × Int × (List Int)) (hF : f8 n kind p_ x_ = some y) : vc Tryz.prog tab Tryz.f8.ntmps 0 (match Tryz.f8.body with | some c => c | none => .skip) (retK tab C8 Tryz.f8.results.toList y) (C8.shIn (n, kind, p_, x_)).st := by
  unfold f8 at hF
  refine Or.inl ?_
  obtain ⟨z2, hz2, hF⟩ := bindE hF
  refine Or.inr ⟨Sum.elim (fun z2a => [(0, ⟨[(1, .dat (.int .i64) kind), (2, .dat (.sl (.int .i64)) p_), (4, .raw false [(.ptr 0 0)]), (7, .raw false [(.ptr 1 0)])], [(0, .cells [(.d (.sl (.int .i64)) n.1), (.d (.sl (.p .str (.p (.int .i64) (.int .i64)))) n.2)]), (1, .cells [(.d (.sl (.int .i64)) x_.1), (.d (.sl (.int .i64)) x_.2.1), (.d (.int .i64) x_.2.2)])], 2⟩)]) (fun z2b => [(1, ⟨[(8, .raw false [(.c (.slice none 0 0))]), (9, .dat (.int .i64) (0 : Int)), (10, .dat (.int .i64) (1 : Int))], [], 0⟩)]) z2, ?_, ?_⟩
  · have hF := hz2
    clear hz2
    unfold f8_j2 at hF
    obtain ⟨z3, hz3, hF⟩ := bindE hF
    refine Or.inr ⟨[(0, ⟨[(1, .dat (.int .i64) kind), (2, .dat (.sl (.int .i64)) p_), (4, .raw false [(.ptr 0 0)]), (7, .raw false [(.ptr 1 0)]), (27, .dat .bool z3)], [(0, .cells [(.d (.sl (.int .i64)) n.1), (.d (.sl (.p .str (.p (.int .i64) (.int .i64)))) n.2)]), (1, .cells [(.d (.sl (.int .i64)) x_.1), (.d (.sl (.int .i64)) x_.2.1), (.d (.int .i64) x_.2.2)])], 2⟩)], ?_, ?_⟩
    · have hF := hz3
      clear hz3
      unfold f8_j3 at hF
      refine condN hF (fun hF => ?_) (fun hF => ?_)
      · refine gdYF ?_
        refine condF ?_
        have hz := someE hF
        subst hz
        refine Exists.intro [] (Exists.intro [] (Exists.intro [] (Exists.intro [] (Exists.intro [(0, some 0), (1, some 1)] (And.intro rfl (And.intro rfl (And.intro rfl (And.intro rfl (And.intro (And.intro rfl (And.intro rfl trivial)) (And.intro rfl (And.intro rfl trivial)))))))))))
      · refine gdNF ?_
        refine condT ?_
        have hz := someE hF
        subst hz
        refine Exists.intro [] (Exists.intro [] (Exists.intro [] (Exists.intro [] (Exists.intro [(0, some 0), (1, some 1)] (And.intro rfl (And.intro rfl (And.intro rfl (And.intro rfl (And.intro (And.intro rfl (And.intro rfl trivial)) (And.intro rfl (And.intro rfl trivial)))))))))))
    · refine And.intro ?_ trivial
      refine condI hF (fun hF => ?_) (fun hF => ?_)
      · refine Or.inl ?_
        have hz := someE hF
        subst hz
        refine Exists.intro [] (Exists.intro [] (Exists.intro [] (Exists.intro [] (Exists.intro [] (And.intro rfl (And.intro rfl (And.intro rfl (And.intro (And.intro rfl trivial) trivial))))))))
      · have hz := someE hF
        subst hz
        refine Exists.intro [] (Exists.intro [] (Exists.intro [] (Exists.intro [] (Exists.intro [(0, some 0), (1, some 1)] (And.intro rfl (And.intro rfl (And.intro rfl (And.intro (And.intro rfl (And.intro rfl trivial)) (And.intro rfl (And.intro rfl trivial))))))))))
  · rcases z2 with z2a | z2b
    · dsimp only [sumF] at hF
      refine And.intro ?_ trivial
      refine Or.inl ?_
      obtain ⟨q20_7, hq20_7, hF⟩ := bindE hF
      refine Or.inl (And.intro f21_in (callV0 (callI C21 () q20_7 [] false C21_holds hq20_7 rfl rfl ?_)))
      refine (And.intro (fun h => nomatch h) (And.intro rfl (And.intro rfl (And.intro trivial (And.intro trivial ?_)))))
      refine Or.inl ?_
      obtain ⟨r4, hr4, hF⟩ := bindE hF
      refine Or.inl (And.intro f22_in (callV0 (callI C22 ([], (n.1, n.2), p_, x_.1) r4 [(0, some 2), (1, some 3)] false C22_holds hr4 rfl rfl ?_)))
      refine (And.intro rfl (And.intro rfl (And.intro rfl (And.intro rfl (And.intro (fun h => nomatch h) (And.intro rfl (And.intro rfl (And.intro (And.intro rfl trivial) (And.intro (And.intro rfl (And.intro rfl trivial)) ?_)))))))))
      refine Or.inl ?_
      refine Or.inl ?_
      refine condI hF (fun hF => ?_) (fun hF => ?_)
      · refine Or.inl ?_
        have hy := someE hF
        subst hy
        refine And.intro rfl (Exists.intro [] (Exists.intro [] (Exists.intro [] (Exists.intro [] (Exists.intro [(0, none)] (And.intro rfl (And.intro rfl (And.intro rfl (And.intro (And.intro rfl trivial) (And.intro rfl trivial))))))))))
      · refine Or.inl ?_
        obtain ⟨r5, hr5, hF⟩ := bindE hF
        refine Or.inl (And.intro f23_in (callV0 (callI C23 (r4.2.2.2, kind, r4.1, (x_.1, x_.2.1, x_.2.2)) r5 [(0, some 2), (1, some 7)] false C23_holds hr5 rfl rfl ?_)))
        refine (And.intro rfl (And.intro rfl (And.intro rfl (And.intro rfl (And.intro (fun h => nomatch h) (And.intro rfl (And.intro rfl (And.intro (And.intro rfl trivial) (And.intro (And.intro rfl (And.intro rfl trivial)) ?_)))))))))
        refine Or.inl ?_
        refine Or.inl ?_
        refine condI hF (fun hF => ?_) (fun hF => ?_)
        · refine Or.inl ?_
          have hy := someE hF
          subst hy
          refine And.intro rfl (Exists.intro [] (Exists.intro [] (Exists.intro [] (Exists.intro [] (Exists.intro [(0, none)] (And.intro rfl (And.intro rfl (And.intro rfl (And.intro (And.intro rfl trivial) (And.intro rfl trivial))))))))))
        · refine Or.inl ?_
          obtain ⟨r6, hr6, hF⟩ := bindE hF
          refine Or.inl (And.intro f24_in (callV0 (callI C24 (r5.2.2, r5.1) r6 [(0, some 2), (1, some 10)] false C24_holds hr6 rfl rfl ?_)))
          refine (And.intro rfl (And.intro (fun h => nomatch h) (And.intro rfl (And.intro rfl (And.intro (And.intro rfl trivial) (And.intro (And.intro rfl (And.intro rfl trivial)) ?_))))))
          refine Or.inl ?_
          refine Or.inl ?_
          refine condI hF (fun hF => ?_) (fun hF => ?_)
          · refine Or.inl ?_
            have hy := someE hF
            subst hy
            refine And.intro rfl (Exists.intro [] (Exists.intro [] (Exists.intro [] (Exists.intro [] (Exists.intro [(0, none)] (And.intro rfl (And.intro rfl (And.intro rfl (And.intro (And.intro rfl trivial) (And.intro rfl trivial))))))))))
          · refine Or.inl ?_
            refine Or.inl ?_
            refine Or.inl ?_
            obtain ⟨z7, hz7, hF⟩ := bindE hF
            refine loopI (Int × (List Int)) (List Int) (fun x => ⟨[(11, .raw false [(.ptr 0 0)]), (15, .dat (.int .i64) r5.1), (16, .raw false [(.osl 1)]), (17, .raw false [(.osl 2)]), (62, .raw false [(.osl 3)]), (63, .dat (.int .i64) (List.length r4.2.2.1 : Int)), (64, .dat (.int .i64) x.1)], [(0, .cells [(.osl 4)]), (1, .arr 75 (.p (.sl (.int .i64)) (.sl (.int .i64))) r6.2.1), (2, .arr 23 (.int .i64) x.2), (3, .arr 3 (.int .i64) r4.2.2.1), (4, .arr 132 (.p (.int .i64) (.p (.int .i64) (.p (.int .i64) (.p (.int .i64) (.p (.sl (.int .i64)) (.sl (.int .i64))))))) r6.2.2)], 5⟩) (fun z => [(2, ⟨[(11, .raw false [(.ptr 0 0)]), (15, .dat (.int .i64) r5.1), (17, .raw false [(.osl 1)])], [(0, .cells [(.osl 2)]), (1, .arr 23 (.int .i64) z), (2, .arr 132 (.p (.int .i64) (.p (.int .i64) (.p (.int .i64) (.p (.int .i64) (.p (.sl (.int .i64)) (.sl (.int .i64))))))) r6.2.2)], 3⟩)]) (loopF (fun go x => f8_l4 r4 r6 go x.1 x.2)) fuelN ((0 : Int), []) z7 (And.intro hz7 (And.intro (Exists.intro [] (Exists.intro [] (Exists.intro [] (Exists.intro [] (Exists.intro [(0, some 2), (1, some 13), (2, none), (3, some 6), (4, some 10)] (And.intro rfl (And.intro rfl (And.intro rfl (And.intro rfl (And.intro (And.intro rfl (And.intro rfl (And.intro rfl (And.intro rfl trivial)))) (And.intro rfl (And.intro rfl (And.intro rfl (And.intro rfl (And.intro rfl trivial))))))))))))))) (And.intro (fun _ _ h => loopZ h) (And.intro (fun m => curI (fun v64 => fun l2 z hF => ?_)) ?_))))
            · have hF : f8_l4 r4 r6 (loopF (fun go x => f8_l4 r4 r6 go x.1 x.2) m) v64 l2 = some z := hF
              unfold f8_l4 at hF
              refine Or.inl ?_
              refine Or.inl ?_
              refine condI hF (fun hF => ?_) (fun hF => ?_)
              · refine Or.inl ?_
                refine Or.inl ?_
                refine guardI hF (fun hF => ?_)
                refine guardI hF (fun hF => ?_)
                refine Or.inl ?_
                refine guardI hF (fun hF => ?_)
                refine Exists.intro ((IntKind.i64.wrap (v64 + (1 : Int))), (l2 ++ ((rd (Ty.z (.p (.sl (.int .i64)) (.sl (.int .i64)))) r6.2.1 (rd (0 : Int) r4.2.2.1 v64)).2))) (And.intro hF (Exists.intro [] (Exists.intro [] (Exists.intro [] (Exists.intro [] (Exists.intro [(0, some 0), (1, some 1), (2, some 5), (3, some 3), (4, some 4)] (And.intro rfl (And.intro rfl (And.intro rfl (And.intro rfl (And.intro (And.intro rfl (And.intro rfl (And.intro rfl (And.intro rfl trivial)))) (And.intro rfl (And.intro rfl (And.intro rfl (And.intro rfl (And.intro rfl trivial))))))))))))))))
              · have hz := someE hF
                subst hz
                refine Exists.intro [] (Exists.intro [] (Exists.intro [] (Exists.intro [] (Exists.intro [(0, some 0), (1, some 2), (2, some 4)] (And.intro rfl (And.intro rfl (And.intro (And.intro rfl (And.intro rfl trivial)) (And.intro rfl (And.intro rfl (And.intro rfl trivial))))))))))
            · refine And.intro ?_ trivial
              refine Or.inl ?_
              obtain ⟨r8, hr8, hF⟩ := bindE hF
              refine Or.inl (And.intro f25_in (callV0 (callI C25 (r6.2.2, r5.1) r8 [(0, some 0), (1, some 2)] false C25_holds hr8 rfl rfl ?_)))
              refine (And.intro rfl (And.intro (fun h => nomatch h) (And.intro rfl (And.intro rfl (And.intro (And.intro rfl trivial) (And.intro (And.intro rfl (And.intro rfl trivial)) ?_))))))
              refine Or.inl ?_
              refine Or.inl ?_
              refine Exists.intro (.take 0 (.take 1 (.take 2 (.take 3 (.take 4 (.take 5 (.take 6 (.take 7 .done)))))))) (Exists.intro [] (Exists.intro [] (And.intro rfl ?_)))
              refine guardI hF (fun hF => ?_)
              have hy := someE hF
              subst hy
              refine And.intro rfl (Exists.intro [] (Exists.intro [] (Exists.intro [] (Exists.intro [] (Exists.intro [(0, some 1)] (And.intro rfl (And.intro rfl (And.intro rfl (And.intro (And.intro rfl trivial) (And.intro rfl trivial))))))))))
    · dsimp only [sumF] at hF
      refine And.intro ?_ trivial
      have hy := someE hF
      subst hy
      refine And.intro rfl (Exists.intro [] (Exists.intro [] (Exists.intro [] (Exists.intro [] (Exists.intro [(0, none)] (And.intro rfl (And.intro rfl (And.intro rfl (And.intro (And.intro rfl trivial) (And.intro rfl trivial))))))))))
theorem C8_holds : C8.Holds Tryz.prog 8 := holds_of_vc tab_ok mixed (fn := Tryz.f8) (by kernel_rfl) rfl C8 (fun x y hF => C8_vc x.1 x.2.1 x.2.2.1 x.2.2.2 y hF)
theorem f8_in : ∃ fn, Tryz.prog.funcs[8]? = some fn ∧ fn.body.isSome = true ∧ (fn.name == "runtime.NumGoroutine") = false := ⟨Tryz.f8, by kernel_rfl, by kernel_rfl, by kernel_rfl⟩
end Go.Proofs
namespace Go.Proofs
open Go.AM
-- carousel/grad.Sum
def f19_l4 (q17_4 : Int × Int × (List Int)) (go : (Int × (List (Int × Int))) → Option (List (Int × Int))) (v55 : Int) (l2_2 : List (Int × Int)) : Option (List (Int × Int)) :=
  bif (decide (v55 < (List.length q17_4.2.2 : Int))) then
    guardF (0 ≤ v55 ∧ v55 < (List.length q17_4.2.2 : Int)) <|
    guardF (0 ≤ v55 ∧ v55 < (List.length l2_2 : Int)) <|
    bindF (f41 (rd (0 : Int) q17_4.2.2 v55)) fun q15_7 =>
    bindF (f26 ((rd (Ty.z (.p (.int .i64) (.int .u64))) l2_2 v55).1, (rd (Ty.z (.p (.int .i64) (.int .u64))) l2_2 v55).2) (q15_7.1, q15_7.2)) fun q15_8 =>
    guardF (0 ≤ v55 ∧ v55 < (List.length l2_2 : Int)) <|
    go ((IntKind.i64.wrap (v55 + (1 : Int))), (List.set l2_2 (Int.toNat v55) (q15_8.1, q15_8.2)))
  else
    some l2_2
def f19_l3 (n : (List Int) × (List (ByteArray × Int × Int))) (kind : Int) (p_ : List Int) (l : List ((List Int) × (List Int) × Int)) (go : (Int × (List (Int × Int)) × Int × Int) → Option (Sum Int ((List (Int × Int)) × Int × Int))) (v36 : Int) (l2 : List (Int × Int)) (c3_0 : Int) (c3_1 : Int) : Option (Sum Int ((List (Int × Int)) × Int × Int)) :=
  bif (decide (v36 < (List.length l : Int))) then
    guardF (0 ≤ v36 ∧ v36 < (List.length l : Int)) <|
    bindF (f8 (n.1, n.2) kind p_ ((rd (Ty.z (.p (.sl (.int .i64)) (.p (.sl (.int .i64)) (.int .i64)))) l v36).1, ((rd (Ty.z (.p (.sl (.int .i64)) (.p (.sl (.int .i64)) (.int .i64)))) l v36).2).1, ((rd (Ty.z (.p (.sl (.int .i64)) (.p (.sl (.int .i64)) (.int .i64)))) l v36).2).2)) fun q17_4 =>
    bif (q17_4.2.1 != (0 : Int)) then
      some (Sum.inl q17_4.2.1)
    else
      bindF (loopF (fun go x => f19_l4 q17_4 go x.1 x.2) fuelN ((0 : Int), l2)) fun z5 =>
      bindF (f41 q17_4.1) fun q17_2 =>
      bindF (f26 (c3_0, c3_1) (q17_2.1, q17_2.2)) fun q17_3 =>
      go ((IntKind.i64.wrap (v36 + (1 : Int))), z5, q17_3.1, q17_3.2)
  else
    some (Sum.inr (l2, c3_0, c3_1))
def f19 (n : (List Int) × (List (ByteArray × Int × Int))) (kind : Int) (p_ : List Int) (l : List ((List Int) × (List Int) × Int)) : Option (Int × Int × Int × (List (Int × Int))) :=
  bindF (f37 (n.1, n.2)) fun q19_4 =>
  bif (q19_4.2 != (0 : Int)) then
    some ((0 : Int), (0 : Int), q19_4.2, [])
  else
    guardF (0 ≤ q19_4.1 ∧ q19_4.1 ≤ q19_4.1 ∧ Int.toNat q19_4.1 * 16 ≤ 140737488355328) <|
    bindF (loopF (fun go x => f19_l3 n kind p_ l go x.1 x.2.1 x.2.2.1 x.2.2.2) fuelN ((0 : Int), (List.replicate (Int.toNat q19_4.1) (Ty.z (.p (.int .i64) (.int .u64)))), (0 : Int), (0 : Int))) fun z4 =>
    sumF z4 (fun z4a =>
      some ((0 : Int), (0 : Int), z4a, [])) (fun z4b =>
      some (z4b.2.1, z4b.2.2, (0 : Int), z4b.1))
def C19 : Con where
  X := ((List Int) × (List (ByteArray × Int × Int))) × Int × (List Int) × (List ((List Int) × (List Int) × Int))
  Y := Int × Int × Int × (List (Int × Int))
  e := 0
  args x := [.dat (.p (.sl (.int .i64)) (.sl (.p .str (.p (.int .i64) (.int .i64))))) x.1, .dat (.int .i64) x.2.1, .dat (.sl (.int .i64)) x.2.2.1, .dat (.sl (.p (.sl (.int .i64)) (.p (.sl (.int .i64)) (.int .i64)))) x.2.2.2]
  hin x := []
  F x := f19 x.1 x.2.1 x.2.2.1 x.2.2.2
  ret y := [.raw false [(.osl 0)], .raw true [(.d (.int .i64) y.1), (.d (.int .u64) y.2.1)], .dat (.int .i64) y.2.2.1]
  hout y := [(0, .arr 40 (.p (.int .i64) (.int .u64)) y.2.2.2)]
  nout := 1
theorem C19_vc (n : (List Int) × (List (ByteArray × Int × Int))) (kind : Int) (p_ : List Int) (l : List ((List Int) × (List Int) × Int)) (y : Int × Int × Int × (List (Int × Int))) (hF : f19 n kind p_ l = some y) : vc Tryz.prog tab Tryz.f19.ntmps 0 (match Tryz.f19.body with | some c => c | none => .skip) (retK tab C19 Tryz.f19.results.toList y) (C19.shIn (n, kind, p_, l)).st := by
  unfold f19 at hF
  refine Or.inl ?_
  refine Or.inl ?_
  obtain ⟨q19_4, hq19_4, hF⟩ := bindE hF
  refine Or.inl (And.intro f37_in (callV0 (callI C37 (n.1, n.2) q19_4 [] false C37_holds hq19_4 rfl rfl ?_)))
  refine (And.intro rfl (And.intro rfl (And.intro (fun h => nomatch h) (And.intro rfl (And.intro rfl (And.intro trivial (And.intro trivial ?_)))))))
  refine Or.inl ?_
  refine Or.inl ?_
  refine condI hF (fun hF => ?_) (fun hF => ?_)
  · refine Or.inl ?_
    refine Or.inl ?_
    have hy := someE hF
    subst hy
    refine And.intro rfl (Exists.intro [] (Exists.intro [] (Exists.intro [] (Exists.intro [] (Exists.intro [(0, none)] (And.intro rfl (And.intro rfl (And.intro (And.intro rfl (And.intro rfl trivial)) (And.intro rfl trivial)))))))))
  · refine Or.inl ?_
    refine guardI hF (fun hF => ?_)
    refine Or.inl ?_
    refine Or.inl ?_
    refine Or.inl ?_
    refine Or.inl ?_
    obtain ⟨z4, hz4, hF⟩ := bindE hF
    refine loopI (Int × (List (Int × Int)) × Int × Int) (Sum Int ((List (Int × Int)) × Int × Int)) (fun x => ⟨[(1, .dat (.int .i64) kind), (2, .dat (.sl (.int .i64)) p_), (4, .raw false [(.ptr 0 0)]), (9, .raw false [(.ptr 1 0)]), (13, .raw false [(.osl 2)]), (14, .raw false [(.ptr 3 0)]), (34, .dat (.sl (.p (.sl (.int .i64)) (.p (.sl (.int .i64)) (.int .i64)))) l), (35, .dat (.int .i64) (List.length l : Int)), (36, .dat (.int .i64) x.1)], [(0, .cells [(.d (.sl (.int .i64)) n.1), (.d (.sl (.p .str (.p (.int .i64) (.int .i64)))) n.2)]), (1, .cells [(.d (.int .i64) (0 : Int)), (.d (.int .u64) (0 : Int))]), (2, .arr 40 (.p (.int .i64) (.int .u64)) x.2.1), (3, .cells [(.d (.int .i64) x.2.2.1), (.d (.int .u64) x.2.2.2)])], 4⟩) (fun z => Sum.elim (fun za => [(1, ⟨[(8, .raw false [(.c (.slice none 0 0))]), (9, .raw false [(.ptr 0 0)]), (10, .dat (.int .i64) za)], [(0, .cells [(.d (.int .i64) (0 : Int)), (.d (.int .u64) (0 : Int))])], 1⟩)]) (fun zb => [(2, ⟨[(9, .raw false [(.ptr 0 0)]), (13, .raw false [(.osl 1)]), (14, .raw false [(.ptr 2 0)])], [(0, .cells [(.d (.int .i64) (0 : Int)), (.d (.int .u64) (0 : Int))]), (1, .arr 40 (.p (.int .i64) (.int .u64)) zb.1), (2, .cells [(.d (.int .i64) zb.2.1), (.d (.int .u64) zb.2.2)])], 3⟩)]) z) (loopF (fun go x => f19_l3 n kind p_ l go x.1 x.2.1 x.2.2.1 x.2.2.2)) fuelN ((0 : Int), (List.replicate (Int.toNat q19_4.1) (Ty.z (.p (.int .i64) (.int .u64)))), (0 : Int), (0 : Int)) z4 (And.intro hz4 (And.intro (Exists.intro [] (Exists.intro [] (Exists.intro [] (Exists.intro [] (Exists.intro [(0, some 0), (1, some 1), (2, some 2), (3, some 3)] (And.intro rfl (And.intro rfl (And.intro rfl (And.intro rfl (And.intro rfl (And.intro rfl (And.intro (And.intro rfl (And.intro rfl (And.intro rfl (And.intro rfl trivial)))) (And.intro rfl (And.intro rfl (And.intro rfl (And.intro rfl trivial)))))))))))))))) (And.intro (fun _ _ h => loopZ h) (And.intro (fun m => curI (fun v36 => curI (fun l2 => curI (fun c3_0 => fun c3_1 z hF => ?_)))) ?_))))
    · have hF : f19_l3 n kind p_ l (loopF (fun go x => f19_l3 n kind p_ l go x.1 x.2.1 x.2.2.1 x.2.2.2) m) v36 l2 c3_0 c3_1 = some z := hF
      unfold f19_l3 at hF
      refine Or.inl ?_
      refine Or.inl ?_
      refine condI hF (fun hF => ?_) (fun hF => ?_)
      · refine Or.inl ?_
        refine Or.inl ?_
        refine guardI hF (fun hF => ?_)
        refine Or.inl ?_
        refine Or.inl ?_
        obtain ⟨q17_4, hq17_4, hF⟩ := bindE hF
        refine Or.inl (And.intro f8_in (callV0 (callI C8 ((n.1, n.2), kind, p_, ((rd (Ty.z (.p (.sl (.int .i64)) (.p (.sl (.int .i64)) (.int .i64)))) l v36).1, ((rd (Ty.z (.p (.sl (.int .i64)) (.p (.sl (.int .i64)) (.int .i64)))) l v36).2).1, ((rd (Ty.z (.p (.sl (.int .i64)) (.p (.sl (.int .i64)) (.int .i64)))) l v36).2).2)) q17_4 [] false C8_holds hq17_4 rfl rfl ?_)))
        refine (And.intro rfl (And.intro rfl (And.intro rfl (And.intro rfl (And.intro rfl (And.intro rfl (And.intro (fun h => nomatch h) (And.intro rfl (And.intro rfl (And.intro trivial (And.intro trivial ?_)))))))))))
        refine Or.inl ?_
        refine Or.inl ?_
        refine condI hF (fun hF => ?_) (fun hF => ?_)
        · refine Or.inl ?_
          refine Or.inl ?_
          have hz := someE hF
          subst hz
          refine Exists.intro [] (Exists.intro [] (Exists.intro [] (Exists.intro [] (Exists.intro [(0, some 1)] (And.intro rfl (And.intro rfl (And.intro (And.intro rfl (And.intro rfl trivial)) (And.intro rfl trivial))))))))
        · refine Or.inl ?_
          refine Or.inl ?_
          obtain ⟨z5, hz5, hF⟩ := bindE hF
          refine loopI (Int × (List (Int × Int))) (List (Int × Int)) (fun x => ⟨[(1, .dat (.int .i64) kind), (2, .dat (.sl (.int .i64)) p_), (4, .raw false [(.ptr 0 0)]), (9, .raw false [(.ptr 1 0)]), (13, .raw false [(.osl 2)]), (14, .raw false [(.ptr 3 0)]), (18, .dat (.int .i64) q17_4.1), (34, .dat (.sl (.p (.sl (.int .i64)) (.p (.sl (.int .i64)) (.int .i64)))) l), (35, .dat (.int .i64) (List.length l : Int)), (36, .dat (.int .i64) v36), (53, .raw false [(.osl 4)]), (54, .dat (.int .i64) (List.length q17_4.2.2 : Int)), (55, .dat (.int .i64) x.1)], [(0, .cells [(.d (.sl (.int .i64)) n.1), (.d (.sl (.p .str (.p (.int .i64) (.int .i64)))) n.2)]), (1, .cells [(.d (.int .i64) (0 : Int)), (.d (.int .u64) (0 : Int))]), (2, .arr 40 (.p (.int .i64) (.int .u64)) x.2), (3, .cells [(.d (.int .i64) c3_0), (.d (.int .u64) c3_1)]), (4, .arr 23 (.int .i64) q17_4.2.2)], 5⟩) (fun z => [(4, ⟨[(1, .dat (.int .i64) kind), (2, .dat (.sl (.int .i64)) p_), (4, .raw false [(.ptr 0 0)]), (9, .raw false [(.ptr 1 0)]), (13, .raw false [(.osl 2)]), (14, .raw false [(.ptr 3 0)]), (18, .dat (.int .i64) q17_4.1), (34, .dat (.sl (.p (.sl (.int .i64)) (.p (.sl (.int .i64)) (.int .i64)))) l), (35, .dat (.int .i64) (List.length l : Int)), (36, .dat (.int .i64) v36)], [(0, .cells [(.d (.sl (.int .i64)) n.1), (.d (.sl (.p .str (.p (.int .i64) (.int .i64)))) n.2)]), (1, .cells [(.d (.int .i64) (0 : Int)), (.d (.int .u64) (0 : Int))]), (2, .arr 40 (.p (.int .i64) (.int .u64)) z), (3, .cells [(.d (.int .i64) c3_0), (.d (.int .u64) c3_1)])], 4⟩)]) (loopF (fun go x => f19_l4 q17_4 go x.1 x.2)) fuelN ((0 : Int), l2) z5 (And.intro hz5 (And.intro (Exists.intro [] (Exists.intro [] (Exists.intro [] (Exists.intro [] (Exists.intro [(0, some 0), (1, some 1), (2, some 2), (3, some 3), (4, some 5)] (And.intro rfl (And.intro rfl (And.intro rfl (And.intro rfl (And.intro rfl (And.intro rfl (And.intro rfl (And.intro rfl (And.intro rfl (And.intro (And.intro rfl (And.intro rfl (And.intro rfl (And.intro rfl (And.intro rfl trivial))))) (And.intro rfl (And.intro rfl (And.intro rfl (And.intro rfl (And.intro rfl trivial)))))))))))))))))))) (And.intro (fun _ _ h => loopZ h) (And.intro (fun m => curI (fun v55 => fun l2_2 z hF => ?_)) ?_))))
          · have hF : f19_l4 q17_4 (loopF (fun go x => f19_l4 q17_4 go x.1 x.2) m) v55 l2_2 = some z := hF
            unfold f19_l4 at hF
            refine Or.inl ?_
            refine Or.inl ?_
            refine condI hF (fun hF => ?_) (fun hF => ?_)
            · refine Or.inl ?_
              refine Or.inl ?_
              refine guardI hF (fun hF => ?_)
              refine Exists.intro (.take 0 (.take 1 (.take 2 (.take 3 (.take 4 (.take 5 (.take 6 (.alt 7 (.alt 8 (.take 9 (.alt 10 .done .done)) .done) .done)))))))) (Exists.intro [(10, [2])] (Exists.intro [] (And.intro rfl ?_)))
              refine guardI hF (fun hF => ?_)
              refine And.intro trivial ?_
              obtain ⟨q15_7, hq15_7, hF⟩ := bindE hF
              refine Or.inl (And.intro f41_in (callV0 (callI C41 (rd (0 : Int) q17_4.2.2 v55) q15_7 [] false C41_holds hq15_7 rfl rfl ?_)))
              refine (And.intro rfl (And.intro (fun h => nomatch h) (And.intro rfl (And.intro rfl (And.intro trivial (And.intro trivial ?_))))))
              refine And.intro trivial ?_
              obtain ⟨q15_8, hq15_8, hF⟩ := bindE hF
              refine Or.inl (And.intro f26_in (callV0 (callI C26 (((rd (Ty.z (.p (.int .i64) (.int .u64))) l2_2 v55).1, (rd (Ty.z (.p (.int .i64) (.int .u64))) l2_2 v55).2), (q15_7.1, q15_7.2)) q15_8 [] false C26_holds hq15_8 rfl rfl ?_)))
              refine (And.intro rfl (And.intro rfl (And.intro rfl (And.intro rfl (And.intro (fun h => nomatch h) (And.intro rfl (And.intro rfl (And.intro trivial (And.intro trivial ?_)))))))))
              refine guardI hF (fun hF => ?_)
              refine And.intro trivial ?_
              refine Or.inl ?_
              refine Exists.intro ((IntKind.i64.wrap (v55 + (1 : Int))), (List.set l2_2 (Int.toNat v55) (q15_8.1, q15_8.2))) (And.intro hF (Exists.intro [] (Exists.intro [] (Exists.intro [] (Exists.intro [] (Exists.intro [(0, some 0), (1, some 1), (2, some 2), (3, some 3), (4, some 4)] (And.intro rfl (And.intro rfl (And.intro rfl (And.intro rfl (And.intro rfl (And.intro rfl (And.intro rfl (And.intro rfl (And.intro rfl (And.intro (And.intro rfl (And.intro rfl (And.intro rfl (And.intro rfl (And.intro rfl trivial))))) (And.intro rfl (And.intro rfl (And.intro rfl (And.intro rfl (And.intro rfl trivial)))))))))))))))))))))
            · have hz := someE hF
              subst hz
              refine Exists.intro [] (Exists.intro [] (Exists.intro [] (Exists.intro [] (Exists.intro [(0, some 0), (1, some 1), (2, some 2), (3, some 3)] (And.intro rfl (And.intro rfl (And.intro rfl (And.intro rfl (And.intro rfl (And.intro rfl (And.intro rfl (And.intro (And.intro rfl (And.intro rfl (And.intro rfl (And.intro rfl trivial)))) (And.intro rfl (And.intro rfl (And.intro rfl (And.intro rfl trivial))))))))))))))))
          · refine And.intro ?_ trivial
            refine Exists.intro (.take 0 (.take 1 (.alt 2 (.alt 3 (.alt 4 .done .done) .done) .done))) (Exists.intro [(4, [3])] (Exists.intro [] (And.intro rfl ?_)))
            refine And.intro trivial ?_
            obtain ⟨q17_2, hq17_2, hF⟩ := bindE hF
            refine Or.inl (And.intro f41_in (callV0 (callI C41 q17_4.1 q17_2 [] false C41_holds hq17_2 rfl rfl ?_)))
            refine (And.intro rfl (And.intro (fun h => nomatch h) (And.intro rfl (And.intro rfl (And.intro trivial (And.intro trivial ?_))))))
            refine And.intro trivial ?_
            obtain ⟨q17_3, hq17_3, hF⟩ := bindE hF
            refine Or.inl (And.intro f26_in (callV0 (callI C26 ((c3_0, c3_1), (q17_2.1, q17_2.2)) q17_3 [] false C26_holds hq17_3 rfl rfl ?_)))
            refine (And.intro rfl (And.intro rfl (And.intro rfl (And.intro rfl (And.intro (fun h => nomatch h) (And.intro rfl (And.intro rfl (And.intro trivial (And.intro trivial ?_)))))))))
            refine And.intro trivial ?_
            refine Or.inl ?_
            refine Exists.intro ((IntKind.i64.wrap (v36 + (1 : Int))), z5, q17_3.1, q17_3.2) (And.intro hF (Exists.intro [] (Exists.intro [] (Exists.intro [] (Exists.intro [] (Exists.intro [(0, some 0), (1, some 1), (2, some 2), (3, some 3)] (And.intro rfl (And.intro rfl (And.intro rfl (And.intro rfl (And.intro rfl (And.intro rfl (And.intro (And.intro rfl (And.intro rfl (And.intro rfl (And.intro rfl trivial)))) (And.intro rfl (And.intro rfl (And.intro rfl (And.intro rfl trivial)))))))))))))))))
      · have hz := someE hF
        subst hz
        refine Exists.intro [] (Exists.intro [] (Exists.intro [] (Exists.intro [] (Exists.intro [(0, some 1), (1, some 2), (2, some 3)] (And.intro rfl (And.intro (And.intro rfl (And.intro rfl (And.intro rfl trivial))) (And.intro rfl (And.intro rfl (And.intro rfl trivial)))))))))
    · rcases z4 with z4a | z4b
      · dsimp only [sumF] at hF
        refine And.intro ?_ trivial
        have hy := someE hF
        subst hy
        refine And.intro rfl (Exists.intro [] (Exists.intro [] (Exists.intro [] (Exists.intro [] (Exists.intro [(0, none)] (And.intro rfl (And.intro rfl (And.intro (And.intro rfl (And.intro rfl trivial)) (And.intro rfl trivial)))))))))
      · dsimp only [sumF] at hF
        refine And.intro ?_ trivial
        refine Or.inl ?_
        refine Exists.intro (.take 0 (.take 1 (.take 2 (.alt 3 (.take 4 .done) .done)))) (Exists.intro [] (Exists.intro [] (And.intro rfl ?_)))
        refine And.intro trivial ?_
        refine Or.inl ?_
        have hy := someE hF
        subst hy
        refine And.intro rfl (Exists.intro [] (Exists.intro [] (Exists.intro [] (Exists.intro [] (Exists.intro [(0, some 1)] (And.intro rfl (And.intro rfl (And.intro (And.intro rfl (And.intro rfl trivial)) (And.intro rfl trivial)))))))))
theorem C19_holds : C19.Holds Tryz.prog 19 := holds_of_vc tab_ok mixed (fn := Tryz.f19) (by kernel_rfl) rfl C19 (fun x y hF => C19_vc x.1 x.2.1 x.2.2.1 x.2.2.2 y hF)
theorem f19_in : ∃ fn, Tryz.prog.funcs[19]? = some fn ∧ fn.body.isSome = true ∧ (fn.name == "runtime.NumGoroutine") = false := ⟨Tryz.f19, by kernel_rfl, by kernel_rfl, by kernel_rfl⟩
end Go.Proofs
