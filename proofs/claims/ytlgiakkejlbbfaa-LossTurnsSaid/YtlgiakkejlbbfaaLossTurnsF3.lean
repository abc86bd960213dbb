import Derived.Test.YtlgiakkejlbbfaaLossTurnsF2
set_option linter.unusedVariables false
set_option maxRecDepth 100000
set_option maxHeartbeats 8000000
namespace Go.Proofs
open Go.AM
-- carousel/conv.Row
def f45_j4 (a : (List Int) × (List Int)) (k : (List Int) × (List Int)) (step : Int) : Option Bool :=
  bindF (f14 (a.1, a.2)) fun r12 =>
  bif (!r12) then
    some true
  else
    bindF (f14 (k.1, k.2)) fun r13 =>
    bif (!r13) then
      some true
    else
      bindF (f61 step) fun r14 =>
      some (!r14)
def f45_j5 (a : (List Int) × (List Int)) (k : (List Int) × (List Int)) : Option Bool :=
  bif ((List.length a.1 : Int) != (2 : Int)) then
    some true
  else
    bif ((List.length k.1 : Int) != (3 : Int)) then
      some true
    else
      guardF (0 ≤ (1 : Int) ∧ (1 : Int) < (List.length k.1 : Int)) <|
      guardF (0 ≤ (0 : Int) ∧ (0 : Int) < (List.length a.1 : Int)) <|
      bif ((rd (0 : Int) k.1 (1 : Int)) != (rd (0 : Int) a.1 (0 : Int))) then
        some true
      else
        guardF (0 ≤ (2 : Int) ∧ (2 : Int) < (List.length k.1 : Int)) <|
        guardF (0 ≤ (1 : Int) ∧ (1 : Int) < (List.length a.1 : Int)) <|
        some (decide ((rd (0 : Int) k.1 (2 : Int)) > (rd (0 : Int) a.1 (1 : Int))))
def f45_j3 (a : (List Int) × (List Int)) (k : (List Int) × (List Int)) (step : Int) : Option (Sum Unit Int) :=
  bindF (f45_j4 a k step) fun z11 =>
  bif z11 then
    some (Sum.inr (1 : Int))
  else
    bindF (f45_j5 a k) fun z15 =>
    bif z15 then
      some (Sum.inr (4 : Int))
    else
      some (Sum.inl ())
def f45_l18 (a : (List Int) × (List Int)) (k : (List Int) × (List Int)) (step : Int) (q5_14 : Int) (v102 : Int) (v112 : Int) (go : (Int × Int × Int × Int) → Option (Int × Int × Int)) (v116 : Int) (c4_0_2 : Int) (c4_1_2 : Int) (c4_2_2 : Int) : Option (Int × Int × Int) :=
  bif (decide (v116 < (rd (0 : Int) k.1 (2 : Int)))) then
    guardF (0 ≤ (IntKind.i64.wrap ((IntKind.i64.wrap ((IntKind.i64.wrap (v112 * (rd (0 : Int) a.1 (1 : Int)))) + (IntKind.i64.wrap ((Int.tmod v102 q5_14) * step)))) + v116)) ∧ (IntKind.i64.wrap ((IntKind.i64.wrap ((IntKind.i64.wrap (v112 * (rd (0 : Int) a.1 (1 : Int)))) + (IntKind.i64.wrap ((Int.tmod v102 q5_14) * step)))) + v116)) < (List.length a.2 : Int)) <|
    guardF (0 ≤ (IntKind.i64.wrap ((IntKind.i64.wrap ((IntKind.i64.wrap ((IntKind.i64.wrap ((IntKind.i64.wrap (Int.tdiv v102 q5_14)) * (rd (0 : Int) a.1 (0 : Int)))) + v112)) * (rd (0 : Int) k.1 (2 : Int)))) + v116)) ∧ (IntKind.i64.wrap ((IntKind.i64.wrap ((IntKind.i64.wrap ((IntKind.i64.wrap ((IntKind.i64.wrap (Int.tdiv v102 q5_14)) * (rd (0 : Int) a.1 (0 : Int)))) + v112)) * (rd (0 : Int) k.1 (2 : Int)))) + v116)) < (List.length k.2 : Int)) <|
    bindF (f64 c4_0_2 c4_1_2 c4_2_2 (rd (0 : Int) a.2 (IntKind.i64.wrap ((IntKind.i64.wrap ((IntKind.i64.wrap (v112 * (rd (0 : Int) a.1 (1 : Int)))) + (IntKind.i64.wrap ((Int.tmod v102 q5_14) * step)))) + v116))) (rd (0 : Int) k.2 (IntKind.i64.wrap ((IntKind.i64.wrap ((IntKind.i64.wrap ((IntKind.i64.wrap ((IntKind.i64.wrap (Int.tdiv v102 q5_14)) * (rd (0 : Int) a.1 (0 : Int)))) + v112)) * (rd (0 : Int) k.1 (2 : Int)))) + v116)))) fun q21_26 =>
    go ((IntKind.i64.wrap (v116 + (1 : Int))), q21_26.1, q21_26.2.1, q21_26.2.2)
  else
    some (c4_0_2, c4_1_2, c4_2_2)
def f45_l17 (a : (List Int) × (List Int)) (k : (List Int) × (List Int)) (step : Int) (q5_14 : Int) (v102 : Int) (go : (Int × Int × Int × Int) → Option (Int × Int × Int)) (v112 : Int) (c4_0 : Int) (c4_1 : Int) (c4_2 : Int) : Option (Int × Int × Int) :=
  bif (decide (v112 < (rd (0 : Int) a.1 (0 : Int)))) then
    bindF (loopF (fun go x => f45_l18 a k step q5_14 v102 v112 go x.1 x.2.1 x.2.2.1 x.2.2.2) fuelN ((0 : Int), c4_0, c4_1, c4_2)) fun z29 =>
    go ((IntKind.i64.wrap (v112 + (1 : Int))), z29.1, z29.2.1, z29.2.2)
  else
    some (c4_0, c4_1, c4_2)
def f45_l14 (a : (List Int) × (List Int)) (k : (List Int) × (List Int)) (step : Int) (q5_14 : Int) (r16 : Int × (List Int) × (List Int)) (go : (Int × (List Int)) → Option (List Int)) (v102 : Int) (l5 : List Int) : Option (List Int) :=
  bif (decide (v102 < (List.length r16.2.2 : Int))) then
    guardF (q5_14 ≠ 0) <|
    guardF (q5_14 ≠ 0) <|
    bindF (loopF (fun go x => f45_l17 a k step q5_14 v102 go x.1 x.2.1 x.2.2.1 x.2.2.2) fuelN ((0 : Int), (0 : Int), (0 : Int), (0 : Int))) fun z28 =>
    bindF (f65 z28.1 z28.2.1 z28.2.2 (32 : Int)) fun q24_3 =>
    guardF (0 ≤ v102 ∧ v102 < (List.length l5 : Int)) <|
    go ((IntKind.i64.wrap (v102 + (1 : Int))), (List.set l5 (Int.toNat v102) q24_3.1))
  else
    some l5
def f45 (a : (List Int) × (List Int)) (k : (List Int) × (List Int)) (step : Int) : Option (Int × (List Int) × (List Int)) :=
  bindF (f45_j3 a k step) fun z8 =>
  sumF z8 (fun z8a =>
    guardF (0 ≤ (0 : Int) ∧ (0 : Int) < (List.length a.1 : Int)) <|
    guardF (0 ≤ (1 : Int) ∧ (1 : Int) < (List.length a.1 : Int)) <|
    guardF (0 ≤ (2 : Int) ∧ (2 : Int) < (List.length k.1 : Int)) <|
    bindF (f62 (rd (0 : Int) a.1 (1 : Int)) (rd (0 : Int) k.1 (2 : Int)) step) fun q5_14 =>
    guardF (0 ≤ (0 : Int) ∧ (0 : Int) < (List.length k.1 : Int)) <|
    bindF (f63 ([(rd (0 : Int) k.1 (0 : Int)), q5_14])) fun r16 =>
    bif (r16.1 != (0 : Int)) then
      some (r16.1, [], [])
    else
      bindF (loopF (fun go x => f45_l14 a k step q5_14 r16 go x.1 x.2) fuelN ((0 : Int), r16.2.2)) fun z25 =>
      some ((0 : Int), r16.2.1, z25)) (fun z8b =>
    some (z8b, [], []))
def C45 : Con where
  X := ((List Int) × (List Int)) × ((List Int) × (List Int)) × Int
  Y := Int × (List Int) × (List Int)
  e := 0
  args x := [.dat (.p (.sl (.int .i64)) (.sl (.int .i64))) x.1, .dat (.p (.sl (.int .i64)) (.sl (.int .i64))) x.2.1, .dat (.int .i64) x.2.2]
  hin x := []
  F x := f45 x.1 x.2.1 x.2.2
  ret y := [.raw true [(.osl 0), (.osl 1)], .dat (.int .i64) y.1]
  hout y := [(0, .arr 3 (.int .i64) y.2.1), (1, .arr 24 (.int .i64) y.2.2)]
  nout := 2
theorem C45_vc (a : (List Int) × (List Int)) (k : (List Int) × (List Int)) (step : Int) (y : Int × (List Int) × (List Int)) (hF : f45 a k step = some y) : vc Try.prog tab Try.f45.ntmps 0 (match Try.f45.body with | some c => c | none => .skip) (retK tab C45 Try.f45.results.toList y) (C45.shIn (a, k, step)).st := by
  unfold f45 at hF
  refine Or.inl ?_
  obtain ⟨z8, hz8, hF⟩ := bindE hF
  refine Or.inr ⟨Sum.elim (fun z8a => [(0, ⟨[(2, .dat (.int .i64) step), (3, .raw false [(.ptr 0 0)]), (4, .raw false [(.ptr 1 0)]), (6, .raw false [(.ptr 2 0)])], [(0, .cells [(.d (.sl (.int .i64)) a.1), (.d (.sl (.int .i64)) a.2)]), (1, .cells [(.d (.sl (.int .i64)) k.1), (.d (.sl (.int .i64)) k.2)]), (2, .cells [(.c (.slice none 0 0)), (.c (.slice none 0 0))])], 3⟩)]) (fun z8b => [(1, ⟨[(6, .raw false [(.ptr 0 0)]), (7, .dat (.int .i64) z8b)], [(0, .cells [(.c (.slice none 0 0)), (.c (.slice none 0 0))])], 1⟩)]) z8, ?_, ?_⟩
  · have hF := hz8
    clear hz8
    unfold f45_j3 at hF
    obtain ⟨z11, hz11, hF⟩ := bindE hF
    refine Or.inr ⟨[(0, ⟨[(2, .dat (.int .i64) step), (3, .raw false [(.ptr 0 0)]), (4, .raw false [(.ptr 1 0)]), (6, .raw false [(.ptr 2 0)]), (20, .dat .bool z11)], [(0, .cells [(.d (.sl (.int .i64)) a.1), (.d (.sl (.int .i64)) a.2)]), (1, .cells [(.d (.sl (.int .i64)) k.1), (.d (.sl (.int .i64)) k.2)]), (2, .cells [(.c (.slice none 0 0)), (.c (.slice none 0 0))])], 3⟩)], ?_, ?_⟩
    · have hF := hz11
      clear hz11
      unfold f45_j4 at hF
      obtain ⟨r12, hr12, hF⟩ := bindE hF
      refine Or.inl (And.intro f14_in (callV0 (callI C14 (a.1, a.2) r12 [] false C14_holds hr12 rfl rfl ?_)))
      refine (And.intro rfl (And.intro rfl (And.intro (fun h => nomatch h) (And.intro rfl (And.intro rfl (And.intro trivial (And.intro trivial ?_)))))))
      refine condN hF (fun hF => ?_) (fun hF => ?_)
      · refine gdYF ?_
        obtain ⟨r13, hr13, hF⟩ := bindE hF
        refine Or.inl (And.intro f14_in (callV0 (callI C14 (k.1, k.2) r13 [] false C14_holds hr13 rfl rfl ?_)))
        refine (And.intro rfl (And.intro rfl (And.intro (fun h => nomatch h) (And.intro rfl (And.intro rfl (And.intro trivial (And.intro trivial ?_)))))))
        refine gdYF ?_
        refine condF ?_
        refine condN hF (fun hF => ?_) (fun hF => ?_)
        · refine gdYF ?_
          obtain ⟨r14, hr14, hF⟩ := bindE hF
          refine Or.inl (And.intro f61_in (callV0 (callI C61 step r14 [] false C61_holds hr14 rfl rfl ?_)))
          refine (And.intro rfl (And.intro (fun h => nomatch h) (And.intro rfl (And.intro rfl (And.intro trivial (And.intro trivial ?_))))))
          refine gdYF ?_
          refine condF ?_
          have hz := someE hF
          subst hz
          refine Exists.intro [] (Exists.intro [] (Exists.intro [] (Exists.intro [] (Exists.intro [(0, some 0), (1, some 1), (2, some 2)] (And.intro rfl (And.intro rfl (And.intro rfl (And.intro (And.intro rfl (And.intro rfl (And.intro rfl trivial))) (And.intro rfl (And.intro rfl (And.intro rfl trivial)))))))))))
        · refine gdNF ?_
          refine gdNF ?_
          refine condT ?_
          have hz := someE hF
          subst hz
          refine Exists.intro [] (Exists.intro [] (Exists.intro [] (Exists.intro [] (Exists.intro [(0, some 0), (1, some 1), (2, some 2)] (And.intro rfl (And.intro rfl (And.intro rfl (And.intro (And.intro rfl (And.intro rfl (And.intro rfl trivial))) (And.intro rfl (And.intro rfl (And.intro rfl trivial)))))))))))
      · refine gdNF ?_
        refine gdNF ?_
        refine condT ?_
        refine gdNF ?_
        refine gdNF ?_
        refine gdNF ?_
        refine condT ?_
        have hz := someE hF
        subst hz
        refine Exists.intro [] (Exists.intro [] (Exists.intro [] (Exists.intro [] (Exists.intro [(0, some 0), (1, some 1), (2, some 2)] (And.intro rfl (And.intro rfl (And.intro rfl (And.intro (And.intro rfl (And.intro rfl (And.intro rfl trivial))) (And.intro rfl (And.intro rfl (And.intro rfl trivial)))))))))))
    · refine And.intro ?_ trivial
      refine condI hF (fun hF => ?_) (fun hF => ?_)
      · refine Or.inl ?_
        refine Or.inl ?_
        have hz := someE hF
        subst hz
        refine Exists.intro [] (Exists.intro [] (Exists.intro [] (Exists.intro [] (Exists.intro [(0, some 2)] (And.intro rfl (And.intro rfl (And.intro (And.intro rfl trivial) (And.intro rfl trivial))))))))
      · obtain ⟨z15, hz15, hF⟩ := bindE hF
        refine Or.inr ⟨[(0, ⟨[(2, .dat (.int .i64) step), (3, .raw false [(.ptr 0 0)]), (4, .raw false [(.ptr 1 0)]), (6, .raw false [(.ptr 2 0)]), (35, .dat .bool z15)], [(0, .cells [(.d (.sl (.int .i64)) a.1), (.d (.sl (.int .i64)) a.2)]), (1, .cells [(.d (.sl (.int .i64)) k.1), (.d (.sl (.int .i64)) k.2)]), (2, .cells [(.c (.slice none 0 0)), (.c (.slice none 0 0))])], 3⟩)], ?_, ?_⟩
        · have hF := hz15
          clear hz15
          unfold f45_j5 at hF
          refine Exists.intro (.take 0 (.take 1 (.take 2 (.take 3 (.take 4 (.take 5 (.take 6 (.take 7 (.take 8 (.take 9 (.take 10 (.take 11 (.take 12 (.take 13 (.take 14 (.take 15 (.take 16 (.take 17 (.take 18 (.take 19 (.take 20 (.take 21 (.take 22 (.take 23 (.take 24 (.take 25 (.take 26 (.take 27 (.take 28 (.take 29 (.take 30 (.take 31 (.take 32 .done))))))))))))))))))))))))))))))))) (Exists.intro [] (Exists.intro [] (And.intro rfl ?_)))
          refine condN hF (fun hF => ?_) (fun hF => ?_)
          · refine gdYF ?_
            refine gdYF ?_
            refine gdYF ?_
            refine condF ?_
            refine condN hF (fun hF => ?_) (fun hF => ?_)
            · refine gdYF ?_
              refine gdYF ?_
              refine guardI hF (fun hF => ?_)
              refine gdYF ?_
              refine gdYF ?_
              refine gdYF ?_
              refine gdYF ?_
              refine guardI hF (fun hF => ?_)
              refine gdYF ?_
              refine gdYF ?_
              refine condF ?_
              refine condN hF (fun hF => ?_) (fun hF => ?_)
              · refine gdYF ?_
                refine gdYF ?_
                refine guardI hF (fun hF => ?_)
                refine gdYF ?_
                refine gdYF ?_
                refine gdYF ?_
                refine gdYF ?_
                refine guardI hF (fun hF => ?_)
                refine gdYF ?_
                refine gdYF ?_
                refine condF ?_
                have hz := someE hF
                subst hz
                refine Exists.intro [] (Exists.intro [] (Exists.intro [] (Exists.intro [] (Exists.intro [(0, some 0), (1, some 1), (2, some 2)] (And.intro rfl (And.intro rfl (And.intro rfl (And.intro (And.intro rfl (And.intro rfl (And.intro rfl trivial))) (And.intro rfl (And.intro rfl (And.intro rfl trivial)))))))))))
              · refine gdNF ?_
                refine gdNF ?_
                refine gdNF ?_
                refine gdNF ?_
                refine gdNF ?_
                refine gdNF ?_
                refine gdNF ?_
                refine gdNF ?_
                refine condT ?_
                have hz := someE hF
                subst hz
                refine Exists.intro [] (Exists.intro [] (Exists.intro [] (Exists.intro [] (Exists.intro [(0, some 0), (1, some 1), (2, some 2)] (And.intro rfl (And.intro rfl (And.intro rfl (And.intro (And.intro rfl (And.intro rfl (And.intro rfl trivial))) (And.intro rfl (And.intro rfl (And.intro rfl trivial)))))))))))
            · refine gdNF ?_
              refine gdNF ?_
              refine gdNF ?_
              refine gdNF ?_
              refine gdNF ?_
              refine gdNF ?_
              refine gdNF ?_
              refine gdNF ?_
              refine condT ?_
              refine gdNF ?_
              refine gdNF ?_
              refine gdNF ?_
              refine gdNF ?_
              refine gdNF ?_
              refine gdNF ?_
              refine gdNF ?_
              refine gdNF ?_
              refine gdNF ?_
              refine condT ?_
              have hz := someE hF
              subst hz
              refine Exists.intro [] (Exists.intro [] (Exists.intro [] (Exists.intro [] (Exists.intro [(0, some 0), (1, some 1), (2, some 2)] (And.intro rfl (And.intro rfl (And.intro rfl (And.intro (And.intro rfl (And.intro rfl (And.intro rfl trivial))) (And.intro rfl (And.intro rfl (And.intro rfl trivial)))))))))))
          · refine gdNF ?_
            refine gdNF ?_
            refine gdNF ?_
            refine condT ?_
            refine gdNF ?_
            refine gdNF ?_
            refine gdNF ?_
            refine gdNF ?_
            refine gdNF ?_
            refine gdNF ?_
            refine gdNF ?_
            refine gdNF ?_
            refine gdNF ?_
            refine condT ?_
            refine gdNF ?_
            refine gdNF ?_
            refine gdNF ?_
            refine gdNF ?_
            refine gdNF ?_
            refine gdNF ?_
            refine gdNF ?_
            refine gdNF ?_
            refine gdNF ?_
            refine condT ?_
            have hz := someE hF
            subst hz
            refine Exists.intro [] (Exists.intro [] (Exists.intro [] (Exists.intro [] (Exists.intro [(0, some 0), (1, some 1), (2, some 2)] (And.intro rfl (And.intro rfl (And.intro rfl (And.intro (And.intro rfl (And.intro rfl (And.intro rfl trivial))) (And.intro rfl (And.intro rfl (And.intro rfl trivial)))))))))))
        · refine And.intro ?_ trivial
          refine condI hF (fun hF => ?_) (fun hF => ?_)
          · refine Or.inl ?_
            refine Or.inl ?_
            have hz := someE hF
            subst hz
            refine Exists.intro [] (Exists.intro [] (Exists.intro [] (Exists.intro [] (Exists.intro [(0, some 2)] (And.intro rfl (And.intro rfl (And.intro (And.intro rfl trivial) (And.intro rfl trivial))))))))
          · have hz := someE hF
            subst hz
            refine Exists.intro [] (Exists.intro [] (Exists.intro [] (Exists.intro [] (Exists.intro [(0, some 0), (1, some 1), (2, some 2)] (And.intro rfl (And.intro rfl (And.intro (And.intro rfl (And.intro rfl (And.intro rfl trivial))) (And.intro rfl (And.intro rfl (And.intro rfl trivial))))))))))
  · rcases z8 with z8a | z8b
    · dsimp only [sumF] at hF
      refine And.intro ?_ trivial
      refine Or.inl ?_
      refine Exists.intro (.take 0 (.take 1 (.take 2 (.take 3 (.take 4 (.take 5 (.take 6 (.take 7 (.take 8 (.take 9 (.take 10 (.take 11 (.take 12 (.take 13 (.take 14 .done))))))))))))))) (Exists.intro [] (Exists.intro [] (And.intro rfl ?_)))
      refine guardI hF (fun hF => ?_)
      refine guardI hF (fun hF => ?_)
      refine guardI hF (fun hF => ?_)
      refine Or.inl ?_
      obtain ⟨q5_14, hq5_14, hF⟩ := bindE hF
      refine Or.inl (And.intro f62_in (callV0 (callI C62 ((rd (0 : Int) a.1 (1 : Int)), (rd (0 : Int) k.1 (2 : Int)), step) q5_14 [] false C62_holds hq5_14 rfl rfl ?_)))
      refine (And.intro rfl (And.intro rfl (And.intro rfl (And.intro (fun h => nomatch h) (And.intro rfl (And.intro rfl (And.intro trivial (And.intro trivial ?_))))))))
      refine Or.inl ?_
      refine guardI hF (fun hF => ?_)
      refine Or.inl ?_
      obtain ⟨r16, hr16, hF⟩ := bindE hF
      refine Or.inl (And.intro f63_in (callV0 (callI C63 [(rd (0 : Int) k.1 (0 : Int)), q5_14] r16 [] true C63_holds hr16 rfl rfl ?_)))
      refine (And.intro rfl (And.intro (fun _ => rfl) (And.intro rfl (And.intro rfl (And.intro trivial (And.intro trivial ?_))))))
      refine Or.inl ?_
      refine Or.inl ?_
      refine Or.inl ?_
      refine condI hF (fun hF => ?_) (fun hF => ?_)
      · refine Or.inl ?_
        refine Or.inl ?_
        have hy := someE hF
        subst hy
        refine And.intro rfl (Exists.intro [] (Exists.intro [] (Exists.intro [] (Exists.intro [] (Exists.intro [(0, none), (1, none)] (And.intro rfl (And.intro rfl (And.intro (And.intro rfl trivial) (And.intro rfl (And.intro rfl trivial))))))))))
      · refine Or.inl ?_
        refine Or.inl ?_
        obtain ⟨z25, hz25, hF⟩ := bindE hF
        refine loopI (Int × (List Int)) (List Int) (fun x => ⟨[(2, .dat (.int .i64) step), (3, .raw false [(.ptr 0 0)]), (4, .raw false [(.ptr 1 0)]), (6, .raw false [(.ptr 2 0)]), (8, .dat (.int .i64) (rd (0 : Int) a.1 (0 : Int))), (9, .dat (.int .i64) (rd (0 : Int) a.1 (1 : Int))), (10, .dat (.int .i64) (rd (0 : Int) k.1 (2 : Int))), (11, .dat (.int .i64) q5_14), (12, .raw false [(.ptr 3 0)]), (101, .dat (.int .i64) (List.length r16.2.2 : Int)), (102, .dat (.int .i64) x.1)], [(0, .cells [(.d (.sl (.int .i64)) a.1), (.d (.sl (.int .i64)) a.2)]), (1, .cells [(.d (.sl (.int .i64)) k.1), (.d (.sl (.int .i64)) k.2)]), (2, .cells [(.c (.slice none 0 0)), (.c (.slice none 0 0))]), (3, .cells [(.osl 4), (.osl 5)]), (4, .arr 3 (.int .i64) r16.2.1), (5, .arr 24 (.int .i64) x.2)], 6⟩) (fun z => [(3, ⟨[(6, .raw false [(.ptr 0 0)]), (12, .raw false [(.ptr 1 0)])], [(0, .cells [(.c (.slice none 0 0)), (.c (.slice none 0 0))]), (1, .cells [(.osl 2), (.osl 3)]), (2, .arr 3 (.int .i64) r16.2.1), (3, .arr 24 (.int .i64) z)], 4⟩)]) (loopF (fun go x => f45_l14 a k step q5_14 r16 go x.1 x.2)) fuelN ((0 : Int), r16.2.2) z25 (And.intro hz25 (And.intro (Exists.intro [] (Exists.intro [] (Exists.intro [] (Exists.intro [] (Exists.intro [(0, some 0), (1, some 1), (2, some 2), (3, some 6), (4, some 4), (5, some 5)] (And.intro rfl (And.intro rfl (And.intro rfl (And.intro rfl (And.intro rfl (And.intro rfl (And.intro rfl (And.intro rfl (And.intro (And.intro rfl (And.intro rfl (And.intro rfl (And.intro rfl trivial)))) (And.intro rfl (And.intro rfl (And.intro rfl (And.intro rfl (And.intro rfl (And.intro rfl trivial)))))))))))))))))))) (And.intro (fun _ _ h => loopZ h) (And.intro (fun m => curI (fun v102 => fun l5 z hF => ?_)) ?_))))
        · have hF : f45_l14 a k step q5_14 r16 (loopF (fun go x => f45_l14 a k step q5_14 r16 go x.1 x.2) m) v102 l5 = some z := hF
          unfold f45_l14 at hF
          refine Or.inl ?_
          refine Or.inl ?_
          refine condI hF (fun hF => ?_) (fun hF => ?_)
          · refine Or.inl ?_
            refine Or.inl ?_
            refine Or.inl ?_
            refine Exists.intro (.take 0 (.take 1 (.take 2 (.take 3 (.take 4 (.take 5 (.take 6 (.take 7 .done)))))))) (Exists.intro [] (Exists.intro [] (And.intro rfl ?_)))
            refine guardI hF (fun hF => ?_)
            refine guardI hF (fun hF => ?_)
            refine Or.inl ?_
            refine Or.inl ?_
            refine Or.inl ?_
            obtain ⟨z28, hz28, hF⟩ := bindE hF
            refine loopI (Int × Int × Int × Int) (Int × Int × Int) (fun x => ⟨[(2, .dat (.int .i64) step), (3, .raw false [(.ptr 0 0)]), (4, .raw false [(.ptr 1 0)]), (6, .raw false [(.ptr 2 0)]), (8, .dat (.int .i64) (rd (0 : Int) a.1 (0 : Int))), (9, .dat (.int .i64) (rd (0 : Int) a.1 (1 : Int))), (10, .dat (.int .i64) (rd (0 : Int) k.1 (2 : Int))), (11, .dat (.int .i64) q5_14), (12, .raw false [(.ptr 3 0)]), (14, .dat (.int .i64) v102), (15, .dat (.int .i64) (IntKind.i64.wrap (Int.tdiv v102 q5_14))), (16, .dat (.int .i64) (Int.tmod v102 q5_14)), (17, .raw false [(.ptr 4 0)]), (101, .dat (.int .i64) (List.length r16.2.2 : Int)), (102, .dat (.int .i64) v102), (111, .dat (.int .i64) (rd (0 : Int) a.1 (0 : Int))), (112, .dat (.int .i64) x.1)], [(0, .cells [(.d (.sl (.int .i64)) a.1), (.d (.sl (.int .i64)) a.2)]), (1, .cells [(.d (.sl (.int .i64)) k.1), (.d (.sl (.int .i64)) k.2)]), (2, .cells [(.c (.slice none 0 0)), (.c (.slice none 0 0))]), (3, .cells [(.osl 5), (.osl 6)]), (4, .cells [(.d (.int .i64) x.2.1), (.d (.int .i64) x.2.2.1), (.d (.int .u64) x.2.2.2)]), (5, .arr 3 (.int .i64) r16.2.1), (6, .arr 24 (.int .i64) l5)], 7⟩) (fun z => [(5, ⟨[(2, .dat (.int .i64) step), (3, .raw false [(.ptr 0 0)]), (4, .raw false [(.ptr 1 0)]), (6, .raw false [(.ptr 2 0)]), (8, .dat (.int .i64) (rd (0 : Int) a.1 (0 : Int))), (9, .dat (.int .i64) (rd (0 : Int) a.1 (1 : Int))), (10, .dat (.int .i64) (rd (0 : Int) k.1 (2 : Int))), (11, .dat (.int .i64) q5_14), (12, .raw false [(.ptr 3 0)]), (14, .dat (.int .i64) v102), (17, .raw false [(.ptr 4 0)]), (101, .dat (.int .i64) (List.length r16.2.2 : Int)), (102, .dat (.int .i64) v102)], [(0, .cells [(.d (.sl (.int .i64)) a.1), (.d (.sl (.int .i64)) a.2)]), (1, .cells [(.d (.sl (.int .i64)) k.1), (.d (.sl (.int .i64)) k.2)]), (2, .cells [(.c (.slice none 0 0)), (.c (.slice none 0 0))]), (3, .cells [(.osl 5), (.osl 6)]), (4, .cells [(.d (.int .i64) z.1), (.d (.int .i64) z.2.1), (.d (.int .u64) z.2.2)]), (5, .arr 3 (.int .i64) r16.2.1), (6, .arr 24 (.int .i64) l5)], 7⟩)]) (loopF (fun go x => f45_l17 a k step q5_14 v102 go x.1 x.2.1 x.2.2.1 x.2.2.2)) fuelN ((0 : Int), (0 : Int), (0 : Int), (0 : Int)) z28 (And.intro hz28 (And.intro (Exists.intro [] (Exists.intro [] (Exists.intro [] (Exists.intro [] (Exists.intro [(0, some 0), (1, some 1), (2, some 2), (3, some 3), (4, some 6), (5, some 4), (6, some 5)] (And.intro rfl (And.intro rfl (And.intro rfl (And.intro rfl (And.intro rfl (And.intro rfl (And.intro rfl (And.intro rfl (And.intro rfl (And.intro rfl (And.intro rfl (And.intro rfl (And.intro rfl (And.intro (And.intro rfl (And.intro rfl (And.intro rfl (And.intro rfl (And.intro rfl trivial))))) (And.intro rfl (And.intro rfl (And.intro rfl (And.intro rfl (And.intro rfl (And.intro rfl (And.intro rfl trivial)))))))))))))))))))))))))) (And.intro (fun _ _ h => loopZ h) (And.intro (fun m => curI (fun v112 => curI (fun c4_0 => curI (fun c4_1 => fun c4_2 z hF => ?_)))) ?_))))
            · have hF : f45_l17 a k step q5_14 v102 (loopF (fun go x => f45_l17 a k step q5_14 v102 go x.1 x.2.1 x.2.2.1 x.2.2.2) m) v112 c4_0 c4_1 c4_2 = some z := hF
              unfold f45_l17 at hF
              refine Or.inl ?_
              refine Or.inl ?_
              refine condI hF (fun hF => ?_) (fun hF => ?_)
              · refine Or.inl ?_
                refine Or.inl ?_
                refine Or.inl ?_
                obtain ⟨z29, hz29, hF⟩ := bindE hF
                refine loopI (Int × Int × Int × Int) (Int × Int × Int) (fun x => ⟨[(2, .dat (.int .i64) step), (3, .raw false [(.ptr 0 0)]), (4, .raw false [(.ptr 1 0)]), (6, .raw false [(.ptr 2 0)]), (8, .dat (.int .i64) (rd (0 : Int) a.1 (0 : Int))), (9, .dat (.int .i64) (rd (0 : Int) a.1 (1 : Int))), (10, .dat (.int .i64) (rd (0 : Int) k.1 (2 : Int))), (11, .dat (.int .i64) q5_14), (12, .raw false [(.ptr 3 0)]), (14, .dat (.int .i64) v102), (15, .dat (.int .i64) (IntKind.i64.wrap (Int.tdiv v102 q5_14))), (16, .dat (.int .i64) (Int.tmod v102 q5_14)), (17, .raw false [(.ptr 4 0)]), (18, .dat (.int .i64) v112), (101, .dat (.int .i64) (List.length r16.2.2 : Int)), (102, .dat (.int .i64) v102), (111, .dat (.int .i64) (rd (0 : Int) a.1 (0 : Int))), (112, .dat (.int .i64) v112), (115, .dat (.int .i64) (rd (0 : Int) k.1 (2 : Int))), (116, .dat (.int .i64) x.1)], [(0, .cells [(.d (.sl (.int .i64)) a.1), (.d (.sl (.int .i64)) a.2)]), (1, .cells [(.d (.sl (.int .i64)) k.1), (.d (.sl (.int .i64)) k.2)]), (2, .cells [(.c (.slice none 0 0)), (.c (.slice none 0 0))]), (3, .cells [(.osl 5), (.osl 6)]), (4, .cells [(.d (.int .i64) x.2.1), (.d (.int .i64) x.2.2.1), (.d (.int .u64) x.2.2.2)]), (5, .arr 3 (.int .i64) r16.2.1), (6, .arr 24 (.int .i64) l5)], 7⟩) (fun z => [(7, ⟨[(2, .dat (.int .i64) step), (3, .raw false [(.ptr 0 0)]), (4, .raw false [(.ptr 1 0)]), (6, .raw false [(.ptr 2 0)]), (8, .dat (.int .i64) (rd (0 : Int) a.1 (0 : Int))), (9, .dat (.int .i64) (rd (0 : Int) a.1 (1 : Int))), (10, .dat (.int .i64) (rd (0 : Int) k.1 (2 : Int))), (11, .dat (.int .i64) q5_14), (12, .raw false [(.ptr 3 0)]), (14, .dat (.int .i64) v102), (15, .dat (.int .i64) (IntKind.i64.wrap (Int.tdiv v102 q5_14))), (16, .dat (.int .i64) (Int.tmod v102 q5_14)), (17, .raw false [(.ptr 4 0)]), (101, .dat (.int .i64) (List.length r16.2.2 : Int)), (102, .dat (.int .i64) v102), (111, .dat (.int .i64) (rd (0 : Int) a.1 (0 : Int))), (112, .dat (.int .i64) v112)], [(0, .cells [(.d (.sl (.int .i64)) a.1), (.d (.sl (.int .i64)) a.2)]), (1, .cells [(.d (.sl (.int .i64)) k.1), (.d (.sl (.int .i64)) k.2)]), (2, .cells [(.c (.slice none 0 0)), (.c (.slice none 0 0))]), (3, .cells [(.osl 5), (.osl 6)]), (4, .cells [(.d (.int .i64) z.1), (.d (.int .i64) z.2.1), (.d (.int .u64) z.2.2)]), (5, .arr 3 (.int .i64) r16.2.1), (6, .arr 24 (.int .i64) l5)], 7⟩)]) (loopF (fun go x => f45_l18 a k step q5_14 v102 v112 go x.1 x.2.1 x.2.2.1 x.2.2.2)) fuelN ((0 : Int), c4_0, c4_1, c4_2) z29 (And.intro hz29 (And.intro (Exists.intro [] (Exists.intro [] (Exists.intro [] (Exists.intro [] (Exists.intro [(0, some 0), (1, some 1), (2, some 2), (3, some 3), (4, some 4), (5, some 5), (6, some 6)] (And.intro rfl (And.intro rfl (And.intro rfl (And.intro rfl (And.intro rfl (And.intro rfl (And.intro rfl (And.intro rfl (And.intro rfl (And.intro rfl (And.intro rfl (And.intro rfl (And.intro rfl (And.intro rfl (And.intro rfl (And.intro rfl (And.intro (And.intro rfl (And.intro rfl (And.intro rfl (And.intro rfl (And.intro rfl trivial))))) (And.intro rfl (And.intro rfl (And.intro rfl (And.intro rfl (And.intro rfl (And.intro rfl (And.intro rfl trivial))))))))))))))))))))))))))))) (And.intro (fun _ _ h => loopZ h) (And.intro (fun m => curI (fun v116 => curI (fun c4_0_2 => curI (fun c4_1_2 => fun c4_2_2 z hF => ?_)))) ?_))))
                · have hF : f45_l18 a k step q5_14 v102 v112 (loopF (fun go x => f45_l18 a k step q5_14 v102 v112 go x.1 x.2.1 x.2.2.1 x.2.2.2) m) v116 c4_0_2 c4_1_2 c4_2_2 = some z := hF
                  unfold f45_l18 at hF
                  refine Or.inl ?_
                  refine Or.inl ?_
                  refine condI hF (fun hF => ?_) (fun hF => ?_)
                  · refine Or.inl ?_
                    refine Or.inl ?_
                    refine Exists.intro (.take 0 (.take 1 (.take 2 (.take 3 (.take 4 (.take 5 (.take 6 (.take 7 (.take 8 (.take 9 (.take 10 (.take 11 (.take 12 (.take 13 (.take 14 (.take 15 (.take 16 (.take 17 (.take 18 (.take 19 (.take 20 (.take 21 (.take 22 (.take 23 (.take 24 (.take 25 (.alt 26 .done .done))))))))))))))))))))))))))) (Exists.intro [] (Exists.intro [] (And.intro rfl ?_)))
                    refine guardI hF (fun hF => ?_)
                    refine guardI hF (fun hF => ?_)
                    refine And.intro trivial ?_
                    obtain ⟨q21_26, hq21_26, hF⟩ := bindE hF
                    refine Or.inl (And.intro f64_in (callV0 (callI C64 (c4_0_2, c4_1_2, c4_2_2, (rd (0 : Int) a.2 (IntKind.i64.wrap ((IntKind.i64.wrap ((IntKind.i64.wrap (v112 * (rd (0 : Int) a.1 (1 : Int)))) + (IntKind.i64.wrap ((Int.tmod v102 q5_14) * step)))) + v116))), (rd (0 : Int) k.2 (IntKind.i64.wrap ((IntKind.i64.wrap ((IntKind.i64.wrap ((IntKind.i64.wrap ((IntKind.i64.wrap (Int.tdiv v102 q5_14)) * (rd (0 : Int) a.1 (0 : Int)))) + v112)) * (rd (0 : Int) k.1 (2 : Int)))) + v116)))) q21_26 [(0, some 4)] false C64_holds hq21_26 rfl rfl ?_)))
                    refine (And.intro rfl (And.intro rfl (And.intro (fun h => nomatch h) (And.intro rfl (And.intro rfl (And.intro (And.intro rfl trivial) (And.intro (And.intro rfl trivial) ?_)))))))
                    refine Exists.intro ((IntKind.i64.wrap (v116 + (1 : Int))), q21_26.1, q21_26.2.1, q21_26.2.2) (And.intro hF (Exists.intro [] (Exists.intro [] (Exists.intro [] (Exists.intro [] (Exists.intro [(0, some 0), (1, some 1), (2, some 2), (3, some 3), (4, some 4), (5, some 5), (6, some 6)] (And.intro rfl (And.intro rfl (And.intro rfl (And.intro rfl (And.intro rfl (And.intro rfl (And.intro rfl (And.intro rfl (And.intro rfl (And.intro rfl (And.intro rfl (And.intro rfl (And.intro rfl (And.intro rfl (And.intro rfl (And.intro rfl (And.intro (And.intro rfl (And.intro rfl (And.intro rfl (And.intro rfl (And.intro rfl trivial))))) (And.intro rfl (And.intro rfl (And.intro rfl (And.intro rfl (And.intro rfl (And.intro rfl (And.intro rfl trivial))))))))))))))))))))))))))))))
                  · have hz := someE hF
                    subst hz
                    refine Exists.intro [] (Exists.intro [] (Exists.intro [] (Exists.intro [] (Exists.intro [(0, some 0), (1, some 1), (2, some 2), (3, some 3), (4, some 4), (5, some 5), (6, some 6)] (And.intro rfl (And.intro rfl (And.intro rfl (And.intro rfl (And.intro rfl (And.intro rfl (And.intro rfl (And.intro rfl (And.intro rfl (And.intro rfl (And.intro rfl (And.intro rfl (And.intro rfl (And.intro (And.intro rfl (And.intro rfl (And.intro rfl (And.intro rfl (And.intro rfl trivial))))) (And.intro rfl (And.intro rfl (And.intro rfl (And.intro rfl (And.intro rfl (And.intro rfl (And.intro rfl trivial)))))))))))))))))))))))))
                · refine And.intro ?_ trivial
                  refine Exists.intro ((IntKind.i64.wrap (v112 + (1 : Int))), z29.1, z29.2.1, z29.2.2) (And.intro hF (Exists.intro [] (Exists.intro [] (Exists.intro [] (Exists.intro [] (Exists.intro [(0, some 0), (1, some 1), (2, some 2), (3, some 3), (4, some 4), (5, some 5), (6, some 6)] (And.intro rfl (And.intro rfl (And.intro rfl (And.intro rfl (And.intro rfl (And.intro rfl (And.intro rfl (And.intro rfl (And.intro rfl (And.intro rfl (And.intro rfl (And.intro rfl (And.intro rfl (And.intro (And.intro rfl (And.intro rfl (And.intro rfl (And.intro rfl (And.intro rfl trivial))))) (And.intro rfl (And.intro rfl (And.intro rfl (And.intro rfl (And.intro rfl (And.intro rfl (And.intro rfl trivial)))))))))))))))))))))))))))
              · have hz := someE hF
                subst hz
                refine Exists.intro [] (Exists.intro [] (Exists.intro [] (Exists.intro [] (Exists.intro [(0, some 0), (1, some 1), (2, some 2), (3, some 3), (4, some 4), (5, some 5), (6, some 6)] (And.intro rfl (And.intro rfl (And.intro rfl (And.intro rfl (And.intro rfl (And.intro rfl (And.intro rfl (And.intro rfl (And.intro rfl (And.intro (And.intro rfl (And.intro rfl (And.intro rfl (And.intro rfl (And.intro rfl trivial))))) (And.intro rfl (And.intro rfl (And.intro rfl (And.intro rfl (And.intro rfl (And.intro rfl (And.intro rfl trivial)))))))))))))))))))))
            · refine And.intro ?_ trivial
              refine Exists.intro (.take 0 (.take 1 (.take 2 (.alt 3 (.take 4 (.alt 5 .done .done)) .done)))) (Exists.intro [] (Exists.intro [] (And.intro rfl ?_)))
              refine And.intro trivial ?_
              obtain ⟨q24_3, hq24_3, hF⟩ := bindE hF
              refine Or.inl (And.intro f65_in (callV0 (callI C65 (z28.1, z28.2.1, z28.2.2, (32 : Int)) q24_3 [(0, some 4)] false C65_holds hq24_3 rfl rfl ?_)))
              refine (And.intro rfl (And.intro (fun h => nomatch h) (And.intro rfl (And.intro rfl (And.intro (And.intro rfl trivial) (And.intro (And.intro rfl trivial) ?_))))))
              refine guardI hF (fun hF => ?_)
              refine And.intro trivial ?_
              refine Or.inl ?_
              refine Exists.intro ((IntKind.i64.wrap (v102 + (1 : Int))), (List.set l5 (Int.toNat v102) q24_3.1)) (And.intro hF (Exists.intro [] (Exists.intro [] (Exists.intro [] (Exists.intro [] (Exists.intro [(0, some 0), (1, some 1), (2, some 2), (3, some 3), (4, some 5), (5, some 6)] (And.intro rfl (And.intro rfl (And.intro rfl (And.intro rfl (And.intro rfl (And.intro rfl (And.intro rfl (And.intro rfl (And.intro (And.intro rfl (And.intro rfl (And.intro rfl (And.intro rfl trivial)))) (And.intro rfl (And.intro rfl (And.intro rfl (And.intro rfl (And.intro rfl (And.intro rfl trivial)))))))))))))))))))))
          · have hz := someE hF
            subst hz
            refine Exists.intro [] (Exists.intro [] (Exists.intro [] (Exists.intro [] (Exists.intro [(0, some 2), (1, some 3), (2, some 4), (3, some 5)] (And.intro rfl (And.intro (And.intro rfl (And.intro rfl trivial)) (And.intro rfl (And.intro rfl (And.intro rfl (And.intro rfl trivial))))))))))
        · refine And.intro ?_ trivial
          refine Or.inl ?_
          refine Or.inl ?_
          have hy := someE hF
          subst hy
          refine And.intro rfl (Exists.intro [] (Exists.intro [] (Exists.intro [] (Exists.intro [] (Exists.intro [(0, some 2), (1, some 3)] (And.intro rfl (And.intro rfl (And.intro (And.intro rfl trivial) (And.intro rfl (And.intro rfl trivial))))))))))
    · dsimp only [sumF] at hF
      refine And.intro ?_ trivial
      have hy := someE hF
      subst hy
      refine And.intro rfl (Exists.intro [] (Exists.intro [] (Exists.intro [] (Exists.intro [] (Exists.intro [(0, none), (1, none)] (And.intro rfl (And.intro rfl (And.intro (And.intro rfl trivial) (And.intro rfl (And.intro rfl trivial))))))))))
theorem C45_holds : C45.Holds Try.prog 45 := holds_of_vc tab_ok mixed (fn := Try.f45) (by kernel_rfl) rfl C45 (fun x y hF => C45_vc x.1 x.2.1 x.2.2 y hF)
theorem f45_in : ∃ fn, Try.prog.funcs[45]? = some fn ∧ fn.body.isSome = true ∧ (fn.name == "runtime.NumGoroutine") = false := ⟨Try.f45, by kernel_rfl, by kernel_rfl, by kernel_rfl⟩
end Go.Proofs
namespace Go.Proofs
open Go.AM
-- carousel/tape.pair
def f37 (op : Int) (a : (List Int) × (List Int)) (b : (List Int) × (List Int)) (k : Int) : Option (Int × (List Int) × (List Int)) :=
  bif (op == (2 : Int)) then
    bindF (f41 (a.1, a.2) (b.1, b.2)) fun r1 =>
    some (r1.1, r1.2.1, r1.2.2)
  else
    bif (op == (3 : Int)) then
      bindF (f42 (a.1, a.2) (b.1, b.2)) fun r2 =>
      some (r2.1, r2.2.1, r2.2.2)
    else
      bif (op == (4 : Int)) then
        bindF (f43 (a.1, a.2) (b.1, b.2)) fun r3 =>
        some (r3.1, r3.2.1, r3.2.2)
      else
        bif (op == (6 : Int)) then
          bindF (f44 (a.1, a.2) (b.1, b.2)) fun r4 =>
          some (r4.1, r4.2.1, r4.2.2)
        else
          bindF (f45 (a.1, a.2) (b.1, b.2) k) fun r5 =>
          some (r5.1, r5.2.1, r5.2.2)
def C37 : Con where
  X := Int × ((List Int) × (List Int)) × ((List Int) × (List Int)) × Int
  Y := Int × (List Int) × (List Int)
  e := 0
  args x := [.dat (.int .i64) x.1, .dat (.p (.sl (.int .i64)) (.sl (.int .i64))) x.2.1, .dat (.p (.sl (.int .i64)) (.sl (.int .i64))) x.2.2.1, .dat (.int .i64) x.2.2.2]
  hin x := []
  F x := f37 x.1 x.2.1 x.2.2.1 x.2.2.2
  ret y := [.raw true [(.osl 0), (.osl 1)], .dat (.int .i64) y.1]
  hout y := [(0, .arr 3 (.int .i64) y.2.1), (1, .arr 24 (.int .i64) y.2.2)]
  nout := 2
theorem C37_vc (op : Int) (a : (List Int) × (List Int)) (b : (List Int) × (List Int)) (k : Int) (y : Int × (List Int) × (List Int)) (hF : f37 op a b k = some y) : vc Try.prog tab Try.f37.ntmps 0 (match Try.f37.body with | some c => c | none => .skip) (retK tab C37 Try.f37.results.toList y) (C37.shIn (op, a, b, k)).st := by
  unfold f37 at hF
  refine Or.inl ?_
  refine Or.inl ?_
  refine Or.inl ?_
  refine Or.inl ?_
  refine condI hF (fun hF => ?_) (fun hF => ?_)
  · refine Or.inl ?_
    obtain ⟨r1, hr1, hF⟩ := bindE hF
    refine Or.inl (And.intro f41_in (callV0 (callI C41 ((a.1, a.2), (b.1, b.2)) r1 [] false C41_holds hr1 rfl rfl ?_)))
    refine (And.intro rfl (And.intro rfl (And.intro rfl (And.intro rfl (And.intro (fun h => nomatch h) (And.intro rfl (And.intro rfl (And.intro trivial (And.intro trivial ?_)))))))))
    refine Or.inl ?_
    have hy := someE hF
    subst hy
    refine And.intro rfl (Exists.intro [] (Exists.intro [] (Exists.intro [] (Exists.intro [] (Exists.intro [(0, some 3), (1, some 4)] (And.intro rfl (And.intro rfl (And.intro (And.intro rfl trivial) (And.intro rfl (And.intro rfl trivial))))))))))
  · refine Or.inl ?_
    refine condI hF (fun hF => ?_) (fun hF => ?_)
    · refine Or.inl ?_
      obtain ⟨r2, hr2, hF⟩ := bindE hF
      refine Or.inl (And.intro f42_in (callV0 (callI C42 ((a.1, a.2), (b.1, b.2)) r2 [] false C42_holds hr2 rfl rfl ?_)))
      refine (And.intro rfl (And.intro rfl (And.intro rfl (And.intro rfl (And.intro (fun h => nomatch h) (And.intro rfl (And.intro rfl (And.intro trivial (And.intro trivial ?_)))))))))
      refine Or.inl ?_
      have hy := someE hF
      subst hy
      refine And.intro rfl (Exists.intro [] (Exists.intro [] (Exists.intro [] (Exists.intro [] (Exists.intro [(0, some 3), (1, some 4)] (And.intro rfl (And.intro rfl (And.intro (And.intro rfl trivial) (And.intro rfl (And.intro rfl trivial))))))))))
    · refine Or.inl ?_
      refine condI hF (fun hF => ?_) (fun hF => ?_)
      · refine Or.inl ?_
        obtain ⟨r3, hr3, hF⟩ := bindE hF
        refine Or.inl (And.intro f43_in (callV0 (callI C43 ((a.1, a.2), (b.1, b.2)) r3 [] false C43_holds hr3 rfl rfl ?_)))
        refine (And.intro rfl (And.intro rfl (And.intro rfl (And.intro rfl (And.intro (fun h => nomatch h) (And.intro rfl (And.intro rfl (And.intro trivial (And.intro trivial ?_)))))))))
        refine Or.inl ?_
        have hy := someE hF
        subst hy
        refine And.intro rfl (Exists.intro [] (Exists.intro [] (Exists.intro [] (Exists.intro [] (Exists.intro [(0, some 3), (1, some 4)] (And.intro rfl (And.intro rfl (And.intro (And.intro rfl trivial) (And.intro rfl (And.intro rfl trivial))))))))))
      · refine Or.inl ?_
        refine condI hF (fun hF => ?_) (fun hF => ?_)
        · refine Or.inl ?_
          obtain ⟨r4, hr4, hF⟩ := bindE hF
          refine Or.inl (And.intro f44_in (callV0 (callI C44 ((a.1, a.2), (b.1, b.2)) r4 [] false C44_holds hr4 rfl rfl ?_)))
          refine (And.intro rfl (And.intro rfl (And.intro rfl (And.intro rfl (And.intro (fun h => nomatch h) (And.intro rfl (And.intro rfl (And.intro trivial (And.intro trivial ?_)))))))))
          refine Or.inl ?_
          have hy := someE hF
          subst hy
          refine And.intro rfl (Exists.intro [] (Exists.intro [] (Exists.intro [] (Exists.intro [] (Exists.intro [(0, some 3), (1, some 4)] (And.intro rfl (And.intro rfl (And.intro (And.intro rfl trivial) (And.intro rfl (And.intro rfl trivial))))))))))
        · refine Or.inl ?_
          obtain ⟨r5, hr5, hF⟩ := bindE hF
          refine Or.inl (And.intro f45_in (callV0 (callI C45 ((a.1, a.2), (b.1, b.2), k) r5 [] false C45_holds hr5 rfl rfl ?_)))
          refine (And.intro rfl (And.intro rfl (And.intro rfl (And.intro rfl (And.intro rfl (And.intro (fun h => nomatch h) (And.intro rfl (And.intro rfl (And.intro trivial (And.intro trivial ?_))))))))))
          refine Or.inl ?_
          have hy := someE hF
          subst hy
          refine And.intro rfl (Exists.intro [] (Exists.intro [] (Exists.intro [] (Exists.intro [] (Exists.intro [(0, some 3), (1, some 4)] (And.intro rfl (And.intro rfl (And.intro (And.intro rfl trivial) (And.intro rfl (And.intro rfl trivial))))))))))
theorem C37_holds : C37.Holds Try.prog 37 := holds_of_vc tab_ok mixed (fn := Try.f37) (by kernel_rfl) rfl C37 (fun x y hF => C37_vc x.1 x.2.1 x.2.2.1 x.2.2.2 y hF)
theorem f37_in : ∃ fn, Try.prog.funcs[37]? = some fn ∧ fn.body.isSome = true ∧ (fn.name == "runtime.NumGoroutine") = false := ⟨Try.f37, by kernel_rfl, by kernel_rfl, by kernel_rfl⟩
end Go.Proofs
namespace Go.Proofs
open Go.AM
-- carousel/tens.Scale
def f46_l1 (k : Int) (r1 : (List Int) × (List Int)) (go : (Int × (List Int)) → Option (List Int)) (v18 : Int) (l2 : List Int) : Option (List Int) :=
  bif (decide (v18 < (List.length r1.2 : Int))) then
    guardF (0 ≤ v18 ∧ v18 < (List.length l2 : Int)) <|
    bindF (f58 (rd (0 : Int) l2 v18) k) fun q7_5 =>
    guardF (0 ≤ v18 ∧ v18 < (List.length l2 : Int)) <|
    go ((IntKind.i64.wrap (v18 + (1 : Int))), (List.set l2 (Int.toNat v18) q7_5))
  else
    some l2
def f46 (a : (List Int) × (List Int)) (k : Int) : Option (Int × (List Int) × (List Int)) :=
  bindF (f14 (a.1, a.2)) fun q7_7 =>
  bif (!q7_7) then
    some ((1 : Int), [], [])
  else
    bindF (f16 (a.1, a.2)) fun r1 =>
    bindF (loopF (fun go x => f46_l1 k r1 go x.1 x.2) fuelN ((0 : Int), r1.2)) fun z2 =>
    some ((0 : Int), r1.1, z2)
def C46 : Con where
  X := ((List Int) × (List Int)) × Int
  Y := Int × (List Int) × (List Int)
  e := 0
  args x := [.dat (.p (.sl (.int .i64)) (.sl (.int .i64))) x.1, .dat (.int .i64) x.2]
  hin x := []
  F x := f46 x.1 x.2
  ret y := [.raw true [(.osl 0), (.osl 1)], .dat (.int .i64) y.1]
  hout y := [(0, .arr 3 (.int .i64) y.2.1), (1, .arr 24 (.int .i64) y.2.2)]
  nout := 2
theorem C46_vc (a : (List Int) × (List Int)) (k : Int) (y : Int × (List Int) × (List Int)) (hF : f46 a k = some y) : vc Try.prog tab Try.f46.ntmps 0 (match Try.f46.body with | some c => c | none => .skip) (retK tab C46 Try.f46.results.toList y) (C46.shIn (a, k)).st := by
  unfold f46 at hF
  refine Or.inl ?_
  refine Or.inl ?_
  refine Or.inl ?_
  obtain ⟨q7_7, hq7_7, hF⟩ := bindE hF
  refine Or.inl (And.intro f14_in (callV0 (callI C14 (a.1, a.2) q7_7 [] false C14_holds hq7_7 rfl rfl ?_)))
  refine (And.intro rfl (And.intro rfl (And.intro (fun h => nomatch h) (And.intro rfl (And.intro rfl (And.intro trivial (And.intro trivial ?_)))))))
  refine condI hF (fun hF => ?_) (fun hF => ?_)
  · refine Or.inl ?_
    refine Or.inl ?_
    have hy := someE hF
    subst hy
    refine And.intro rfl (Exists.intro [] (Exists.intro [] (Exists.intro [] (Exists.intro [] (Exists.intro [(0, none), (1, none)] (And.intro rfl (And.intro rfl (And.intro (And.intro rfl trivial) (And.intro rfl (And.intro rfl trivial))))))))))
  · refine Or.inl ?_
    obtain ⟨r1, hr1, hF⟩ := bindE hF
    refine Or.inl (And.intro f16_in (callV0 (callI C16 (a.1, a.2) r1 [] false C16_holds hr1 rfl rfl ?_)))
    refine (And.intro rfl (And.intro rfl (And.intro (fun h => nomatch h) (And.intro rfl (And.intro rfl (And.intro trivial (And.intro trivial ?_)))))))
    refine Or.inl ?_
    refine Or.inl ?_
    refine Or.inl ?_
    obtain ⟨z2, hz2, hF⟩ := bindE hF
    refine loopI (Int × (List Int)) (List Int) (fun x => ⟨[(1, .dat (.int .i64) k), (4, .raw false [(.ptr 0 0)]), (6, .raw false [(.ptr 1 0)]), (16, .raw false [(.osl 2)]), (17, .dat (.int .i64) (List.length r1.2 : Int)), (18, .dat (.int .i64) x.1)], [(0, .cells [(.c (.slice none 0 0)), (.c (.slice none 0 0))]), (1, .cells [(.osl 3), (.osl 2)]), (2, .arr 24 (.int .i64) x.2), (3, .arr 3 (.int .i64) r1.1)], 4⟩) (fun z => [(2, ⟨[(4, .raw false [(.ptr 0 0)]), (6, .raw false [(.ptr 1 0)])], [(0, .cells [(.c (.slice none 0 0)), (.c (.slice none 0 0))]), (1, .cells [(.osl 2), (.osl 3)]), (2, .arr 3 (.int .i64) r1.1), (3, .arr 24 (.int .i64) z)], 4⟩)]) (loopF (fun go x => f46_l1 k r1 go x.1 x.2)) fuelN ((0 : Int), r1.2) z2 (And.intro hz2 (And.intro (Exists.intro [] (Exists.intro [] (Exists.intro [] (Exists.intro [] (Exists.intro [(0, some 1), (1, some 4), (2, some 3), (3, some 2)] (And.intro rfl (And.intro rfl (And.intro rfl (And.intro rfl (And.intro (And.intro rfl (And.intro rfl (And.intro rfl trivial))) (And.intro rfl (And.intro rfl (And.intro rfl (And.intro rfl trivial)))))))))))))) (And.intro (fun _ _ h => loopZ h) (And.intro (fun m => curI (fun v18 => fun l2 z hF => ?_)) ?_))))
    · have hF : f46_l1 k r1 (loopF (fun go x => f46_l1 k r1 go x.1 x.2) m) v18 l2 = some z := hF
      unfold f46_l1 at hF
      refine Or.inl ?_
      refine Or.inl ?_
      refine condI hF (fun hF => ?_) (fun hF => ?_)
      · refine Or.inl ?_
        refine Or.inl ?_
        refine guardI hF (fun hF => ?_)
        refine Exists.intro (.take 0 (.take 1 (.take 2 (.take 3 (.take 4 (.alt 5 (.take 6 (.alt 7 .done .done)) .done)))))) (Exists.intro [] (Exists.intro [] (And.intro rfl ?_)))
        refine And.intro trivial ?_
        obtain ⟨q7_5, hq7_5, hF⟩ := bindE hF
        refine Or.inl (And.intro f58_in (callV0 (callI C58 ((rd (0 : Int) l2 v18), k) q7_5 [] false C58_holds hq7_5 rfl rfl ?_)))
        refine (And.intro rfl (And.intro rfl (And.intro (fun h => nomatch h) (And.intro rfl (And.intro rfl (And.intro trivial (And.intro trivial ?_)))))))
        refine guardI hF (fun hF => ?_)
        refine And.intro trivial ?_
        refine Or.inl ?_
        refine Exists.intro ((IntKind.i64.wrap (v18 + (1 : Int))), (List.set l2 (Int.toNat v18) q7_5)) (And.intro hF (Exists.intro [] (Exists.intro [] (Exists.intro [] (Exists.intro [] (Exists.intro [(0, some 0), (1, some 1), (2, some 2), (3, some 3)] (And.intro rfl (And.intro rfl (And.intro rfl (And.intro rfl (And.intro (And.intro rfl (And.intro rfl (And.intro rfl trivial))) (And.intro rfl (And.intro rfl (And.intro rfl (And.intro rfl trivial)))))))))))))))
      · have hz := someE hF
        subst hz
        refine Exists.intro [] (Exists.intro [] (Exists.intro [] (Exists.intro [] (Exists.intro [(0, some 0), (1, some 1), (2, some 3), (3, some 2)] (And.intro rfl (And.intro (And.intro rfl (And.intro rfl trivial)) (And.intro rfl (And.intro rfl (And.intro rfl (And.intro rfl trivial))))))))))
    · refine And.intro ?_ trivial
      refine Or.inl ?_
      refine Or.inl ?_
      have hy := someE hF
      subst hy
      refine And.intro rfl (Exists.intro [] (Exists.intro [] (Exists.intro [] (Exists.intro [] (Exists.intro [(0, some 2), (1, some 3)] (And.intro rfl (And.intro rfl (And.intro (And.intro rfl trivial) (And.intro rfl (And.intro rfl trivial))))))))))
theorem C46_holds : C46.Holds Try.prog 46 := holds_of_vc tab_ok mixed (fn := Try.f46) (by kernel_rfl) rfl C46 (fun x y hF => C46_vc x.1 x.2 y hF)
theorem f46_in : ∃ fn, Try.prog.funcs[46]? = some fn ∧ fn.body.isSome = true ∧ (fn.name == "runtime.NumGoroutine") = false := ⟨Try.f46, by kernel_rfl, by kernel_rfl, by kernel_rfl⟩
end Go.Proofs
namespace Go.Proofs
open Go.AM
-- carousel/matm.Sum
def f48_j3 (a : (List Int) × (List Int)) (side : Int) : Option Bool :=
  bindF (f14 (a.1, a.2)) fun r6 =>
  bif (!r6) then
    some true
  else
    bif (decide (side < (0 : Int))) then
      some true
    else
      some (decide (side ≥ (List.length a.1 : Int)))
def f48_j2 (a : (List Int) × (List Int)) (side : Int) : Option (Sum Unit Unit) :=
  bindF (f48_j3 a side) fun z5 =>
  bif z5 then
    some (Sum.inr ())
  else
    some (Sum.inl ())
def f48_l4 (a : (List Int) × (List Int)) (side : Int) (r7 : List Int) (go : (Int × (List (Int × Int))) → Option (List (Int × Int))) (v55 : Int) (l3 : List (Int × Int)) : Option (List (Int × Int)) :=
  bif (decide (v55 < (List.length a.2 : Int))) then
    guardF (0 ≤ v55 ∧ v55 < (List.length a.2 : Int)) <|
    guardF (0 ≤ side ∧ side < (List.length a.1 : Int)) <|
    guardF ((IntKind.i64.wrap ((rd (0 : Int) r7 side) * (rd (0 : Int) a.1 side))) ≠ 0) <|
    guardF ((rd (0 : Int) r7 side) ≠ 0) <|
    guardF (0 ≤ (IntKind.i64.wrap ((IntKind.i64.wrap ((IntKind.i64.wrap (Int.tdiv v55 (IntKind.i64.wrap ((rd (0 : Int) r7 side) * (rd (0 : Int) a.1 side))))) * (rd (0 : Int) r7 side))) + (Int.tmod v55 (rd (0 : Int) r7 side)))) ∧ (IntKind.i64.wrap ((IntKind.i64.wrap ((IntKind.i64.wrap (Int.tdiv v55 (IntKind.i64.wrap ((rd (0 : Int) r7 side) * (rd (0 : Int) a.1 side))))) * (rd (0 : Int) r7 side))) + (Int.tmod v55 (rd (0 : Int) r7 side)))) < (List.length l3 : Int)) <|
    bindF (f69 (rd (0 : Int) a.2 v55)) fun q10_7 =>
    bindF (f68 ((rd (Ty.z (.p (.int .i64) (.int .u64))) l3 (IntKind.i64.wrap ((IntKind.i64.wrap ((IntKind.i64.wrap (Int.tdiv v55 (IntKind.i64.wrap ((rd (0 : Int) r7 side) * (rd (0 : Int) a.1 side))))) * (rd (0 : Int) r7 side))) + (Int.tmod v55 (rd (0 : Int) r7 side))))).1, (rd (Ty.z (.p (.int .i64) (.int .u64))) l3 (IntKind.i64.wrap ((IntKind.i64.wrap ((IntKind.i64.wrap (Int.tdiv v55 (IntKind.i64.wrap ((rd (0 : Int) r7 side) * (rd (0 : Int) a.1 side))))) * (rd (0 : Int) r7 side))) + (Int.tmod v55 (rd (0 : Int) r7 side))))).2) (q10_7.1, q10_7.2)) fun q10_8 =>
    guardF (0 ≤ (IntKind.i64.wrap ((IntKind.i64.wrap ((IntKind.i64.wrap (Int.tdiv v55 (IntKind.i64.wrap ((rd (0 : Int) r7 side) * (rd (0 : Int) a.1 side))))) * (rd (0 : Int) r7 side))) + (Int.tmod v55 (rd (0 : Int) r7 side)))) ∧ (IntKind.i64.wrap ((IntKind.i64.wrap ((IntKind.i64.wrap (Int.tdiv v55 (IntKind.i64.wrap ((rd (0 : Int) r7 side) * (rd (0 : Int) a.1 side))))) * (rd (0 : Int) r7 side))) + (Int.tmod v55 (rd (0 : Int) r7 side)))) < (List.length l3 : Int)) <|
    go ((IntKind.i64.wrap (v55 + (1 : Int))), (List.set l3 (Int.toNat (IntKind.i64.wrap ((IntKind.i64.wrap ((IntKind.i64.wrap (Int.tdiv v55 (IntKind.i64.wrap ((rd (0 : Int) r7 side) * (rd (0 : Int) a.1 side))))) * (rd (0 : Int) r7 side))) + (Int.tmod v55 (rd (0 : Int) r7 side))))) (q10_8.1, q10_8.2)))
  else
    some l3
def f48_l5 (z8 : List (Int × Int)) (go : (Int × (List Int)) → Option (List Int)) (v93 : Int) (l4 : List Int) : Option (List Int) :=
  bif (decide (v93 < (List.length z8 : Int))) then
    guardF (0 ≤ v93 ∧ v93 < (List.length z8 : Int)) <|
    bindF (f70 ((rd (Ty.z (.p (.int .i64) (.int .u64))) z8 v93).1, (rd (Ty.z (.p (.int .i64) (.int .u64))) z8 v93).2)) fun q16_4 =>
    guardF (0 ≤ v93 ∧ v93 < (List.length l4 : Int)) <|
    go ((IntKind.i64.wrap (v93 + (1 : Int))), (List.set l4 (Int.toNat v93) q16_4))
  else
    some l4
def f48 (a : (List Int) × (List Int)) (side : Int) : Option (Int × (List Int) × (List Int)) :=
  bindF (f48_j2 a side) fun z3 =>
  sumF z3 (fun z3a =>
    guardF (0 ≤ side ∧ side ≤ (List.length a.1 : Int)) <|
    guardF (0 ≤ (IntKind.i64.wrap (side + (1 : Int))) ∧ (IntKind.i64.wrap (side + (1 : Int))) ≤ (List.length a.1 : Int)) <|
    guardF ((List.length ([] : List Int) + List.length (List.take (Int.toNat side) a.1)) * 8 ≤ 140737488355328) <|
    guardF ((List.length (([] : List Int) ++ (List.take (Int.toNat side) a.1)) + List.length (List.drop (Int.toNat (IntKind.i64.wrap (side + (1 : Int)))) a.1)) * 8 ≤ 140737488355328) <|
    bindF (f26 ((([] : List Int) ++ (List.take (Int.toNat side) a.1)) ++ (List.drop (Int.toNat (IntKind.i64.wrap (side + (1 : Int)))) a.1))) fun q3_12 =>
    guardF (0 ≤ q3_12 ∧ q3_12 ≤ q3_12 ∧ Int.toNat q3_12 * 16 ≤ 140737488355328) <|
    bindF (f67 a.1) fun r7 =>
    guardF (0 ≤ side ∧ side < (List.length r7 : Int)) <|
    bindF (loopF (fun go x => f48_l4 a side r7 go x.1 x.2) fuelN ((0 : Int), (List.replicate (Int.toNat q3_12) (Ty.z (.p (.int .i64) (.int .u64)))))) fun z8 =>
    bindF (f23 ((([] : List Int) ++ (List.take (Int.toNat side) a.1)) ++ (List.drop (Int.toNat (IntKind.i64.wrap (side + (1 : Int)))) a.1)) (0 : Int)) fun q10_10 =>
    bindF (loopF (fun go x => f48_l5 z8 go x.1 x.2) fuelN ((0 : Int), q10_10.2.2)) fun z9 =>
    some ((0 : Int), q10_10.2.1, z9)) (fun z3b =>
    some ((1 : Int), [], []))
def C48 : Con where
  X := ((List Int) × (List Int)) × Int
  Y := Int × (List Int) × (List Int)
  e := 0
  args x := [.dat (.p (.sl (.int .i64)) (.sl (.int .i64))) x.1, .dat (.int .i64) x.2]
  hin x := []
  F x := f48 x.1 x.2
  ret y := [.raw true [(.osl 0), (.osl 1)], .dat (.int .i64) y.1]
  hout y := [(0, .arr 3 (.int .i64) y.2.1), (1, .arr 24 (.int .i64) y.2.2)]
  nout := 2
theorem C48_vc (a : (List Int) × (List Int)) (side : Int) (y : Int × (List Int) × (List Int)) (hF : f48 a side = some y) : vc Try.prog tab Try.f48.ntmps 0 (match Try.f48.body with | some c => c | none => .skip) (retK tab C48 Try.f48.results.toList y) (C48.shIn (a, side)).st := by
  unfold f48 at hF
  refine Or.inl ?_
  obtain ⟨z3, hz3, hF⟩ := bindE hF
  refine Or.inr ⟨Sum.elim (fun z3a => [(0, ⟨[(1, .dat (.int .i64) side), (2, .raw false [(.ptr 0 0)]), (4, .raw false [(.ptr 1 0)])], [(0, .cells [(.d (.sl (.int .i64)) a.1), (.d (.sl (.int .i64)) a.2)]), (1, .cells [(.c (.slice none 0 0)), (.c (.slice none 0 0))])], 2⟩)]) (fun z3b => [(1, ⟨[(4, .raw false [(.ptr 0 0)]), (5, .dat (.int .i64) (1 : Int))], [(0, .cells [(.c (.slice none 0 0)), (.c (.slice none 0 0))])], 1⟩)]) z3, ?_, ?_⟩
  · have hF := hz3
    clear hz3
    unfold f48_j2 at hF
    obtain ⟨z5, hz5, hF⟩ := bindE hF
    refine Or.inr ⟨[(0, ⟨[(1, .dat (.int .i64) side), (2, .raw false [(.ptr 0 0)]), (4, .raw false [(.ptr 1 0)]), (29, .dat .bool z5)], [(0, .cells [(.d (.sl (.int .i64)) a.1), (.d (.sl (.int .i64)) a.2)]), (1, .cells [(.c (.slice none 0 0)), (.c (.slice none 0 0))])], 2⟩)], ?_, ?_⟩
    · have hF := hz5
      clear hz5
      unfold f48_j3 at hF
      obtain ⟨r6, hr6, hF⟩ := bindE hF
      refine Or.inl (And.intro f14_in (callV0 (callI C14 (a.1, a.2) r6 [] false C14_holds hr6 rfl rfl ?_)))
      refine (And.intro rfl (And.intro rfl (And.intro (fun h => nomatch h) (And.intro rfl (And.intro rfl (And.intro trivial (And.intro trivial ?_)))))))
      refine condN hF (fun hF => ?_) (fun hF => ?_)
      · refine gdYF ?_
        refine condF ?_
        refine condN hF (fun hF => ?_) (fun hF => ?_)
        · refine gdYF ?_
          refine gdYF ?_
          refine gdYF ?_
          refine gdYF ?_
          refine condF ?_
          have hz := someE hF
          subst hz
          refine Exists.intro [] (Exists.intro [] (Exists.intro [] (Exists.intro [] (Exists.intro [(0, some 0), (1, some 1)] (And.intro rfl (And.intro rfl (And.intro rfl (And.intro (And.intro rfl (And.intro rfl trivial)) (And.intro rfl (And.intro rfl trivial))))))))))
        · refine gdNF ?_
          refine gdNF ?_
          refine gdNF ?_
          refine gdNF ?_
          refine condT ?_
          have hz := someE hF
          subst hz
          refine Exists.intro [] (Exists.intro [] (Exists.intro [] (Exists.intro [] (Exists.intro [(0, some 0), (1, some 1)] (And.intro rfl (And.intro rfl (And.intro rfl (And.intro (And.intro rfl (And.intro rfl trivial)) (And.intro rfl (And.intro rfl trivial))))))))))
      · refine gdNF ?_
        refine condT ?_
        refine gdNF ?_
        refine gdNF ?_
        refine gdNF ?_
        refine gdNF ?_
        refine gdNF ?_
        refine condT ?_
        have hz := someE hF
        subst hz
        refine Exists.intro [] (Exists.intro [] (Exists.intro [] (Exists.intro [] (Exists.intro [(0, some 0), (1, some 1)] (And.intro rfl (And.intro rfl (And.intro rfl (And.intro (And.intro rfl (And.intro rfl trivial)) (And.intro rfl (And.intro rfl trivial))))))))))
    · refine And.intro ?_ trivial
      refine condI hF (fun hF => ?_) (fun hF => ?_)
      · refine Or.inl ?_
        refine Or.inl ?_
        have hz := someE hF
        subst hz
        refine Exists.intro [] (Exists.intro [] (Exists.intro [] (Exists.intro [] (Exists.intro [(0, some 1)] (And.intro rfl (And.intro rfl (And.intro (And.intro rfl trivial) (And.intro rfl trivial))))))))
      · have hz := someE hF
        subst hz
        refine Exists.intro [] (Exists.intro [] (Exists.intro [] (Exists.intro [] (Exists.intro [(0, some 0), (1, some 1)] (And.intro rfl (And.intro rfl (And.intro (And.intro rfl (And.intro rfl trivial)) (And.intro rfl (And.intro rfl trivial)))))))))
  · rcases z3 with z3a | z3b
    · dsimp only [sumF] at hF
      refine And.intro ?_ trivial
      refine Or.inl ?_
      refine Exists.intro (.take 1 (.take 2 (.take 3 (.take 4 (.take 6 (.take 7 (.take 8 (.take 9 (.take 10 (.alt 0 (.alt 5 (.alt 11 (.take 12 .done) .done) .done) .done)))))))))) (Exists.intro [] (Exists.intro [] (And.intro rfl ?_)))
      refine guardI hF (fun hF => ?_)
      refine guardI hF (fun hF => ?_)
      refine And.intro trivial ?_
      refine Or.inl ?_
      refine And.intro trivial ?_
      refine Or.inl ?_
      refine guardI hF (fun hF => ?_)
      refine And.intro trivial ?_
      refine Or.inl ?_
      refine guardI hF (fun hF => ?_)
      refine Or.inl ?_
      obtain ⟨q3_12, hq3_12, hF⟩ := bindE hF
      refine Or.inl (And.intro f26_in (callV0 (callI C26 ((([] : List Int) ++ (List.take (Int.toNat side) a.1)) ++ (List.drop (Int.toNat (IntKind.i64.wrap (side + (1 : Int)))) a.1)) q3_12 [] true C26_holds hq3_12 rfl rfl ?_)))
      refine (And.intro rfl (And.intro (fun _ => rfl) (And.intro rfl (And.intro rfl (And.intro trivial (And.intro trivial ?_))))))
      refine guardI hF (fun hF => ?_)
      refine Or.inl ?_
      obtain ⟨r7, hr7, hF⟩ := bindE hF
      refine Or.inl (And.intro f67_in (callV0 (callI C67 a.1 r7 [] false C67_holds hr7 rfl rfl ?_)))
      refine (And.intro rfl (And.intro (fun h => nomatch h) (And.intro rfl (And.intro rfl (And.intro trivial (And.intro trivial ?_))))))
      refine guardI hF (fun hF => ?_)
      refine Or.inl ?_
      refine Or.inl ?_
      obtain ⟨z8, hz8, hF⟩ := bindE hF
      refine loopI (Int × (List (Int × Int))) (List (Int × Int)) (fun x => ⟨[(1, .dat (.int .i64) side), (2, .raw false [(.ptr 0 0)]), (4, .raw false [(.ptr 1 0)]), (6, .raw false [(.osl 2)]), (7, .raw false [(.osl 3)]), (8, .dat (.int .i64) (rd (0 : Int) r7 side)), (53, .dat (.sl (.int .i64)) a.2), (54, .dat (.int .i64) (List.length a.2 : Int)), (55, .dat (.int .i64) x.1)], [(0, .cells [(.d (.sl (.int .i64)) a.1), (.d (.sl (.int .i64)) a.2)]), (1, .cells [(.c (.slice none 0 0)), (.c (.slice none 0 0))]), (2, .arr 3 (.int .i64) ((([] : List Int) ++ (List.take (Int.toNat side) a.1)) ++ (List.drop (Int.toNat (IntKind.i64.wrap (side + (1 : Int)))) a.1))), (3, .arr 100 (.p (.int .i64) (.int .u64)) x.2)], 4⟩) (fun z => [(2, ⟨[(4, .raw false [(.ptr 0 0)]), (6, .raw false [(.osl 1)]), (7, .raw false [(.osl 2)])], [(0, .cells [(.c (.slice none 0 0)), (.c (.slice none 0 0))]), (1, .arr 3 (.int .i64) ((([] : List Int) ++ (List.take (Int.toNat side) a.1)) ++ (List.drop (Int.toNat (IntKind.i64.wrap (side + (1 : Int)))) a.1))), (2, .arr 100 (.p (.int .i64) (.int .u64)) z)], 3⟩)]) (loopF (fun go x => f48_l4 a side r7 go x.1 x.2)) fuelN ((0 : Int), (List.replicate (Int.toNat q3_12) (Ty.z (.p (.int .i64) (.int .u64))))) z8 (And.intro hz8 (And.intro (Exists.intro [] (Exists.intro [] (Exists.intro [] (Exists.intro [] (Exists.intro [(0, some 0), (1, some 1), (2, some 4), (3, some 5)] (And.intro rfl (And.intro rfl (And.intro rfl (And.intro rfl (And.intro rfl (And.intro rfl (And.intro (And.intro rfl (And.intro rfl (And.intro rfl (And.intro rfl trivial)))) (And.intro rfl (And.intro rfl (And.intro rfl (And.intro rfl trivial)))))))))))))))) (And.intro (fun _ _ h => loopZ h) (And.intro (fun m => curI (fun v55 => fun l3 z hF => ?_)) ?_))))
      · have hF : f48_l4 a side r7 (loopF (fun go x => f48_l4 a side r7 go x.1 x.2) m) v55 l3 = some z := hF
        unfold f48_l4 at hF
        refine Or.inl ?_
        refine Or.inl ?_
        refine condI hF (fun hF => ?_) (fun hF => ?_)
        · refine Or.inl ?_
          refine Or.inl ?_
          refine guardI hF (fun hF => ?_)
          refine Or.inl ?_
          refine Exists.intro (.take 0 (.take 1 (.take 2 (.take 3 (.take 4 (.take 5 (.take 6 (.take 7 (.take 8 (.take 9 (.take 10 (.take 11 (.take 12 (.take 13 (.take 14 (.take 15 .done)))))))))))))))) (Exists.intro [] (Exists.intro [] (And.intro rfl ?_)))
          refine guardI hF (fun hF => ?_)
          refine guardI hF (fun hF => ?_)
          refine guardI hF (fun hF => ?_)
          refine Exists.intro (.take 0 (.take 1 (.take 2 (.take 3 (.take 4 (.take 5 (.take 6 (.alt 7 (.alt 8 (.take 9 (.alt 10 .done .done)) .done) .done)))))))) (Exists.intro [(10, [3])] (Exists.intro [] (And.intro rfl ?_)))
          refine guardI hF (fun hF => ?_)
          refine And.intro trivial ?_
          obtain ⟨q10_7, hq10_7, hF⟩ := bindE hF
          refine Or.inl (And.intro f69_in (callV0 (callI C69 (rd (0 : Int) a.2 v55) q10_7 [] false C69_holds hq10_7 rfl rfl ?_)))
          refine (And.intro rfl (And.intro (fun h => nomatch h) (And.intro rfl (And.intro rfl (And.intro trivial (And.intro trivial ?_))))))
          refine And.intro trivial ?_
          obtain ⟨q10_8, hq10_8, hF⟩ := bindE hF
          refine Or.inl (And.intro f68_in (callV0 (callI C68 (((rd (Ty.z (.p (.int .i64) (.int .u64))) l3 (IntKind.i64.wrap ((IntKind.i64.wrap ((IntKind.i64.wrap (Int.tdiv v55 (IntKind.i64.wrap ((rd (0 : Int) r7 side) * (rd (0 : Int) a.1 side))))) * (rd (0 : Int) r7 side))) + (Int.tmod v55 (rd (0 : Int) r7 side))))).1, (rd (Ty.z (.p (.int .i64) (.int .u64))) l3 (IntKind.i64.wrap ((IntKind.i64.wrap ((IntKind.i64.wrap (Int.tdiv v55 (IntKind.i64.wrap ((rd (0 : Int) r7 side) * (rd (0 : Int) a.1 side))))) * (rd (0 : Int) r7 side))) + (Int.tmod v55 (rd (0 : Int) r7 side))))).2), (q10_7.1, q10_7.2)) q10_8 [] false C68_holds hq10_8 rfl rfl ?_)))
          refine (And.intro rfl (And.intro rfl (And.intro rfl (And.intro rfl (And.intro (fun h => nomatch h) (And.intro rfl (And.intro rfl (And.intro trivial (And.intro trivial ?_)))))))))
          refine guardI hF (fun hF => ?_)
          refine And.intro trivial ?_
          refine Or.inl ?_
          refine Exists.intro ((IntKind.i64.wrap (v55 + (1 : Int))), (List.set l3 (Int.toNat (IntKind.i64.wrap ((IntKind.i64.wrap ((IntKind.i64.wrap (Int.tdiv v55 (IntKind.i64.wrap ((rd (0 : Int) r7 side) * (rd (0 : Int) a.1 side))))) * (rd (0 : Int) r7 side))) + (Int.tmod v55 (rd (0 : Int) r7 side))))) (q10_8.1, q10_8.2))) (And.intro hF (Exists.intro [] (Exists.intro [] (Exists.intro [] (Exists.intro [] (Exists.intro [(0, some 0), (1, some 1), (2, some 2), (3, some 3)] (And.intro rfl (And.intro rfl (And.intro rfl (And.intro rfl (And.intro rfl (And.intro rfl (And.intro (And.intro rfl (And.intro rfl (And.intro rfl (And.intro rfl trivial)))) (And.intro rfl (And.intro rfl (And.intro rfl (And.intro rfl trivial)))))))))))))))))
        · have hz := someE hF
          subst hz
          refine Exists.intro [] (Exists.intro [] (Exists.intro [] (Exists.intro [] (Exists.intro [(0, some 1), (1, some 2), (2, some 3)] (And.intro rfl (And.intro (And.intro rfl (And.intro rfl (And.intro rfl trivial))) (And.intro rfl (And.intro rfl (And.intro rfl trivial)))))))))
      · refine And.intro ?_ trivial
        refine Or.inl ?_
        obtain ⟨q10_10, hq10_10, hF⟩ := bindE hF
        refine Or.inl (And.intro f23_in (callV0 (callI C23 (((([] : List Int) ++ (List.take (Int.toNat side) a.1)) ++ (List.drop (Int.toNat (IntKind.i64.wrap (side + (1 : Int)))) a.1)), (0 : Int)) q10_10 [] true C23_holds hq10_10 rfl rfl ?_)))
        refine (And.intro rfl (And.intro rfl (And.intro (fun _ => rfl) (And.intro rfl (And.intro rfl (And.intro trivial (And.intro trivial ?_)))))))
        refine Or.inl ?_
        refine Or.inl ?_
        refine Or.inl ?_
        obtain ⟨z9, hz9, hF⟩ := bindE hF
        refine loopI (Int × (List Int)) (List Int) (fun x => ⟨[(4, .raw false [(.ptr 0 0)]), (12, .raw false [(.ptr 1 0)]), (91, .raw false [(.osl 2)]), (92, .dat (.int .i64) (List.length z8 : Int)), (93, .dat (.int .i64) x.1)], [(0, .cells [(.c (.slice none 0 0)), (.c (.slice none 0 0))]), (1, .cells [(.osl 3), (.osl 4)]), (2, .arr 100 (.p (.int .i64) (.int .u64)) z8), (3, .arr 3 (.int .i64) q10_10.2.1), (4, .arr 24 (.int .i64) x.2)], 5⟩) (fun z => [(4, ⟨[(4, .raw false [(.ptr 0 0)]), (12, .raw false [(.ptr 1 0)])], [(0, .cells [(.c (.slice none 0 0)), (.c (.slice none 0 0))]), (1, .cells [(.osl 2), (.osl 3)]), (2, .arr 3 (.int .i64) q10_10.2.1), (3, .arr 24 (.int .i64) z)], 4⟩)]) (loopF (fun go x => f48_l5 z8 go x.1 x.2)) fuelN ((0 : Int), q10_10.2.2) z9 (And.intro hz9 (And.intro (Exists.intro [] (Exists.intro [] (Exists.intro [] (Exists.intro [] (Exists.intro [(0, some 0), (1, some 5), (2, some 2), (3, some 3), (4, some 4)] (And.intro rfl (And.intro rfl (And.intro rfl (And.intro (And.intro rfl (And.intro rfl (And.intro rfl trivial))) (And.intro rfl (And.intro rfl (And.intro rfl (And.intro rfl (And.intro rfl trivial)))))))))))))) (And.intro (fun _ _ h => loopZ h) (And.intro (fun m => curI (fun v93 => fun l4 z hF => ?_)) ?_))))
        · have hF : f48_l5 z8 (loopF (fun go x => f48_l5 z8 go x.1 x.2) m) v93 l4 = some z := hF
          unfold f48_l5 at hF
          refine Or.inl ?_
          refine Or.inl ?_
          refine condI hF (fun hF => ?_) (fun hF => ?_)
          · refine Or.inl ?_
            refine Or.inl ?_
            refine guardI hF (fun hF => ?_)
            refine Or.inl ?_
            refine Exists.intro (.take 0 (.take 1 (.take 2 (.take 3 (.alt 4 (.take 5 (.alt 6 .done .done)) .done))))) (Exists.intro [] (Exists.intro [] (And.intro rfl ?_)))
            refine And.intro trivial ?_
            obtain ⟨q16_4, hq16_4, hF⟩ := bindE hF
            refine Or.inl (And.intro f70_in (callV0 (callI C70 ((rd (Ty.z (.p (.int .i64) (.int .u64))) z8 v93).1, (rd (Ty.z (.p (.int .i64) (.int .u64))) z8 v93).2) q16_4 [] false C70_holds hq16_4 rfl rfl ?_)))
            refine (And.intro rfl (And.intro rfl (And.intro (fun h => nomatch h) (And.intro rfl (And.intro rfl (And.intro trivial (And.intro trivial ?_)))))))
            refine guardI hF (fun hF => ?_)
            refine And.intro trivial ?_
            refine Or.inl ?_
            refine Exists.intro ((IntKind.i64.wrap (v93 + (1 : Int))), (List.set l4 (Int.toNat v93) q16_4)) (And.intro hF (Exists.intro [] (Exists.intro [] (Exists.intro [] (Exists.intro [] (Exists.intro [(0, some 0), (1, some 1), (2, some 2), (3, some 3), (4, some 4)] (And.intro rfl (And.intro rfl (And.intro rfl (And.intro (And.intro rfl (And.intro rfl (And.intro rfl trivial))) (And.intro rfl (And.intro rfl (And.intro rfl (And.intro rfl (And.intro rfl trivial)))))))))))))))
          · have hz := someE hF
            subst hz
            refine Exists.intro [] (Exists.intro [] (Exists.intro [] (Exists.intro [] (Exists.intro [(0, some 0), (1, some 1), (2, some 3), (3, some 4)] (And.intro rfl (And.intro (And.intro rfl (And.intro rfl trivial)) (And.intro rfl (And.intro rfl (And.intro rfl (And.intro rfl trivial))))))))))
        · refine And.intro ?_ trivial
          refine Or.inl ?_
          refine Or.inl ?_
          have hy := someE hF
          subst hy
          refine And.intro rfl (Exists.intro [] (Exists.intro [] (Exists.intro [] (Exists.intro [] (Exists.intro [(0, some 2), (1, some 3)] (And.intro rfl (And.intro rfl (And.intro (And.intro rfl trivial) (And.intro rfl (And.intro rfl trivial))))))))))
    · dsimp only [sumF] at hF
      refine And.intro ?_ trivial
      have hy := someE hF
      subst hy
      refine And.intro rfl (Exists.intro [] (Exists.intro [] (Exists.intro [] (Exists.intro [] (Exists.intro [(0, none), (1, none)] (And.intro rfl (And.intro rfl (And.intro (And.intro rfl trivial) (And.intro rfl (And.intro rfl trivial))))))))))
theorem C48_holds : C48.Holds Try.prog 48 := holds_of_vc tab_ok mixed (fn := Try.f48) (by kernel_rfl) rfl C48 (fun x y hF => C48_vc x.1 x.2 y hF)
theorem f48_in : ∃ fn, Try.prog.funcs[48]? = some fn ∧ fn.body.isSome = true ∧ (fn.name == "runtime.NumGoroutine") = false := ⟨Try.f48, by kernel_rfl, by kernel_rfl, by kernel_rfl⟩
end Go.Proofs
namespace Go.Proofs
open Go.AM
-- carousel/matm.total
def f71_l1 (v : List Int) (go : (Int × Int × Int) → Option (Int × Int)) (v9 : Int) (c1_0 : Int) (c1_1 : Int) : Option (Int × Int) :=
  bif (decide (v9 < (List.length v : Int))) then
    guardF (0 ≤ v9 ∧ v9 < (List.length v : Int)) <|
    bindF (f69 (rd (0 : Int) v v9)) fun q5_2 =>
    bindF (f68 (c1_0, c1_1) (q5_2.1, q5_2.2)) fun q5_3 =>
    go ((IntKind.i64.wrap (v9 + (1 : Int))), q5_3.1, q5_3.2)
  else
    some (c1_0, c1_1)
def f71 (v : List Int) : Option (Int × Int) :=
  bindF (loopF (fun go x => f71_l1 v go x.1 x.2.1 x.2.2) fuelN ((0 : Int), (0 : Int), (0 : Int))) fun z1 =>
  some (z1.1, z1.2)
def C71 : Con where
  X := List Int
  Y := Int × Int
  e := 0
  args x := [.dat (.sl (.int .i64)) x]
  hin x := []
  F x := f71 x
  ret y := [.raw true [(.d (.int .i64) y.1), (.d (.int .u64) y.2)]]
  hout y := []
  nout := 0
theorem C71_vc (v : List Int) (y : Int × Int) (hF : f71 v = some y) : vc Try.prog tab Try.f71.ntmps 0 (match Try.f71.body with | some c => c | none => .skip) (retK tab C71 Try.f71.results.toList y) (C71.shIn v).st := by
  unfold f71 at hF
  refine Or.inl ?_
  refine Or.inl ?_
  refine Or.inl ?_
  refine Or.inl ?_
  refine Or.inl ?_
  obtain ⟨z1, hz1, hF⟩ := bindE hF
  refine loopI (Int × Int × Int) (Int × Int) (fun x => ⟨[(2, .raw false [(.ptr 0 0)]), (3, .raw false [(.ptr 1 0)]), (7, .dat (.sl (.int .i64)) v), (8, .dat (.int .i64) (List.length v : Int)), (9, .dat (.int .i64) x.1)], [(0, .cells [(.d (.int .i64) (0 : Int)), (.d (.int .u64) (0 : Int))]), (1, .cells [(.d (.int .i64) x.2.1), (.d (.int .u64) x.2.2)])], 2⟩) (fun z => [(2, ⟨[(2, .raw false [(.ptr 0 0)]), (3, .raw false [(.ptr 1 0)])], [(0, .cells [(.d (.int .i64) (0 : Int)), (.d (.int .u64) (0 : Int))]), (1, .cells [(.d (.int .i64) z.1), (.d (.int .u64) z.2)])], 2⟩)]) (loopF (fun go x => f71_l1 v go x.1 x.2.1 x.2.2)) fuelN ((0 : Int), (0 : Int), (0 : Int)) z1 (And.intro hz1 (And.intro (Exists.intro [] (Exists.intro [] (Exists.intro [] (Exists.intro [] (Exists.intro [(0, some 0), (1, some 1)] (And.intro rfl (And.intro rfl (And.intro rfl (And.intro rfl (And.intro (And.intro rfl (And.intro rfl trivial)) (And.intro rfl (And.intro rfl trivial)))))))))))) (And.intro (fun _ _ h => loopZ h) (And.intro (fun m => curI (fun v9 => curI (fun c1_0 => fun c1_1 z hF => ?_))) ?_))))
  · have hF : f71_l1 v (loopF (fun go x => f71_l1 v go x.1 x.2.1 x.2.2) m) v9 c1_0 c1_1 = some z := hF
    unfold f71_l1 at hF
    refine Or.inl ?_
    refine Or.inl ?_
    refine condI hF (fun hF => ?_) (fun hF => ?_)
    · refine Or.inl ?_
      refine Or.inl ?_
      refine guardI hF (fun hF => ?_)
      refine Exists.intro (.take 0 (.take 1 (.alt 2 (.alt 3 (.alt 4 .done .done) .done) .done))) (Exists.intro [(4, [1])] (Exists.intro [] (And.intro rfl ?_)))
      refine And.intro trivial ?_
      obtain ⟨q5_2, hq5_2, hF⟩ := bindE hF
      refine Or.inl (And.intro f69_in (callV0 (callI C69 (rd (0 : Int) v v9) q5_2 [] false C69_holds hq5_2 rfl rfl ?_)))
      refine (And.intro rfl (And.intro (fun h => nomatch h) (And.intro rfl (And.intro rfl (And.intro trivial (And.intro trivial ?_))))))
      refine And.intro trivial ?_
      obtain ⟨q5_3, hq5_3, hF⟩ := bindE hF
      refine Or.inl (And.intro f68_in (callV0 (callI C68 ((c1_0, c1_1), (q5_2.1, q5_2.2)) q5_3 [] false C68_holds hq5_3 rfl rfl ?_)))
      refine (And.intro rfl (And.intro rfl (And.intro rfl (And.intro rfl (And.intro (fun h => nomatch h) (And.intro rfl (And.intro rfl (And.intro trivial (And.intro trivial ?_)))))))))
      refine And.intro trivial ?_
      refine Or.inl ?_
      refine Exists.intro ((IntKind.i64.wrap (v9 + (1 : Int))), q5_3.1, q5_3.2) (And.intro hF (Exists.intro [] (Exists.intro [] (Exists.intro [] (Exists.intro [] (Exists.intro [(0, some 0), (1, some 1)] (And.intro rfl (And.intro rfl (And.intro rfl (And.intro rfl (And.intro (And.intro rfl (And.intro rfl trivial)) (And.intro rfl (And.intro rfl trivial)))))))))))))
    · have hz := someE hF
      subst hz
      refine Exists.intro [] (Exists.intro [] (Exists.intro [] (Exists.intro [] (Exists.intro [(0, some 0), (1, some 1)] (And.intro rfl (And.intro (And.intro rfl (And.intro rfl trivial)) (And.intro rfl (And.intro rfl trivial))))))))
  · refine And.intro ?_ trivial
    refine Or.inl ?_
    refine Or.inl ?_
    have hy := someE hF
    subst hy
    refine And.intro rfl (Exists.intro [] (Exists.intro [] (Exists.intro [] (Exists.intro [] (Exists.intro [] (And.intro rfl (And.intro (And.intro rfl trivial) trivial)))))))
theorem C71_holds : C71.Holds Try.prog 71 := holds_of_vc tab_ok mixed (fn := Try.f71) (by kernel_rfl) rfl C71 (fun x y hF => C71_vc x y hF)
theorem f71_in : ∃ fn, Try.prog.funcs[71]? = some fn ∧ fn.body.isSome = true ∧ (fn.name == "runtime.NumGoroutine") = false := ⟨Try.f71, by kernel_rfl, by kernel_rfl, by kernel_rfl⟩
end Go.Proofs
namespace Go.Proofs
open Go.AM
-- carousel/matm.All
def f50 (a : (List Int) × (List Int)) : Option (Int × Int) :=
  bindF (f14 (a.1, a.2)) fun r1 =>
  bif (!r1) then
    some ((0 : Int), (1 : Int))
  else
    bindF (f71 a.2) fun r2 =>
    bindF (f70 (r2.1, r2.2)) fun r3 =>
    some (r3, (0 : Int))
def C50 : Con where
  X := (List Int) × (List Int)
  Y := Int × Int
  e := 0
  args x := [.dat (.p (.sl (.int .i64)) (.sl (.int .i64))) x]
  hin x := []
  F x := f50 x
  ret y := [.dat (.int .i64) y.1, .dat (.int .i64) y.2]
  hout y := []
  nout := 0
theorem C50_vc (a : (List Int) × (List Int)) (y : Int × Int) (hF : f50 a = some y) : vc Try.prog tab Try.f50.ntmps 0 (match Try.f50.body with | some c => c | none => .skip) (retK tab C50 Try.f50.results.toList y) (C50.shIn a).st := by
  unfold f50 at hF
  refine Or.inl ?_
  refine Or.inl ?_
  refine Or.inl ?_
  obtain ⟨r1, hr1, hF⟩ := bindE hF
  refine Or.inl (And.intro f14_in (callV0 (callI C14 (a.1, a.2) r1 [] false C14_holds hr1 rfl rfl ?_)))
  refine (And.intro rfl (And.intro rfl (And.intro (fun h => nomatch h) (And.intro rfl (And.intro rfl (And.intro trivial (And.intro trivial ?_)))))))
  refine condI hF (fun hF => ?_) (fun hF => ?_)
  · refine Or.inl ?_
    have hy := someE hF
    subst hy
    refine And.intro rfl (Exists.intro [] (Exists.intro [] (Exists.intro [] (Exists.intro [] (Exists.intro [] (And.intro rfl (And.intro rfl (And.intro rfl (And.intro trivial trivial)))))))))
  · refine Or.inl ?_
    obtain ⟨r2, hr2, hF⟩ := bindE hF
    refine Or.inl (And.intro f71_in (callV0 (callI C71 a.2 r2 [] false C71_holds hr2 rfl rfl ?_)))
    refine (And.intro rfl (And.intro (fun h => nomatch h) (And.intro rfl (And.intro rfl (And.intro trivial (And.intro trivial ?_))))))
    obtain ⟨r3, hr3, hF⟩ := bindE hF
    refine Or.inl (And.intro f70_in (callV0 (callI C70 (r2.1, r2.2) r3 [] false C70_holds hr3 rfl rfl ?_)))
    refine (And.intro rfl (And.intro rfl (And.intro (fun h => nomatch h) (And.intro rfl (And.intro rfl (And.intro trivial (And.intro trivial ?_)))))))
    have hy := someE hF
    subst hy
    refine And.intro rfl (Exists.intro [] (Exists.intro [] (Exists.intro [] (Exists.intro [] (Exists.intro [] (And.intro rfl (And.intro rfl (And.intro rfl (And.intro trivial trivial)))))))))
theorem C50_holds : C50.Holds Try.prog 50 := holds_of_vc tab_ok mixed (fn := Try.f50) (by kernel_rfl) rfl C50 (fun x y hF => C50_vc x y hF)
theorem f50_in : ∃ fn, Try.prog.funcs[50]? = some fn ∧ fn.body.isSome = true ∧ (fn.name == "runtime.NumGoroutine") = false := ⟨Try.f50, by kernel_rfl, by kernel_rfl, by kernel_rfl⟩
end Go.Proofs
namespace Go.Proofs
open Go.AM
-- carousel/tape.single
def f49 (x_ : Int) (e : Int) : Option (Int × (List Int) × (List Int)) :=
  bif (e != (0 : Int)) then
    some (e, [], [])
  else
    bindF (f23 ([]) x_) fun r1 =>
    some (r1.1, r1.2.1, r1.2.2)
def C49 : Con where
  X := Int × Int
  Y := Int × (List Int) × (List Int)
  e := 0
  args x := [.dat (.int .i64) x.1, .dat (.int .i64) x.2]
  hin x := []
  F x := f49 x.1 x.2
  ret y := [.raw true [(.osl 0), (.osl 1)], .dat (.int .i64) y.1]
  hout y := [(0, .arr 3 (.int .i64) y.2.1), (1, .arr 24 (.int .i64) y.2.2)]
  nout := 2
theorem C49_vc (x_ : Int) (e : Int) (y : Int × (List Int) × (List Int)) (hF : f49 x_ e = some y) : vc Try.prog tab Try.f49.ntmps 0 (match Try.f49.body with | some c => c | none => .skip) (retK tab C49 Try.f49.results.toList y) (C49.shIn (x_, e)).st := by
  unfold f49 at hF
  refine Or.inl ?_
  refine Or.inl ?_
  refine Or.inl ?_
  refine condI hF (fun hF => ?_) (fun hF => ?_)
  · refine Or.inl ?_
    refine Or.inl ?_
    have hy := someE hF
    subst hy
    refine And.intro rfl (Exists.intro [] (Exists.intro [] (Exists.intro [] (Exists.intro [] (Exists.intro [(0, none), (1, none)] (And.intro rfl (And.intro rfl (And.intro (And.intro rfl trivial) (And.intro rfl (And.intro rfl trivial))))))))))
  · refine Or.inl ?_
    obtain ⟨r1, hr1, hF⟩ := bindE hF
    refine Or.inl (And.intro f23_in (callV0 (callI C23 ([], x_) r1 [] false C23_holds hr1 rfl rfl ?_)))
    refine (And.intro rfl (And.intro rfl (And.intro (fun h => nomatch h) (And.intro rfl (And.intro rfl (And.intro trivial (And.intro trivial ?_)))))))
    refine Or.inl ?_
    have hy := someE hF
    subst hy
    refine And.intro rfl (Exists.intro [] (Exists.intro [] (Exists.intro [] (Exists.intro [] (Exists.intro [(0, some 1), (1, some 2)] (And.intro rfl (And.intro rfl (And.intro (And.intro rfl trivial) (And.intro rfl (And.intro rfl trivial))))))))))
theorem C49_holds : C49.Holds Try.prog 49 := holds_of_vc tab_ok mixed (fn := Try.f49) (by kernel_rfl) rfl C49 (fun x y hF => C49_vc x.1 x.2 y hF)
theorem f49_in : ∃ fn, Try.prog.funcs[49]? = some fn ∧ fn.body.isSome = true ∧ (fn.name == "runtime.NumGoroutine") = false := ⟨Try.f49, by kernel_rfl, by kernel_rfl, by kernel_rfl⟩
end Go.Proofs
namespace Go.Proofs
open Go.AM
-- carousel/wide.Cmp
def f86_j1 (a : Int × Int) (b : Int × Int) : Option Bool :=
  bif (decide (a.1 < b.1)) then
    some true
  else
    bif (a.1 == b.1) then
      some (decide (a.2 < b.2))
    else
      some false
def f86 (a : Int × Int) (b : Int × Int) : Option Int :=
  bindF (f86_j1 a b) fun z1 =>
  bif z1 then
    some (-1 : Int)
  else
    bif (a.1 == b.1 && a.2 == b.2) then
      some (0 : Int)
    else
      some (1 : Int)
def C86 : Con where
  X := (Int × Int) × (Int × Int)
  Y := Int
  e := 0
  args x := [.dat (.p (.int .i64) (.int .u64)) x.1, .dat (.p (.int .i64) (.int .u64)) x.2]
  hin x := []
  F x := f86 x.1 x.2
  ret y := [.dat (.int .i64) y]
  hout y := []
  nout := 0
theorem C86_vc (a : Int × Int) (b : Int × Int) (y : Int) (hF : f86 a b = some y) : vc Try.prog tab Try.f86.ntmps 0 (match Try.f86.body with | some c => c | none => .skip) (retK tab C86 Try.f86.results.toList y) (C86.shIn (a, b)).st := by
  unfold f86 at hF
  refine Or.inl ?_
  refine Or.inl ?_
  obtain ⟨z1, hz1, hF⟩ := bindE hF
  refine Or.inr ⟨[(0, ⟨[(2, .raw false [(.ptr 0 0)]), (3, .raw false [(.ptr 1 0)]), (5, .dat .bool z1)], [(0, .cells [(.d (.int .i64) a.1), (.d (.int .u64) a.2)]), (1, .cells [(.d (.int .i64) b.1), (.d (.int .u64) b.2)])], 2⟩)], ?_, ?_⟩
  · have hF := hz1
    clear hz1
    unfold f86_j1 at hF
    refine condN hF (fun hF => ?_) (fun hF => ?_)
    · refine gdYF ?_
      refine gdYF ?_
      refine gdYF ?_
      refine gdYF ?_
      refine gdYF ?_
      refine condI hF (fun hF => ?_) (fun hF => ?_)
      · refine gdYT ?_
        refine gdYT ?_
        refine gdYT ?_
        refine gdYT ?_
        refine gdYF ?_
        refine condT ?_
        refine condF ?_
        have hz := someE hF
        subst hz
        refine Exists.intro [] (Exists.intro [] (Exists.intro [] (Exists.intro [] (Exists.intro [(0, some 0), (1, some 1)] (And.intro rfl (And.intro rfl (And.intro (And.intro rfl (And.intro rfl trivial)) (And.intro rfl (And.intro rfl trivial)))))))))
      · refine gdNT ?_
        refine gdNT ?_
        refine gdNT ?_
        refine gdNT ?_
        refine gdYF ?_
        refine condF ?_
        refine condF ?_
        have hz := someE hF
        subst hz
        refine Exists.intro [] (Exists.intro [] (Exists.intro [] (Exists.intro [] (Exists.intro [(0, some 0), (1, some 1)] (And.intro rfl (And.intro rfl (And.intro (And.intro rfl (And.intro rfl trivial)) (And.intro rfl (And.intro rfl trivial)))))))))
    · refine gdNF ?_
      refine gdNF ?_
      refine gdNF ?_
      refine gdNF ?_
      refine gdNF ?_
      refine gdNF ?_
      refine condT ?_
      have hz := someE hF
      subst hz
      refine Exists.intro [] (Exists.intro [] (Exists.intro [] (Exists.intro [] (Exists.intro [(0, some 0), (1, some 1)] (And.intro rfl (And.intro rfl (And.intro (And.intro rfl (And.intro rfl trivial)) (And.intro rfl (And.intro rfl trivial)))))))))
  · refine And.intro ?_ trivial
    refine condI hF (fun hF => ?_) (fun hF => ?_)
    · refine Or.inl ?_
      have hy := someE hF
      subst hy
      refine And.intro rfl (Exists.intro [] (Exists.intro [] (Exists.intro [] (Exists.intro [] (Exists.intro [] (And.intro rfl (And.intro rfl (And.intro trivial trivial))))))))
    · refine Or.inl ?_
      refine And.intro ⟨by kernel_rfl, by kernel_rfl, by decide, by decide⟩ ?_
      refine condI hF (fun hF => ?_) (fun hF => ?_)
      · refine Or.inl ?_
        have hy := someE hF
        subst hy
        refine And.intro rfl (Exists.intro [] (Exists.intro [] (Exists.intro [] (Exists.intro [] (Exists.intro [] (And.intro rfl (And.intro rfl (And.intro trivial trivial))))))))
      · refine Or.inl ?_
        have hy := someE hF
        subst hy
        refine And.intro rfl (Exists.intro [] (Exists.intro [] (Exists.intro [] (Exists.intro [] (Exists.intro [] (And.intro rfl (And.intro rfl (And.intro trivial trivial))))))))
theorem C86_holds : C86.Holds Try.prog 86 := holds_of_vc tab_ok mixed (fn := Try.f86) (by kernel_rfl) rfl C86 (fun x y hF => C86_vc x.1 x.2 y hF)
theorem f86_in : ∃ fn, Try.prog.funcs[86]? = some fn ∧ fn.body.isSome = true ∧ (fn.name == "runtime.NumGoroutine") = false := ⟨Try.f86, by kernel_rfl, by kernel_rfl, by kernel_rfl⟩
end Go.Proofs
namespace Go.Proofs
open Go.AM
-- math/bits.Len64
def f100_s1 : ByteArray := ⟨⟨[0, 1, 2, 2, 3, 3, 3, 3, 4, 4, 4, 4, 4, 4, 4, 4, 5, 5, 5, 5, 5, 5, 5, 5, 5, 5, 5, 5, 5, 5, 5, 5, 6, 6, 6, 6, 6, 6, 6, 6, 6, 6, 6, 6, 6, 6, 6, 6, 6, 6, 6, 6, 6, 6, 6, 6, 6, 6, 6, 6, 6, 6, 6, 6, 7, 7, 7, 7, 7, 7, 7, 7, 7, 7, 7, 7, 7, 7, 7, 7, 7, 7, 7, 7, 7, 7, 7, 7, 7, 7, 7, 7, 7, 7, 7, 7, 7, 7, 7, 7, 7, 7, 7, 7, 7, 7, 7, 7, 7, 7, 7, 7, 7, 7, 7, 7, 7, 7, 7, 7, 7, 7, 7, 7, 7, 7, 7, 7, 8, 8, 8, 8, 8, 8, 8, 8, 8, 8, 8, 8, 8, 8, 8, 8, 8, 8, 8, 8, 8, 8, 8, 8, 8, 8, 8, 8, 8, 8, 8, 8, 8, 8, 8, 8, 8, 8, 8, 8, 8, 8, 8, 8, 8, 8, 8, 8, 8, 8, 8, 8, 8, 8, 8, 8, 8, 8, 8, 8, 8, 8, 8, 8, 8, 8, 8, 8, 8, 8, 8, 8, 8, 8, 8, 8, 8, 8, 8, 8, 8, 8, 8, 8, 8, 8, 8, 8, 8, 8, 8, 8, 8, 8, 8, 8, 8, 8, 8, 8, 8, 8, 8, 8, 8, 8, 8, 8, 8, 8, 8, 8, 8, 8, 8, 8, 8, 8, 8, 8, 8, 8, 8, 8, 8, 8, 8, 8]⟩⟩
def f100_j1 (x_ : Int) : Option (Int × Int) :=
  bif (decide (x_ ≥ (4294967296 : Int))) then
    some ((Int.fdiv x_ (2 ^ min (Int.toNat (32 : Int)) (IntKind.bits IntKind.u64))), (32 : Int))
  else
    some (x_, (0 : Int))
def f100_j2 (z1 : Int × Int) : Option (Int × Int) :=
  bif (decide (z1.1 ≥ (65536 : Int))) then
    some ((Int.fdiv z1.1 (2 ^ min (Int.toNat (16 : Int)) (IntKind.bits IntKind.u64))), (IntKind.i64.wrap (z1.2 + (16 : Int))))
  else
    some (z1.1, z1.2)
def f100_j3 (z2 : Int × Int) : Option (Int × Int) :=
  bif (decide (z2.1 ≥ (256 : Int))) then
    some ((Int.fdiv z2.1 (2 ^ min (Int.toNat (8 : Int)) (IntKind.bits IntKind.u64))), (IntKind.i64.wrap (z2.2 + (8 : Int))))
  else
    some (z2.1, z2.2)
def f100 (x_ : Int) : Option Int :=
  bindF (f100_j1 x_) fun z1 =>
  bindF (f100_j2 z1) fun z2 =>
  bindF (f100_j3 z2) fun z3 =>
  guardF (0 ≤ (IntKind.u8.wrap z3.1) ∧ (IntKind.u8.wrap z3.1) < (ByteArray.size f100_s1 : Int)) <|
  some (IntKind.i64.wrap (z3.2 + (IntKind.i64.wrap (bt f100_s1 (IntKind.u8.wrap z3.1)))))
def C100 : Con where
  X := Int
  Y := Int
  e := 0
  args x := [.dat (.int .u64) x]
  hin x := []
  F x := f100 x
  ret y := [.dat (.int .i64) y]
  hout y := []
  nout := 0
theorem C100_vc (x_ : Int) (y : Int) (hF : f100 x_ = some y) : vc Try.prog tab Try.f100.ntmps 0 (match Try.f100.body with | some c => c | none => .skip) (retK tab C100 Try.f100.results.toList y) (C100.shIn x_).st := by
  unfold f100 at hF
  refine Or.inl ?_
  obtain ⟨z1, hz1, hF⟩ := bindE hF
  refine Or.inr ⟨[(0, ⟨[(0, .dat (.int .u64) z1.1), (2, .dat (.int .i64) z1.2)], [], 0⟩)], ?_, ?_⟩
  · have hF := hz1
    clear hz1
    unfold f100_j1 at hF
    refine Or.inl ?_
    refine condI hF (fun hF => ?_) (fun hF => ?_)
    · refine Or.inl ?_
      refine And.intro (by decide) ?_
      have hz := someE hF
      subst hz
      refine Exists.intro [] (Exists.intro [] (Exists.intro [] (Exists.intro [] (Exists.intro [] (And.intro rfl (And.intro rfl (And.intro rfl (And.intro trivial trivial))))))))
    · have hz := someE hF
      subst hz
      refine Exists.intro [] (Exists.intro [] (Exists.intro [] (Exists.intro [] (Exists.intro [] (And.intro rfl (And.intro rfl (And.intro rfl (And.intro trivial trivial))))))))
  · refine And.intro ?_ trivial
    obtain ⟨z2, hz2, hF⟩ := bindE hF
    refine Or.inr ⟨[(0, ⟨[(0, .dat (.int .u64) z2.1), (2, .dat (.int .i64) z2.2)], [], 0⟩)], ?_, ?_⟩
    · have hF := hz2
      clear hz2
      unfold f100_j2 at hF
      refine Or.inl ?_
      refine condI hF (fun hF => ?_) (fun hF => ?_)
      · refine Or.inl ?_
        refine And.intro (by decide) ?_
        have hz := someE hF
        subst hz
        refine Exists.intro [] (Exists.intro [] (Exists.intro [] (Exists.intro [] (Exists.intro [] (And.intro rfl (And.intro rfl (And.intro rfl (And.intro trivial trivial))))))))
      · have hz := someE hF
        subst hz
        refine Exists.intro [] (Exists.intro [] (Exists.intro [] (Exists.intro [] (Exists.intro [] (And.intro rfl (And.intro rfl (And.intro rfl (And.intro trivial trivial))))))))
    · refine And.intro ?_ trivial
      obtain ⟨z3, hz3, hF⟩ := bindE hF
      refine Or.inr ⟨[(0, ⟨[(0, .dat (.int .u64) z3.1), (2, .dat (.int .i64) z3.2)], [], 0⟩)], ?_, ?_⟩
      · have hF := hz3
        clear hz3
        unfold f100_j3 at hF
        refine Or.inl ?_
        refine condI hF (fun hF => ?_) (fun hF => ?_)
        · refine Or.inl ?_
          refine And.intro (by decide) ?_
          have hz := someE hF
          subst hz
          refine Exists.intro [] (Exists.intro [] (Exists.intro [] (Exists.intro [] (Exists.intro [] (And.intro rfl (And.intro rfl (And.intro rfl (And.intro trivial trivial))))))))
        · have hz := someE hF
          subst hz
          refine Exists.intro [] (Exists.intro [] (Exists.intro [] (Exists.intro [] (Exists.intro [] (And.intro rfl (And.intro rfl (And.intro rfl (And.intro trivial trivial))))))))
      · refine And.intro ?_ trivial
        refine Or.inl ?_
        refine guardI hF (fun hF => ?_)
        have hy := someE hF
        subst hy
        refine And.intro rfl (Exists.intro [] (Exists.intro [] (Exists.intro [] (Exists.intro [] (Exists.intro [] (And.intro rfl (And.intro rfl (And.intro trivial trivial))))))))
theorem C100_holds : C100.Holds Try.prog 100 := holds_of_vc tab_ok mixed (fn := Try.f100) (by kernel_rfl) rfl C100 (fun x y hF => C100_vc x y hF)
theorem f100_in : ∃ fn, Try.prog.funcs[100]? = some fn ∧ fn.body.isSome = true ∧ (fn.name == "runtime.NumGoroutine") = false := ⟨Try.f100, by kernel_rfl, by kernel_rfl, by kernel_rfl⟩
end Go.Proofs
namespace Go.Proofs
open Go.AM
-- math/bits.LeadingZeros64
def f97 (x_ : Int) : Option Int :=
  bindF (f100 x_) fun r1 =>
  some (IntKind.i64.wrap ((64 : Int) - r1))
def C97 : Con where
  X := Int
  Y := Int
  e := 0
  args x := [.dat (.int .u64) x]
  hin x := []
  F x := f97 x
  ret y := [.dat (.int .i64) y]
  hout y := []
  nout := 0
theorem C97_vc (x_ : Int) (y : Int) (hF : f97 x_ = some y) : vc Try.prog tab Try.f97.ntmps 0 (match Try.f97.body with | some c => c | none => .skip) (retK tab C97 Try.f97.results.toList y) (C97.shIn x_).st := by
  unfold f97 at hF
  refine Or.inl ?_
  refine Or.inl ?_
  obtain ⟨r1, hr1, hF⟩ := bindE hF
  refine Or.inl (And.intro f100_in (callV0 (callI C100 x_ r1 [] false C100_holds hr1 rfl rfl ?_)))
  refine (And.intro rfl (And.intro (fun h => nomatch h) (And.intro rfl (And.intro rfl (And.intro trivial (And.intro trivial ?_))))))
  have hy := someE hF
  subst hy
  refine And.intro rfl (Exists.intro [] (Exists.intro [] (Exists.intro [] (Exists.intro [] (Exists.intro [] (And.intro rfl (And.intro rfl (And.intro trivial trivial))))))))
theorem C97_holds : C97.Holds Try.prog 97 := holds_of_vc tab_ok mixed (fn := Try.f97) (by kernel_rfl) rfl C97 (fun x y hF => C97_vc x y hF)
theorem f97_in : ∃ fn, Try.prog.funcs[97]? = some fn ∧ fn.body.isSome = true ∧ (fn.name == "runtime.NumGoroutine") = false := ⟨Try.f97, by kernel_rfl, by kernel_rfl, by kernel_rfl⟩
end Go.Proofs
