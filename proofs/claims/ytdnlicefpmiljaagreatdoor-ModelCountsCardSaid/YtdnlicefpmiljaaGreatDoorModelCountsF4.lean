import Derived.Test.YtdnlicefpmiljaaGreatDoorModelCountsF3
set_option linter.unusedVariables false
set_option maxRecDepth 100000
set_option maxHeartbeats 8000000
namespace Go.Proofs
open Go.AM
-- carousel/conv.Row
def f142_j4 (a : (List Int) × (List Int)) (k : (List Int) × (List Int)) (step : Int) : Option Bool :=
  bindF (f91 (a.1, a.2)) fun r12 =>
  bif (!r12) then
    some true
  else
    bindF (f91 (k.1, k.2)) fun r13 =>
    bif (!r13) then
      some true
    else
      bindF (f173 step) fun r14 =>
      some (!r14)
def f142_j5 (a : (List Int) × (List Int)) (k : (List Int) × (List Int)) : Option Bool :=
  bif ((List.length a.1 : Int) != (2 : Int)) then
    some true
  else
    bif ((List.length k.1 : Int) != (3 : Int)) then
      some true
    else
      guardF (0 ≤ (1 : Int) ∧ (1 : Int) < (List.length k.1 : Int)) <|
      guardF (0 ≤ (0 : Int) ∧ (0 : Int) < (List.length a.1 : Int)) <|
      bif ((rd (0 : Int) k.1 (1 : Int)) != (rd (0 : Int) a.1 (0 : Int))) then
        some true
      else
        guardF (0 ≤ (2 : Int) ∧ (2 : Int) < (List.length k.1 : Int)) <|
        guardF (0 ≤ (1 : Int) ∧ (1 : Int) < (List.length a.1 : Int)) <|
        some (decide ((rd (0 : Int) k.1 (2 : Int)) > (rd (0 : Int) a.1 (1 : Int))))
def f142_j3 (a : (List Int) × (List Int)) (k : (List Int) × (List Int)) (step : Int) : Option (Sum Unit Int) :=
  bindF (f142_j4 a k step) fun z11 =>
  bif z11 then
    some (Sum.inr (1 : Int))
  else
    bindF (f142_j5 a k) fun z15 =>
    bif z15 then
      some (Sum.inr (4 : Int))
    else
      some (Sum.inl ())
def f142_l18 (a : (List Int) × (List Int)) (k : (List Int) × (List Int)) (step : Int) (q5_14 : Int) (v102 : Int) (v112 : Int) (go : (Int × Int × Int × Int) → Option (Int × Int × Int)) (v116 : Int) (c4_0_2 : Int) (c4_1_2 : Int) (c4_2_2 : Int) : Option (Int × Int × Int) :=
  bif (decide (v116 < (rd (0 : Int) k.1 (2 : Int)))) then
    guardF (0 ≤ (IntKind.i64.wrap ((IntKind.i64.wrap ((IntKind.i64.wrap (v112 * (rd (0 : Int) a.1 (1 : Int)))) + (IntKind.i64.wrap ((Int.tmod v102 q5_14) * step)))) + v116)) ∧ (IntKind.i64.wrap ((IntKind.i64.wrap ((IntKind.i64.wrap (v112 * (rd (0 : Int) a.1 (1 : Int)))) + (IntKind.i64.wrap ((Int.tmod v102 q5_14) * step)))) + v116)) < (List.length a.2 : Int)) <|
    guardF (0 ≤ (IntKind.i64.wrap ((IntKind.i64.wrap ((IntKind.i64.wrap ((IntKind.i64.wrap ((IntKind.i64.wrap (Int.tdiv v102 q5_14)) * (rd (0 : Int) a.1 (0 : Int)))) + v112)) * (rd (0 : Int) k.1 (2 : Int)))) + v116)) ∧ (IntKind.i64.wrap ((IntKind.i64.wrap ((IntKind.i64.wrap ((IntKind.i64.wrap ((IntKind.i64.wrap (Int.tdiv v102 q5_14)) * (rd (0 : Int) a.1 (0 : Int)))) + v112)) * (rd (0 : Int) k.1 (2 : Int)))) + v116)) < (List.length k.2 : Int)) <|
    bindF (f176 c4_0_2 c4_1_2 c4_2_2 (rd (0 : Int) a.2 (IntKind.i64.wrap ((IntKind.i64.wrap ((IntKind.i64.wrap (v112 * (rd (0 : Int) a.1 (1 : Int)))) + (IntKind.i64.wrap ((Int.tmod v102 q5_14) * step)))) + v116))) (rd (0 : Int) k.2 (IntKind.i64.wrap ((IntKind.i64.wrap ((IntKind.i64.wrap ((IntKind.i64.wrap ((IntKind.i64.wrap (Int.tdiv v102 q5_14)) * (rd (0 : Int) a.1 (0 : Int)))) + v112)) * (rd (0 : Int) k.1 (2 : Int)))) + v116)))) fun q21_26 =>
    go ((IntKind.i64.wrap (v116 + (1 : Int))), q21_26.1, q21_26.2.1, q21_26.2.2)
  else
    some (c4_0_2, c4_1_2, c4_2_2)
def f142_l17 (a : (List Int) × (List Int)) (k : (List Int) × (List Int)) (step : Int) (q5_14 : Int) (v102 : Int) (go : (Int × Int × Int × Int) → Option (Int × Int × Int)) (v112 : Int) (c4_0 : Int) (c4_1 : Int) (c4_2 : Int) : Option (Int × Int × Int) :=
  bif (decide (v112 < (rd (0 : Int) a.1 (0 : Int)))) then
    bindF (loopF (fun go x => f142_l18 a k step q5_14 v102 v112 go x.1 x.2.1 x.2.2.1 x.2.2.2) fuelN ((0 : Int), c4_0, c4_1, c4_2)) fun z29 =>
    go ((IntKind.i64.wrap (v112 + (1 : Int))), z29.1, z29.2.1, z29.2.2)
  else
    some (c4_0, c4_1, c4_2)
def f142_l14 (a : (List Int) × (List Int)) (k : (List Int) × (List Int)) (step : Int) (q5_14 : Int) (r16 : Int × (List Int) × (List Int)) (go : (Int × (List Int)) → Option (List Int)) (v102 : Int) (l5 : List Int) : Option (List Int) :=
  bif (decide (v102 < (List.length r16.2.2 : Int))) then
    guardF (q5_14 ≠ 0) <|
    guardF (q5_14 ≠ 0) <|
    bindF (loopF (fun go x => f142_l17 a k step q5_14 v102 go x.1 x.2.1 x.2.2.1 x.2.2.2) fuelN ((0 : Int), (0 : Int), (0 : Int), (0 : Int))) fun z28 =>
    bindF (f177 z28.1 z28.2.1 z28.2.2 (32 : Int)) fun q24_3 =>
    guardF (0 ≤ v102 ∧ v102 < (List.length l5 : Int)) <|
    go ((IntKind.i64.wrap (v102 + (1 : Int))), (List.set l5 (Int.toNat v102) q24_3.1))
  else
    some l5
def f142 (a : (List Int) × (List Int)) (k : (List Int) × (List Int)) (step : Int) : Option (Int × (List Int) × (List Int)) :=
  bindF (f142_j3 a k step) fun z8 =>
  sumF z8 (fun z8a =>
    guardF (0 ≤ (0 : Int) ∧ (0 : Int) < (List.length a.1 : Int)) <|
    guardF (0 ≤ (1 : Int) ∧ (1 : Int) < (List.length a.1 : Int)) <|
    guardF (0 ≤ (2 : Int) ∧ (2 : Int) < (List.length k.1 : Int)) <|
    bindF (f174 (rd (0 : Int) a.1 (1 : Int)) (rd (0 : Int) k.1 (2 : Int)) step) fun q5_14 =>
    guardF (0 ≤ (0 : Int) ∧ (0 : Int) < (List.length k.1 : Int)) <|
    bindF (f175 ([(rd (0 : Int) k.1 (0 : Int)), q5_14])) fun r16 =>
    bif (r16.1 != (0 : Int)) then
      some (r16.1, [], [])
    else
      bindF (loopF (fun go x => f142_l14 a k step q5_14 r16 go x.1 x.2) fuelN ((0 : Int), r16.2.2)) fun z25 =>
      some ((0 : Int), r16.2.1, z25)) (fun z8b =>
    some (z8b, [], []))
def C142 : Con where
  X := ((List Int) × (List Int)) × ((List Int) × (List Int)) × Int
  Y := Int × (List Int) × (List Int)
  e := 0
  args x := [.dat (.p (.sl (.int .i64)) (.sl (.int .i64))) x.1, .dat (.p (.sl (.int .i64)) (.sl (.int .i64))) x.2.1, .dat (.int .i64) x.2.2]
  hin x := []
  F x := f142 x.1 x.2.1 x.2.2
  ret y := [.raw true [(.osl 0), (.osl 1)], .dat (.int .i64) y.1]
  hout y := [(0, .arr 3 (.int .i64) y.2.1), (1, .arr 57 (.int .i64) y.2.2)]
  nout := 2
theorem C142_vc (a : (List Int) × (List Int)) (k : (List Int) × (List Int)) (step : Int) (y : Int × (List Int) × (List Int)) (hF : f142 a k step = some y) : vc Tryz.prog tab Tryz.f142.ntmps 0 (match Tryz.f142.body with | some c => c | none => .skip) (retK tab C142 Tryz.f142.results.toList y) (C142.shIn (a, k, step)).st := by
  unfold f142 at hF
  refine Or.inl ?_
  obtain ⟨z8, hz8, hF⟩ := bindE hF
  refine Or.inr ⟨Sum.elim (fun z8a => [(0, ⟨[(2, .dat (.int .i64) step), (3, .raw false [(.ptr 0 0)]), (4, .raw false [(.ptr 1 0)]), (6, .raw false [(.ptr 2 0)])], [(0, .cells [(.d (.sl (.int .i64)) a.1), (.d (.sl (.int .i64)) a.2)]), (1, .cells [(.d (.sl (.int .i64)) k.1), (.d (.sl (.int .i64)) k.2)]), (2, .cells [(.c (.slice none 0 0)), (.c (.slice none 0 0))])], 3⟩)]) (fun z8b => [(1, ⟨[(6, .raw false [(.ptr 0 0)]), (7, .dat (.int .i64) z8b)], [(0, .cells [(.c (.slice none 0 0)), (.c (.slice none 0 0))])], 1⟩)]) z8, ?_, ?_⟩
  · have hF := hz8
    clear hz8
    unfold f142_j3 at hF
    obtain ⟨z11, hz11, hF⟩ := bindE hF
    refine Or.inr ⟨[(0, ⟨[(2, .dat (.int .i64) step), (3, .raw false [(.ptr 0 0)]), (4, .raw false [(.ptr 1 0)]), (6, .raw false [(.ptr 2 0)]), (20, .dat .bool z11)], [(0, .cells [(.d (.sl (.int .i64)) a.1), (.d (.sl (.int .i64)) a.2)]), (1, .cells [(.d (.sl (.int .i64)) k.1), (.d (.sl (.int .i64)) k.2)]), (2, .cells [(.c (.slice none 0 0)), (.c (.slice none 0 0))])], 3⟩)], ?_, ?_⟩
    · have hF := hz11
      clear hz11
      unfold f142_j4 at hF
      obtain ⟨r12, hr12, hF⟩ := bindE hF
      refine Or.inl (And.intro f91_in (callV0 (callI C91 (a.1, a.2) r12 [] false C91_holds hr12 rfl rfl ?_)))
      refine (And.intro rfl (And.intro rfl (And.intro (fun h => nomatch h) (And.intro rfl (And.intro rfl (And.intro trivial (And.intro trivial ?_)))))))
      refine condN hF (fun hF => ?_) (fun hF => ?_)
      · refine gdYF ?_
        obtain ⟨r13, hr13, hF⟩ := bindE hF
        refine Or.inl (And.intro f91_in (callV0 (callI C91 (k.1, k.2) r13 [] false C91_holds hr13 rfl rfl ?_)))
        refine (And.intro rfl (And.intro rfl (And.intro (fun h => nomatch h) (And.intro rfl (And.intro rfl (And.intro trivial (And.intro trivial ?_)))))))
        refine gdYF ?_
        refine condF ?_
        refine condN hF (fun hF => ?_) (fun hF => ?_)
        · refine gdYF ?_
          obtain ⟨r14, hr14, hF⟩ := bindE hF
          refine Or.inl (And.intro f173_in (callV0 (callI C173 step r14 [] false C173_holds hr14 rfl rfl ?_)))
          refine (And.intro rfl (And.intro (fun h => nomatch h) (And.intro rfl (And.intro rfl (And.intro trivial (And.intro trivial ?_))))))
          refine gdYF ?_
          refine condF ?_
          have hz := someE hF
          subst hz
          refine Exists.intro [] (Exists.intro [] (Exists.intro [] (Exists.intro [] (Exists.intro [(0, some 0), (1, some 1), (2, some 2)] (And.intro rfl (And.intro rfl (And.intro rfl (And.intro (And.intro rfl (And.intro rfl (And.intro rfl trivial))) (And.intro rfl (And.intro rfl (And.intro rfl trivial)))))))))))
        · refine gdNF ?_
          refine gdNF ?_
          refine condT ?_
          have hz := someE hF
          subst hz
          refine Exists.intro [] (Exists.intro [] (Exists.intro [] (Exists.intro [] (Exists.intro [(0, some 0), (1, some 1), (2, some 2)] (And.intro rfl (And.intro rfl (And.intro rfl (And.intro (And.intro rfl (And.intro rfl (And.intro rfl trivial))) (And.intro rfl (And.intro rfl (And.intro rfl trivial)))))))))))
      · refine gdNF ?_
        refine gdNF ?_
        refine condT ?_
        refine gdNF ?_
        refine gdNF ?_
        refine gdNF ?_
        refine condT ?_
        have hz := someE hF
        subst hz
        refine Exists.intro [] (Exists.intro [] (Exists.intro [] (Exists.intro [] (Exists.intro [(0, some 0), (1, some 1), (2, some 2)] (And.intro rfl (And.intro rfl (And.intro rfl (And.intro (And.intro rfl (And.intro rfl (And.intro rfl trivial))) (And.intro rfl (And.intro rfl (And.intro rfl trivial)))))))))))
    · refine And.intro ?_ trivial
      refine condI hF (fun hF => ?_) (fun hF => ?_)
      · refine Or.inl ?_
        refine Or.inl ?_
        have hz := someE hF
        subst hz
        refine Exists.intro [] (Exists.intro [] (Exists.intro [] (Exists.intro [] (Exists.intro [(0, some 2)] (And.intro rfl (And.intro rfl (And.intro (And.intro rfl trivial) (And.intro rfl trivial))))))))
      · obtain ⟨z15, hz15, hF⟩ := bindE hF
        refine Or.inr ⟨[(0, ⟨[(2, .dat (.int .i64) step), (3, .raw false [(.ptr 0 0)]), (4, .raw false [(.ptr 1 0)]), (6, .raw false [(.ptr 2 0)]), (35, .dat .bool z15)], [(0, .cells [(.d (.sl (.int .i64)) a.1), (.d (.sl (.int .i64)) a.2)]), (1, .cells [(.d (.sl (.int .i64)) k.1), (.d (.sl (.int .i64)) k.2)]), (2, .cells [(.c (.slice none 0 0)), (.c (.slice none 0 0))])], 3⟩)], ?_, ?_⟩
        · have hF := hz15
          clear hz15
          unfold f142_j5 at hF
          refine Exists.intro (.take 0 (.take 1 (.take 2 (.take 3 (.take 4 (.take 5 (.take 6 (.take 7 (.take 8 (.take 9 (.take 10 (.take 11 (.take 12 (.take 13 (.take 14 (.take 15 (.take 16 (.take 17 (.take 18 (.take 19 (.take 20 (.take 21 (.take 22 (.take 23 (.take 24 (.take 25 (.take 26 (.take 27 (.take 28 (.take 29 (.take 30 (.take 31 (.take 32 .done))))))))))))))))))))))))))))))))) (Exists.intro [] (Exists.intro [] (And.intro rfl ?_)))
          refine condN hF (fun hF => ?_) (fun hF => ?_)
          · refine gdYF ?_
            refine gdYF ?_
            refine gdYF ?_
            refine condF ?_
            refine condN hF (fun hF => ?_) (fun hF => ?_)
            · refine gdYF ?_
              refine gdYF ?_
              refine guardI hF (fun hF => ?_)
              refine gdYF ?_
              refine gdYF ?_
              refine gdYF ?_
              refine gdYF ?_
              refine guardI hF (fun hF => ?_)
              refine gdYF ?_
              refine gdYF ?_
              refine condF ?_
              refine condN hF (fun hF => ?_) (fun hF => ?_)
              · refine gdYF ?_
                refine gdYF ?_
                refine guardI hF (fun hF => ?_)
                refine gdYF ?_
                refine gdYF ?_
                refine gdYF ?_
                refine gdYF ?_
                refine guardI hF (fun hF => ?_)
                refine gdYF ?_
                refine gdYF ?_
                refine condF ?_
                have hz := someE hF
                subst hz
                refine Exists.intro [] (Exists.intro [] (Exists.intro [] (Exists.intro [] (Exists.intro [(0, some 0), (1, some 1), (2, some 2)] (And.intro rfl (And.intro rfl (And.intro rfl (And.intro (And.intro rfl (And.intro rfl (And.intro rfl trivial))) (And.intro rfl (And.intro rfl (And.intro rfl trivial)))))))))))
              · refine gdNF ?_
                refine gdNF ?_
                refine gdNF ?_
                refine gdNF ?_
                refine gdNF ?_
                refine gdNF ?_
                refine gdNF ?_
                refine gdNF ?_
                refine condT ?_
                have hz := someE hF
                subst hz
                refine Exists.intro [] (Exists.intro [] (Exists.intro [] (Exists.intro [] (Exists.intro [(0, some 0), (1, some 1), (2, some 2)] (And.intro rfl (And.intro rfl (And.intro rfl (And.intro (And.intro rfl (And.intro rfl (And.intro rfl trivial))) (And.intro rfl (And.intro rfl (And.intro rfl trivial)))))))))))
            · refine gdNF ?_
              refine gdNF ?_
              refine gdNF ?_
              refine gdNF ?_
              refine gdNF ?_
              refine gdNF ?_
              refine gdNF ?_
              refine gdNF ?_
              refine condT ?_
              refine gdNF ?_
              refine gdNF ?_
              refine gdNF ?_
              refine gdNF ?_
              refine gdNF ?_
              refine gdNF ?_
              refine gdNF ?_
              refine gdNF ?_
              refine gdNF ?_
              refine condT ?_
              have hz := someE hF
              subst hz
              refine Exists.intro [] (Exists.intro [] (Exists.intro [] (Exists.intro [] (Exists.intro [(0, some 0), (1, some 1), (2, some 2)] (And.intro rfl (And.intro rfl (And.intro rfl (And.intro (And.intro rfl (And.intro rfl (And.intro rfl trivial))) (And.intro rfl (And.intro rfl (And.intro rfl trivial)))))))))))
          · refine gdNF ?_
            refine gdNF ?_
            refine gdNF ?_
            refine condT ?_
            refine gdNF ?_
            refine gdNF ?_
            refine gdNF ?_
            refine gdNF ?_
            refine gdNF ?_
            refine gdNF ?_
            refine gdNF ?_
            refine gdNF ?_
            refine gdNF ?_
            refine condT ?_
            refine gdNF ?_
            refine gdNF ?_
            refine gdNF ?_
            refine gdNF ?_
            refine gdNF ?_
            refine gdNF ?_
            refine gdNF ?_
            refine gdNF ?_
            refine gdNF ?_
            refine condT ?_
            have hz := someE hF
            subst hz
            refine Exists.intro [] (Exists.intro [] (Exists.intro [] (Exists.intro [] (Exists.intro [(0, some 0), (1, some 1), (2, some 2)] (And.intro rfl (And.intro rfl (And.intro rfl (And.intro (And.intro rfl (And.intro rfl (And.intro rfl trivial))) (And.intro rfl (And.intro rfl (And.intro rfl trivial)))))))))))
        · refine And.intro ?_ trivial
          refine condI hF (fun hF => ?_) (fun hF => ?_)
          · refine Or.inl ?_
            refine Or.inl ?_
            have hz := someE hF
            subst hz
            refine Exists.intro [] (Exists.intro [] (Exists.intro [] (Exists.intro [] (Exists.intro [(0, some 2)] (And.intro rfl (And.intro rfl (And.intro (And.intro rfl trivial) (And.intro rfl trivial))))))))
          · have hz := someE hF
            subst hz
            refine Exists.intro [] (Exists.intro [] (Exists.intro [] (Exists.intro [] (Exists.intro [(0, some 0), (1, some 1), (2, some 2)] (And.intro rfl (And.intro rfl (And.intro (And.intro rfl (And.intro rfl (And.intro rfl trivial))) (And.intro rfl (And.intro rfl (And.intro rfl trivial))))))))))
  · rcases z8 with z8a | z8b
    · dsimp only [sumF] at hF
      refine And.intro ?_ trivial
      refine Or.inl ?_
      refine Exists.intro (.take 0 (.take 1 (.take 2 (.take 3 (.take 4 (.take 5 (.take 6 (.take 7 (.take 8 (.take 9 (.take 10 (.take 11 (.take 12 (.take 13 (.take 14 .done))))))))))))))) (Exists.intro [] (Exists.intro [] (And.intro rfl ?_)))
      refine guardI hF (fun hF => ?_)
      refine guardI hF (fun hF => ?_)
      refine guardI hF (fun hF => ?_)
      refine Or.inl ?_
      obtain ⟨q5_14, hq5_14, hF⟩ := bindE hF
      refine Or.inl (And.intro f174_in (callV0 (callI C174 ((rd (0 : Int) a.1 (1 : Int)), (rd (0 : Int) k.1 (2 : Int)), step) q5_14 [] false C174_holds hq5_14 rfl rfl ?_)))
      refine (And.intro rfl (And.intro rfl (And.intro rfl (And.intro (fun h => nomatch h) (And.intro rfl (And.intro rfl (And.intro trivial (And.intro trivial ?_))))))))
      refine Or.inl ?_
      refine guardI hF (fun hF => ?_)
      refine Or.inl ?_
      obtain ⟨r16, hr16, hF⟩ := bindE hF
      refine Or.inl (And.intro f175_in (callV0 (callI C175 [(rd (0 : Int) k.1 (0 : Int)), q5_14] r16 [] true C175_holds hr16 rfl rfl ?_)))
      refine (And.intro rfl (And.intro (fun _ => rfl) (And.intro rfl (And.intro rfl (And.intro trivial (And.intro trivial ?_))))))
      refine Or.inl ?_
      refine Or.inl ?_
      refine Or.inl ?_
      refine condI hF (fun hF => ?_) (fun hF => ?_)
      · refine Or.inl ?_
        refine Or.inl ?_
        have hy := someE hF
        subst hy
        refine And.intro rfl (Exists.intro [] (Exists.intro [] (Exists.intro [] (Exists.intro [] (Exists.intro [(0, none), (1, none)] (And.intro rfl (And.intro rfl (And.intro (And.intro rfl trivial) (And.intro rfl (And.intro rfl trivial))))))))))
      · refine Or.inl ?_
        refine Or.inl ?_
        obtain ⟨z25, hz25, hF⟩ := bindE hF
        refine loopI (Int × (List Int)) (List Int) (fun x => ⟨[(2, .dat (.int .i64) step), (3, .raw false [(.ptr 0 0)]), (4, .raw false [(.ptr 1 0)]), (6, .raw false [(.ptr 2 0)]), (8, .dat (.int .i64) (rd (0 : Int) a.1 (0 : Int))), (9, .dat (.int .i64) (rd (0 : Int) a.1 (1 : Int))), (10, .dat (.int .i64) (rd (0 : Int) k.1 (2 : Int))), (11, .dat (.int .i64) q5_14), (12, .raw false [(.ptr 3 0)]), (101, .dat (.int .i64) (List.length r16.2.2 : Int)), (102, .dat (.int .i64) x.1)], [(0, .cells [(.d (.sl (.int .i64)) a.1), (.d (.sl (.int .i64)) a.2)]), (1, .cells [(.d (.sl (.int .i64)) k.1), (.d (.sl (.int .i64)) k.2)]), (2, .cells [(.c (.slice none 0 0)), (.c (.slice none 0 0))]), (3, .cells [(.osl 4), (.osl 5)]), (4, .arr 3 (.int .i64) r16.2.1), (5, .arr 57 (.int .i64) x.2)], 6⟩) (fun z => [(3, ⟨[(6, .raw false [(.ptr 0 0)]), (12, .raw false [(.ptr 1 0)])], [(0, .cells [(.c (.slice none 0 0)), (.c (.slice none 0 0))]), (1, .cells [(.osl 2), (.osl 3)]), (2, .arr 3 (.int .i64) r16.2.1), (3, .arr 57 (.int .i64) z)], 4⟩)]) (loopF (fun go x => f142_l14 a k step q5_14 r16 go x.1 x.2)) fuelN ((0 : Int), r16.2.2) z25 (And.intro hz25 (And.intro (Exists.intro [] (Exists.intro [] (Exists.intro [] (Exists.intro [] (Exists.intro [(0, some 0), (1, some 1), (2, some 2), (3, some 6), (4, some 4), (5, some 5)] (And.intro rfl (And.intro rfl (And.intro rfl (And.intro rfl (And.intro rfl (And.intro rfl (And.intro rfl (And.intro rfl (And.intro (And.intro rfl (And.intro rfl (And.intro rfl (And.intro rfl trivial)))) (And.intro rfl (And.intro rfl (And.intro rfl (And.intro rfl (And.intro rfl (And.intro rfl trivial)))))))))))))))))))) (And.intro (fun _ _ h => loopZ h) (And.intro (fun m => curI (fun v102 => fun l5 z hF => ?_)) ?_))))
        · have hF : f142_l14 a k step q5_14 r16 (loopF (fun go x => f142_l14 a k step q5_14 r16 go x.1 x.2) m) v102 l5 = some z := hF
          unfold f142_l14 at hF
          refine Or.inl ?_
          refine Or.inl ?_
          refine condI hF (fun hF => ?_) (fun hF => ?_)
          · refine Or.inl ?_
            refine Or.inl ?_
            refine Or.inl ?_
            refine Exists.intro (.take 0 (.take 1 (.take 2 (.take 3 (.take 4 (.take 5 (.take 6 (.take 7 .done)))))))) (Exists.intro [] (Exists.intro [] (And.intro rfl ?_)))
            refine guardI hF (fun hF => ?_)
            refine guardI hF (fun hF => ?_)
            refine Or.inl ?_
            refine Or.inl ?_
            refine Or.inl ?_
            obtain ⟨z28, hz28, hF⟩ := bindE hF
            refine loopI (Int × Int × Int × Int) (Int × Int × Int) (fun x => ⟨[(2, .dat (.int .i64) step), (3, .raw false [(.ptr 0 0)]), (4, .raw false [(.ptr 1 0)]), (6, .raw false [(.ptr 2 0)]), (8, .dat (.int .i64) (rd (0 : Int) a.1 (0 : Int))), (9, .dat (.int .i64) (rd (0 : Int) a.1 (1 : Int))), (10, .dat (.int .i64) (rd (0 : Int) k.1 (2 : Int))), (11, .dat (.int .i64) q5_14), (12, .raw false [(.ptr 3 0)]), (14, .dat (.int .i64) v102), (15, .dat (.int .i64) (IntKind.i64.wrap (Int.tdiv v102 q5_14))), (16, .dat (.int .i64) (Int.tmod v102 q5_14)), (17, .raw false [(.ptr 4 0)]), (101, .dat (.int .i64) (List.length r16.2.2 : Int)), (102, .dat (.int .i64) v102), (111, .dat (.int .i64) (rd (0 : Int) a.1 (0 : Int))), (112, .dat (.int .i64) x.1)], [(0, .cells [(.d (.sl (.int .i64)) a.1), (.d (.sl (.int .i64)) a.2)]), (1, .cells [(.d (.sl (.int .i64)) k.1), (.d (.sl (.int .i64)) k.2)]), (2, .cells [(.c (.slice none 0 0)), (.c (.slice none 0 0))]), (3, .cells [(.osl 5), (.osl 6)]), (4, .cells [(.d (.int .i64) x.2.1), (.d (.int .i64) x.2.2.1), (.d (.int .u64) x.2.2.2)]), (5, .arr 3 (.int .i64) r16.2.1), (6, .arr 57 (.int .i64) l5)], 7⟩) (fun z => [(5, ⟨[(2, .dat (.int .i64) step), (3, .raw false [(.ptr 0 0)]), (4, .raw false [(.ptr 1 0)]), (6, .raw false [(.ptr 2 0)]), (8, .dat (.int .i64) (rd (0 : Int) a.1 (0 : Int))), (9, .dat (.int .i64) (rd (0 : Int) a.1 (1 : Int))), (10, .dat (.int .i64) (rd (0 : Int) k.1 (2 : Int))), (11, .dat (.int .i64) q5_14), (12, .raw false [(.ptr 3 0)]), (14, .dat (.int .i64) v102), (17, .raw false [(.ptr 4 0)]), (101, .dat (.int .i64) (List.length r16.2.2 : Int)), (102, .dat (.int .i64) v102)], [(0, .cells [(.d (.sl (.int .i64)) a.1), (.d (.sl (.int .i64)) a.2)]), (1, .cells [(.d (.sl (.int .i64)) k.1), (.d (.sl (.int .i64)) k.2)]), (2, .cells [(.c (.slice none 0 0)), (.c (.slice none 0 0))]), (3, .cells [(.osl 5), (.osl 6)]), (4, .cells [(.d (.int .i64) z.1), (.d (.int .i64) z.2.1), (.d (.int .u64) z.2.2)]), (5, .arr 3 (.int .i64) r16.2.1), (6, .arr 57 (.int .i64) l5)], 7⟩)]) (loopF (fun go x => f142_l17 a k step q5_14 v102 go x.1 x.2.1 x.2.2.1 x.2.2.2)) fuelN ((0 : Int), (0 : Int), (0 : Int), (0 : Int)) z28 (And.intro hz28 (And.intro (Exists.intro [] (Exists.intro [] (Exists.intro [] (Exists.intro [] (Exists.intro [(0, some 0), (1, some 1), (2, some 2), (3, some 3), (4, some 6), (5, some 4), (6, some 5)] (And.intro rfl (And.intro rfl (And.intro rfl (And.intro rfl (And.intro rfl (And.intro rfl (And.intro rfl (And.intro rfl (And.intro rfl (And.intro rfl (And.intro rfl (And.intro rfl (And.intro rfl (And.intro (And.intro rfl (And.intro rfl (And.intro rfl (And.intro rfl (And.intro rfl trivial))))) (And.intro rfl (And.intro rfl (And.intro rfl (And.intro rfl (And.intro rfl (And.intro rfl (And.intro rfl trivial)))))))))))))))))))))))))) (And.intro (fun _ _ h => loopZ h) (And.intro (fun m => curI (fun v112 => curI (fun c4_0 => curI (fun c4_1 => fun c4_2 z hF => ?_)))) ?_))))
            · have hF : f142_l17 a k step q5_14 v102 (loopF (fun go x => f142_l17 a k step q5_14 v102 go x.1 x.2.1 x.2.2.1 x.2.2.2) m) v112 c4_0 c4_1 c4_2 = some z := hF
              unfold f142_l17 at hF
              refine Or.inl ?_
              refine Or.inl ?_
              refine condI hF (fun hF => ?_) (fun hF => ?_)
              · refine Or.inl ?_
                refine Or.inl ?_
                refine Or.inl ?_
                obtain ⟨z29, hz29, hF⟩ := bindE hF
                refine loopI (Int × Int × Int × Int) (Int × Int × Int) (fun x => ⟨[(2, .dat (.int .i64) step), (3, .raw false [(.ptr 0 0)]), (4, .raw false [(.ptr 1 0)]), (6, .raw false [(.ptr 2 0)]), (8, .dat (.int .i64) (rd (0 : Int) a.1 (0 : Int))), (9, .dat (.int .i64) (rd (0 : Int) a.1 (1 : Int))), (10, .dat (.int .i64) (rd (0 : Int) k.1 (2 : Int))), (11, .dat (.int .i64) q5_14), (12, .raw false [(.ptr 3 0)]), (14, .dat (.int .i64) v102), (15, .dat (.int .i64) (IntKind.i64.wrap (Int.tdiv v102 q5_14))), (16, .dat (.int .i64) (Int.tmod v102 q5_14)), (17, .raw false [(.ptr 4 0)]), (18, .dat (.int .i64) v112), (101, .dat (.int .i64) (List.length r16.2.2 : Int)), (102, .dat (.int .i64) v102), (111, .dat (.int .i64) (rd (0 : Int) a.1 (0 : Int))), (112, .dat (.int .i64) v112), (115, .dat (.int .i64) (rd (0 : Int) k.1 (2 : Int))), (116, .dat (.int .i64) x.1)], [(0, .cells [(.d (.sl (.int .i64)) a.1), (.d (.sl (.int .i64)) a.2)]), (1, .cells [(.d (.sl (.int .i64)) k.1), (.d (.sl (.int .i64)) k.2)]), (2, .cells [(.c (.slice none 0 0)), (.c (.slice none 0 0))]), (3, .cells [(.osl 5), (.osl 6)]), (4, .cells [(.d (.int .i64) x.2.1), (.d (.int .i64) x.2.2.1), (.d (.int .u64) x.2.2.2)]), (5, .arr 3 (.int .i64) r16.2.1), (6, .arr 57 (.int .i64) l5)], 7⟩) (fun z => [(7, ⟨[(2, .dat (.int .i64) step), (3, .raw false [(.ptr 0 0)]), (4, .raw false [(.ptr 1 0)]), (6, .raw false [(.ptr 2 0)]), (8, .dat (.int .i64) (rd (0 : Int) a.1 (0 : Int))), (9, .dat (.int .i64) (rd (0 : Int) a.1 (1 : Int))), (10, .dat (.int .i64) (rd (0 : Int) k.1 (2 : Int))), (11, .dat (.int .i64) q5_14), (12, .raw false [(.ptr 3 0)]), (14, .dat (.int .i64) v102), (15, .dat (.int .i64) (IntKind.i64.wrap (Int.tdiv v102 q5_14))), (16, .dat (.int .i64) (Int.tmod v102 q5_14)), (17, .raw false [(.ptr 4 0)]), (101, .dat (.int .i64) (List.length r16.2.2 : Int)), (102, .dat (.int .i64) v102), (111, .dat (.int .i64) (rd (0 : Int) a.1 (0 : Int))), (112, .dat (.int .i64) v112)], [(0, .cells [(.d (.sl (.int .i64)) a.1), (.d (.sl (.int .i64)) a.2)]), (1, .cells [(.d (.sl (.int .i64)) k.1), (.d (.sl (.int .i64)) k.2)]), (2, .cells [(.c (.slice none 0 0)), (.c (.slice none 0 0))]), (3, .cells [(.osl 5), (.osl 6)]), (4, .cells [(.d (.int .i64) z.1), (.d (.int .i64) z.2.1), (.d (.int .u64) z.2.2)]), (5, .arr 3 (.int .i64) r16.2.1), (6, .arr 57 (.int .i64) l5)], 7⟩)]) (loopF (fun go x => f142_l18 a k step q5_14 v102 v112 go x.1 x.2.1 x.2.2.1 x.2.2.2)) fuelN ((0 : Int), c4_0, c4_1, c4_2) z29 (And.intro hz29 (And.intro (Exists.intro [] (Exists.intro [] (Exists.intro [] (Exists.intro [] (Exists.intro [(0, some 0), (1, some 1), (2, some 2), (3, some 3), (4, some 4), (5, some 5), (6, some 6)] (And.intro rfl (And.intro rfl (And.intro rfl (And.intro rfl (And.intro rfl (And.intro rfl (And.intro rfl (And.intro rfl (And.intro rfl (And.intro rfl (And.intro rfl (And.intro rfl (And.intro rfl (And.intro rfl (And.intro rfl (And.intro rfl (And.intro (And.intro rfl (And.intro rfl (And.intro rfl (And.intro rfl (And.intro rfl trivial))))) (And.intro rfl (And.intro rfl (And.intro rfl (And.intro rfl (And.intro rfl (And.intro rfl (And.intro rfl trivial))))))))))))))))))))))))))))) (And.intro (fun _ _ h => loopZ h) (And.intro (fun m => curI (fun v116 => curI (fun c4_0_2 => curI (fun c4_1_2 => fun c4_2_2 z hF => ?_)))) ?_))))
                · have hF : f142_l18 a k step q5_14 v102 v112 (loopF (fun go x => f142_l18 a k step q5_14 v102 v112 go x.1 x.2.1 x.2.2.1 x.2.2.2) m) v116 c4_0_2 c4_1_2 c4_2_2 = some z := hF
                  unfold f142_l18 at hF
                  refine Or.inl ?_
                  refine Or.inl ?_
                  refine condI hF (fun hF => ?_) (fun hF => ?_)
                  · refine Or.inl ?_
                    refine Or.inl ?_
                    refine Exists.intro (.take 0 (.take 1 (.take 2 (.take 3 (.take 4 (.take 5 (.take 6 (.take 7 (.take 8 (.take 9 (.take 10 (.take 11 (.take 12 (.take 13 (.take 14 (.take 15 (.take 16 (.take 17 (.take 18 (.take 19 (.take 20 (.take 21 (.take 22 (.take 23 (.take 24 (.take 25 (.alt 26 .done .done))))))))))))))))))))))))))) (Exists.intro [] (Exists.intro [] (And.intro rfl ?_)))
                    refine guardI hF (fun hF => ?_)
                    refine guardI hF (fun hF => ?_)
                    refine And.intro trivial ?_
                    obtain ⟨q21_26, hq21_26, hF⟩ := bindE hF
                    refine Or.inl (And.intro f176_in (callV0 (callI C176 (c4_0_2, c4_1_2, c4_2_2, (rd (0 : Int) a.2 (IntKind.i64.wrap ((IntKind.i64.wrap ((IntKind.i64.wrap (v112 * (rd (0 : Int) a.1 (1 : Int)))) + (IntKind.i64.wrap ((Int.tmod v102 q5_14) * step)))) + v116))), (rd (0 : Int) k.2 (IntKind.i64.wrap ((IntKind.i64.wrap ((IntKind.i64.wrap ((IntKind.i64.wrap ((IntKind.i64.wrap (Int.tdiv v102 q5_14)) * (rd (0 : Int) a.1 (0 : Int)))) + v112)) * (rd (0 : Int) k.1 (2 : Int)))) + v116)))) q21_26 [(0, some 4)] false C176_holds hq21_26 rfl rfl ?_)))
                    refine (And.intro rfl (And.intro rfl (And.intro (fun h => nomatch h) (And.intro rfl (And.intro rfl (And.intro (And.intro rfl trivial) (And.intro (And.intro rfl trivial) ?_)))))))
                    refine Exists.intro ((IntKind.i64.wrap (v116 + (1 : Int))), q21_26.1, q21_26.2.1, q21_26.2.2) (And.intro hF (Exists.intro [] (Exists.intro [] (Exists.intro [] (Exists.intro [] (Exists.intro [(0, some 0), (1, some 1), (2, some 2), (3, some 3), (4, some 4), (5, some 5), (6, some 6)] (And.intro rfl (And.intro rfl (And.intro rfl (And.intro rfl (And.intro rfl (And.intro rfl (And.intro rfl (And.intro rfl (And.intro rfl (And.intro rfl (And.intro rfl (And.intro rfl (And.intro rfl (And.intro rfl (And.intro rfl (And.intro rfl (And.intro (And.intro rfl (And.intro rfl (And.intro rfl (And.intro rfl (And.intro rfl trivial))))) (And.intro rfl (And.intro rfl (And.intro rfl (And.intro rfl (And.intro rfl (And.intro rfl (And.intro rfl trivial))))))))))))))))))))))))))))))
                  · have hz := someE hF
                    subst hz
                    refine Exists.intro [] (Exists.intro [] (Exists.intro [] (Exists.intro [] (Exists.intro [(0, some 0), (1, some 1), (2, some 2), (3, some 3), (4, some 4), (5, some 5), (6, some 6)] (And.intro rfl (And.intro rfl (And.intro rfl (And.intro rfl (And.intro rfl (And.intro rfl (And.intro rfl (And.intro rfl (And.intro rfl (And.intro rfl (And.intro rfl (And.intro rfl (And.intro rfl (And.intro (And.intro rfl (And.intro rfl (And.intro rfl (And.intro rfl (And.intro rfl trivial))))) (And.intro rfl (And.intro rfl (And.intro rfl (And.intro rfl (And.intro rfl (And.intro rfl (And.intro rfl trivial)))))))))))))))))))))))))
                · refine And.intro ?_ trivial
                  refine Exists.intro ((IntKind.i64.wrap (v112 + (1 : Int))), z29.1, z29.2.1, z29.2.2) (And.intro hF (Exists.intro [] (Exists.intro [] (Exists.intro [] (Exists.intro [] (Exists.intro [(0, some 0), (1, some 1), (2, some 2), (3, some 3), (4, some 4), (5, some 5), (6, some 6)] (And.intro rfl (And.intro rfl (And.intro rfl (And.intro rfl (And.intro rfl (And.intro rfl (And.intro rfl (And.intro rfl (And.intro rfl (And.intro rfl (And.intro rfl (And.intro rfl (And.intro rfl (And.intro (And.intro rfl (And.intro rfl (And.intro rfl (And.intro rfl (And.intro rfl trivial))))) (And.intro rfl (And.intro rfl (And.intro rfl (And.intro rfl (And.intro rfl (And.intro rfl (And.intro rfl trivial)))))))))))))))))))))))))))
              · have hz := someE hF
                subst hz
                refine Exists.intro [] (Exists.intro [] (Exists.intro [] (Exists.intro [] (Exists.intro [(0, some 0), (1, some 1), (2, some 2), (3, some 3), (4, some 4), (5, some 5), (6, some 6)] (And.intro rfl (And.intro rfl (And.intro rfl (And.intro rfl (And.intro rfl (And.intro rfl (And.intro rfl (And.intro rfl (And.intro rfl (And.intro (And.intro rfl (And.intro rfl (And.intro rfl (And.intro rfl (And.intro rfl trivial))))) (And.intro rfl (And.intro rfl (And.intro rfl (And.intro rfl (And.intro rfl (And.intro rfl (And.intro rfl trivial)))))))))))))))))))))
            · refine And.intro ?_ trivial
              refine Exists.intro (.take 0 (.take 1 (.take 2 (.alt 3 (.take 4 (.alt 5 .done .done)) .done)))) (Exists.intro [] (Exists.intro [] (And.intro rfl ?_)))
              refine And.intro trivial ?_
              obtain ⟨q24_3, hq24_3, hF⟩ := bindE hF
              refine Or.inl (And.intro f177_in (callV0 (callI C177 (z28.1, z28.2.1, z28.2.2, (32 : Int)) q24_3 [(0, some 4)] false C177_holds hq24_3 rfl rfl ?_)))
              refine (And.intro rfl (And.intro (fun h => nomatch h) (And.intro rfl (And.intro rfl (And.intro (And.intro rfl trivial) (And.intro (And.intro rfl trivial) ?_))))))
              refine guardI hF (fun hF => ?_)
              refine And.intro trivial ?_
              refine Or.inl ?_
              refine Exists.intro ((IntKind.i64.wrap (v102 + (1 : Int))), (List.set l5 (Int.toNat v102) q24_3.1)) (And.intro hF (Exists.intro [] (Exists.intro [] (Exists.intro [] (Exists.intro [] (Exists.intro [(0, some 0), (1, some 1), (2, some 2), (3, some 3), (4, some 5), (5, some 6)] (And.intro rfl (And.intro rfl (And.intro rfl (And.intro rfl (And.intro rfl (And.intro rfl (And.intro rfl (And.intro rfl (And.intro (And.intro rfl (And.intro rfl (And.intro rfl (And.intro rfl trivial)))) (And.intro rfl (And.intro rfl (And.intro rfl (And.intro rfl (And.intro rfl (And.intro rfl trivial)))))))))))))))))))))
          · have hz := someE hF
            subst hz
            refine Exists.intro [] (Exists.intro [] (Exists.intro [] (Exists.intro [] (Exists.intro [(0, some 2), (1, some 3), (2, some 4), (3, some 5)] (And.intro rfl (And.intro (And.intro rfl (And.intro rfl trivial)) (And.intro rfl (And.intro rfl (And.intro rfl (And.intro rfl trivial))))))))))
        · refine And.intro ?_ trivial
          refine Or.inl ?_
          refine Or.inl ?_
          have hy := someE hF
          subst hy
          refine And.intro rfl (Exists.intro [] (Exists.intro [] (Exists.intro [] (Exists.intro [] (Exists.intro [(0, some 2), (1, some 3)] (And.intro rfl (And.intro rfl (And.intro (And.intro rfl trivial) (And.intro rfl (And.intro rfl trivial))))))))))
    · dsimp only [sumF] at hF
      refine And.intro ?_ trivial
      have hy := someE hF
      subst hy
      refine And.intro rfl (Exists.intro [] (Exists.intro [] (Exists.intro [] (Exists.intro [] (Exists.intro [(0, none), (1, none)] (And.intro rfl (And.intro rfl (And.intro (And.intro rfl trivial) (And.intro rfl (And.intro rfl trivial))))))))))
theorem C142_holds : C142.Holds Tryz.prog 142 := holds_of_vc tab_ok mixed (fn := Tryz.f142) (by kernel_rfl) rfl C142 (fun x y hF => C142_vc x.1 x.2.1 x.2.2 y hF)
theorem f142_in : ∃ fn, Tryz.prog.funcs[142]? = some fn ∧ fn.body.isSome = true ∧ (fn.name == "runtime.NumGoroutine") = false := ⟨Tryz.f142, by kernel_rfl, by kernel_rfl, by kernel_rfl⟩
end Go.Proofs
namespace Go.Proofs
open Go.AM
-- carousel/tape.pair
def f120 (op : Int) (a : (List Int) × (List Int)) (b : (List Int) × (List Int)) (k : Int) : Option (Int × (List Int) × (List Int)) :=
  bif (op == (2 : Int)) then
    bindF (f138 (a.1, a.2) (b.1, b.2)) fun r1 =>
    some (r1.1, r1.2.1, r1.2.2)
  else
    bif (op == (3 : Int)) then
      bindF (f139 (a.1, a.2) (b.1, b.2)) fun r2 =>
      some (r2.1, r2.2.1, r2.2.2)
    else
      bif (op == (4 : Int)) then
        bindF (f140 (a.1, a.2) (b.1, b.2)) fun r3 =>
        some (r3.1, r3.2.1, r3.2.2)
      else
        bif (op == (6 : Int)) then
          bindF (f141 (a.1, a.2) (b.1, b.2)) fun r4 =>
          some (r4.1, r4.2.1, r4.2.2)
        else
          bindF (f142 (a.1, a.2) (b.1, b.2) k) fun r5 =>
          some (r5.1, r5.2.1, r5.2.2)
def C120 : Con where
  X := Int × ((List Int) × (List Int)) × ((List Int) × (List Int)) × Int
  Y := Int × (List Int) × (List Int)
  e := 0
  args x := [.dat (.int .i64) x.1, .dat (.p (.sl (.int .i64)) (.sl (.int .i64))) x.2.1, .dat (.p (.sl (.int .i64)) (.sl (.int .i64))) x.2.2.1, .dat (.int .i64) x.2.2.2]
  hin x := []
  F x := f120 x.1 x.2.1 x.2.2.1 x.2.2.2
  ret y := [.raw true [(.osl 0), (.osl 1)], .dat (.int .i64) y.1]
  hout y := [(0, .arr 3 (.int .i64) y.2.1), (1, .arr 57 (.int .i64) y.2.2)]
  nout := 2
theorem C120_vc (op : Int) (a : (List Int) × (List Int)) (b : (List Int) × (List Int)) (k : Int) (y : Int × (List Int) × (List Int)) (hF : f120 op a b k = some y) : vc Tryz.prog tab Tryz.f120.ntmps 0 (match Tryz.f120.body with | some c => c | none => .skip) (retK tab C120 Tryz.f120.results.toList y) (C120.shIn (op, a, b, k)).st := by
  unfold f120 at hF
  refine Or.inl ?_
  refine Or.inl ?_
  refine Or.inl ?_
  refine Or.inl ?_
  refine condI hF (fun hF => ?_) (fun hF => ?_)
  · refine Or.inl ?_
    obtain ⟨r1, hr1, hF⟩ := bindE hF
    refine Or.inl (And.intro f138_in (callV0 (callI C138 ((a.1, a.2), (b.1, b.2)) r1 [] false C138_holds hr1 rfl rfl ?_)))
    refine (And.intro rfl (And.intro rfl (And.intro rfl (And.intro rfl (And.intro (fun h => nomatch h) (And.intro rfl (And.intro rfl (And.intro trivial (And.intro trivial ?_)))))))))
    refine Or.inl ?_
    have hy := someE hF
    subst hy
    refine And.intro rfl (Exists.intro [] (Exists.intro [] (Exists.intro [] (Exists.intro [] (Exists.intro [(0, some 3), (1, some 4)] (And.intro rfl (And.intro rfl (And.intro (And.intro rfl trivial) (And.intro rfl (And.intro rfl trivial))))))))))
  · refine Or.inl ?_
    refine condI hF (fun hF => ?_) (fun hF => ?_)
    · refine Or.inl ?_
      obtain ⟨r2, hr2, hF⟩ := bindE hF
      refine Or.inl (And.intro f139_in (callV0 (callI C139 ((a.1, a.2), (b.1, b.2)) r2 [] false C139_holds hr2 rfl rfl ?_)))
      refine (And.intro rfl (And.intro rfl (And.intro rfl (And.intro rfl (And.intro (fun h => nomatch h) (And.intro rfl (And.intro rfl (And.intro trivial (And.intro trivial ?_)))))))))
      refine Or.inl ?_
      have hy := someE hF
      subst hy
      refine And.intro rfl (Exists.intro [] (Exists.intro [] (Exists.intro [] (Exists.intro [] (Exists.intro [(0, some 3), (1, some 4)] (And.intro rfl (And.intro rfl (And.intro (And.intro rfl trivial) (And.intro rfl (And.intro rfl trivial))))))))))
    · refine Or.inl ?_
      refine condI hF (fun hF => ?_) (fun hF => ?_)
      · refine Or.inl ?_
        obtain ⟨r3, hr3, hF⟩ := bindE hF
        refine Or.inl (And.intro f140_in (callV0 (callI C140 ((a.1, a.2), (b.1, b.2)) r3 [] false C140_holds hr3 rfl rfl ?_)))
        refine (And.intro rfl (And.intro rfl (And.intro rfl (And.intro rfl (And.intro (fun h => nomatch h) (And.intro rfl (And.intro rfl (And.intro trivial (And.intro trivial ?_)))))))))
        refine Or.inl ?_
        have hy := someE hF
        subst hy
        refine And.intro rfl (Exists.intro [] (Exists.intro [] (Exists.intro [] (Exists.intro [] (Exists.intro [(0, some 3), (1, some 4)] (And.intro rfl (And.intro rfl (And.intro (And.intro rfl trivial) (And.intro rfl (And.intro rfl trivial))))))))))
      · refine Or.inl ?_
        refine condI hF (fun hF => ?_) (fun hF => ?_)
        · refine Or.inl ?_
          obtain ⟨r4, hr4, hF⟩ := bindE hF
          refine Or.inl (And.intro f141_in (callV0 (callI C141 ((a.1, a.2), (b.1, b.2)) r4 [] false C141_holds hr4 rfl rfl ?_)))
          refine (And.intro rfl (And.intro rfl (And.intro rfl (And.intro rfl (And.intro (fun h => nomatch h) (And.intro rfl (And.intro rfl (And.intro trivial (And.intro trivial ?_)))))))))
          refine Or.inl ?_
          have hy := someE hF
          subst hy
          refine And.intro rfl (Exists.intro [] (Exists.intro [] (Exists.intro [] (Exists.intro [] (Exists.intro [(0, some 3), (1, some 4)] (And.intro rfl (And.intro rfl (And.intro (And.intro rfl trivial) (And.intro rfl (And.intro rfl trivial))))))))))
        · refine Or.inl ?_
          obtain ⟨r5, hr5, hF⟩ := bindE hF
          refine Or.inl (And.intro f142_in (callV0 (callI C142 ((a.1, a.2), (b.1, b.2), k) r5 [] false C142_holds hr5 rfl rfl ?_)))
          refine (And.intro rfl (And.intro rfl (And.intro rfl (And.intro rfl (And.intro rfl (And.intro (fun h => nomatch h) (And.intro rfl (And.intro rfl (And.intro trivial (And.intro trivial ?_))))))))))
          refine Or.inl ?_
          have hy := someE hF
          subst hy
          refine And.intro rfl (Exists.intro [] (Exists.intro [] (Exists.intro [] (Exists.intro [] (Exists.intro [(0, some 3), (1, some 4)] (And.intro rfl (And.intro rfl (And.intro (And.intro rfl trivial) (And.intro rfl (And.intro rfl trivial))))))))))
theorem C120_holds : C120.Holds Tryz.prog 120 := holds_of_vc tab_ok mixed (fn := Tryz.f120) (by kernel_rfl) rfl C120 (fun x y hF => C120_vc x.1 x.2.1 x.2.2.1 x.2.2.2 y hF)
theorem f120_in : ∃ fn, Tryz.prog.funcs[120]? = some fn ∧ fn.body.isSome = true ∧ (fn.name == "runtime.NumGoroutine") = false := ⟨Tryz.f120, by kernel_rfl, by kernel_rfl, by kernel_rfl⟩
end Go.Proofs
namespace Go.Proofs
open Go.AM
-- carousel/tens.Scale
def f143_l1 (k : Int) (r1 : (List Int) × (List Int)) (go : (Int × (List Int)) → Option (List Int)) (v18 : Int) (l2 : List Int) : Option (List Int) :=
  bif (decide (v18 < (List.length r1.2 : Int))) then
    guardF (0 ≤ v18 ∧ v18 < (List.length l2 : Int)) <|
    bindF (f169 (rd (0 : Int) l2 v18) k) fun q7_5 =>
    guardF (0 ≤ v18 ∧ v18 < (List.length l2 : Int)) <|
    go ((IntKind.i64.wrap (v18 + (1 : Int))), (List.set l2 (Int.toNat v18) q7_5))
  else
    some l2
def f143 (a : (List Int) × (List Int)) (k : Int) : Option (Int × (List Int) × (List Int)) :=
  bindF (f91 (a.1, a.2)) fun q7_7 =>
  bif (!q7_7) then
    some ((1 : Int), [], [])
  else
    bindF (f49 (a.1, a.2)) fun r1 =>
    bindF (loopF (fun go x => f143_l1 k r1 go x.1 x.2) fuelN ((0 : Int), r1.2)) fun z2 =>
    some ((0 : Int), r1.1, z2)
def C143 : Con where
  X := ((List Int) × (List Int)) × Int
  Y := Int × (List Int) × (List Int)
  e := 0
  args x := [.dat (.p (.sl (.int .i64)) (.sl (.int .i64))) x.1, .dat (.int .i64) x.2]
  hin x := []
  F x := f143 x.1 x.2
  ret y := [.raw true [(.osl 0), (.osl 1)], .dat (.int .i64) y.1]
  hout y := [(0, .arr 3 (.int .i64) y.2.1), (1, .arr 57 (.int .i64) y.2.2)]
  nout := 2
theorem C143_vc (a : (List Int) × (List Int)) (k : Int) (y : Int × (List Int) × (List Int)) (hF : f143 a k = some y) : vc Tryz.prog tab Tryz.f143.ntmps 0 (match Tryz.f143.body with | some c => c | none => .skip) (retK tab C143 Tryz.f143.results.toList y) (C143.shIn (a, k)).st := by
  unfold f143 at hF
  refine Or.inl ?_
  refine Or.inl ?_
  refine Or.inl ?_
  obtain ⟨q7_7, hq7_7, hF⟩ := bindE hF
  refine Or.inl (And.intro f91_in (callV0 (callI C91 (a.1, a.2) q7_7 [] false C91_holds hq7_7 rfl rfl ?_)))
  refine (And.intro rfl (And.intro rfl (And.intro (fun h => nomatch h) (And.intro rfl (And.intro rfl (And.intro trivial (And.intro trivial ?_)))))))
  refine condI hF (fun hF => ?_) (fun hF => ?_)
  · refine Or.inl ?_
    refine Or.inl ?_
    have hy := someE hF
    subst hy
    refine And.intro rfl (Exists.intro [] (Exists.intro [] (Exists.intro [] (Exists.intro [] (Exists.intro [(0, none), (1, none)] (And.intro rfl (And.intro rfl (And.intro (And.intro rfl trivial) (And.intro rfl (And.intro rfl trivial))))))))))
  · refine Or.inl ?_
    obtain ⟨r1, hr1, hF⟩ := bindE hF
    refine Or.inl (And.intro f49_in (callV0 (callI C49 (a.1, a.2) r1 [] false C49_holds hr1 rfl rfl ?_)))
    refine (And.intro rfl (And.intro rfl (And.intro (fun h => nomatch h) (And.intro rfl (And.intro rfl (And.intro trivial (And.intro trivial ?_)))))))
    refine Or.inl ?_
    refine Or.inl ?_
    refine Or.inl ?_
    obtain ⟨z2, hz2, hF⟩ := bindE hF
    refine loopI (Int × (List Int)) (List Int) (fun x => ⟨[(1, .dat (.int .i64) k), (4, .raw false [(.ptr 0 0)]), (6, .raw false [(.ptr 1 0)]), (16, .raw false [(.osl 2)]), (17, .dat (.int .i64) (List.length r1.2 : Int)), (18, .dat (.int .i64) x.1)], [(0, .cells [(.c (.slice none 0 0)), (.c (.slice none 0 0))]), (1, .cells [(.osl 3), (.osl 2)]), (2, .arr 57 (.int .i64) x.2), (3, .arr 3 (.int .i64) r1.1)], 4⟩) (fun z => [(2, ⟨[(4, .raw false [(.ptr 0 0)]), (6, .raw false [(.ptr 1 0)])], [(0, .cells [(.c (.slice none 0 0)), (.c (.slice none 0 0))]), (1, .cells [(.osl 2), (.osl 3)]), (2, .arr 3 (.int .i64) r1.1), (3, .arr 57 (.int .i64) z)], 4⟩)]) (loopF (fun go x => f143_l1 k r1 go x.1 x.2)) fuelN ((0 : Int), r1.2) z2 (And.intro hz2 (And.intro (Exists.intro [] (Exists.intro [] (Exists.intro [] (Exists.intro [] (Exists.intro [(0, some 1), (1, some 4), (2, some 3), (3, some 2)] (And.intro rfl (And.intro rfl (And.intro rfl (And.intro rfl (And.intro (And.intro rfl (And.intro rfl (And.intro rfl trivial))) (And.intro rfl (And.intro rfl (And.intro rfl (And.intro rfl trivial)))))))))))))) (And.intro (fun _ _ h => loopZ h) (And.intro (fun m => curI (fun v18 => fun l2 z hF => ?_)) ?_))))
    · have hF : f143_l1 k r1 (loopF (fun go x => f143_l1 k r1 go x.1 x.2) m) v18 l2 = some z := hF
      unfold f143_l1 at hF
      refine Or.inl ?_
      refine Or.inl ?_
      refine condI hF (fun hF => ?_) (fun hF => ?_)
      · refine Or.inl ?_
        refine Or.inl ?_
        refine guardI hF (fun hF => ?_)
        refine Exists.intro (.take 0 (.take 1 (.take 2 (.take 3 (.take 4 (.alt 5 (.take 6 (.alt 7 .done .done)) .done)))))) (Exists.intro [] (Exists.intro [] (And.intro rfl ?_)))
        refine And.intro trivial ?_
        obtain ⟨q7_5, hq7_5, hF⟩ := bindE hF
        refine Or.inl (And.intro f169_in (callV0 (callI C169 ((rd (0 : Int) l2 v18), k) q7_5 [] false C169_holds hq7_5 rfl rfl ?_)))
        refine (And.intro rfl (And.intro rfl (And.intro (fun h => nomatch h) (And.intro rfl (And.intro rfl (And.intro trivial (And.intro trivial ?_)))))))
        refine guardI hF (fun hF => ?_)
        refine And.intro trivial ?_
        refine Or.inl ?_
        refine Exists.intro ((IntKind.i64.wrap (v18 + (1 : Int))), (List.set l2 (Int.toNat v18) q7_5)) (And.intro hF (Exists.intro [] (Exists.intro [] (Exists.intro [] (Exists.intro [] (Exists.intro [(0, some 0), (1, some 1), (2, some 2), (3, some 3)] (And.intro rfl (And.intro rfl (And.intro rfl (And.intro rfl (And.intro (And.intro rfl (And.intro rfl (And.intro rfl trivial))) (And.intro rfl (And.intro rfl (And.intro rfl (And.intro rfl trivial)))))))))))))))
      · have hz := someE hF
        subst hz
        refine Exists.intro [] (Exists.intro [] (Exists.intro [] (Exists.intro [] (Exists.intro [(0, some 0), (1, some 1), (2, some 3), (3, some 2)] (And.intro rfl (And.intro (And.intro rfl (And.intro rfl trivial)) (And.intro rfl (And.intro rfl (And.intro rfl (And.intro rfl trivial))))))))))
    · refine And.intro ?_ trivial
      refine Or.inl ?_
      refine Or.inl ?_
      have hy := someE hF
      subst hy
      refine And.intro rfl (Exists.intro [] (Exists.intro [] (Exists.intro [] (Exists.intro [] (Exists.intro [(0, some 2), (1, some 3)] (And.intro rfl (And.intro rfl (And.intro (And.intro rfl trivial) (And.intro rfl (And.intro rfl trivial))))))))))
theorem C143_holds : C143.Holds Tryz.prog 143 := holds_of_vc tab_ok mixed (fn := Tryz.f143) (by kernel_rfl) rfl C143 (fun x y hF => C143_vc x.1 x.2 y hF)
theorem f143_in : ∃ fn, Tryz.prog.funcs[143]? = some fn ∧ fn.body.isSome = true ∧ (fn.name == "runtime.NumGoroutine") = false := ⟨Tryz.f143, by kernel_rfl, by kernel_rfl, by kernel_rfl⟩
end Go.Proofs
namespace Go.Proofs
open Go.AM
-- carousel/matm.Sum
def f145_j3 (a : (List Int) × (List Int)) (side : Int) : Option Bool :=
  bindF (f91 (a.1, a.2)) fun r6 =>
  bif (!r6) then
    some true
  else
    bif (decide (side < (0 : Int))) then
      some true
    else
      some (decide (side ≥ (List.length a.1 : Int)))
def f145_j2 (a : (List Int) × (List Int)) (side : Int) : Option (Sum Unit Unit) :=
  bindF (f145_j3 a side) fun z5 =>
  bif z5 then
    some (Sum.inr ())
  else
    some (Sum.inl ())
def f145_l4 (a : (List Int) × (List Int)) (side : Int) (r7 : List Int) (go : (Int × (List (Int × Int))) → Option (List (Int × Int))) (v55 : Int) (l3 : List (Int × Int)) : Option (List (Int × Int)) :=
  bif (decide (v55 < (List.length a.2 : Int))) then
    guardF (0 ≤ v55 ∧ v55 < (List.length a.2 : Int)) <|
    guardF (0 ≤ side ∧ side < (List.length a.1 : Int)) <|
    guardF ((IntKind.i64.wrap ((rd (0 : Int) r7 side) * (rd (0 : Int) a.1 side))) ≠ 0) <|
    guardF ((rd (0 : Int) r7 side) ≠ 0) <|
    guardF (0 ≤ (IntKind.i64.wrap ((IntKind.i64.wrap ((IntKind.i64.wrap (Int.tdiv v55 (IntKind.i64.wrap ((rd (0 : Int) r7 side) * (rd (0 : Int) a.1 side))))) * (rd (0 : Int) r7 side))) + (Int.tmod v55 (rd (0 : Int) r7 side)))) ∧ (IntKind.i64.wrap ((IntKind.i64.wrap ((IntKind.i64.wrap (Int.tdiv v55 (IntKind.i64.wrap ((rd (0 : Int) r7 side) * (rd (0 : Int) a.1 side))))) * (rd (0 : Int) r7 side))) + (Int.tmod v55 (rd (0 : Int) r7 side)))) < (List.length l3 : Int)) <|
    bindF (f181 (rd (0 : Int) a.2 v55)) fun q10_7 =>
    bindF (f180 ((rd (Ty.z (.p (.int .i64) (.int .u64))) l3 (IntKind.i64.wrap ((IntKind.i64.wrap ((IntKind.i64.wrap (Int.tdiv v55 (IntKind.i64.wrap ((rd (0 : Int) r7 side) * (rd (0 : Int) a.1 side))))) * (rd (0 : Int) r7 side))) + (Int.tmod v55 (rd (0 : Int) r7 side))))).1, (rd (Ty.z (.p (.int .i64) (.int .u64))) l3 (IntKind.i64.wrap ((IntKind.i64.wrap ((IntKind.i64.wrap (Int.tdiv v55 (IntKind.i64.wrap ((rd (0 : Int) r7 side) * (rd (0 : Int) a.1 side))))) * (rd (0 : Int) r7 side))) + (Int.tmod v55 (rd (0 : Int) r7 side))))).2) (q10_7.1, q10_7.2)) fun q10_8 =>
    guardF (0 ≤ (IntKind.i64.wrap ((IntKind.i64.wrap ((IntKind.i64.wrap (Int.tdiv v55 (IntKind.i64.wrap ((rd (0 : Int) r7 side) * (rd (0 : Int) a.1 side))))) * (rd (0 : Int) r7 side))) + (Int.tmod v55 (rd (0 : Int) r7 side)))) ∧ (IntKind.i64.wrap ((IntKind.i64.wrap ((IntKind.i64.wrap (Int.tdiv v55 (IntKind.i64.wrap ((rd (0 : Int) r7 side) * (rd (0 : Int) a.1 side))))) * (rd (0 : Int) r7 side))) + (Int.tmod v55 (rd (0 : Int) r7 side)))) < (List.length l3 : Int)) <|
    go ((IntKind.i64.wrap (v55 + (1 : Int))), (List.set l3 (Int.toNat (IntKind.i64.wrap ((IntKind.i64.wrap ((IntKind.i64.wrap (Int.tdiv v55 (IntKind.i64.wrap ((rd (0 : Int) r7 side) * (rd (0 : Int) a.1 side))))) * (rd (0 : Int) r7 side))) + (Int.tmod v55 (rd (0 : Int) r7 side))))) (q10_8.1, q10_8.2)))
  else
    some l3
def f145_l5 (z8 : List (Int × Int)) (go : (Int × (List Int)) → Option (List Int)) (v93 : Int) (l4 : List Int) : Option (List Int) :=
  bif (decide (v93 < (List.length z8 : Int))) then
    guardF (0 ≤ v93 ∧ v93 < (List.length z8 : Int)) <|
    bindF (f182 ((rd (Ty.z (.p (.int .i64) (.int .u64))) z8 v93).1, (rd (Ty.z (.p (.int .i64) (.int .u64))) z8 v93).2)) fun q16_4 =>
    guardF (0 ≤ v93 ∧ v93 < (List.length l4 : Int)) <|
    go ((IntKind.i64.wrap (v93 + (1 : Int))), (List.set l4 (Int.toNat v93) q16_4))
  else
    some l4
def f145 (a : (List Int) × (List Int)) (side : Int) : Option (Int × (List Int) × (List Int)) :=
  bindF (f145_j2 a side) fun z3 =>
  sumF z3 (fun z3a =>
    guardF (0 ≤ side ∧ side ≤ (List.length a.1 : Int)) <|
    guardF (0 ≤ (IntKind.i64.wrap (side + (1 : Int))) ∧ (IntKind.i64.wrap (side + (1 : Int))) ≤ (List.length a.1 : Int)) <|
    guardF ((List.length ([] : List Int) + List.length (List.take (Int.toNat side) a.1)) * 8 ≤ 140737488355328) <|
    guardF ((List.length (([] : List Int) ++ (List.take (Int.toNat side) a.1)) + List.length (List.drop (Int.toNat (IntKind.i64.wrap (side + (1 : Int)))) a.1)) * 8 ≤ 140737488355328) <|
    bindF (f117 ((([] : List Int) ++ (List.take (Int.toNat side) a.1)) ++ (List.drop (Int.toNat (IntKind.i64.wrap (side + (1 : Int)))) a.1))) fun q3_12 =>
    guardF (0 ≤ q3_12 ∧ q3_12 ≤ q3_12 ∧ Int.toNat q3_12 * 16 ≤ 140737488355328) <|
    bindF (f179 a.1) fun r7 =>
    guardF (0 ≤ side ∧ side < (List.length r7 : Int)) <|
    bindF (loopF (fun go x => f145_l4 a side r7 go x.1 x.2) fuelN ((0 : Int), (List.replicate (Int.toNat q3_12) (Ty.z (.p (.int .i64) (.int .u64)))))) fun z8 =>
    bindF (f171 ((([] : List Int) ++ (List.take (Int.toNat side) a.1)) ++ (List.drop (Int.toNat (IntKind.i64.wrap (side + (1 : Int)))) a.1)) (0 : Int)) fun q10_10 =>
    bindF (loopF (fun go x => f145_l5 z8 go x.1 x.2) fuelN ((0 : Int), q10_10.2.2)) fun z9 =>
    some ((0 : Int), q10_10.2.1, z9)) (fun z3b =>
    some ((1 : Int), [], []))
def C145 : Con where
  X := ((List Int) × (List Int)) × Int
  Y := Int × (List Int) × (List Int)
  e := 0
  args x := [.dat (.p (.sl (.int .i64)) (.sl (.int .i64))) x.1, .dat (.int .i64) x.2]
  hin x := []
  F x := f145 x.1 x.2
  ret y := [.raw true [(.osl 0), (.osl 1)], .dat (.int .i64) y.1]
  hout y := [(0, .arr 3 (.int .i64) y.2.1), (1, .arr 57 (.int .i64) y.2.2)]
  nout := 2
theorem C145_vc (a : (List Int) × (List Int)) (side : Int) (y : Int × (List Int) × (List Int)) (hF : f145 a side = some y) : vc Tryz.prog tab Tryz.f145.ntmps 0 (match Tryz.f145.body with | some c => c | none => .skip) (retK tab C145 Tryz.f145.results.toList y) (C145.shIn (a, side)).st := by
  unfold f145 at hF
  refine Or.inl ?_
  obtain ⟨z3, hz3, hF⟩ := bindE hF
  refine Or.inr ⟨Sum.elim (fun z3a => [(0, ⟨[(1, .dat (.int .i64) side), (2, .raw false [(.ptr 0 0)]), (4, .raw false [(.ptr 1 0)])], [(0, .cells [(.d (.sl (.int .i64)) a.1), (.d (.sl (.int .i64)) a.2)]), (1, .cells [(.c (.slice none 0 0)), (.c (.slice none 0 0))])], 2⟩)]) (fun z3b => [(1, ⟨[(4, .raw false [(.ptr 0 0)]), (5, .dat (.int .i64) (1 : Int))], [(0, .cells [(.c (.slice none 0 0)), (.c (.slice none 0 0))])], 1⟩)]) z3, ?_, ?_⟩
  · have hF := hz3
    clear hz3
    unfold f145_j2 at hF
    obtain ⟨z5, hz5, hF⟩ := bindE hF
    refine Or.inr ⟨[(0, ⟨[(1, .dat (.int .i64) side), (2, .raw false [(.ptr 0 0)]), (4, .raw false [(.ptr 1 0)]), (29, .dat .bool z5)], [(0, .cells [(.d (.sl (.int .i64)) a.1), (.d (.sl (.int .i64)) a.2)]), (1, .cells [(.c (.slice none 0 0)), (.c (.slice none 0 0))])], 2⟩)], ?_, ?_⟩
    · have hF := hz5
      clear hz5
      unfold f145_j3 at hF
      obtain ⟨r6, hr6, hF⟩ := bindE hF
      refine Or.inl (And.intro f91_in (callV0 (callI C91 (a.1, a.2) r6 [] false C91_holds hr6 rfl rfl ?_)))
      refine (And.intro rfl (And.intro rfl (And.intro (fun h => nomatch h) (And.intro rfl (And.intro rfl (And.intro trivial (And.intro trivial ?_)))))))
      refine condN hF (fun hF => ?_) (fun hF => ?_)
      · refine gdYF ?_
        refine condF ?_
        refine condN hF (fun hF => ?_) (fun hF => ?_)
        · refine gdYF ?_
          refine gdYF ?_
          refine gdYF ?_
          refine gdYF ?_
          refine condF ?_
          have hz := someE hF
          subst hz
          refine Exists.intro [] (Exists.intro [] (Exists.intro [] (Exists.intro [] (Exists.intro [(0, some 0), (1, some 1)] (And.intro rfl (And.intro rfl (And.intro rfl (And.intro (And.intro rfl (And.intro rfl trivial)) (And.intro rfl (And.intro rfl trivial))))))))))
        · refine gdNF ?_
          refine gdNF ?_
          refine gdNF ?_
          refine gdNF ?_
          refine condT ?_
          have hz := someE hF
          subst hz
          refine Exists.intro [] (Exists.intro [] (Exists.intro [] (Exists.intro [] (Exists.intro [(0, some 0), (1, some 1)] (And.intro rfl (And.intro rfl (And.intro rfl (And.intro (And.intro rfl (And.intro rfl trivial)) (And.intro rfl (And.intro rfl trivial))))))))))
      · refine gdNF ?_
        refine condT ?_
        refine gdNF ?_
        refine gdNF ?_
        refine gdNF ?_
        refine gdNF ?_
        refine gdNF ?_
        refine condT ?_
        have hz := someE hF
        subst hz
        refine Exists.intro [] (Exists.intro [] (Exists.intro [] (Exists.intro [] (Exists.intro [(0, some 0), (1, some 1)] (And.intro rfl (And.intro rfl (And.intro rfl (And.intro (And.intro rfl (And.intro rfl trivial)) (And.intro rfl (And.intro rfl trivial))))))))))
    · refine And.intro ?_ trivial
      refine condI hF (fun hF => ?_) (fun hF => ?_)
      · refine Or.inl ?_
        refine Or.inl ?_
        have hz := someE hF
        subst hz
        refine Exists.intro [] (Exists.intro [] (Exists.intro [] (Exists.intro [] (Exists.intro [(0, some 1)] (And.intro rfl (And.intro rfl (And.intro (And.intro rfl trivial) (And.intro rfl trivial))))))))
      · have hz := someE hF
        subst hz
        refine Exists.intro [] (Exists.intro [] (Exists.intro [] (Exists.intro [] (Exists.intro [(0, some 0), (1, some 1)] (And.intro rfl (And.intro rfl (And.intro (And.intro rfl (And.intro rfl trivial)) (And.intro rfl (And.intro rfl trivial)))))))))
  · rcases z3 with z3a | z3b
    · dsimp only [sumF] at hF
      refine And.intro ?_ trivial
      refine Or.inl ?_
      refine Exists.intro (.take 1 (.take 2 (.take 3 (.take 4 (.take 6 (.take 7 (.take 8 (.take 9 (.take 10 (.alt 0 (.alt 5 (.alt 11 (.take 12 .done) .done) .done) .done)))))))))) (Exists.intro [] (Exists.intro [] (And.intro rfl ?_)))
      refine guardI hF (fun hF => ?_)
      refine guardI hF (fun hF => ?_)
      refine And.intro trivial ?_
      refine Or.inl ?_
      refine And.intro trivial ?_
      refine Or.inl ?_
      refine guardI hF (fun hF => ?_)
      refine And.intro trivial ?_
      refine Or.inl ?_
      refine guardI hF (fun hF => ?_)
      refine Or.inl ?_
      obtain ⟨q3_12, hq3_12, hF⟩ := bindE hF
      refine Or.inl (And.intro f117_in (callV0 (callI C117 ((([] : List Int) ++ (List.take (Int.toNat side) a.1)) ++ (List.drop (Int.toNat (IntKind.i64.wrap (side + (1 : Int)))) a.1)) q3_12 [] true C117_holds hq3_12 rfl rfl ?_)))
      refine (And.intro rfl (And.intro (fun _ => rfl) (And.intro rfl (And.intro rfl (And.intro trivial (And.intro trivial ?_))))))
      refine guardI hF (fun hF => ?_)
      refine Or.inl ?_
      obtain ⟨r7, hr7, hF⟩ := bindE hF
      refine Or.inl (And.intro f179_in (callV0 (callI C179 a.1 r7 [] false C179_holds hr7 rfl rfl ?_)))
      refine (And.intro rfl (And.intro (fun h => nomatch h) (And.intro rfl (And.intro rfl (And.intro trivial (And.intro trivial ?_))))))
      refine guardI hF (fun hF => ?_)
      refine Or.inl ?_
      refine Or.inl ?_
      obtain ⟨z8, hz8, hF⟩ := bindE hF
      refine loopI (Int × (List (Int × Int))) (List (Int × Int)) (fun x => ⟨[(1, .dat (.int .i64) side), (2, .raw false [(.ptr 0 0)]), (4, .raw false [(.ptr 1 0)]), (6, .raw false [(.osl 2)]), (7, .raw false [(.osl 3)]), (8, .dat (.int .i64) (rd (0 : Int) r7 side)), (53, .dat (.sl (.int .i64)) a.2), (54, .dat (.int .i64) (List.length a.2 : Int)), (55, .dat (.int .i64) x.1)], [(0, .cells [(.d (.sl (.int .i64)) a.1), (.d (.sl (.int .i64)) a.2)]), (1, .cells [(.c (.slice none 0 0)), (.c (.slice none 0 0))]), (2, .arr 3 (.int .i64) ((([] : List Int) ++ (List.take (Int.toNat side) a.1)) ++ (List.drop (Int.toNat (IntKind.i64.wrap (side + (1 : Int)))) a.1))), (3, .arr 213 (.p (.int .i64) (.int .u64)) x.2)], 4⟩) (fun z => [(2, ⟨[(4, .raw false [(.ptr 0 0)]), (6, .raw false [(.osl 1)]), (7, .raw false [(.osl 2)])], [(0, .cells [(.c (.slice none 0 0)), (.c (.slice none 0 0))]), (1, .arr 3 (.int .i64) ((([] : List Int) ++ (List.take (Int.toNat side) a.1)) ++ (List.drop (Int.toNat (IntKind.i64.wrap (side + (1 : Int)))) a.1))), (2, .arr 213 (.p (.int .i64) (.int .u64)) z)], 3⟩)]) (loopF (fun go x => f145_l4 a side r7 go x.1 x.2)) fuelN ((0 : Int), (List.replicate (Int.toNat q3_12) (Ty.z (.p (.int .i64) (.int .u64))))) z8 (And.intro hz8 (And.intro (Exists.intro [] (Exists.intro [] (Exists.intro [] (Exists.intro [] (Exists.intro [(0, some 0), (1, some 1), (2, some 4), (3, some 5)] (And.intro rfl (And.intro rfl (And.intro rfl (And.intro rfl (And.intro rfl (And.intro rfl (And.intro (And.intro rfl (And.intro rfl (And.intro rfl (And.intro rfl trivial)))) (And.intro rfl (And.intro rfl (And.intro rfl (And.intro rfl trivial)))))))))))))))) (And.intro (fun _ _ h => loopZ h) (And.intro (fun m => curI (fun v55 => fun l3 z hF => ?_)) ?_))))
      · have hF : f145_l4 a side r7 (loopF (fun go x => f145_l4 a side r7 go x.1 x.2) m) v55 l3 = some z := hF
        unfold f145_l4 at hF
        refine Or.inl ?_
        refine Or.inl ?_
        refine condI hF (fun hF => ?_) (fun hF => ?_)
        · refine Or.inl ?_
          refine Or.inl ?_
          refine guardI hF (fun hF => ?_)
          refine Or.inl ?_
          refine Exists.intro (.take 0 (.take 1 (.take 2 (.take 3 (.take 4 (.take 5 (.take 6 (.take 7 (.take 8 (.take 9 (.take 10 (.take 11 (.take 12 (.take 13 (.take 14 (.take 15 .done)))))))))))))))) (Exists.intro [] (Exists.intro [] (And.intro rfl ?_)))
          refine guardI hF (fun hF => ?_)
          refine guardI hF (fun hF => ?_)
          refine guardI hF (fun hF => ?_)
          refine Exists.intro (.take 0 (.take 1 (.take 2 (.take 3 (.take 4 (.take 5 (.take 6 (.alt 7 (.alt 8 (.take 9 (.alt 10 .done .done)) .done) .done)))))))) (Exists.intro [(10, [3])] (Exists.intro [] (And.intro rfl ?_)))
          refine guardI hF (fun hF => ?_)
          refine And.intro trivial ?_
          obtain ⟨q10_7, hq10_7, hF⟩ := bindE hF
          refine Or.inl (And.intro f181_in (callV0 (callI C181 (rd (0 : Int) a.2 v55) q10_7 [] false C181_holds hq10_7 rfl rfl ?_)))
          refine (And.intro rfl (And.intro (fun h => nomatch h) (And.intro rfl (And.intro rfl (And.intro trivial (And.intro trivial ?_))))))
          refine And.intro trivial ?_
          obtain ⟨q10_8, hq10_8, hF⟩ := bindE hF
          refine Or.inl (And.intro f180_in (callV0 (callI C180 (((rd (Ty.z (.p (.int .i64) (.int .u64))) l3 (IntKind.i64.wrap ((IntKind.i64.wrap ((IntKind.i64.wrap (Int.tdiv v55 (IntKind.i64.wrap ((rd (0 : Int) r7 side) * (rd (0 : Int) a.1 side))))) * (rd (0 : Int) r7 side))) + (Int.tmod v55 (rd (0 : Int) r7 side))))).1, (rd (Ty.z (.p (.int .i64) (.int .u64))) l3 (IntKind.i64.wrap ((IntKind.i64.wrap ((IntKind.i64.wrap (Int.tdiv v55 (IntKind.i64.wrap ((rd (0 : Int) r7 side) * (rd (0 : Int) a.1 side))))) * (rd (0 : Int) r7 side))) + (Int.tmod v55 (rd (0 : Int) r7 side))))).2), (q10_7.1, q10_7.2)) q10_8 [] false C180_holds hq10_8 rfl rfl ?_)))
          refine (And.intro rfl (And.intro rfl (And.intro rfl (And.intro rfl (And.intro (fun h => nomatch h) (And.intro rfl (And.intro rfl (And.intro trivial (And.intro trivial ?_)))))))))
          refine guardI hF (fun hF => ?_)
          refine And.intro trivial ?_
          refine Or.inl ?_
          refine Exists.intro ((IntKind.i64.wrap (v55 + (1 : Int))), (List.set l3 (Int.toNat (IntKind.i64.wrap ((IntKind.i64.wrap ((IntKind.i64.wrap (Int.tdiv v55 (IntKind.i64.wrap ((rd (0 : Int) r7 side) * (rd (0 : Int) a.1 side))))) * (rd (0 : Int) r7 side))) + (Int.tmod v55 (rd (0 : Int) r7 side))))) (q10_8.1, q10_8.2))) (And.intro hF (Exists.intro [] (Exists.intro [] (Exists.intro [] (Exists.intro [] (Exists.intro [(0, some 0), (1, some 1), (2, some 2), (3, some 3)] (And.intro rfl (And.intro rfl (And.intro rfl (And.intro rfl (And.intro rfl (And.intro rfl (And.intro (And.intro rfl (And.intro rfl (And.intro rfl (And.intro rfl trivial)))) (And.intro rfl (And.intro rfl (And.intro rfl (And.intro rfl trivial)))))))))))))))))
        · have hz := someE hF
          subst hz
          refine Exists.intro [] (Exists.intro [] (Exists.intro [] (Exists.intro [] (Exists.intro [(0, some 1), (1, some 2), (2, some 3)] (And.intro rfl (And.intro (And.intro rfl (And.intro rfl (And.intro rfl trivial))) (And.intro rfl (And.intro rfl (And.intro rfl trivial)))))))))
      · refine And.intro ?_ trivial
        refine Or.inl ?_
        obtain ⟨q10_10, hq10_10, hF⟩ := bindE hF
        refine Or.inl (And.intro f171_in (callV0 (callI C171 (((([] : List Int) ++ (List.take (Int.toNat side) a.1)) ++ (List.drop (Int.toNat (IntKind.i64.wrap (side + (1 : Int)))) a.1)), (0 : Int)) q10_10 [] true C171_holds hq10_10 rfl rfl ?_)))
        refine (And.intro rfl (And.intro rfl (And.intro (fun _ => rfl) (And.intro rfl (And.intro rfl (And.intro trivial (And.intro trivial ?_)))))))
        refine Or.inl ?_
        refine Or.inl ?_
        refine Or.inl ?_
        obtain ⟨z9, hz9, hF⟩ := bindE hF
        refine loopI (Int × (List Int)) (List Int) (fun x => ⟨[(4, .raw false [(.ptr 0 0)]), (12, .raw false [(.ptr 1 0)]), (91, .raw false [(.osl 2)]), (92, .dat (.int .i64) (List.length z8 : Int)), (93, .dat (.int .i64) x.1)], [(0, .cells [(.c (.slice none 0 0)), (.c (.slice none 0 0))]), (1, .cells [(.osl 3), (.osl 4)]), (2, .arr 213 (.p (.int .i64) (.int .u64)) z8), (3, .arr 3 (.int .i64) q10_10.2.1), (4, .arr 57 (.int .i64) x.2)], 5⟩) (fun z => [(4, ⟨[(4, .raw false [(.ptr 0 0)]), (12, .raw false [(.ptr 1 0)])], [(0, .cells [(.c (.slice none 0 0)), (.c (.slice none 0 0))]), (1, .cells [(.osl 2), (.osl 3)]), (2, .arr 3 (.int .i64) q10_10.2.1), (3, .arr 57 (.int .i64) z)], 4⟩)]) (loopF (fun go x => f145_l5 z8 go x.1 x.2)) fuelN ((0 : Int), q10_10.2.2) z9 (And.intro hz9 (And.intro (Exists.intro [] (Exists.intro [] (Exists.intro [] (Exists.intro [] (Exists.intro [(0, some 0), (1, some 5), (2, some 2), (3, some 3), (4, some 4)] (And.intro rfl (And.intro rfl (And.intro rfl (And.intro (And.intro rfl (And.intro rfl (And.intro rfl trivial))) (And.intro rfl (And.intro rfl (And.intro rfl (And.intro rfl (And.intro rfl trivial)))))))))))))) (And.intro (fun _ _ h => loopZ h) (And.intro (fun m => curI (fun v93 => fun l4 z hF => ?_)) ?_))))
        · have hF : f145_l5 z8 (loopF (fun go x => f145_l5 z8 go x.1 x.2) m) v93 l4 = some z := hF
          unfold f145_l5 at hF
          refine Or.inl ?_
          refine Or.inl ?_
          refine condI hF (fun hF => ?_) (fun hF => ?_)
          · refine Or.inl ?_
            refine Or.inl ?_
            refine guardI hF (fun hF => ?_)
            refine Or.inl ?_
            refine Exists.intro (.take 0 (.take 1 (.take 2 (.take 3 (.alt 4 (.take 5 (.alt 6 .done .done)) .done))))) (Exists.intro [] (Exists.intro [] (And.intro rfl ?_)))
            refine And.intro trivial ?_
            obtain ⟨q16_4, hq16_4, hF⟩ := bindE hF
            refine Or.inl (And.intro f182_in (callV0 (callI C182 ((rd (Ty.z (.p (.int .i64) (.int .u64))) z8 v93).1, (rd (Ty.z (.p (.int .i64) (.int .u64))) z8 v93).2) q16_4 [] false C182_holds hq16_4 rfl rfl ?_)))
            refine (And.intro rfl (And.intro rfl (And.intro (fun h => nomatch h) (And.intro rfl (And.intro rfl (And.intro trivial (And.intro trivial ?_)))))))
            refine guardI hF (fun hF => ?_)
            refine And.intro trivial ?_
            refine Or.inl ?_
            refine Exists.intro ((IntKind.i64.wrap (v93 + (1 : Int))), (List.set l4 (Int.toNat v93) q16_4)) (And.intro hF (Exists.intro [] (Exists.intro [] (Exists.intro [] (Exists.intro [] (Exists.intro [(0, some 0), (1, some 1), (2, some 2), (3, some 3), (4, some 4)] (And.intro rfl (And.intro rfl (And.intro rfl (And.intro (And.intro rfl (And.intro rfl (And.intro rfl trivial))) (And.intro rfl (And.intro rfl (And.intro rfl (And.intro rfl (And.intro rfl trivial)))))))))))))))
          · have hz := someE hF
            subst hz
            refine Exists.intro [] (Exists.intro [] (Exists.intro [] (Exists.intro [] (Exists.intro [(0, some 0), (1, some 1), (2, some 3), (3, some 4)] (And.intro rfl (And.intro (And.intro rfl (And.intro rfl trivial)) (And.intro rfl (And.intro rfl (And.intro rfl (And.intro rfl trivial))))))))))
        · refine And.intro ?_ trivial
          refine Or.inl ?_
          refine Or.inl ?_
          have hy := someE hF
          subst hy
          refine And.intro rfl (Exists.intro [] (Exists.intro [] (Exists.intro [] (Exists.intro [] (Exists.intro [(0, some 2), (1, some 3)] (And.intro rfl (And.intro rfl (And.intro (And.intro rfl trivial) (And.intro rfl (And.intro rfl trivial))))))))))
    · dsimp only [sumF] at hF
      refine And.intro ?_ trivial
      have hy := someE hF
      subst hy
      refine And.intro rfl (Exists.intro [] (Exists.intro [] (Exists.intro [] (Exists.intro [] (Exists.intro [(0, none), (1, none)] (And.intro rfl (And.intro rfl (And.intro (And.intro rfl trivial) (And.intro rfl (And.intro rfl trivial))))))))))
theorem C145_holds : C145.Holds Tryz.prog 145 := holds_of_vc tab_ok mixed (fn := Tryz.f145) (by kernel_rfl) rfl C145 (fun x y hF => C145_vc x.1 x.2 y hF)
theorem f145_in : ∃ fn, Tryz.prog.funcs[145]? = some fn ∧ fn.body.isSome = true ∧ (fn.name == "runtime.NumGoroutine") = false := ⟨Tryz.f145, by kernel_rfl, by kernel_rfl, by kernel_rfl⟩
end Go.Proofs
namespace Go.Proofs
open Go.AM
-- carousel/matm.total
def f183_l1 (v : List Int) (go : (Int × Int × Int) → Option (Int × Int)) (v9 : Int) (c1_0 : Int) (c1_1 : Int) : Option (Int × Int) :=
  bif (decide (v9 < (List.length v : Int))) then
    guardF (0 ≤ v9 ∧ v9 < (List.length v : Int)) <|
    bindF (f181 (rd (0 : Int) v v9)) fun q5_2 =>
    bindF (f180 (c1_0, c1_1) (q5_2.1, q5_2.2)) fun q5_3 =>
    go ((IntKind.i64.wrap (v9 + (1 : Int))), q5_3.1, q5_3.2)
  else
    some (c1_0, c1_1)
def f183 (v : List Int) : Option (Int × Int) :=
  bindF (loopF (fun go x => f183_l1 v go x.1 x.2.1 x.2.2) fuelN ((0 : Int), (0 : Int), (0 : Int))) fun z1 =>
  some (z1.1, z1.2)
def C183 : Con where
  X := List Int
  Y := Int × Int
  e := 0
  args x := [.dat (.sl (.int .i64)) x]
  hin x := []
  F x := f183 x
  ret y := [.raw true [(.d (.int .i64) y.1), (.d (.int .u64) y.2)]]
  hout y := []
  nout := 0
theorem C183_vc (v : List Int) (y : Int × Int) (hF : f183 v = some y) : vc Tryz.prog tab Tryz.f183.ntmps 0 (match Tryz.f183.body with | some c => c | none => .skip) (retK tab C183 Tryz.f183.results.toList y) (C183.shIn v).st := by
  unfold f183 at hF
  refine Or.inl ?_
  refine Or.inl ?_
  refine Or.inl ?_
  refine Or.inl ?_
  refine Or.inl ?_
  obtain ⟨z1, hz1, hF⟩ := bindE hF
  refine loopI (Int × Int × Int) (Int × Int) (fun x => ⟨[(2, .raw false [(.ptr 0 0)]), (3, .raw false [(.ptr 1 0)]), (7, .dat (.sl (.int .i64)) v), (8, .dat (.int .i64) (List.length v : Int)), (9, .dat (.int .i64) x.1)], [(0, .cells [(.d (.int .i64) (0 : Int)), (.d (.int .u64) (0 : Int))]), (1, .cells [(.d (.int .i64) x.2.1), (.d (.int .u64) x.2.2)])], 2⟩) (fun z => [(2, ⟨[(2, .raw false [(.ptr 0 0)]), (3, .raw false [(.ptr 1 0)])], [(0, .cells [(.d (.int .i64) (0 : Int)), (.d (.int .u64) (0 : Int))]), (1, .cells [(.d (.int .i64) z.1), (.d (.int .u64) z.2)])], 2⟩)]) (loopF (fun go x => f183_l1 v go x.1 x.2.1 x.2.2)) fuelN ((0 : Int), (0 : Int), (0 : Int)) z1 (And.intro hz1 (And.intro (Exists.intro [] (Exists.intro [] (Exists.intro [] (Exists.intro [] (Exists.intro [(0, some 0), (1, some 1)] (And.intro rfl (And.intro rfl (And.intro rfl (And.intro rfl (And.intro (And.intro rfl (And.intro rfl trivial)) (And.intro rfl (And.intro rfl trivial)))))))))))) (And.intro (fun _ _ h => loopZ h) (And.intro (fun m => curI (fun v9 => curI (fun c1_0 => fun c1_1 z hF => ?_))) ?_))))
  · have hF : f183_l1 v (loopF (fun go x => f183_l1 v go x.1 x.2.1 x.2.2) m) v9 c1_0 c1_1 = some z := hF
    unfold f183_l1 at hF
    refine Or.inl ?_
    refine Or.inl ?_
    refine condI hF (fun hF => ?_) (fun hF => ?_)
    · refine Or.inl ?_
      refine Or.inl ?_
      refine guardI hF (fun hF => ?_)
      refine Exists.intro (.take 0 (.take 1 (.alt 2 (.alt 3 (.alt 4 .done .done) .done) .done))) (Exists.intro [(4, [1])] (Exists.intro [] (And.intro rfl ?_)))
      refine And.intro trivial ?_
      obtain ⟨q5_2, hq5_2, hF⟩ := bindE hF
      refine Or.inl (And.intro f181_in (callV0 (callI C181 (rd (0 : Int) v v9) q5_2 [] false C181_holds hq5_2 rfl rfl ?_)))
      refine (And.intro rfl (And.intro (fun h => nomatch h) (And.intro rfl (And.intro rfl (And.intro trivial (And.intro trivial ?_))))))
      refine And.intro trivial ?_
      obtain ⟨q5_3, hq5_3, hF⟩ := bindE hF
      refine Or.inl (And.intro f180_in (callV0 (callI C180 ((c1_0, c1_1), (q5_2.1, q5_2.2)) q5_3 [] false C180_holds hq5_3 rfl rfl ?_)))
      refine (And.intro rfl (And.intro rfl (And.intro rfl (And.intro rfl (And.intro (fun h => nomatch h) (And.intro rfl (And.intro rfl (And.intro trivial (And.intro trivial ?_)))))))))
      refine And.intro trivial ?_
      refine Or.inl ?_
      refine Exists.intro ((IntKind.i64.wrap (v9 + (1 : Int))), q5_3.1, q5_3.2) (And.intro hF (Exists.intro [] (Exists.intro [] (Exists.intro [] (Exists.intro [] (Exists.intro [(0, some 0), (1, some 1)] (And.intro rfl (And.intro rfl (And.intro rfl (And.intro rfl (And.intro (And.intro rfl (And.intro rfl trivial)) (And.intro rfl (And.intro rfl trivial)))))))))))))
    · have hz := someE hF
      subst hz
      refine Exists.intro [] (Exists.intro [] (Exists.intro [] (Exists.intro [] (Exists.intro [(0, some 0), (1, some 1)] (And.intro rfl (And.intro (And.intro rfl (And.intro rfl trivial)) (And.intro rfl (And.intro rfl trivial))))))))
  · refine And.intro ?_ trivial
    refine Or.inl ?_
    refine Or.inl ?_
    have hy := someE hF
    subst hy
    refine And.intro rfl (Exists.intro [] (Exists.intro [] (Exists.intro [] (Exists.intro [] (Exists.intro [] (And.intro rfl (And.intro (And.intro rfl trivial) trivial)))))))
theorem C183_holds : C183.Holds Tryz.prog 183 := holds_of_vc tab_ok mixed (fn := Tryz.f183) (by kernel_rfl) rfl C183 (fun x y hF => C183_vc x y hF)
theorem f183_in : ∃ fn, Tryz.prog.funcs[183]? = some fn ∧ fn.body.isSome = true ∧ (fn.name == "runtime.NumGoroutine") = false := ⟨Tryz.f183, by kernel_rfl, by kernel_rfl, by kernel_rfl⟩
end Go.Proofs
namespace Go.Proofs
open Go.AM
-- carousel/matm.All
def f147 (a : (List Int) × (List Int)) : Option (Int × Int) :=
  bindF (f91 (a.1, a.2)) fun r1 =>
  bif (!r1) then
    some ((0 : Int), (1 : Int))
  else
    bindF (f183 a.2) fun r2 =>
    bindF (f182 (r2.1, r2.2)) fun r3 =>
    some (r3, (0 : Int))
def C147 : Con where
  X := (List Int) × (List Int)
  Y := Int × Int
  e := 0
  args x := [.dat (.p (.sl (.int .i64)) (.sl (.int .i64))) x]
  hin x := []
  F x := f147 x
  ret y := [.dat (.int .i64) y.1, .dat (.int .i64) y.2]
  hout y := []
  nout := 0
theorem C147_vc (a : (List Int) × (List Int)) (y : Int × Int) (hF : f147 a = some y) : vc Tryz.prog tab Tryz.f147.ntmps 0 (match Tryz.f147.body with | some c => c | none => .skip) (retK tab C147 Tryz.f147.results.toList y) (C147.shIn a).st := by
  unfold f147 at hF
  refine Or.inl ?_
  refine Or.inl ?_
  refine Or.inl ?_
  obtain ⟨r1, hr1, hF⟩ := bindE hF
  refine Or.inl (And.intro f91_in (callV0 (callI C91 (a.1, a.2) r1 [] false C91_holds hr1 rfl rfl ?_)))
  refine (And.intro rfl (And.intro rfl (And.intro (fun h => nomatch h) (And.intro rfl (And.intro rfl (And.intro trivial (And.intro trivial ?_)))))))
  refine condI hF (fun hF => ?_) (fun hF => ?_)
  · refine Or.inl ?_
    have hy := someE hF
    subst hy
    refine And.intro rfl (Exists.intro [] (Exists.intro [] (Exists.intro [] (Exists.intro [] (Exists.intro [] (And.intro rfl (And.intro rfl (And.intro rfl (And.intro trivial trivial)))))))))
  · refine Or.inl ?_
    obtain ⟨r2, hr2, hF⟩ := bindE hF
    refine Or.inl (And.intro f183_in (callV0 (callI C183 a.2 r2 [] false C183_holds hr2 rfl rfl ?_)))
    refine (And.intro rfl (And.intro (fun h => nomatch h) (And.intro rfl (And.intro rfl (And.intro trivial (And.intro trivial ?_))))))
    obtain ⟨r3, hr3, hF⟩ := bindE hF
    refine Or.inl (And.intro f182_in (callV0 (callI C182 (r2.1, r2.2) r3 [] false C182_holds hr3 rfl rfl ?_)))
    refine (And.intro rfl (And.intro rfl (And.intro (fun h => nomatch h) (And.intro rfl (And.intro rfl (And.intro trivial (And.intro trivial ?_)))))))
    have hy := someE hF
    subst hy
    refine And.intro rfl (Exists.intro [] (Exists.intro [] (Exists.intro [] (Exists.intro [] (Exists.intro [] (And.intro rfl (And.intro rfl (And.intro rfl (And.intro trivial trivial)))))))))
theorem C147_holds : C147.Holds Tryz.prog 147 := holds_of_vc tab_ok mixed (fn := Tryz.f147) (by kernel_rfl) rfl C147 (fun x y hF => C147_vc x y hF)
theorem f147_in : ∃ fn, Tryz.prog.funcs[147]? = some fn ∧ fn.body.isSome = true ∧ (fn.name == "runtime.NumGoroutine") = false := ⟨Tryz.f147, by kernel_rfl, by kernel_rfl, by kernel_rfl⟩
end Go.Proofs
namespace Go.Proofs
open Go.AM
-- carousel/tape.single
def f146 (x_ : Int) (e : Int) : Option (Int × (List Int) × (List Int)) :=
  bif (e != (0 : Int)) then
    some (e, [], [])
  else
    bindF (f171 ([]) x_) fun r1 =>
    some (r1.1, r1.2.1, r1.2.2)
def C146 : Con where
  X := Int × Int
  Y := Int × (List Int) × (List Int)
  e := 0
  args x := [.dat (.int .i64) x.1, .dat (.int .i64) x.2]
  hin x := []
  F x := f146 x.1 x.2
  ret y := [.raw true [(.osl 0), (.osl 1)], .dat (.int .i64) y.1]
  hout y := [(0, .arr 3 (.int .i64) y.2.1), (1, .arr 57 (.int .i64) y.2.2)]
  nout := 2
theorem C146_vc (x_ : Int) (e : Int) (y : Int × (List Int) × (List Int)) (hF : f146 x_ e = some y) : vc Tryz.prog tab Tryz.f146.ntmps 0 (match Tryz.f146.body with | some c => c | none => .skip) (retK tab C146 Tryz.f146.results.toList y) (C146.shIn (x_, e)).st := by
  unfold f146 at hF
  refine Or.inl ?_
  refine Or.inl ?_
  refine Or.inl ?_
  refine condI hF (fun hF => ?_) (fun hF => ?_)
  · refine Or.inl ?_
    refine Or.inl ?_
    have hy := someE hF
    subst hy
    refine And.intro rfl (Exists.intro [] (Exists.intro [] (Exists.intro [] (Exists.intro [] (Exists.intro [(0, none), (1, none)] (And.intro rfl (And.intro rfl (And.intro (And.intro rfl trivial) (And.intro rfl (And.intro rfl trivial))))))))))
  · refine Or.inl ?_
    obtain ⟨r1, hr1, hF⟩ := bindE hF
    refine Or.inl (And.intro f171_in (callV0 (callI C171 ([], x_) r1 [] false C171_holds hr1 rfl rfl ?_)))
    refine (And.intro rfl (And.intro rfl (And.intro (fun h => nomatch h) (And.intro rfl (And.intro rfl (And.intro trivial (And.intro trivial ?_)))))))
    refine Or.inl ?_
    have hy := someE hF
    subst hy
    refine And.intro rfl (Exists.intro [] (Exists.intro [] (Exists.intro [] (Exists.intro [] (Exists.intro [(0, some 1), (1, some 2)] (And.intro rfl (And.intro rfl (And.intro (And.intro rfl trivial) (And.intro rfl (And.intro rfl trivial))))))))))
theorem C146_holds : C146.Holds Tryz.prog 146 := holds_of_vc tab_ok mixed (fn := Tryz.f146) (by kernel_rfl) rfl C146 (fun x y hF => C146_vc x.1 x.2 y hF)
theorem f146_in : ∃ fn, Tryz.prog.funcs[146]? = some fn ∧ fn.body.isSome = true ∧ (fn.name == "runtime.NumGoroutine") = false := ⟨Tryz.f146, by kernel_rfl, by kernel_rfl, by kernel_rfl⟩
end Go.Proofs
namespace Go.Proofs
open Go.AM
-- carousel/wide.Cmp
def f208_j1 (a : Int × Int) (b : Int × Int) : Option Bool :=
  bif (decide (a.1 < b.1)) then
    some true
  else
    bif (a.1 == b.1) then
      some (decide (a.2 < b.2))
    else
      some false
def f208 (a : Int × Int) (b : Int × Int) : Option Int :=
  bindF (f208_j1 a b) fun z1 =>
  bif z1 then
    some (-1 : Int)
  else
    bif (a.1 == b.1 && a.2 == b.2) then
      some (0 : Int)
    else
      some (1 : Int)
def C208 : Con where
  X := (Int × Int) × (Int × Int)
  Y := Int
  e := 0
  args x := [.dat (.p (.int .i64) (.int .u64)) x.1, .dat (.p (.int .i64) (.int .u64)) x.2]
  hin x := []
  F x := f208 x.1 x.2
  ret y := [.dat (.int .i64) y]
  hout y := []
  nout := 0
theorem C208_vc (a : Int × Int) (b : Int × Int) (y : Int) (hF : f208 a b = some y) : vc Tryz.prog tab Tryz.f208.ntmps 0 (match Tryz.f208.body with | some c => c | none => .skip) (retK tab C208 Tryz.f208.results.toList y) (C208.shIn (a, b)).st := by
  unfold f208 at hF
  refine Or.inl ?_
  refine Or.inl ?_
  obtain ⟨z1, hz1, hF⟩ := bindE hF
  refine Or.inr ⟨[(0, ⟨[(2, .raw false [(.ptr 0 0)]), (3, .raw false [(.ptr 1 0)]), (5, .dat .bool z1)], [(0, .cells [(.d (.int .i64) a.1), (.d (.int .u64) a.2)]), (1, .cells [(.d (.int .i64) b.1), (.d (.int .u64) b.2)])], 2⟩)], ?_, ?_⟩
  · have hF := hz1
    clear hz1
    unfold f208_j1 at hF
    refine condN hF (fun hF => ?_) (fun hF => ?_)
    · refine gdYF ?_
      refine gdYF ?_
      refine gdYF ?_
      refine gdYF ?_
      refine gdYF ?_
      refine condI hF (fun hF => ?_) (fun hF => ?_)
      · refine gdYT ?_
        refine gdYT ?_
        refine gdYT ?_
        refine gdYT ?_
        refine gdYF ?_
        refine condT ?_
        refine condF ?_
        have hz := someE hF
        subst hz
        refine Exists.intro [] (Exists.intro [] (Exists.intro [] (Exists.intro [] (Exists.intro [(0, some 0), (1, some 1)] (And.intro rfl (And.intro rfl (And.intro (And.intro rfl (And.intro rfl trivial)) (And.intro rfl (And.intro rfl trivial)))))))))
      · refine gdNT ?_
        refine gdNT ?_
        refine gdNT ?_
        refine gdNT ?_
        refine gdYF ?_
        refine condF ?_
        refine condF ?_
        have hz := someE hF
        subst hz
        refine Exists.intro [] (Exists.intro [] (Exists.intro [] (Exists.intro [] (Exists.intro [(0, some 0), (1, some 1)] (And.intro rfl (And.intro rfl (And.intro (And.intro rfl (And.intro rfl trivial)) (And.intro rfl (And.intro rfl trivial)))))))))
    · refine gdNF ?_
      refine gdNF ?_
      refine gdNF ?_
      refine gdNF ?_
      refine gdNF ?_
      refine gdNF ?_
      refine condT ?_
      have hz := someE hF
      subst hz
      refine Exists.intro [] (Exists.intro [] (Exists.intro [] (Exists.intro [] (Exists.intro [(0, some 0), (1, some 1)] (And.intro rfl (And.intro rfl (And.intro (And.intro rfl (And.intro rfl trivial)) (And.intro rfl (And.intro rfl trivial)))))))))
  · refine And.intro ?_ trivial
    refine condI hF (fun hF => ?_) (fun hF => ?_)
    · refine Or.inl ?_
      have hy := someE hF
      subst hy
      refine And.intro rfl (Exists.intro [] (Exists.intro [] (Exists.intro [] (Exists.intro [] (Exists.intro [] (And.intro rfl (And.intro rfl (And.intro trivial trivial))))))))
    · refine Or.inl ?_
      refine And.intro ⟨by kernel_rfl, by kernel_rfl, by decide, by decide⟩ ?_
      refine condI hF (fun hF => ?_) (fun hF => ?_)
      · refine Or.inl ?_
        have hy := someE hF
        subst hy
        refine And.intro rfl (Exists.intro [] (Exists.intro [] (Exists.intro [] (Exists.intro [] (Exists.intro [] (And.intro rfl (And.intro rfl (And.intro trivial trivial))))))))
      · refine Or.inl ?_
        have hy := someE hF
        subst hy
        refine And.intro rfl (Exists.intro [] (Exists.intro [] (Exists.intro [] (Exists.intro [] (Exists.intro [] (And.intro rfl (And.intro rfl (And.intro trivial trivial))))))))
theorem C208_holds : C208.Holds Tryz.prog 208 := holds_of_vc tab_ok mixed (fn := Tryz.f208) (by kernel_rfl) rfl C208 (fun x y hF => C208_vc x.1 x.2 y hF)
theorem f208_in : ∃ fn, Tryz.prog.funcs[208]? = some fn ∧ fn.body.isSome = true ∧ (fn.name == "runtime.NumGoroutine") = false := ⟨Tryz.f208, by kernel_rfl, by kernel_rfl, by kernel_rfl⟩
end Go.Proofs
namespace Go.Proofs
open Go.AM
-- math/bits.Len64
def f162_s1 : ByteArray := ⟨⟨[0, 1, 2, 2, 3, 3, 3, 3, 4, 4, 4, 4, 4, 4, 4, 4, 5, 5, 5, 5, 5, 5, 5, 5, 5, 5, 5, 5, 5, 5, 5, 5, 6, 6, 6, 6, 6, 6, 6, 6, 6, 6, 6, 6, 6, 6, 6, 6, 6, 6, 6, 6, 6, 6, 6, 6, 6, 6, 6, 6, 6, 6, 6, 6, 7, 7, 7, 7, 7, 7, 7, 7, 7, 7, 7, 7, 7, 7, 7, 7, 7, 7, 7, 7, 7, 7, 7, 7, 7, 7, 7, 7, 7, 7, 7, 7, 7, 7, 7, 7, 7, 7, 7, 7, 7, 7, 7, 7, 7, 7, 7, 7, 7, 7, 7, 7, 7, 7, 7, 7, 7, 7, 7, 7, 7, 7, 7, 7, 8, 8, 8, 8, 8, 8, 8, 8, 8, 8, 8, 8, 8, 8, 8, 8, 8, 8, 8, 8, 8, 8, 8, 8, 8, 8, 8, 8, 8, 8, 8, 8, 8, 8, 8, 8, 8, 8, 8, 8, 8, 8, 8, 8, 8, 8, 8, 8, 8, 8, 8, 8, 8, 8, 8, 8, 8, 8, 8, 8, 8, 8, 8, 8, 8, 8, 8, 8, 8, 8, 8, 8, 8, 8, 8, 8, 8, 8, 8, 8, 8, 8, 8, 8, 8, 8, 8, 8, 8, 8, 8, 8, 8, 8, 8, 8, 8, 8, 8, 8, 8, 8, 8, 8, 8, 8, 8, 8, 8, 8, 8, 8, 8, 8, 8, 8, 8, 8, 8, 8, 8, 8, 8, 8, 8, 8, 8, 8]⟩⟩
def f162_j1 (x_ : Int) : Option (Int × Int) :=
  bif (decide (x_ ≥ (4294967296 : Int))) then
    some ((Int.fdiv x_ (2 ^ min (Int.toNat (32 : Int)) (IntKind.bits IntKind.u64))), (32 : Int))
  else
    some (x_, (0 : Int))
def f162_j2 (z1 : Int × Int) : Option (Int × Int) :=
  bif (decide (z1.1 ≥ (65536 : Int))) then
    some ((Int.fdiv z1.1 (2 ^ min (Int.toNat (16 : Int)) (IntKind.bits IntKind.u64))), (IntKind.i64.wrap (z1.2 + (16 : Int))))
  else
    some (z1.1, z1.2)
def f162_j3 (z2 : Int × Int) : Option (Int × Int) :=
  bif (decide (z2.1 ≥ (256 : Int))) then
    some ((Int.fdiv z2.1 (2 ^ min (Int.toNat (8 : Int)) (IntKind.bits IntKind.u64))), (IntKind.i64.wrap (z2.2 + (8 : Int))))
  else
    some (z2.1, z2.2)
def f162 (x_ : Int) : Option Int :=
  bindF (f162_j1 x_) fun z1 =>
  bindF (f162_j2 z1) fun z2 =>
  bindF (f162_j3 z2) fun z3 =>
  guardF (0 ≤ (IntKind.u8.wrap z3.1) ∧ (IntKind.u8.wrap z3.1) < (ByteArray.size f162_s1 : Int)) <|
  some (IntKind.i64.wrap (z3.2 + (IntKind.i64.wrap (bt f162_s1 (IntKind.u8.wrap z3.1)))))
def C162 : Con where
  X := Int
  Y := Int
  e := 0
  args x := [.dat (.int .u64) x]
  hin x := []
  F x := f162 x
  ret y := [.dat (.int .i64) y]
  hout y := []
  nout := 0
theorem C162_vc (x_ : Int) (y : Int) (hF : f162 x_ = some y) : vc Tryz.prog tab Tryz.f162.ntmps 0 (match Tryz.f162.body with | some c => c | none => .skip) (retK tab C162 Tryz.f162.results.toList y) (C162.shIn x_).st := by
  unfold f162 at hF
  refine Or.inl ?_
  obtain ⟨z1, hz1, hF⟩ := bindE hF
  refine Or.inr ⟨[(0, ⟨[(0, .dat (.int .u64) z1.1), (2, .dat (.int .i64) z1.2)], [], 0⟩)], ?_, ?_⟩
  · have hF := hz1
    clear hz1
    unfold f162_j1 at hF
    refine Or.inl ?_
    refine condI hF (fun hF => ?_) (fun hF => ?_)
    · refine Or.inl ?_
      refine And.intro (by decide) ?_
      have hz := someE hF
      subst hz
      refine Exists.intro [] (Exists.intro [] (Exists.intro [] (Exists.intro [] (Exists.intro [] (And.intro rfl (And.intro rfl (And.intro rfl (And.intro trivial trivial))))))))
    · have hz := someE hF
      subst hz
      refine Exists.intro [] (Exists.intro [] (Exists.intro [] (Exists.intro [] (Exists.intro [] (And.intro rfl (And.intro rfl (And.intro rfl (And.intro trivial trivial))))))))
  · refine And.intro ?_ trivial
    obtain ⟨z2, hz2, hF⟩ := bindE hF
    refine Or.inr ⟨[(0, ⟨[(0, .dat (.int .u64) z2.1), (2, .dat (.int .i64) z2.2)], [], 0⟩)], ?_, ?_⟩
    · have hF := hz2
      clear hz2
      unfold f162_j2 at hF
      refine Or.inl ?_
      refine condI hF (fun hF => ?_) (fun hF => ?_)
      · refine Or.inl ?_
        refine And.intro (by decide) ?_
        have hz := someE hF
        subst hz
        refine Exists.intro [] (Exists.intro [] (Exists.intro [] (Exists.intro [] (Exists.intro [] (And.intro rfl (And.intro rfl (And.intro rfl (And.intro trivial trivial))))))))
      · have hz := someE hF
        subst hz
        refine Exists.intro [] (Exists.intro [] (Exists.intro [] (Exists.intro [] (Exists.intro [] (And.intro rfl (And.intro rfl (And.intro rfl (And.intro trivial trivial))))))))
    · refine And.intro ?_ trivial
      obtain ⟨z3, hz3, hF⟩ := bindE hF
      refine Or.inr ⟨[(0, ⟨[(0, .dat (.int .u64) z3.1), (2, .dat (.int .i64) z3.2)], [], 0⟩)], ?_, ?_⟩
      · have hF := hz3
        clear hz3
        unfold f162_j3 at hF
        refine Or.inl ?_
        refine condI hF (fun hF => ?_) (fun hF => ?_)
        · refine Or.inl ?_
          refine And.intro (by decide) ?_
          have hz := someE hF
          subst hz
          refine Exists.intro [] (Exists.intro [] (Exists.intro [] (Exists.intro [] (Exists.intro [] (And.intro rfl (And.intro rfl (And.intro rfl (And.intro trivial trivial))))))))
        · have hz := someE hF
          subst hz
          refine Exists.intro [] (Exists.intro [] (Exists.intro [] (Exists.intro [] (Exists.intro [] (And.intro rfl (And.intro rfl (And.intro rfl (And.intro trivial trivial))))))))
      · refine And.intro ?_ trivial
        refine Or.inl ?_
        refine guardI hF (fun hF => ?_)
        have hy := someE hF
        subst hy
        refine And.intro rfl (Exists.intro [] (Exists.intro [] (Exists.intro [] (Exists.intro [] (Exists.intro [] (And.intro rfl (And.intro rfl (And.intro trivial trivial))))))))
theorem C162_holds : C162.Holds Tryz.prog 162 := holds_of_vc tab_ok mixed (fn := Tryz.f162) (by kernel_rfl) rfl C162 (fun x y hF => C162_vc x y hF)
theorem f162_in : ∃ fn, Tryz.prog.funcs[162]? = some fn ∧ fn.body.isSome = true ∧ (fn.name == "runtime.NumGoroutine") = false := ⟨Tryz.f162, by kernel_rfl, by kernel_rfl, by kernel_rfl⟩
end Go.Proofs
namespace Go.Proofs
open Go.AM
-- math/bits.LeadingZeros64
def f226 (x_ : Int) : Option Int :=
  bindF (f162 x_) fun r1 =>
  some (IntKind.i64.wrap ((64 : Int) - r1))
def C226 : Con where
  X := Int
  Y := Int
  e := 0
  args x := [.dat (.int .u64) x]
  hin x := []
  F x := f226 x
  ret y := [.dat (.int .i64) y]
  hout y := []
  nout := 0
theorem C226_vc (x_ : Int) (y : Int) (hF : f226 x_ = some y) : vc Tryz.prog tab Tryz.f226.ntmps 0 (match Tryz.f226.body with | some c => c | none => .skip) (retK tab C226 Tryz.f226.results.toList y) (C226.shIn x_).st := by
  unfold f226 at hF
  refine Or.inl ?_
  refine Or.inl ?_
  obtain ⟨r1, hr1, hF⟩ := bindE hF
  refine Or.inl (And.intro f162_in (callV0 (callI C162 x_ r1 [] false C162_holds hr1 rfl rfl ?_)))
  refine (And.intro rfl (And.intro (fun h => nomatch h) (And.intro rfl (And.intro rfl (And.intro trivial (And.intro trivial ?_))))))
  have hy := someE hF
  subst hy
  refine And.intro rfl (Exists.intro [] (Exists.intro [] (Exists.intro [] (Exists.intro [] (Exists.intro [] (And.intro rfl (And.intro rfl (And.intro trivial trivial))))))))
theorem C226_holds : C226.Holds Tryz.prog 226 := holds_of_vc tab_ok mixed (fn := Tryz.f226) (by kernel_rfl) rfl C226 (fun x y hF => C226_vc x y hF)
theorem f226_in : ∃ fn, Tryz.prog.funcs[226]? = some fn ∧ fn.body.isSome = true ∧ (fn.name == "runtime.NumGoroutine") = false := ⟨Tryz.f226, by kernel_rfl, by kernel_rfl, by kernel_rfl⟩
end Go.Proofs
