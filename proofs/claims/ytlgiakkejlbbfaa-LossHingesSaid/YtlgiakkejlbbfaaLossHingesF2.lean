import Derived.Test.YtlgiakkejlbbfaaLossHingesF1
set_option linter.unusedVariables false
set_option maxRecDepth 100000
set_option maxHeartbeats 8000000
namespace Go.Proofs
open Go.AM
-- carousel/tens.Turn
def f66_j3 (a : (List Int) × (List Int)) (order : List Int) : Option Bool :=
  bindF (f14 (a.1, a.2)) fun r9 =>
  bif (!r9) then
    some true
  else
    bindF (f82 order (List.length a.1 : Int)) fun r10 =>
    some (!r10)
def f66_j2 (a : (List Int) × (List Int)) (order : List Int) : Option (Sum Unit Unit) :=
  bindF (f66_j3 a order) fun z8 =>
  bif z8 then
    some (Sum.inr ())
  else
    some (Sum.inl ())
def f66_l4 (a : (List Int) × (List Int)) (order : List Int) (go : (Int × (List Int)) → Option (List Int)) (v36 : Int) (l2 : List Int) : Option (List Int) :=
  bif (decide (v36 < (List.length order : Int))) then
    guardF (0 ≤ v36 ∧ v36 < (List.length order : Int)) <|
    guardF (0 ≤ (rd (0 : Int) order v36) ∧ (rd (0 : Int) order v36) < (List.length a.1 : Int)) <|
    guardF (0 ≤ v36 ∧ v36 < (List.length l2 : Int)) <|
    go ((IntKind.i64.wrap (v36 + (1 : Int))), (List.set l2 (Int.toNat v36) (rd (0 : Int) a.1 (rd (0 : Int) order v36))))
  else
    some l2
def f66_l8 (order : List Int) (q21_9 : Bool × (List Int)) (go : (Int × (List Int)) → Option (List Int)) (v72 : Int) (l5_2 : List Int) : Option (List Int) :=
  bif (decide (v72 < (List.length order : Int))) then
    guardF (0 ≤ v72 ∧ v72 < (List.length order : Int)) <|
    guardF (0 ≤ v72 ∧ v72 < (List.length q21_9.2 : Int)) <|
    guardF (0 ≤ (rd (0 : Int) order v72) ∧ (rd (0 : Int) order v72) < (List.length l5_2 : Int)) <|
    go ((IntKind.i64.wrap (v72 + (1 : Int))), (List.set l5_2 (Int.toNat (rd (0 : Int) order v72)) (rd (0 : Int) q21_9.2 v72)))
  else
    some l5_2
def f66_l7 (a : (List Int) × (List Int)) (order : List Int) (z11 : List Int) (r12 : Int × (List Int) × (List Int)) (go : (Int × (List Int)) → Option (List Int)) (v58 : Int) (l5 : List Int) : Option (List Int) :=
  bif (decide (v58 < (List.length r12.2.2 : Int))) then
    bindF (f83 z11 v58) fun q21_9 =>
    guardF (0 ≤ (List.length order : Int) ∧ (List.length order : Int) ≤ (List.length order : Int) ∧ Int.toNat (List.length order : Int) * 8 ≤ 140737488355328) <|
    bindF (loopF (fun go x => f66_l8 order q21_9 go x.1 x.2) fuelN ((0 : Int), (List.replicate (Int.toNat (List.length order : Int)) (0 : Int)))) fun z19 =>
    bindF (f84 a.1 z19) fun r20 =>
    guardF (0 ≤ r20.1 ∧ r20.1 < (List.length a.2 : Int)) <|
    guardF (0 ≤ v58 ∧ v58 < (List.length l5 : Int)) <|
    go ((IntKind.i64.wrap (v58 + (1 : Int))), (List.set l5 (Int.toNat v58) (rd (0 : Int) a.2 r20.1)))
  else
    some l5
def f66 (a : (List Int) × (List Int)) (order : List Int) : Option (Int × (List Int) × (List Int)) :=
  bindF (f66_j2 a order) fun z5 =>
  sumF z5 (fun z5a =>
    guardF (0 ≤ (List.length order : Int) ∧ (List.length order : Int) ≤ (List.length order : Int) ∧ Int.toNat (List.length order : Int) * 8 ≤ 140737488355328) <|
    bindF (loopF (fun go x => f66_l4 a order go x.1 x.2) fuelN ((0 : Int), (List.replicate (Int.toNat (List.length order : Int)) (0 : Int)))) fun z11 =>
    bindF (f23 z11 (0 : Int)) fun r12 =>
    bindF (loopF (fun go x => f66_l7 a order z11 r12 go x.1 x.2) fuelN ((0 : Int), r12.2.2)) fun z18 =>
    some ((0 : Int), r12.2.1, z18)) (fun z5b =>
    some ((1 : Int), [], []))
def C66 : Con where
  X := ((List Int) × (List Int)) × (List Int)
  Y := Int × (List Int) × (List Int)
  e := 0
  args x := [.dat (.p (.sl (.int .i64)) (.sl (.int .i64))) x.1, .dat (.sl (.int .i64)) x.2]
  hin x := []
  F x := f66 x.1 x.2
  ret y := [.raw true [(.osl 0), (.osl 1)], .dat (.int .i64) y.1]
  hout y := [(0, .arr 3 (.int .i64) y.2.1), (1, .arr 24 (.int .i64) y.2.2)]
  nout := 2
theorem C66_vc (a : (List Int) × (List Int)) (order : List Int) (y : Int × (List Int) × (List Int)) (hF : f66 a order = some y) : vc Try.prog tab Try.f66.ntmps 0 (match Try.f66.body with | some c => c | none => .skip) (retK tab C66 Try.f66.results.toList y) (C66.shIn (a, order)).st := by
  unfold f66 at hF
  refine Or.inl ?_
  obtain ⟨z5, hz5, hF⟩ := bindE hF
  refine Or.inr ⟨Sum.elim (fun z5a => [(0, ⟨[(1, .dat (.sl (.int .i64)) order), (2, .raw false [(.ptr 0 0)]), (4, .raw false [(.ptr 1 0)])], [(0, .cells [(.d (.sl (.int .i64)) a.1), (.d (.sl (.int .i64)) a.2)]), (1, .cells [(.c (.slice none 0 0)), (.c (.slice none 0 0))])], 2⟩)]) (fun z5b => [(1, ⟨[(4, .raw false [(.ptr 0 0)]), (5, .dat (.int .i64) (1 : Int))], [(0, .cells [(.c (.slice none 0 0)), (.c (.slice none 0 0))])], 1⟩)]) z5, ?_, ?_⟩
  · have hF := hz5
    clear hz5
    unfold f66_j2 at hF
    obtain ⟨z8, hz8, hF⟩ := bindE hF
    refine Or.inr ⟨[(0, ⟨[(1, .dat (.sl (.int .i64)) order), (2, .raw false [(.ptr 0 0)]), (4, .raw false [(.ptr 1 0)]), (29, .dat .bool z8)], [(0, .cells [(.d (.sl (.int .i64)) a.1), (.d (.sl (.int .i64)) a.2)]), (1, .cells [(.c (.slice none 0 0)), (.c (.slice none 0 0))])], 2⟩)], ?_, ?_⟩
    · have hF := hz8
      clear hz8
      unfold f66_j3 at hF
      obtain ⟨r9, hr9, hF⟩ := bindE hF
      refine Or.inl (And.intro f14_in (callV0 (callI C14 (a.1, a.2) r9 [] false C14_holds hr9 rfl rfl ?_)))
      refine (And.intro rfl (And.intro rfl (And.intro (fun h => nomatch h) (And.intro rfl (And.intro rfl (And.intro trivial (And.intro trivial ?_)))))))
      refine condN hF (fun hF => ?_) (fun hF => ?_)
      · refine gdYF ?_
        refine gdYF ?_
        refine gdYF ?_
        refine gdYF ?_
        obtain ⟨r10, hr10, hF⟩ := bindE hF
        refine Or.inl (And.intro f82_in (callV0 (callI C82 (order, (List.length a.1 : Int)) r10 [] false C82_holds hr10 rfl rfl ?_)))
        refine (And.intro rfl (And.intro rfl (And.intro (fun h => nomatch h) (And.intro rfl (And.intro rfl (And.intro trivial (And.intro trivial ?_)))))))
        refine gdYF ?_
        refine condF ?_
        have hz := someE hF
        subst hz
        refine Exists.intro [] (Exists.intro [] (Exists.intro [] (Exists.intro [] (Exists.intro [(0, some 0), (1, some 1)] (And.intro rfl (And.intro rfl (And.intro rfl (And.intro (And.intro rfl (And.intro rfl trivial)) (And.intro rfl (And.intro rfl trivial))))))))))
      · refine gdNF ?_
        refine gdNF ?_
        refine gdNF ?_
        refine gdNF ?_
        refine gdNF ?_
        refine condT ?_
        have hz := someE hF
        subst hz
        refine Exists.intro [] (Exists.intro [] (Exists.intro [] (Exists.intro [] (Exists.intro [(0, some 0), (1, some 1)] (And.intro rfl (And.intro rfl (And.intro rfl (And.intro (And.intro rfl (And.intro rfl trivial)) (And.intro rfl (And.intro rfl trivial))))))))))
    · refine And.intro ?_ trivial
      refine condI hF (fun hF => ?_) (fun hF => ?_)
      · refine Or.inl ?_
        refine Or.inl ?_
        have hz := someE hF
        subst hz
        refine Exists.intro [] (Exists.intro [] (Exists.intro [] (Exists.intro [] (Exists.intro [(0, some 1)] (And.intro rfl (And.intro rfl (And.intro (And.intro rfl trivial) (And.intro rfl trivial))))))))
      · have hz := someE hF
        subst hz
        refine Exists.intro [] (Exists.intro [] (Exists.intro [] (Exists.intro [] (Exists.intro [(0, some 0), (1, some 1)] (And.intro rfl (And.intro rfl (And.intro (And.intro rfl (And.intro rfl trivial)) (And.intro rfl (And.intro rfl trivial)))))))))
  · rcases z5 with z5a | z5b
    · dsimp only [sumF] at hF
      refine And.intro ?_ trivial
      refine Or.inl ?_
      refine guardI hF (fun hF => ?_)
      refine Or.inl ?_
      refine Or.inl ?_
      obtain ⟨z11, hz11, hF⟩ := bindE hF
      refine loopI (Int × (List Int)) (List Int) (fun x => ⟨[(1, .dat (.sl (.int .i64)) order), (2, .raw false [(.ptr 0 0)]), (4, .raw false [(.ptr 1 0)]), (6, .raw false [(.osl 2)]), (34, .dat (.sl (.int .i64)) order), (35, .dat (.int .i64) (List.length order : Int)), (36, .dat (.int .i64) x.1)], [(0, .cells [(.d (.sl (.int .i64)) a.1), (.d (.sl (.int .i64)) a.2)]), (1, .cells [(.c (.slice none 0 0)), (.c (.slice none 0 0))]), (2, .arr 3 (.int .i64) x.2)], 3⟩) (fun z => [(2, ⟨[(1, .dat (.sl (.int .i64)) order), (2, .raw false [(.ptr 0 0)]), (4, .raw false [(.ptr 1 0)]), (6, .raw false [(.osl 2)])], [(0, .cells [(.d (.sl (.int .i64)) a.1), (.d (.sl (.int .i64)) a.2)]), (1, .cells [(.c (.slice none 0 0)), (.c (.slice none 0 0))]), (2, .arr 3 (.int .i64) z)], 3⟩)]) (loopF (fun go x => f66_l4 a order go x.1 x.2)) fuelN ((0 : Int), (List.replicate (Int.toNat (List.length order : Int)) (0 : Int))) z11 (And.intro hz11 (And.intro (Exists.intro [] (Exists.intro [] (Exists.intro [] (Exists.intro [] (Exists.intro [(0, some 0), (1, some 1), (2, some 2)] (And.intro rfl (And.intro rfl (And.intro rfl (And.intro rfl (And.intro rfl (And.intro (And.intro rfl (And.intro rfl (And.intro rfl trivial))) (And.intro rfl (And.intro rfl (And.intro rfl trivial)))))))))))))) (And.intro (fun _ _ h => loopZ h) (And.intro (fun m => curI (fun v36 => fun l2 z hF => ?_)) ?_))))
      · have hF : f66_l4 a order (loopF (fun go x => f66_l4 a order go x.1 x.2) m) v36 l2 = some z := hF
        unfold f66_l4 at hF
        refine Or.inl ?_
        refine Or.inl ?_
        refine condI hF (fun hF => ?_) (fun hF => ?_)
        · refine Or.inl ?_
          refine Or.inl ?_
          refine guardI hF (fun hF => ?_)
          refine guardI hF (fun hF => ?_)
          refine guardI hF (fun hF => ?_)
          refine Or.inl ?_
          refine Exists.intro ((IntKind.i64.wrap (v36 + (1 : Int))), (List.set l2 (Int.toNat v36) (rd (0 : Int) a.1 (rd (0 : Int) order v36)))) (And.intro hF (Exists.intro [] (Exists.intro [] (Exists.intro [] (Exists.intro [] (Exists.intro [(0, some 0), (1, some 1), (2, some 2)] (And.intro rfl (And.intro rfl (And.intro rfl (And.intro rfl (And.intro rfl (And.intro (And.intro rfl (And.intro rfl (And.intro rfl trivial))) (And.intro rfl (And.intro rfl (And.intro rfl trivial)))))))))))))))
        · have hz := someE hF
          subst hz
          refine Exists.intro [] (Exists.intro [] (Exists.intro [] (Exists.intro [] (Exists.intro [(0, some 0), (1, some 1), (2, some 2)] (And.intro rfl (And.intro rfl (And.intro (And.intro rfl (And.intro rfl (And.intro rfl trivial))) (And.intro rfl (And.intro rfl (And.intro rfl trivial))))))))))
      · refine And.intro ?_ trivial
        refine Or.inl ?_
        obtain ⟨r12, hr12, hF⟩ := bindE hF
        refine Or.inl (And.intro f23_in (callV0 (callI C23 (z11, (0 : Int)) r12 [] true C23_holds hr12 rfl rfl ?_)))
        refine (And.intro rfl (And.intro rfl (And.intro (fun _ => rfl) (And.intro rfl (And.intro rfl (And.intro trivial (And.intro trivial ?_)))))))
        refine Or.inl ?_
        refine Or.inl ?_
        refine Or.inl ?_
        obtain ⟨z18, hz18, hF⟩ := bindE hF
        refine loopI (Int × (List Int)) (List Int) (fun x => ⟨[(1, .dat (.sl (.int .i64)) order), (2, .raw false [(.ptr 0 0)]), (4, .raw false [(.ptr 1 0)]), (6, .raw false [(.osl 2)]), (9, .raw false [(.ptr 3 0)]), (57, .dat (.int .i64) (List.length r12.2.2 : Int)), (58, .dat (.int .i64) x.1)], [(0, .cells [(.d (.sl (.int .i64)) a.1), (.d (.sl (.int .i64)) a.2)]), (1, .cells [(.c (.slice none 0 0)), (.c (.slice none 0 0))]), (2, .arr 3 (.int .i64) z11), (3, .cells [(.osl 4), (.osl 5)]), (4, .arr 3 (.int .i64) r12.2.1), (5, .arr 24 (.int .i64) x.2)], 6⟩) (fun z => [(4, ⟨[(4, .raw false [(.ptr 0 0)]), (9, .raw false [(.ptr 1 0)])], [(0, .cells [(.c (.slice none 0 0)), (.c (.slice none 0 0))]), (1, .cells [(.osl 2), (.osl 3)]), (2, .arr 3 (.int .i64) r12.2.1), (3, .arr 24 (.int .i64) z)], 4⟩)]) (loopF (fun go x => f66_l7 a order z11 r12 go x.1 x.2)) fuelN ((0 : Int), r12.2.2) z18 (And.intro hz18 (And.intro (Exists.intro [] (Exists.intro [] (Exists.intro [] (Exists.intro [] (Exists.intro [(0, some 0), (1, some 1), (2, some 2), (3, some 5), (4, some 3), (5, some 4)] (And.intro rfl (And.intro rfl (And.intro rfl (And.intro rfl (And.intro (And.intro rfl (And.intro rfl (And.intro rfl (And.intro rfl trivial)))) (And.intro rfl (And.intro rfl (And.intro rfl (And.intro rfl (And.intro rfl (And.intro rfl trivial)))))))))))))))) (And.intro (fun _ _ h => loopZ h) (And.intro (fun m => curI (fun v58 => fun l5 z hF => ?_)) ?_))))
        · have hF : f66_l7 a order z11 r12 (loopF (fun go x => f66_l7 a order z11 r12 go x.1 x.2) m) v58 l5 = some z := hF
          unfold f66_l7 at hF
          refine Or.inl ?_
          refine Or.inl ?_
          refine condI hF (fun hF => ?_) (fun hF => ?_)
          · refine Or.inl ?_
            refine Or.inl ?_
            refine Or.inl ?_
            obtain ⟨q21_9, hq21_9, hF⟩ := bindE hF
            refine Or.inl (And.intro f83_in (callV0 (callI C83 (z11, v58) q21_9 [] true C83_holds hq21_9 rfl rfl ?_)))
            refine (And.intro rfl (And.intro rfl (And.intro (fun _ => rfl) (And.intro rfl (And.intro rfl (And.intro trivial (And.intro trivial ?_)))))))
            refine Or.inl ?_
            refine guardI hF (fun hF => ?_)
            refine Or.inl ?_
            refine Or.inl ?_
            obtain ⟨z19, hz19, hF⟩ := bindE hF
            refine loopI (Int × (List Int)) (List Int) (fun x => ⟨[(1, .dat (.sl (.int .i64)) order), (2, .raw false [(.ptr 0 0)]), (4, .raw false [(.ptr 1 0)]), (6, .raw false [(.osl 2)]), (9, .raw false [(.ptr 3 0)]), (11, .dat (.int .i64) v58), (12, .raw false [(.osl 4)]), (14, .raw false [(.osl 5)]), (57, .dat (.int .i64) (List.length r12.2.2 : Int)), (58, .dat (.int .i64) v58), (70, .dat (.sl (.int .i64)) order), (71, .dat (.int .i64) (List.length order : Int)), (72, .dat (.int .i64) x.1)], [(0, .cells [(.d (.sl (.int .i64)) a.1), (.d (.sl (.int .i64)) a.2)]), (1, .cells [(.c (.slice none 0 0)), (.c (.slice none 0 0))]), (2, .arr 3 (.int .i64) z11), (3, .cells [(.osl 6), (.osl 7)]), (4, .arr 3 (.int .i64) q21_9.2), (5, .arr 3 (.int .i64) x.2), (6, .arr 3 (.int .i64) r12.2.1), (7, .arr 24 (.int .i64) l5)], 8⟩) (fun z => [(6, ⟨[(1, .dat (.sl (.int .i64)) order), (2, .raw false [(.ptr 0 0)]), (4, .raw false [(.ptr 1 0)]), (6, .raw false [(.osl 2)]), (9, .raw false [(.ptr 3 0)]), (11, .dat (.int .i64) v58), (14, .raw false [(.osl 4)]), (57, .dat (.int .i64) (List.length r12.2.2 : Int)), (58, .dat (.int .i64) v58)], [(0, .cells [(.d (.sl (.int .i64)) a.1), (.d (.sl (.int .i64)) a.2)]), (1, .cells [(.c (.slice none 0 0)), (.c (.slice none 0 0))]), (2, .arr 3 (.int .i64) z11), (3, .cells [(.osl 5), (.osl 6)]), (4, .arr 3 (.int .i64) z), (5, .arr 3 (.int .i64) r12.2.1), (6, .arr 24 (.int .i64) l5)], 7⟩)]) (loopF (fun go x => f66_l8 order q21_9 go x.1 x.2)) fuelN ((0 : Int), (List.replicate (Int.toNat (List.length order : Int)) (0 : Int))) z19 (And.intro hz19 (And.intro (Exists.intro [] (Exists.intro [] (Exists.intro [] (Exists.intro [] (Exists.intro [(0, some 0), (1, some 1), (2, some 2), (3, some 3), (4, some 6), (5, some 7), (6, some 4), (7, some 5)] (And.intro rfl (And.intro rfl (And.intro rfl (And.intro rfl (And.intro rfl (And.intro rfl (And.intro rfl (And.intro rfl (And.intro (And.intro rfl (And.intro rfl (And.intro rfl (And.intro rfl (And.intro rfl (And.intro rfl trivial)))))) (And.intro rfl (And.intro rfl (And.intro rfl (And.intro rfl (And.intro rfl (And.intro rfl (And.intro rfl (And.intro rfl trivial)))))))))))))))))))))) (And.intro (fun _ _ h => loopZ h) (And.intro (fun m => curI (fun v72 => fun l5_2 z hF => ?_)) ?_))))
            · have hF : f66_l8 order q21_9 (loopF (fun go x => f66_l8 order q21_9 go x.1 x.2) m) v72 l5_2 = some z := hF
              unfold f66_l8 at hF
              refine Or.inl ?_
              refine Or.inl ?_
              refine condI hF (fun hF => ?_) (fun hF => ?_)
              · refine Or.inl ?_
                refine Or.inl ?_
                refine guardI hF (fun hF => ?_)
                refine guardI hF (fun hF => ?_)
                refine guardI hF (fun hF => ?_)
                refine Or.inl ?_
                refine Exists.intro ((IntKind.i64.wrap (v72 + (1 : Int))), (List.set l5_2 (Int.toNat (rd (0 : Int) order v72)) (rd (0 : Int) q21_9.2 v72))) (And.intro hF (Exists.intro [] (Exists.intro [] (Exists.intro [] (Exists.intro [] (Exists.intro [(0, some 0), (1, some 1), (2, some 2), (3, some 3), (4, some 4), (5, some 5), (6, some 6), (7, some 7)] (And.intro rfl (And.intro rfl (And.intro rfl (And.intro rfl (And.intro rfl (And.intro rfl (And.intro rfl (And.intro rfl (And.intro (And.intro rfl (And.intro rfl (And.intro rfl (And.intro rfl (And.intro rfl (And.intro rfl trivial)))))) (And.intro rfl (And.intro rfl (And.intro rfl (And.intro rfl (And.intro rfl (And.intro rfl (And.intro rfl (And.intro rfl trivial)))))))))))))))))))))))
              · have hz := someE hF
                subst hz
                refine Exists.intro [] (Exists.intro [] (Exists.intro [] (Exists.intro [] (Exists.intro [(0, some 0), (1, some 1), (2, some 2), (3, some 3), (4, some 5), (5, some 6), (6, some 7)] (And.intro rfl (And.intro rfl (And.intro rfl (And.intro rfl (And.intro rfl (And.intro (And.intro rfl (And.intro rfl (And.intro rfl (And.intro rfl (And.intro rfl trivial))))) (And.intro rfl (And.intro rfl (And.intro rfl (And.intro rfl (And.intro rfl (And.intro rfl (And.intro rfl trivial)))))))))))))))))
            · refine And.intro ?_ trivial
              refine Or.inl ?_
              obtain ⟨r20, hr20, hF⟩ := bindE hF
              refine Or.inl (And.intro f84_in (callV0 (callI C84 (a.1, z19) r20 [] true C84_holds hr20 rfl rfl ?_)))
              refine (And.intro rfl (And.intro rfl (And.intro (fun _ => rfl) (And.intro rfl (And.intro rfl (And.intro trivial (And.intro trivial ?_)))))))
              refine Exists.intro (.take 0 (.take 1 (.take 2 (.take 3 (.take 4 (.take 5 (.take 6 (.take 7 (.take 8 (.alt 9 .done .done)))))))))) (Exists.intro [] (Exists.intro [] (And.intro rfl ?_)))
              refine guardI hF (fun hF => ?_)
              refine guardI hF (fun hF => ?_)
              refine And.intro trivial ?_
              refine Or.inl ?_
              refine Exists.intro ((IntKind.i64.wrap (v58 + (1 : Int))), (List.set l5 (Int.toNat v58) (rd (0 : Int) a.2 r20.1))) (And.intro hF (Exists.intro [] (Exists.intro [] (Exists.intro [] (Exists.intro [] (Exists.intro [(0, some 0), (1, some 1), (2, some 2), (3, some 3), (4, some 5), (5, some 6)] (And.intro rfl (And.intro rfl (And.intro rfl (And.intro rfl (And.intro (And.intro rfl (And.intro rfl (And.intro rfl (And.intro rfl trivial)))) (And.intro rfl (And.intro rfl (And.intro rfl (And.intro rfl (And.intro rfl (And.intro rfl trivial)))))))))))))))))
          · have hz := someE hF
            subst hz
            refine Exists.intro [] (Exists.intro [] (Exists.intro [] (Exists.intro [] (Exists.intro [(0, some 1), (1, some 3), (2, some 4), (3, some 5)] (And.intro rfl (And.intro (And.intro rfl (And.intro rfl trivial)) (And.intro rfl (And.intro rfl (And.intro rfl (And.intro rfl trivial))))))))))
        · refine And.intro ?_ trivial
          refine Or.inl ?_
          refine Or.inl ?_
          have hy := someE hF
          subst hy
          refine And.intro rfl (Exists.intro [] (Exists.intro [] (Exists.intro [] (Exists.intro [] (Exists.intro [(0, some 2), (1, some 3)] (And.intro rfl (And.intro rfl (And.intro (And.intro rfl trivial) (And.intro rfl (And.intro rfl trivial))))))))))
    · dsimp only [sumF] at hF
      refine And.intro ?_ trivial
      have hy := someE hF
      subst hy
      refine And.intro rfl (Exists.intro [] (Exists.intro [] (Exists.intro [] (Exists.intro [] (Exists.intro [(0, none), (1, none)] (And.intro rfl (And.intro rfl (And.intro (And.intro rfl trivial) (And.intro rfl (And.intro rfl trivial))))))))))
theorem C66_holds : C66.Holds Try.prog 66 := holds_of_vc tab_ok mixed (fn := Try.f66) (by kernel_rfl) rfl C66 (fun x y hF => C66_vc x.1 x.2 y hF)
theorem f66_in : ∃ fn, Try.prog.funcs[66]? = some fn ∧ fn.body.isSome = true ∧ (fn.name == "runtime.NumGoroutine") = false := ⟨Try.f66, by kernel_rfl, by kernel_rfl, by kernel_rfl⟩
end Go.Proofs
namespace Go.Proofs
open Go.AM
-- carousel/matm.Flip
def f47 (a : (List Int) × (List Int)) : Option (Int × (List Int) × (List Int)) :=
  bindF (f14 (a.1, a.2)) fun r1 =>
  bif (!r1) then
    some ((1 : Int), [], [])
  else
    bindF (f59 (a.1, a.2)) fun r2 =>
    bif (!r2) then
      some ((4 : Int), [], [])
    else
      bindF (f66 (a.1, a.2) ([(1 : Int), (0 : Int)])) fun r3 =>
      some (r3.1, r3.2.1, r3.2.2)
def C47 : Con where
  X := (List Int) × (List Int)
  Y := Int × (List Int) × (List Int)
  e := 0
  args x := [.dat (.p (.sl (.int .i64)) (.sl (.int .i64))) x]
  hin x := []
  F x := f47 x
  ret y := [.raw true [(.osl 0), (.osl 1)], .dat (.int .i64) y.1]
  hout y := [(0, .arr 3 (.int .i64) y.2.1), (1, .arr 24 (.int .i64) y.2.2)]
  nout := 2
theorem C47_vc (a : (List Int) × (List Int)) (y : Int × (List Int) × (List Int)) (hF : f47 a = some y) : vc Try.prog tab Try.f47.ntmps 0 (match Try.f47.body with | some c => c | none => .skip) (retK tab C47 Try.f47.results.toList y) (C47.shIn a).st := by
  unfold f47 at hF
  refine Or.inl ?_
  refine Or.inl ?_
  refine Or.inl ?_
  obtain ⟨r1, hr1, hF⟩ := bindE hF
  refine Or.inl (And.intro f14_in (callV0 (callI C14 (a.1, a.2) r1 [] false C14_holds hr1 rfl rfl ?_)))
  refine (And.intro rfl (And.intro rfl (And.intro (fun h => nomatch h) (And.intro rfl (And.intro rfl (And.intro trivial (And.intro trivial ?_)))))))
  refine condI hF (fun hF => ?_) (fun hF => ?_)
  · refine Or.inl ?_
    refine Or.inl ?_
    have hy := someE hF
    subst hy
    refine And.intro rfl (Exists.intro [] (Exists.intro [] (Exists.intro [] (Exists.intro [] (Exists.intro [(0, none), (1, none)] (And.intro rfl (And.intro rfl (And.intro (And.intro rfl trivial) (And.intro rfl (And.intro rfl trivial))))))))))
  · refine Or.inl ?_
    obtain ⟨r2, hr2, hF⟩ := bindE hF
    refine Or.inl (And.intro f59_in (callV0 (callI C59 (a.1, a.2) r2 [] false C59_holds hr2 rfl rfl ?_)))
    refine (And.intro rfl (And.intro rfl (And.intro (fun h => nomatch h) (And.intro rfl (And.intro rfl (And.intro trivial (And.intro trivial ?_)))))))
    refine condI hF (fun hF => ?_) (fun hF => ?_)
    · refine Or.inl ?_
      refine Or.inl ?_
      have hy := someE hF
      subst hy
      refine And.intro rfl (Exists.intro [] (Exists.intro [] (Exists.intro [] (Exists.intro [] (Exists.intro [(0, none), (1, none)] (And.intro rfl (And.intro rfl (And.intro (And.intro rfl trivial) (And.intro rfl (And.intro rfl trivial))))))))))
    · refine Or.inl ?_
      refine Or.inl ?_
      obtain ⟨r3, hr3, hF⟩ := bindE hF
      refine Or.inl (And.intro f66_in (callV0 (callI C66 ((a.1, a.2), [(1 : Int), (0 : Int)]) r3 [] true C66_holds hr3 rfl rfl ?_)))
      refine (And.intro rfl (And.intro rfl (And.intro rfl (And.intro (fun _ => rfl) (And.intro rfl (And.intro rfl (And.intro trivial (And.intro trivial ?_))))))))
      refine Or.inl ?_
      have hy := someE hF
      subst hy
      refine And.intro rfl (Exists.intro [] (Exists.intro [] (Exists.intro [] (Exists.intro [] (Exists.intro [(0, some 3), (1, some 4)] (And.intro rfl (And.intro rfl (And.intro (And.intro rfl trivial) (And.intro rfl (And.intro rfl trivial))))))))))
theorem C47_holds : C47.Holds Try.prog 47 := holds_of_vc tab_ok mixed (fn := Try.f47) (by kernel_rfl) rfl C47 (fun x y hF => C47_vc x y hF)
theorem f47_in : ∃ fn, Try.prog.funcs[47]? = some fn ∧ fn.body.isSome = true ∧ (fn.name == "runtime.NumGoroutine") = false := ⟨Try.f47, by kernel_rfl, by kernel_rfl, by kernel_rfl⟩
end Go.Proofs
namespace Go.Proofs
open Go.AM
-- carousel/wide.size
def f88 (v : Int) : Option Int :=
  bif (decide (v < (0 : Int))) then
    some (IntKind.u64.wrap (0 - (IntKind.u64.wrap v)))
  else
    some (IntKind.u64.wrap v)
def C88 : Con where
  X := Int
  Y := Int
  e := 0
  args x := [.dat (.int .i64) x]
  hin x := []
  F x := f88 x
  ret y := [.dat (.int .u64) y]
  hout y := []
  nout := 0
theorem C88_vc (v : Int) (y : Int) (hF : f88 v = some y) : vc Try.prog tab Try.f88.ntmps 0 (match Try.f88.body with | some c => c | none => .skip) (retK tab C88 Try.f88.results.toList y) (C88.shIn v).st := by
  unfold f88 at hF
  refine Or.inl ?_
  refine Or.inl ?_
  refine Or.inl ?_
  refine condI hF (fun hF => ?_) (fun hF => ?_)
  · refine Or.inl ?_
    have hy := someE hF
    subst hy
    refine And.intro rfl (Exists.intro [] (Exists.intro [] (Exists.intro [] (Exists.intro [] (Exists.intro [] (And.intro rfl (And.intro rfl (And.intro trivial trivial))))))))
  · refine Or.inl ?_
    have hy := someE hF
    subst hy
    refine And.intro rfl (Exists.intro [] (Exists.intro [] (Exists.intro [] (Exists.intro [] (Exists.intro [] (And.intro rfl (And.intro rfl (And.intro trivial trivial))))))))
theorem C88_holds : C88.Holds Try.prog 88 := holds_of_vc tab_ok mixed (fn := Try.f88) (by kernel_rfl) rfl C88 (fun x y hF => C88_vc x y hF)
theorem f88_in : ∃ fn, Try.prog.funcs[88]? = some fn ∧ fn.body.isSome = true ∧ (fn.name == "runtime.NumGoroutine") = false := ⟨Try.f88, by kernel_rfl, by kernel_rfl, by kernel_rfl⟩
end Go.Proofs
namespace Go.Proofs
open Go.AM
-- carousel/wide.Sub
def f98 (a : Int × Int) (b : Int × Int) : Option (Int × Int) :=
  bindF (sub64 a.2 b.2 (0 : Int)) fun r1 =>
  bindF (sub64 (IntKind.u64.wrap a.1) (IntKind.u64.wrap b.1) r1.2) fun r2 =>
  some ((IntKind.i64.wrap r2.1), r1.1)
def C98 : Con where
  X := (Int × Int) × (Int × Int)
  Y := Int × Int
  e := 0
  args x := [.dat (.p (.int .i64) (.int .u64)) x.1, .dat (.p (.int .i64) (.int .u64)) x.2]
  hin x := []
  F x := f98 x.1 x.2
  ret y := [.raw true [(.d (.int .i64) y.1), (.d (.int .u64) y.2)]]
  hout y := []
  nout := 0
theorem C98_vc (a : Int × Int) (b : Int × Int) (y : Int × Int) (hF : f98 a b = some y) : vc Try.prog tab Try.f98.ntmps 0 (match Try.f98.body with | some c => c | none => .skip) (retK tab C98 Try.f98.results.toList y) (C98.shIn (a, b)).st := by
  unfold f98 at hF
  refine Or.inl ?_
  refine Or.inl ?_
  obtain ⟨r1, hr1, hF⟩ := bindE hF
  refine Or.inr ⟨ext3 sub64, [r1.1, r1.2], sub64_ok, And.intro (ext3I hr1) ?_⟩
  refine Or.inl ?_
  obtain ⟨r2, hr2, hF⟩ := bindE hF
  refine Or.inr ⟨ext3 sub64, [r2.1, r2.2], sub64_ok, And.intro (ext3I hr2) ?_⟩
  refine Or.inl ?_
  refine Or.inl ?_
  have hy := someE hF
  subst hy
  refine And.intro rfl (Exists.intro [] (Exists.intro [] (Exists.intro [] (Exists.intro [] (Exists.intro [] (And.intro rfl (And.intro (And.intro rfl trivial) trivial)))))))
theorem C98_holds : C98.Holds Try.prog 98 := holds_of_vc tab_ok mixed (fn := Try.f98) (by kernel_rfl) rfl C98 (fun x y hF => C98_vc x.1 x.2 y hF)
theorem f98_in : ∃ fn, Try.prog.funcs[98]? = some fn ∧ fn.body.isSome = true ∧ (fn.name == "runtime.NumGoroutine") = false := ⟨Try.f98, by kernel_rfl, by kernel_rfl, by kernel_rfl⟩
end Go.Proofs
namespace Go.Proofs
open Go.AM
-- carousel/wide.Neg
def f90 (a : Int × Int) : Option (Int × Int) :=
  bindF (f98 ((0 : Int), (0 : Int)) (a.1, a.2)) fun r1 =>
  some (r1.1, r1.2)
def C90 : Con where
  X := Int × Int
  Y := Int × Int
  e := 0
  args x := [.dat (.p (.int .i64) (.int .u64)) x]
  hin x := []
  F x := f90 x
  ret y := [.raw true [(.d (.int .i64) y.1), (.d (.int .u64) y.2)]]
  hout y := []
  nout := 0
theorem C90_vc (a : Int × Int) (y : Int × Int) (hF : f90 a = some y) : vc Try.prog tab Try.f90.ntmps 0 (match Try.f90.body with | some c => c | none => .skip) (retK tab C90 Try.f90.results.toList y) (C90.shIn a).st := by
  unfold f90 at hF
  refine Or.inl ?_
  refine Or.inl ?_
  obtain ⟨r1, hr1, hF⟩ := bindE hF
  refine Or.inl (And.intro f98_in (callV0 (callI C98 (((0 : Int), (0 : Int)), (a.1, a.2)) r1 [] false C98_holds hr1 rfl rfl ?_)))
  refine (And.intro rfl (And.intro rfl (And.intro rfl (And.intro rfl (And.intro (fun h => nomatch h) (And.intro rfl (And.intro rfl (And.intro trivial (And.intro trivial ?_)))))))))
  refine Or.inl ?_
  have hy := someE hF
  subst hy
  refine And.intro rfl (Exists.intro [] (Exists.intro [] (Exists.intro [] (Exists.intro [] (Exists.intro [] (And.intro rfl (And.intro (And.intro rfl trivial) trivial)))))))
theorem C90_holds : C90.Holds Try.prog 90 := holds_of_vc tab_ok mixed (fn := Try.f90) (by kernel_rfl) rfl C90 (fun x y hF => C90_vc x y hF)
theorem f90_in : ∃ fn, Try.prog.funcs[90]? = some fn ∧ fn.body.isSome = true ∧ (fn.name == "runtime.NumGoroutine") = false := ⟨Try.f90, by kernel_rfl, by kernel_rfl, by kernel_rfl⟩
end Go.Proofs
namespace Go.Proofs
open Go.AM
-- carousel/wide.Prod
def f80 (a : Int) (b : Int) : Option (Int × Int) :=
  bindF (f88 a) fun r1 =>
  bindF (f88 b) fun r2 =>
  bindF (f40 r1 r2) fun r3 =>
  bif (!((decide (a < (0 : Int))) == (decide (b < (0 : Int))))) then
    bindF (f90 ((IntKind.i64.wrap r3.1), r3.2)) fun r4 =>
    some (r4.1, r4.2)
  else
    some ((IntKind.i64.wrap r3.1), r3.2)
def C80 : Con where
  X := Int × Int
  Y := Int × Int
  e := 0
  args x := [.dat (.int .i64) x.1, .dat (.int .i64) x.2]
  hin x := []
  F x := f80 x.1 x.2
  ret y := [.raw true [(.d (.int .i64) y.1), (.d (.int .u64) y.2)]]
  hout y := []
  nout := 0
theorem C80_vc (a : Int) (b : Int) (y : Int × Int) (hF : f80 a b = some y) : vc Try.prog tab Try.f80.ntmps 0 (match Try.f80.body with | some c => c | none => .skip) (retK tab C80 Try.f80.results.toList y) (C80.shIn (a, b)).st := by
  unfold f80 at hF
  refine Or.inl ?_
  refine Or.inl ?_
  obtain ⟨r1, hr1, hF⟩ := bindE hF
  refine Or.inl (And.intro f88_in (callV0 (callI C88 a r1 [] false C88_holds hr1 rfl rfl ?_)))
  refine (And.intro rfl (And.intro (fun h => nomatch h) (And.intro rfl (And.intro rfl (And.intro trivial (And.intro trivial ?_))))))
  obtain ⟨r2, hr2, hF⟩ := bindE hF
  refine Or.inl (And.intro f88_in (callV0 (callI C88 b r2 [] false C88_holds hr2 rfl rfl ?_)))
  refine (And.intro rfl (And.intro (fun h => nomatch h) (And.intro rfl (And.intro rfl (And.intro trivial (And.intro trivial ?_))))))
  obtain ⟨r3, hr3, hF⟩ := bindE hF
  refine Or.inl (And.intro f40_in (callV0 (callI C40 (r1, r2) r3 [] false C40_holds hr3 rfl rfl ?_)))
  refine (And.intro rfl (And.intro rfl (And.intro (fun h => nomatch h) (And.intro rfl (And.intro rfl (And.intro trivial (And.intro trivial ?_)))))))
  refine Or.inl ?_
  refine Or.inl ?_
  refine Or.inl ?_
  refine Or.inl ?_
  refine condI hF (fun hF => ?_) (fun hF => ?_)
  · refine Or.inl ?_
    obtain ⟨r4, hr4, hF⟩ := bindE hF
    refine Or.inl (And.intro f90_in (callV0 (callI C90 ((IntKind.i64.wrap r3.1), r3.2) r4 [] false C90_holds hr4 rfl rfl ?_)))
    refine (And.intro rfl (And.intro rfl (And.intro (fun h => nomatch h) (And.intro rfl (And.intro rfl (And.intro trivial (And.intro trivial ?_)))))))
    refine Or.inl ?_
    have hy := someE hF
    subst hy
    refine And.intro rfl (Exists.intro [] (Exists.intro [] (Exists.intro [] (Exists.intro [] (Exists.intro [] (And.intro rfl (And.intro (And.intro rfl trivial) trivial)))))))
  · refine Or.inl ?_
    refine Or.inl ?_
    have hy := someE hF
    subst hy
    refine And.intro rfl (Exists.intro [] (Exists.intro [] (Exists.intro [] (Exists.intro [] (Exists.intro [] (And.intro rfl (And.intro (And.intro rfl trivial) trivial)))))))
theorem C80_holds : C80.Holds Try.prog 80 := holds_of_vc tab_ok mixed (fn := Try.f80) (by kernel_rfl) rfl C80 (fun x y hF => C80_vc x.1 x.2 y hF)
theorem f80_in : ∃ fn, Try.prog.funcs[80]? = some fn ∧ fn.body.isSome = true ∧ (fn.name == "runtime.NumGoroutine") = false := ⟨Try.f80, by kernel_rfl, by kernel_rfl, by kernel_rfl⟩
end Go.Proofs
namespace Go.Proofs
open Go.AM
-- (*carousel/wide.Acc).Plus
def f64 (s_top : Int) (s_low_Hi : Int) (s_low_Lo : Int) (a : Int) (b : Int) : Option (Int × Int × Int) :=
  bindF (f80 a b) fun q4_13 =>
  bindF (add64 s_low_Lo q4_13.2 (0 : Int)) fun q1_7 =>
  bindF (add64 (IntKind.u64.wrap s_low_Hi) (IntKind.u64.wrap q4_13.1) q1_7.2) fun q2_10 =>
  some ((IntKind.i64.wrap (s_top + (IntKind.i64.wrap ((Int.fdiv q4_13.1 (2 ^ min (Int.toNat (63 : Int)) (IntKind.bits IntKind.i64))) + (IntKind.i64.wrap q2_10.2))))), (IntKind.i64.wrap q2_10.1), q1_7.1)
def C64 : Con where
  X := Int × Int × Int × Int × Int
  Y := Int × Int × Int
  e := 1
  args x := [.raw false [(.ptr 0 0)], .dat (.int .i64) x.2.2.2.1, .dat (.int .i64) x.2.2.2.2]
  hin x := [(0, .cells [(.d (.int .i64) x.1), (.d (.int .i64) x.2.1), (.d (.int .u64) x.2.2.1)])]
  F x := f64 x.1 x.2.1 x.2.2.1 x.2.2.2.1 x.2.2.2.2
  ret y := []
  hout y := [(0, .cells [(.d (.int .i64) y.1), (.d (.int .i64) y.2.1), (.d (.int .u64) y.2.2)])]
  nout := 1
theorem C64_vc (s_top : Int) (s_low_Hi : Int) (s_low_Lo : Int) (a : Int) (b : Int) (y : Int × Int × Int) (hF : f64 s_top s_low_Hi s_low_Lo a b = some y) : vc Try.prog tab Try.f64.ntmps 1 (match Try.f64.body with | some c => c | none => .skip) (retK tab C64 Try.f64.results.toList y) (C64.shIn (s_top, s_low_Hi, s_low_Lo, a, b)).st := by
  unfold f64 at hF
  refine Or.inl ?_
  obtain ⟨q4_13, hq4_13, hF⟩ := bindE hF
  refine Or.inl (And.intro f80_in (callV0 (callI C80 (a, b) q4_13 [] false C80_holds hq4_13 rfl rfl ?_)))
  refine (And.intro rfl (And.intro rfl (And.intro (fun h => nomatch h) (And.intro rfl (And.intro rfl (And.intro trivial (And.intro trivial ?_)))))))
  refine Or.inl ?_
  refine Or.inl ?_
  refine Exists.intro (.take 0 (.take 1 (.take 2 (.take 3 (.take 4 (.take 5 (.take 6 (.alt 7 (.take 8 (.take 9 (.take 10 (.take 11 (.take 12 .done))))) .done)))))))) (Exists.intro [] (Exists.intro [] (And.intro rfl ?_)))
  refine And.intro trivial ?_
  obtain ⟨q1_7, hq1_7, hF⟩ := bindE hF
  refine Or.inr ⟨ext3 add64, [q1_7.1, q1_7.2], add64_ok, And.intro (ext3I hq1_7) ?_⟩
  refine Or.inl ?_
  refine Exists.intro (.take 0 (.take 1 (.take 2 (.take 3 (.take 4 (.take 5 (.take 6 (.take 7 (.take 8 (.take 9 (.alt 10 (.take 11 (.take 12 (.take 13 (.take 14 (.take 15 .done))))) .done))))))))))) (Exists.intro [] (Exists.intro [] (And.intro rfl ?_)))
  refine And.intro trivial ?_
  obtain ⟨q2_10, hq2_10, hF⟩ := bindE hF
  refine Or.inr ⟨ext3 add64, [q2_10.1, q2_10.2], add64_ok, And.intro (ext3I hq2_10) ?_⟩
  refine Or.inl ?_
  refine Or.inl ?_
  refine Exists.intro (.take 0 (.take 1 (.take 2 (.take 3 (.take 4 (.take 5 (.take 6 (.take 7 (.take 8 (.take 9 (.take 10 (.take 11 (.take 12 (.alt 13 .done .done)))))))))))))) (Exists.intro [(13, [0])] (Exists.intro [] (And.intro rfl ?_)))
  refine And.intro (by decide) ?_
  refine And.intro trivial ?_
  refine Or.inl ?_
  have hy := someE hF
  subst hy
  refine And.intro rfl (Exists.intro [] (Exists.intro [] (Exists.intro [] (Exists.intro [] (Exists.intro [(0, some 0)] (And.intro rfl (And.intro trivial (And.intro rfl trivial))))))))
theorem C64_holds : C64.Holds Try.prog 64 := holds_of_vc tab_ok mixed (fn := Try.f64) (by kernel_rfl) rfl C64 (fun x y hF => C64_vc x.1 x.2.1 x.2.2.1 x.2.2.2.1 x.2.2.2.2 y hF)
theorem f64_in : ∃ fn, Try.prog.funcs[64]? = some fn ∧ fn.body.isSome = true ∧ (fn.name == "runtime.NumGoroutine") = false := ⟨Try.f64, by kernel_rfl, by kernel_rfl, by kernel_rfl⟩
end Go.Proofs
namespace Go.Proofs
open Go.AM
-- carousel/wide.down
def f95 (a : Int × Int) (n : Int) : Option (Int × Int × Int × Int) :=
  bif (decide (n ≥ (64 : Int))) then
    guardF (0 ≤ (IntKind.i64.wrap (n - (64 : Int)))) <|
    guardF (0 ≤ (IntKind.i64.wrap ((64 : Int) - (IntKind.i64.wrap (n - (64 : Int)))))) <|
    guardF (0 ≤ (IntKind.i64.wrap (n - (64 : Int)))) <|
    guardF (0 ≤ (IntKind.i64.wrap ((64 : Int) - (IntKind.i64.wrap (n - (64 : Int)))))) <|
    some ((Int.fdiv a.1 (2 ^ min (Int.toNat (63 : Int)) (IntKind.bits IntKind.i64))), (IntKind.u64.wrap (Int.fdiv a.1 (2 ^ min (Int.toNat (IntKind.i64.wrap (n - (64 : Int)))) (IntKind.bits IntKind.i64)))), (bitsOf IntKind.u64 (fun p q => p ||| q) (IntKind.u64.wrap ((IntKind.u64.wrap a.1) * 2 ^ min (Int.toNat (IntKind.i64.wrap ((64 : Int) - (IntKind.i64.wrap (n - (64 : Int)))))) (IntKind.bits IntKind.u64))) (Int.fdiv a.2 (2 ^ min (Int.toNat (IntKind.i64.wrap (n - (64 : Int)))) (IntKind.bits IntKind.u64)))), (IntKind.u64.wrap (a.2 * 2 ^ min (Int.toNat (IntKind.i64.wrap ((64 : Int) - (IntKind.i64.wrap (n - (64 : Int)))))) (IntKind.bits IntKind.u64))))
  else
    guardF (0 ≤ n) <|
    guardF (0 ≤ (IntKind.i64.wrap ((64 : Int) - n))) <|
    guardF (0 ≤ n) <|
    guardF (0 ≤ (IntKind.i64.wrap ((64 : Int) - n))) <|
    some ((Int.fdiv a.1 (2 ^ min (Int.toNat n) (IntKind.bits IntKind.i64))), (bitsOf IntKind.u64 (fun p q => p ||| q) (IntKind.u64.wrap ((IntKind.u64.wrap a.1) * 2 ^ min (Int.toNat (IntKind.i64.wrap ((64 : Int) - n))) (IntKind.bits IntKind.u64))) (Int.fdiv a.2 (2 ^ min (Int.toNat n) (IntKind.bits IntKind.u64)))), (IntKind.u64.wrap (a.2 * 2 ^ min (Int.toNat (IntKind.i64.wrap ((64 : Int) - n))) (IntKind.bits IntKind.u64))), (0 : Int))
def C95 : Con where
  X := (Int × Int) × Int
  Y := Int × Int × Int × Int
  e := 0
  args x := [.dat (.p (.int .i64) (.int .u64)) x.1, .dat (.int .i64) x.2]
  hin x := []
  F x := f95 x.1 x.2
  ret y := [.raw true [(.d (.int .i64) y.1), (.d (.int .u64) y.2.1)], .dat (.int .u64) y.2.2.1, .dat (.int .u64) y.2.2.2]
  hout y := []
  nout := 0
theorem C95_vc (a : Int × Int) (n : Int) (y : Int × Int × Int × Int) (hF : f95 a n = some y) : vc Try.prog tab Try.f95.ntmps 0 (match Try.f95.body with | some c => c | none => .skip) (retK tab C95 Try.f95.results.toList y) (C95.shIn (a, n)).st := by
  unfold f95 at hF
  refine Or.inl ?_
  refine Or.inl ?_
  refine Exists.intro (.take 0 (.take 1 (.take 2 (.take 3 (.take 4 (.take 5 (.take 6 .done))))))) (Exists.intro [] (Exists.intro [] (And.intro rfl ?_)))
  refine Or.inl ?_
  refine Or.inl ?_
  refine condI hF (fun hF => ?_) (fun hF => ?_)
  · refine Or.inl ?_
    refine Or.inl ?_
    refine Exists.intro (.take 0 (.take 1 (.take 2 (.take 3 (.take 4 (.take 5 (.take 6 (.take 7 (.take 8 (.alt 9 (.alt 10 .done .done) .done)))))))))) (Exists.intro [] (Exists.intro [] (And.intro rfl ?_)))
    refine And.intro (by decide) ?_
    refine guardI hF (fun hF => ?_)
    refine And.intro trivial ?_
    refine And.intro trivial ?_
    refine Or.inl ?_
    refine Or.inl ?_
    refine Exists.intro (.take 0 (.take 1 (.take 2 (.take 3 (.take 4 (.take 5 (.take 6 (.take 7 (.take 8 (.take 9 (.take 10 (.take 11 (.take 12 (.alt 13 (.take 14 (.take 15 .done)) .done)))))))))))))) (Exists.intro [] (Exists.intro [] (And.intro rfl ?_)))
    refine guardI hF (fun hF => ?_)
    refine guardI hF (fun hF => ?_)
    refine guardI hF (fun hF => ?_)
    refine And.intro trivial ?_
    refine Or.inl ?_
    have hy := someE hF
    subst hy
    refine And.intro rfl (Exists.intro [] (Exists.intro [] (Exists.intro [] (Exists.intro [] (Exists.intro [] (And.intro rfl (And.intro rfl (And.intro rfl (And.intro (And.intro rfl trivial) trivial)))))))))
  · refine Or.inl ?_
    refine Exists.intro (.take 0 (.take 1 (.take 2 (.take 3 (.take 4 (.take 5 (.take 6 (.take 7 (.take 8 (.take 9 (.take 10 (.take 11 (.take 12 (.take 13 (.take 14 (.take 15 (.take 16 (.alt 17 (.take 18 (.take 19 .done)) .done)))))))))))))))))) (Exists.intro [] (Exists.intro [] (And.intro rfl ?_)))
    refine guardI hF (fun hF => ?_)
    refine guardI hF (fun hF => ?_)
    refine guardI hF (fun hF => ?_)
    refine guardI hF (fun hF => ?_)
    refine And.intro trivial ?_
    refine Or.inl ?_
    have hy := someE hF
    subst hy
    refine And.intro rfl (Exists.intro [] (Exists.intro [] (Exists.intro [] (Exists.intro [] (Exists.intro [] (And.intro rfl (And.intro rfl (And.intro rfl (And.intro (And.intro rfl trivial) trivial)))))))))
theorem C95_holds : C95.Holds Try.prog 95 := holds_of_vc tab_ok mixed (fn := Try.f95) (by kernel_rfl) rfl C95 (fun x y hF => C95_vc x.1 x.2 y hF)
theorem f95_in : ∃ fn, Try.prog.funcs[95]? = some fn ∧ fn.body.isSome = true ∧ (fn.name == "runtime.NumGoroutine") = false := ⟨Try.f95, by kernel_rfl, by kernel_rfl, by kernel_rfl⟩
end Go.Proofs
namespace Go.Proofs
open Go.AM
-- carousel/wide.Of
def f69 (n : Int) : Option (Int × Int) :=
  some ((Int.fdiv n (2 ^ min (Int.toNat (63 : Int)) (IntKind.bits IntKind.i64))), (IntKind.u64.wrap n))
def C69 : Con where
  X := Int
  Y := Int × Int
  e := 0
  args x := [.dat (.int .i64) x]
  hin x := []
  F x := f69 x
  ret y := [.raw true [(.d (.int .i64) y.1), (.d (.int .u64) y.2)]]
  hout y := []
  nout := 0
theorem C69_vc (n : Int) (y : Int × Int) (hF : f69 n = some y) : vc Try.prog tab Try.f69.ntmps 0 (match Try.f69.body with | some c => c | none => .skip) (retK tab C69 Try.f69.results.toList y) (C69.shIn n).st := by
  unfold f69 at hF
  refine Or.inl ?_
  refine Or.inl ?_
  refine And.intro (by decide) ?_
  refine Or.inl ?_
  have hy := someE hF
  subst hy
  refine And.intro rfl (Exists.intro [] (Exists.intro [] (Exists.intro [] (Exists.intro [] (Exists.intro [] (And.intro rfl (And.intro (And.intro rfl trivial) trivial)))))))
theorem C69_holds : C69.Holds Try.prog 69 := holds_of_vc tab_ok mixed (fn := Try.f69) (by kernel_rfl) rfl C69 (fun x y hF => C69_vc x y hF)
theorem f69_in : ∃ fn, Try.prog.funcs[69]? = some fn ∧ fn.body.isSome = true ∧ (fn.name == "runtime.NumGoroutine") = false := ⟨Try.f69, by kernel_rfl, by kernel_rfl, by kernel_rfl⟩
end Go.Proofs
namespace Go.Proofs
open Go.AM
-- carousel/wide.Add
def f68 (a : Int × Int) (b : Int × Int) : Option (Int × Int) :=
  bindF (add64 a.2 b.2 (0 : Int)) fun r1 =>
  bindF (add64 (IntKind.u64.wrap a.1) (IntKind.u64.wrap b.1) r1.2) fun r2 =>
  some ((IntKind.i64.wrap r2.1), r1.1)
def C68 : Con where
  X := (Int × Int) × (Int × Int)
  Y := Int × Int
  e := 0
  args x := [.dat (.p (.int .i64) (.int .u64)) x.1, .dat (.p (.int .i64) (.int .u64)) x.2]
  hin x := []
  F x := f68 x.1 x.2
  ret y := [.raw true [(.d (.int .i64) y.1), (.d (.int .u64) y.2)]]
  hout y := []
  nout := 0
theorem C68_vc (a : Int × Int) (b : Int × Int) (y : Int × Int) (hF : f68 a b = some y) : vc Try.prog tab Try.f68.ntmps 0 (match Try.f68.body with | some c => c | none => .skip) (retK tab C68 Try.f68.results.toList y) (C68.shIn (a, b)).st := by
  unfold f68 at hF
  refine Or.inl ?_
  refine Or.inl ?_
  obtain ⟨r1, hr1, hF⟩ := bindE hF
  refine Or.inr ⟨ext3 add64, [r1.1, r1.2], add64_ok, And.intro (ext3I hr1) ?_⟩
  refine Or.inl ?_
  obtain ⟨r2, hr2, hF⟩ := bindE hF
  refine Or.inr ⟨ext3 add64, [r2.1, r2.2], add64_ok, And.intro (ext3I hr2) ?_⟩
  refine Or.inl ?_
  refine Or.inl ?_
  have hy := someE hF
  subst hy
  refine And.intro rfl (Exists.intro [] (Exists.intro [] (Exists.intro [] (Exists.intro [] (Exists.intro [] (And.intro rfl (And.intro (And.intro rfl trivial) trivial)))))))
theorem C68_holds : C68.Holds Try.prog 68 := holds_of_vc tab_ok mixed (fn := Try.f68) (by kernel_rfl) rfl C68 (fun x y hF => C68_vc x.1 x.2 y hF)
theorem f68_in : ∃ fn, Try.prog.funcs[68]? = some fn ∧ fn.body.isSome = true ∧ (fn.name == "runtime.NumGoroutine") = false := ⟨Try.f68, by kernel_rfl, by kernel_rfl, by kernel_rfl⟩
end Go.Proofs
namespace Go.Proofs
open Go.AM
-- carousel/wide.Shift
def f81_j1 (n : Int) : Option (Sum Unit Unit) :=
  bif (decide (n < (1 : Int))) then
    some (Sum.inr ())
  else
    bif (decide (n > (126 : Int))) then
      some (Sum.inr ())
    else
      some (Sum.inl ())
def f81_j2 (q5_3 : Int × Int × Int × Int) : Option Bool :=
  bif (decide (q5_3.2.2.1 > (9223372036854775808 : Int))) then
    some true
  else
    bif (q5_3.2.2.1 == (9223372036854775808 : Int)) then
      bif (decide (q5_3.2.2.2 > (0 : Int))) then
        some true
      else
        some ((bitsOf IntKind.u64 (fun p q => p &&& q) q5_3.2.1 (1 : Int)) == (1 : Int))
    else
      some false
def f81 (a : Int × Int) (n : Int) : Option (Int × Int) :=
  bindF (f81_j1 n) fun z1 =>
  sumF z1 (fun z1a =>
    bindF (f95 (a.1, a.2) n) fun q5_3 =>
    bindF (f81_j2 q5_3) fun z2 =>
    bif z2 then
      bindF (f69 (1 : Int)) fun q5_1 =>
      bindF (f68 (q5_3.1, q5_3.2.1) (q5_1.1, q5_1.2)) fun q5_2 =>
      some (q5_2.1, q5_2.2)
    else
      some (q5_3.1, q5_3.2.1)) (fun z1b =>
    some (a.1, a.2))
def C81 : Con where
  X := (Int × Int) × Int
  Y := Int × Int
  e := 0
  args x := [.dat (.p (.int .i64) (.int .u64)) x.1, .dat (.int .i64) x.2]
  hin x := []
  F x := f81 x.1 x.2
  ret y := [.raw true [(.d (.int .i64) y.1), (.d (.int .u64) y.2)]]
  hout y := []
  nout := 0
theorem C81_vc (a : Int × Int) (n : Int) (y : Int × Int) (hF : f81 a n = some y) : vc Try.prog tab Try.f81.ntmps 0 (match Try.f81.body with | some c => c | none => .skip) (retK tab C81 Try.f81.results.toList y) (C81.shIn (a, n)).st := by
  unfold f81 at hF
  refine Or.inl ?_
  obtain ⟨z1, hz1, hF⟩ := bindE hF
  refine Or.inr ⟨Sum.elim (fun z1a => [(0, ⟨[(1, .dat (.int .i64) n), (2, .raw false [(.ptr 0 0)]), (4, .raw false [(.ptr 1 0)])], [(0, .cells [(.d (.int .i64) a.1), (.d (.int .u64) a.2)]), (1, .cells [(.d (.int .i64) (0 : Int)), (.d (.int .u64) (0 : Int))])], 2⟩)]) (fun z1b => [(1, ⟨[(4, .raw false [(.ptr 0 0)])], [(0, .cells [(.d (.int .i64) a.1), (.d (.int .u64) a.2)])], 1⟩)]) z1, ?_, ?_⟩
  · have hF := hz1
    clear hz1
    unfold f81_j1 at hF
    refine Or.inl ?_
    refine condN hF (fun hF => ?_) (fun hF => ?_)
    · refine gdYF ?_
      refine condF ?_
      refine condI hF (fun hF => ?_) (fun hF => ?_)
      · refine Or.inl ?_
        refine Or.inl ?_
        have hz := someE hF
        subst hz
        refine Exists.intro [] (Exists.intro [] (Exists.intro [] (Exists.intro [] (Exists.intro [(0, some 1)] (And.intro rfl (And.intro (And.intro rfl trivial) (And.intro rfl trivial)))))))
      · have hz := someE hF
        subst hz
        refine Exists.intro [] (Exists.intro [] (Exists.intro [] (Exists.intro [] (Exists.intro [(0, some 0), (1, some 1)] (And.intro rfl (And.intro rfl (And.intro (And.intro rfl (And.intro rfl trivial)) (And.intro rfl (And.intro rfl trivial)))))))))
    · refine gdNF ?_
      refine condT ?_
      refine condT ?_
      refine Or.inl ?_
      refine Or.inl ?_
      have hz := someE hF
      subst hz
      refine Exists.intro [] (Exists.intro [] (Exists.intro [] (Exists.intro [] (Exists.intro [(0, some 1)] (And.intro rfl (And.intro (And.intro rfl trivial) (And.intro rfl trivial)))))))
  · rcases z1 with z1a | z1b
    · dsimp only [sumF] at hF
      refine And.intro ?_ trivial
      refine Or.inl ?_
      obtain ⟨q5_3, hq5_3, hF⟩ := bindE hF
      refine Or.inl (And.intro f95_in (callV0 (callI C95 ((a.1, a.2), n) q5_3 [] false C95_holds hq5_3 rfl rfl ?_)))
      refine (And.intro rfl (And.intro rfl (And.intro rfl (And.intro (fun h => nomatch h) (And.intro rfl (And.intro rfl (And.intro trivial (And.intro trivial ?_))))))))
      refine Or.inl ?_
      refine Or.inl ?_
      obtain ⟨z2, hz2, hF⟩ := bindE hF
      refine Or.inr ⟨[(0, ⟨[(4, .raw false [(.ptr 0 0)]), (5, .raw false [(.ptr 1 0)]), (37, .dat .bool z2)], [(0, .cells [(.d (.int .i64) (0 : Int)), (.d (.int .u64) (0 : Int))]), (1, .cells [(.d (.int .i64) q5_3.1), (.d (.int .u64) q5_3.2.1)])], 2⟩)], ?_, ?_⟩
      · have hF := hz2
        clear hz2
        unfold f81_j2 at hF
        refine condN hF (fun hF => ?_) (fun hF => ?_)
        · refine gdYF ?_
          refine gdYF ?_
          refine condI hF (fun hF => ?_) (fun hF => ?_)
          · refine gdYT ?_
            refine gdYT ?_
            refine condN hF (fun hF => ?_) (fun hF => ?_)
            · refine gdYF ?_
              refine gdYF ?_
              refine gdYF ?_
              refine gdYT ?_
              refine condF ?_
              refine gdYF ?_
              refine condT ?_
              refine condF ?_
              have hz := someE hF
              subst hz
              refine Exists.intro [] (Exists.intro [] (Exists.intro [] (Exists.intro [] (Exists.intro [(0, some 1), (1, some 2)] (And.intro rfl (And.intro rfl (And.intro (And.intro rfl (And.intro rfl trivial)) (And.intro rfl (And.intro rfl trivial)))))))))
            · refine gdNF ?_
              refine gdNF ?_
              refine gdNF ?_
              refine gdYT ?_
              refine condT ?_
              refine gdYF ?_
              refine condT ?_
              refine condF ?_
              have hz := someE hF
              subst hz
              refine Exists.intro [] (Exists.intro [] (Exists.intro [] (Exists.intro [] (Exists.intro [(0, some 1), (1, some 2)] (And.intro rfl (And.intro rfl (And.intro (And.intro rfl (And.intro rfl trivial)) (And.intro rfl (And.intro rfl trivial)))))))))
          · refine gdNT ?_
            refine gdNT ?_
            refine gdNT ?_
            refine gdYF ?_
            refine condF ?_
            refine condF ?_
            have hz := someE hF
            subst hz
            refine Exists.intro [] (Exists.intro [] (Exists.intro [] (Exists.intro [] (Exists.intro [(0, some 1), (1, some 2)] (And.intro rfl (And.intro rfl (And.intro (And.intro rfl (And.intro rfl trivial)) (And.intro rfl (And.intro rfl trivial)))))))))
        · refine gdNF ?_
          refine gdNF ?_
          refine gdNF ?_
          refine condT ?_
          have hz := someE hF
          subst hz
          refine Exists.intro [] (Exists.intro [] (Exists.intro [] (Exists.intro [] (Exists.intro [(0, some 1), (1, some 2)] (And.intro rfl (And.intro rfl (And.intro (And.intro rfl (And.intro rfl trivial)) (And.intro rfl (And.intro rfl trivial)))))))))
      · refine And.intro ?_ trivial
        refine condI hF (fun hF => ?_) (fun hF => ?_)
        · refine Or.inl ?_
          refine Exists.intro (.take 0 (.alt 1 (.alt 2 (.alt 3 .done .done) .done) .done)) (Exists.intro [] (Exists.intro [] (And.intro rfl ?_)))
          refine And.intro trivial ?_
          obtain ⟨q5_1, hq5_1, hF⟩ := bindE hF
          refine Or.inl (And.intro f69_in (callV0 (callI C69 (1 : Int) q5_1 [] false C69_holds hq5_1 rfl rfl ?_)))
          refine (And.intro rfl (And.intro (fun h => nomatch h) (And.intro rfl (And.intro rfl (And.intro trivial (And.intro trivial ?_))))))
          refine And.intro trivial ?_
          obtain ⟨q5_2, hq5_2, hF⟩ := bindE hF
          refine Or.inl (And.intro f68_in (callV0 (callI C68 ((q5_3.1, q5_3.2.1), (q5_1.1, q5_1.2)) q5_2 [] false C68_holds hq5_2 rfl rfl ?_)))
          refine (And.intro rfl (And.intro rfl (And.intro rfl (And.intro rfl (And.intro (fun h => nomatch h) (And.intro rfl (And.intro rfl (And.intro trivial (And.intro trivial ?_)))))))))
          refine And.intro trivial ?_
          refine Or.inl ?_
          have hy := someE hF
          subst hy
          refine And.intro rfl (Exists.intro [] (Exists.intro [] (Exists.intro [] (Exists.intro [] (Exists.intro [] (And.intro rfl (And.intro (And.intro rfl trivial) trivial)))))))
        · refine Or.inl ?_
          refine Or.inl ?_
          have hy := someE hF
          subst hy
          refine And.intro rfl (Exists.intro [] (Exists.intro [] (Exists.intro [] (Exists.intro [] (Exists.intro [] (And.intro rfl (And.intro (And.intro rfl trivial) trivial)))))))
    · dsimp only [sumF] at hF
      refine And.intro ?_ trivial
      have hy := someE hF
      subst hy
      refine And.intro rfl (Exists.intro [] (Exists.intro [] (Exists.intro [] (Exists.intro [] (Exists.intro [] (And.intro rfl (And.intro (And.intro rfl trivial) trivial)))))))
theorem C81_holds : C81.Holds Try.prog 81 := holds_of_vc tab_ok mixed (fn := Try.f81) (by kernel_rfl) rfl C81 (fun x y hF => C81_vc x.1 x.2 y hF)
theorem f81_in : ∃ fn, Try.prog.funcs[81]? = some fn ∧ fn.body.isSome = true ∧ (fn.name == "runtime.NumGoroutine") = false := ⟨Try.f81, by kernel_rfl, by kernel_rfl, by kernel_rfl⟩
end Go.Proofs
namespace Go.Proofs
open Go.AM
-- carousel/wide.Fix
def f70_j3 (a : Int × Int) : Option Bool :=
  bif (decide (a.1 > (0 : Int))) then
    some true
  else
    bif (a.1 == (0 : Int)) then
      some (decide (a.2 ≥ (9223372036854775808 : Int)))
    else
      some false
def f70_j2 (a : Int × Int) : Option (Sum Unit Int) :=
  bindF (f70_j3 a) fun z3 =>
  bif z3 then
    some (Sum.inr (9223372036854775807 : Int))
  else
    bif (decide (a.1 < (-1 : Int))) then
      some (Sum.inr (-9223372036854775808 : Int))
    else
      bif (a.1 == (-1 : Int)) then
        bif (decide (a.2 < (9223372036854775808 : Int))) then
          some (Sum.inr (-9223372036854775808 : Int))
        else
          some (Sum.inl ())
      else
        some (Sum.inl ())
def f70 (a : Int × Int) : Option Int :=
  bindF (f70_j2 a) fun z2 =>
  sumF z2 (fun z2a =>
    some (IntKind.i64.wrap a.2)) (fun z2b =>
    some z2b)
def C70 : Con where
  X := Int × Int
  Y := Int
  e := 0
  args x := [.dat (.p (.int .i64) (.int .u64)) x]
  hin x := []
  F x := f70 x
  ret y := [.dat (.int .i64) y]
  hout y := []
  nout := 0
theorem C70_vc (a : Int × Int) (y : Int) (hF : f70 a = some y) : vc Try.prog tab Try.f70.ntmps 0 (match Try.f70.body with | some c => c | none => .skip) (retK tab C70 Try.f70.results.toList y) (C70.shIn a).st := by
  unfold f70 at hF
  refine Or.inl ?_
  obtain ⟨z2, hz2, hF⟩ := bindE hF
  refine Or.inr ⟨Sum.elim (fun z2a => [(0, ⟨[(1, .raw false [(.ptr 0 0)])], [(0, .cells [(.d (.int .i64) a.1), (.d (.int .u64) a.2)])], 1⟩)]) (fun z2b => [(1, ⟨[(2, .dat (.int .i64) z2b)], [], 0⟩)]) z2, ?_, ?_⟩
  · have hF := hz2
    clear hz2
    unfold f70_j2 at hF
    obtain ⟨z3, hz3, hF⟩ := bindE hF
    refine Or.inr ⟨[(0, ⟨[(1, .raw false [(.ptr 0 0)]), (3, .dat .bool z3)], [(0, .cells [(.d (.int .i64) a.1), (.d (.int .u64) a.2)])], 1⟩)], ?_, ?_⟩
    · have hF := hz3
      clear hz3
      unfold f70_j3 at hF
      refine condN hF (fun hF => ?_) (fun hF => ?_)
      · refine gdYF ?_
        refine gdYF ?_
        refine gdYF ?_
        refine condI hF (fun hF => ?_) (fun hF => ?_)
        · refine gdYT ?_
          refine gdYT ?_
          refine gdYF ?_
          refine condT ?_
          refine condF ?_
          have hz := someE hF
          subst hz
          refine Exists.intro [] (Exists.intro [] (Exists.intro [] (Exists.intro [] (Exists.intro [(0, some 0)] (And.intro rfl (And.intro rfl (And.intro (And.intro rfl trivial) (And.intro rfl trivial))))))))
        · refine gdNT ?_
          refine gdNT ?_
          refine gdYF ?_
          refine condF ?_
          refine condF ?_
          have hz := someE hF
          subst hz
          refine Exists.intro [] (Exists.intro [] (Exists.intro [] (Exists.intro [] (Exists.intro [(0, some 0)] (And.intro rfl (And.intro rfl (And.intro (And.intro rfl trivial) (And.intro rfl trivial))))))))
      · refine gdNF ?_
        refine gdNF ?_
        refine gdNF ?_
        refine gdNF ?_
        refine condT ?_
        have hz := someE hF
        subst hz
        refine Exists.intro [] (Exists.intro [] (Exists.intro [] (Exists.intro [] (Exists.intro [(0, some 0)] (And.intro rfl (And.intro rfl (And.intro (And.intro rfl trivial) (And.intro rfl trivial))))))))
    · refine And.intro ?_ trivial
      refine condI hF (fun hF => ?_) (fun hF => ?_)
      · refine Or.inl ?_
        have hz := someE hF
        subst hz
        refine Exists.intro [] (Exists.intro [] (Exists.intro [] (Exists.intro [] (Exists.intro [] (And.intro rfl (And.intro rfl (And.intro trivial trivial)))))))
      · refine Or.inl ?_
        refine condN hF (fun hF => ?_) (fun hF => ?_)
        · refine gdYF ?_
          refine gdYF ?_
          refine gdYF ?_
          refine condI hF (fun hF => ?_) (fun hF => ?_)
          · refine gdYT ?_
            refine gdYT ?_
            refine gdYF ?_
            refine condT ?_
            refine condF ?_
            refine condI hF (fun hF => ?_) (fun hF => ?_)
            · refine Or.inl ?_
              have hz := someE hF
              subst hz
              refine Exists.intro [] (Exists.intro [] (Exists.intro [] (Exists.intro [] (Exists.intro [] (And.intro rfl (And.intro rfl (And.intro trivial trivial)))))))
            · have hz := someE hF
              subst hz
              refine Exists.intro [] (Exists.intro [] (Exists.intro [] (Exists.intro [] (Exists.intro [(0, some 0)] (And.intro rfl (And.intro (And.intro rfl trivial) (And.intro rfl trivial)))))))
          · refine gdNT ?_
            refine gdNT ?_
            refine gdYF ?_
            refine condF ?_
            refine condF ?_
            refine condF ?_
            have hz := someE hF
            subst hz
            refine Exists.intro [] (Exists.intro [] (Exists.intro [] (Exists.intro [] (Exists.intro [(0, some 0)] (And.intro rfl (And.intro (And.intro rfl trivial) (And.intro rfl trivial)))))))
        · refine gdNF ?_
          refine gdNF ?_
          refine gdNF ?_
          refine gdNF ?_
          refine condT ?_
          refine condT ?_
          refine Or.inl ?_
          have hz := someE hF
          subst hz
          refine Exists.intro [] (Exists.intro [] (Exists.intro [] (Exists.intro [] (Exists.intro [] (And.intro rfl (And.intro rfl (And.intro trivial trivial)))))))
  · rcases z2 with z2a | z2b
    · dsimp only [sumF] at hF
      refine And.intro ?_ trivial
      refine Or.inl ?_
      have hy := someE hF
      subst hy
      refine And.intro rfl (Exists.intro [] (Exists.intro [] (Exists.intro [] (Exists.intro [] (Exists.intro [] (And.intro rfl (And.intro rfl (And.intro trivial trivial))))))))
    · dsimp only [sumF] at hF
      refine And.intro ?_ trivial
      have hy := someE hF
      subst hy
      refine And.intro rfl (Exists.intro [] (Exists.intro [] (Exists.intro [] (Exists.intro [] (Exists.intro [] (And.intro rfl (And.intro rfl (And.intro trivial trivial))))))))
theorem C70_holds : C70.Holds Try.prog 70 := holds_of_vc tab_ok mixed (fn := Try.f70) (by kernel_rfl) rfl C70 (fun x y hF => C70_vc x y hF)
theorem f70_in : ∃ fn, Try.prog.funcs[70]? = some fn ∧ fn.body.isSome = true ∧ (fn.name == "runtime.NumGoroutine") = false := ⟨Try.f70, by kernel_rfl, by kernel_rfl, by kernel_rfl⟩
end Go.Proofs
namespace Go.Proofs
open Go.AM
-- (*carousel/wide.Acc).Fix
def f65 (s_top : Int) (s_low_Hi : Int) (s_low_Lo : Int) (n : Int) : Option (Int × Int × Int × Int) :=
  bif (s_top == (Int.fdiv s_low_Hi (2 ^ min (Int.toNat (63 : Int)) (IntKind.bits IntKind.i64)))) then
    bindF (f81 (s_low_Hi, s_low_Lo) n) fun q1_11 =>
    bindF (f70 (q1_11.1, q1_11.2)) fun r1 =>
    some (r1, s_top, s_low_Hi, s_low_Lo)
  else
    bif (decide (s_top < (0 : Int))) then
      some ((-9223372036854775808 : Int), s_top, s_low_Hi, s_low_Lo)
    else
      some ((9223372036854775807 : Int), s_top, s_low_Hi, s_low_Lo)
def C65 : Con where
  X := Int × Int × Int × Int
  Y := Int × Int × Int × Int
  e := 1
  args x := [.raw false [(.ptr 0 0)], .dat (.int .i64) x.2.2.2]
  hin x := [(0, .cells [(.d (.int .i64) x.1), (.d (.int .i64) x.2.1), (.d (.int .u64) x.2.2.1)])]
  F x := f65 x.1 x.2.1 x.2.2.1 x.2.2.2
  ret y := [.dat (.int .i64) y.1]
  hout y := [(0, .cells [(.d (.int .i64) y.2.1), (.d (.int .i64) y.2.2.1), (.d (.int .u64) y.2.2.2)])]
  nout := 1
theorem C65_vc (s_top : Int) (s_low_Hi : Int) (s_low_Lo : Int) (n : Int) (y : Int × Int × Int × Int) (hF : f65 s_top s_low_Hi s_low_Lo n = some y) : vc Try.prog tab Try.f65.ntmps 1 (match Try.f65.body with | some c => c | none => .skip) (retK tab C65 Try.f65.results.toList y) (C65.shIn (s_top, s_low_Hi, s_low_Lo, n)).st := by
  unfold f65 at hF
  refine Or.inl ?_
  refine Or.inl ?_
  refine Or.inl ?_
  refine Exists.intro (.take 0 (.take 1 (.take 2 (.take 3 (.take 4 (.take 5 (.take 6 (.take 7 (.take 8 (.take 9 (.take 10 (.take 11 .done)))))))))))) (Exists.intro [] (Exists.intro [] (And.intro rfl ?_)))
  refine And.intro (by decide) ?_
  refine condI hF (fun hF => ?_) (fun hF => ?_)
  · refine Or.inl ?_
    obtain ⟨q1_11, hq1_11, hF⟩ := bindE hF
    refine Or.inl (And.intro f81_in (callV0 (callI C81 ((s_low_Hi, s_low_Lo), n) q1_11 [] false C81_holds hq1_11 rfl rfl ?_)))
    refine (And.intro rfl (And.intro rfl (And.intro rfl (And.intro (fun h => nomatch h) (And.intro rfl (And.intro rfl (And.intro trivial (And.intro trivial ?_))))))))
    obtain ⟨r1, hr1, hF⟩ := bindE hF
    refine Or.inl (And.intro f70_in (callV0 (callI C70 (q1_11.1, q1_11.2) r1 [] false C70_holds hr1 rfl rfl ?_)))
    refine (And.intro rfl (And.intro rfl (And.intro (fun h => nomatch h) (And.intro rfl (And.intro rfl (And.intro trivial (And.intro trivial ?_)))))))
    have hy := someE hF
    subst hy
    refine And.intro rfl (Exists.intro [] (Exists.intro [] (Exists.intro [] (Exists.intro [] (Exists.intro [(0, some 0)] (And.intro rfl (And.intro rfl (And.intro trivial (And.intro rfl trivial)))))))))
  · refine Or.inl ?_
    refine condI hF (fun hF => ?_) (fun hF => ?_)
    · refine Or.inl ?_
      have hy := someE hF
      subst hy
      refine And.intro rfl (Exists.intro [] (Exists.intro [] (Exists.intro [] (Exists.intro [] (Exists.intro [(0, some 0)] (And.intro rfl (And.intro rfl (And.intro trivial (And.intro rfl trivial)))))))))
    · refine Or.inl ?_
      have hy := someE hF
      subst hy
      refine And.intro rfl (Exists.intro [] (Exists.intro [] (Exists.intro [] (Exists.intro [] (Exists.intro [(0, some 0)] (And.intro rfl (And.intro rfl (And.intro trivial (And.intro rfl trivial)))))))))
theorem C65_holds : C65.Holds Try.prog 65 := holds_of_vc tab_ok mixed (fn := Try.f65) (by kernel_rfl) rfl C65 (fun x y hF => C65_vc x.1 x.2.1 x.2.2.1 x.2.2.2 y hF)
theorem f65_in : ∃ fn, Try.prog.funcs[65]? = some fn ∧ fn.body.isSome = true ∧ (fn.name == "runtime.NumGoroutine") = false := ⟨Try.f65, by kernel_rfl, by kernel_rfl, by kernel_rfl⟩
end Go.Proofs
namespace Go.Proofs
open Go.AM
-- carousel/matm.Dot
def f60_l1 (a : List Int) (b : List Int) (go : (Int × Int × Int × Int) → Option (Int × Int × Int)) (v12 : Int) (c0_0 : Int) (c0_1 : Int) (c0_2 : Int) : Option (Int × Int × Int) :=
  bif (decide (v12 < (if (List.length b : Int) < (List.length a : Int) then (List.length b : Int) else (List.length a : Int)))) then
    guardF (0 ≤ v12 ∧ v12 < (List.length a : Int)) <|
    guardF (0 ≤ v12 ∧ v12 < (List.length b : Int)) <|
    bindF (f64 c0_0 c0_1 c0_2 (rd (0 : Int) a v12) (rd (0 : Int) b v12)) fun q5_8 =>
    go ((IntKind.i64.wrap (v12 + (1 : Int))), q5_8.1, q5_8.2.1, q5_8.2.2)
  else
    some (c0_0, c0_1, c0_2)
def f60 (a : List Int) (b : List Int) : Option Int :=
  bindF (loopF (fun go x => f60_l1 a b go x.1 x.2.1 x.2.2.1 x.2.2.2) fuelN ((0 : Int), (0 : Int), (0 : Int), (0 : Int))) fun z1 =>
  bindF (f65 z1.1 z1.2.1 z1.2.2 (32 : Int)) fun r2 =>
  some r2.1
def C60 : Con where
  X := (List Int) × (List Int)
  Y := Int
  e := 0
  args x := [.dat (.sl (.int .i64)) x.1, .dat (.sl (.int .i64)) x.2]
  hin x := []
  F x := f60 x.1 x.2
  ret y := [.dat (.int .i64) y]
  hout y := []
  nout := 0
theorem C60_vc (a : List Int) (b : List Int) (y : Int) (hF : f60 a b = some y) : vc Try.prog tab Try.f60.ntmps 0 (match Try.f60.body with | some c => c | none => .skip) (retK tab C60 Try.f60.results.toList y) (C60.shIn (a, b)).st := by
  unfold f60 at hF
  refine Or.inl ?_
  refine Or.inl ?_
  refine Or.inl ?_
  refine Or.inl ?_
  obtain ⟨z1, hz1, hF⟩ := bindE hF
  refine loopI (Int × Int × Int × Int) (Int × Int × Int) (fun x => ⟨[(0, .dat (.sl (.int .i64)) a), (1, .dat (.sl (.int .i64)) b), (5, .raw false [(.ptr 0 0)]), (11, .dat (.int .i64) (if (List.length b : Int) < (List.length a : Int) then (List.length b : Int) else (List.length a : Int))), (12, .dat (.int .i64) x.1)], [(0, .cells [(.d (.int .i64) x.2.1), (.d (.int .i64) x.2.2.1), (.d (.int .u64) x.2.2.2)])], 1⟩) (fun z => [(2, ⟨[(5, .raw false [(.ptr 0 0)])], [(0, .cells [(.d (.int .i64) z.1), (.d (.int .i64) z.2.1), (.d (.int .u64) z.2.2)])], 1⟩)]) (loopF (fun go x => f60_l1 a b go x.1 x.2.1 x.2.2.1 x.2.2.2)) fuelN ((0 : Int), (0 : Int), (0 : Int), (0 : Int)) z1 (And.intro hz1 (And.intro (Exists.intro [] (Exists.intro [] (Exists.intro [] (Exists.intro [] (Exists.intro [(0, some 0)] (And.intro rfl (And.intro rfl (And.intro rfl (And.intro rfl (And.intro rfl (And.intro (And.intro rfl trivial) (And.intro rfl trivial)))))))))))) (And.intro (fun _ _ h => loopZ h) (And.intro (fun m => curI (fun v12 => curI (fun c0_0 => curI (fun c0_1 => fun c0_2 z hF => ?_)))) ?_))))
  · have hF : f60_l1 a b (loopF (fun go x => f60_l1 a b go x.1 x.2.1 x.2.2.1 x.2.2.2) m) v12 c0_0 c0_1 c0_2 = some z := hF
    unfold f60_l1 at hF
    refine Or.inl ?_
    refine Or.inl ?_
    refine condI hF (fun hF => ?_) (fun hF => ?_)
    · refine Or.inl ?_
      refine Or.inl ?_
      refine Exists.intro (.take 0 (.take 1 (.take 2 (.take 3 (.take 4 (.take 5 (.take 6 (.take 7 (.alt 8 .done .done))))))))) (Exists.intro [] (Exists.intro [] (And.intro rfl ?_)))
      refine guardI hF (fun hF => ?_)
      refine guardI hF (fun hF => ?_)
      refine And.intro trivial ?_
      obtain ⟨q5_8, hq5_8, hF⟩ := bindE hF
      refine Or.inl (And.intro f64_in (callV0 (callI C64 (c0_0, c0_1, c0_2, (rd (0 : Int) a v12), (rd (0 : Int) b v12)) q5_8 [(0, some 0)] false C64_holds hq5_8 rfl rfl ?_)))
      refine (And.intro rfl (And.intro rfl (And.intro (fun h => nomatch h) (And.intro rfl (And.intro rfl (And.intro (And.intro rfl trivial) (And.intro (And.intro rfl trivial) ?_)))))))
      refine Exists.intro ((IntKind.i64.wrap (v12 + (1 : Int))), q5_8.1, q5_8.2.1, q5_8.2.2) (And.intro hF (Exists.intro [] (Exists.intro [] (Exists.intro [] (Exists.intro [] (Exists.intro [(0, some 0)] (And.intro rfl (And.intro rfl (And.intro rfl (And.intro rfl (And.intro rfl (And.intro (And.intro rfl trivial) (And.intro rfl trivial)))))))))))))
    · have hz := someE hF
      subst hz
      refine Exists.intro [] (Exists.intro [] (Exists.intro [] (Exists.intro [] (Exists.intro [(0, some 0)] (And.intro rfl (And.intro (And.intro rfl trivial) (And.intro rfl trivial)))))))
  · refine And.intro ?_ trivial
    refine Or.inl ?_
    obtain ⟨r2, hr2, hF⟩ := bindE hF
    refine Or.inl (And.intro f65_in (callV0 (callI C65 (z1.1, z1.2.1, z1.2.2, (32 : Int)) r2 [(0, some 0)] false C65_holds hr2 rfl rfl ?_)))
    refine (And.intro rfl (And.intro (fun h => nomatch h) (And.intro rfl (And.intro rfl (And.intro (And.intro rfl trivial) (And.intro (And.intro rfl trivial) ?_))))))
    have hy := someE hF
    subst hy
    refine And.intro rfl (Exists.intro [] (Exists.intro [] (Exists.intro [] (Exists.intro [] (Exists.intro [] (And.intro rfl (And.intro rfl (And.intro trivial trivial))))))))
theorem C60_holds : C60.Holds Try.prog 60 := holds_of_vc tab_ok mixed (fn := Try.f60) (by kernel_rfl) rfl C60 (fun x y hF => C60_vc x.1 x.2 y hF)
theorem f60_in : ∃ fn, Try.prog.funcs[60]? = some fn ∧ fn.body.isSome = true ∧ (fn.name == "runtime.NumGoroutine") = false := ⟨Try.f60, by kernel_rfl, by kernel_rfl, by kernel_rfl⟩
end Go.Proofs
namespace Go.Proofs
open Go.AM
-- carousel/matm.Mul
def f44_j4 (a : (List Int) × (List Int)) (b : (List Int) × (List Int)) : Option Bool :=
  bindF (f14 (a.1, a.2)) fun r9 =>
  bif (!r9) then
    some true
  else
    bindF (f14 (b.1, b.2)) fun r10 =>
    some (!r10)
def f44_j5 (a : (List Int) × (List Int)) (b : (List Int) × (List Int)) : Option Bool :=
  bindF (f59 (a.1, a.2)) fun q3_1 =>
  bif (!q3_1) then
    some true
  else
    bindF (f59 (b.1, b.2)) fun q3_5 =>
    bif (!q3_5) then
      some true
    else
      guardF (0 ≤ (1 : Int) ∧ (1 : Int) < (List.length a.1 : Int)) <|
      guardF (0 ≤ (0 : Int) ∧ (0 : Int) < (List.length b.1 : Int)) <|
      some ((rd (0 : Int) a.1 (1 : Int)) != (rd (0 : Int) b.1 (0 : Int)))
def f44_j3 (a : (List Int) × (List Int)) (b : (List Int) × (List Int)) : Option (Sum Unit Int) :=
  bindF (f44_j4 a b) fun z8 =>
  bif z8 then
    some (Sum.inr (1 : Int))
  else
    bindF (f44_j5 a b) fun z11 =>
    bif z11 then
      some (Sum.inr (4 : Int))
    else
      some (Sum.inl ())
def f44_l9 (a : (List Int) × (List Int)) (b : (List Int) × (List Int)) (r12 : Int × (List Int) × (List Int)) (v74 : Int) (go : (Int × (List Int)) → Option (List Int)) (v78 : Int) (l5_2 : List Int) : Option (List Int) :=
  bif (decide (v78 < (rd (0 : Int) b.1 (1 : Int)))) then
    guardF (0 ≤ (IntKind.i64.wrap (v74 * (rd (0 : Int) a.1 (1 : Int)))) ∧ (IntKind.i64.wrap (v74 * (rd (0 : Int) a.1 (1 : Int)))) ≤ (IntKind.i64.wrap ((IntKind.i64.wrap (v74 + (1 : Int))) * (rd (0 : Int) a.1 (1 : Int)))) ∧ (IntKind.i64.wrap ((IntKind.i64.wrap (v74 + (1 : Int))) * (rd (0 : Int) a.1 (1 : Int)))) ≤ (List.length a.2 : Int)) <|
    guardF (0 ≤ (IntKind.i64.wrap (v78 * (rd (0 : Int) a.1 (1 : Int)))) ∧ (IntKind.i64.wrap (v78 * (rd (0 : Int) a.1 (1 : Int)))) ≤ (IntKind.i64.wrap ((IntKind.i64.wrap (v78 + (1 : Int))) * (rd (0 : Int) a.1 (1 : Int)))) ∧ (IntKind.i64.wrap ((IntKind.i64.wrap (v78 + (1 : Int))) * (rd (0 : Int) a.1 (1 : Int)))) ≤ (List.length r12.2.2 : Int)) <|
    bindF (f60 (List.drop (Int.toNat (IntKind.i64.wrap (v74 * (rd (0 : Int) a.1 (1 : Int))))) (List.take (Int.toNat (IntKind.i64.wrap ((IntKind.i64.wrap (v74 + (1 : Int))) * (rd (0 : Int) a.1 (1 : Int))))) a.2)) (List.drop (Int.toNat (IntKind.i64.wrap (v78 * (rd (0 : Int) a.1 (1 : Int))))) (List.take (Int.toNat (IntKind.i64.wrap ((IntKind.i64.wrap (v78 + (1 : Int))) * (rd (0 : Int) a.1 (1 : Int))))) r12.2.2))) fun q16_27 =>
    guardF (0 ≤ (IntKind.i64.wrap ((IntKind.i64.wrap (v74 * (rd (0 : Int) b.1 (1 : Int)))) + v78)) ∧ (IntKind.i64.wrap ((IntKind.i64.wrap (v74 * (rd (0 : Int) b.1 (1 : Int)))) + v78)) < (List.length l5_2 : Int)) <|
    go ((IntKind.i64.wrap (v78 + (1 : Int))), (List.set l5_2 (Int.toNat (IntKind.i64.wrap ((IntKind.i64.wrap (v74 * (rd (0 : Int) b.1 (1 : Int)))) + v78))) q16_27))
  else
    some l5_2
def f44_l8 (a : (List Int) × (List Int)) (b : (List Int) × (List Int)) (r12 : Int × (List Int) × (List Int)) (go : (Int × (List Int)) → Option (List Int)) (v74 : Int) (l5 : List Int) : Option (List Int) :=
  bif (decide (v74 < (rd (0 : Int) a.1 (0 : Int)))) then
    bindF (loopF (fun go x => f44_l9 a b r12 v74 go x.1 x.2) fuelN ((0 : Int), l5)) fun z16 =>
    go ((IntKind.i64.wrap (v74 + (1 : Int))), z16)
  else
    some l5
def f44 (a : (List Int) × (List Int)) (b : (List Int) × (List Int)) : Option (Int × (List Int) × (List Int)) :=
  bindF (f44_j3 a b) fun z6 =>
  sumF z6 (fun z6a =>
    guardF (0 ≤ (0 : Int) ∧ (0 : Int) < (List.length a.1 : Int)) <|
    guardF (0 ≤ (1 : Int) ∧ (1 : Int) < (List.length a.1 : Int)) <|
    guardF (0 ≤ (1 : Int) ∧ (1 : Int) < (List.length b.1 : Int)) <|
    bindF (f23 ([(rd (0 : Int) a.1 (0 : Int)), (rd (0 : Int) b.1 (1 : Int))]) (0 : Int)) fun q5_14 =>
    bif (q5_14.1 != (0 : Int)) then
      some ((2 : Int), [], [])
    else
      bindF (f47 (b.1, b.2)) fun r12 =>
      bindF (loopF (fun go x => f44_l8 a b r12 go x.1 x.2) fuelN ((0 : Int), q5_14.2.2)) fun z15 =>
      some ((0 : Int), q5_14.2.1, z15)) (fun z6b =>
    some (z6b, [], []))
def C44 : Con where
  X := ((List Int) × (List Int)) × ((List Int) × (List Int))
  Y := Int × (List Int) × (List Int)
  e := 0
  args x := [.dat (.p (.sl (.int .i64)) (.sl (.int .i64))) x.1, .dat (.p (.sl (.int .i64)) (.sl (.int .i64))) x.2]
  hin x := []
  F x := f44 x.1 x.2
  ret y := [.raw true [(.osl 0), (.osl 1)], .dat (.int .i64) y.1]
  hout y := [(0, .arr 3 (.int .i64) y.2.1), (1, .arr 24 (.int .i64) y.2.2)]
  nout := 2
theorem C44_vc (a : (List Int) × (List Int)) (b : (List Int) × (List Int)) (y : Int × (List Int) × (List Int)) (hF : f44 a b = some y) : vc Try.prog tab Try.f44.ntmps 0 (match Try.f44.body with | some c => c | none => .skip) (retK tab C44 Try.f44.results.toList y) (C44.shIn (a, b)).st := by
  unfold f44 at hF
  refine Or.inl ?_
  obtain ⟨z6, hz6, hF⟩ := bindE hF
  refine Or.inr ⟨Sum.elim (fun z6a => [(0, ⟨[(2, .raw false [(.ptr 0 0)]), (3, .raw false [(.ptr 1 0)]), (4, .raw false [(.ptr 2 0)])], [(0, .cells [(.d (.sl (.int .i64)) a.1), (.d (.sl (.int .i64)) a.2)]), (1, .cells [(.d (.sl (.int .i64)) b.1), (.d (.sl (.int .i64)) b.2)]), (2, .cells [(.c (.slice none 0 0)), (.c (.slice none 0 0))])], 3⟩)]) (fun z6b => [(1, ⟨[(4, .raw false [(.ptr 0 0)]), (5, .dat (.int .i64) z6b)], [(0, .cells [(.c (.slice none 0 0)), (.c (.slice none 0 0))])], 1⟩)]) z6, ?_, ?_⟩
  · have hF := hz6
    clear hz6
    unfold f44_j3 at hF
    obtain ⟨z8, hz8, hF⟩ := bindE hF
    refine Or.inr ⟨[(0, ⟨[(2, .raw false [(.ptr 0 0)]), (3, .raw false [(.ptr 1 0)]), (4, .raw false [(.ptr 2 0)]), (15, .dat .bool z8)], [(0, .cells [(.d (.sl (.int .i64)) a.1), (.d (.sl (.int .i64)) a.2)]), (1, .cells [(.d (.sl (.int .i64)) b.1), (.d (.sl (.int .i64)) b.2)]), (2, .cells [(.c (.slice none 0 0)), (.c (.slice none 0 0))])], 3⟩)], ?_, ?_⟩
    · have hF := hz8
      clear hz8
      unfold f44_j4 at hF
      obtain ⟨r9, hr9, hF⟩ := bindE hF
      refine Or.inl (And.intro f14_in (callV0 (callI C14 (a.1, a.2) r9 [] false C14_holds hr9 rfl rfl ?_)))
      refine (And.intro rfl (And.intro rfl (And.intro (fun h => nomatch h) (And.intro rfl (And.intro rfl (And.intro trivial (And.intro trivial ?_)))))))
      refine condN hF (fun hF => ?_) (fun hF => ?_)
      · refine gdYF ?_
        obtain ⟨r10, hr10, hF⟩ := bindE hF
        refine Or.inl (And.intro f14_in (callV0 (callI C14 (b.1, b.2) r10 [] false C14_holds hr10 rfl rfl ?_)))
        refine (And.intro rfl (And.intro rfl (And.intro (fun h => nomatch h) (And.intro rfl (And.intro rfl (And.intro trivial (And.intro trivial ?_)))))))
        refine gdYF ?_
        refine condF ?_
        have hz := someE hF
        subst hz
        refine Exists.intro [] (Exists.intro [] (Exists.intro [] (Exists.intro [] (Exists.intro [(0, some 0), (1, some 1), (2, some 2)] (And.intro rfl (And.intro rfl (And.intro (And.intro rfl (And.intro rfl (And.intro rfl trivial))) (And.intro rfl (And.intro rfl (And.intro rfl trivial))))))))))
      · refine gdNF ?_
        refine gdNF ?_
        refine condT ?_
        have hz := someE hF
        subst hz
        refine Exists.intro [] (Exists.intro [] (Exists.intro [] (Exists.intro [] (Exists.intro [(0, some 0), (1, some 1), (2, some 2)] (And.intro rfl (And.intro rfl (And.intro (And.intro rfl (And.intro rfl (And.intro rfl trivial))) (And.intro rfl (And.intro rfl (And.intro rfl trivial))))))))))
    · refine And.intro ?_ trivial
      refine condI hF (fun hF => ?_) (fun hF => ?_)
      · refine Or.inl ?_
        refine Or.inl ?_
        have hz := someE hF
        subst hz
        refine Exists.intro [] (Exists.intro [] (Exists.intro [] (Exists.intro [] (Exists.intro [(0, some 2)] (And.intro rfl (And.intro rfl (And.intro (And.intro rfl trivial) (And.intro rfl trivial))))))))
      · obtain ⟨z11, hz11, hF⟩ := bindE hF
        refine Or.inr ⟨[(0, ⟨[(2, .raw false [(.ptr 0 0)]), (3, .raw false [(.ptr 1 0)]), (4, .raw false [(.ptr 2 0)]), (25, .dat .bool z11)], [(0, .cells [(.d (.sl (.int .i64)) a.1), (.d (.sl (.int .i64)) a.2)]), (1, .cells [(.d (.sl (.int .i64)) b.1), (.d (.sl (.int .i64)) b.2)]), (2, .cells [(.c (.slice none 0 0)), (.c (.slice none 0 0))])], 3⟩)], ?_, ?_⟩
        · have hF := hz11
          clear hz11
          unfold f44_j5 at hF
          refine Exists.intro (.take 0 (.alt 1 (.take 2 (.take 3 (.take 4 (.alt 5 (.take 6 (.take 7 (.take 8 (.take 9 (.take 10 (.take 11 (.take 12 (.take 13 (.take 14 (.take 15 (.take 16 (.take 17 (.take 18 (.take 19 .done)))))))))))))) .done)))) .done)) (Exists.intro [] (Exists.intro [] (And.intro rfl ?_)))
          refine And.intro trivial ?_
          obtain ⟨q3_1, hq3_1, hF⟩ := bindE hF
          refine Or.inl (And.intro f59_in (callV0 (callI C59 (a.1, a.2) q3_1 [] false C59_holds hq3_1 rfl rfl ?_)))
          refine (And.intro rfl (And.intro rfl (And.intro (fun h => nomatch h) (And.intro rfl (And.intro rfl (And.intro trivial (And.intro trivial ?_)))))))
          refine condN hF (fun hF => ?_) (fun hF => ?_)
          · refine And.intro trivial ?_
            refine gdYF ?_
            obtain ⟨q3_5, hq3_5, hF⟩ := bindE hF
            refine Or.inl (And.intro f59_in (callV0 (callI C59 (b.1, b.2) q3_5 [] false C59_holds hq3_5 rfl rfl ?_)))
            refine (And.intro rfl (And.intro rfl (And.intro (fun h => nomatch h) (And.intro rfl (And.intro rfl (And.intro trivial (And.intro trivial ?_)))))))
            refine gdYF ?_
            refine condF ?_
            refine condN hF (fun hF => ?_) (fun hF => ?_)
            · refine gdYF ?_
              refine gdYF ?_
              refine guardI hF (fun hF => ?_)
              refine gdYF ?_
              refine gdYF ?_
              refine gdYF ?_
              refine gdYF ?_
              refine guardI hF (fun hF => ?_)
              refine gdYF ?_
              refine gdYF ?_
              refine condF ?_
              have hz := someE hF
              subst hz
              refine Exists.intro [] (Exists.intro [] (Exists.intro [] (Exists.intro [] (Exists.intro [(0, some 0), (1, some 1), (2, some 2)] (And.intro rfl (And.intro rfl (And.intro (And.intro rfl (And.intro rfl (And.intro rfl trivial))) (And.intro rfl (And.intro rfl (And.intro rfl trivial))))))))))
            · refine gdNF ?_
              refine gdNF ?_
              refine gdNF ?_
              refine gdNF ?_
              refine gdNF ?_
              refine gdNF ?_
              refine gdNF ?_
              refine gdNF ?_
              refine condT ?_
              have hz := someE hF
              subst hz
              refine Exists.intro [] (Exists.intro [] (Exists.intro [] (Exists.intro [] (Exists.intro [(0, some 0), (1, some 1), (2, some 2)] (And.intro rfl (And.intro rfl (And.intro (And.intro rfl (And.intro rfl (And.intro rfl trivial))) (And.intro rfl (And.intro rfl (And.intro rfl trivial))))))))))
          · refine And.intro trivial ?_
            refine gdNF ?_
            refine gdNF ?_
            refine condT ?_
            refine gdNF ?_
            refine gdNF ?_
            refine gdNF ?_
            refine gdNF ?_
            refine gdNF ?_
            refine gdNF ?_
            refine gdNF ?_
            refine gdNF ?_
            refine gdNF ?_
            refine condT ?_
            have hz := someE hF
            subst hz
            refine Exists.intro [] (Exists.intro [] (Exists.intro [] (Exists.intro [] (Exists.intro [(0, some 0), (1, some 1), (2, some 2)] (And.intro rfl (And.intro rfl (And.intro (And.intro rfl (And.intro rfl (And.intro rfl trivial))) (And.intro rfl (And.intro rfl (And.intro rfl trivial))))))))))
        · refine And.intro ?_ trivial
          refine condI hF (fun hF => ?_) (fun hF => ?_)
          · refine Or.inl ?_
            refine Or.inl ?_
            have hz := someE hF
            subst hz
            refine Exists.intro [] (Exists.intro [] (Exists.intro [] (Exists.intro [] (Exists.intro [(0, some 2)] (And.intro rfl (And.intro rfl (And.intro (And.intro rfl trivial) (And.intro rfl trivial))))))))
          · have hz := someE hF
            subst hz
            refine Exists.intro [] (Exists.intro [] (Exists.intro [] (Exists.intro [] (Exists.intro [(0, some 0), (1, some 1), (2, some 2)] (And.intro rfl (And.intro (And.intro rfl (And.intro rfl (And.intro rfl trivial))) (And.intro rfl (And.intro rfl (And.intro rfl trivial)))))))))
  · rcases z6 with z6a | z6b
    · dsimp only [sumF] at hF
      refine And.intro ?_ trivial
      refine Or.inl ?_
      refine Exists.intro (.take 0 (.take 1 (.take 2 (.take 3 (.take 4 (.take 5 (.take 6 (.take 7 (.take 8 (.take 9 (.take 10 (.take 11 (.take 12 (.take 13 (.take 14 .done))))))))))))))) (Exists.intro [] (Exists.intro [] (And.intro rfl ?_)))
      refine guardI hF (fun hF => ?_)
      refine guardI hF (fun hF => ?_)
      refine guardI hF (fun hF => ?_)
      refine Or.inl ?_
      refine Or.inl ?_
      obtain ⟨q5_14, hq5_14, hF⟩ := bindE hF
      refine Or.inl (And.intro f23_in (callV0 (callI C23 ([(rd (0 : Int) a.1 (0 : Int)), (rd (0 : Int) b.1 (1 : Int))], (0 : Int)) q5_14 [] true C23_holds hq5_14 rfl rfl ?_)))
      refine (And.intro rfl (And.intro rfl (And.intro (fun _ => rfl) (And.intro rfl (And.intro rfl (And.intro trivial (And.intro trivial ?_)))))))
      refine Or.inl ?_
      refine Or.inl ?_
      refine Or.inl ?_
      refine condI hF (fun hF => ?_) (fun hF => ?_)
      · refine Or.inl ?_
        refine Or.inl ?_
        have hy := someE hF
        subst hy
        refine And.intro rfl (Exists.intro [] (Exists.intro [] (Exists.intro [] (Exists.intro [] (Exists.intro [(0, none), (1, none)] (And.intro rfl (And.intro rfl (And.intro (And.intro rfl trivial) (And.intro rfl (And.intro rfl trivial))))))))))
      · refine Or.inl ?_
        obtain ⟨r12, hr12, hF⟩ := bindE hF
        refine Or.inl (And.intro f47_in (callV0 (callI C47 (b.1, b.2) r12 [] false C47_holds hr12 rfl rfl ?_)))
        refine (And.intro rfl (And.intro rfl (And.intro (fun h => nomatch h) (And.intro rfl (And.intro rfl (And.intro trivial (And.intro trivial ?_)))))))
        refine Or.inl ?_
        refine Or.inl ?_
        refine Or.inl ?_
        obtain ⟨z15, hz15, hF⟩ := bindE hF
        refine loopI (Int × (List Int)) (List Int) (fun x => ⟨[(2, .raw false [(.ptr 0 0)]), (4, .raw false [(.ptr 1 0)]), (7, .dat (.int .i64) (rd (0 : Int) a.1 (1 : Int))), (8, .dat (.int .i64) (rd (0 : Int) b.1 (1 : Int))), (9, .raw false [(.ptr 2 0)]), (11, .raw false [(.ptr 3 0)]), (73, .dat (.int .i64) (rd (0 : Int) a.1 (0 : Int))), (74, .dat (.int .i64) x.1)], [(0, .cells [(.d (.sl (.int .i64)) a.1), (.d (.sl (.int .i64)) a.2)]), (1, .cells [(.c (.slice none 0 0)), (.c (.slice none 0 0))]), (2, .cells [(.osl 4), (.osl 5)]), (3, .cells [(.osl 6), (.d (.sl (.int .i64)) r12.2.2)]), (4, .arr 3 (.int .i64) q5_14.2.1), (5, .arr 24 (.int .i64) x.2), (6, .arr 3 (.int .i64) r12.2.1)], 7⟩) (fun z => [(3, ⟨[(4, .raw false [(.ptr 0 0)]), (9, .raw false [(.ptr 1 0)])], [(0, .cells [(.c (.slice none 0 0)), (.c (.slice none 0 0))]), (1, .cells [(.osl 2), (.osl 3)]), (2, .arr 3 (.int .i64) q5_14.2.1), (3, .arr 24 (.int .i64) z)], 4⟩)]) (loopF (fun go x => f44_l8 a b r12 go x.1 x.2)) fuelN ((0 : Int), q5_14.2.2) z15 (And.intro hz15 (And.intro (Exists.intro [] (Exists.intro [] (Exists.intro [] (Exists.intro [8] (Exists.intro [(0, some 0), (1, some 2), (2, some 6), (3, some 9), (4, some 4), (5, some 5), (6, some 7)] (And.intro rfl (And.intro rfl (And.intro rfl (And.intro rfl (And.intro rfl (And.intro (And.intro rfl (And.intro rfl (And.intro rfl (And.intro rfl trivial)))) (And.intro rfl (And.intro rfl (And.intro rfl (And.intro rfl (And.intro rfl (And.intro rfl (And.intro rfl trivial)))))))))))))))))) (And.intro (fun _ _ h => loopZ h) (And.intro (fun m => curI (fun v74 => fun l5 z hF => ?_)) ?_))))
        · have hF : f44_l8 a b r12 (loopF (fun go x => f44_l8 a b r12 go x.1 x.2) m) v74 l5 = some z := hF
          unfold f44_l8 at hF
          refine Or.inl ?_
          refine Or.inl ?_
          refine condI hF (fun hF => ?_) (fun hF => ?_)
          · refine Or.inl ?_
            refine Or.inl ?_
            refine Or.inl ?_
            obtain ⟨z16, hz16, hF⟩ := bindE hF
            refine loopI (Int × (List Int)) (List Int) (fun x => ⟨[(2, .raw false [(.ptr 0 0)]), (4, .raw false [(.ptr 1 0)]), (7, .dat (.int .i64) (rd (0 : Int) a.1 (1 : Int))), (8, .dat (.int .i64) (rd (0 : Int) b.1 (1 : Int))), (9, .raw false [(.ptr 2 0)]), (11, .raw false [(.ptr 3 0)]), (13, .dat (.int .i64) v74), (73, .dat (.int .i64) (rd (0 : Int) a.1 (0 : Int))), (74, .dat (.int .i64) v74), (77, .dat (.int .i64) (rd (0 : Int) b.1 (1 : Int))), (78, .dat (.int .i64) x.1)], [(0, .cells [(.d (.sl (.int .i64)) a.1), (.d (.sl (.int .i64)) a.2)]), (1, .cells [(.c (.slice none 0 0)), (.c (.slice none 0 0))]), (2, .cells [(.osl 4), (.osl 5)]), (3, .cells [(.osl 6), (.d (.sl (.int .i64)) r12.2.2)]), (4, .arr 3 (.int .i64) q5_14.2.1), (5, .arr 24 (.int .i64) x.2), (6, .arr 3 (.int .i64) r12.2.1)], 7⟩) (fun z => [(5, ⟨[(2, .raw false [(.ptr 0 0)]), (4, .raw false [(.ptr 1 0)]), (7, .dat (.int .i64) (rd (0 : Int) a.1 (1 : Int))), (8, .dat (.int .i64) (rd (0 : Int) b.1 (1 : Int))), (9, .raw false [(.ptr 2 0)]), (11, .raw false [(.ptr 3 0)]), (73, .dat (.int .i64) (rd (0 : Int) a.1 (0 : Int))), (74, .dat (.int .i64) v74)], [(0, .cells [(.d (.sl (.int .i64)) a.1), (.d (.sl (.int .i64)) a.2)]), (1, .cells [(.c (.slice none 0 0)), (.c (.slice none 0 0))]), (2, .cells [(.osl 4), (.osl 5)]), (3, .cells [(.osl 6), (.d (.sl (.int .i64)) r12.2.2)]), (4, .arr 3 (.int .i64) q5_14.2.1), (5, .arr 24 (.int .i64) z), (6, .arr 3 (.int .i64) r12.2.1)], 7⟩)]) (loopF (fun go x => f44_l9 a b r12 v74 go x.1 x.2)) fuelN ((0 : Int), l5) z16 (And.intro hz16 (And.intro (Exists.intro [] (Exists.intro [] (Exists.intro [] (Exists.intro [] (Exists.intro [(0, some 0), (1, some 1), (2, some 2), (3, some 3), (4, some 4), (5, some 5), (6, some 6)] (And.intro rfl (And.intro rfl (And.intro rfl (And.intro rfl (And.intro rfl (And.intro rfl (And.intro rfl (And.intro rfl (And.intro (And.intro rfl (And.intro rfl (And.intro rfl (And.intro rfl trivial)))) (And.intro rfl (And.intro rfl (And.intro rfl (And.intro rfl (And.intro rfl (And.intro rfl (And.intro rfl trivial))))))))))))))))))))) (And.intro (fun _ _ h => loopZ h) (And.intro (fun m => curI (fun v78 => fun l5_2 z hF => ?_)) ?_))))
            · have hF : f44_l9 a b r12 v74 (loopF (fun go x => f44_l9 a b r12 v74 go x.1 x.2) m) v78 l5_2 = some z := hF
              unfold f44_l9 at hF
              refine Or.inl ?_
              refine Or.inl ?_
              refine condI hF (fun hF => ?_) (fun hF => ?_)
              · refine Or.inl ?_
                refine Or.inl ?_
                refine Exists.intro (.take 0 (.take 1 (.take 2 (.take 3 (.take 4 (.take 5 (.take 6 (.take 7 (.take 8 (.take 9 (.take 10 (.take 11 (.take 12 (.take 13 (.take 14 (.take 15 (.take 16 (.take 17 (.take 18 (.take 19 (.take 20 (.take 21 (.take 22 (.take 23 (.take 24 (.take 25 (.alt 26 (.alt 27 (.take 28 (.alt 29 .done .done)) .done) .done))))))))))))))))))))))))))) (Exists.intro [] (Exists.intro [] (And.intro rfl ?_)))
                refine guardI hF (fun hF => ?_)
                refine And.intro trivial ?_
                refine guardI hF (fun hF => ?_)
                refine And.intro trivial ?_
                obtain ⟨q16_27, hq16_27, hF⟩ := bindE hF
                refine Or.inl (And.intro f60_in (callV0 (callI C60 ((List.drop (Int.toNat (IntKind.i64.wrap (v74 * (rd (0 : Int) a.1 (1 : Int))))) (List.take (Int.toNat (IntKind.i64.wrap ((IntKind.i64.wrap (v74 + (1 : Int))) * (rd (0 : Int) a.1 (1 : Int))))) a.2)), (List.drop (Int.toNat (IntKind.i64.wrap (v78 * (rd (0 : Int) a.1 (1 : Int))))) (List.take (Int.toNat (IntKind.i64.wrap ((IntKind.i64.wrap (v78 + (1 : Int))) * (rd (0 : Int) a.1 (1 : Int))))) r12.2.2))) q16_27 [] false C60_holds hq16_27 rfl rfl ?_)))
                refine (And.intro rfl (And.intro rfl (And.intro (fun h => nomatch h) (And.intro rfl (And.intro rfl (And.intro trivial (And.intro trivial ?_)))))))
                refine guardI hF (fun hF => ?_)
                refine And.intro trivial ?_
                refine Or.inl ?_
                refine Exists.intro ((IntKind.i64.wrap (v78 + (1 : Int))), (List.set l5_2 (Int.toNat (IntKind.i64.wrap ((IntKind.i64.wrap (v74 * (rd (0 : Int) b.1 (1 : Int)))) + v78))) q16_27)) (And.intro hF (Exists.intro [] (Exists.intro [] (Exists.intro [] (Exists.intro [] (Exists.intro [(0, some 0), (1, some 1), (2, some 2), (3, some 3), (4, some 4), (5, some 5), (6, some 6)] (And.intro rfl (And.intro rfl (And.intro rfl (And.intro rfl (And.intro rfl (And.intro rfl (And.intro rfl (And.intro rfl (And.intro (And.intro rfl (And.intro rfl (And.intro rfl (And.intro rfl trivial)))) (And.intro rfl (And.intro rfl (And.intro rfl (And.intro rfl (And.intro rfl (And.intro rfl (And.intro rfl trivial))))))))))))))))))))))
              · have hz := someE hF
                subst hz
                refine Exists.intro [] (Exists.intro [] (Exists.intro [] (Exists.intro [] (Exists.intro [(0, some 0), (1, some 1), (2, some 2), (3, some 3), (4, some 4), (5, some 5), (6, some 6)] (And.intro rfl (And.intro rfl (And.intro rfl (And.intro rfl (And.intro rfl (And.intro (And.intro rfl (And.intro rfl (And.intro rfl (And.intro rfl trivial)))) (And.intro rfl (And.intro rfl (And.intro rfl (And.intro rfl (And.intro rfl (And.intro rfl (And.intro rfl trivial)))))))))))))))))
            · refine And.intro ?_ trivial
              refine Exists.intro ((IntKind.i64.wrap (v74 + (1 : Int))), z16) (And.intro hF (Exists.intro [] (Exists.intro [] (Exists.intro [] (Exists.intro [] (Exists.intro [(0, some 0), (1, some 1), (2, some 2), (3, some 3), (4, some 4), (5, some 5), (6, some 6)] (And.intro rfl (And.intro rfl (And.intro rfl (And.intro rfl (And.intro rfl (And.intro (And.intro rfl (And.intro rfl (And.intro rfl (And.intro rfl trivial)))) (And.intro rfl (And.intro rfl (And.intro rfl (And.intro rfl (And.intro rfl (And.intro rfl (And.intro rfl trivial)))))))))))))))))))
          · have hz := someE hF
            subst hz
            refine Exists.intro [] (Exists.intro [] (Exists.intro [] (Exists.intro [] (Exists.intro [(0, some 1), (1, some 2), (2, some 4), (3, some 5)] (And.intro rfl (And.intro (And.intro rfl (And.intro rfl trivial)) (And.intro rfl (And.intro rfl (And.intro rfl (And.intro rfl trivial))))))))))
        · refine And.intro ?_ trivial
          refine Or.inl ?_
          refine Or.inl ?_
          have hy := someE hF
          subst hy
          refine And.intro rfl (Exists.intro [] (Exists.intro [] (Exists.intro [] (Exists.intro [] (Exists.intro [(0, some 2), (1, some 3)] (And.intro rfl (And.intro rfl (And.intro (And.intro rfl trivial) (And.intro rfl (And.intro rfl trivial))))))))))
    · dsimp only [sumF] at hF
      refine And.intro ?_ trivial
      have hy := someE hF
      subst hy
      refine And.intro rfl (Exists.intro [] (Exists.intro [] (Exists.intro [] (Exists.intro [] (Exists.intro [(0, none), (1, none)] (And.intro rfl (And.intro rfl (And.intro (And.intro rfl trivial) (And.intro rfl (And.intro rfl trivial))))))))))
theorem C44_holds : C44.Holds Try.prog 44 := holds_of_vc tab_ok mixed (fn := Try.f44) (by kernel_rfl) rfl C44 (fun x y hF => C44_vc x.1 x.2 y hF)
theorem f44_in : ∃ fn, Try.prog.funcs[44]? = some fn ∧ fn.body.isSome = true ∧ (fn.name == "runtime.NumGoroutine") = false := ⟨Try.f44, by kernel_rfl, by kernel_rfl, by kernel_rfl⟩
end Go.Proofs
namespace Go.Proofs
open Go.AM
-- carousel/conv.stepGood
def f61 (step : Int) : Option Bool :=
  bif (decide (step ≥ (1 : Int))) then
    some (decide (step ≤ (64 : Int)))
  else
    some false
def C61 : Con where
  X := Int
  Y := Bool
  e := 0
  args x := [.dat (.int .i64) x]
  hin x := []
  F x := f61 x
  ret y := [.dat .bool y]
  hout y := []
  nout := 0
theorem C61_vc (step : Int) (y : Bool) (hF : f61 step = some y) : vc Try.prog tab Try.f61.ntmps 0 (match Try.f61.body with | some c => c | none => .skip) (retK tab C61 Try.f61.results.toList y) (C61.shIn step).st := by
  unfold f61 at hF
  refine Or.inl ?_
  refine Or.inl ?_
  refine condI hF (fun hF => ?_) (fun hF => ?_)
  · refine gdYT ?_
    refine condT ?_
    have hy := someE hF
    subst hy
    refine And.intro rfl (Exists.intro [] (Exists.intro [] (Exists.intro [] (Exists.intro [] (Exists.intro [] (And.intro rfl (And.intro rfl (And.intro trivial trivial))))))))
  · refine gdNT ?_
    refine condF ?_
    have hy := someE hF
    subst hy
    refine And.intro rfl (Exists.intro [] (Exists.intro [] (Exists.intro [] (Exists.intro [] (Exists.intro [] (And.intro rfl (And.intro rfl (And.intro trivial trivial))))))))
theorem C61_holds : C61.Holds Try.prog 61 := holds_of_vc tab_ok mixed (fn := Try.f61) (by kernel_rfl) rfl C61 (fun x y hF => C61_vc x y hF)
theorem f61_in : ∃ fn, Try.prog.funcs[61]? = some fn ∧ fn.body.isSome = true ∧ (fn.name == "runtime.NumGoroutine") = false := ⟨Try.f61, by kernel_rfl, by kernel_rfl, by kernel_rfl⟩
end Go.Proofs
namespace Go.Proofs
open Go.AM
-- carousel/conv.windows
def f62 (long : Int) (wide : Int) (step : Int) : Option Int :=
  bif (decide (wide > long)) then
    some (0 : Int)
  else
    guardF (step ≠ 0) <|
    some (IntKind.i64.wrap ((IntKind.i64.wrap (Int.tdiv (IntKind.i64.wrap (long - wide)) step)) + (1 : Int)))
def C62 : Con where
  X := Int × Int × Int
  Y := Int
  e := 0
  args x := [.dat (.int .i64) x.1, .dat (.int .i64) x.2.1, .dat (.int .i64) x.2.2]
  hin x := []
  F x := f62 x.1 x.2.1 x.2.2
  ret y := [.dat (.int .i64) y]
  hout y := []
  nout := 0
theorem C62_vc (long : Int) (wide : Int) (step : Int) (y : Int) (hF : f62 long wide step = some y) : vc Try.prog tab Try.f62.ntmps 0 (match Try.f62.body with | some c => c | none => .skip) (retK tab C62 Try.f62.results.toList y) (C62.shIn (long, wide, step)).st := by
  unfold f62 at hF
  refine Or.inl ?_
  refine Or.inl ?_
  refine Or.inl ?_
  refine condI hF (fun hF => ?_) (fun hF => ?_)
  · refine Or.inl ?_
    have hy := someE hF
    subst hy
    refine And.intro rfl (Exists.intro [] (Exists.intro [] (Exists.intro [] (Exists.intro [] (Exists.intro [] (And.intro rfl (And.intro rfl (And.intro trivial trivial))))))))
  · refine Or.inl ?_
    refine guardI hF (fun hF => ?_)
    have hy := someE hF
    subst hy
    refine And.intro rfl (Exists.intro [] (Exists.intro [] (Exists.intro [] (Exists.intro [] (Exists.intro [] (And.intro rfl (And.intro rfl (And.intro trivial trivial))))))))
theorem C62_holds : C62.Holds Try.prog 62 := holds_of_vc tab_ok mixed (fn := Try.f62) (by kernel_rfl) rfl C62 (fun x y hF => C62_vc x.1 x.2.1 x.2.2 y hF)
theorem f62_in : ∃ fn, Try.prog.funcs[62]? = some fn ∧ fn.body.isSome = true ∧ (fn.name == "runtime.NumGoroutine") = false := ⟨Try.f62, by kernel_rfl, by kernel_rfl, by kernel_rfl⟩
end Go.Proofs
namespace Go.Proofs
open Go.AM
-- carousel/conv.of
def f63 (d : List Int) : Option (Int × (List Int) × (List Int)) :=
  bindF (f23 d (0 : Int)) fun r1 =>
  bif (r1.1 != (0 : Int)) then
    some ((2 : Int), [], [])
  else
    some ((0 : Int), r1.2.1, r1.2.2)
def C63 : Con where
  X := List Int
  Y := Int × (List Int) × (List Int)
  e := 0
  args x := [.dat (.sl (.int .i64)) x]
  hin x := []
  F x := f63 x
  ret y := [.raw true [(.osl 0), (.osl 1)], .dat (.int .i64) y.1]
  hout y := [(0, .arr 3 (.int .i64) y.2.1), (1, .arr 24 (.int .i64) y.2.2)]
  nout := 2
theorem C63_vc (d : List Int) (y : Int × (List Int) × (List Int)) (hF : f63 d = some y) : vc Try.prog tab Try.f63.ntmps 0 (match Try.f63.body with | some c => c | none => .skip) (retK tab C63 Try.f63.results.toList y) (C63.shIn d).st := by
  unfold f63 at hF
  refine Or.inl ?_
  refine Or.inl ?_
  obtain ⟨r1, hr1, hF⟩ := bindE hF
  refine Or.inl (And.intro f23_in (callV0 (callI C23 (d, (0 : Int)) r1 [] false C23_holds hr1 rfl rfl ?_)))
  refine (And.intro rfl (And.intro rfl (And.intro (fun h => nomatch h) (And.intro rfl (And.intro rfl (And.intro trivial (And.intro trivial ?_)))))))
  refine Or.inl ?_
  refine Or.inl ?_
  refine Or.inl ?_
  refine condI hF (fun hF => ?_) (fun hF => ?_)
  · refine Or.inl ?_
    refine Or.inl ?_
    have hy := someE hF
    subst hy
    refine And.intro rfl (Exists.intro [] (Exists.intro [] (Exists.intro [] (Exists.intro [] (Exists.intro [(0, none), (1, none)] (And.intro rfl (And.intro rfl (And.intro (And.intro rfl trivial) (And.intro rfl (And.intro rfl trivial))))))))))
  · refine Or.inl ?_
    refine Or.inl ?_
    have hy := someE hF
    subst hy
    refine And.intro rfl (Exists.intro [] (Exists.intro [] (Exists.intro [] (Exists.intro [] (Exists.intro [(0, some 1), (1, some 2)] (And.intro rfl (And.intro rfl (And.intro (And.intro rfl trivial) (And.intro rfl (And.intro rfl trivial))))))))))
theorem C63_holds : C63.Holds Try.prog 63 := holds_of_vc tab_ok mixed (fn := Try.f63) (by kernel_rfl) rfl C63 (fun x y hF => C63_vc x y hF)
theorem f63_in : ∃ fn, Try.prog.funcs[63]? = some fn ∧ fn.body.isSome = true ∧ (fn.name == "runtime.NumGoroutine") = false := ⟨Try.f63, by kernel_rfl, by kernel_rfl, by kernel_rfl⟩
end Go.Proofs
