import Derived.Test.YtdnlicefpmiljaaGreatDoorModelCountsF2
set_option linter.unusedVariables false
set_option maxRecDepth 100000
set_option maxHeartbeats 8000000
namespace Go.Proofs
open Go.AM
-- carousel/tens.Turn
def f178_j3 (a : (List Int) × (List Int)) (order : List Int) : Option Bool :=
  bindF (f91 (a.1, a.2)) fun r9 =>
  bif (!r9) then
    some true
  else
    bindF (f204 order (List.length a.1 : Int)) fun r10 =>
    some (!r10)
def f178_j2 (a : (List Int) × (List Int)) (order : List Int) : Option (Sum Unit Unit) :=
  bindF (f178_j3 a order) fun z8 =>
  bif z8 then
    some (Sum.inr ())
  else
    some (Sum.inl ())
def f178_l4 (a : (List Int) × (List Int)) (order : List Int) (go : (Int × (List Int)) → Option (List Int)) (v36 : Int) (l2 : List Int) : Option (List Int) :=
  bif (decide (v36 < (List.length order : Int))) then
    guardF (0 ≤ v36 ∧ v36 < (List.length order : Int)) <|
    guardF (0 ≤ (rd (0 : Int) order v36) ∧ (rd (0 : Int) order v36) < (List.length a.1 : Int)) <|
    guardF (0 ≤ v36 ∧ v36 < (List.length l2 : Int)) <|
    go ((IntKind.i64.wrap (v36 + (1 : Int))), (List.set l2 (Int.toNat v36) (rd (0 : Int) a.1 (rd (0 : Int) order v36))))
  else
    some l2
def f178_l8 (order : List Int) (q21_9 : Bool × (List Int)) (go : (Int × (List Int)) → Option (List Int)) (v72 : Int) (l5_2 : List Int) : Option (List Int) :=
  bif (decide (v72 < (List.length order : Int))) then
    guardF (0 ≤ v72 ∧ v72 < (List.length order : Int)) <|
    guardF (0 ≤ v72 ∧ v72 < (List.length q21_9.2 : Int)) <|
    guardF (0 ≤ (rd (0 : Int) order v72) ∧ (rd (0 : Int) order v72) < (List.length l5_2 : Int)) <|
    go ((IntKind.i64.wrap (v72 + (1 : Int))), (List.set l5_2 (Int.toNat (rd (0 : Int) order v72)) (rd (0 : Int) q21_9.2 v72)))
  else
    some l5_2
def f178_l7 (a : (List Int) × (List Int)) (order : List Int) (z11 : List Int) (r12 : Int × (List Int) × (List Int)) (go : (Int × (List Int)) → Option (List Int)) (v58 : Int) (l5 : List Int) : Option (List Int) :=
  bif (decide (v58 < (List.length r12.2.2 : Int))) then
    bindF (f205 z11 v58) fun q21_9 =>
    guardF (0 ≤ (List.length order : Int) ∧ (List.length order : Int) ≤ (List.length order : Int) ∧ Int.toNat (List.length order : Int) * 8 ≤ 140737488355328) <|
    bindF (loopF (fun go x => f178_l8 order q21_9 go x.1 x.2) fuelN ((0 : Int), (List.replicate (Int.toNat (List.length order : Int)) (0 : Int)))) fun z19 =>
    bindF (f206 a.1 z19) fun r20 =>
    guardF (0 ≤ r20.1 ∧ r20.1 < (List.length a.2 : Int)) <|
    guardF (0 ≤ v58 ∧ v58 < (List.length l5 : Int)) <|
    go ((IntKind.i64.wrap (v58 + (1 : Int))), (List.set l5 (Int.toNat v58) (rd (0 : Int) a.2 r20.1)))
  else
    some l5
def f178 (a : (List Int) × (List Int)) (order : List Int) : Option (Int × (List Int) × (List Int)) :=
  bindF (f178_j2 a order) fun z5 =>
  sumF z5 (fun z5a =>
    guardF (0 ≤ (List.length order : Int) ∧ (List.length order : Int) ≤ (List.length order : Int) ∧ Int.toNat (List.length order : Int) * 8 ≤ 140737488355328) <|
    bindF (loopF (fun go x => f178_l4 a order go x.1 x.2) fuelN ((0 : Int), (List.replicate (Int.toNat (List.length order : Int)) (0 : Int)))) fun z11 =>
    bindF (f171 z11 (0 : Int)) fun r12 =>
    bindF (loopF (fun go x => f178_l7 a order z11 r12 go x.1 x.2) fuelN ((0 : Int), r12.2.2)) fun z18 =>
    some ((0 : Int), r12.2.1, z18)) (fun z5b =>
    some ((1 : Int), [], []))
def C178 : Con where
  X := ((List Int) × (List Int)) × (List Int)
  Y := Int × (List Int) × (List Int)
  e := 0
  args x := [.dat (.p (.sl (.int .i64)) (.sl (.int .i64))) x.1, .dat (.sl (.int .i64)) x.2]
  hin x := []
  F x := f178 x.1 x.2
  ret y := [.raw true [(.osl 0), (.osl 1)], .dat (.int .i64) y.1]
  hout y := [(0, .arr 3 (.int .i64) y.2.1), (1, .arr 57 (.int .i64) y.2.2)]
  nout := 2
theorem C178_vc (a : (List Int) × (List Int)) (order : List Int) (y : Int × (List Int) × (List Int)) (hF : f178 a order = some y) : vc Tryz.prog tab Tryz.f178.ntmps 0 (match Tryz.f178.body with | some c => c | none => .skip) (retK tab C178 Tryz.f178.results.toList y) (C178.shIn (a, order)).st := by
  unfold f178 at hF
  refine Or.inl ?_
  obtain ⟨z5, hz5, hF⟩ := bindE hF
  refine Or.inr ⟨Sum.elim (fun z5a => [(0, ⟨[(1, .dat (.sl (.int .i64)) order), (2, .raw false [(.ptr 0 0)]), (4, .raw false [(.ptr 1 0)])], [(0, .cells [(.d (.sl (.int .i64)) a.1), (.d (.sl (.int .i64)) a.2)]), (1, .cells [(.c (.slice none 0 0)), (.c (.slice none 0 0))])], 2⟩)]) (fun z5b => [(1, ⟨[(4, .raw false [(.ptr 0 0)]), (5, .dat (.int .i64) (1 : Int))], [(0, .cells [(.c (.slice none 0 0)), (.c (.slice none 0 0))])], 1⟩)]) z5, ?_, ?_⟩
  · have hF := hz5
    clear hz5
    unfold f178_j2 at hF
    obtain ⟨z8, hz8, hF⟩ := bindE hF
    refine Or.inr ⟨[(0, ⟨[(1, .dat (.sl (.int .i64)) order), (2, .raw false [(.ptr 0 0)]), (4, .raw false [(.ptr 1 0)]), (29, .dat .bool z8)], [(0, .cells [(.d (.sl (.int .i64)) a.1), (.d (.sl (.int .i64)) a.2)]), (1, .cells [(.c (.slice none 0 0)), (.c (.slice none 0 0))])], 2⟩)], ?_, ?_⟩
    · have hF := hz8
      clear hz8
      unfold f178_j3 at hF
      obtain ⟨r9, hr9, hF⟩ := bindE hF
      refine Or.inl (And.intro f91_in (callV0 (callI C91 (a.1, a.2) r9 [] false C91_holds hr9 rfl rfl ?_)))
      refine (And.intro rfl (And.intro rfl (And.intro (fun h => nomatch h) (And.intro rfl (And.intro rfl (And.intro trivial (And.intro trivial ?_)))))))
      refine condN hF (fun hF => ?_) (fun hF => ?_)
      · refine gdYF ?_
        refine gdYF ?_
        refine gdYF ?_
        refine gdYF ?_
        obtain ⟨r10, hr10, hF⟩ := bindE hF
        refine Or.inl (And.intro f204_in (callV0 (callI C204 (order, (List.length a.1 : Int)) r10 [] false C204_holds hr10 rfl rfl ?_)))
        refine (And.intro rfl (And.intro rfl (And.intro (fun h => nomatch h) (And.intro rfl (And.intro rfl (And.intro trivial (And.intro trivial ?_)))))))
        refine gdYF ?_
        refine condF ?_
        have hz := someE hF
        subst hz
        refine Exists.intro [] (Exists.intro [] (Exists.intro [] (Exists.intro [] (Exists.intro [(0, some 0), (1, some 1)] (And.intro rfl (And.intro rfl (And.intro rfl (And.intro (And.intro rfl (And.intro rfl trivial)) (And.intro rfl (And.intro rfl trivial))))))))))
      · refine gdNF ?_
        refine gdNF ?_
        refine gdNF ?_
        refine gdNF ?_
        refine gdNF ?_
        refine condT ?_
        have hz := someE hF
        subst hz
        refine Exists.intro [] (Exists.intro [] (Exists.intro [] (Exists.intro [] (Exists.intro [(0, some 0), (1, some 1)] (And.intro rfl (And.intro rfl (And.intro rfl (And.intro (And.intro rfl (And.intro rfl trivial)) (And.intro rfl (And.intro rfl trivial))))))))))
    · refine And.intro ?_ trivial
      refine condI hF (fun hF => ?_) (fun hF => ?_)
      · refine Or.inl ?_
        refine Or.inl ?_
        have hz := someE hF
        subst hz
        refine Exists.intro [] (Exists.intro [] (Exists.intro [] (Exists.intro [] (Exists.intro [(0, some 1)] (And.intro rfl (And.intro rfl (And.intro (And.intro rfl trivial) (And.intro rfl trivial))))))))
      · have hz := someE hF
        subst hz
        refine Exists.intro [] (Exists.intro [] (Exists.intro [] (Exists.intro [] (Exists.intro [(0, some 0), (1, some 1)] (And.intro rfl (And.intro rfl (And.intro (And.intro rfl (And.intro rfl trivial)) (And.intro rfl (And.intro rfl trivial)))))))))
  · rcases z5 with z5a | z5b
    · dsimp only [sumF] at hF
      refine And.intro ?_ trivial
      refine Or.inl ?_
      refine guardI hF (fun hF => ?_)
      refine Or.inl ?_
      refine Or.inl ?_
      obtain ⟨z11, hz11, hF⟩ := bindE hF
      refine loopI (Int × (List Int)) (List Int) (fun x => ⟨[(1, .dat (.sl (.int .i64)) order), (2, .raw false [(.ptr 0 0)]), (4, .raw false [(.ptr 1 0)]), (6, .raw false [(.osl 2)]), (34, .dat (.sl (.int .i64)) order), (35, .dat (.int .i64) (List.length order : Int)), (36, .dat (.int .i64) x.1)], [(0, .cells [(.d (.sl (.int .i64)) a.1), (.d (.sl (.int .i64)) a.2)]), (1, .cells [(.c (.slice none 0 0)), (.c (.slice none 0 0))]), (2, .arr 3 (.int .i64) x.2)], 3⟩) (fun z => [(2, ⟨[(1, .dat (.sl (.int .i64)) order), (2, .raw false [(.ptr 0 0)]), (4, .raw false [(.ptr 1 0)]), (6, .raw false [(.osl 2)])], [(0, .cells [(.d (.sl (.int .i64)) a.1), (.d (.sl (.int .i64)) a.2)]), (1, .cells [(.c (.slice none 0 0)), (.c (.slice none 0 0))]), (2, .arr 3 (.int .i64) z)], 3⟩)]) (loopF (fun go x => f178_l4 a order go x.1 x.2)) fuelN ((0 : Int), (List.replicate (Int.toNat (List.length order : Int)) (0 : Int))) z11 (And.intro hz11 (And.intro (Exists.intro [] (Exists.intro [] (Exists.intro [] (Exists.intro [] (Exists.intro [(0, some 0), (1, some 1), (2, some 2)] (And.intro rfl (And.intro rfl (And.intro rfl (And.intro rfl (And.intro rfl (And.intro (And.intro rfl (And.intro rfl (And.intro rfl trivial))) (And.intro rfl (And.intro rfl (And.intro rfl trivial)))))))))))))) (And.intro (fun _ _ h => loopZ h) (And.intro (fun m => curI (fun v36 => fun l2 z hF => ?_)) ?_))))
      · have hF : f178_l4 a order (loopF (fun go x => f178_l4 a order go x.1 x.2) m) v36 l2 = some z := hF
        unfold f178_l4 at hF
        refine Or.inl ?_
        refine Or.inl ?_
        refine condI hF (fun hF => ?_) (fun hF => ?_)
        · refine Or.inl ?_
          refine Or.inl ?_
          refine guardI hF (fun hF => ?_)
          refine guardI hF (fun hF => ?_)
          refine guardI hF (fun hF => ?_)
          refine Or.inl ?_
          refine Exists.intro ((IntKind.i64.wrap (v36 + (1 : Int))), (List.set l2 (Int.toNat v36) (rd (0 : Int) a.1 (rd (0 : Int) order v36)))) (And.intro hF (Exists.intro [] (Exists.intro [] (Exists.intro [] (Exists.intro [] (Exists.intro [(0, some 0), (1, some 1), (2, some 2)] (And.intro rfl (And.intro rfl (And.intro rfl (And.intro rfl (And.intro rfl (And.intro (And.intro rfl (And.intro rfl (And.intro rfl trivial))) (And.intro rfl (And.intro rfl (And.intro rfl trivial)))))))))))))))
        · have hz := someE hF
          subst hz
          refine Exists.intro [] (Exists.intro [] (Exists.intro [] (Exists.intro [] (Exists.intro [(0, some 0), (1, some 1), (2, some 2)] (And.intro rfl (And.intro rfl (And.intro (And.intro rfl (And.intro rfl (And.intro rfl trivial))) (And.intro rfl (And.intro rfl (And.intro rfl trivial))))))))))
      · refine And.intro ?_ trivial
        refine Or.inl ?_
        obtain ⟨r12, hr12, hF⟩ := bindE hF
        refine Or.inl (And.intro f171_in (callV0 (callI C171 (z11, (0 : Int)) r12 [] true C171_holds hr12 rfl rfl ?_)))
        refine (And.intro rfl (And.intro rfl (And.intro (fun _ => rfl) (And.intro rfl (And.intro rfl (And.intro trivial (And.intro trivial ?_)))))))
        refine Or.inl ?_
        refine Or.inl ?_
        refine Or.inl ?_
        obtain ⟨z18, hz18, hF⟩ := bindE hF
        refine loopI (Int × (List Int)) (List Int) (fun x => ⟨[(1, .dat (.sl (.int .i64)) order), (2, .raw false [(.ptr 0 0)]), (4, .raw false [(.ptr 1 0)]), (6, .raw false [(.osl 2)]), (9, .raw false [(.ptr 3 0)]), (57, .dat (.int .i64) (List.length r12.2.2 : Int)), (58, .dat (.int .i64) x.1)], [(0, .cells [(.d (.sl (.int .i64)) a.1), (.d (.sl (.int .i64)) a.2)]), (1, .cells [(.c (.slice none 0 0)), (.c (.slice none 0 0))]), (2, .arr 3 (.int .i64) z11), (3, .cells [(.osl 4), (.osl 5)]), (4, .arr 3 (.int .i64) r12.2.1), (5, .arr 57 (.int .i64) x.2)], 6⟩) (fun z => [(4, ⟨[(4, .raw false [(.ptr 0 0)]), (9, .raw false [(.ptr 1 0)])], [(0, .cells [(.c (.slice none 0 0)), (.c (.slice none 0 0))]), (1, .cells [(.osl 2), (.osl 3)]), (2, .arr 3 (.int .i64) r12.2.1), (3, .arr 57 (.int .i64) z)], 4⟩)]) (loopF (fun go x => f178_l7 a order z11 r12 go x.1 x.2)) fuelN ((0 : Int), r12.2.2) z18 (And.intro hz18 (And.intro (Exists.intro [] (Exists.intro [] (Exists.intro [] (Exists.intro [] (Exists.intro [(0, some 0), (1, some 1), (2, some 2), (3, some 5), (4, some 3), (5, some 4)] (And.intro rfl (And.intro rfl (And.intro rfl (And.intro rfl (And.intro (And.intro rfl (And.intro rfl (And.intro rfl (And.intro rfl trivial)))) (And.intro rfl (And.intro rfl (And.intro rfl (And.intro rfl (And.intro rfl (And.intro rfl trivial)))))))))))))))) (And.intro (fun _ _ h => loopZ h) (And.intro (fun m => curI (fun v58 => fun l5 z hF => ?_)) ?_))))
        · have hF : f178_l7 a order z11 r12 (loopF (fun go x => f178_l7 a order z11 r12 go x.1 x.2) m) v58 l5 = some z := hF
          unfold f178_l7 at hF
          refine Or.inl ?_
          refine Or.inl ?_
          refine condI hF (fun hF => ?_) (fun hF => ?_)
          · refine Or.inl ?_
            refine Or.inl ?_
            refine Or.inl ?_
            obtain ⟨q21_9, hq21_9, hF⟩ := bindE hF
            refine Or.inl (And.intro f205_in (callV0 (callI C205 (z11, v58) q21_9 [] true C205_holds hq21_9 rfl rfl ?_)))
            refine (And.intro rfl (And.intro rfl (And.intro (fun _ => rfl) (And.intro rfl (And.intro rfl (And.intro trivial (And.intro trivial ?_)))))))
            refine Or.inl ?_
            refine guardI hF (fun hF => ?_)
            refine Or.inl ?_
            refine Or.inl ?_
            obtain ⟨z19, hz19, hF⟩ := bindE hF
            refine loopI (Int × (List Int)) (List Int) (fun x => ⟨[(1, .dat (.sl (.int .i64)) order), (2, .raw false [(.ptr 0 0)]), (4, .raw false [(.ptr 1 0)]), (6, .raw false [(.osl 2)]), (9, .raw false [(.ptr 3 0)]), (11, .dat (.int .i64) v58), (12, .raw false [(.osl 4)]), (14, .raw false [(.osl 5)]), (57, .dat (.int .i64) (List.length r12.2.2 : Int)), (58, .dat (.int .i64) v58), (70, .dat (.sl (.int .i64)) order), (71, .dat (.int .i64) (List.length order : Int)), (72, .dat (.int .i64) x.1)], [(0, .cells [(.d (.sl (.int .i64)) a.1), (.d (.sl (.int .i64)) a.2)]), (1, .cells [(.c (.slice none 0 0)), (.c (.slice none 0 0))]), (2, .arr 3 (.int .i64) z11), (3, .cells [(.osl 6), (.osl 7)]), (4, .arr 3 (.int .i64) q21_9.2), (5, .arr 3 (.int .i64) x.2), (6, .arr 3 (.int .i64) r12.2.1), (7, .arr 57 (.int .i64) l5)], 8⟩) (fun z => [(6, ⟨[(1, .dat (.sl (.int .i64)) order), (2, .raw false [(.ptr 0 0)]), (4, .raw false [(.ptr 1 0)]), (6, .raw false [(.osl 2)]), (9, .raw false [(.ptr 3 0)]), (11, .dat (.int .i64) v58), (14, .raw false [(.osl 4)]), (57, .dat (.int .i64) (List.length r12.2.2 : Int)), (58, .dat (.int .i64) v58)], [(0, .cells [(.d (.sl (.int .i64)) a.1), (.d (.sl (.int .i64)) a.2)]), (1, .cells [(.c (.slice none 0 0)), (.c (.slice none 0 0))]), (2, .arr 3 (.int .i64) z11), (3, .cells [(.osl 5), (.osl 6)]), (4, .arr 3 (.int .i64) z), (5, .arr 3 (.int .i64) r12.2.1), (6, .arr 57 (.int .i64) l5)], 7⟩)]) (loopF (fun go x => f178_l8 order q21_9 go x.1 x.2)) fuelN ((0 : Int), (List.replicate (Int.toNat (List.length order : Int)) (0 : Int))) z19 (And.intro hz19 (And.intro (Exists.intro [] (Exists.intro [] (Exists.intro [] (Exists.intro [] (Exists.intro [(0, some 0), (1, some 1), (2, some 2), (3, some 3), (4, some 6), (5, some 7), (6, some 4), (7, some 5)] (And.intro rfl (And.intro rfl (And.intro rfl (And.intro rfl (And.intro rfl (And.intro rfl (And.intro rfl (And.intro rfl (And.intro (And.intro rfl (And.intro rfl (And.intro rfl (And.intro rfl (And.intro rfl (And.intro rfl trivial)))))) (And.intro rfl (And.intro rfl (And.intro rfl (And.intro rfl (And.intro rfl (And.intro rfl (And.intro rfl (And.intro rfl trivial)))))))))))))))))))))) (And.intro (fun _ _ h => loopZ h) (And.intro (fun m => curI (fun v72 => fun l5_2 z hF => ?_)) ?_))))
            · have hF : f178_l8 order q21_9 (loopF (fun go x => f178_l8 order q21_9 go x.1 x.2) m) v72 l5_2 = some z := hF
              unfold f178_l8 at hF
              refine Or.inl ?_
              refine Or.inl ?_
              refine condI hF (fun hF => ?_) (fun hF => ?_)
              · refine Or.inl ?_
                refine Or.inl ?_
                refine guardI hF (fun hF => ?_)
                refine guardI hF (fun hF => ?_)
                refine guardI hF (fun hF => ?_)
                refine Or.inl ?_
                refine Exists.intro ((IntKind.i64.wrap (v72 + (1 : Int))), (List.set l5_2 (Int.toNat (rd (0 : Int) order v72)) (rd (0 : Int) q21_9.2 v72))) (And.intro hF (Exists.intro [] (Exists.intro [] (Exists.intro [] (Exists.intro [] (Exists.intro [(0, some 0), (1, some 1), (2, some 2), (3, some 3), (4, some 4), (5, some 5), (6, some 6), (7, some 7)] (And.intro rfl (And.intro rfl (And.intro rfl (And.intro rfl (And.intro rfl (And.intro rfl (And.intro rfl (And.intro rfl (And.intro (And.intro rfl (And.intro rfl (And.intro rfl (And.intro rfl (And.intro rfl (And.intro rfl trivial)))))) (And.intro rfl (And.intro rfl (And.intro rfl (And.intro rfl (And.intro rfl (And.intro rfl (And.intro rfl (And.intro rfl trivial)))))))))))))))))))))))
              · have hz := someE hF
                subst hz
                refine Exists.intro [] (Exists.intro [] (Exists.intro [] (Exists.intro [] (Exists.intro [(0, some 0), (1, some 1), (2, some 2), (3, some 3), (4, some 5), (5, some 6), (6, some 7)] (And.intro rfl (And.intro rfl (And.intro rfl (And.intro rfl (And.intro rfl (And.intro (And.intro rfl (And.intro rfl (And.intro rfl (And.intro rfl (And.intro rfl trivial))))) (And.intro rfl (And.intro rfl (And.intro rfl (And.intro rfl (And.intro rfl (And.intro rfl (And.intro rfl trivial)))))))))))))))))
            · refine And.intro ?_ trivial
              refine Or.inl ?_
              obtain ⟨r20, hr20, hF⟩ := bindE hF
              refine Or.inl (And.intro f206_in (callV0 (callI C206 (a.1, z19) r20 [] true C206_holds hr20 rfl rfl ?_)))
              refine (And.intro rfl (And.intro rfl (And.intro (fun _ => rfl) (And.intro rfl (And.intro rfl (And.intro trivial (And.intro trivial ?_)))))))
              refine Exists.intro (.take 0 (.take 1 (.take 2 (.take 3 (.take 4 (.take 5 (.take 6 (.take 7 (.take 8 (.alt 9 .done .done)))))))))) (Exists.intro [] (Exists.intro [] (And.intro rfl ?_)))
              refine guardI hF (fun hF => ?_)
              refine guardI hF (fun hF => ?_)
              refine And.intro trivial ?_
              refine Or.inl ?_
              refine Exists.intro ((IntKind.i64.wrap (v58 + (1 : Int))), (List.set l5 (Int.toNat v58) (rd (0 : Int) a.2 r20.1))) (And.intro hF (Exists.intro [] (Exists.intro [] (Exists.intro [] (Exists.intro [] (Exists.intro [(0, some 0), (1, some 1), (2, some 2), (3, some 3), (4, some 5), (5, some 6)] (And.intro rfl (And.intro rfl (And.intro rfl (And.intro rfl (And.intro (And.intro rfl (And.intro rfl (And.intro rfl (And.intro rfl trivial)))) (And.intro rfl (And.intro rfl (And.intro rfl (And.intro rfl (And.intro rfl (And.intro rfl trivial)))))))))))))))))
          · have hz := someE hF
            subst hz
            refine Exists.intro [] (Exists.intro [] (Exists.intro [] (Exists.intro [] (Exists.intro [(0, some 1), (1, some 3), (2, some 4), (3, some 5)] (And.intro rfl (And.intro (And.intro rfl (And.intro rfl trivial)) (And.intro rfl (And.intro rfl (And.intro rfl (And.intro rfl trivial))))))))))
        · refine And.intro ?_ trivial
          refine Or.inl ?_
          refine Or.inl ?_
          have hy := someE hF
          subst hy
          refine And.intro rfl (Exists.intro [] (Exists.intro [] (Exists.intro [] (Exists.intro [] (Exists.intro [(0, some 2), (1, some 3)] (And.intro rfl (And.intro rfl (And.intro (And.intro rfl trivial) (And.intro rfl (And.intro rfl trivial))))))))))
    · dsimp only [sumF] at hF
      refine And.intro ?_ trivial
      have hy := someE hF
      subst hy
      refine And.intro rfl (Exists.intro [] (Exists.intro [] (Exists.intro [] (Exists.intro [] (Exists.intro [(0, none), (1, none)] (And.intro rfl (And.intro rfl (And.intro (And.intro rfl trivial) (And.intro rfl (And.intro rfl trivial))))))))))
theorem C178_holds : C178.Holds Tryz.prog 178 := holds_of_vc tab_ok mixed (fn := Tryz.f178) (by kernel_rfl) rfl C178 (fun x y hF => C178_vc x.1 x.2 y hF)
theorem f178_in : ∃ fn, Tryz.prog.funcs[178]? = some fn ∧ fn.body.isSome = true ∧ (fn.name == "runtime.NumGoroutine") = false := ⟨Tryz.f178, by kernel_rfl, by kernel_rfl, by kernel_rfl⟩
end Go.Proofs
namespace Go.Proofs
open Go.AM
-- carousel/matm.Flip
def f144 (a : (List Int) × (List Int)) : Option (Int × (List Int) × (List Int)) :=
  bindF (f91 (a.1, a.2)) fun r1 =>
  bif (!r1) then
    some ((1 : Int), [], [])
  else
    bindF (f170 (a.1, a.2)) fun r2 =>
    bif (!r2) then
      some ((4 : Int), [], [])
    else
      bindF (f178 (a.1, a.2) ([(1 : Int), (0 : Int)])) fun r3 =>
      some (r3.1, r3.2.1, r3.2.2)
def C144 : Con where
  X := (List Int) × (List Int)
  Y := Int × (List Int) × (List Int)
  e := 0
  args x := [.dat (.p (.sl (.int .i64)) (.sl (.int .i64))) x]
  hin x := []
  F x := f144 x
  ret y := [.raw true [(.osl 0), (.osl 1)], .dat (.int .i64) y.1]
  hout y := [(0, .arr 3 (.int .i64) y.2.1), (1, .arr 57 (.int .i64) y.2.2)]
  nout := 2
theorem C144_vc (a : (List Int) × (List Int)) (y : Int × (List Int) × (List Int)) (hF : f144 a = some y) : vc Tryz.prog tab Tryz.f144.ntmps 0 (match Tryz.f144.body with | some c => c | none => .skip) (retK tab C144 Tryz.f144.results.toList y) (C144.shIn a).st := by
  unfold f144 at hF
  refine Or.inl ?_
  refine Or.inl ?_
  refine Or.inl ?_
  obtain ⟨r1, hr1, hF⟩ := bindE hF
  refine Or.inl (And.intro f91_in (callV0 (callI C91 (a.1, a.2) r1 [] false C91_holds hr1 rfl rfl ?_)))
  refine (And.intro rfl (And.intro rfl (And.intro (fun h => nomatch h) (And.intro rfl (And.intro rfl (And.intro trivial (And.intro trivial ?_)))))))
  refine condI hF (fun hF => ?_) (fun hF => ?_)
  · refine Or.inl ?_
    refine Or.inl ?_
    have hy := someE hF
    subst hy
    refine And.intro rfl (Exists.intro [] (Exists.intro [] (Exists.intro [] (Exists.intro [] (Exists.intro [(0, none), (1, none)] (And.intro rfl (And.intro rfl (And.intro (And.intro rfl trivial) (And.intro rfl (And.intro rfl trivial))))))))))
  · refine Or.inl ?_
    obtain ⟨r2, hr2, hF⟩ := bindE hF
    refine Or.inl (And.intro f170_in (callV0 (callI C170 (a.1, a.2) r2 [] false C170_holds hr2 rfl rfl ?_)))
    refine (And.intro rfl (And.intro rfl (And.intro (fun h => nomatch h) (And.intro rfl (And.intro rfl (And.intro trivial (And.intro trivial ?_)))))))
    refine condI hF (fun hF => ?_) (fun hF => ?_)
    · refine Or.inl ?_
      refine Or.inl ?_
      have hy := someE hF
      subst hy
      refine And.intro rfl (Exists.intro [] (Exists.intro [] (Exists.intro [] (Exists.intro [] (Exists.intro [(0, none), (1, none)] (And.intro rfl (And.intro rfl (And.intro (And.intro rfl trivial) (And.intro rfl (And.intro rfl trivial))))))))))
    · refine Or.inl ?_
      refine Or.inl ?_
      obtain ⟨r3, hr3, hF⟩ := bindE hF
      refine Or.inl (And.intro f178_in (callV0 (callI C178 ((a.1, a.2), [(1 : Int), (0 : Int)]) r3 [] true C178_holds hr3 rfl rfl ?_)))
      refine (And.intro rfl (And.intro rfl (And.intro rfl (And.intro (fun _ => rfl) (And.intro rfl (And.intro rfl (And.intro trivial (And.intro trivial ?_))))))))
      refine Or.inl ?_
      have hy := someE hF
      subst hy
      refine And.intro rfl (Exists.intro [] (Exists.intro [] (Exists.intro [] (Exists.intro [] (Exists.intro [(0, some 3), (1, some 4)] (And.intro rfl (And.intro rfl (And.intro (And.intro rfl trivial) (And.intro rfl (And.intro rfl trivial))))))))))
theorem C144_holds : C144.Holds Tryz.prog 144 := holds_of_vc tab_ok mixed (fn := Tryz.f144) (by kernel_rfl) rfl C144 (fun x y hF => C144_vc x y hF)
theorem f144_in : ∃ fn, Tryz.prog.funcs[144]? = some fn ∧ fn.body.isSome = true ∧ (fn.name == "runtime.NumGoroutine") = false := ⟨Tryz.f144, by kernel_rfl, by kernel_rfl, by kernel_rfl⟩
end Go.Proofs
namespace Go.Proofs
open Go.AM
-- carousel/wide.size
def f210 (v : Int) : Option Int :=
  bif (decide (v < (0 : Int))) then
    some (IntKind.u64.wrap (0 - (IntKind.u64.wrap v)))
  else
    some (IntKind.u64.wrap v)
def C210 : Con where
  X := Int
  Y := Int
  e := 0
  args x := [.dat (.int .i64) x]
  hin x := []
  F x := f210 x
  ret y := [.dat (.int .u64) y]
  hout y := []
  nout := 0
theorem C210_vc (v : Int) (y : Int) (hF : f210 v = some y) : vc Tryz.prog tab Tryz.f210.ntmps 0 (match Tryz.f210.body with | some c => c | none => .skip) (retK tab C210 Tryz.f210.results.toList y) (C210.shIn v).st := by
  unfold f210 at hF
  refine Or.inl ?_
  refine Or.inl ?_
  refine Or.inl ?_
  refine condI hF (fun hF => ?_) (fun hF => ?_)
  · refine Or.inl ?_
    have hy := someE hF
    subst hy
    refine And.intro rfl (Exists.intro [] (Exists.intro [] (Exists.intro [] (Exists.intro [] (Exists.intro [] (And.intro rfl (And.intro rfl (And.intro trivial trivial))))))))
  · refine Or.inl ?_
    have hy := someE hF
    subst hy
    refine And.intro rfl (Exists.intro [] (Exists.intro [] (Exists.intro [] (Exists.intro [] (Exists.intro [] (And.intro rfl (And.intro rfl (And.intro trivial trivial))))))))
theorem C210_holds : C210.Holds Tryz.prog 210 := holds_of_vc tab_ok mixed (fn := Tryz.f210) (by kernel_rfl) rfl C210 (fun x y hF => C210_vc x y hF)
theorem f210_in : ∃ fn, Tryz.prog.funcs[210]? = some fn ∧ fn.body.isSome = true ∧ (fn.name == "runtime.NumGoroutine") = false := ⟨Tryz.f210, by kernel_rfl, by kernel_rfl, by kernel_rfl⟩
end Go.Proofs
namespace Go.Proofs
open Go.AM
-- carousel/wide.Sub
def f227 (a : Int × Int) (b : Int × Int) : Option (Int × Int) :=
  bindF (sub64 a.2 b.2 (0 : Int)) fun r1 =>
  bindF (sub64 (IntKind.u64.wrap a.1) (IntKind.u64.wrap b.1) r1.2) fun r2 =>
  some ((IntKind.i64.wrap r2.1), r1.1)
def C227 : Con where
  X := (Int × Int) × (Int × Int)
  Y := Int × Int
  e := 0
  args x := [.dat (.p (.int .i64) (.int .u64)) x.1, .dat (.p (.int .i64) (.int .u64)) x.2]
  hin x := []
  F x := f227 x.1 x.2
  ret y := [.raw true [(.d (.int .i64) y.1), (.d (.int .u64) y.2)]]
  hout y := []
  nout := 0
theorem C227_vc (a : Int × Int) (b : Int × Int) (y : Int × Int) (hF : f227 a b = some y) : vc Tryz.prog tab Tryz.f227.ntmps 0 (match Tryz.f227.body with | some c => c | none => .skip) (retK tab C227 Tryz.f227.results.toList y) (C227.shIn (a, b)).st := by
  unfold f227 at hF
  refine Or.inl ?_
  refine Or.inl ?_
  obtain ⟨r1, hr1, hF⟩ := bindE hF
  refine Or.inr ⟨ext3 sub64, [r1.1, r1.2], sub64_ok, And.intro (ext3I hr1) ?_⟩
  refine Or.inl ?_
  obtain ⟨r2, hr2, hF⟩ := bindE hF
  refine Or.inr ⟨ext3 sub64, [r2.1, r2.2], sub64_ok, And.intro (ext3I hr2) ?_⟩
  refine Or.inl ?_
  refine Or.inl ?_
  have hy := someE hF
  subst hy
  refine And.intro rfl (Exists.intro [] (Exists.intro [] (Exists.intro [] (Exists.intro [] (Exists.intro [] (And.intro rfl (And.intro (And.intro rfl trivial) trivial)))))))
theorem C227_holds : C227.Holds Tryz.prog 227 := holds_of_vc tab_ok mixed (fn := Tryz.f227) (by kernel_rfl) rfl C227 (fun x y hF => C227_vc x.1 x.2 y hF)
theorem f227_in : ∃ fn, Tryz.prog.funcs[227]? = some fn ∧ fn.body.isSome = true ∧ (fn.name == "runtime.NumGoroutine") = false := ⟨Tryz.f227, by kernel_rfl, by kernel_rfl, by kernel_rfl⟩
end Go.Proofs
namespace Go.Proofs
open Go.AM
-- carousel/wide.Neg
def f212 (a : Int × Int) : Option (Int × Int) :=
  bindF (f227 ((0 : Int), (0 : Int)) (a.1, a.2)) fun r1 =>
  some (r1.1, r1.2)
def C212 : Con where
  X := Int × Int
  Y := Int × Int
  e := 0
  args x := [.dat (.p (.int .i64) (.int .u64)) x]
  hin x := []
  F x := f212 x
  ret y := [.raw true [(.d (.int .i64) y.1), (.d (.int .u64) y.2)]]
  hout y := []
  nout := 0
theorem C212_vc (a : Int × Int) (y : Int × Int) (hF : f212 a = some y) : vc Tryz.prog tab Tryz.f212.ntmps 0 (match Tryz.f212.body with | some c => c | none => .skip) (retK tab C212 Tryz.f212.results.toList y) (C212.shIn a).st := by
  unfold f212 at hF
  refine Or.inl ?_
  refine Or.inl ?_
  obtain ⟨r1, hr1, hF⟩ := bindE hF
  refine Or.inl (And.intro f227_in (callV0 (callI C227 (((0 : Int), (0 : Int)), (a.1, a.2)) r1 [] false C227_holds hr1 rfl rfl ?_)))
  refine (And.intro rfl (And.intro rfl (And.intro rfl (And.intro rfl (And.intro (fun h => nomatch h) (And.intro rfl (And.intro rfl (And.intro trivial (And.intro trivial ?_)))))))))
  refine Or.inl ?_
  have hy := someE hF
  subst hy
  refine And.intro rfl (Exists.intro [] (Exists.intro [] (Exists.intro [] (Exists.intro [] (Exists.intro [] (And.intro rfl (And.intro (And.intro rfl trivial) trivial)))))))
theorem C212_holds : C212.Holds Tryz.prog 212 := holds_of_vc tab_ok mixed (fn := Tryz.f212) (by kernel_rfl) rfl C212 (fun x y hF => C212_vc x y hF)
theorem f212_in : ∃ fn, Tryz.prog.funcs[212]? = some fn ∧ fn.body.isSome = true ∧ (fn.name == "runtime.NumGoroutine") = false := ⟨Tryz.f212, by kernel_rfl, by kernel_rfl, by kernel_rfl⟩
end Go.Proofs
namespace Go.Proofs
open Go.AM
-- carousel/wide.Prod
def f202 (a : Int) (b : Int) : Option (Int × Int) :=
  bindF (f210 a) fun r1 =>
  bindF (f210 b) fun r2 =>
  bindF (f197 r1 r2) fun r3 =>
  bif (!((decide (a < (0 : Int))) == (decide (b < (0 : Int))))) then
    bindF (f212 ((IntKind.i64.wrap r3.1), r3.2)) fun r4 =>
    some (r4.1, r4.2)
  else
    some ((IntKind.i64.wrap r3.1), r3.2)
def C202 : Con where
  X := Int × Int
  Y := Int × Int
  e := 0
  args x := [.dat (.int .i64) x.1, .dat (.int .i64) x.2]
  hin x := []
  F x := f202 x.1 x.2
  ret y := [.raw true [(.d (.int .i64) y.1), (.d (.int .u64) y.2)]]
  hout y := []
  nout := 0
theorem C202_vc (a : Int) (b : Int) (y : Int × Int) (hF : f202 a b = some y) : vc Tryz.prog tab Tryz.f202.ntmps 0 (match Tryz.f202.body with | some c => c | none => .skip) (retK tab C202 Tryz.f202.results.toList y) (C202.shIn (a, b)).st := by
  unfold f202 at hF
  refine Or.inl ?_
  refine Or.inl ?_
  obtain ⟨r1, hr1, hF⟩ := bindE hF
  refine Or.inl (And.intro f210_in (callV0 (callI C210 a r1 [] false C210_holds hr1 rfl rfl ?_)))
  refine (And.intro rfl (And.intro (fun h => nomatch h) (And.intro rfl (And.intro rfl (And.intro trivial (And.intro trivial ?_))))))
  obtain ⟨r2, hr2, hF⟩ := bindE hF
  refine Or.inl (And.intro f210_in (callV0 (callI C210 b r2 [] false C210_holds hr2 rfl rfl ?_)))
  refine (And.intro rfl (And.intro (fun h => nomatch h) (And.intro rfl (And.intro rfl (And.intro trivial (And.intro trivial ?_))))))
  obtain ⟨r3, hr3, hF⟩ := bindE hF
  refine Or.inl (And.intro f197_in (callV0 (callI C197 (r1, r2) r3 [] false C197_holds hr3 rfl rfl ?_)))
  refine (And.intro rfl (And.intro rfl (And.intro (fun h => nomatch h) (And.intro rfl (And.intro rfl (And.intro trivial (And.intro trivial ?_)))))))
  refine Or.inl ?_
  refine Or.inl ?_
  refine Or.inl ?_
  refine Or.inl ?_
  refine condI hF (fun hF => ?_) (fun hF => ?_)
  · refine Or.inl ?_
    obtain ⟨r4, hr4, hF⟩ := bindE hF
    refine Or.inl (And.intro f212_in (callV0 (callI C212 ((IntKind.i64.wrap r3.1), r3.2) r4 [] false C212_holds hr4 rfl rfl ?_)))
    refine (And.intro rfl (And.intro rfl (And.intro (fun h => nomatch h) (And.intro rfl (And.intro rfl (And.intro trivial (And.intro trivial ?_)))))))
    refine Or.inl ?_
    have hy := someE hF
    subst hy
    refine And.intro rfl (Exists.intro [] (Exists.intro [] (Exists.intro [] (Exists.intro [] (Exists.intro [] (And.intro rfl (And.intro (And.intro rfl trivial) trivial)))))))
  · refine Or.inl ?_
    refine Or.inl ?_
    have hy := someE hF
    subst hy
    refine And.intro rfl (Exists.intro [] (Exists.intro [] (Exists.intro [] (Exists.intro [] (Exists.intro [] (And.intro rfl (And.intro (And.intro rfl trivial) trivial)))))))
theorem C202_holds : C202.Holds Tryz.prog 202 := holds_of_vc tab_ok mixed (fn := Tryz.f202) (by kernel_rfl) rfl C202 (fun x y hF => C202_vc x.1 x.2 y hF)
theorem f202_in : ∃ fn, Tryz.prog.funcs[202]? = some fn ∧ fn.body.isSome = true ∧ (fn.name == "runtime.NumGoroutine") = false := ⟨Tryz.f202, by kernel_rfl, by kernel_rfl, by kernel_rfl⟩
end Go.Proofs
namespace Go.Proofs
open Go.AM
-- (*carousel/wide.Acc).Plus
def f176 (s_top : Int) (s_low_Hi : Int) (s_low_Lo : Int) (a : Int) (b : Int) : Option (Int × Int × Int) :=
  bindF (f202 a b) fun q4_13 =>
  bindF (add64 s_low_Lo q4_13.2 (0 : Int)) fun q1_7 =>
  bindF (add64 (IntKind.u64.wrap s_low_Hi) (IntKind.u64.wrap q4_13.1) q1_7.2) fun q2_10 =>
  some ((IntKind.i64.wrap (s_top + (IntKind.i64.wrap ((Int.fdiv q4_13.1 (2 ^ min (Int.toNat (63 : Int)) (IntKind.bits IntKind.i64))) + (IntKind.i64.wrap q2_10.2))))), (IntKind.i64.wrap q2_10.1), q1_7.1)
def C176 : Con where
  X := Int × Int × Int × Int × Int
  Y := Int × Int × Int
  e := 1
  args x := [.raw false [(.ptr 0 0)], .dat (.int .i64) x.2.2.2.1, .dat (.int .i64) x.2.2.2.2]
  hin x := [(0, .cells [(.d (.int .i64) x.1), (.d (.int .i64) x.2.1), (.d (.int .u64) x.2.2.1)])]
  F x := f176 x.1 x.2.1 x.2.2.1 x.2.2.2.1 x.2.2.2.2
  ret y := []
  hout y := [(0, .cells [(.d (.int .i64) y.1), (.d (.int .i64) y.2.1), (.d (.int .u64) y.2.2)])]
  nout := 1
theorem C176_vc (s_top : Int) (s_low_Hi : Int) (s_low_Lo : Int) (a : Int) (b : Int) (y : Int × Int × Int) (hF : f176 s_top s_low_Hi s_low_Lo a b = some y) : vc Tryz.prog tab Tryz.f176.ntmps 1 (match Tryz.f176.body with | some c => c | none => .skip) (retK tab C176 Tryz.f176.results.toList y) (C176.shIn (s_top, s_low_Hi, s_low_Lo, a, b)).st := by
  unfold f176 at hF
  refine Or.inl ?_
  obtain ⟨q4_13, hq4_13, hF⟩ := bindE hF
  refine Or.inl (And.intro f202_in (callV0 (callI C202 (a, b) q4_13 [] false C202_holds hq4_13 rfl rfl ?_)))
  refine (And.intro rfl (And.intro rfl (And.intro (fun h => nomatch h) (And.intro rfl (And.intro rfl (And.intro trivial (And.intro trivial ?_)))))))
  refine Or.inl ?_
  refine Or.inl ?_
  refine Exists.intro (.take 0 (.take 1 (.take 2 (.take 3 (.take 4 (.take 5 (.take 6 (.alt 7 (.take 8 (.take 9 (.take 10 (.take 11 (.take 12 .done))))) .done)))))))) (Exists.intro [] (Exists.intro [] (And.intro rfl ?_)))
  refine And.intro trivial ?_
  obtain ⟨q1_7, hq1_7, hF⟩ := bindE hF
  refine Or.inr ⟨ext3 add64, [q1_7.1, q1_7.2], add64_ok, And.intro (ext3I hq1_7) ?_⟩
  refine Or.inl ?_
  refine Exists.intro (.take 0 (.take 1 (.take 2 (.take 3 (.take 4 (.take 5 (.take 6 (.take 7 (.take 8 (.take 9 (.alt 10 (.take 11 (.take 12 (.take 13 (.take 14 (.take 15 .done))))) .done))))))))))) (Exists.intro [] (Exists.intro [] (And.intro rfl ?_)))
  refine And.intro trivial ?_
  obtain ⟨q2_10, hq2_10, hF⟩ := bindE hF
  refine Or.inr ⟨ext3 add64, [q2_10.1, q2_10.2], add64_ok, And.intro (ext3I hq2_10) ?_⟩
  refine Or.inl ?_
  refine Or.inl ?_
  refine Exists.intro (.take 0 (.take 1 (.take 2 (.take 3 (.take 4 (.take 5 (.take 6 (.take 7 (.take 8 (.take 9 (.take 10 (.take 11 (.take 12 (.alt 13 .done .done)))))))))))))) (Exists.intro [(13, [0])] (Exists.intro [] (And.intro rfl ?_)))
  refine And.intro (by decide) ?_
  refine And.intro trivial ?_
  refine Or.inl ?_
  have hy := someE hF
  subst hy
  refine And.intro rfl (Exists.intro [] (Exists.intro [] (Exists.intro [] (Exists.intro [] (Exists.intro [(0, some 0)] (And.intro rfl (And.intro trivial (And.intro rfl trivial))))))))
theorem C176_holds : C176.Holds Tryz.prog 176 := holds_of_vc tab_ok mixed (fn := Tryz.f176) (by kernel_rfl) rfl C176 (fun x y hF => C176_vc x.1 x.2.1 x.2.2.1 x.2.2.2.1 x.2.2.2.2 y hF)
theorem f176_in : ∃ fn, Tryz.prog.funcs[176]? = some fn ∧ fn.body.isSome = true ∧ (fn.name == "runtime.NumGoroutine") = false := ⟨Tryz.f176, by kernel_rfl, by kernel_rfl, by kernel_rfl⟩
end Go.Proofs
namespace Go.Proofs
open Go.AM
-- carousel/wide.down
def f224 (a : Int × Int) (n : Int) : Option (Int × Int × Int × Int) :=
  bif (decide (n ≥ (64 : Int))) then
    guardF (0 ≤ (IntKind.i64.wrap (n - (64 : Int)))) <|
    guardF (0 ≤ (IntKind.i64.wrap ((64 : Int) - (IntKind.i64.wrap (n - (64 : Int)))))) <|
    guardF (0 ≤ (IntKind.i64.wrap (n - (64 : Int)))) <|
    guardF (0 ≤ (IntKind.i64.wrap ((64 : Int) - (IntKind.i64.wrap (n - (64 : Int)))))) <|
    some ((Int.fdiv a.1 (2 ^ min (Int.toNat (63 : Int)) (IntKind.bits IntKind.i64))), (IntKind.u64.wrap (Int.fdiv a.1 (2 ^ min (Int.toNat (IntKind.i64.wrap (n - (64 : Int)))) (IntKind.bits IntKind.i64)))), (bitsOf IntKind.u64 (fun p q => p ||| q) (IntKind.u64.wrap ((IntKind.u64.wrap a.1) * 2 ^ min (Int.toNat (IntKind.i64.wrap ((64 : Int) - (IntKind.i64.wrap (n - (64 : Int)))))) (IntKind.bits IntKind.u64))) (Int.fdiv a.2 (2 ^ min (Int.toNat (IntKind.i64.wrap (n - (64 : Int)))) (IntKind.bits IntKind.u64)))), (IntKind.u64.wrap (a.2 * 2 ^ min (Int.toNat (IntKind.i64.wrap ((64 : Int) - (IntKind.i64.wrap (n - (64 : Int)))))) (IntKind.bits IntKind.u64))))
  else
    guardF (0 ≤ n) <|
    guardF (0 ≤ (IntKind.i64.wrap ((64 : Int) - n))) <|
    guardF (0 ≤ n) <|
    guardF (0 ≤ (IntKind.i64.wrap ((64 : Int) - n))) <|
    some ((Int.fdiv a.1 (2 ^ min (Int.toNat n) (IntKind.bits IntKind.i64))), (bitsOf IntKind.u64 (fun p q => p ||| q) (IntKind.u64.wrap ((IntKind.u64.wrap a.1) * 2 ^ min (Int.toNat (IntKind.i64.wrap ((64 : Int) - n))) (IntKind.bits IntKind.u64))) (Int.fdiv a.2 (2 ^ min (Int.toNat n) (IntKind.bits IntKind.u64)))), (IntKind.u64.wrap (a.2 * 2 ^ min (Int.toNat (IntKind.i64.wrap ((64 : Int) - n))) (IntKind.bits IntKind.u64))), (0 : Int))
def C224 : Con where
  X := (Int × Int) × Int
  Y := Int × Int × Int × Int
  e := 0
  args x := [.dat (.p (.int .i64) (.int .u64)) x.1, .dat (.int .i64) x.2]
  hin x := []
  F x := f224 x.1 x.2
  ret y := [.raw true [(.d (.int .i64) y.1), (.d (.int .u64) y.2.1)], .dat (.int .u64) y.2.2.1, .dat (.int .u64) y.2.2.2]
  hout y := []
  nout := 0
theorem C224_vc (a : Int × Int) (n : Int) (y : Int × Int × Int × Int) (hF : f224 a n = some y) : vc Tryz.prog tab Tryz.f224.ntmps 0 (match Tryz.f224.body with | some c => c | none => .skip) (retK tab C224 Tryz.f224.results.toList y) (C224.shIn (a, n)).st := by
  unfold f224 at hF
  refine Or.inl ?_
  refine Or.inl ?_
  refine Exists.intro (.take 0 (.take 1 (.take 2 (.take 3 (.take 4 (.take 5 (.take 6 .done))))))) (Exists.intro [] (Exists.intro [] (And.intro rfl ?_)))
  refine Or.inl ?_
  refine Or.inl ?_
  refine condI hF (fun hF => ?_) (fun hF => ?_)
  · refine Or.inl ?_
    refine Or.inl ?_
    refine Exists.intro (.take 0 (.take 1 (.take 2 (.take 3 (.take 4 (.take 5 (.take 6 (.take 7 (.take 8 (.alt 9 (.alt 10 .done .done) .done)))))))))) (Exists.intro [] (Exists.intro [] (And.intro rfl ?_)))
    refine And.intro (by decide) ?_
    refine guardI hF (fun hF => ?_)
    refine And.intro trivial ?_
    refine And.intro trivial ?_
    refine Or.inl ?_
    refine Or.inl ?_
    refine Exists.intro (.take 0 (.take 1 (.take 2 (.take 3 (.take 4 (.take 5 (.take 6 (.take 7 (.take 8 (.take 9 (.take 10 (.take 11 (.take 12 (.alt 13 (.take 14 (.take 15 .done)) .done)))))))))))))) (Exists.intro [] (Exists.intro [] (And.intro rfl ?_)))
    refine guardI hF (fun hF => ?_)
    refine guardI hF (fun hF => ?_)
    refine guardI hF (fun hF => ?_)
    refine And.intro trivial ?_
    refine Or.inl ?_
    have hy := someE hF
    subst hy
    refine And.intro rfl (Exists.intro [] (Exists.intro [] (Exists.intro [] (Exists.intro [] (Exists.intro [] (And.intro rfl (And.intro rfl (And.intro rfl (And.intro (And.intro rfl trivial) trivial)))))))))
  · refine Or.inl ?_
    refine Exists.intro (.take 0 (.take 1 (.take 2 (.take 3 (.take 4 (.take 5 (.take 6 (.take 7 (.take 8 (.take 9 (.take 10 (.take 11 (.take 12 (.take 13 (.take 14 (.take 15 (.take 16 (.alt 17 (.take 18 (.take 19 .done)) .done)))))))))))))))))) (Exists.intro [] (Exists.intro [] (And.intro rfl ?_)))
    refine guardI hF (fun hF => ?_)
    refine guardI hF (fun hF => ?_)
    refine guardI hF (fun hF => ?_)
    refine guardI hF (fun hF => ?_)
    refine And.intro trivial ?_
    refine Or.inl ?_
    have hy := someE hF
    subst hy
    refine And.intro rfl (Exists.intro [] (Exists.intro [] (Exists.intro [] (Exists.intro [] (Exists.intro [] (And.intro rfl (And.intro rfl (And.intro rfl (And.intro (And.intro rfl trivial) trivial)))))))))
theorem C224_holds : C224.Holds Tryz.prog 224 := holds_of_vc tab_ok mixed (fn := Tryz.f224) (by kernel_rfl) rfl C224 (fun x y hF => C224_vc x.1 x.2 y hF)
theorem f224_in : ∃ fn, Tryz.prog.funcs[224]? = some fn ∧ fn.body.isSome = true ∧ (fn.name == "runtime.NumGoroutine") = false := ⟨Tryz.f224, by kernel_rfl, by kernel_rfl, by kernel_rfl⟩
end Go.Proofs
namespace Go.Proofs
open Go.AM
-- carousel/wide.Of
def f181 (n : Int) : Option (Int × Int) :=
  some ((Int.fdiv n (2 ^ min (Int.toNat (63 : Int)) (IntKind.bits IntKind.i64))), (IntKind.u64.wrap n))
def C181 : Con where
  X := Int
  Y := Int × Int
  e := 0
  args x := [.dat (.int .i64) x]
  hin x := []
  F x := f181 x
  ret y := [.raw true [(.d (.int .i64) y.1), (.d (.int .u64) y.2)]]
  hout y := []
  nout := 0
theorem C181_vc (n : Int) (y : Int × Int) (hF : f181 n = some y) : vc Tryz.prog tab Tryz.f181.ntmps 0 (match Tryz.f181.body with | some c => c | none => .skip) (retK tab C181 Tryz.f181.results.toList y) (C181.shIn n).st := by
  unfold f181 at hF
  refine Or.inl ?_
  refine Or.inl ?_
  refine And.intro (by decide) ?_
  refine Or.inl ?_
  have hy := someE hF
  subst hy
  refine And.intro rfl (Exists.intro [] (Exists.intro [] (Exists.intro [] (Exists.intro [] (Exists.intro [] (And.intro rfl (And.intro (And.intro rfl trivial) trivial)))))))
theorem C181_holds : C181.Holds Tryz.prog 181 := holds_of_vc tab_ok mixed (fn := Tryz.f181) (by kernel_rfl) rfl C181 (fun x y hF => C181_vc x y hF)
theorem f181_in : ∃ fn, Tryz.prog.funcs[181]? = some fn ∧ fn.body.isSome = true ∧ (fn.name == "runtime.NumGoroutine") = false := ⟨Tryz.f181, by kernel_rfl, by kernel_rfl, by kernel_rfl⟩
end Go.Proofs
namespace Go.Proofs
open Go.AM
-- carousel/wide.Add
def f180 (a : Int × Int) (b : Int × Int) : Option (Int × Int) :=
  bindF (add64 a.2 b.2 (0 : Int)) fun r1 =>
  bindF (add64 (IntKind.u64.wrap a.1) (IntKind.u64.wrap b.1) r1.2) fun r2 =>
  some ((IntKind.i64.wrap r2.1), r1.1)
def C180 : Con where
  X := (Int × Int) × (Int × Int)
  Y := Int × Int
  e := 0
  args x := [.dat (.p (.int .i64) (.int .u64)) x.1, .dat (.p (.int .i64) (.int .u64)) x.2]
  hin x := []
  F x := f180 x.1 x.2
  ret y := [.raw true [(.d (.int .i64) y.1), (.d (.int .u64) y.2)]]
  hout y := []
  nout := 0
theorem C180_vc (a : Int × Int) (b : Int × Int) (y : Int × Int) (hF : f180 a b = some y) : vc Tryz.prog tab Tryz.f180.ntmps 0 (match Tryz.f180.body with | some c => c | none => .skip) (retK tab C180 Tryz.f180.results.toList y) (C180.shIn (a, b)).st := by
  unfold f180 at hF
  refine Or.inl ?_
  refine Or.inl ?_
  obtain ⟨r1, hr1, hF⟩ := bindE hF
  refine Or.inr ⟨ext3 add64, [r1.1, r1.2], add64_ok, And.intro (ext3I hr1) ?_⟩
  refine Or.inl ?_
  obtain ⟨r2, hr2, hF⟩ := bindE hF
  refine Or.inr ⟨ext3 add64, [r2.1, r2.2], add64_ok, And.intro (ext3I hr2) ?_⟩
  refine Or.inl ?_
  refine Or.inl ?_
  have hy := someE hF
  subst hy
  refine And.intro rfl (Exists.intro [] (Exists.intro [] (Exists.intro [] (Exists.intro [] (Exists.intro [] (And.intro rfl (And.intro (And.intro rfl trivial) trivial)))))))
theorem C180_holds : C180.Holds Tryz.prog 180 := holds_of_vc tab_ok mixed (fn := Tryz.f180) (by kernel_rfl) rfl C180 (fun x y hF => C180_vc x.1 x.2 y hF)
theorem f180_in : ∃ fn, Tryz.prog.funcs[180]? = some fn ∧ fn.body.isSome = true ∧ (fn.name == "runtime.NumGoroutine") = false := ⟨Tryz.f180, by kernel_rfl, by kernel_rfl, by kernel_rfl⟩
end Go.Proofs
namespace Go.Proofs
open Go.AM
-- carousel/wide.Shift
def f203_j1 (n : Int) : Option (Sum Unit Unit) :=
  bif (decide (n < (1 : Int))) then
    some (Sum.inr ())
  else
    bif (decide (n > (126 : Int))) then
      some (Sum.inr ())
    else
      some (Sum.inl ())
def f203_j2 (q5_3 : Int × Int × Int × Int) : Option Bool :=
  bif (decide (q5_3.2.2.1 > (9223372036854775808 : Int))) then
    some true
  else
    bif (q5_3.2.2.1 == (9223372036854775808 : Int)) then
      bif (decide (q5_3.2.2.2 > (0 : Int))) then
        some true
      else
        some ((bitsOf IntKind.u64 (fun p q => p &&& q) q5_3.2.1 (1 : Int)) == (1 : Int))
    else
      some false
def f203 (a : Int × Int) (n : Int) : Option (Int × Int) :=
  bindF (f203_j1 n) fun z1 =>
  sumF z1 (fun z1a =>
    bindF (f224 (a.1, a.2) n) fun q5_3 =>
    bindF (f203_j2 q5_3) fun z2 =>
    bif z2 then
      bindF (f181 (1 : Int)) fun q5_1 =>
      bindF (f180 (q5_3.1, q5_3.2.1) (q5_1.1, q5_1.2)) fun q5_2 =>
      some (q5_2.1, q5_2.2)
    else
      some (q5_3.1, q5_3.2.1)) (fun z1b =>
    some (a.1, a.2))
def C203 : Con where
  X := (Int × Int) × Int
  Y := Int × Int
  e := 0
  args x := [.dat (.p (.int .i64) (.int .u64)) x.1, .dat (.int .i64) x.2]
  hin x := []
  F x := f203 x.1 x.2
  ret y := [.raw true [(.d (.int .i64) y.1), (.d (.int .u64) y.2)]]
  hout y := []
  nout := 0
theorem C203_vc (a : Int × Int) (n : Int) (y : Int × Int) (hF : f203 a n = some y) : vc Tryz.prog tab Tryz.f203.ntmps 0 (match Tryz.f203.body with | some c => c | none => .skip) (retK tab C203 Tryz.f203.results.toList y) (C203.shIn (a, n)).st := by
  unfold f203 at hF
  refine Or.inl ?_
  obtain ⟨z1, hz1, hF⟩ := bindE hF
  refine Or.inr ⟨Sum.elim (fun z1a => [(0, ⟨[(1, .dat (.int .i64) n), (2, .raw false [(.ptr 0 0)]), (4, .raw false [(.ptr 1 0)])], [(0, .cells [(.d (.int .i64) a.1), (.d (.int .u64) a.2)]), (1, .cells [(.d (.int .i64) (0 : Int)), (.d (.int .u64) (0 : Int))])], 2⟩)]) (fun z1b => [(1, ⟨[(4, .raw false [(.ptr 0 0)])], [(0, .cells [(.d (.int .i64) a.1), (.d (.int .u64) a.2)])], 1⟩)]) z1, ?_, ?_⟩
  · have hF := hz1
    clear hz1
    unfold f203_j1 at hF
    refine Or.inl ?_
    refine condN hF (fun hF => ?_) (fun hF => ?_)
    · refine gdYF ?_
      refine condF ?_
      refine condI hF (fun hF => ?_) (fun hF => ?_)
      · refine Or.inl ?_
        refine Or.inl ?_
        have hz := someE hF
        subst hz
        refine Exists.intro [] (Exists.intro [] (Exists.intro [] (Exists.intro [] (Exists.intro [(0, some 1)] (And.intro rfl (And.intro (And.intro rfl trivial) (And.intro rfl trivial)))))))
      · have hz := someE hF
        subst hz
        refine Exists.intro [] (Exists.intro [] (Exists.intro [] (Exists.intro [] (Exists.intro [(0, some 0), (1, some 1)] (And.intro rfl (And.intro rfl (And.intro (And.intro rfl (And.intro rfl trivial)) (And.intro rfl (And.intro rfl trivial)))))))))
    · refine gdNF ?_
      refine condT ?_
      refine condT ?_
      refine Or.inl ?_
      refine Or.inl ?_
      have hz := someE hF
      subst hz
      refine Exists.intro [] (Exists.intro [] (Exists.intro [] (Exists.intro [] (Exists.intro [(0, some 1)] (And.intro rfl (And.intro (And.intro rfl trivial) (And.intro rfl trivial)))))))
  · rcases z1 with z1a | z1b
    · dsimp only [sumF] at hF
      refine And.intro ?_ trivial
      refine Or.inl ?_
      obtain ⟨q5_3, hq5_3, hF⟩ := bindE hF
      refine Or.inl (And.intro f224_in (callV0 (callI C224 ((a.1, a.2), n) q5_3 [] false C224_holds hq5_3 rfl rfl ?_)))
      refine (And.intro rfl (And.intro rfl (And.intro rfl (And.intro (fun h => nomatch h) (And.intro rfl (And.intro rfl (And.intro trivial (And.intro trivial ?_))))))))
      refine Or.inl ?_
      refine Or.inl ?_
      obtain ⟨z2, hz2, hF⟩ := bindE hF
      refine Or.inr ⟨[(0, ⟨[(4, .raw false [(.ptr 0 0)]), (5, .raw false [(.ptr 1 0)]), (37, .dat .bool z2)], [(0, .cells [(.d (.int .i64) (0 : Int)), (.d (.int .u64) (0 : Int))]), (1, .cells [(.d (.int .i64) q5_3.1), (.d (.int .u64) q5_3.2.1)])], 2⟩)], ?_, ?_⟩
      · have hF := hz2
        clear hz2
        unfold f203_j2 at hF
        refine condN hF (fun hF => ?_) (fun hF => ?_)
        · refine gdYF ?_
          refine gdYF ?_
          refine condI hF (fun hF => ?_) (fun hF => ?_)
          · refine gdYT ?_
            refine gdYT ?_
            refine condN hF (fun hF => ?_) (fun hF => ?_)
            · refine gdYF ?_
              refine gdYF ?_
              refine gdYF ?_
              refine gdYT ?_
              refine condF ?_
              refine gdYF ?_
              refine condT ?_
              refine condF ?_
              have hz := someE hF
              subst hz
              refine Exists.intro [] (Exists.intro [] (Exists.intro [] (Exists.intro [] (Exists.intro [(0, some 1), (1, some 2)] (And.intro rfl (And.intro rfl (And.intro (And.intro rfl (And.intro rfl trivial)) (And.intro rfl (And.intro rfl trivial)))))))))
            · refine gdNF ?_
              refine gdNF ?_
              refine gdNF ?_
              refine gdYT ?_
              refine condT ?_
              refine gdYF ?_
              refine condT ?_
              refine condF ?_
              have hz := someE hF
              subst hz
              refine Exists.intro [] (Exists.intro [] (Exists.intro [] (Exists.intro [] (Exists.intro [(0, some 1), (1, some 2)] (And.intro rfl (And.intro rfl (And.intro (And.intro rfl (And.intro rfl trivial)) (And.intro rfl (And.intro rfl trivial)))))))))
          · refine gdNT ?_
            refine gdNT ?_
            refine gdNT ?_
            refine gdYF ?_
            refine condF ?_
            refine condF ?_
            have hz := someE hF
            subst hz
            refine Exists.intro [] (Exists.intro [] (Exists.intro [] (Exists.intro [] (Exists.intro [(0, some 1), (1, some 2)] (And.intro rfl (And.intro rfl (And.intro (And.intro rfl (And.intro rfl trivial)) (And.intro rfl (And.intro rfl trivial)))))))))
        · refine gdNF ?_
          refine gdNF ?_
          refine gdNF ?_
          refine condT ?_
          have hz := someE hF
          subst hz
          refine Exists.intro [] (Exists.intro [] (Exists.intro [] (Exists.intro [] (Exists.intro [(0, some 1), (1, some 2)] (And.intro rfl (And.intro rfl (And.intro (And.intro rfl (And.intro rfl trivial)) (And.intro rfl (And.intro rfl trivial)))))))))
      · refine And.intro ?_ trivial
        refine condI hF (fun hF => ?_) (fun hF => ?_)
        · refine Or.inl ?_
          refine Exists.intro (.take 0 (.alt 1 (.alt 2 (.alt 3 .done .done) .done) .done)) (Exists.intro [] (Exists.intro [] (And.intro rfl ?_)))
          refine And.intro trivial ?_
          obtain ⟨q5_1, hq5_1, hF⟩ := bindE hF
          refine Or.inl (And.intro f181_in (callV0 (callI C181 (1 : Int) q5_1 [] false C181_holds hq5_1 rfl rfl ?_)))
          refine (And.intro rfl (And.intro (fun h => nomatch h) (And.intro rfl (And.intro rfl (And.intro trivial (And.intro trivial ?_))))))
          refine And.intro trivial ?_
          obtain ⟨q5_2, hq5_2, hF⟩ := bindE hF
          refine Or.inl (And.intro f180_in (callV0 (callI C180 ((q5_3.1, q5_3.2.1), (q5_1.1, q5_1.2)) q5_2 [] false C180_holds hq5_2 rfl rfl ?_)))
          refine (And.intro rfl (And.intro rfl (And.intro rfl (And.intro rfl (And.intro (fun h => nomatch h) (And.intro rfl (And.intro rfl (And.intro trivial (And.intro trivial ?_)))))))))
          refine And.intro trivial ?_
          refine Or.inl ?_
          have hy := someE hF
          subst hy
          refine And.intro rfl (Exists.intro [] (Exists.intro [] (Exists.intro [] (Exists.intro [] (Exists.intro [] (And.intro rfl (And.intro (And.intro rfl trivial) trivial)))))))
        · refine Or.inl ?_
          refine Or.inl ?_
          have hy := someE hF
          subst hy
          refine And.intro rfl (Exists.intro [] (Exists.intro [] (Exists.intro [] (Exists.intro [] (Exists.intro [] (And.intro rfl (And.intro (And.intro rfl trivial) trivial)))))))
    · dsimp only [sumF] at hF
      refine And.intro ?_ trivial
      have hy := someE hF
      subst hy
      refine And.intro rfl (Exists.intro [] (Exists.intro [] (Exists.intro [] (Exists.intro [] (Exists.intro [] (And.intro rfl (And.intro (And.intro rfl trivial) trivial)))))))
theorem C203_holds : C203.Holds Tryz.prog 203 := holds_of_vc tab_ok mixed (fn := Tryz.f203) (by kernel_rfl) rfl C203 (fun x y hF => C203_vc x.1 x.2 y hF)
theorem f203_in : ∃ fn, Tryz.prog.funcs[203]? = some fn ∧ fn.body.isSome = true ∧ (fn.name == "runtime.NumGoroutine") = false := ⟨Tryz.f203, by kernel_rfl, by kernel_rfl, by kernel_rfl⟩
end Go.Proofs
namespace Go.Proofs
open Go.AM
-- carousel/wide.Fix
def f182_j3 (a : Int × Int) : Option Bool :=
  bif (decide (a.1 > (0 : Int))) then
    some true
  else
    bif (a.1 == (0 : Int)) then
      some (decide (a.2 ≥ (9223372036854775808 : Int)))
    else
      some false
def f182_j2 (a : Int × Int) : Option (Sum Unit Int) :=
  bindF (f182_j3 a) fun z3 =>
  bif z3 then
    some (Sum.inr (9223372036854775807 : Int))
  else
    bif (decide (a.1 < (-1 : Int))) then
      some (Sum.inr (-9223372036854775808 : Int))
    else
      bif (a.1 == (-1 : Int)) then
        bif (decide (a.2 < (9223372036854775808 : Int))) then
          some (Sum.inr (-9223372036854775808 : Int))
        else
          some (Sum.inl ())
      else
        some (Sum.inl ())
def f182 (a : Int × Int) : Option Int :=
  bindF (f182_j2 a) fun z2 =>
  sumF z2 (fun z2a =>
    some (IntKind.i64.wrap a.2)) (fun z2b =>
    some z2b)
def C182 : Con where
  X := Int × Int
  Y := Int
  e := 0
  args x := [.dat (.p (.int .i64) (.int .u64)) x]
  hin x := []
  F x := f182 x
  ret y := [.dat (.int .i64) y]
  hout y := []
  nout := 0
theorem C182_vc (a : Int × Int) (y : Int) (hF : f182 a = some y) : vc Tryz.prog tab Tryz.f182.ntmps 0 (match Tryz.f182.body with | some c => c | none => .skip) (retK tab C182 Tryz.f182.results.toList y) (C182.shIn a).st := by
  unfold f182 at hF
  refine Or.inl ?_
  obtain ⟨z2, hz2, hF⟩ := bindE hF
  refine Or.inr ⟨Sum.elim (fun z2a => [(0, ⟨[(1, .raw false [(.ptr 0 0)])], [(0, .cells [(.d (.int .i64) a.1), (.d (.int .u64) a.2)])], 1⟩)]) (fun z2b => [(1, ⟨[(2, .dat (.int .i64) z2b)], [], 0⟩)]) z2, ?_, ?_⟩
  · have hF := hz2
    clear hz2
    unfold f182_j2 at hF
    obtain ⟨z3, hz3, hF⟩ := bindE hF
    refine Or.inr ⟨[(0, ⟨[(1, .raw false [(.ptr 0 0)]), (3, .dat .bool z3)], [(0, .cells [(.d (.int .i64) a.1), (.d (.int .u64) a.2)])], 1⟩)], ?_, ?_⟩
    · have hF := hz3
      clear hz3
      unfold f182_j3 at hF
      refine condN hF (fun hF => ?_) (fun hF => ?_)
      · refine gdYF ?_
        refine gdYF ?_
        refine gdYF ?_
        refine condI hF (fun hF => ?_) (fun hF => ?_)
        · refine gdYT ?_
          refine gdYT ?_
          refine gdYF ?_
          refine condT ?_
          refine condF ?_
          have hz := someE hF
          subst hz
          refine Exists.intro [] (Exists.intro [] (Exists.intro [] (Exists.intro [] (Exists.intro [(0, some 0)] (And.intro rfl (And.intro rfl (And.intro (And.intro rfl trivial) (And.intro rfl trivial))))))))
        · refine gdNT ?_
          refine gdNT ?_
          refine gdYF ?_
          refine condF ?_
          refine condF ?_
          have hz := someE hF
          subst hz
          refine Exists.intro [] (Exists.intro [] (Exists.intro [] (Exists.intro [] (Exists.intro [(0, some 0)] (And.intro rfl (And.intro rfl (And.intro (And.intro rfl trivial) (And.intro rfl trivial))))))))
      · refine gdNF ?_
        refine gdNF ?_
        refine gdNF ?_
        refine gdNF ?_
        refine condT ?_
        have hz := someE hF
        subst hz
        refine Exists.intro [] (Exists.intro [] (Exists.intro [] (Exists.intro [] (Exists.intro [(0, some 0)] (And.intro rfl (And.intro rfl (And.intro (And.intro rfl trivial) (And.intro rfl trivial))))))))
    · refine And.intro ?_ trivial
      refine condI hF (fun hF => ?_) (fun hF => ?_)
      · refine Or.inl ?_
        have hz := someE hF
        subst hz
        refine Exists.intro [] (Exists.intro [] (Exists.intro [] (Exists.intro [] (Exists.intro [] (And.intro rfl (And.intro rfl (And.intro trivial trivial)))))))
      · refine Or.inl ?_
        refine condN hF (fun hF => ?_) (fun hF => ?_)
        · refine gdYF ?_
          refine gdYF ?_
          refine gdYF ?_
          refine condI hF (fun hF => ?_) (fun hF => ?_)
          · refine gdYT ?_
            refine gdYT ?_
            refine gdYF ?_
            refine condT ?_
            refine condF ?_
            refine condI hF (fun hF => ?_) (fun hF => ?_)
            · refine Or.inl ?_
              have hz := someE hF
              subst hz
              refine Exists.intro [] (Exists.intro [] (Exists.intro [] (Exists.intro [] (Exists.intro [] (And.intro rfl (And.intro rfl (And.intro trivial trivial)))))))
            · have hz := someE hF
              subst hz
              refine Exists.intro [] (Exists.intro [] (Exists.intro [] (Exists.intro [] (Exists.intro [(0, some 0)] (And.intro rfl (And.intro (And.intro rfl trivial) (And.intro rfl trivial)))))))
          · refine gdNT ?_
            refine gdNT ?_
            refine gdYF ?_
            refine condF ?_
            refine condF ?_
            refine condF ?_
            have hz := someE hF
            subst hz
            refine Exists.intro [] (Exists.intro [] (Exists.intro [] (Exists.intro [] (Exists.intro [(0, some 0)] (And.intro rfl (And.intro (And.intro rfl trivial) (And.intro rfl trivial)))))))
        · refine gdNF ?_
          refine gdNF ?_
          refine gdNF ?_
          refine gdNF ?_
          refine condT ?_
          refine condT ?_
          refine Or.inl ?_
          have hz := someE hF
          subst hz
          refine Exists.intro [] (Exists.intro [] (Exists.intro [] (Exists.intro [] (Exists.intro [] (And.intro rfl (And.intro rfl (And.intro trivial trivial)))))))
  · rcases z2 with z2a | z2b
    · dsimp only [sumF] at hF
      refine And.intro ?_ trivial
      refine Or.inl ?_
      have hy := someE hF
      subst hy
      refine And.intro rfl (Exists.intro [] (Exists.intro [] (Exists.intro [] (Exists.intro [] (Exists.intro [] (And.intro rfl (And.intro rfl (And.intro trivial trivial))))))))
    · dsimp only [sumF] at hF
      refine And.intro ?_ trivial
      have hy := someE hF
      subst hy
      refine And.intro rfl (Exists.intro [] (Exists.intro [] (Exists.intro [] (Exists.intro [] (Exists.intro [] (And.intro rfl (And.intro rfl (And.intro trivial trivial))))))))
theorem C182_holds : C182.Holds Tryz.prog 182 := holds_of_vc tab_ok mixed (fn := Tryz.f182) (by kernel_rfl) rfl C182 (fun x y hF => C182_vc x y hF)
theorem f182_in : ∃ fn, Tryz.prog.funcs[182]? = some fn ∧ fn.body.isSome = true ∧ (fn.name == "runtime.NumGoroutine") = false := ⟨Tryz.f182, by kernel_rfl, by kernel_rfl, by kernel_rfl⟩
end Go.Proofs
namespace Go.Proofs
open Go.AM
-- (*carousel/wide.Acc).Fix
def f177 (s_top : Int) (s_low_Hi : Int) (s_low_Lo : Int) (n : Int) : Option (Int × Int × Int × Int) :=
  bif (s_top == (Int.fdiv s_low_Hi (2 ^ min (Int.toNat (63 : Int)) (IntKind.bits IntKind.i64)))) then
    bindF (f203 (s_low_Hi, s_low_Lo) n) fun q1_11 =>
    bindF (f182 (q1_11.1, q1_11.2)) fun r1 =>
    some (r1, s_top, s_low_Hi, s_low_Lo)
  else
    bif (decide (s_top < (0 : Int))) then
      some ((-9223372036854775808 : Int), s_top, s_low_Hi, s_low_Lo)
    else
      some ((9223372036854775807 : Int), s_top, s_low_Hi, s_low_Lo)
def C177 : Con where
  X := Int × Int × Int × Int
  Y := Int × Int × Int × Int
  e := 1
  args x := [.raw false [(.ptr 0 0)], .dat (.int .i64) x.2.2.2]
  hin x := [(0, .cells [(.d (.int .i64) x.1), (.d (.int .i64) x.2.1), (.d (.int .u64) x.2.2.1)])]
  F x := f177 x.1 x.2.1 x.2.2.1 x.2.2.2
  ret y := [.dat (.int .i64) y.1]
  hout y := [(0, .cells [(.d (.int .i64) y.2.1), (.d (.int .i64) y.2.2.1), (.d (.int .u64) y.2.2.2)])]
  nout := 1
theorem C177_vc (s_top : Int) (s_low_Hi : Int) (s_low_Lo : Int) (n : Int) (y : Int × Int × Int × Int) (hF : f177 s_top s_low_Hi s_low_Lo n = some y) : vc Tryz.prog tab Tryz.f177.ntmps 1 (match Tryz.f177.body with | some c => c | none => .skip) (retK tab C177 Tryz.f177.results.toList y) (C177.shIn (s_top, s_low_Hi, s_low_Lo, n)).st := by
  unfold f177 at hF
  refine Or.inl ?_
  refine Or.inl ?_
  refine Or.inl ?_
  refine Exists.intro (.take 0 (.take 1 (.take 2 (.take 3 (.take 4 (.take 5 (.take 6 (.take 7 (.take 8 (.take 9 (.take 10 (.take 11 .done)))))))))))) (Exists.intro [] (Exists.intro [] (And.intro rfl ?_)))
  refine And.intro (by decide) ?_
  refine condI hF (fun hF => ?_) (fun hF => ?_)
  · refine Or.inl ?_
    obtain ⟨q1_11, hq1_11, hF⟩ := bindE hF
    refine Or.inl (And.intro f203_in (callV0 (callI C203 ((s_low_Hi, s_low_Lo), n) q1_11 [] false C203_holds hq1_11 rfl rfl ?_)))
    refine (And.intro rfl (And.intro rfl (And.intro rfl (And.intro (fun h => nomatch h) (And.intro rfl (And.intro rfl (And.intro trivial (And.intro trivial ?_))))))))
    obtain ⟨r1, hr1, hF⟩ := bindE hF
    refine Or.inl (And.intro f182_in (callV0 (callI C182 (q1_11.1, q1_11.2) r1 [] false C182_holds hr1 rfl rfl ?_)))
    refine (And.intro rfl (And.intro rfl (And.intro (fun h => nomatch h) (And.intro rfl (And.intro rfl (And.intro trivial (And.intro trivial ?_)))))))
    have hy := someE hF
    subst hy
    refine And.intro rfl (Exists.intro [] (Exists.intro [] (Exists.intro [] (Exists.intro [] (Exists.intro [(0, some 0)] (And.intro rfl (And.intro rfl (And.intro trivial (And.intro rfl trivial)))))))))
  · refine Or.inl ?_
    refine condI hF (fun hF => ?_) (fun hF => ?_)
    · refine Or.inl ?_
      have hy := someE hF
      subst hy
      refine And.intro rfl (Exists.intro [] (Exists.intro [] (Exists.intro [] (Exists.intro [] (Exists.intro [(0, some 0)] (And.intro rfl (And.intro rfl (And.intro trivial (And.intro rfl trivial)))))))))
    · refine Or.inl ?_
      have hy := someE hF
      subst hy
      refine And.intro rfl (Exists.intro [] (Exists.intro [] (Exists.intro [] (Exists.intro [] (Exists.intro [(0, some 0)] (And.intro rfl (And.intro rfl (And.intro trivial (And.intro rfl trivial)))))))))
theorem C177_holds : C177.Holds Tryz.prog 177 := holds_of_vc tab_ok mixed (fn := Tryz.f177) (by kernel_rfl) rfl C177 (fun x y hF => C177_vc x.1 x.2.1 x.2.2.1 x.2.2.2 y hF)
theorem f177_in : ∃ fn, Tryz.prog.funcs[177]? = some fn ∧ fn.body.isSome = true ∧ (fn.name == "runtime.NumGoroutine") = false := ⟨Tryz.f177, by kernel_rfl, by kernel_rfl, by kernel_rfl⟩
end Go.Proofs
namespace Go.Proofs
open Go.AM
-- carousel/matm.Dot
def f172_l1 (a : List Int) (b : List Int) (go : (Int × Int × Int × Int) → Option (Int × Int × Int)) (v12 : Int) (c0_0 : Int) (c0_1 : Int) (c0_2 : Int) : Option (Int × Int × Int) :=
  bif (decide (v12 < (if (List.length b : Int) < (List.length a : Int) then (List.length b : Int) else (List.length a : Int)))) then
    guardF (0 ≤ v12 ∧ v12 < (List.length a : Int)) <|
    guardF (0 ≤ v12 ∧ v12 < (List.length b : Int)) <|
    bindF (f176 c0_0 c0_1 c0_2 (rd (0 : Int) a v12) (rd (0 : Int) b v12)) fun q5_8 =>
    go ((IntKind.i64.wrap (v12 + (1 : Int))), q5_8.1, q5_8.2.1, q5_8.2.2)
  else
    some (c0_0, c0_1, c0_2)
def f172 (a : List Int) (b : List Int) : Option Int :=
  bindF (loopF (fun go x => f172_l1 a b go x.1 x.2.1 x.2.2.1 x.2.2.2) fuelN ((0 : Int), (0 : Int), (0 : Int), (0 : Int))) fun z1 =>
  bindF (f177 z1.1 z1.2.1 z1.2.2 (32 : Int)) fun r2 =>
  some r2.1
def C172 : Con where
  X := (List Int) × (List Int)
  Y := Int
  e := 0
  args x := [.dat (.sl (.int .i64)) x.1, .dat (.sl (.int .i64)) x.2]
  hin x := []
  F x := f172 x.1 x.2
  ret y := [.dat (.int .i64) y]
  hout y := []
  nout := 0
theorem C172_vc (a : List Int) (b : List Int) (y : Int) (hF : f172 a b = some y) : vc Tryz.prog tab Tryz.f172.ntmps 0 (match Tryz.f172.body with | some c => c | none => .skip) (retK tab C172 Tryz.f172.results.toList y) (C172.shIn (a, b)).st := by
  unfold f172 at hF
  refine Or.inl ?_
  refine Or.inl ?_
  refine Or.inl ?_
  refine Or.inl ?_
  obtain ⟨z1, hz1, hF⟩ := bindE hF
  refine loopI (Int × Int × Int × Int) (Int × Int × Int) (fun x => ⟨[(0, .dat (.sl (.int .i64)) a), (1, .dat (.sl (.int .i64)) b), (5, .raw false [(.ptr 0 0)]), (11, .dat (.int .i64) (if (List.length b : Int) < (List.length a : Int) then (List.length b : Int) else (List.length a : Int))), (12, .dat (.int .i64) x.1)], [(0, .cells [(.d (.int .i64) x.2.1), (.d (.int .i64) x.2.2.1), (.d (.int .u64) x.2.2.2)])], 1⟩) (fun z => [(2, ⟨[(5, .raw false [(.ptr 0 0)])], [(0, .cells [(.d (.int .i64) z.1), (.d (.int .i64) z.2.1), (.d (.int .u64) z.2.2)])], 1⟩)]) (loopF (fun go x => f172_l1 a b go x.1 x.2.1 x.2.2.1 x.2.2.2)) fuelN ((0 : Int), (0 : Int), (0 : Int), (0 : Int)) z1 (And.intro hz1 (And.intro (Exists.intro [] (Exists.intro [] (Exists.intro [] (Exists.intro [] (Exists.intro [(0, some 0)] (And.intro rfl (And.intro rfl (And.intro rfl (And.intro rfl (And.intro rfl (And.intro (And.intro rfl trivial) (And.intro rfl trivial)))))))))))) (And.intro (fun _ _ h => loopZ h) (And.intro (fun m => curI (fun v12 => curI (fun c0_0 => curI (fun c0_1 => fun c0_2 z hF => ?_)))) ?_))))
  · have hF : f172_l1 a b (loopF (fun go x => f172_l1 a b go x.1 x.2.1 x.2.2.1 x.2.2.2) m) v12 c0_0 c0_1 c0_2 = some z := hF
    unfold f172_l1 at hF
    refine Or.inl ?_
    refine Or.inl ?_
    refine condI hF (fun hF => ?_) (fun hF => ?_)
    · refine Or.inl ?_
      refine Or.inl ?_
      refine Exists.intro (.take 0 (.take 1 (.take 2 (.take 3 (.take 4 (.take 5 (.take 6 (.take 7 (.alt 8 .done .done))))))))) (Exists.intro [] (Exists.intro [] (And.intro rfl ?_)))
      refine guardI hF (fun hF => ?_)
      refine guardI hF (fun hF => ?_)
      refine And.intro trivial ?_
      obtain ⟨q5_8, hq5_8, hF⟩ := bindE hF
      refine Or.inl (And.intro f176_in (callV0 (callI C176 (c0_0, c0_1, c0_2, (rd (0 : Int) a v12), (rd (0 : Int) b v12)) q5_8 [(0, some 0)] false C176_holds hq5_8 rfl rfl ?_)))
      refine (And.intro rfl (And.intro rfl (And.intro (fun h => nomatch h) (And.intro rfl (And.intro rfl (And.intro (And.intro rfl trivial) (And.intro (And.intro rfl trivial) ?_)))))))
      refine Exists.intro ((IntKind.i64.wrap (v12 + (1 : Int))), q5_8.1, q5_8.2.1, q5_8.2.2) (And.intro hF (Exists.intro [] (Exists.intro [] (Exists.intro [] (Exists.intro [] (Exists.intro [(0, some 0)] (And.intro rfl (And.intro rfl (And.intro rfl (And.intro rfl (And.intro rfl (And.intro (And.intro rfl trivial) (And.intro rfl trivial)))))))))))))
    · have hz := someE hF
      subst hz
      refine Exists.intro [] (Exists.intro [] (Exists.intro [] (Exists.intro [] (Exists.intro [(0, some 0)] (And.intro rfl (And.intro (And.intro rfl trivial) (And.intro rfl trivial)))))))
  · refine And.intro ?_ trivial
    refine Or.inl ?_
    obtain ⟨r2, hr2, hF⟩ := bindE hF
    refine Or.inl (And.intro f177_in (callV0 (callI C177 (z1.1, z1.2.1, z1.2.2, (32 : Int)) r2 [(0, some 0)] false C177_holds hr2 rfl rfl ?_)))
    refine (And.intro rfl (And.intro (fun h => nomatch h) (And.intro rfl (And.intro rfl (And.intro (And.intro rfl trivial) (And.intro (And.intro rfl trivial) ?_))))))
    have hy := someE hF
    subst hy
    refine And.intro rfl (Exists.intro [] (Exists.intro [] (Exists.intro [] (Exists.intro [] (Exists.intro [] (And.intro rfl (And.intro rfl (And.intro trivial trivial))))))))
theorem C172_holds : C172.Holds Tryz.prog 172 := holds_of_vc tab_ok mixed (fn := Tryz.f172) (by kernel_rfl) rfl C172 (fun x y hF => C172_vc x.1 x.2 y hF)
theorem f172_in : ∃ fn, Tryz.prog.funcs[172]? = some fn ∧ fn.body.isSome = true ∧ (fn.name == "runtime.NumGoroutine") = false := ⟨Tryz.f172, by kernel_rfl, by kernel_rfl, by kernel_rfl⟩
end Go.Proofs
namespace Go.Proofs
open Go.AM
-- carousel/matm.Mul
def f141_j4 (a : (List Int) × (List Int)) (b : (List Int) × (List Int)) : Option Bool :=
  bindF (f91 (a.1, a.2)) fun r9 =>
  bif (!r9) then
    some true
  else
    bindF (f91 (b.1, b.2)) fun r10 =>
    some (!r10)
def f141_j5 (a : (List Int) × (List Int)) (b : (List Int) × (List Int)) : Option Bool :=
  bindF (f170 (a.1, a.2)) fun q3_1 =>
  bif (!q3_1) then
    some true
  else
    bindF (f170 (b.1, b.2)) fun q3_5 =>
    bif (!q3_5) then
      some true
    else
      guardF (0 ≤ (1 : Int) ∧ (1 : Int) < (List.length a.1 : Int)) <|
      guardF (0 ≤ (0 : Int) ∧ (0 : Int) < (List.length b.1 : Int)) <|
      some ((rd (0 : Int) a.1 (1 : Int)) != (rd (0 : Int) b.1 (0 : Int)))
def f141_j3 (a : (List Int) × (List Int)) (b : (List Int) × (List Int)) : Option (Sum Unit Int) :=
  bindF (f141_j4 a b) fun z8 =>
  bif z8 then
    some (Sum.inr (1 : Int))
  else
    bindF (f141_j5 a b) fun z11 =>
    bif z11 then
      some (Sum.inr (4 : Int))
    else
      some (Sum.inl ())
def f141_l9 (a : (List Int) × (List Int)) (b : (List Int) × (List Int)) (r12 : Int × (List Int) × (List Int)) (v74 : Int) (go : (Int × (List Int)) → Option (List Int)) (v78 : Int) (l5_2 : List Int) : Option (List Int) :=
  bif (decide (v78 < (rd (0 : Int) b.1 (1 : Int)))) then
    guardF (0 ≤ (IntKind.i64.wrap (v74 * (rd (0 : Int) a.1 (1 : Int)))) ∧ (IntKind.i64.wrap (v74 * (rd (0 : Int) a.1 (1 : Int)))) ≤ (IntKind.i64.wrap ((IntKind.i64.wrap (v74 + (1 : Int))) * (rd (0 : Int) a.1 (1 : Int)))) ∧ (IntKind.i64.wrap ((IntKind.i64.wrap (v74 + (1 : Int))) * (rd (0 : Int) a.1 (1 : Int)))) ≤ (List.length a.2 : Int)) <|
    guardF (0 ≤ (IntKind.i64.wrap (v78 * (rd (0 : Int) a.1 (1 : Int)))) ∧ (IntKind.i64.wrap (v78 * (rd (0 : Int) a.1 (1 : Int)))) ≤ (IntKind.i64.wrap ((IntKind.i64.wrap (v78 + (1 : Int))) * (rd (0 : Int) a.1 (1 : Int)))) ∧ (IntKind.i64.wrap ((IntKind.i64.wrap (v78 + (1 : Int))) * (rd (0 : Int) a.1 (1 : Int)))) ≤ (List.length r12.2.2 : Int)) <|
    bindF (f172 (List.drop (Int.toNat (IntKind.i64.wrap (v74 * (rd (0 : Int) a.1 (1 : Int))))) (List.take (Int.toNat (IntKind.i64.wrap ((IntKind.i64.wrap (v74 + (1 : Int))) * (rd (0 : Int) a.1 (1 : Int))))) a.2)) (List.drop (Int.toNat (IntKind.i64.wrap (v78 * (rd (0 : Int) a.1 (1 : Int))))) (List.take (Int.toNat (IntKind.i64.wrap ((IntKind.i64.wrap (v78 + (1 : Int))) * (rd (0 : Int) a.1 (1 : Int))))) r12.2.2))) fun q16_27 =>
    guardF (0 ≤ (IntKind.i64.wrap ((IntKind.i64.wrap (v74 * (rd (0 : Int) b.1 (1 : Int)))) + v78)) ∧ (IntKind.i64.wrap ((IntKind.i64.wrap (v74 * (rd (0 : Int) b.1 (1 : Int)))) + v78)) < (List.length l5_2 : Int)) <|
    go ((IntKind.i64.wrap (v78 + (1 : Int))), (List.set l5_2 (Int.toNat (IntKind.i64.wrap ((IntKind.i64.wrap (v74 * (rd (0 : Int) b.1 (1 : Int)))) + v78))) q16_27))
  else
    some l5_2
def f141_l8 (a : (List Int) × (List Int)) (b : (List Int) × (List Int)) (r12 : Int × (List Int) × (List Int)) (go : (Int × (List Int)) → Option (List Int)) (v74 : Int) (l5 : List Int) : Option (List Int) :=
  bif (decide (v74 < (rd (0 : Int) a.1 (0 : Int)))) then
    bindF (loopF (fun go x => f141_l9 a b r12 v74 go x.1 x.2) fuelN ((0 : Int), l5)) fun z16 =>
    go ((IntKind.i64.wrap (v74 + (1 : Int))), z16)
  else
    some l5
def f141 (a : (List Int) × (List Int)) (b : (List Int) × (List Int)) : Option (Int × (List Int) × (List Int)) :=
  bindF (f141_j3 a b) fun z6 =>
  sumF z6 (fun z6a =>
    guardF (0 ≤ (0 : Int) ∧ (0 : Int) < (List.length a.1 : Int)) <|
    guardF (0 ≤ (1 : Int) ∧ (1 : Int) < (List.length a.1 : Int)) <|
    guardF (0 ≤ (1 : Int) ∧ (1 : Int) < (List.length b.1 : Int)) <|
    bindF (f171 ([(rd (0 : Int) a.1 (0 : Int)), (rd (0 : Int) b.1 (1 : Int))]) (0 : Int)) fun q5_14 =>
    bif (q5_14.1 != (0 : Int)) then
      some ((2 : Int), [], [])
    else
      bindF (f144 (b.1, b.2)) fun r12 =>
      bindF (loopF (fun go x => f141_l8 a b r12 go x.1 x.2) fuelN ((0 : Int), q5_14.2.2)) fun z15 =>
      some ((0 : Int), q5_14.2.1, z15)) (fun z6b =>
    some (z6b, [], []))
def C141 : Con where
  X := ((List Int) × (List Int)) × ((List Int) × (List Int))
  Y := Int × (List Int) × (List Int)
  e := 0
  args x := [.dat (.p (.sl (.int .i64)) (.sl (.int .i64))) x.1, .dat (.p (.sl (.int .i64)) (.sl (.int .i64))) x.2]
  hin x := []
  F x := f141 x.1 x.2
  ret y := [.raw true [(.osl 0), (.osl 1)], .dat (.int .i64) y.1]
  hout y := [(0, .arr 3 (.int .i64) y.2.1), (1, .arr 57 (.int .i64) y.2.2)]
  nout := 2
theorem C141_vc (a : (List Int) × (List Int)) (b : (List Int) × (List Int)) (y : Int × (List Int) × (List Int)) (hF : f141 a b = some y) : vc Tryz.prog tab Tryz.f141.ntmps 0 (match Tryz.f141.body with | some c => c | none => .skip) (retK tab C141 Tryz.f141.results.toList y) (C141.shIn (a, b)).st := by
  unfold f141 at hF
  refine Or.inl ?_
  obtain ⟨z6, hz6, hF⟩ := bindE hF
  refine Or.inr ⟨Sum.elim (fun z6a => [(0, ⟨[(2, .raw false [(.ptr 0 0)]), (3, .raw false [(.ptr 1 0)]), (4, .raw false [(.ptr 2 0)])], [(0, .cells [(.d (.sl (.int .i64)) a.1), (.d (.sl (.int .i64)) a.2)]), (1, .cells [(.d (.sl (.int .i64)) b.1), (.d (.sl (.int .i64)) b.2)]), (2, .cells [(.c (.slice none 0 0)), (.c (.slice none 0 0))])], 3⟩)]) (fun z6b => [(1, ⟨[(4, .raw false [(.ptr 0 0)]), (5, .dat (.int .i64) z6b)], [(0, .cells [(.c (.slice none 0 0)), (.c (.slice none 0 0))])], 1⟩)]) z6, ?_, ?_⟩
  · have hF := hz6
    clear hz6
    unfold f141_j3 at hF
    obtain ⟨z8, hz8, hF⟩ := bindE hF
    refine Or.inr ⟨[(0, ⟨[(2, .raw false [(.ptr 0 0)]), (3, .raw false [(.ptr 1 0)]), (4, .raw false [(.ptr 2 0)]), (15, .dat .bool z8)], [(0, .cells [(.d (.sl (.int .i64)) a.1), (.d (.sl (.int .i64)) a.2)]), (1, .cells [(.d (.sl (.int .i64)) b.1), (.d (.sl (.int .i64)) b.2)]), (2, .cells [(.c (.slice none 0 0)), (.c (.slice none 0 0))])], 3⟩)], ?_, ?_⟩
    · have hF := hz8
      clear hz8
      unfold f141_j4 at hF
      obtain ⟨r9, hr9, hF⟩ := bindE hF
      refine Or.inl (And.intro f91_in (callV0 (callI C91 (a.1, a.2) r9 [] false C91_holds hr9 rfl rfl ?_)))
      refine (And.intro rfl (And.intro rfl (And.intro (fun h => nomatch h) (And.intro rfl (And.intro rfl (And.intro trivial (And.intro trivial ?_)))))))
      refine condN hF (fun hF => ?_) (fun hF => ?_)
      · refine gdYF ?_
        obtain ⟨r10, hr10, hF⟩ := bindE hF
        refine Or.inl (And.intro f91_in (callV0 (callI C91 (b.1, b.2) r10 [] false C91_holds hr10 rfl rfl ?_)))
        refine (And.intro rfl (And.intro rfl (And.intro (fun h => nomatch h) (And.intro rfl (And.intro rfl (And.intro trivial (And.intro trivial ?_)))))))
        refine gdYF ?_
        refine condF ?_
        have hz := someE hF
        subst hz
        refine Exists.intro [] (Exists.intro [] (Exists.intro [] (Exists.intro [] (Exists.intro [(0, some 0), (1, some 1), (2, some 2)] (And.intro rfl (And.intro rfl (And.intro (And.intro rfl (And.intro rfl (And.intro rfl trivial))) (And.intro rfl (And.intro rfl (And.intro rfl trivial))))))))))
      · refine gdNF ?_
        refine gdNF ?_
        refine condT ?_
        have hz := someE hF
        subst hz
        refine Exists.intro [] (Exists.intro [] (Exists.intro [] (Exists.intro [] (Exists.intro [(0, some 0), (1, some 1), (2, some 2)] (And.intro rfl (And.intro rfl (And.intro (And.intro rfl (And.intro rfl (And.intro rfl trivial))) (And.intro rfl (And.intro rfl (And.intro rfl trivial))))))))))
    · refine And.intro ?_ trivial
      refine condI hF (fun hF => ?_) (fun hF => ?_)
      · refine Or.inl ?_
        refine Or.inl ?_
        have hz := someE hF
        subst hz
        refine Exists.intro [] (Exists.intro [] (Exists.intro [] (Exists.intro [] (Exists.intro [(0, some 2)] (And.intro rfl (And.intro rfl (And.intro (And.intro rfl trivial) (And.intro rfl trivial))))))))
      · obtain ⟨z11, hz11, hF⟩ := bindE hF
        refine Or.inr ⟨[(0, ⟨[(2, .raw false [(.ptr 0 0)]), (3, .raw false [(.ptr 1 0)]), (4, .raw false [(.ptr 2 0)]), (25, .dat .bool z11)], [(0, .cells [(.d (.sl (.int .i64)) a.1), (.d (.sl (.int .i64)) a.2)]), (1, .cells [(.d (.sl (.int .i64)) b.1), (.d (.sl (.int .i64)) b.2)]), (2, .cells [(.c (.slice none 0 0)), (.c (.slice none 0 0))])], 3⟩)], ?_, ?_⟩
        · have hF := hz11
          clear hz11
          unfold f141_j5 at hF
          refine Exists.intro (.take 0 (.alt 1 (.take 2 (.take 3 (.take 4 (.alt 5 (.take 6 (.take 7 (.take 8 (.take 9 (.take 10 (.take 11 (.take 12 (.take 13 (.take 14 (.take 15 (.take 16 (.take 17 (.take 18 (.take 19 .done)))))))))))))) .done)))) .done)) (Exists.intro [] (Exists.intro [] (And.intro rfl ?_)))
          refine And.intro trivial ?_
          obtain ⟨q3_1, hq3_1, hF⟩ := bindE hF
          refine Or.inl (And.intro f170_in (callV0 (callI C170 (a.1, a.2) q3_1 [] false C170_holds hq3_1 rfl rfl ?_)))
          refine (And.intro rfl (And.intro rfl (And.intro (fun h => nomatch h) (And.intro rfl (And.intro rfl (And.intro trivial (And.intro trivial ?_)))))))
          refine condN hF (fun hF => ?_) (fun hF => ?_)
          · refine And.intro trivial ?_
            refine gdYF ?_
            obtain ⟨q3_5, hq3_5, hF⟩ := bindE hF
            refine Or.inl (And.intro f170_in (callV0 (callI C170 (b.1, b.2) q3_5 [] false C170_holds hq3_5 rfl rfl ?_)))
            refine (And.intro rfl (And.intro rfl (And.intro (fun h => nomatch h) (And.intro rfl (And.intro rfl (And.intro trivial (And.intro trivial ?_)))))))
            refine gdYF ?_
            refine condF ?_
            refine condN hF (fun hF => ?_) (fun hF => ?_)
            · refine gdYF ?_
              refine gdYF ?_
              refine guardI hF (fun hF => ?_)
              refine gdYF ?_
              refine gdYF ?_
              refine gdYF ?_
              refine gdYF ?_
              refine guardI hF (fun hF => ?_)
              refine gdYF ?_
              refine gdYF ?_
              refine condF ?_
              have hz := someE hF
              subst hz
              refine Exists.intro [] (Exists.intro [] (Exists.intro [] (Exists.intro [] (Exists.intro [(0, some 0), (1, some 1), (2, some 2)] (And.intro rfl (And.intro rfl (And.intro (And.intro rfl (And.intro rfl (And.intro rfl trivial))) (And.intro rfl (And.intro rfl (And.intro rfl trivial))))))))))
            · refine gdNF ?_
              refine gdNF ?_
              refine gdNF ?_
              refine gdNF ?_
              refine gdNF ?_
              refine gdNF ?_
              refine gdNF ?_
              refine gdNF ?_
              refine condT ?_
              have hz := someE hF
              subst hz
              refine Exists.intro [] (Exists.intro [] (Exists.intro [] (Exists.intro [] (Exists.intro [(0, some 0), (1, some 1), (2, some 2)] (And.intro rfl (And.intro rfl (And.intro (And.intro rfl (And.intro rfl (And.intro rfl trivial))) (And.intro rfl (And.intro rfl (And.intro rfl trivial))))))))))
          · refine And.intro trivial ?_
            refine gdNF ?_
            refine gdNF ?_
            refine condT ?_
            refine gdNF ?_
            refine gdNF ?_
            refine gdNF ?_
            refine gdNF ?_
            refine gdNF ?_
            refine gdNF ?_
            refine gdNF ?_
            refine gdNF ?_
            refine gdNF ?_
            refine condT ?_
            have hz := someE hF
            subst hz
            refine Exists.intro [] (Exists.intro [] (Exists.intro [] (Exists.intro [] (Exists.intro [(0, some 0), (1, some 1), (2, some 2)] (And.intro rfl (And.intro rfl (And.intro (And.intro rfl (And.intro rfl (And.intro rfl trivial))) (And.intro rfl (And.intro rfl (And.intro rfl trivial))))))))))
        · refine And.intro ?_ trivial
          refine condI hF (fun hF => ?_) (fun hF => ?_)
          · refine Or.inl ?_
            refine Or.inl ?_
            have hz := someE hF
            subst hz
            refine Exists.intro [] (Exists.intro [] (Exists.intro [] (Exists.intro [] (Exists.intro [(0, some 2)] (And.intro rfl (And.intro rfl (And.intro (And.intro rfl trivial) (And.intro rfl trivial))))))))
          · have hz := someE hF
            subst hz
            refine Exists.intro [] (Exists.intro [] (Exists.intro [] (Exists.intro [] (Exists.intro [(0, some 0), (1, some 1), (2, some 2)] (And.intro rfl (And.intro (And.intro rfl (And.intro rfl (And.intro rfl trivial))) (And.intro rfl (And.intro rfl (And.intro rfl trivial)))))))))
  · rcases z6 with z6a | z6b
    · dsimp only [sumF] at hF
      refine And.intro ?_ trivial
      refine Or.inl ?_
      refine Exists.intro (.take 0 (.take 1 (.take 2 (.take 3 (.take 4 (.take 5 (.take 6 (.take 7 (.take 8 (.take 9 (.take 10 (.take 11 (.take 12 (.take 13 (.take 14 .done))))))))))))))) (Exists.intro [] (Exists.intro [] (And.intro rfl ?_)))
      refine guardI hF (fun hF => ?_)
      refine guardI hF (fun hF => ?_)
      refine guardI hF (fun hF => ?_)
      refine Or.inl ?_
      refine Or.inl ?_
      obtain ⟨q5_14, hq5_14, hF⟩ := bindE hF
      refine Or.inl (And.intro f171_in (callV0 (callI C171 ([(rd (0 : Int) a.1 (0 : Int)), (rd (0 : Int) b.1 (1 : Int))], (0 : Int)) q5_14 [] true C171_holds hq5_14 rfl rfl ?_)))
      refine (And.intro rfl (And.intro rfl (And.intro (fun _ => rfl) (And.intro rfl (And.intro rfl (And.intro trivial (And.intro trivial ?_)))))))
      refine Or.inl ?_
      refine Or.inl ?_
      refine Or.inl ?_
      refine condI hF (fun hF => ?_) (fun hF => ?_)
      · refine Or.inl ?_
        refine Or.inl ?_
        have hy := someE hF
        subst hy
        refine And.intro rfl (Exists.intro [] (Exists.intro [] (Exists.intro [] (Exists.intro [] (Exists.intro [(0, none), (1, none)] (And.intro rfl (And.intro rfl (And.intro (And.intro rfl trivial) (And.intro rfl (And.intro rfl trivial))))))))))
      · refine Or.inl ?_
        obtain ⟨r12, hr12, hF⟩ := bindE hF
        refine Or.inl (And.intro f144_in (callV0 (callI C144 (b.1, b.2) r12 [] false C144_holds hr12 rfl rfl ?_)))
        refine (And.intro rfl (And.intro rfl (And.intro (fun h => nomatch h) (And.intro rfl (And.intro rfl (And.intro trivial (And.intro trivial ?_)))))))
        refine Or.inl ?_
        refine Or.inl ?_
        refine Or.inl ?_
        obtain ⟨z15, hz15, hF⟩ := bindE hF
        refine loopI (Int × (List Int)) (List Int) (fun x => ⟨[(2, .raw false [(.ptr 0 0)]), (4, .raw false [(.ptr 1 0)]), (7, .dat (.int .i64) (rd (0 : Int) a.1 (1 : Int))), (8, .dat (.int .i64) (rd (0 : Int) b.1 (1 : Int))), (9, .raw false [(.ptr 2 0)]), (11, .raw false [(.ptr 3 0)]), (73, .dat (.int .i64) (rd (0 : Int) a.1 (0 : Int))), (74, .dat (.int .i64) x.1)], [(0, .cells [(.d (.sl (.int .i64)) a.1), (.d (.sl (.int .i64)) a.2)]), (1, .cells [(.c (.slice none 0 0)), (.c (.slice none 0 0))]), (2, .cells [(.osl 4), (.osl 5)]), (3, .cells [(.osl 6), (.d (.sl (.int .i64)) r12.2.2)]), (4, .arr 3 (.int .i64) q5_14.2.1), (5, .arr 57 (.int .i64) x.2), (6, .arr 3 (.int .i64) r12.2.1)], 7⟩) (fun z => [(3, ⟨[(4, .raw false [(.ptr 0 0)]), (9, .raw false [(.ptr 1 0)])], [(0, .cells [(.c (.slice none 0 0)), (.c (.slice none 0 0))]), (1, .cells [(.osl 2), (.osl 3)]), (2, .arr 3 (.int .i64) q5_14.2.1), (3, .arr 57 (.int .i64) z)], 4⟩)]) (loopF (fun go x => f141_l8 a b r12 go x.1 x.2)) fuelN ((0 : Int), q5_14.2.2) z15 (And.intro hz15 (And.intro (Exists.intro [] (Exists.intro [] (Exists.intro [] (Exists.intro [8] (Exists.intro [(0, some 0), (1, some 2), (2, some 6), (3, some 9), (4, some 4), (5, some 5), (6, some 7)] (And.intro rfl (And.intro rfl (And.intro rfl (And.intro rfl (And.intro rfl (And.intro (And.intro rfl (And.intro rfl (And.intro rfl (And.intro rfl trivial)))) (And.intro rfl (And.intro rfl (And.intro rfl (And.intro rfl (And.intro rfl (And.intro rfl (And.intro rfl trivial)))))))))))))))))) (And.intro (fun _ _ h => loopZ h) (And.intro (fun m => curI (fun v74 => fun l5 z hF => ?_)) ?_))))
        · have hF : f141_l8 a b r12 (loopF (fun go x => f141_l8 a b r12 go x.1 x.2) m) v74 l5 = some z := hF
          unfold f141_l8 at hF
          refine Or.inl ?_
          refine Or.inl ?_
          refine condI hF (fun hF => ?_) (fun hF => ?_)
          · refine Or.inl ?_
            refine Or.inl ?_
            refine Or.inl ?_
            obtain ⟨z16, hz16, hF⟩ := bindE hF
            refine loopI (Int × (List Int)) (List Int) (fun x => ⟨[(2, .raw false [(.ptr 0 0)]), (4, .raw false [(.ptr 1 0)]), (7, .dat (.int .i64) (rd (0 : Int) a.1 (1 : Int))), (8, .dat (.int .i64) (rd (0 : Int) b.1 (1 : Int))), (9, .raw false [(.ptr 2 0)]), (11, .raw false [(.ptr 3 0)]), (13, .dat (.int .i64) v74), (73, .dat (.int .i64) (rd (0 : Int) a.1 (0 : Int))), (74, .dat (.int .i64) v74), (77, .dat (.int .i64) (rd (0 : Int) b.1 (1 : Int))), (78, .dat (.int .i64) x.1)], [(0, .cells [(.d (.sl (.int .i64)) a.1), (.d (.sl (.int .i64)) a.2)]), (1, .cells [(.c (.slice none 0 0)), (.c (.slice none 0 0))]), (2, .cells [(.osl 4), (.osl 5)]), (3, .cells [(.osl 6), (.d (.sl (.int .i64)) r12.2.2)]), (4, .arr 3 (.int .i64) q5_14.2.1), (5, .arr 57 (.int .i64) x.2), (6, .arr 3 (.int .i64) r12.2.1)], 7⟩) (fun z => [(5, ⟨[(2, .raw false [(.ptr 0 0)]), (4, .raw false [(.ptr 1 0)]), (7, .dat (.int .i64) (rd (0 : Int) a.1 (1 : Int))), (8, .dat (.int .i64) (rd (0 : Int) b.1 (1 : Int))), (9, .raw false [(.ptr 2 0)]), (11, .raw false [(.ptr 3 0)]), (73, .dat (.int .i64) (rd (0 : Int) a.1 (0 : Int))), (74, .dat (.int .i64) v74)], [(0, .cells [(.d (.sl (.int .i64)) a.1), (.d (.sl (.int .i64)) a.2)]), (1, .cells [(.c (.slice none 0 0)), (.c (.slice none 0 0))]), (2, .cells [(.osl 4), (.osl 5)]), (3, .cells [(.osl 6), (.d (.sl (.int .i64)) r12.2.2)]), (4, .arr 3 (.int .i64) q5_14.2.1), (5, .arr 57 (.int .i64) z), (6, .arr 3 (.int .i64) r12.2.1)], 7⟩)]) (loopF (fun go x => f141_l9 a b r12 v74 go x.1 x.2)) fuelN ((0 : Int), l5) z16 (And.intro hz16 (And.intro (Exists.intro [] (Exists.intro [] (Exists.intro [] (Exists.intro [] (Exists.intro [(0, some 0), (1, some 1), (2, some 2), (3, some 3), (4, some 4), (5, some 5), (6, some 6)] (And.intro rfl (And.intro rfl (And.intro rfl (And.intro rfl (And.intro rfl (And.intro rfl (And.intro rfl (And.intro rfl (And.intro (And.intro rfl (And.intro rfl (And.intro rfl (And.intro rfl trivial)))) (And.intro rfl (And.intro rfl (And.intro rfl (And.intro rfl (And.intro rfl (And.intro rfl (And.intro rfl trivial))))))))))))))))))))) (And.intro (fun _ _ h => loopZ h) (And.intro (fun m => curI (fun v78 => fun l5_2 z hF => ?_)) ?_))))
            · have hF : f141_l9 a b r12 v74 (loopF (fun go x => f141_l9 a b r12 v74 go x.1 x.2) m) v78 l5_2 = some z := hF
              unfold f141_l9 at hF
              refine Or.inl ?_
              refine Or.inl ?_
              refine condI hF (fun hF => ?_) (fun hF => ?_)
              · refine Or.inl ?_
                refine Or.inl ?_
                refine Exists.intro (.take 0 (.take 1 (.take 2 (.take 3 (.take 4 (.take 5 (.take 6 (.take 7 (.take 8 (.take 9 (.take 10 (.take 11 (.take 12 (.take 13 (.take 14 (.take 15 (.take 16 (.take 17 (.take 18 (.take 19 (.take 20 (.take 21 (.take 22 (.take 23 (.take 24 (.take 25 (.alt 26 (.alt 27 (.take 28 (.alt 29 .done .done)) .done) .done))))))))))))))))))))))))))) (Exists.intro [] (Exists.intro [] (And.intro rfl ?_)))
                refine guardI hF (fun hF => ?_)
                refine And.intro trivial ?_
                refine guardI hF (fun hF => ?_)
                refine And.intro trivial ?_
                obtain ⟨q16_27, hq16_27, hF⟩ := bindE hF
                refine Or.inl (And.intro f172_in (callV0 (callI C172 ((List.drop (Int.toNat (IntKind.i64.wrap (v74 * (rd (0 : Int) a.1 (1 : Int))))) (List.take (Int.toNat (IntKind.i64.wrap ((IntKind.i64.wrap (v74 + (1 : Int))) * (rd (0 : Int) a.1 (1 : Int))))) a.2)), (List.drop (Int.toNat (IntKind.i64.wrap (v78 * (rd (0 : Int) a.1 (1 : Int))))) (List.take (Int.toNat (IntKind.i64.wrap ((IntKind.i64.wrap (v78 + (1 : Int))) * (rd (0 : Int) a.1 (1 : Int))))) r12.2.2))) q16_27 [] false C172_holds hq16_27 rfl rfl ?_)))
                refine (And.intro rfl (And.intro rfl (And.intro (fun h => nomatch h) (And.intro rfl (And.intro rfl (And.intro trivial (And.intro trivial ?_)))))))
                refine guardI hF (fun hF => ?_)
                refine And.intro trivial ?_
                refine Or.inl ?_
                refine Exists.intro ((IntKind.i64.wrap (v78 + (1 : Int))), (List.set l5_2 (Int.toNat (IntKind.i64.wrap ((IntKind.i64.wrap (v74 * (rd (0 : Int) b.1 (1 : Int)))) + v78))) q16_27)) (And.intro hF (Exists.intro [] (Exists.intro [] (Exists.intro [] (Exists.intro [] (Exists.intro [(0, some 0), (1, some 1), (2, some 2), (3, some 3), (4, some 4), (5, some 5), (6, some 6)] (And.intro rfl (And.intro rfl (And.intro rfl (And.intro rfl (And.intro rfl (And.intro rfl (And.intro rfl (And.intro rfl (And.intro (And.intro rfl (And.intro rfl (And.intro rfl (And.intro rfl trivial)))) (And.intro rfl (And.intro rfl (And.intro rfl (And.intro rfl (And.intro rfl (And.intro rfl (And.intro rfl trivial))))))))))))))))))))))
              · have hz := someE hF
                subst hz
                refine Exists.intro [] (Exists.intro [] (Exists.intro [] (Exists.intro [] (Exists.intro [(0, some 0), (1, some 1), (2, some 2), (3, some 3), (4, some 4), (5, some 5), (6, some 6)] (And.intro rfl (And.intro rfl (And.intro rfl (And.intro rfl (And.intro rfl (And.intro (And.intro rfl (And.intro rfl (And.intro rfl (And.intro rfl trivial)))) (And.intro rfl (And.intro rfl (And.intro rfl (And.intro rfl (And.intro rfl (And.intro rfl (And.intro rfl trivial)))))))))))))))))
            · refine And.intro ?_ trivial
              refine Exists.intro ((IntKind.i64.wrap (v74 + (1 : Int))), z16) (And.intro hF (Exists.intro [] (Exists.intro [] (Exists.intro [] (Exists.intro [] (Exists.intro [(0, some 0), (1, some 1), (2, some 2), (3, some 3), (4, some 4), (5, some 5), (6, some 6)] (And.intro rfl (And.intro rfl (And.intro rfl (And.intro rfl (And.intro rfl (And.intro (And.intro rfl (And.intro rfl (And.intro rfl (And.intro rfl trivial)))) (And.intro rfl (And.intro rfl (And.intro rfl (And.intro rfl (And.intro rfl (And.intro rfl (And.intro rfl trivial)))))))))))))))))))
          · have hz := someE hF
            subst hz
            refine Exists.intro [] (Exists.intro [] (Exists.intro [] (Exists.intro [] (Exists.intro [(0, some 1), (1, some 2), (2, some 4), (3, some 5)] (And.intro rfl (And.intro (And.intro rfl (And.intro rfl trivial)) (And.intro rfl (And.intro rfl (And.intro rfl (And.intro rfl trivial))))))))))
        · refine And.intro ?_ trivial
          refine Or.inl ?_
          refine Or.inl ?_
          have hy := someE hF
          subst hy
          refine And.intro rfl (Exists.intro [] (Exists.intro [] (Exists.intro [] (Exists.intro [] (Exists.intro [(0, some 2), (1, some 3)] (And.intro rfl (And.intro rfl (And.intro (And.intro rfl trivial) (And.intro rfl (And.intro rfl trivial))))))))))
    · dsimp only [sumF] at hF
      refine And.intro ?_ trivial
      have hy := someE hF
      subst hy
      refine And.intro rfl (Exists.intro [] (Exists.intro [] (Exists.intro [] (Exists.intro [] (Exists.intro [(0, none), (1, none)] (And.intro rfl (And.intro rfl (And.intro (And.intro rfl trivial) (And.intro rfl (And.intro rfl trivial))))))))))
theorem C141_holds : C141.Holds Tryz.prog 141 := holds_of_vc tab_ok mixed (fn := Tryz.f141) (by kernel_rfl) rfl C141 (fun x y hF => C141_vc x.1 x.2 y hF)
theorem f141_in : ∃ fn, Tryz.prog.funcs[141]? = some fn ∧ fn.body.isSome = true ∧ (fn.name == "runtime.NumGoroutine") = false := ⟨Tryz.f141, by kernel_rfl, by kernel_rfl, by kernel_rfl⟩
end Go.Proofs
namespace Go.Proofs
open Go.AM
-- carousel/conv.stepGood
def f173 (step : Int) : Option Bool :=
  bif (decide (step ≥ (1 : Int))) then
    some (decide (step ≤ (64 : Int)))
  else
    some false
def C173 : Con where
  X := Int
  Y := Bool
  e := 0
  args x := [.dat (.int .i64) x]
  hin x := []
  F x := f173 x
  ret y := [.dat .bool y]
  hout y := []
  nout := 0
theorem C173_vc (step : Int) (y : Bool) (hF : f173 step = some y) : vc Tryz.prog tab Tryz.f173.ntmps 0 (match Tryz.f173.body with | some c => c | none => .skip) (retK tab C173 Tryz.f173.results.toList y) (C173.shIn step).st := by
  unfold f173 at hF
  refine Or.inl ?_
  refine Or.inl ?_
  refine condI hF (fun hF => ?_) (fun hF => ?_)
  · refine gdYT ?_
    refine condT ?_
    have hy := someE hF
    subst hy
    refine And.intro rfl (Exists.intro [] (Exists.intro [] (Exists.intro [] (Exists.intro [] (Exists.intro [] (And.intro rfl (And.intro rfl (And.intro trivial trivial))))))))
  · refine gdNT ?_
    refine condF ?_
    have hy := someE hF
    subst hy
    refine And.intro rfl (Exists.intro [] (Exists.intro [] (Exists.intro [] (Exists.intro [] (Exists.intro [] (And.intro rfl (And.intro rfl (And.intro trivial trivial))))))))
theorem C173_holds : C173.Holds Tryz.prog 173 := holds_of_vc tab_ok mixed (fn := Tryz.f173) (by kernel_rfl) rfl C173 (fun x y hF => C173_vc x y hF)
theorem f173_in : ∃ fn, Tryz.prog.funcs[173]? = some fn ∧ fn.body.isSome = true ∧ (fn.name == "runtime.NumGoroutine") = false := ⟨Tryz.f173, by kernel_rfl, by kernel_rfl, by kernel_rfl⟩
end Go.Proofs
namespace Go.Proofs
open Go.AM
-- carousel/conv.windows
def f174 (long : Int) (wide : Int) (step : Int) : Option Int :=
  bif (decide (wide > long)) then
    some (0 : Int)
  else
    guardF (step ≠ 0) <|
    some (IntKind.i64.wrap ((IntKind.i64.wrap (Int.tdiv (IntKind.i64.wrap (long - wide)) step)) + (1 : Int)))
def C174 : Con where
  X := Int × Int × Int
  Y := Int
  e := 0
  args x := [.dat (.int .i64) x.1, .dat (.int .i64) x.2.1, .dat (.int .i64) x.2.2]
  hin x := []
  F x := f174 x.1 x.2.1 x.2.2
  ret y := [.dat (.int .i64) y]
  hout y := []
  nout := 0
theorem C174_vc (long : Int) (wide : Int) (step : Int) (y : Int) (hF : f174 long wide step = some y) : vc Tryz.prog tab Tryz.f174.ntmps 0 (match Tryz.f174.body with | some c => c | none => .skip) (retK tab C174 Tryz.f174.results.toList y) (C174.shIn (long, wide, step)).st := by
  unfold f174 at hF
  refine Or.inl ?_
  refine Or.inl ?_
  refine Or.inl ?_
  refine condI hF (fun hF => ?_) (fun hF => ?_)
  · refine Or.inl ?_
    have hy := someE hF
    subst hy
    refine And.intro rfl (Exists.intro [] (Exists.intro [] (Exists.intro [] (Exists.intro [] (Exists.intro [] (And.intro rfl (And.intro rfl (And.intro trivial trivial))))))))
  · refine Or.inl ?_
    refine guardI hF (fun hF => ?_)
    have hy := someE hF
    subst hy
    refine And.intro rfl (Exists.intro [] (Exists.intro [] (Exists.intro [] (Exists.intro [] (Exists.intro [] (And.intro rfl (And.intro rfl (And.intro trivial trivial))))))))
theorem C174_holds : C174.Holds Tryz.prog 174 := holds_of_vc tab_ok mixed (fn := Tryz.f174) (by kernel_rfl) rfl C174 (fun x y hF => C174_vc x.1 x.2.1 x.2.2 y hF)
theorem f174_in : ∃ fn, Tryz.prog.funcs[174]? = some fn ∧ fn.body.isSome = true ∧ (fn.name == "runtime.NumGoroutine") = false := ⟨Tryz.f174, by kernel_rfl, by kernel_rfl, by kernel_rfl⟩
end Go.Proofs
namespace Go.Proofs
open Go.AM
-- carousel/conv.of
def f175 (d : List Int) : Option (Int × (List Int) × (List Int)) :=
  bindF (f171 d (0 : Int)) fun r1 =>
  bif (r1.1 != (0 : Int)) then
    some ((2 : Int), [], [])
  else
    some ((0 : Int), r1.2.1, r1.2.2)
def C175 : Con where
  X := List Int
  Y := Int × (List Int) × (List Int)
  e := 0
  args x := [.dat (.sl (.int .i64)) x]
  hin x := []
  F x := f175 x
  ret y := [.raw true [(.osl 0), (.osl 1)], .dat (.int .i64) y.1]
  hout y := [(0, .arr 3 (.int .i64) y.2.1), (1, .arr 57 (.int .i64) y.2.2)]
  nout := 2
theorem C175_vc (d : List Int) (y : Int × (List Int) × (List Int)) (hF : f175 d = some y) : vc Tryz.prog tab Tryz.f175.ntmps 0 (match Tryz.f175.body with | some c => c | none => .skip) (retK tab C175 Tryz.f175.results.toList y) (C175.shIn d).st := by
  unfold f175 at hF
  refine Or.inl ?_
  refine Or.inl ?_
  obtain ⟨r1, hr1, hF⟩ := bindE hF
  refine Or.inl (And.intro f171_in (callV0 (callI C171 (d, (0 : Int)) r1 [] false C171_holds hr1 rfl rfl ?_)))
  refine (And.intro rfl (And.intro rfl (And.intro (fun h => nomatch h) (And.intro rfl (And.intro rfl (And.intro trivial (And.intro trivial ?_)))))))
  refine Or.inl ?_
  refine Or.inl ?_
  refine Or.inl ?_
  refine condI hF (fun hF => ?_) (fun hF => ?_)
  · refine Or.inl ?_
    refine Or.inl ?_
    have hy := someE hF
    subst hy
    refine And.intro rfl (Exists.intro [] (Exists.intro [] (Exists.intro [] (Exists.intro [] (Exists.intro [(0, none), (1, none)] (And.intro rfl (And.intro rfl (And.intro (And.intro rfl trivial) (And.intro rfl (And.intro rfl trivial))))))))))
  · refine Or.inl ?_
    refine Or.inl ?_
    have hy := someE hF
    subst hy
    refine And.intro rfl (Exists.intro [] (Exists.intro [] (Exists.intro [] (Exists.intro [] (Exists.intro [(0, some 1), (1, some 2)] (And.intro rfl (And.intro rfl (And.intro (And.intro rfl trivial) (And.intro rfl (And.intro rfl trivial))))))))))
theorem C175_holds : C175.Holds Tryz.prog 175 := holds_of_vc tab_ok mixed (fn := Tryz.f175) (by kernel_rfl) rfl C175 (fun x y hF => C175_vc x y hF)
theorem f175_in : ∃ fn, Tryz.prog.funcs[175]? = some fn ∧ fn.body.isSome = true ∧ (fn.name == "runtime.NumGoroutine") = false := ⟨Tryz.f175, by kernel_rfl, by kernel_rfl, by kernel_rfl⟩
end Go.Proofs
