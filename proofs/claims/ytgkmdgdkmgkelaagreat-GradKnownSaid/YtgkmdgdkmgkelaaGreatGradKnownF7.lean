import Derived.Test.YtgkmdgdkmgkelaaGreatGradKnownF6
set_option linter.unusedVariables false
set_option maxRecDepth 100000
set_option maxHeartbeats 8000000
namespace Go.Proofs
open Go.AM
-- carousel/act.Slope
def f149_j1 (x_ : Int) : Option Bool :=
  bif (decide (x_ > (-4294967296 : Int))) then
    some (decide (x_ < (4294967296 : Int)))
  else
    some false
def f149 (kind : Int) (x_ : Int) : Option (Int × Int) :=
  bindF (f149_j1 x_) fun z1 =>
  bif (kind == (1 : Int)) then
    bindF (f184 (decide (x_ > (0 : Int))) (4294967296 : Int) (0 : Int)) fun r2 =>
    some (r2, (0 : Int))
  else
    bif (kind == (2 : Int)) then
      bindF (f184 (decide (x_ > (0 : Int))) (4294967296 : Int) (536870912 : Int)) fun r3 =>
      some (r3, (0 : Int))
    else
      bif (kind == (3 : Int)) then
        bindF (f184 z1 (4294967296 : Int) (0 : Int)) fun r4 =>
        some (r4, (0 : Int))
      else
        bif (kind == (4 : Int)) then
          bindF (f185 x_ (0 : Int)) fun r5 =>
          some ((IntKind.i64.wrap (r5 * (4294967296 : Int))), (0 : Int))
        else
          bif (kind == (5 : Int)) then
            bindF (f184 z1 (2147483648 : Int) (0 : Int)) fun r6 =>
            some (r6, (0 : Int))
          else
            some ((0 : Int), (1 : Int))
def C149 : Con where
  X := Int × Int
  Y := Int × Int
  e := 0
  args x := [.dat (.int .i64) x.1, .dat (.int .i64) x.2]
  hin x := []
  F x := f149 x.1 x.2
  ret y := [.dat (.int .i64) y.1, .dat (.int .i64) y.2]
  hout y := []
  nout := 0
theorem C149_vc (kind : Int) (x_ : Int) (y : Int × Int) (hF : f149 kind x_ = some y) : vc Tryz.prog tab Tryz.f149.ntmps 0 (match Tryz.f149.body with | some c => c | none => .skip) (retK tab C149 Tryz.f149.results.toList y) (C149.shIn (kind, x_)).st := by
  unfold f149 at hF
  refine Or.inl ?_
  obtain ⟨z1, hz1, hF⟩ := bindE hF
  refine Or.inr ⟨[(0, ⟨[(0, .dat (.int .i64) kind), (1, .dat (.int .i64) x_), (6, .dat .bool z1)], [], 0⟩)], ?_, ?_⟩
  · have hF := hz1
    clear hz1
    unfold f149_j1 at hF
    refine condI hF (fun hF => ?_) (fun hF => ?_)
    · refine gdYT ?_
      refine condT ?_
      have hz := someE hF
      subst hz
      refine Exists.intro [] (Exists.intro [] (Exists.intro [] (Exists.intro [] (Exists.intro [] (And.intro rfl (And.intro rfl (And.intro rfl (And.intro rfl (And.intro trivial trivial)))))))))
    · refine gdNT ?_
      refine condF ?_
      have hz := someE hF
      subst hz
      refine Exists.intro [] (Exists.intro [] (Exists.intro [] (Exists.intro [] (Exists.intro [] (And.intro rfl (And.intro rfl (And.intro rfl (And.intro rfl (And.intro trivial trivial)))))))))
  · refine And.intro ?_ trivial
    refine Or.inl ?_
    refine Or.inl ?_
    refine Or.inl ?_
    refine condI hF (fun hF => ?_) (fun hF => ?_)
    · refine Or.inl ?_
      obtain ⟨r2, hr2, hF⟩ := bindE hF
      refine Or.inl (And.intro f184_in (callV0 (callI C184 ((decide (x_ > (0 : Int))), (4294967296 : Int), (0 : Int)) r2 [] false C184_holds hr2 rfl rfl ?_)))
      refine (And.intro rfl (And.intro rfl (And.intro rfl (And.intro (fun h => nomatch h) (And.intro rfl (And.intro rfl (And.intro trivial (And.intro trivial ?_))))))))
      have hy := someE hF
      subst hy
      refine And.intro rfl (Exists.intro [] (Exists.intro [] (Exists.intro [] (Exists.intro [] (Exists.intro [] (And.intro rfl (And.intro rfl (And.intro rfl (And.intro trivial trivial)))))))))
    · refine Or.inl ?_
      refine condI hF (fun hF => ?_) (fun hF => ?_)
      · refine Or.inl ?_
        obtain ⟨r3, hr3, hF⟩ := bindE hF
        refine Or.inl (And.intro f184_in (callV0 (callI C184 ((decide (x_ > (0 : Int))), (4294967296 : Int), (536870912 : Int)) r3 [] false C184_holds hr3 rfl rfl ?_)))
        refine (And.intro rfl (And.intro rfl (And.intro rfl (And.intro (fun h => nomatch h) (And.intro rfl (And.intro rfl (And.intro trivial (And.intro trivial ?_))))))))
        have hy := someE hF
        subst hy
        refine And.intro rfl (Exists.intro [] (Exists.intro [] (Exists.intro [] (Exists.intro [] (Exists.intro [] (And.intro rfl (And.intro rfl (And.intro rfl (And.intro trivial trivial)))))))))
      · refine Or.inl ?_
        refine condI hF (fun hF => ?_) (fun hF => ?_)
        · refine Or.inl ?_
          obtain ⟨r4, hr4, hF⟩ := bindE hF
          refine Or.inl (And.intro f184_in (callV0 (callI C184 (z1, (4294967296 : Int), (0 : Int)) r4 [] false C184_holds hr4 rfl rfl ?_)))
          refine (And.intro rfl (And.intro rfl (And.intro rfl (And.intro (fun h => nomatch h) (And.intro rfl (And.intro rfl (And.intro trivial (And.intro trivial ?_))))))))
          have hy := someE hF
          subst hy
          refine And.intro rfl (Exists.intro [] (Exists.intro [] (Exists.intro [] (Exists.intro [] (Exists.intro [] (And.intro rfl (And.intro rfl (And.intro rfl (And.intro trivial trivial)))))))))
        · refine Or.inl ?_
          refine condI hF (fun hF => ?_) (fun hF => ?_)
          · refine Or.inl ?_
            obtain ⟨r5, hr5, hF⟩ := bindE hF
            refine Or.inl (And.intro f185_in (callV0 (callI C185 (x_, (0 : Int)) r5 [] false C185_holds hr5 rfl rfl ?_)))
            refine (And.intro rfl (And.intro rfl (And.intro (fun h => nomatch h) (And.intro rfl (And.intro rfl (And.intro trivial (And.intro trivial ?_)))))))
            have hy := someE hF
            subst hy
            refine And.intro rfl (Exists.intro [] (Exists.intro [] (Exists.intro [] (Exists.intro [] (Exists.intro [] (And.intro rfl (And.intro rfl (And.intro rfl (And.intro trivial trivial)))))))))
          · refine Or.inl ?_
            refine condI hF (fun hF => ?_) (fun hF => ?_)
            · refine Or.inl ?_
              obtain ⟨r6, hr6, hF⟩ := bindE hF
              refine Or.inl (And.intro f184_in (callV0 (callI C184 (z1, (2147483648 : Int), (0 : Int)) r6 [] false C184_holds hr6 rfl rfl ?_)))
              refine (And.intro rfl (And.intro rfl (And.intro rfl (And.intro (fun h => nomatch h) (And.intro rfl (And.intro rfl (And.intro trivial (And.intro trivial ?_))))))))
              have hy := someE hF
              subst hy
              refine And.intro rfl (Exists.intro [] (Exists.intro [] (Exists.intro [] (Exists.intro [] (Exists.intro [] (And.intro rfl (And.intro rfl (And.intro rfl (And.intro trivial trivial)))))))))
            · refine Or.inl ?_
              have hy := someE hF
              subst hy
              refine And.intro rfl (Exists.intro [] (Exists.intro [] (Exists.intro [] (Exists.intro [] (Exists.intro [] (And.intro rfl (And.intro rfl (And.intro rfl (And.intro trivial trivial)))))))))
theorem C149_holds : C149.Holds Tryz.prog 149 := holds_of_vc tab_ok mixed (fn := Tryz.f149) (by kernel_rfl) rfl C149 (fun x y hF => C149_vc x.1 x.2 y hF)
theorem f149_in : ∃ fn, Tryz.prog.funcs[149]? = some fn ∧ fn.body.isSome = true ∧ (fn.name == "runtime.NumGoroutine") = false := ⟨Tryz.f149, by kernel_rfl, by kernel_rfl, by kernel_rfl⟩
end Go.Proofs
namespace Go.Proofs
open Go.AM
-- carousel/act.Back
def f115_j3 (kind : Int) (t : (List Int) × (List Int)) (g : (List Int) × (List Int)) : Option Bool :=
  bindF (f148 kind) fun r13 =>
  bif (!r13) then
    some true
  else
    bindF (f86 (t.1, t.2)) fun r14 =>
    bif (!r14) then
      some true
    else
      bindF (f86 (g.1, g.2)) fun r15 =>
      some (!r15)
def f115_j2 (kind : Int) (t : (List Int) × (List Int)) (g : (List Int) × (List Int)) : Option (Sum Unit Int) :=
  bindF (f115_j3 kind t g) fun z12 =>
  bif z12 then
    some (Sum.inr (1 : Int))
  else
    bindF (f87 t.1 g.1) fun r16 =>
    bif (!r16) then
      some (Sum.inr (4 : Int))
    else
      some (Sum.inl ())
def f115_l4 (kind : Int) (t : (List Int) × (List Int)) (g : (List Int) × (List Int)) (go : (Int × (List Int)) → Option (List Int)) (v41 : Int) (l4 : List Int) : Option (List Int) :=
  bif (decide (v41 < (List.length t.2 : Int))) then
    guardF (0 ≤ v41 ∧ v41 < (List.length t.2 : Int)) <|
    bindF (f149 kind (rd (0 : Int) t.2 v41)) fun q10_11 =>
    guardF (0 ≤ v41 ∧ v41 < (List.length g.2 : Int)) <|
    bindF (f66 (rd (0 : Int) g.2 v41) q10_11.1) fun q10_9 =>
    guardF (0 ≤ v41 ∧ v41 < (List.length l4 : Int)) <|
    go ((IntKind.i64.wrap (v41 + (1 : Int))), (List.set l4 (Int.toNat v41) q10_9))
  else
    some l4
def f115 (kind : Int) (t : (List Int) × (List Int)) (g : (List Int) × (List Int)) : Option (Int × (List Int) × (List Int)) :=
  bindF (f115_j2 kind t g) fun z8 =>
  sumF z8 (fun z8a =>
    bindF (f85 (g.1, g.2)) fun r17 =>
    bindF (loopF (fun go x => f115_l4 kind t g go x.1 x.2) fuelN ((0 : Int), r17.2)) fun z19 =>
    some ((0 : Int), r17.1, z19)) (fun z8b =>
    some (z8b, [], []))
def C115 : Con where
  X := Int × ((List Int) × (List Int)) × ((List Int) × (List Int))
  Y := Int × (List Int) × (List Int)
  e := 0
  args x := [.dat (.int .i64) x.1, .dat (.p (.sl (.int .i64)) (.sl (.int .i64))) x.2.1, .dat (.p (.sl (.int .i64)) (.sl (.int .i64))) x.2.2]
  hin x := []
  F x := f115 x.1 x.2.1 x.2.2
  ret y := [.raw true [(.osl 0), (.osl 1)], .dat (.int .i64) y.1]
  hout y := [(0, .arr 3 (.int .i64) y.2.1), (1, .arr 23 (.int .i64) y.2.2)]
  nout := 2
theorem C115_vc (kind : Int) (t : (List Int) × (List Int)) (g : (List Int) × (List Int)) (y : Int × (List Int) × (List Int)) (hF : f115 kind t g = some y) : vc Tryz.prog tab Tryz.f115.ntmps 0 (match Tryz.f115.body with | some c => c | none => .skip) (retK tab C115 Tryz.f115.results.toList y) (C115.shIn (kind, t, g)).st := by
  unfold f115 at hF
  refine Or.inl ?_
  obtain ⟨z8, hz8, hF⟩ := bindE hF
  refine Or.inr ⟨Sum.elim (fun z8a => [(0, ⟨[(0, .dat (.int .i64) kind), (4, .raw false [(.ptr 0 0)]), (5, .raw false [(.ptr 1 0)]), (6, .raw false [(.ptr 2 0)])], [(0, .cells [(.d (.sl (.int .i64)) t.1), (.d (.sl (.int .i64)) t.2)]), (1, .cells [(.d (.sl (.int .i64)) g.1), (.d (.sl (.int .i64)) g.2)]), (2, .cells [(.c (.slice none 0 0)), (.c (.slice none 0 0))])], 3⟩)]) (fun z8b => [(1, ⟨[(6, .raw false [(.ptr 0 0)]), (7, .dat (.int .i64) z8b)], [(0, .cells [(.c (.slice none 0 0)), (.c (.slice none 0 0))])], 1⟩)]) z8, ?_, ?_⟩
  · have hF := hz8
    clear hz8
    unfold f115_j2 at hF
    obtain ⟨z12, hz12, hF⟩ := bindE hF
    refine Or.inr ⟨[(0, ⟨[(0, .dat (.int .i64) kind), (4, .raw false [(.ptr 0 0)]), (5, .raw false [(.ptr 1 0)]), (6, .raw false [(.ptr 2 0)]), (13, .dat .bool z12)], [(0, .cells [(.d (.sl (.int .i64)) t.1), (.d (.sl (.int .i64)) t.2)]), (1, .cells [(.d (.sl (.int .i64)) g.1), (.d (.sl (.int .i64)) g.2)]), (2, .cells [(.c (.slice none 0 0)), (.c (.slice none 0 0))])], 3⟩)], ?_, ?_⟩
    · have hF := hz12
      clear hz12
      unfold f115_j3 at hF
      obtain ⟨r13, hr13, hF⟩ := bindE hF
      refine Or.inl (And.intro f148_in (callV0 (callI C148 kind r13 [] false C148_holds hr13 rfl rfl ?_)))
      refine (And.intro rfl (And.intro (fun h => nomatch h) (And.intro rfl (And.intro rfl (And.intro trivial (And.intro trivial ?_))))))
      refine condN hF (fun hF => ?_) (fun hF => ?_)
      · refine gdYF ?_
        obtain ⟨r14, hr14, hF⟩ := bindE hF
        refine Or.inl (And.intro f86_in (callV0 (callI C86 (t.1, t.2) r14 [] false C86_holds hr14 rfl rfl ?_)))
        refine (And.intro rfl (And.intro rfl (And.intro (fun h => nomatch h) (And.intro rfl (And.intro rfl (And.intro trivial (And.intro trivial ?_)))))))
        refine gdYF ?_
        refine condF ?_
        refine condN hF (fun hF => ?_) (fun hF => ?_)
        · refine gdYF ?_
          obtain ⟨r15, hr15, hF⟩ := bindE hF
          refine Or.inl (And.intro f86_in (callV0 (callI C86 (g.1, g.2) r15 [] false C86_holds hr15 rfl rfl ?_)))
          refine (And.intro rfl (And.intro rfl (And.intro (fun h => nomatch h) (And.intro rfl (And.intro rfl (And.intro trivial (And.intro trivial ?_)))))))
          refine gdYF ?_
          refine condF ?_
          have hz := someE hF
          subst hz
          refine Exists.intro [] (Exists.intro [] (Exists.intro [] (Exists.intro [] (Exists.intro [(0, some 0), (1, some 1), (2, some 2)] (And.intro rfl (And.intro rfl (And.intro rfl (And.intro (And.intro rfl (And.intro rfl (And.intro rfl trivial))) (And.intro rfl (And.intro rfl (And.intro rfl trivial)))))))))))
        · refine gdNF ?_
          refine gdNF ?_
          refine condT ?_
          have hz := someE hF
          subst hz
          refine Exists.intro [] (Exists.intro [] (Exists.intro [] (Exists.intro [] (Exists.intro [(0, some 0), (1, some 1), (2, some 2)] (And.intro rfl (And.intro rfl (And.intro rfl (And.intro (And.intro rfl (And.intro rfl (And.intro rfl trivial))) (And.intro rfl (And.intro rfl (And.intro rfl trivial)))))))))))
      · refine gdNF ?_
        refine gdNF ?_
        refine condT ?_
        refine gdNF ?_
        refine gdNF ?_
        refine gdNF ?_
        refine condT ?_
        have hz := someE hF
        subst hz
        refine Exists.intro [] (Exists.intro [] (Exists.intro [] (Exists.intro [] (Exists.intro [(0, some 0), (1, some 1), (2, some 2)] (And.intro rfl (And.intro rfl (And.intro rfl (And.intro (And.intro rfl (And.intro rfl (And.intro rfl trivial))) (And.intro rfl (And.intro rfl (And.intro rfl trivial)))))))))))
    · refine And.intro ?_ trivial
      refine condI hF (fun hF => ?_) (fun hF => ?_)
      · refine Or.inl ?_
        refine Or.inl ?_
        have hz := someE hF
        subst hz
        refine Exists.intro [] (Exists.intro [] (Exists.intro [] (Exists.intro [] (Exists.intro [(0, some 2)] (And.intro rfl (And.intro rfl (And.intro (And.intro rfl trivial) (And.intro rfl trivial))))))))
      · refine Or.inl ?_
        obtain ⟨r16, hr16, hF⟩ := bindE hF
        refine Or.inl (And.intro f87_in (callV0 (callI C87 (t.1, g.1) r16 [] false C87_holds hr16 rfl rfl ?_)))
        refine (And.intro rfl (And.intro rfl (And.intro (fun h => nomatch h) (And.intro rfl (And.intro rfl (And.intro trivial (And.intro trivial ?_)))))))
        refine condI hF (fun hF => ?_) (fun hF => ?_)
        · refine Or.inl ?_
          refine Or.inl ?_
          have hz := someE hF
          subst hz
          refine Exists.intro [] (Exists.intro [] (Exists.intro [] (Exists.intro [] (Exists.intro [(0, some 2)] (And.intro rfl (And.intro rfl (And.intro (And.intro rfl trivial) (And.intro rfl trivial))))))))
        · have hz := someE hF
          subst hz
          refine Exists.intro [] (Exists.intro [] (Exists.intro [] (Exists.intro [] (Exists.intro [(0, some 0), (1, some 1), (2, some 2)] (And.intro rfl (And.intro rfl (And.intro (And.intro rfl (And.intro rfl (And.intro rfl trivial))) (And.intro rfl (And.intro rfl (And.intro rfl trivial))))))))))
  · rcases z8 with z8a | z8b
    · dsimp only [sumF] at hF
      refine And.intro ?_ trivial
      refine Or.inl ?_
      obtain ⟨r17, hr17, hF⟩ := bindE hF
      refine Or.inl (And.intro f85_in (callV0 (callI C85 (g.1, g.2) r17 [] false C85_holds hr17 rfl rfl ?_)))
      refine (And.intro rfl (And.intro rfl (And.intro (fun h => nomatch h) (And.intro rfl (And.intro rfl (And.intro trivial (And.intro trivial ?_)))))))
      refine Or.inl ?_
      refine Or.inl ?_
      refine Or.inl ?_
      obtain ⟨z19, hz19, hF⟩ := bindE hF
      refine loopI (Int × (List Int)) (List Int) (fun x => ⟨[(0, .dat (.int .i64) kind), (5, .raw false [(.ptr 0 0)]), (6, .raw false [(.ptr 1 0)]), (8, .raw false [(.ptr 2 0)]), (39, .dat (.sl (.int .i64)) t.2), (40, .dat (.int .i64) (List.length t.2 : Int)), (41, .dat (.int .i64) x.1)], [(0, .cells [(.d (.sl (.int .i64)) g.1), (.d (.sl (.int .i64)) g.2)]), (1, .cells [(.c (.slice none 0 0)), (.c (.slice none 0 0))]), (2, .cells [(.osl 3), (.osl 4)]), (3, .arr 3 (.int .i64) r17.1), (4, .arr 23 (.int .i64) x.2)], 5⟩) (fun z => [(3, ⟨[(6, .raw false [(.ptr 0 0)]), (8, .raw false [(.ptr 1 0)])], [(0, .cells [(.c (.slice none 0 0)), (.c (.slice none 0 0))]), (1, .cells [(.osl 2), (.osl 3)]), (2, .arr 3 (.int .i64) r17.1), (3, .arr 23 (.int .i64) z)], 4⟩)]) (loopF (fun go x => f115_l4 kind t g go x.1 x.2)) fuelN ((0 : Int), r17.2) z19 (And.intro hz19 (And.intro (Exists.intro [] (Exists.intro [] (Exists.intro [] (Exists.intro [] (Exists.intro [(0, some 1), (1, some 2), (2, some 5), (3, some 3), (4, some 4)] (And.intro rfl (And.intro rfl (And.intro rfl (And.intro rfl (And.intro rfl (And.intro (And.intro rfl (And.intro rfl (And.intro rfl trivial))) (And.intro rfl (And.intro rfl (And.intro rfl (And.intro rfl (And.intro rfl trivial)))))))))))))))) (And.intro (fun _ _ h => loopZ h) (And.intro (fun m => curI (fun v41 => fun l4 z hF => ?_)) ?_))))
      · have hF : f115_l4 kind t g (loopF (fun go x => f115_l4 kind t g go x.1 x.2) m) v41 l4 = some z := hF
        unfold f115_l4 at hF
        refine Or.inl ?_
        refine Or.inl ?_
        refine condI hF (fun hF => ?_) (fun hF => ?_)
        · refine Or.inl ?_
          refine Or.inl ?_
          refine guardI hF (fun hF => ?_)
          refine Or.inl ?_
          obtain ⟨q10_11, hq10_11, hF⟩ := bindE hF
          refine Or.inl (And.intro f149_in (callV0 (callI C149 (kind, (rd (0 : Int) t.2 v41)) q10_11 [] false C149_holds hq10_11 rfl rfl ?_)))
          refine (And.intro rfl (And.intro rfl (And.intro (fun h => nomatch h) (And.intro rfl (And.intro rfl (And.intro trivial (And.intro trivial ?_)))))))
          refine Exists.intro (.take 0 (.take 1 (.take 2 (.take 3 (.take 4 (.take 5 (.take 6 (.take 7 (.take 8 (.alt 9 (.take 10 (.alt 11 .done .done)) .done)))))))))) (Exists.intro [] (Exists.intro [] (And.intro rfl ?_)))
          refine guardI hF (fun hF => ?_)
          refine And.intro trivial ?_
          obtain ⟨q10_9, hq10_9, hF⟩ := bindE hF
          refine Or.inl (And.intro f66_in (callV0 (callI C66 ((rd (0 : Int) g.2 v41), q10_11.1) q10_9 [] false C66_holds hq10_9 rfl rfl ?_)))
          refine (And.intro rfl (And.intro rfl (And.intro (fun h => nomatch h) (And.intro rfl (And.intro rfl (And.intro trivial (And.intro trivial ?_)))))))
          refine guardI hF (fun hF => ?_)
          refine And.intro trivial ?_
          refine Or.inl ?_
          refine Exists.intro ((IntKind.i64.wrap (v41 + (1 : Int))), (List.set l4 (Int.toNat v41) q10_9)) (And.intro hF (Exists.intro [] (Exists.intro [] (Exists.intro [] (Exists.intro [] (Exists.intro [(0, some 0), (1, some 1), (2, some 2), (3, some 3), (4, some 4)] (And.intro rfl (And.intro rfl (And.intro rfl (And.intro rfl (And.intro rfl (And.intro (And.intro rfl (And.intro rfl (And.intro rfl trivial))) (And.intro rfl (And.intro rfl (And.intro rfl (And.intro rfl (And.intro rfl trivial)))))))))))))))))
        · have hz := someE hF
          subst hz
          refine Exists.intro [] (Exists.intro [] (Exists.intro [] (Exists.intro [] (Exists.intro [(0, some 1), (1, some 2), (2, some 3), (3, some 4)] (And.intro rfl (And.intro (And.intro rfl (And.intro rfl trivial)) (And.intro rfl (And.intro rfl (And.intro rfl (And.intro rfl trivial))))))))))
      · refine And.intro ?_ trivial
        refine Or.inl ?_
        refine Or.inl ?_
        have hy := someE hF
        subst hy
        refine And.intro rfl (Exists.intro [] (Exists.intro [] (Exists.intro [] (Exists.intro [] (Exists.intro [(0, some 2), (1, some 3)] (And.intro rfl (And.intro rfl (And.intro (And.intro rfl trivial) (And.intro rfl (And.intro rfl trivial))))))))))
    · dsimp only [sumF] at hF
      refine And.intro ?_ trivial
      have hy := someE hF
      subst hy
      refine And.intro rfl (Exists.intro [] (Exists.intro [] (Exists.intro [] (Exists.intro [] (Exists.intro [(0, none), (1, none)] (And.intro rfl (And.intro rfl (And.intro (And.intro rfl trivial) (And.intro rfl (And.intro rfl trivial))))))))))
theorem C115_holds : C115.Holds Tryz.prog 115 := holds_of_vc tab_ok mixed (fn := Tryz.f115) (by kernel_rfl) rfl C115 (fun x y hF => C115_vc x.1 x.2.1 x.2.2 y hF)
theorem f115_in : ∃ fn, Tryz.prog.funcs[115]? = some fn ∧ fn.body.isSome = true ∧ (fn.name == "runtime.NumGoroutine") = false := ⟨Tryz.f115, by kernel_rfl, by kernel_rfl, by kernel_rfl⟩
end Go.Proofs
namespace Go.Proofs
open Go.AM
-- carousel/conv.sized
def f151 (n : Int) : Option Bool :=
  bif (decide (n ≥ (1 : Int))) then
    some (decide (n ≤ (4096 : Int)))
  else
    some false
def C151 : Con where
  X := Int
  Y := Bool
  e := 0
  args x := [.dat (.int .i64) x]
  hin x := []
  F x := f151 x
  ret y := [.dat .bool y]
  hout y := []
  nout := 0
theorem C151_vc (n : Int) (y : Bool) (hF : f151 n = some y) : vc Tryz.prog tab Tryz.f151.ntmps 0 (match Tryz.f151.body with | some c => c | none => .skip) (retK tab C151 Tryz.f151.results.toList y) (C151.shIn n).st := by
  unfold f151 at hF
  refine Or.inl ?_
  refine Or.inl ?_
  refine condI hF (fun hF => ?_) (fun hF => ?_)
  · refine gdYT ?_
    refine condT ?_
    have hy := someE hF
    subst hy
    refine And.intro rfl (Exists.intro [] (Exists.intro [] (Exists.intro [] (Exists.intro [] (Exists.intro [] (And.intro rfl (And.intro rfl (And.intro trivial trivial))))))))
  · refine gdNT ?_
    refine condF ?_
    have hy := someE hF
    subst hy
    refine And.intro rfl (Exists.intro [] (Exists.intro [] (Exists.intro [] (Exists.intro [] (Exists.intro [] (And.intro rfl (And.intro rfl (And.intro trivial trivial))))))))
theorem C151_holds : C151.Holds Tryz.prog 151 := holds_of_vc tab_ok mixed (fn := Tryz.f151) (by kernel_rfl) rfl C151 (fun x y hF => C151_vc x y hF)
theorem f151_in : ∃ fn, Tryz.prog.funcs[151]? = some fn ∧ fn.body.isSome = true ∧ (fn.name == "runtime.NumGoroutine") = false := ⟨Tryz.f151, by kernel_rfl, by kernel_rfl, by kernel_rfl⟩
end Go.Proofs
namespace Go.Proofs
open Go.AM
-- carousel/conv.BackIn
def f116_j4 (g : (List Int) × (List Int)) (k : (List Int) × (List Int)) (step : Int) (long : Int) : Option Bool :=
  bindF (f86 (g.1, g.2)) fun r15 =>
  bif (!r15) then
    some true
  else
    bindF (f86 (k.1, k.2)) fun r16 =>
    bif (!r16) then
      some true
    else
      bindF (f150 step) fun r17 =>
      bif (!r17) then
        some true
      else
        bindF (f151 long) fun r18 =>
        some (!r18)
def f116_j5 (g : (List Int) × (List Int)) (k : (List Int) × (List Int)) (step : Int) (long : Int) : Option Bool :=
  bif ((List.length g.1 : Int) != (2 : Int)) then
    some true
  else
    bif ((List.length k.1 : Int) != (3 : Int)) then
      some true
    else
      guardF (0 ≤ (0 : Int) ∧ (0 : Int) < (List.length k.1 : Int)) <|
      guardF (0 ≤ (0 : Int) ∧ (0 : Int) < (List.length g.1 : Int)) <|
      bif ((rd (0 : Int) k.1 (0 : Int)) != (rd (0 : Int) g.1 (0 : Int))) then
        some true
      else
        guardF (0 ≤ (2 : Int) ∧ (2 : Int) < (List.length k.1 : Int)) <|
        guardF (0 ≤ (1 : Int) ∧ (1 : Int) < (List.length g.1 : Int)) <|
        bindF (f152 long (rd (0 : Int) k.1 (2 : Int)) step) fun q3_28 =>
        some (q3_28 != (rd (0 : Int) g.1 (1 : Int)))
def f116_j3 (g : (List Int) × (List Int)) (k : (List Int) × (List Int)) (step : Int) (long : Int) : Option (Sum Unit Int) :=
  bindF (f116_j4 g k step long) fun z14 =>
  bif z14 then
    some (Sum.inr (1 : Int))
  else
    bindF (f116_j5 g k step long) fun z19 =>
    bif z19 then
      some (Sum.inr (4 : Int))
    else
      some (Sum.inl ())
def f116_j45 (g : (List Int) × (List Int)) (step : Int) (long : Int) (v110 : Int) (v127 : Int) : Option Bool :=
  guardF (step ≠ 0) <|
  bif ((Int.tmod (IntKind.i64.wrap ((Int.tmod v110 long) - v127)) step) == (0 : Int)) then
    some (decide ((IntKind.i64.wrap (Int.tdiv (IntKind.i64.wrap ((Int.tmod v110 long) - v127)) step)) < (rd (0 : Int) g.1 (1 : Int))))
  else
    some false
def f116_l44 (g : (List Int) × (List Int)) (k : (List Int) × (List Int)) (step : Int) (long : Int) (v110 : Int) (v120 : Int) (go : (Int × Int × Int × Int) → Option (Int × Int × Int)) (v127 : Int) (c4_0_2 : Int) (c4_1_2 : Int) (c4_2_2 : Int) : Option (Int × Int × Int) :=
  bif (decide (v127 < (if (IntKind.i64.wrap ((Int.tmod v110 long) + (1 : Int))) < (rd (0 : Int) k.1 (2 : Int)) then (IntKind.i64.wrap ((Int.tmod v110 long) + (1 : Int))) else (rd (0 : Int) k.1 (2 : Int))))) then
    guardF (step ≠ 0) <|
    bindF (f116_j45 g step long v110 v127) fun z59 =>
    bif z59 then
      guardF (0 ≤ (IntKind.i64.wrap ((IntKind.i64.wrap (v120 * (rd (0 : Int) g.1 (1 : Int)))) + (IntKind.i64.wrap (Int.tdiv (IntKind.i64.wrap ((Int.tmod v110 long) - v127)) step)))) ∧ (IntKind.i64.wrap ((IntKind.i64.wrap (v120 * (rd (0 : Int) g.1 (1 : Int)))) + (IntKind.i64.wrap (Int.tdiv (IntKind.i64.wrap ((Int.tmod v110 long) - v127)) step)))) < (List.length g.2 : Int)) <|
      guardF (0 ≤ (IntKind.i64.wrap ((IntKind.i64.wrap ((IntKind.i64.wrap ((IntKind.i64.wrap (v120 * (rd (0 : Int) k.1 (1 : Int)))) + (IntKind.i64.wrap (Int.tdiv v110 long)))) * (rd (0 : Int) k.1 (2 : Int)))) + v127)) ∧ (IntKind.i64.wrap ((IntKind.i64.wrap ((IntKind.i64.wrap ((IntKind.i64.wrap (v120 * (rd (0 : Int) k.1 (1 : Int)))) + (IntKind.i64.wrap (Int.tdiv v110 long)))) * (rd (0 : Int) k.1 (2 : Int)))) + v127)) < (List.length k.2 : Int)) <|
      bindF (f154 c4_0_2 c4_1_2 c4_2_2 (rd (0 : Int) g.2 (IntKind.i64.wrap ((IntKind.i64.wrap (v120 * (rd (0 : Int) g.1 (1 : Int)))) + (IntKind.i64.wrap (Int.tdiv (IntKind.i64.wrap ((Int.tmod v110 long) - v127)) step))))) (rd (0 : Int) k.2 (IntKind.i64.wrap ((IntKind.i64.wrap ((IntKind.i64.wrap ((IntKind.i64.wrap (v120 * (rd (0 : Int) k.1 (1 : Int)))) + (IntKind.i64.wrap (Int.tdiv v110 long)))) * (rd (0 : Int) k.1 (2 : Int)))) + v127)))) fun q22_22 =>
      go ((IntKind.i64.wrap (v127 + (1 : Int))), q22_22.1, q22_22.2.1, q22_22.2.2)
    else
      go ((IntKind.i64.wrap (v127 + (1 : Int))), c4_0_2, c4_1_2, c4_2_2)
  else
    some (c4_0_2, c4_1_2, c4_2_2)
def f116_l41 (g : (List Int) × (List Int)) (k : (List Int) × (List Int)) (step : Int) (long : Int) (v110 : Int) (go : (Int × Int × Int × Int) → Option (Int × Int × Int)) (v120 : Int) (c4_0 : Int) (c4_1 : Int) (c4_2 : Int) : Option (Int × Int × Int) :=
  bif (decide (v120 < (rd (0 : Int) k.1 (0 : Int)))) then
    bindF (loopF (fun go x => f116_l44 g k step long v110 v120 go x.1 x.2.1 x.2.2.1 x.2.2.2) fuelN ((0 : Int), c4_0, c4_1, c4_2)) fun z58 =>
    go ((IntKind.i64.wrap (v120 + (1 : Int))), z58.1, z58.2.1, z58.2.2)
  else
    some (c4_0, c4_1, c4_2)
def f116_l32 (g : (List Int) × (List Int)) (k : (List Int) × (List Int)) (step : Int) (long : Int) (q5_19 : Int × (List Int) × (List Int)) (go : (Int × (List Int)) → Option (List Int)) (v110 : Int) (l5 : List Int) : Option (List Int) :=
  bif (decide (v110 < (List.length q5_19.2.2 : Int))) then
    guardF (long ≠ 0) <|
    guardF (long ≠ 0) <|
    bindF (loopF (fun go x => f116_l41 g k step long v110 go x.1 x.2.1 x.2.2.1 x.2.2.2) fuelN ((0 : Int), (0 : Int), (0 : Int), (0 : Int))) fun z55 =>
    bindF (f155 z55.1 z55.2.1 z55.2.2 (32 : Int)) fun q25_3 =>
    guardF (0 ≤ v110 ∧ v110 < (List.length l5 : Int)) <|
    go ((IntKind.i64.wrap (v110 + (1 : Int))), (List.set l5 (Int.toNat v110) q25_3.1))
  else
    some l5
def f116 (g : (List Int) × (List Int)) (k : (List Int) × (List Int)) (step : Int) (long : Int) : Option (Int × (List Int) × (List Int)) :=
  bindF (f116_j3 g k step long) fun z10 =>
  sumF z10 (fun z10a =>
    guardF (0 ≤ (0 : Int) ∧ (0 : Int) < (List.length k.1 : Int)) <|
    guardF (0 ≤ (1 : Int) ∧ (1 : Int) < (List.length k.1 : Int)) <|
    guardF (0 ≤ (2 : Int) ∧ (2 : Int) < (List.length k.1 : Int)) <|
    guardF (0 ≤ (1 : Int) ∧ (1 : Int) < (List.length g.1 : Int)) <|
    bindF (f153 ([(rd (0 : Int) k.1 (1 : Int)), long])) fun q5_19 =>
    bif (q5_19.1 != (0 : Int)) then
      some (q5_19.1, [], [])
    else
      bindF (loopF (fun go x => f116_l32 g k step long q5_19 go x.1 x.2) fuelN ((0 : Int), q5_19.2.2)) fun z46 =>
      some ((0 : Int), q5_19.2.1, z46)) (fun z10b =>
    some (z10b, [], []))
def C116 : Con where
  X := ((List Int) × (List Int)) × ((List Int) × (List Int)) × Int × Int
  Y := Int × (List Int) × (List Int)
  e := 0
  args x := [.dat (.p (.sl (.int .i64)) (.sl (.int .i64))) x.1, .dat (.p (.sl (.int .i64)) (.sl (.int .i64))) x.2.1, .dat (.int .i64) x.2.2.1, .dat (.int .i64) x.2.2.2]
  hin x := []
  F x := f116 x.1 x.2.1 x.2.2.1 x.2.2.2
  ret y := [.raw true [(.osl 0), (.osl 1)], .dat (.int .i64) y.1]
  hout y := [(0, .arr 3 (.int .i64) y.2.1), (1, .arr 23 (.int .i64) y.2.2)]
  nout := 2
theorem C116_vc (g : (List Int) × (List Int)) (k : (List Int) × (List Int)) (step : Int) (long : Int) (y : Int × (List Int) × (List Int)) (hF : f116 g k step long = some y) : vc Tryz.prog tab Tryz.f116.ntmps 0 (match Tryz.f116.body with | some c => c | none => .skip) (retK tab C116 Tryz.f116.results.toList y) (C116.shIn (g, k, step, long)).st := by
  unfold f116 at hF
  refine Or.inl ?_
  obtain ⟨z10, hz10, hF⟩ := bindE hF
  refine Or.inr ⟨Sum.elim (fun z10a => [(0, ⟨[(2, .dat (.int .i64) step), (3, .dat (.int .i64) long), (4, .raw false [(.ptr 0 0)]), (5, .raw false [(.ptr 1 0)]), (8, .raw false [(.ptr 2 0)])], [(0, .cells [(.d (.sl (.int .i64)) g.1), (.d (.sl (.int .i64)) g.2)]), (1, .cells [(.d (.sl (.int .i64)) k.1), (.d (.sl (.int .i64)) k.2)]), (2, .cells [(.c (.slice none 0 0)), (.c (.slice none 0 0))])], 3⟩)]) (fun z10b => [(1, ⟨[(8, .raw false [(.ptr 0 0)]), (9, .dat (.int .i64) z10b)], [(0, .cells [(.c (.slice none 0 0)), (.c (.slice none 0 0))])], 1⟩)]) z10, ?_, ?_⟩
  · have hF := hz10
    clear hz10
    unfold f116_j3 at hF
    obtain ⟨z14, hz14, hF⟩ := bindE hF
    refine Or.inr ⟨[(0, ⟨[(2, .dat (.int .i64) step), (3, .dat (.int .i64) long), (4, .raw false [(.ptr 0 0)]), (5, .raw false [(.ptr 1 0)]), (8, .raw false [(.ptr 2 0)]), (23, .dat .bool z14)], [(0, .cells [(.d (.sl (.int .i64)) g.1), (.d (.sl (.int .i64)) g.2)]), (1, .cells [(.d (.sl (.int .i64)) k.1), (.d (.sl (.int .i64)) k.2)]), (2, .cells [(.c (.slice none 0 0)), (.c (.slice none 0 0))])], 3⟩)], ?_, ?_⟩
    · have hF := hz14
      clear hz14
      unfold f116_j4 at hF
      obtain ⟨r15, hr15, hF⟩ := bindE hF
      refine Or.inl (And.intro f86_in (callV0 (callI C86 (g.1, g.2) r15 [] false C86_holds hr15 rfl rfl ?_)))
      refine (And.intro rfl (And.intro rfl (And.intro (fun h => nomatch h) (And.intro rfl (And.intro rfl (And.intro trivial (And.intro trivial ?_)))))))
      refine condN hF (fun hF => ?_) (fun hF => ?_)
      · refine gdYF ?_
        obtain ⟨r16, hr16, hF⟩ := bindE hF
        refine Or.inl (And.intro f86_in (callV0 (callI C86 (k.1, k.2) r16 [] false C86_holds hr16 rfl rfl ?_)))
        refine (And.intro rfl (And.intro rfl (And.intro (fun h => nomatch h) (And.intro rfl (And.intro rfl (And.intro trivial (And.intro trivial ?_)))))))
        refine gdYF ?_
        refine condF ?_
        refine condN hF (fun hF => ?_) (fun hF => ?_)
        · refine gdYF ?_
          obtain ⟨r17, hr17, hF⟩ := bindE hF
          refine Or.inl (And.intro f150_in (callV0 (callI C150 step r17 [] false C150_holds hr17 rfl rfl ?_)))
          refine (And.intro rfl (And.intro (fun h => nomatch h) (And.intro rfl (And.intro rfl (And.intro trivial (And.intro trivial ?_))))))
          refine gdYF ?_
          refine condF ?_
          refine condN hF (fun hF => ?_) (fun hF => ?_)
          · refine gdYF ?_
            obtain ⟨r18, hr18, hF⟩ := bindE hF
            refine Or.inl (And.intro f151_in (callV0 (callI C151 long r18 [] false C151_holds hr18 rfl rfl ?_)))
            refine (And.intro rfl (And.intro (fun h => nomatch h) (And.intro rfl (And.intro rfl (And.intro trivial (And.intro trivial ?_))))))
            refine gdYF ?_
            refine condF ?_
            have hz := someE hF
            subst hz
            refine Exists.intro [] (Exists.intro [] (Exists.intro [] (Exists.intro [] (Exists.intro [(0, some 0), (1, some 1), (2, some 2)] (And.intro rfl (And.intro rfl (And.intro rfl (And.intro rfl (And.intro (And.intro rfl (And.intro rfl (And.intro rfl trivial))) (And.intro rfl (And.intro rfl (And.intro rfl trivial))))))))))))
          · refine gdNF ?_
            refine gdNF ?_
            refine condT ?_
            have hz := someE hF
            subst hz
            refine Exists.intro [] (Exists.intro [] (Exists.intro [] (Exists.intro [] (Exists.intro [(0, some 0), (1, some 1), (2, some 2)] (And.intro rfl (And.intro rfl (And.intro rfl (And.intro rfl (And.intro (And.intro rfl (And.intro rfl (And.intro rfl trivial))) (And.intro rfl (And.intro rfl (And.intro rfl trivial))))))))))))
        · refine gdNF ?_
          refine gdNF ?_
          refine condT ?_
          refine gdNF ?_
          refine gdNF ?_
          refine gdNF ?_
          refine condT ?_
          have hz := someE hF
          subst hz
          refine Exists.intro [] (Exists.intro [] (Exists.intro [] (Exists.intro [] (Exists.intro [(0, some 0), (1, some 1), (2, some 2)] (And.intro rfl (And.intro rfl (And.intro rfl (And.intro rfl (And.intro (And.intro rfl (And.intro rfl (And.intro rfl trivial))) (And.intro rfl (And.intro rfl (And.intro rfl trivial))))))))))))
      · refine gdNF ?_
        refine gdNF ?_
        refine condT ?_
        refine gdNF ?_
        refine gdNF ?_
        refine gdNF ?_
        refine condT ?_
        refine gdNF ?_
        refine gdNF ?_
        refine gdNF ?_
        refine condT ?_
        have hz := someE hF
        subst hz
        refine Exists.intro [] (Exists.intro [] (Exists.intro [] (Exists.intro [] (Exists.intro [(0, some 0), (1, some 1), (2, some 2)] (And.intro rfl (And.intro rfl (And.intro rfl (And.intro rfl (And.intro (And.intro rfl (And.intro rfl (And.intro rfl trivial))) (And.intro rfl (And.intro rfl (And.intro rfl trivial))))))))))))
    · refine And.intro ?_ trivial
      refine condI hF (fun hF => ?_) (fun hF => ?_)
      · refine Or.inl ?_
        refine Or.inl ?_
        have hz := someE hF
        subst hz
        refine Exists.intro [] (Exists.intro [] (Exists.intro [] (Exists.intro [] (Exists.intro [(0, some 2)] (And.intro rfl (And.intro rfl (And.intro (And.intro rfl trivial) (And.intro rfl trivial))))))))
      · obtain ⟨z19, hz19, hF⟩ := bindE hF
        refine Or.inr ⟨[(0, ⟨[(2, .dat (.int .i64) step), (3, .dat (.int .i64) long), (4, .raw false [(.ptr 0 0)]), (5, .raw false [(.ptr 1 0)]), (8, .raw false [(.ptr 2 0)]), (43, .dat .bool z19)], [(0, .cells [(.d (.sl (.int .i64)) g.1), (.d (.sl (.int .i64)) g.2)]), (1, .cells [(.d (.sl (.int .i64)) k.1), (.d (.sl (.int .i64)) k.2)]), (2, .cells [(.c (.slice none 0 0)), (.c (.slice none 0 0))])], 3⟩)], ?_, ?_⟩
        · have hF := hz19
          clear hz19
          unfold f116_j5 at hF
          refine Exists.intro (.take 0 (.take 1 (.take 2 (.take 3 (.take 4 (.take 5 (.take 6 (.take 7 (.take 8 (.take 9 (.take 10 (.take 11 (.take 12 (.take 13 (.take 14 (.take 15 (.take 16 (.take 17 (.take 18 (.take 19 (.take 20 (.take 21 (.take 22 (.take 23 (.take 24 (.take 25 (.take 26 (.take 27 (.take 29 (.take 30 (.take 31 (.take 32 (.alt 28 (.take 33 (.take 34 (.take 35 .done))) .done))))))))))))))))))))))))))))))))) (Exists.intro [] (Exists.intro [] (And.intro rfl ?_)))
          refine condN hF (fun hF => ?_) (fun hF => ?_)
          · refine gdYF ?_
            refine gdYF ?_
            refine gdYF ?_
            refine condF ?_
            refine condN hF (fun hF => ?_) (fun hF => ?_)
            · refine gdYF ?_
              refine gdYF ?_
              refine guardI hF (fun hF => ?_)
              refine gdYF ?_
              refine gdYF ?_
              refine gdYF ?_
              refine gdYF ?_
              refine guardI hF (fun hF => ?_)
              refine gdYF ?_
              refine gdYF ?_
              refine condF ?_
              refine condN hF (fun hF => ?_) (fun hF => ?_)
              · refine gdYF ?_
                refine gdYF ?_
                refine gdYF ?_
                refine guardI hF (fun hF => ?_)
                refine gdYF ?_
                refine gdYF ?_
                refine gdYF ?_
                refine gdYF ?_
                refine gdYF ?_
                refine guardI hF (fun hF => ?_)
                refine gdYF ?_
                refine And.intro trivial ?_
                refine gdYF ?_
                obtain ⟨q3_28, hq3_28, hF⟩ := bindE hF
                refine Or.inl (And.intro f152_in (callV0 (callI C152 (long, (rd (0 : Int) k.1 (2 : Int)), step) q3_28 [] false C152_holds hq3_28 rfl rfl ?_)))
                refine (And.intro rfl (And.intro rfl (And.intro rfl (And.intro (fun h => nomatch h) (And.intro rfl (And.intro rfl (And.intro trivial (And.intro trivial ?_))))))))
                refine gdYF ?_
                refine condF ?_
                have hz := someE hF
                subst hz
                refine Exists.intro [] (Exists.intro [] (Exists.intro [] (Exists.intro [] (Exists.intro [(0, some 0), (1, some 1), (2, some 2)] (And.intro rfl (And.intro rfl (And.intro rfl (And.intro rfl (And.intro (And.intro rfl (And.intro rfl (And.intro rfl trivial))) (And.intro rfl (And.intro rfl (And.intro rfl trivial))))))))))))
              · refine gdNF ?_
                refine gdNF ?_
                refine gdNF ?_
                refine gdNF ?_
                refine gdNF ?_
                refine gdNF ?_
                refine gdNF ?_
                refine gdNF ?_
                refine gdNF ?_
                refine And.intro trivial ?_
                refine gdNF ?_
                refine gdNF ?_
                refine condT ?_
                have hz := someE hF
                subst hz
                refine Exists.intro [] (Exists.intro [] (Exists.intro [] (Exists.intro [] (Exists.intro [(0, some 0), (1, some 1), (2, some 2)] (And.intro rfl (And.intro rfl (And.intro rfl (And.intro rfl (And.intro (And.intro rfl (And.intro rfl (And.intro rfl trivial))) (And.intro rfl (And.intro rfl (And.intro rfl trivial))))))))))))
            · refine gdNF ?_
              refine gdNF ?_
              refine gdNF ?_
              refine gdNF ?_
              refine gdNF ?_
              refine gdNF ?_
              refine gdNF ?_
              refine gdNF ?_
              refine condT ?_
              refine gdNF ?_
              refine gdNF ?_
              refine gdNF ?_
              refine gdNF ?_
              refine gdNF ?_
              refine gdNF ?_
              refine gdNF ?_
              refine gdNF ?_
              refine gdNF ?_
              refine gdNF ?_
              refine And.intro trivial ?_
              refine gdNF ?_
              refine gdNF ?_
              refine condT ?_
              have hz := someE hF
              subst hz
              refine Exists.intro [] (Exists.intro [] (Exists.intro [] (Exists.intro [] (Exists.intro [(0, some 0), (1, some 1), (2, some 2)] (And.intro rfl (And.intro rfl (And.intro rfl (And.intro rfl (And.intro (And.intro rfl (And.intro rfl (And.intro rfl trivial))) (And.intro rfl (And.intro rfl (And.intro rfl trivial))))))))))))
          · refine gdNF ?_
            refine gdNF ?_
            refine gdNF ?_
            refine condT ?_
            refine gdNF ?_
            refine gdNF ?_
            refine gdNF ?_
            refine gdNF ?_
            refine gdNF ?_
            refine gdNF ?_
            refine gdNF ?_
            refine gdNF ?_
            refine gdNF ?_
            refine condT ?_
            refine gdNF ?_
            refine gdNF ?_
            refine gdNF ?_
            refine gdNF ?_
            refine gdNF ?_
            refine gdNF ?_
            refine gdNF ?_
            refine gdNF ?_
            refine gdNF ?_
            refine gdNF ?_
            refine And.intro trivial ?_
            refine gdNF ?_
            refine gdNF ?_
            refine condT ?_
            have hz := someE hF
            subst hz
            refine Exists.intro [] (Exists.intro [] (Exists.intro [] (Exists.intro [] (Exists.intro [(0, some 0), (1, some 1), (2, some 2)] (And.intro rfl (And.intro rfl (And.intro rfl (And.intro rfl (And.intro (And.intro rfl (And.intro rfl (And.intro rfl trivial))) (And.intro rfl (And.intro rfl (And.intro rfl trivial))))))))))))
        · refine And.intro ?_ trivial
          refine condI hF (fun hF => ?_) (fun hF => ?_)
          · refine Or.inl ?_
            refine Or.inl ?_
            have hz := someE hF
            subst hz
            refine Exists.intro [] (Exists.intro [] (Exists.intro [] (Exists.intro [] (Exists.intro [(0, some 2)] (And.intro rfl (And.intro rfl (And.intro (And.intro rfl trivial) (And.intro rfl trivial))))))))
          · have hz := someE hF
            subst hz
            refine Exists.intro [] (Exists.intro [] (Exists.intro [] (Exists.intro [] (Exists.intro [(0, some 0), (1, some 1), (2, some 2)] (And.intro rfl (And.intro rfl (And.intro rfl (And.intro (And.intro rfl (And.intro rfl (And.intro rfl trivial))) (And.intro rfl (And.intro rfl (And.intro rfl trivial)))))))))))
  · rcases z10 with z10a | z10b
    · dsimp only [sumF] at hF
      refine And.intro ?_ trivial
      refine Or.inl ?_
      refine Exists.intro (.take 0 (.take 1 (.take 2 (.take 3 (.take 4 (.take 5 (.take 6 (.take 7 (.take 8 (.take 9 (.take 10 (.take 11 (.take 12 (.take 13 (.take 14 (.take 15 (.take 16 (.take 17 (.take 18 (.take 19 .done)))))))))))))))))))) (Exists.intro [] (Exists.intro [] (And.intro rfl ?_)))
      refine guardI hF (fun hF => ?_)
      refine guardI hF (fun hF => ?_)
      refine guardI hF (fun hF => ?_)
      refine guardI hF (fun hF => ?_)
      refine Or.inl ?_
      refine Or.inl ?_
      obtain ⟨q5_19, hq5_19, hF⟩ := bindE hF
      refine Or.inl (And.intro f153_in (callV0 (callI C153 [(rd (0 : Int) k.1 (1 : Int)), long] q5_19 [] true C153_holds hq5_19 rfl rfl ?_)))
      refine (And.intro rfl (And.intro (fun _ => rfl) (And.intro rfl (And.intro rfl (And.intro trivial (And.intro trivial ?_))))))
      refine Or.inl ?_
      refine Or.inl ?_
      refine Or.inl ?_
      refine condI hF (fun hF => ?_) (fun hF => ?_)
      · refine Or.inl ?_
        refine Or.inl ?_
        have hy := someE hF
        subst hy
        refine And.intro rfl (Exists.intro [] (Exists.intro [] (Exists.intro [] (Exists.intro [] (Exists.intro [(0, none), (1, none)] (And.intro rfl (And.intro rfl (And.intro (And.intro rfl trivial) (And.intro rfl (And.intro rfl trivial))))))))))
      · refine Or.inl ?_
        refine Or.inl ?_
        obtain ⟨z46, hz46, hF⟩ := bindE hF
        refine loopI (Int × (List Int)) (List Int) (fun x => ⟨[(2, .dat (.int .i64) step), (3, .dat (.int .i64) long), (4, .raw false [(.ptr 0 0)]), (5, .raw false [(.ptr 1 0)]), (8, .raw false [(.ptr 2 0)]), (10, .dat (.int .i64) (rd (0 : Int) k.1 (0 : Int))), (11, .dat (.int .i64) (rd (0 : Int) k.1 (1 : Int))), (12, .dat (.int .i64) (rd (0 : Int) k.1 (2 : Int))), (13, .dat (.int .i64) (rd (0 : Int) g.1 (1 : Int))), (14, .raw false [(.ptr 3 0)]), (109, .dat (.int .i64) (List.length q5_19.2.2 : Int)), (110, .dat (.int .i64) x.1)], [(0, .cells [(.d (.sl (.int .i64)) g.1), (.d (.sl (.int .i64)) g.2)]), (1, .cells [(.d (.sl (.int .i64)) k.1), (.d (.sl (.int .i64)) k.2)]), (2, .cells [(.c (.slice none 0 0)), (.c (.slice none 0 0))]), (3, .cells [(.osl 4), (.osl 5)]), (4, .arr 3 (.int .i64) q5_19.2.1), (5, .arr 23 (.int .i64) x.2)], 6⟩) (fun z => [(3, ⟨[(8, .raw false [(.ptr 0 0)]), (14, .raw false [(.ptr 1 0)])], [(0, .cells [(.c (.slice none 0 0)), (.c (.slice none 0 0))]), (1, .cells [(.osl 2), (.osl 3)]), (2, .arr 3 (.int .i64) q5_19.2.1), (3, .arr 23 (.int .i64) z)], 4⟩)]) (loopF (fun go x => f116_l32 g k step long q5_19 go x.1 x.2)) fuelN ((0 : Int), q5_19.2.2) z46 (And.intro hz46 (And.intro (Exists.intro [] (Exists.intro [] (Exists.intro [] (Exists.intro [] (Exists.intro [(0, some 0), (1, some 1), (2, some 2), (3, some 6), (4, some 4), (5, some 5)] (And.intro rfl (And.intro rfl (And.intro rfl (And.intro rfl (And.intro rfl (And.intro rfl (And.intro rfl (And.intro rfl (And.intro rfl (And.intro (And.intro rfl (And.intro rfl (And.intro rfl (And.intro rfl trivial)))) (And.intro rfl (And.intro rfl (And.intro rfl (And.intro rfl (And.intro rfl (And.intro rfl trivial))))))))))))))))))))) (And.intro (fun _ _ h => loopZ h) (And.intro (fun m => curI (fun v110 => fun l5 z hF => ?_)) ?_))))
        · have hF : f116_l32 g k step long q5_19 (loopF (fun go x => f116_l32 g k step long q5_19 go x.1 x.2) m) v110 l5 = some z := hF
          unfold f116_l32 at hF
          refine Or.inl ?_
          refine Or.inl ?_
          refine condI hF (fun hF => ?_) (fun hF => ?_)
          · refine Or.inl ?_
            refine Or.inl ?_
            refine Or.inl ?_
            refine Exists.intro (.take 0 (.take 1 (.take 2 (.take 3 (.take 4 (.take 5 (.take 6 (.take 7 .done)))))))) (Exists.intro [] (Exists.intro [] (And.intro rfl ?_)))
            refine guardI hF (fun hF => ?_)
            refine guardI hF (fun hF => ?_)
            refine Or.inl ?_
            refine Or.inl ?_
            refine Or.inl ?_
            obtain ⟨z55, hz55, hF⟩ := bindE hF
            refine loopI (Int × Int × Int × Int) (Int × Int × Int) (fun x => ⟨[(2, .dat (.int .i64) step), (3, .dat (.int .i64) long), (4, .raw false [(.ptr 0 0)]), (5, .raw false [(.ptr 1 0)]), (8, .raw false [(.ptr 2 0)]), (10, .dat (.int .i64) (rd (0 : Int) k.1 (0 : Int))), (11, .dat (.int .i64) (rd (0 : Int) k.1 (1 : Int))), (12, .dat (.int .i64) (rd (0 : Int) k.1 (2 : Int))), (13, .dat (.int .i64) (rd (0 : Int) g.1 (1 : Int))), (14, .raw false [(.ptr 3 0)]), (16, .dat (.int .i64) v110), (17, .dat (.int .i64) (IntKind.i64.wrap (Int.tdiv v110 long))), (18, .dat (.int .i64) (Int.tmod v110 long)), (19, .raw false [(.ptr 4 0)]), (109, .dat (.int .i64) (List.length q5_19.2.2 : Int)), (110, .dat (.int .i64) v110), (119, .dat (.int .i64) (rd (0 : Int) k.1 (0 : Int))), (120, .dat (.int .i64) x.1)], [(0, .cells [(.d (.sl (.int .i64)) g.1), (.d (.sl (.int .i64)) g.2)]), (1, .cells [(.d (.sl (.int .i64)) k.1), (.d (.sl (.int .i64)) k.2)]), (2, .cells [(.c (.slice none 0 0)), (.c (.slice none 0 0))]), (3, .cells [(.osl 5), (.osl 6)]), (4, .cells [(.d (.int .i64) x.2.1), (.d (.int .i64) x.2.2.1), (.d (.int .u64) x.2.2.2)]), (5, .arr 3 (.int .i64) q5_19.2.1), (6, .arr 23 (.int .i64) l5)], 7⟩) (fun z => [(5, ⟨[(2, .dat (.int .i64) step), (3, .dat (.int .i64) long), (4, .raw false [(.ptr 0 0)]), (5, .raw false [(.ptr 1 0)]), (8, .raw false [(.ptr 2 0)]), (10, .dat (.int .i64) (rd (0 : Int) k.1 (0 : Int))), (11, .dat (.int .i64) (rd (0 : Int) k.1 (1 : Int))), (12, .dat (.int .i64) (rd (0 : Int) k.1 (2 : Int))), (13, .dat (.int .i64) (rd (0 : Int) g.1 (1 : Int))), (14, .raw false [(.ptr 3 0)]), (16, .dat (.int .i64) v110), (19, .raw false [(.ptr 4 0)]), (109, .dat (.int .i64) (List.length q5_19.2.2 : Int)), (110, .dat (.int .i64) v110)], [(0, .cells [(.d (.sl (.int .i64)) g.1), (.d (.sl (.int .i64)) g.2)]), (1, .cells [(.d (.sl (.int .i64)) k.1), (.d (.sl (.int .i64)) k.2)]), (2, .cells [(.c (.slice none 0 0)), (.c (.slice none 0 0))]), (3, .cells [(.osl 5), (.osl 6)]), (4, .cells [(.d (.int .i64) z.1), (.d (.int .i64) z.2.1), (.d (.int .u64) z.2.2)]), (5, .arr 3 (.int .i64) q5_19.2.1), (6, .arr 23 (.int .i64) l5)], 7⟩)]) (loopF (fun go x => f116_l41 g k step long v110 go x.1 x.2.1 x.2.2.1 x.2.2.2)) fuelN ((0 : Int), (0 : Int), (0 : Int), (0 : Int)) z55 (And.intro hz55 (And.intro (Exists.intro [] (Exists.intro [] (Exists.intro [] (Exists.intro [] (Exists.intro [(0, some 0), (1, some 1), (2, some 2), (3, some 3), (4, some 6), (5, some 4), (6, some 5)] (And.intro rfl (And.intro rfl (And.intro rfl (And.intro rfl (And.intro rfl (And.intro rfl (And.intro rfl (And.intro rfl (And.intro rfl (And.intro rfl (And.intro rfl (And.intro rfl (And.intro rfl (And.intro rfl (And.intro (And.intro rfl (And.intro rfl (And.intro rfl (And.intro rfl (And.intro rfl trivial))))) (And.intro rfl (And.intro rfl (And.intro rfl (And.intro rfl (And.intro rfl (And.intro rfl (And.intro rfl trivial))))))))))))))))))))))))))) (And.intro (fun _ _ h => loopZ h) (And.intro (fun m => curI (fun v120 => curI (fun c4_0 => curI (fun c4_1 => fun c4_2 z hF => ?_)))) ?_))))
            · have hF : f116_l41 g k step long v110 (loopF (fun go x => f116_l41 g k step long v110 go x.1 x.2.1 x.2.2.1 x.2.2.2) m) v120 c4_0 c4_1 c4_2 = some z := hF
              unfold f116_l41 at hF
              refine Or.inl ?_
              refine Or.inl ?_
              refine condI hF (fun hF => ?_) (fun hF => ?_)
              · refine Or.inl ?_
                refine Or.inl ?_
                refine Or.inl ?_
                obtain ⟨z58, hz58, hF⟩ := bindE hF
                refine loopI (Int × Int × Int × Int) (Int × Int × Int) (fun x => ⟨[(2, .dat (.int .i64) step), (3, .dat (.int .i64) long), (4, .raw false [(.ptr 0 0)]), (5, .raw false [(.ptr 1 0)]), (8, .raw false [(.ptr 2 0)]), (10, .dat (.int .i64) (rd (0 : Int) k.1 (0 : Int))), (11, .dat (.int .i64) (rd (0 : Int) k.1 (1 : Int))), (12, .dat (.int .i64) (rd (0 : Int) k.1 (2 : Int))), (13, .dat (.int .i64) (rd (0 : Int) g.1 (1 : Int))), (14, .raw false [(.ptr 3 0)]), (16, .dat (.int .i64) v110), (17, .dat (.int .i64) (IntKind.i64.wrap (Int.tdiv v110 long))), (18, .dat (.int .i64) (Int.tmod v110 long)), (19, .raw false [(.ptr 4 0)]), (20, .dat (.int .i64) v120), (109, .dat (.int .i64) (List.length q5_19.2.2 : Int)), (110, .dat (.int .i64) v110), (119, .dat (.int .i64) (rd (0 : Int) k.1 (0 : Int))), (120, .dat (.int .i64) v120), (126, .dat (.int .i64) (if (IntKind.i64.wrap ((Int.tmod v110 long) + (1 : Int))) < (rd (0 : Int) k.1 (2 : Int)) then (IntKind.i64.wrap ((Int.tmod v110 long) + (1 : Int))) else (rd (0 : Int) k.1 (2 : Int)))), (127, .dat (.int .i64) x.1)], [(0, .cells [(.d (.sl (.int .i64)) g.1), (.d (.sl (.int .i64)) g.2)]), (1, .cells [(.d (.sl (.int .i64)) k.1), (.d (.sl (.int .i64)) k.2)]), (2, .cells [(.c (.slice none 0 0)), (.c (.slice none 0 0))]), (3, .cells [(.osl 5), (.osl 6)]), (4, .cells [(.d (.int .i64) x.2.1), (.d (.int .i64) x.2.2.1), (.d (.int .u64) x.2.2.2)]), (5, .arr 3 (.int .i64) q5_19.2.1), (6, .arr 23 (.int .i64) l5)], 7⟩) (fun z => [(7, ⟨[(2, .dat (.int .i64) step), (3, .dat (.int .i64) long), (4, .raw false [(.ptr 0 0)]), (5, .raw false [(.ptr 1 0)]), (8, .raw false [(.ptr 2 0)]), (10, .dat (.int .i64) (rd (0 : Int) k.1 (0 : Int))), (11, .dat (.int .i64) (rd (0 : Int) k.1 (1 : Int))), (12, .dat (.int .i64) (rd (0 : Int) k.1 (2 : Int))), (13, .dat (.int .i64) (rd (0 : Int) g.1 (1 : Int))), (14, .raw false [(.ptr 3 0)]), (16, .dat (.int .i64) v110), (17, .dat (.int .i64) (IntKind.i64.wrap (Int.tdiv v110 long))), (18, .dat (.int .i64) (Int.tmod v110 long)), (19, .raw false [(.ptr 4 0)]), (109, .dat (.int .i64) (List.length q5_19.2.2 : Int)), (110, .dat (.int .i64) v110), (119, .dat (.int .i64) (rd (0 : Int) k.1 (0 : Int))), (120, .dat (.int .i64) v120)], [(0, .cells [(.d (.sl (.int .i64)) g.1), (.d (.sl (.int .i64)) g.2)]), (1, .cells [(.d (.sl (.int .i64)) k.1), (.d (.sl (.int .i64)) k.2)]), (2, .cells [(.c (.slice none 0 0)), (.c (.slice none 0 0))]), (3, .cells [(.osl 5), (.osl 6)]), (4, .cells [(.d (.int .i64) z.1), (.d (.int .i64) z.2.1), (.d (.int .u64) z.2.2)]), (5, .arr 3 (.int .i64) q5_19.2.1), (6, .arr 23 (.int .i64) l5)], 7⟩)]) (loopF (fun go x => f116_l44 g k step long v110 v120 go x.1 x.2.1 x.2.2.1 x.2.2.2)) fuelN ((0 : Int), c4_0, c4_1, c4_2) z58 (And.intro hz58 (And.intro (Exists.intro [] (Exists.intro [] (Exists.intro [] (Exists.intro [] (Exists.intro [(0, some 0), (1, some 1), (2, some 2), (3, some 3), (4, some 4), (5, some 5), (6, some 6)] (And.intro rfl (And.intro rfl (And.intro rfl (And.intro rfl (And.intro rfl (And.intro rfl (And.intro rfl (And.intro rfl (And.intro rfl (And.intro rfl (And.intro rfl (And.intro rfl (And.intro rfl (And.intro rfl (And.intro rfl (And.intro rfl (And.intro rfl (And.intro (And.intro rfl (And.intro rfl (And.intro rfl (And.intro rfl (And.intro rfl trivial))))) (And.intro rfl (And.intro rfl (And.intro rfl (And.intro rfl (And.intro rfl (And.intro rfl (And.intro rfl trivial)))))))))))))))))))))))))))))) (And.intro (fun _ _ h => loopZ h) (And.intro (fun m => curI (fun v127 => curI (fun c4_0_2 => curI (fun c4_1_2 => fun c4_2_2 z hF => ?_)))) ?_))))
                · have hF : f116_l44 g k step long v110 v120 (loopF (fun go x => f116_l44 g k step long v110 v120 go x.1 x.2.1 x.2.2.1 x.2.2.2) m) v127 c4_0_2 c4_1_2 c4_2_2 = some z := hF
                  unfold f116_l44 at hF
                  refine Or.inl ?_
                  refine Or.inl ?_
                  refine condI hF (fun hF => ?_) (fun hF => ?_)
                  · refine Or.inl ?_
                    refine Or.inl ?_
                    refine Or.inl ?_
                    refine guardI hF (fun hF => ?_)
                    obtain ⟨z59, hz59, hF⟩ := bindE hF
                    refine Or.inr ⟨[(0, ⟨[(2, .dat (.int .i64) step), (3, .dat (.int .i64) long), (4, .raw false [(.ptr 0 0)]), (5, .raw false [(.ptr 1 0)]), (8, .raw false [(.ptr 2 0)]), (10, .dat (.int .i64) (rd (0 : Int) k.1 (0 : Int))), (11, .dat (.int .i64) (rd (0 : Int) k.1 (1 : Int))), (12, .dat (.int .i64) (rd (0 : Int) k.1 (2 : Int))), (13, .dat (.int .i64) (rd (0 : Int) g.1 (1 : Int))), (14, .raw false [(.ptr 3 0)]), (16, .dat (.int .i64) v110), (17, .dat (.int .i64) (IntKind.i64.wrap (Int.tdiv v110 long))), (18, .dat (.int .i64) (Int.tmod v110 long)), (19, .raw false [(.ptr 4 0)]), (20, .dat (.int .i64) v120), (21, .dat (.int .i64) v127), (22, .dat (.int .i64) (IntKind.i64.wrap (Int.tdiv (IntKind.i64.wrap ((Int.tmod v110 long) - v127)) step))), (109, .dat (.int .i64) (List.length q5_19.2.2 : Int)), (110, .dat (.int .i64) v110), (119, .dat (.int .i64) (rd (0 : Int) k.1 (0 : Int))), (120, .dat (.int .i64) v120), (126, .dat (.int .i64) (if (IntKind.i64.wrap ((Int.tmod v110 long) + (1 : Int))) < (rd (0 : Int) k.1 (2 : Int)) then (IntKind.i64.wrap ((Int.tmod v110 long) + (1 : Int))) else (rd (0 : Int) k.1 (2 : Int)))), (127, .dat (.int .i64) v127), (145, .dat .bool z59)], [(0, .cells [(.d (.sl (.int .i64)) g.1), (.d (.sl (.int .i64)) g.2)]), (1, .cells [(.d (.sl (.int .i64)) k.1), (.d (.sl (.int .i64)) k.2)]), (2, .cells [(.c (.slice none 0 0)), (.c (.slice none 0 0))]), (3, .cells [(.osl 5), (.osl 6)]), (4, .cells [(.d (.int .i64) c4_0_2), (.d (.int .i64) c4_1_2), (.d (.int .u64) c4_2_2)]), (5, .arr 3 (.int .i64) q5_19.2.1), (6, .arr 23 (.int .i64) l5)], 7⟩)], ?_, ?_⟩
                    · have hF := hz59
                      clear hz59
                      unfold f116_j45 at hF
                      refine guardI hF (fun hF => ?_)
                      refine condI hF (fun hF => ?_) (fun hF => ?_)
                      · refine gdYT ?_
                        refine gdYT ?_
                        refine condT ?_
                        have hz := someE hF
                        subst hz
                        refine Exists.intro [] (Exists.intro [] (Exists.intro [] (Exists.intro [] (Exists.intro [(0, some 0), (1, some 1), (2, some 2), (3, some 3), (4, some 4), (5, some 5), (6, some 6)] (And.intro rfl (And.intro rfl (And.intro rfl (And.intro rfl (And.intro rfl (And.intro rfl (And.intro rfl (And.intro rfl (And.intro rfl (And.intro rfl (And.intro rfl (And.intro rfl (And.intro rfl (And.intro rfl (And.intro rfl (And.intro rfl (And.intro rfl (And.intro rfl (And.intro rfl (And.intro rfl (And.intro (And.intro rfl (And.intro rfl (And.intro rfl (And.intro rfl (And.intro rfl trivial))))) (And.intro rfl (And.intro rfl (And.intro rfl (And.intro rfl (And.intro rfl (And.intro rfl (And.intro rfl trivial))))))))))))))))))))))))))))))))
                      · refine gdNT ?_
                        refine gdNT ?_
                        refine condF ?_
                        have hz := someE hF
                        subst hz
                        refine Exists.intro [] (Exists.intro [] (Exists.intro [] (Exists.intro [] (Exists.intro [(0, some 0), (1, some 1), (2, some 2), (3, some 3), (4, some 4), (5, some 5), (6, some 6)] (And.intro rfl (And.intro rfl (And.intro rfl (And.intro rfl (And.intro rfl (And.intro rfl (And.intro rfl (And.intro rfl (And.intro rfl (And.intro rfl (And.intro rfl (And.intro rfl (And.intro rfl (And.intro rfl (And.intro rfl (And.intro rfl (And.intro rfl (And.intro rfl (And.intro rfl (And.intro rfl (And.intro (And.intro rfl (And.intro rfl (And.intro rfl (And.intro rfl (And.intro rfl trivial))))) (And.intro rfl (And.intro rfl (And.intro rfl (And.intro rfl (And.intro rfl (And.intro rfl (And.intro rfl trivial))))))))))))))))))))))))))))))))
                    · refine And.intro ?_ trivial
                      refine condI hF (fun hF => ?_) (fun hF => ?_)
                      · refine Exists.intro (.take 0 (.take 1 (.take 2 (.take 3 (.take 4 (.take 5 (.take 6 (.take 7 (.take 8 (.take 9 (.take 10 (.take 11 (.take 12 (.take 13 (.take 14 (.take 15 (.take 16 (.take 17 (.take 18 (.take 19 (.take 20 (.take 21 (.alt 22 .done .done))))))))))))))))))))))) (Exists.intro [] (Exists.intro [] (And.intro rfl ?_)))
                        refine guardI hF (fun hF => ?_)
                        refine guardI hF (fun hF => ?_)
                        refine And.intro trivial ?_
                        obtain ⟨q22_22, hq22_22, hF⟩ := bindE hF
                        refine Or.inl (And.intro f154_in (callV0 (callI C154 (c4_0_2, c4_1_2, c4_2_2, (rd (0 : Int) g.2 (IntKind.i64.wrap ((IntKind.i64.wrap (v120 * (rd (0 : Int) g.1 (1 : Int)))) + (IntKind.i64.wrap (Int.tdiv (IntKind.i64.wrap ((Int.tmod v110 long) - v127)) step))))), (rd (0 : Int) k.2 (IntKind.i64.wrap ((IntKind.i64.wrap ((IntKind.i64.wrap ((IntKind.i64.wrap (v120 * (rd (0 : Int) k.1 (1 : Int)))) + (IntKind.i64.wrap (Int.tdiv v110 long)))) * (rd (0 : Int) k.1 (2 : Int)))) + v127)))) q22_22 [(0, some 4)] false C154_holds hq22_22 rfl rfl ?_)))
                        refine (And.intro rfl (And.intro rfl (And.intro (fun h => nomatch h) (And.intro rfl (And.intro rfl (And.intro (And.intro rfl trivial) (And.intro (And.intro rfl trivial) ?_)))))))
                        refine Exists.intro ((IntKind.i64.wrap (v127 + (1 : Int))), q22_22.1, q22_22.2.1, q22_22.2.2) (And.intro hF (Exists.intro [] (Exists.intro [] (Exists.intro [] (Exists.intro [] (Exists.intro [(0, some 0), (1, some 1), (2, some 2), (3, some 3), (4, some 4), (5, some 5), (6, some 6)] (And.intro rfl (And.intro rfl (And.intro rfl (And.intro rfl (And.intro rfl (And.intro rfl (And.intro rfl (And.intro rfl (And.intro rfl (And.intro rfl (And.intro rfl (And.intro rfl (And.intro rfl (And.intro rfl (And.intro rfl (And.intro rfl (And.intro rfl (And.intro (And.intro rfl (And.intro rfl (And.intro rfl (And.intro rfl (And.intro rfl trivial))))) (And.intro rfl (And.intro rfl (And.intro rfl (And.intro rfl (And.intro rfl (And.intro rfl (And.intro rfl trivial)))))))))))))))))))))))))))))))
                      · refine Exists.intro ((IntKind.i64.wrap (v127 + (1 : Int))), c4_0_2, c4_1_2, c4_2_2) (And.intro hF (Exists.intro [] (Exists.intro [] (Exists.intro [] (Exists.intro [] (Exists.intro [(0, some 0), (1, some 1), (2, some 2), (3, some 3), (4, some 4), (5, some 5), (6, some 6)] (And.intro rfl (And.intro rfl (And.intro rfl (And.intro rfl (And.intro rfl (And.intro rfl (And.intro rfl (And.intro rfl (And.intro rfl (And.intro rfl (And.intro rfl (And.intro rfl (And.intro rfl (And.intro rfl (And.intro rfl (And.intro rfl (And.intro rfl (And.intro (And.intro rfl (And.intro rfl (And.intro rfl (And.intro rfl (And.intro rfl trivial))))) (And.intro rfl (And.intro rfl (And.intro rfl (And.intro rfl (And.intro rfl (And.intro rfl (And.intro rfl trivial)))))))))))))))))))))))))))))))
                  · have hz := someE hF
                    subst hz
                    refine Exists.intro [] (Exists.intro [] (Exists.intro [] (Exists.intro [] (Exists.intro [(0, some 0), (1, some 1), (2, some 2), (3, some 3), (4, some 4), (5, some 5), (6, some 6)] (And.intro rfl (And.intro rfl (And.intro rfl (And.intro rfl (And.intro rfl (And.intro rfl (And.intro rfl (And.intro rfl (And.intro rfl (And.intro rfl (And.intro rfl (And.intro rfl (And.intro rfl (And.intro rfl (And.intro (And.intro rfl (And.intro rfl (And.intro rfl (And.intro rfl (And.intro rfl trivial))))) (And.intro rfl (And.intro rfl (And.intro rfl (And.intro rfl (And.intro rfl (And.intro rfl (And.intro rfl trivial))))))))))))))))))))))))))
                · refine And.intro ?_ trivial
                  refine Exists.intro ((IntKind.i64.wrap (v120 + (1 : Int))), z58.1, z58.2.1, z58.2.2) (And.intro hF (Exists.intro [] (Exists.intro [] (Exists.intro [] (Exists.intro [] (Exists.intro [(0, some 0), (1, some 1), (2, some 2), (3, some 3), (4, some 4), (5, some 5), (6, some 6)] (And.intro rfl (And.intro rfl (And.intro rfl (And.intro rfl (And.intro rfl (And.intro rfl (And.intro rfl (And.intro rfl (And.intro rfl (And.intro rfl (And.intro rfl (And.intro rfl (And.intro rfl (And.intro rfl (And.intro (And.intro rfl (And.intro rfl (And.intro rfl (And.intro rfl (And.intro rfl trivial))))) (And.intro rfl (And.intro rfl (And.intro rfl (And.intro rfl (And.intro rfl (And.intro rfl (And.intro rfl trivial))))))))))))))))))))))))))))
              · have hz := someE hF
                subst hz
                refine Exists.intro [] (Exists.intro [] (Exists.intro [] (Exists.intro [] (Exists.intro [(0, some 0), (1, some 1), (2, some 2), (3, some 3), (4, some 4), (5, some 5), (6, some 6)] (And.intro rfl (And.intro rfl (And.intro rfl (And.intro rfl (And.intro rfl (And.intro rfl (And.intro rfl (And.intro rfl (And.intro rfl (And.intro rfl (And.intro (And.intro rfl (And.intro rfl (And.intro rfl (And.intro rfl (And.intro rfl trivial))))) (And.intro rfl (And.intro rfl (And.intro rfl (And.intro rfl (And.intro rfl (And.intro rfl (And.intro rfl trivial))))))))))))))))))))))
            · refine And.intro ?_ trivial
              refine Exists.intro (.take 0 (.take 1 (.take 2 (.alt 3 (.take 4 (.alt 5 .done .done)) .done)))) (Exists.intro [] (Exists.intro [] (And.intro rfl ?_)))
              refine And.intro trivial ?_
              obtain ⟨q25_3, hq25_3, hF⟩ := bindE hF
              refine Or.inl (And.intro f155_in (callV0 (callI C155 (z55.1, z55.2.1, z55.2.2, (32 : Int)) q25_3 [(0, some 4)] false C155_holds hq25_3 rfl rfl ?_)))
              refine (And.intro rfl (And.intro (fun h => nomatch h) (And.intro rfl (And.intro rfl (And.intro (And.intro rfl trivial) (And.intro (And.intro rfl trivial) ?_))))))
              refine guardI hF (fun hF => ?_)
              refine And.intro trivial ?_
              refine Or.inl ?_
              refine Exists.intro ((IntKind.i64.wrap (v110 + (1 : Int))), (List.set l5 (Int.toNat v110) q25_3.1)) (And.intro hF (Exists.intro [] (Exists.intro [] (Exists.intro [] (Exists.intro [] (Exists.intro [(0, some 0), (1, some 1), (2, some 2), (3, some 3), (4, some 5), (5, some 6)] (And.intro rfl (And.intro rfl (And.intro rfl (And.intro rfl (And.intro rfl (And.intro rfl (And.intro rfl (And.intro rfl (And.intro rfl (And.intro (And.intro rfl (And.intro rfl (And.intro rfl (And.intro rfl trivial)))) (And.intro rfl (And.intro rfl (And.intro rfl (And.intro rfl (And.intro rfl (And.intro rfl trivial))))))))))))))))))))))
          · have hz := someE hF
            subst hz
            refine Exists.intro [] (Exists.intro [] (Exists.intro [] (Exists.intro [] (Exists.intro [(0, some 2), (1, some 3), (2, some 4), (3, some 5)] (And.intro rfl (And.intro (And.intro rfl (And.intro rfl trivial)) (And.intro rfl (And.intro rfl (And.intro rfl (And.intro rfl trivial))))))))))
        · refine And.intro ?_ trivial
          refine Or.inl ?_
          refine Or.inl ?_
          have hy := someE hF
          subst hy
          refine And.intro rfl (Exists.intro [] (Exists.intro [] (Exists.intro [] (Exists.intro [] (Exists.intro [(0, some 2), (1, some 3)] (And.intro rfl (And.intro rfl (And.intro (And.intro rfl trivial) (And.intro rfl (And.intro rfl trivial))))))))))
    · dsimp only [sumF] at hF
      refine And.intro ?_ trivial
      have hy := someE hF
      subst hy
      refine And.intro rfl (Exists.intro [] (Exists.intro [] (Exists.intro [] (Exists.intro [] (Exists.intro [(0, none), (1, none)] (And.intro rfl (And.intro rfl (And.intro (And.intro rfl trivial) (And.intro rfl (And.intro rfl trivial))))))))))
theorem C116_holds : C116.Holds Tryz.prog 116 := holds_of_vc tab_ok mixed (fn := Tryz.f116) (by kernel_rfl) rfl C116 (fun x y hF => C116_vc x.1 x.2.1 x.2.2.1 x.2.2.2 y hF)
theorem f116_in : ∃ fn, Tryz.prog.funcs[116]? = some fn ∧ fn.body.isSome = true ∧ (fn.name == "runtime.NumGoroutine") = false := ⟨Tryz.f116, by kernel_rfl, by kernel_rfl, by kernel_rfl⟩
end Go.Proofs
namespace Go.Proofs
open Go.AM
-- carousel/back.picked
def f117_l1 (g : (List Int) × (List Int)) (r1 : Int × (List Int) × (List Int) × (List Int)) (go : (Int × (List Int)) → Option (List Int)) (v29 : Int) (l5 : List Int) : Option (List Int) :=
  bif (decide (v29 < (List.length r1.2.2.2 : Int))) then
    guardF (0 ≤ v29 ∧ v29 < (List.length r1.2.2.2 : Int)) <|
    guardF (0 ≤ v29 ∧ v29 < (List.length g.2 : Int)) <|
    guardF (0 ≤ (rd (0 : Int) r1.2.2.2 v29) ∧ (rd (0 : Int) r1.2.2.2 v29) < (List.length l5 : Int)) <|
    go ((IntKind.i64.wrap (v29 + (1 : Int))), (List.set l5 (Int.toNat (rd (0 : Int) r1.2.2.2 v29)) (rd (0 : Int) g.2 v29)))
  else
    some l5
def f117 (g : (List Int) × (List Int)) (a : (List Int) × (List Int)) (wide : Int) : Option ((List Int) × (List Int)) :=
  bindF (f52 a.1 (0 : Int)) fun q6_9 =>
  bindF (f156 (a.1, a.2) wide) fun r1 =>
  bindF (loopF (fun go x => f117_l1 g r1 go x.1 x.2) fuelN ((0 : Int), q6_9.2.2)) fun z2 =>
  some (q6_9.2.1, z2)
def C117 : Con where
  X := ((List Int) × (List Int)) × ((List Int) × (List Int)) × Int
  Y := (List Int) × (List Int)
  e := 0
  args x := [.dat (.p (.sl (.int .i64)) (.sl (.int .i64))) x.1, .dat (.p (.sl (.int .i64)) (.sl (.int .i64))) x.2.1, .dat (.int .i64) x.2.2]
  hin x := []
  F x := f117 x.1 x.2.1 x.2.2
  ret y := [.raw true [(.osl 0), (.osl 1)]]
  hout y := [(0, .arr 3 (.int .i64) y.1), (1, .arr 23 (.int .i64) y.2)]
  nout := 2
theorem C117_vc (g : (List Int) × (List Int)) (a : (List Int) × (List Int)) (wide : Int) (y : (List Int) × (List Int)) (hF : f117 g a wide = some y) : vc Tryz.prog tab Tryz.f117.ntmps 0 (match Tryz.f117.body with | some c => c | none => .skip) (retK tab C117 Tryz.f117.results.toList y) (C117.shIn (g, a, wide)).st := by
  unfold f117 at hF
  refine Or.inl ?_
  refine Or.inl ?_
  obtain ⟨q6_9, hq6_9, hF⟩ := bindE hF
  refine Or.inl (And.intro f52_in (callV0 (callI C52 (a.1, (0 : Int)) q6_9 [] false C52_holds hq6_9 rfl rfl ?_)))
  refine (And.intro rfl (And.intro rfl (And.intro (fun h => nomatch h) (And.intro rfl (And.intro rfl (And.intro trivial (And.intro trivial ?_)))))))
  refine Or.inl ?_
  refine Or.inl ?_
  obtain ⟨r1, hr1, hF⟩ := bindE hF
  refine Or.inl (And.intro f156_in (callV0 (callI C156 ((a.1, a.2), wide) r1 [] false C156_holds hr1 rfl rfl ?_)))
  refine (And.intro rfl (And.intro rfl (And.intro rfl (And.intro (fun h => nomatch h) (And.intro rfl (And.intro rfl (And.intro trivial (And.intro trivial ?_))))))))
  refine Or.inl ?_
  refine Or.inl ?_
  refine Or.inl ?_
  obtain ⟨z2, hz2, hF⟩ := bindE hF
  refine loopI (Int × (List Int)) (List Int) (fun x => ⟨[(3, .raw false [(.ptr 0 0)]), (6, .raw false [(.ptr 1 0)]), (7, .raw false [(.ptr 2 0)]), (27, .raw false [(.osl 3)]), (28, .dat (.int .i64) (List.length r1.2.2.2 : Int)), (29, .dat (.int .i64) x.1)], [(0, .cells [(.d (.sl (.int .i64)) g.1), (.d (.sl (.int .i64)) g.2)]), (1, .cells [(.c (.slice none 0 0)), (.c (.slice none 0 0))]), (2, .cells [(.osl 4), (.osl 5)]), (3, .arr 3 (.int .i64) r1.2.2.2), (4, .arr 3 (.int .i64) q6_9.2.1), (5, .arr 23 (.int .i64) x.2)], 6⟩) (fun z => [(2, ⟨[(6, .raw false [(.ptr 0 0)]), (7, .raw false [(.ptr 1 0)])], [(0, .cells [(.c (.slice none 0 0)), (.c (.slice none 0 0))]), (1, .cells [(.osl 2), (.osl 3)]), (2, .arr 3 (.int .i64) q6_9.2.1), (3, .arr 23 (.int .i64) z)], 4⟩)]) (loopF (fun go x => f117_l1 g r1 go x.1 x.2)) fuelN ((0 : Int), q6_9.2.2) z2 (And.intro hz2 (And.intro (Exists.intro [] (Exists.intro [] (Exists.intro [] (Exists.intro [] (Exists.intro [(0, some 0), (1, some 2), (2, some 5), (3, some 8), (4, some 3), (5, some 4)] (And.intro rfl (And.intro rfl (And.intro rfl (And.intro (And.intro rfl (And.intro rfl (And.intro rfl (And.intro rfl trivial)))) (And.intro rfl (And.intro rfl (And.intro rfl (And.intro rfl (And.intro rfl (And.intro rfl trivial))))))))))))))) (And.intro (fun _ _ h => loopZ h) (And.intro (fun m => curI (fun v29 => fun l5 z hF => ?_)) ?_))))
  · have hF : f117_l1 g r1 (loopF (fun go x => f117_l1 g r1 go x.1 x.2) m) v29 l5 = some z := hF
    unfold f117_l1 at hF
    refine Or.inl ?_
    refine Or.inl ?_
    refine condI hF (fun hF => ?_) (fun hF => ?_)
    · refine Or.inl ?_
      refine Or.inl ?_
      refine guardI hF (fun hF => ?_)
      refine Exists.intro (.take 0 (.take 1 (.take 2 (.take 3 (.take 4 (.take 5 (.take 6 (.take 7 (.take 8 (.alt 9 .done .done)))))))))) (Exists.intro [] (Exists.intro [] (And.intro rfl ?_)))
      refine guardI hF (fun hF => ?_)
      refine guardI hF (fun hF => ?_)
      refine And.intro trivial ?_
      refine Or.inl ?_
      refine Exists.intro ((IntKind.i64.wrap (v29 + (1 : Int))), (List.set l5 (Int.toNat (rd (0 : Int) r1.2.2.2 v29)) (rd (0 : Int) g.2 v29))) (And.intro hF (Exists.intro [] (Exists.intro [] (Exists.intro [] (Exists.intro [] (Exists.intro [(0, some 0), (1, some 1), (2, some 2), (3, some 3), (4, some 4), (5, some 5)] (And.intro rfl (And.intro rfl (And.intro rfl (And.intro (And.intro rfl (And.intro rfl (And.intro rfl (And.intro rfl trivial)))) (And.intro rfl (And.intro rfl (And.intro rfl (And.intro rfl (And.intro rfl (And.intro rfl trivial))))))))))))))))
    · have hz := someE hF
      subst hz
      refine Exists.intro [] (Exists.intro [] (Exists.intro [] (Exists.intro [] (Exists.intro [(0, some 1), (1, some 2), (2, some 4), (3, some 5)] (And.intro rfl (And.intro (And.intro rfl (And.intro rfl trivial)) (And.intro rfl (And.intro rfl (And.intro rfl (And.intro rfl trivial))))))))))
  · refine And.intro ?_ trivial
    refine Or.inl ?_
    refine Or.inl ?_
    have hy := someE hF
    subst hy
    refine And.intro rfl (Exists.intro [] (Exists.intro [] (Exists.intro [] (Exists.intro [] (Exists.intro [(0, some 2), (1, some 3)] (And.intro rfl (And.intro (And.intro rfl trivial) (And.intro rfl (And.intro rfl trivial)))))))))
theorem C117_holds : C117.Holds Tryz.prog 117 := holds_of_vc tab_ok mixed (fn := Tryz.f117) (by kernel_rfl) rfl C117 (fun x y hF => C117_vc x.1 x.2.1 x.2.2 y hF)
theorem f117_in : ∃ fn, Tryz.prog.funcs[117]? = some fn ∧ fn.body.isSome = true ∧ (fn.name == "runtime.NumGoroutine") = false := ⟨Tryz.f117, by kernel_rfl, by kernel_rfl, by kernel_rfl⟩
end Go.Proofs
namespace Go.Proofs
open Go.AM
-- carousel/back.forA
def f88_j1 (n : Int × Int × Int × Int × (List Int) × (List Int)) : Option Bool :=
  bif (n.1 == (2 : Int)) then
    some (n.1 == (2 : Int))
  else
    some (n.1 == (3 : Int))
def f88 (n : Int × Int × Int × Int × (List Int) × (List Int)) (a : (List Int) × (List Int)) (b : (List Int) × (List Int)) (g : (List Int) × (List Int)) : Option (Int × (List Int) × (List Int)) :=
  bindF (f88_j1 n) fun z1 =>
  bif z1 then
    bindF (f108 (g.1, g.2) a.1) fun r2 =>
    some (r2.1, r2.2.1, r2.2.2)
  else
    bif (n.1 == (4 : Int)) then
      bindF (f109 (g.1, g.2) (b.1, b.2)) fun r3 =>
      bindF (f110 (r3.2.1, r3.2.2) r3.1 a.1) fun r4 =>
      some (r4.1, r4.2.1, r4.2.2)
    else
      bif (n.1 == (5 : Int)) then
        bindF (f111 (g.1, g.2) n.2.2.2.1) fun r5 =>
        some (r5.1, r5.2.1, r5.2.2)
      else
        bif (n.1 == (6 : Int)) then
          bindF (f112 (g.1, g.2) (b.1, b.2) false) fun r6 =>
          some (r6.1, r6.2.1, r6.2.2)
        else
          bif (n.1 == (7 : Int)) then
            bindF (f113 (g.1, g.2)) fun r7 =>
            some (r7.1, r7.2.1, r7.2.2)
          else
            bif (n.1 == (8 : Int)) then
              bindF (f114 (g.1, g.2) a.1 n.2.2.2.1) fun r8 =>
              some ((0 : Int), r8.1, r8.2)
            else
              bif (n.1 == (9 : Int)) then
                guardF (0 ≤ (0 : Int) ∧ (0 : Int) < (List.length g.2 : Int)) <|
                bindF (f52 a.1 (rd (0 : Int) g.2 (0 : Int))) fun q17_6 =>
                some (q17_6.1, q17_6.2.1, q17_6.2.2)
              else
                bif (n.1 == (10 : Int)) then
                  guardF (0 ≤ (0 : Int) ∧ (0 : Int) < (List.length g.2 : Int)) <|
                  bindF (f41 (rd (0 : Int) g.2 (0 : Int))) fun q19_6 =>
                  bindF (f98 (q19_6.1, q19_6.2) (List.length a.2 : Int)) fun q19_10 =>
                  bindF (f52 a.1 q19_10) fun q19_11 =>
                  some (q19_11.1, q19_11.2.1, q19_11.2.2)
                else
                  bif (n.1 == (11 : Int)) then
                    bindF (f115 n.2.2.2.1 (a.1, a.2) (g.1, g.2)) fun q19_15 =>
                    some (q19_15.1, q19_15.2.1, q19_15.2.2)
                  else
                    bif (n.1 == (12 : Int)) then
                      guardF (0 ≤ (1 : Int) ∧ (1 : Int) < (List.length a.1 : Int)) <|
                      bindF (f116 (g.1, g.2) (b.1, b.2) n.2.2.2.1 (rd (0 : Int) a.1 (1 : Int))) fun q23_8 =>
                      some (q23_8.1, q23_8.2.1, q23_8.2.2)
                    else
                      bif (n.1 == (13 : Int)) then
                        bindF (f117 (g.1, g.2) (a.1, a.2) n.2.2.2.1) fun q23_12 =>
                        some ((0 : Int), q23_12.1, q23_12.2)
                      else
                        bif (n.1 == (14 : Int)) then
                          bindF (f118 (g.1, g.2) a.1) fun r9 =>
                          some (r9.1, r9.2.1, r9.2.2)
                        else
                          some ((0 : Int), [], [])
def C88 : Con where
  X := (Int × Int × Int × Int × (List Int) × (List Int)) × ((List Int) × (List Int)) × ((List Int) × (List Int)) × ((List Int) × (List Int))
  Y := Int × (List Int) × (List Int)
  e := 0
  args x := [.dat (.p (.int .i64) (.p (.int .i64) (.p (.int .i64) (.p (.int .i64) (.p (.sl (.int .i64)) (.sl (.int .i64))))))) x.1, .dat (.p (.sl (.int .i64)) (.sl (.int .i64))) x.2.1, .dat (.p (.sl (.int .i64)) (.sl (.int .i64))) x.2.2.1, .dat (.p (.sl (.int .i64)) (.sl (.int .i64))) x.2.2.2]
  hin x := []
  F x := f88 x.1 x.2.1 x.2.2.1 x.2.2.2
  ret y := [.raw true [(.osl 0), (.osl 1)], .dat (.int .i64) y.1]
  hout y := [(0, .arr 3 (.int .i64) y.2.1), (1, .arr 23 (.int .i64) y.2.2)]
  nout := 2
theorem C88_vc (n : Int × Int × Int × Int × (List Int) × (List Int)) (a : (List Int) × (List Int)) (b : (List Int) × (List Int)) (g : (List Int) × (List Int)) (y : Int × (List Int) × (List Int)) (hF : f88 n a b g = some y) : vc Tryz.prog tab Tryz.f88.ntmps 0 (match Tryz.f88.body with | some c => c | none => .skip) (retK tab C88 Tryz.f88.results.toList y) (C88.shIn (n, a, b, g)).st := by
  unfold f88 at hF
  refine Or.inl ?_
  refine Or.inl ?_
  refine Or.inl ?_
  obtain ⟨z1, hz1, hF⟩ := bindE hF
  refine Or.inr ⟨[(0, ⟨[(4, .raw false [(.ptr 0 0)]), (5, .raw false [(.ptr 1 0)]), (6, .raw false [(.ptr 2 0)]), (7, .raw false [(.ptr 3 0)]), (8, .raw false [(.ptr 4 0)]), (13, .dat (.int .i64) n.1), (14, .dat .bool z1)], [(0, .cells [(.d (.int .i64) n.1), (.d (.int .i64) n.2.1), (.d (.int .i64) n.2.2.1), (.d (.int .i64) n.2.2.2.1), (.d (.sl (.int .i64)) n.2.2.2.2.1), (.d (.sl (.int .i64)) n.2.2.2.2.2)]), (1, .cells [(.d (.sl (.int .i64)) a.1), (.d (.sl (.int .i64)) a.2)]), (2, .cells [(.d (.sl (.int .i64)) b.1), (.d (.sl (.int .i64)) b.2)]), (3, .cells [(.d (.sl (.int .i64)) g.1), (.d (.sl (.int .i64)) g.2)]), (4, .cells [(.c (.slice none 0 0)), (.c (.slice none 0 0))])], 5⟩)], ?_, ?_⟩
  · have hF := hz1
    clear hz1
    unfold f88_j1 at hF
    refine Or.inl ?_
    refine condI hF (fun hF => ?_) (fun hF => ?_)
    · have hz := someE hF
      subst hz
      refine Exists.intro [] (Exists.intro [] (Exists.intro [] (Exists.intro [] (Exists.intro [(0, some 0), (1, some 1), (2, some 2), (3, some 3), (4, some 4)] (And.intro rfl (And.intro rfl (And.intro rfl (And.intro (And.intro rfl (And.intro rfl (And.intro rfl (And.intro rfl (And.intro rfl trivial))))) (And.intro rfl (And.intro rfl (And.intro rfl (And.intro rfl (And.intro rfl trivial)))))))))))))
    · have hz := someE hF
      subst hz
      refine Exists.intro [] (Exists.intro [] (Exists.intro [] (Exists.intro [] (Exists.intro [(0, some 0), (1, some 1), (2, some 2), (3, some 3), (4, some 4)] (And.intro rfl (And.intro rfl (And.intro rfl (And.intro (And.intro rfl (And.intro rfl (And.intro rfl (And.intro rfl (And.intro rfl trivial))))) (And.intro rfl (And.intro rfl (And.intro rfl (And.intro rfl (And.intro rfl trivial)))))))))))))
  · refine And.intro ?_ trivial
    refine condI hF (fun hF => ?_) (fun hF => ?_)
    · refine Or.inl ?_
      obtain ⟨r2, hr2, hF⟩ := bindE hF
      refine Or.inl (And.intro f108_in (callV0 (callI C108 ((g.1, g.2), a.1) r2 [] false C108_holds hr2 rfl rfl ?_)))
      refine (And.intro rfl (And.intro rfl (And.intro rfl (And.intro (fun h => nomatch h) (And.intro rfl (And.intro rfl (And.intro trivial (And.intro trivial ?_))))))))
      refine Or.inl ?_
      have hy := someE hF
      subst hy
      refine And.intro rfl (Exists.intro [] (Exists.intro [] (Exists.intro [] (Exists.intro [] (Exists.intro [(0, some 5), (1, some 6)] (And.intro rfl (And.intro rfl (And.intro (And.intro rfl trivial) (And.intro rfl (And.intro rfl trivial))))))))))
    · refine Or.inl ?_
      refine condI hF (fun hF => ?_) (fun hF => ?_)
      · refine Or.inl ?_
        obtain ⟨r3, hr3, hF⟩ := bindE hF
        refine Or.inl (And.intro f109_in (callV0 (callI C109 ((g.1, g.2), (b.1, b.2)) r3 [] false C109_holds hr3 rfl rfl ?_)))
        refine (And.intro rfl (And.intro rfl (And.intro rfl (And.intro rfl (And.intro (fun h => nomatch h) (And.intro rfl (And.intro rfl (And.intro trivial (And.intro trivial ?_)))))))))
        refine Or.inl ?_
        refine Or.inl ?_
        obtain ⟨r4, hr4, hF⟩ := bindE hF
        refine Or.inl (And.intro f110_in (callV0 (callI C110 ((r3.2.1, r3.2.2), r3.1, a.1) r4 [] true C110_holds hr4 rfl rfl ?_)))
        refine (And.intro rfl (And.intro rfl (And.intro rfl (And.intro rfl (And.intro (fun _ => rfl) (And.intro rfl (And.intro rfl (And.intro trivial (And.intro trivial ?_)))))))))
        refine Or.inl ?_
        have hy := someE hF
        subst hy
        refine And.intro rfl (Exists.intro [] (Exists.intro [] (Exists.intro [] (Exists.intro [] (Exists.intro [(0, some 8), (1, some 9)] (And.intro rfl (And.intro rfl (And.intro (And.intro rfl trivial) (And.intro rfl (And.intro rfl trivial))))))))))
      · refine Or.inl ?_
        refine condI hF (fun hF => ?_) (fun hF => ?_)
        · refine Or.inl ?_
          obtain ⟨r5, hr5, hF⟩ := bindE hF
          refine Or.inl (And.intro f111_in (callV0 (callI C111 ((g.1, g.2), n.2.2.2.1) r5 [] false C111_holds hr5 rfl rfl ?_)))
          refine (And.intro rfl (And.intro rfl (And.intro rfl (And.intro (fun h => nomatch h) (And.intro rfl (And.intro rfl (And.intro trivial (And.intro trivial ?_))))))))
          refine Or.inl ?_
          have hy := someE hF
          subst hy
          refine And.intro rfl (Exists.intro [] (Exists.intro [] (Exists.intro [] (Exists.intro [] (Exists.intro [(0, some 5), (1, some 6)] (And.intro rfl (And.intro rfl (And.intro (And.intro rfl trivial) (And.intro rfl (And.intro rfl trivial))))))))))
        · refine Or.inl ?_
          refine condI hF (fun hF => ?_) (fun hF => ?_)
          · refine Or.inl ?_
            obtain ⟨r6, hr6, hF⟩ := bindE hF
            refine Or.inl (And.intro f112_in (callV0 (callI C112 ((g.1, g.2), (b.1, b.2), false) r6 [] false C112_holds hr6 rfl rfl ?_)))
            refine (And.intro rfl (And.intro rfl (And.intro rfl (And.intro rfl (And.intro rfl (And.intro (fun h => nomatch h) (And.intro rfl (And.intro rfl (And.intro trivial (And.intro trivial ?_))))))))))
            refine Or.inl ?_
            have hy := someE hF
            subst hy
            refine And.intro rfl (Exists.intro [] (Exists.intro [] (Exists.intro [] (Exists.intro [] (Exists.intro [(0, some 5), (1, some 6)] (And.intro rfl (And.intro rfl (And.intro (And.intro rfl trivial) (And.intro rfl (And.intro rfl trivial))))))))))
          · refine Or.inl ?_
            refine condI hF (fun hF => ?_) (fun hF => ?_)
            · refine Or.inl ?_
              obtain ⟨r7, hr7, hF⟩ := bindE hF
              refine Or.inl (And.intro f113_in (callV0 (callI C113 (g.1, g.2) r7 [] false C113_holds hr7 rfl rfl ?_)))
              refine (And.intro rfl (And.intro rfl (And.intro (fun h => nomatch h) (And.intro rfl (And.intro rfl (And.intro trivial (And.intro trivial ?_)))))))
              refine Or.inl ?_
              have hy := someE hF
              subst hy
              refine And.intro rfl (Exists.intro [] (Exists.intro [] (Exists.intro [] (Exists.intro [] (Exists.intro [(0, some 5), (1, some 6)] (And.intro rfl (And.intro rfl (And.intro (And.intro rfl trivial) (And.intro rfl (And.intro rfl trivial))))))))))
            · refine Or.inl ?_
              refine condI hF (fun hF => ?_) (fun hF => ?_)
              · refine Or.inl ?_
                obtain ⟨r8, hr8, hF⟩ := bindE hF
                refine Or.inl (And.intro f114_in (callV0 (callI C114 ((g.1, g.2), a.1, n.2.2.2.1) r8 [] false C114_holds hr8 rfl rfl ?_)))
                refine (And.intro rfl (And.intro rfl (And.intro rfl (And.intro rfl (And.intro (fun h => nomatch h) (And.intro rfl (And.intro rfl (And.intro trivial (And.intro trivial ?_)))))))))
                refine Or.inl ?_
                have hy := someE hF
                subst hy
                refine And.intro rfl (Exists.intro [] (Exists.intro [] (Exists.intro [] (Exists.intro [] (Exists.intro [(0, some 5), (1, some 6)] (And.intro rfl (And.intro rfl (And.intro (And.intro rfl trivial) (And.intro rfl (And.intro rfl trivial))))))))))
              · refine Or.inl ?_
                refine condI hF (fun hF => ?_) (fun hF => ?_)
                · refine Or.inl ?_
                  refine Exists.intro (.take 0 (.take 1 (.take 2 (.take 3 (.take 4 (.take 5 (.alt 6 (.take 7 (.take 8 (.alt 9 (.take 10 .done) .done))) .done))))))) (Exists.intro [] (Exists.intro [] (And.intro rfl ?_)))
                  refine guardI hF (fun hF => ?_)
                  refine And.intro trivial ?_
                  obtain ⟨q17_6, hq17_6, hF⟩ := bindE hF
                  refine Or.inl (And.intro f52_in (callV0 (callI C52 (a.1, (rd (0 : Int) g.2 (0 : Int))) q17_6 [] false C52_holds hq17_6 rfl rfl ?_)))
                  refine (And.intro rfl (And.intro rfl (And.intro (fun h => nomatch h) (And.intro rfl (And.intro rfl (And.intro trivial (And.intro trivial ?_)))))))
                  refine And.intro trivial ?_
                  refine Or.inl ?_
                  have hy := someE hF
                  subst hy
                  refine And.intro rfl (Exists.intro [] (Exists.intro [] (Exists.intro [] (Exists.intro [] (Exists.intro [(0, some 5), (1, some 6)] (And.intro rfl (And.intro rfl (And.intro (And.intro rfl trivial) (And.intro rfl (And.intro rfl trivial))))))))))
                · refine Or.inl ?_
                  refine condI hF (fun hF => ?_) (fun hF => ?_)
                  · refine Or.inl ?_
                    refine Exists.intro (.take 0 (.take 1 (.take 2 (.take 3 (.take 4 (.take 5 (.take 7 (.take 8 (.take 9 (.alt 6 (.alt 10 (.alt 11 (.take 12 (.take 13 (.alt 14 (.take 15 .done) .done))) .done) .done) .done)))))))))) (Exists.intro [] (Exists.intro [] (And.intro rfl ?_)))
                    refine guardI hF (fun hF => ?_)
                    refine And.intro trivial ?_
                    obtain ⟨q19_6, hq19_6, hF⟩ := bindE hF
                    refine Or.inl (And.intro f41_in (callV0 (callI C41 (rd (0 : Int) g.2 (0 : Int)) q19_6 [] false C41_holds hq19_6 rfl rfl ?_)))
                    refine (And.intro rfl (And.intro (fun h => nomatch h) (And.intro rfl (And.intro rfl (And.intro trivial (And.intro trivial ?_))))))
                    refine And.intro trivial ?_
                    obtain ⟨q19_10, hq19_10, hF⟩ := bindE hF
                    refine Or.inl (And.intro f98_in (callV0 (callI C98 ((q19_6.1, q19_6.2), (List.length a.2 : Int)) q19_10 [] false C98_holds hq19_10 rfl rfl ?_)))
                    refine (And.intro rfl (And.intro rfl (And.intro rfl (And.intro (fun h => nomatch h) (And.intro rfl (And.intro rfl (And.intro trivial (And.intro trivial ?_))))))))
                    refine And.intro trivial ?_
                    obtain ⟨q19_11, hq19_11, hF⟩ := bindE hF
                    refine Or.inl (And.intro f52_in (callV0 (callI C52 (a.1, q19_10) q19_11 [] false C52_holds hq19_11 rfl rfl ?_)))
                    refine (And.intro rfl (And.intro rfl (And.intro (fun h => nomatch h) (And.intro rfl (And.intro rfl (And.intro trivial (And.intro trivial ?_)))))))
                    refine And.intro trivial ?_
                    refine Or.inl ?_
                    have hy := someE hF
                    subst hy
                    refine And.intro rfl (Exists.intro [] (Exists.intro [] (Exists.intro [] (Exists.intro [] (Exists.intro [(0, some 5), (1, some 6)] (And.intro rfl (And.intro rfl (And.intro (And.intro rfl trivial) (And.intro rfl (And.intro rfl trivial))))))))))
                  · refine Or.inl ?_
                    refine condI hF (fun hF => ?_) (fun hF => ?_)
                    · refine Or.inl ?_
                      obtain ⟨q19_15, hq19_15, hF⟩ := bindE hF
                      refine Or.inl (And.intro f115_in (callV0 (callI C115 (n.2.2.2.1, (a.1, a.2), (g.1, g.2)) q19_15 [] false C115_holds hq19_15 rfl rfl ?_)))
                      refine (And.intro rfl (And.intro rfl (And.intro rfl (And.intro rfl (And.intro rfl (And.intro (fun h => nomatch h) (And.intro rfl (And.intro rfl (And.intro trivial (And.intro trivial ?_))))))))))
                      refine Or.inl ?_
                      have hy := someE hF
                      subst hy
                      refine And.intro rfl (Exists.intro [] (Exists.intro [] (Exists.intro [] (Exists.intro [] (Exists.intro [(0, some 5), (1, some 6)] (And.intro rfl (And.intro rfl (And.intro (And.intro rfl trivial) (And.intro rfl (And.intro rfl trivial))))))))))
                    · refine Or.inl ?_
                      refine condI hF (fun hF => ?_) (fun hF => ?_)
                      · refine Or.inl ?_
                        refine Exists.intro (.take 0 (.take 1 (.take 2 (.take 3 (.take 4 (.take 5 (.take 6 (.take 7 (.alt 8 (.take 9 (.take 10 (.alt 11 (.take 12 .done) .done))) .done))))))))) (Exists.intro [] (Exists.intro [] (And.intro rfl ?_)))
                        refine guardI hF (fun hF => ?_)
                        refine And.intro trivial ?_
                        obtain ⟨q23_8, hq23_8, hF⟩ := bindE hF
                        refine Or.inl (And.intro f116_in (callV0 (callI C116 ((g.1, g.2), (b.1, b.2), n.2.2.2.1, (rd (0 : Int) a.1 (1 : Int))) q23_8 [] false C116_holds hq23_8 rfl rfl ?_)))
                        refine (And.intro rfl (And.intro rfl (And.intro rfl (And.intro rfl (And.intro rfl (And.intro rfl (And.intro (fun h => nomatch h) (And.intro rfl (And.intro rfl (And.intro trivial (And.intro trivial ?_)))))))))))
                        refine And.intro trivial ?_
                        refine Or.inl ?_
                        have hy := someE hF
                        subst hy
                        refine And.intro rfl (Exists.intro [] (Exists.intro [] (Exists.intro [] (Exists.intro [] (Exists.intro [(0, some 5), (1, some 6)] (And.intro rfl (And.intro rfl (And.intro (And.intro rfl trivial) (And.intro rfl (And.intro rfl trivial))))))))))
                      · refine Or.inl ?_
                        refine condI hF (fun hF => ?_) (fun hF => ?_)
                        · refine Or.inl ?_
                          obtain ⟨q23_12, hq23_12, hF⟩ := bindE hF
                          refine Or.inl (And.intro f117_in (callV0 (callI C117 ((g.1, g.2), (a.1, a.2), n.2.2.2.1) q23_12 [] false C117_holds hq23_12 rfl rfl ?_)))
                          refine (And.intro rfl (And.intro rfl (And.intro rfl (And.intro rfl (And.intro rfl (And.intro (fun h => nomatch h) (And.intro rfl (And.intro rfl (And.intro trivial (And.intro trivial ?_))))))))))
                          refine Or.inl ?_
                          have hy := someE hF
                          subst hy
                          refine And.intro rfl (Exists.intro [] (Exists.intro [] (Exists.intro [] (Exists.intro [] (Exists.intro [(0, some 5), (1, some 6)] (And.intro rfl (And.intro rfl (And.intro (And.intro rfl trivial) (And.intro rfl (And.intro rfl trivial))))))))))
                        · refine Or.inl ?_
                          refine condI hF (fun hF => ?_) (fun hF => ?_)
                          · refine Or.inl ?_
                            obtain ⟨r9, hr9, hF⟩ := bindE hF
                            refine Or.inl (And.intro f118_in (callV0 (callI C118 ((g.1, g.2), a.1) r9 [] false C118_holds hr9 rfl rfl ?_)))
                            refine (And.intro rfl (And.intro rfl (And.intro rfl (And.intro (fun h => nomatch h) (And.intro rfl (And.intro rfl (And.intro trivial (And.intro trivial ?_))))))))
                            refine Or.inl ?_
                            have hy := someE hF
                            subst hy
                            refine And.intro rfl (Exists.intro [] (Exists.intro [] (Exists.intro [] (Exists.intro [] (Exists.intro [(0, some 5), (1, some 6)] (And.intro rfl (And.intro rfl (And.intro (And.intro rfl trivial) (And.intro rfl (And.intro rfl trivial))))))))))
                          · refine Or.inl ?_
                            refine Or.inl ?_
                            have hy := someE hF
                            subst hy
                            refine And.intro rfl (Exists.intro [] (Exists.intro [] (Exists.intro [] (Exists.intro [] (Exists.intro [(0, none), (1, none)] (And.intro rfl (And.intro rfl (And.intro (And.intro rfl trivial) (And.intro rfl (And.intro rfl trivial))))))))))
theorem C88_holds : C88.Holds Tryz.prog 88 := holds_of_vc tab_ok mixed (fn := Tryz.f88) (by kernel_rfl) rfl C88 (fun x y hF => C88_vc x.1 x.2.1 x.2.2.1 x.2.2.2 y hF)
theorem f88_in : ∃ fn, Tryz.prog.funcs[88]? = some fn ∧ fn.body.isSome = true ∧ (fn.name == "runtime.NumGoroutine") = false := ⟨Tryz.f88, by kernel_rfl, by kernel_rfl, by kernel_rfl⟩
end Go.Proofs
