import Derived.Test.YtmkekohdmdjdlaaTapeOpsF4
set_option linter.unusedVariables false
set_option maxRecDepth 100000
set_option maxHeartbeats 8000000
namespace Go.Proofs
open Go.AM
-- carousel/carousellaw10.awake
def f26 : Option Bool :=
  bindF (f27) fun q8_36 =>
  bindF (f30 ([(8589934592 : Int)])) fun r1 =>
  bindF (f28 ([]) (r1.2, r1.1)) fun r2 =>
  bindF (f30 ([(12884901888 : Int)])) fun r3 =>
  bindF (f28 r2.2.2 (r3.2, r3.1)) fun r4 =>
  bindF (f29 r4.2.2 (4 : Int) r2.1 r4.1 (0 : Int)) fun r5 =>
  bindF (f32 r5.2.2 r5.1) fun r6 =>
  bif (r2.2.1 == (0 : Int)) then
    bif (r4.2.1 == (0 : Int)) then
      bif (r5.2.1 == (0 : Int)) then
        bif (r2.1 == (0 : Int)) then
          bif (r4.1 == (1 : Int)) then
            bif (r5.1 == (2 : Int)) then
              bif r6.1 then
                bindF (f30 ([(25769803776 : Int)])) fun q8_28 =>
                bindF (f19 (r6.2.1, r6.2.2.1) (q8_28.2, q8_28.1)) fun q8_29 =>
                bif q8_29 then
                  bindF (f33 r6.2.2.2) fun q8_33 =>
                  some (q8_33.1 == (3 : Int))
                else
                  some false
              else
                some false
            else
              some false
          else
            some false
        else
          some false
      else
        some false
    else
      some false
  else
    some false
def C26 : Con where
  X := Unit
  Y := Bool
  e := 0
  args x := []
  hin x := []
  F x := f26
  ret y := [.dat .bool y]
  hout y := []
  nout := 0
theorem C26_vc (y : Bool) (hF : f26 = some y) : vc Try.prog tab Try.f26.ntmps 0 (match Try.f26.body with | some c => c | none => .skip) (retK tab C26 Try.f26.results.toList y) (C26.shIn ()).st := by
  unfold f26 at hF
  refine Or.inl ?_
  refine Or.inl ?_
  obtain ⟨q8_36, hq8_36, hF⟩ := bindE hF
  refine Or.inl (And.intro f27_in (callV0 (callI C27 () q8_36 [] false C27_holds hq8_36 rfl rfl ?_)))
  refine (And.intro (fun h => nomatch h) (And.intro rfl (And.intro rfl (And.intro trivial (And.intro trivial ?_)))))
  refine Or.inl ?_
  refine Or.inl ?_
  refine condF ?_
  refine Or.inl ?_
  refine Or.inl ?_
  obtain ⟨r1, hr1, hF⟩ := bindE hF
  refine Or.inl (And.intro f30_in (callV0 (callI C30 [(8589934592 : Int)] r1 [] false C30_holds hr1 rfl rfl ?_)))
  refine (And.intro rfl (And.intro (fun h => nomatch h) (And.intro rfl (And.intro rfl (And.intro trivial (And.intro trivial ?_))))))
  obtain ⟨r2, hr2, hF⟩ := bindE hF
  refine Or.inl (And.intro f28_in (callV0 (callI C28 ([], (r1.2, r1.1)) r2 [(0, some 0), (1, some 1)] false C28_holds hr2 rfl rfl ?_)))
  refine (And.intro rfl (And.intro rfl (And.intro (fun h => nomatch h) (And.intro rfl (And.intro rfl (And.intro (And.intro rfl trivial) (And.intro (And.intro rfl (And.intro rfl trivial)) ?_)))))))
  refine Or.inl ?_
  refine Or.inl ?_
  obtain ⟨r3, hr3, hF⟩ := bindE hF
  refine Or.inl (And.intro f30_in (callV0 (callI C30 [(12884901888 : Int)] r3 [] false C30_holds hr3 rfl rfl ?_)))
  refine (And.intro rfl (And.intro (fun h => nomatch h) (And.intro rfl (And.intro rfl (And.intro trivial (And.intro trivial ?_))))))
  obtain ⟨r4, hr4, hF⟩ := bindE hF
  refine Or.inl (And.intro f28_in (callV0 (callI C28 (r2.2.2, (r3.2, r3.1)) r4 [(0, some 0), (1, some 6)] false C28_holds hr4 rfl rfl ?_)))
  refine (And.intro rfl (And.intro rfl (And.intro (fun h => nomatch h) (And.intro rfl (And.intro rfl (And.intro (And.intro rfl trivial) (And.intro (And.intro rfl (And.intro rfl trivial)) ?_)))))))
  refine Or.inl ?_
  obtain ⟨r5, hr5, hF⟩ := bindE hF
  refine Or.inl (And.intro f29_in (callV0 (callI C29 (r4.2.2, (4 : Int), r2.1, r4.1, (0 : Int)) r5 [(0, some 0), (1, some 11)] false C29_holds hr5 rfl rfl ?_)))
  refine (And.intro rfl (And.intro rfl (And.intro rfl (And.intro rfl (And.intro (fun h => nomatch h) (And.intro rfl (And.intro rfl (And.intro (And.intro rfl trivial) (And.intro (And.intro rfl (And.intro rfl trivial)) ?_)))))))))
  refine Or.inl ?_
  obtain ⟨r6, hr6, hF⟩ := bindE hF
  refine Or.inl (And.intro f32_in (callV0 (callI C32 (r5.2.2, r5.1) r6 [(0, some 0), (1, some 14)] false C32_holds hr6 rfl rfl ?_)))
  refine (And.intro rfl (And.intro (fun h => nomatch h) (And.intro rfl (And.intro rfl (And.intro (And.intro rfl trivial) (And.intro (And.intro rfl (And.intro rfl trivial)) ?_))))))
  refine Or.inl ?_
  refine Or.inl ?_
  refine Exists.intro (.take 0 (.take 1 (.take 2 (.take 3 (.take 4 (.take 5 (.take 6 (.take 7 (.take 8 (.take 9 (.take 10 (.take 11 (.take 12 (.take 13 (.take 14 (.take 15 (.take 16 (.take 17 (.take 18 (.take 19 (.take 20 (.take 21 (.take 22 (.take 23 (.take 24 (.take 25 (.take 26 (.alt 27 (.alt 28 (.alt 29 (.take 30 (.take 31 (.take 32 (.alt 33 (.take 34 (.take 35 (.take 36 .done))) .done)))) .done) .done) .done)))))))))))))))))))))))))))) (Exists.intro [] (Exists.intro [] (And.intro rfl ?_)))
  refine condI hF (fun hF => ?_) (fun hF => ?_)
  · refine gdYT ?_
    refine condT ?_
    refine condI hF (fun hF => ?_) (fun hF => ?_)
    · refine gdYT ?_
      refine condT ?_
      refine condI hF (fun hF => ?_) (fun hF => ?_)
      · refine gdYT ?_
        refine condT ?_
        refine condI hF (fun hF => ?_) (fun hF => ?_)
        · refine gdYT ?_
          refine condT ?_
          refine condI hF (fun hF => ?_) (fun hF => ?_)
          · refine gdYT ?_
            refine condT ?_
            refine condI hF (fun hF => ?_) (fun hF => ?_)
            · refine condT ?_
              refine condI hF (fun hF => ?_) (fun hF => ?_)
              · refine And.intro trivial ?_
                refine gdYT ?_
                refine Or.inl ?_
                refine And.intro trivial ?_
                refine gdYT ?_
                obtain ⟨q8_28, hq8_28, hF⟩ := bindE hF
                refine Or.inl (And.intro f30_in (callV0 (callI C30 [(25769803776 : Int)] q8_28 [] false C30_holds hq8_28 rfl rfl ?_)))
                refine (And.intro rfl (And.intro (fun h => nomatch h) (And.intro rfl (And.intro rfl (And.intro trivial (And.intro trivial ?_))))))
                refine And.intro trivial ?_
                refine gdYT ?_
                obtain ⟨q8_29, hq8_29, hF⟩ := bindE hF
                refine Or.inl (And.intro f19_in (callV0 (callI C19 ((r6.2.1, r6.2.2.1), (q8_28.2, q8_28.1)) q8_29 [] true C19_holds hq8_29 rfl rfl ?_)))
                refine (And.intro rfl (And.intro rfl (And.intro rfl (And.intro rfl (And.intro (fun _ => rfl) (And.intro rfl (And.intro rfl (And.intro trivial (And.intro trivial ?_)))))))))
                refine condT ?_
                refine condI hF (fun hF => ?_) (fun hF => ?_)
                · refine And.intro trivial ?_
                  refine gdYT ?_
                  obtain ⟨q8_33, hq8_33, hF⟩ := bindE hF
                  refine Or.inl (And.intro f33_in (callV0 (callI C33 r6.2.2.2 q8_33 [(0, some 0), (1, some 14)] false C33_holds hq8_33 rfl rfl ?_)))
                  refine (And.intro (fun h => nomatch h) (And.intro rfl (And.intro rfl (And.intro (And.intro rfl trivial) (And.intro (And.intro rfl (And.intro rfl trivial)) ?_)))))
                  refine gdYT ?_
                  refine condT ?_
                  have hy := someE hF
                  subst hy
                  refine And.intro rfl (Exists.intro [] (Exists.intro [] (Exists.intro [] (Exists.intro [] (Exists.intro [] (And.intro rfl (And.intro rfl (And.intro trivial trivial))))))))
                · refine And.intro trivial ?_
                  refine gdNT ?_
                  refine gdNT ?_
                  refine condF ?_
                  have hy := someE hF
                  subst hy
                  refine And.intro rfl (Exists.intro [] (Exists.intro [] (Exists.intro [] (Exists.intro [] (Exists.intro [] (And.intro rfl (And.intro rfl (And.intro trivial trivial))))))))
              · refine And.intro trivial ?_
                refine gdNT ?_
                refine And.intro trivial ?_
                refine gdNT ?_
                refine And.intro trivial ?_
                refine gdNT ?_
                refine condF ?_
                refine gdNT ?_
                refine And.intro trivial ?_
                refine gdNT ?_
                refine gdNT ?_
                refine condF ?_
                have hy := someE hF
                subst hy
                refine And.intro rfl (Exists.intro [] (Exists.intro [] (Exists.intro [] (Exists.intro [] (Exists.intro [] (And.intro rfl (And.intro rfl (And.intro trivial trivial))))))))
            · refine condF ?_
              refine gdNT ?_
              refine And.intro trivial ?_
              refine gdNT ?_
              refine And.intro trivial ?_
              refine gdNT ?_
              refine And.intro trivial ?_
              refine gdNT ?_
              refine condF ?_
              refine gdNT ?_
              refine And.intro trivial ?_
              refine gdNT ?_
              refine gdNT ?_
              refine condF ?_
              have hy := someE hF
              subst hy
              refine And.intro rfl (Exists.intro [] (Exists.intro [] (Exists.intro [] (Exists.intro [] (Exists.intro [] (And.intro rfl (And.intro rfl (And.intro trivial trivial))))))))
          · refine gdNT ?_
            refine condF ?_
            refine gdNT ?_
            refine condF ?_
            refine gdNT ?_
            refine And.intro trivial ?_
            refine gdNT ?_
            refine And.intro trivial ?_
            refine gdNT ?_
            refine And.intro trivial ?_
            refine gdNT ?_
            refine condF ?_
            refine gdNT ?_
            refine And.intro trivial ?_
            refine gdNT ?_
            refine gdNT ?_
            refine condF ?_
            have hy := someE hF
            subst hy
            refine And.intro rfl (Exists.intro [] (Exists.intro [] (Exists.intro [] (Exists.intro [] (Exists.intro [] (And.intro rfl (And.intro rfl (And.intro trivial trivial))))))))
        · refine gdNT ?_
          refine condF ?_
          refine gdNT ?_
          refine gdNT ?_
          refine condF ?_
          refine gdNT ?_
          refine condF ?_
          refine gdNT ?_
          refine And.intro trivial ?_
          refine gdNT ?_
          refine And.intro trivial ?_
          refine gdNT ?_
          refine And.intro trivial ?_
          refine gdNT ?_
          refine condF ?_
          refine gdNT ?_
          refine And.intro trivial ?_
          refine gdNT ?_
          refine gdNT ?_
          refine condF ?_
          have hy := someE hF
          subst hy
          refine And.intro rfl (Exists.intro [] (Exists.intro [] (Exists.intro [] (Exists.intro [] (Exists.intro [] (And.intro rfl (And.intro rfl (And.intro trivial trivial))))))))
      · refine gdNT ?_
        refine condF ?_
        refine gdNT ?_
        refine gdNT ?_
        refine condF ?_
        refine gdNT ?_
        refine gdNT ?_
        refine condF ?_
        refine gdNT ?_
        refine condF ?_
        refine gdNT ?_
        refine And.intro trivial ?_
        refine gdNT ?_
        refine And.intro trivial ?_
        refine gdNT ?_
        refine And.intro trivial ?_
        refine gdNT ?_
        refine condF ?_
        refine gdNT ?_
        refine And.intro trivial ?_
        refine gdNT ?_
        refine gdNT ?_
        refine condF ?_
        have hy := someE hF
        subst hy
        refine And.intro rfl (Exists.intro [] (Exists.intro [] (Exists.intro [] (Exists.intro [] (Exists.intro [] (And.intro rfl (And.intro rfl (And.intro trivial trivial))))))))
    · refine gdNT ?_
      refine condF ?_
      refine gdNT ?_
      refine gdNT ?_
      refine condF ?_
      refine gdNT ?_
      refine gdNT ?_
      refine condF ?_
      refine gdNT ?_
      refine gdNT ?_
      refine condF ?_
      refine gdNT ?_
      refine condF ?_
      refine gdNT ?_
      refine And.intro trivial ?_
      refine gdNT ?_
      refine And.intro trivial ?_
      refine gdNT ?_
      refine And.intro trivial ?_
      refine gdNT ?_
      refine condF ?_
      refine gdNT ?_
      refine And.intro trivial ?_
      refine gdNT ?_
      refine gdNT ?_
      refine condF ?_
      have hy := someE hF
      subst hy
      refine And.intro rfl (Exists.intro [] (Exists.intro [] (Exists.intro [] (Exists.intro [] (Exists.intro [] (And.intro rfl (And.intro rfl (And.intro trivial trivial))))))))
  · refine gdNT ?_
    refine condF ?_
    refine gdNT ?_
    refine gdNT ?_
    refine condF ?_
    refine gdNT ?_
    refine gdNT ?_
    refine condF ?_
    refine gdNT ?_
    refine gdNT ?_
    refine condF ?_
    refine gdNT ?_
    refine gdNT ?_
    refine condF ?_
    refine gdNT ?_
    refine condF ?_
    refine gdNT ?_
    refine And.intro trivial ?_
    refine gdNT ?_
    refine And.intro trivial ?_
    refine gdNT ?_
    refine And.intro trivial ?_
    refine gdNT ?_
    refine condF ?_
    refine gdNT ?_
    refine And.intro trivial ?_
    refine gdNT ?_
    refine gdNT ?_
    refine condF ?_
    have hy := someE hF
    subst hy
    refine And.intro rfl (Exists.intro [] (Exists.intro [] (Exists.intro [] (Exists.intro [] (Exists.intro [] (And.intro rfl (And.intro rfl (And.intro trivial trivial))))))))
theorem C26_holds : C26.Holds Try.prog 26 := holds_of_vc tab_ok mixed (fn := Try.f26) (by kernel_rfl) rfl C26 (fun x y hF => C26_vc y hF)
theorem f26_in : ∃ fn, Try.prog.funcs[26]? = some fn ∧ fn.body.isSome = true ∧ (fn.name == "runtime.NumGoroutine") = false := ⟨Try.f26, by kernel_rfl, by kernel_rfl, by kernel_rfl⟩
end Go.Proofs
namespace Go.Proofs
open Go.AM
-- carousel/carousellaw10.TapeOps
def f12_j1 (a : (List Int) × (List Int)) (b : (List Int) × (List Int)) : Option (Sum Unit Unit) :=
  bif (decide ((List.length a.1 : Int) > (10 : Int))) then
    some (Sum.inr ())
  else
    bif (decide ((List.length a.2 : Int) > (60 : Int))) then
      some (Sum.inr ())
    else
      bif (decide ((List.length b.1 : Int) > (10 : Int))) then
        some (Sum.inr ())
      else
        bif (decide ((List.length b.2 : Int) > (60 : Int))) then
          some (Sum.inr ())
        else
          some (Sum.inl ())
def f12_j4 (r3 : Int × Int × (List (Int × Int × Int × Int × (List Int) × (List Int)))) (r4 : Int × Int × (List (Int × Int × Int × Int × (List Int) × (List Int)))) : Option Bool :=
  bif (r3.2.1 != (0 : Int)) then
    some true
  else
    some (r4.2.1 != (0 : Int))
def f12_j3 (r3 : Int × Int × (List (Int × Int × Int × Int × (List Int) × (List Int)))) (r4 : Int × Int × (List (Int × Int × Int × Int × (List Int) × (List Int)))) : Option (Sum Unit Bool) :=
  bindF (f12_j4 r3 r4) fun z7 =>
  bif z7 then
    bif (r3.2.1 == (1 : Int)) then
      some (Sum.inr true)
    else
      some (Sum.inr (r4.2.1 == (1 : Int)))
  else
    some (Sum.inl ())
def f12_l5 (k : Int) (r3 : Int × Int × (List (Int × Int × Int × Int × (List Int) × (List Int)))) (r4 : Int × Int × (List (Int × Int × Int × Int × (List Int) × (List Int)))) (r8 : Int × (List Int) × (List Int)) (r9 : Int × (List Int) × (List Int)) (r10 : Int × (List Int) × (List Int)) (r11 : Int × (List Int) × (List Int)) (go : (Int × (List (Int × Int × Int × Int × (List Int) × (List Int)))) → Option (Sum Unit Unit)) (i : Int) (l3 : List (Int × Int × Int × Int × (List Int) × (List Int))) : Option (Sum Unit Unit) :=
  bif (decide (i < (4 : Int))) then
    guardF (0 ≤ i ∧ i < (4 : Int)) <|
    pickF i
      [(bindF (f29 l3 (2 : Int) r3.1 r4.1 k) fun q19_13 =>
        bif (q19_13.2.1 != r8.1) then
          some (Sum.inl ())
        else
          bif (q19_13.2.1 != (0 : Int)) then
            go ((IntKind.i64.wrap (i + (1 : Int))), q19_13.2.2)
          else
            bindF (f32 q19_13.2.2 q19_13.1) fun q19_18 =>
            bif (!q19_18.1) then
              some (Sum.inl ())
            else
              bindF (f19 (q19_18.2.1, q19_18.2.2.1) (r8.2.1, r8.2.2)) fun q24_7 =>
              bif (!q24_7) then
                some (Sum.inl ())
              else
                go ((IntKind.i64.wrap (i + (1 : Int))), q19_18.2.2.2)),
       (bindF (f29 l3 (5 : Int) r3.1 r4.1 k) fun q19_13 =>
        bif (q19_13.2.1 != r9.1) then
          some (Sum.inl ())
        else
          bif (q19_13.2.1 != (0 : Int)) then
            go ((IntKind.i64.wrap (i + (1 : Int))), q19_13.2.2)
          else
            bindF (f32 q19_13.2.2 q19_13.1) fun q19_18 =>
            bif (!q19_18.1) then
              some (Sum.inl ())
            else
              bindF (f19 (q19_18.2.1, q19_18.2.2.1) (r9.2.1, r9.2.2)) fun q24_7 =>
              bif (!q24_7) then
                some (Sum.inl ())
              else
                go ((IntKind.i64.wrap (i + (1 : Int))), q19_18.2.2.2)),
       (bindF (f29 l3 (6 : Int) r3.1 r4.1 k) fun q19_13 =>
        bif (q19_13.2.1 != r10.1) then
          some (Sum.inl ())
        else
          bif (q19_13.2.1 != (0 : Int)) then
            go ((IntKind.i64.wrap (i + (1 : Int))), q19_13.2.2)
          else
            bindF (f32 q19_13.2.2 q19_13.1) fun q19_18 =>
            bif (!q19_18.1) then
              some (Sum.inl ())
            else
              bindF (f19 (q19_18.2.1, q19_18.2.2.1) (r10.2.1, r10.2.2)) fun q24_7 =>
              bif (!q24_7) then
                some (Sum.inl ())
              else
                go ((IntKind.i64.wrap (i + (1 : Int))), q19_18.2.2.2)),
       (bindF (f29 l3 (7 : Int) r4.1 r4.1 k) fun q19_13 =>
        bif (q19_13.2.1 != r11.1) then
          some (Sum.inl ())
        else
          bif (q19_13.2.1 != (0 : Int)) then
            go ((IntKind.i64.wrap (i + (1 : Int))), q19_13.2.2)
          else
            bindF (f32 q19_13.2.2 q19_13.1) fun q19_18 =>
            bif (!q19_18.1) then
              some (Sum.inl ())
            else
              bindF (f19 (q19_18.2.1, q19_18.2.2.1) (r11.2.1, r11.2.2)) fun q24_7 =>
              bif (!q24_7) then
                some (Sum.inl ())
              else
                go ((IntKind.i64.wrap (i + (1 : Int))), q19_18.2.2.2))]
  else
    some (Sum.inr ())
def f12 (a : (List Int) × (List Int)) (b : (List Int) × (List Int)) (k : Int) : Option Bool :=
  bindF (f26) fun q24_9 =>
  bif (!q24_9) then
    some false
  else
    bindF (f12_j1 a b) fun z1 =>
    sumF z1 (fun z1a =>
      bindF (f27) fun r2 =>
      bindF (f28 ([]) (a.1, a.2)) fun r3 =>
      bindF (f28 r3.2.2 (b.1, b.2)) fun r4 =>
      bindF (f12_j3 r3 r4) fun z6 =>
      sumF z6 (fun z6a =>
        bindF (f34 (a.1, a.2) (b.1, b.2)) fun r8 =>
        bindF (f35 (a.1, a.2) k) fun r9 =>
        bindF (f17 (a.1, a.2) (b.1, b.2)) fun r10 =>
        bindF (f18 (b.1, b.2)) fun r11 =>
        bindF (loopF (fun go x => f12_l5 k r3 r4 r8 r9 r10 r11 go x.1 x.2) fuelN ((0 : Int), r4.2.2)) fun z13 =>
        sumF z13 (fun z13a =>
          some false) (fun z13b =>
          some true)) (fun z6b =>
        some z6b)) (fun z1b =>
      some true)
def C12 : Con where
  X := ((List Int) × (List Int)) × ((List Int) × (List Int)) × Int
  Y := Bool
  e := 0
  args x := [.dat (.p (.sl (.int .i64)) (.sl (.int .i64))) x.1, .dat (.p (.sl (.int .i64)) (.sl (.int .i64))) x.2.1, .dat (.int .i64) x.2.2]
  hin x := []
  F x := f12 x.1 x.2.1 x.2.2
  ret y := [.dat .bool y]
  hout y := []
  nout := 0
theorem C12_vc (a : (List Int) × (List Int)) (b : (List Int) × (List Int)) (k : Int) (y : Bool) (hF : f12 a b k = some y) : vc Try.prog tab Try.f12.ntmps 0 (match Try.f12.body with | some c => c | none => .skip) (retK tab C12 Try.f12.results.toList y) (C12.shIn (a, b, k)).st := by
  unfold f12 at hF
  refine Or.inl ?_
  refine Or.inl ?_
  refine Or.inl ?_
  obtain ⟨q24_9, hq24_9, hF⟩ := bindE hF
  refine Or.inl (And.intro f26_in (callV0 (callI C26 () q24_9 [] false C26_holds hq24_9 rfl rfl ?_)))
  refine (And.intro (fun h => nomatch h) (And.intro rfl (And.intro rfl (And.intro trivial (And.intro trivial ?_)))))
  refine condI hF (fun hF => ?_) (fun hF => ?_)
  · refine Or.inl ?_
    have hy := someE hF
    subst hy
    refine And.intro rfl (Exists.intro [] (Exists.intro [] (Exists.intro [] (Exists.intro [] (Exists.intro [] (And.intro rfl (And.intro rfl (And.intro trivial trivial))))))))
  · obtain ⟨z1, hz1, hF⟩ := bindE hF
    refine Or.inr ⟨Sum.elim (fun z1a => [(0, ⟨[(2, .dat (.int .i64) k), (3, .raw false [(.ptr 0 0)]), (4, .raw false [(.ptr 1 0)])], [(0, .cells [(.d (.sl (.int .i64)) a.1), (.d (.sl (.int .i64)) a.2)]), (1, .cells [(.d (.sl (.int .i64)) b.1), (.d (.sl (.int .i64)) b.2)])], 2⟩)]) (fun z1b => [(1, ⟨[(6, .dat .bool true)], [], 0⟩)]) z1, ?_, ?_⟩
    · have hF := hz1
      clear hz1
      unfold f12_j1 at hF
      refine Or.inl ?_
      refine condN hF (fun hF => ?_) (fun hF => ?_)
      · refine gdYF ?_
        refine gdYF ?_
        refine gdYF ?_
        refine condF ?_
        refine condN hF (fun hF => ?_) (fun hF => ?_)
        · refine gdYF ?_
          refine gdYF ?_
          refine gdYF ?_
          refine condF ?_
          refine condN hF (fun hF => ?_) (fun hF => ?_)
          · refine gdYF ?_
            refine gdYF ?_
            refine gdYF ?_
            refine condF ?_
            refine condI hF (fun hF => ?_) (fun hF => ?_)
            · refine Or.inl ?_
              have hz := someE hF
              subst hz
              refine Exists.intro [] (Exists.intro [] (Exists.intro [] (Exists.intro [] (Exists.intro [] (And.intro rfl (And.intro rfl (And.intro trivial trivial)))))))
            · have hz := someE hF
              subst hz
              refine Exists.intro [] (Exists.intro [] (Exists.intro [] (Exists.intro [] (Exists.intro [(0, some 0), (1, some 1)] (And.intro rfl (And.intro rfl (And.intro (And.intro rfl (And.intro rfl trivial)) (And.intro rfl (And.intro rfl trivial)))))))))
          · refine gdNF ?_
            refine gdNF ?_
            refine gdNF ?_
            refine condT ?_
            refine condT ?_
            refine Or.inl ?_
            have hz := someE hF
            subst hz
            refine Exists.intro [] (Exists.intro [] (Exists.intro [] (Exists.intro [] (Exists.intro [] (And.intro rfl (And.intro rfl (And.intro trivial trivial)))))))
        · refine gdNF ?_
          refine gdNF ?_
          refine gdNF ?_
          refine condT ?_
          refine gdNF ?_
          refine gdNF ?_
          refine gdNF ?_
          refine gdNF ?_
          refine condT ?_
          refine condT ?_
          refine Or.inl ?_
          have hz := someE hF
          subst hz
          refine Exists.intro [] (Exists.intro [] (Exists.intro [] (Exists.intro [] (Exists.intro [] (And.intro rfl (And.intro rfl (And.intro trivial trivial)))))))
      · refine gdNF ?_
        refine gdNF ?_
        refine gdNF ?_
        refine condT ?_
        refine gdNF ?_
        refine gdNF ?_
        refine gdNF ?_
        refine gdNF ?_
        refine condT ?_
        refine gdNF ?_
        refine gdNF ?_
        refine gdNF ?_
        refine gdNF ?_
        refine condT ?_
        refine condT ?_
        refine Or.inl ?_
        have hz := someE hF
        subst hz
        refine Exists.intro [] (Exists.intro [] (Exists.intro [] (Exists.intro [] (Exists.intro [] (And.intro rfl (And.intro rfl (And.intro trivial trivial)))))))
    · rcases z1 with z1a | z1b
      · dsimp only [sumF] at hF
        refine And.intro ?_ trivial
        refine Or.inl ?_
        obtain ⟨r2, hr2, hF⟩ := bindE hF
        refine Or.inl (And.intro f27_in (callV0 (callI C27 () r2 [] false C27_holds hr2 rfl rfl ?_)))
        refine (And.intro (fun h => nomatch h) (And.intro rfl (And.intro rfl (And.intro trivial (And.intro trivial ?_)))))
        refine Or.inl ?_
        obtain ⟨r3, hr3, hF⟩ := bindE hF
        refine Or.inl (And.intro f28_in (callV0 (callI C28 ([], (a.1, a.2)) r3 [(0, some 2), (1, some 3)] false C28_holds hr3 rfl rfl ?_)))
        refine (And.intro rfl (And.intro rfl (And.intro (fun h => nomatch h) (And.intro rfl (And.intro rfl (And.intro (And.intro rfl trivial) (And.intro (And.intro rfl (And.intro rfl trivial)) ?_)))))))
        refine Or.inl ?_
        obtain ⟨r4, hr4, hF⟩ := bindE hF
        refine Or.inl (And.intro f28_in (callV0 (callI C28 (r3.2.2, (b.1, b.2)) r4 [(0, some 2), (1, some 6)] false C28_holds hr4 rfl rfl ?_)))
        refine (And.intro rfl (And.intro rfl (And.intro (fun h => nomatch h) (And.intro rfl (And.intro rfl (And.intro (And.intro rfl trivial) (And.intro (And.intro rfl (And.intro rfl trivial)) ?_)))))))
        obtain ⟨z6, hz6, hF⟩ := bindE hF
        refine Or.inr ⟨Sum.elim (fun z6a => [(0, ⟨[(2, .dat (.int .i64) k), (3, .raw false [(.ptr 0 0)]), (4, .raw false [(.ptr 1 0)]), (7, .raw false [(.ptr 2 0)]), (8, .dat (.int .i64) r3.1), (10, .dat (.int .i64) r4.1)], [(0, .cells [(.d (.sl (.int .i64)) a.1), (.d (.sl (.int .i64)) a.2)]), (1, .cells [(.d (.sl (.int .i64)) b.1), (.d (.sl (.int .i64)) b.2)]), (2, .cells [(.osl 3)]), (3, .arr 51 (.p (.int .i64) (.p (.int .i64) (.p (.int .i64) (.p (.int .i64) (.p (.sl (.int .i64)) (.sl (.int .i64))))))) r4.2.2)], 4⟩)]) (fun z6b => [(1, ⟨[(6, .dat .bool z6b)], [], 0⟩)]) z6, ?_, ?_⟩
        · have hF := hz6
          clear hz6
          unfold f12_j3 at hF
          obtain ⟨z7, hz7, hF⟩ := bindE hF
          refine Or.inr ⟨[(0, ⟨[(2, .dat (.int .i64) k), (3, .raw false [(.ptr 0 0)]), (4, .raw false [(.ptr 1 0)]), (7, .raw false [(.ptr 2 0)]), (8, .dat (.int .i64) r3.1), (9, .dat (.int .i64) r3.2.1), (10, .dat (.int .i64) r4.1), (11, .dat (.int .i64) r4.2.1), (61, .dat .bool z7)], [(0, .cells [(.d (.sl (.int .i64)) a.1), (.d (.sl (.int .i64)) a.2)]), (1, .cells [(.d (.sl (.int .i64)) b.1), (.d (.sl (.int .i64)) b.2)]), (2, .cells [(.osl 3)]), (3, .arr 51 (.p (.int .i64) (.p (.int .i64) (.p (.int .i64) (.p (.int .i64) (.p (.sl (.int .i64)) (.sl (.int .i64))))))) r4.2.2)], 4⟩)], ?_, ?_⟩
          · have hF := hz7
            clear hz7
            unfold f12_j4 at hF
            refine condN hF (fun hF => ?_) (fun hF => ?_)
            · refine gdYF ?_
              refine condF ?_
              have hz := someE hF
              subst hz
              refine Exists.intro [] (Exists.intro [] (Exists.intro [] (Exists.intro [] (Exists.intro [(0, some 0), (1, some 1), (2, some 2), (3, some 9)] (And.intro rfl (And.intro rfl (And.intro rfl (And.intro rfl (And.intro rfl (And.intro rfl (And.intro rfl (And.intro (And.intro rfl (And.intro rfl (And.intro rfl trivial))) (And.intro rfl (And.intro rfl (And.intro rfl (And.intro rfl trivial))))))))))))))))
            · refine gdNF ?_
              refine condT ?_
              have hz := someE hF
              subst hz
              refine Exists.intro [] (Exists.intro [] (Exists.intro [] (Exists.intro [] (Exists.intro [(0, some 0), (1, some 1), (2, some 2), (3, some 9)] (And.intro rfl (And.intro rfl (And.intro rfl (And.intro rfl (And.intro rfl (And.intro rfl (And.intro rfl (And.intro (And.intro rfl (And.intro rfl (And.intro rfl trivial))) (And.intro rfl (And.intro rfl (And.intro rfl (And.intro rfl trivial))))))))))))))))
          · refine And.intro ?_ trivial
            refine condI hF (fun hF => ?_) (fun hF => ?_)
            · refine Or.inl ?_
              refine condN hF (fun hF => ?_) (fun hF => ?_)
              · refine gdYF ?_
                refine condF ?_
                have hz := someE hF
                subst hz
                refine Exists.intro [] (Exists.intro [] (Exists.intro [] (Exists.intro [] (Exists.intro [] (And.intro rfl (And.intro rfl (And.intro trivial trivial)))))))
              · refine gdNF ?_
                refine condT ?_
                have hz := someE hF
                subst hz
                refine Exists.intro [] (Exists.intro [] (Exists.intro [] (Exists.intro [] (Exists.intro [] (And.intro rfl (And.intro rfl (And.intro trivial trivial)))))))
            · have hz := someE hF
              subst hz
              refine Exists.intro [] (Exists.intro [] (Exists.intro [] (Exists.intro [] (Exists.intro [(0, some 0), (1, some 1), (2, some 2), (3, some 3)] (And.intro rfl (And.intro rfl (And.intro rfl (And.intro rfl (And.intro (And.intro rfl (And.intro rfl (And.intro rfl trivial))) (And.intro rfl (And.intro rfl (And.intro rfl (And.intro rfl trivial)))))))))))))
        · rcases z6 with z6a | z6b
          · dsimp only [sumF] at hF
            refine And.intro ?_ trivial
            refine Or.inl ?_
            refine Or.inl ?_
            refine Or.inl ?_
            refine Or.inl ?_
            refine Or.inl ?_
            obtain ⟨r8, hr8, hF⟩ := bindE hF
            refine Or.inl (And.intro f34_in (callV0 (callI C34 ((a.1, a.2), (b.1, b.2)) r8 [] false C34_holds hr8 rfl rfl ?_)))
            refine (And.intro rfl (And.intro rfl (And.intro rfl (And.intro rfl (And.intro (fun h => nomatch h) (And.intro rfl (And.intro rfl (And.intro trivial (And.intro trivial ?_)))))))))
            refine And.intro (by decide) ?_
            refine And.intro (fun _ => ?_) (And.intro (fun h => absurd h (by decide)) (And.intro (fun h => absurd h (by decide)) (And.intro (fun h => absurd h (by decide)) trivial)))
            refine Or.inl ?_
            refine And.intro (by decide) ?_
            refine And.intro (fun _ => ?_) (And.intro (fun h => absurd h (by decide)) (And.intro (fun h => absurd h (by decide)) (And.intro (fun h => absurd h (by decide)) trivial)))
            refine Or.inl ?_
            refine Or.inl ?_
            obtain ⟨r9, hr9, hF⟩ := bindE hF
            refine Or.inl (And.intro f35_in (callV0 (callI C35 ((a.1, a.2), k) r9 [] false C35_holds hr9 rfl rfl ?_)))
            refine (And.intro rfl (And.intro rfl (And.intro rfl (And.intro (fun h => nomatch h) (And.intro rfl (And.intro rfl (And.intro trivial (And.intro trivial ?_))))))))
            refine And.intro (by decide) ?_
            refine And.intro (fun h => absurd h (by decide)) ?_
            refine And.intro (fun _ => ?_) (And.intro (fun h => absurd h (by decide)) (And.intro (fun h => absurd h (by decide)) trivial))
            refine Or.inl ?_
            refine And.intro (by decide) ?_
            refine And.intro (fun h => absurd h (by decide)) ?_
            refine And.intro (fun _ => ?_) (And.intro (fun h => absurd h (by decide)) (And.intro (fun h => absurd h (by decide)) trivial))
            refine Or.inl ?_
            refine Or.inl ?_
            obtain ⟨r10, hr10, hF⟩ := bindE hF
            refine Or.inl (And.intro f17_in (callV0 (callI C17 ((a.1, a.2), (b.1, b.2)) r10 [] false C17_holds hr10 rfl rfl ?_)))
            refine (And.intro rfl (And.intro rfl (And.intro rfl (And.intro rfl (And.intro (fun h => nomatch h) (And.intro rfl (And.intro rfl (And.intro trivial (And.intro trivial ?_)))))))))
            refine And.intro (by decide) ?_
            refine And.intro (fun h => absurd h (by decide)) ?_
            refine And.intro (fun h => absurd h (by decide)) ?_
            refine And.intro (fun _ => ?_) (And.intro (fun h => absurd h (by decide)) trivial)
            refine Or.inl ?_
            refine And.intro (by decide) ?_
            refine And.intro (fun h => absurd h (by decide)) ?_
            refine And.intro (fun h => absurd h (by decide)) ?_
            refine And.intro (fun _ => ?_) (And.intro (fun h => absurd h (by decide)) trivial)
            refine Or.inl ?_
            refine Or.inl ?_
            obtain ⟨r11, hr11, hF⟩ := bindE hF
            refine Or.inl (And.intro f18_in (callV0 (callI C18 (b.1, b.2) r11 [] false C18_holds hr11 rfl rfl ?_)))
            refine (And.intro rfl (And.intro rfl (And.intro (fun h => nomatch h) (And.intro rfl (And.intro rfl (And.intro trivial (And.intro trivial ?_)))))))
            refine And.intro (by decide) ?_
            refine And.intro (fun h => absurd h (by decide)) ?_
            refine And.intro (fun h => absurd h (by decide)) ?_
            refine And.intro (fun h => absurd h (by decide)) ?_
            refine And.intro (fun _ => ?_) trivial
            refine Or.inl ?_
            refine And.intro (by decide) ?_
            refine And.intro (fun h => absurd h (by decide)) ?_
            refine And.intro (fun h => absurd h (by decide)) ?_
            refine And.intro (fun h => absurd h (by decide)) ?_
            refine And.intro (fun _ => ?_) trivial
            refine Or.inl ?_
            refine Or.inl ?_
            refine Or.inl ?_
            obtain ⟨z13, hz13, hF⟩ := bindE hF
            refine loopI (Int × (List (Int × Int × Int × Int × (List Int) × (List Int)))) (Sum Unit Unit) (fun x => ⟨[(2, .dat (.int .i64) k), (7, .raw false [(.ptr 0 0)]), (8, .dat (.int .i64) r3.1), (10, .dat (.int .i64) r4.1), (12, .raw false [(.ptr 1 0)]), (13, .raw false [(.ptr 2 0)]), (14, .dat (.int .i64) x.1)], [(0, .cells [(.osl 3)]), (1, .cells [(.osl 4), (.osl 5), (.osl 6), (.osl 7), (.osl 8), (.osl 9), (.osl 10), (.osl 11)]), (2, .cells [(.d (.int .i64) r8.1), (.d (.int .i64) r9.1), (.d (.int .i64) r10.1), (.d (.int .i64) r11.1)]), (3, .arr 51 (.p (.int .i64) (.p (.int .i64) (.p (.int .i64) (.p (.int .i64) (.p (.sl (.int .i64)) (.sl (.int .i64))))))) x.2), (4, .arr 3 (.int .i64) r8.2.1), (5, .arr 24 (.int .i64) r8.2.2), (6, .arr 3 (.int .i64) r9.2.1), (7, .arr 24 (.int .i64) r9.2.2), (8, .arr 3 (.int .i64) r10.2.1), (9, .arr 24 (.int .i64) r10.2.2), (10, .arr 3 (.int .i64) r11.2.1), (11, .arr 24 (.int .i64) r11.2.2)], 12⟩) (fun z => Sum.elim (fun za => [(1, ⟨[(6, .dat .bool false)], [], 0⟩)]) (fun zb => [(2, ⟨[], [], 0⟩)]) z) (loopF (fun go x => f12_l5 k r3 r4 r8 r9 r10 r11 go x.1 x.2)) fuelN ((0 : Int), r4.2.2) z13 (And.intro hz13 (And.intro (Exists.intro [] (Exists.intro [] (Exists.intro [] (Exists.intro [] (Exists.intro [(0, some 2), (1, some 4), (2, some 5), (3, some 3), (4, some 6), (5, some 7), (6, some 8), (7, some 9), (8, some 10), (9, some 11), (10, some 12), (11, some 13)] (And.intro rfl (And.intro rfl (And.intro rfl (And.intro rfl (And.intro rfl (And.intro (And.intro rfl (And.intro rfl (And.intro rfl trivial))) (And.intro rfl (And.intro rfl (And.intro rfl (And.intro rfl (And.intro rfl (And.intro rfl (And.intro rfl (And.intro rfl (And.intro rfl (And.intro rfl (And.intro rfl (And.intro rfl trivial))))))))))))))))))))))) (And.intro (fun _ _ h => loopZ h) (And.intro (fun m => curI (fun i => fun l3 z hF => ?_)) ?_))))
            · have hF : f12_l5 k r3 r4 r8 r9 r10 r11 (loopF (fun go x => f12_l5 k r3 r4 r8 r9 r10 r11 go x.1 x.2) m) i l3 = some z := hF
              unfold f12_l5 at hF
              refine Or.inl ?_
              refine Or.inl ?_
              refine condI hF (fun hF => ?_) (fun hF => ?_)
              · refine Or.inl ?_
                refine Or.inl ?_
                refine Exists.intro (.take 0 (.take 1 (.take 2 (.take 3 (.take 4 (.take 5 (.take 6 (.take 7 (.take 8 (.take 9 (.take 10 (.take 11 (.take 12 (.alt 13 (.take 14 (.take 15 (.take 16 (.take 17 (.take 18 .done))))) .done)))))))))))))) (Exists.intro [] (Exists.intro [] (And.intro rfl ?_)))
                refine guardI hF (fun hF => ?_)
                refine And.intro (fun hk14 => ?_) ?_
                · have hF := pickE hF hk14
                  dsimp only [nthO] at hF
                  refine And.intro (rangeE hk14 (by decide)) ?_
                  refine And.intro (fun _ => ?_) (And.intro (fun h => absurd (hk14.symm.trans h) (by decide)) (And.intro (fun h => absurd (hk14.symm.trans h) (by decide)) (And.intro (fun h => absurd (hk14.symm.trans h) (by decide)) trivial)))
                  refine And.intro trivial ?_
                  obtain ⟨q19_13, hq19_13, hF⟩ := bindE hF
                  refine Or.inl (And.intro f29_in (callV0 (callI C29 (l3, (2 : Int), r3.1, r4.1, k) q19_13 [(0, some 0), (1, some 3)] false C29_holds hq19_13 rfl rfl ?_)))
                  refine (And.intro rfl (And.intro rfl (And.intro rfl (And.intro rfl (And.intro (fun h => nomatch h) (And.intro rfl (And.intro rfl (And.intro (And.intro rfl trivial) (And.intro (And.intro rfl (And.intro rfl trivial)) ?_)))))))))
                  refine Or.inl ?_
                  refine Or.inl ?_
                  refine And.intro (rangeE hk14 (by decide)) ?_
                  refine And.intro (fun _ => ?_) (And.intro (fun h => absurd (hk14.symm.trans h) (by decide)) (And.intro (fun h => absurd (hk14.symm.trans h) (by decide)) (And.intro (fun h => absurd (hk14.symm.trans h) (by decide)) trivial)))
                  refine condI hF (fun hF => ?_) (fun hF => ?_)
                  · refine Or.inl ?_
                    have hz := someE hF
                    subst hz
                    refine Exists.intro [] (Exists.intro [] (Exists.intro [] (Exists.intro [] (Exists.intro [] (And.intro rfl (And.intro rfl (And.intro trivial trivial)))))))
                  · refine Or.inl ?_
                    refine Or.inl ?_
                    refine condI hF (fun hF => ?_) (fun hF => ?_)
                    · refine Exists.intro ((IntKind.i64.wrap (i + (1 : Int))), q19_13.2.2) (And.intro hF (Exists.intro [] (Exists.intro [] (Exists.intro [] (Exists.intro [] (Exists.intro [(0, some 0), (1, some 1), (2, some 2), (3, some 14), (4, some 4), (5, some 5), (6, some 6), (7, some 7), (8, some 8), (9, some 9), (10, some 10), (11, some 11)] (And.intro rfl (And.intro rfl (And.intro rfl (And.intro rfl (And.intro rfl (And.intro (And.intro rfl (And.intro rfl (And.intro rfl trivial))) (And.intro rfl (And.intro rfl (And.intro rfl (And.intro rfl (And.intro rfl (And.intro rfl (And.intro rfl (And.intro rfl (And.intro rfl (And.intro rfl (And.intro rfl (And.intro rfl trivial))))))))))))))))))))))))
                    · refine Or.inl ?_
                      obtain ⟨q19_18, hq19_18, hF⟩ := bindE hF
                      refine Or.inl (And.intro f32_in (callV0 (callI C32 (q19_13.2.2, q19_13.1) q19_18 [(0, some 0), (1, some 14)] false C32_holds hq19_18 rfl rfl ?_)))
                      refine (And.intro rfl (And.intro (fun h => nomatch h) (And.intro rfl (And.intro rfl (And.intro (And.intro rfl trivial) (And.intro (And.intro rfl (And.intro rfl trivial)) ?_))))))
                      refine Or.inl ?_
                      refine Or.inl ?_
                      refine Exists.intro (.take 0 (.take 1 (.take 2 (.take 3 (.take 4 (.take 5 (.take 6 (.alt 7 (.take 8 (.take 9 .done)) .done)))))))) (Exists.intro [] (Exists.intro [] (And.intro rfl ?_)))
                      refine condN hF (fun hF => ?_) (fun hF => ?_)
                      · refine gdYF ?_
                        refine gdYF ?_
                        refine And.intro (rangeE hk14 (by decide)) ?_
                        refine And.intro (fun _ => ?_) (And.intro (fun h => absurd (hk14.symm.trans h) (by decide)) (And.intro (fun h => absurd (hk14.symm.trans h) (by decide)) (And.intro (fun h => absurd (hk14.symm.trans h) (by decide)) trivial)))
                        refine gdYF ?_
                        refine And.intro trivial ?_
                        refine gdYF ?_
                        obtain ⟨q24_7, hq24_7, hF⟩ := bindE hF
                        refine Or.inl (And.intro f19_in (callV0 (callI C19 ((q19_18.2.1, q19_18.2.2.1), (r8.2.1, r8.2.2)) q24_7 [] true C19_holds hq24_7 rfl rfl ?_)))
                        refine (And.intro rfl (And.intro rfl (And.intro rfl (And.intro rfl (And.intro (fun _ => rfl) (And.intro rfl (And.intro rfl (And.intro trivial (And.intro trivial ?_)))))))))
                        refine gdYF ?_
                        refine condF ?_
                        refine condI hF (fun hF => ?_) (fun hF => ?_)
                        · refine Or.inl ?_
                          have hz := someE hF
                          subst hz
                          refine Exists.intro [] (Exists.intro [] (Exists.intro [] (Exists.intro [] (Exists.intro [] (And.intro rfl (And.intro rfl (And.intro trivial trivial)))))))
                        · refine Exists.intro ((IntKind.i64.wrap (i + (1 : Int))), q19_18.2.2.2) (And.intro hF (Exists.intro [] (Exists.intro [] (Exists.intro [] (Exists.intro [] (Exists.intro [(0, some 0), (1, some 1), (2, some 2), (3, some 14), (4, some 4), (5, some 5), (6, some 6), (7, some 7), (8, some 8), (9, some 9), (10, some 10), (11, some 11)] (And.intro rfl (And.intro rfl (And.intro rfl (And.intro rfl (And.intro rfl (And.intro (And.intro rfl (And.intro rfl (And.intro rfl trivial))) (And.intro rfl (And.intro rfl (And.intro rfl (And.intro rfl (And.intro rfl (And.intro rfl (And.intro rfl (And.intro rfl (And.intro rfl (And.intro rfl (And.intro rfl (And.intro rfl trivial))))))))))))))))))))))))
                      · refine gdNF ?_
                        refine gdNF ?_
                        refine gdNF ?_
                        refine And.intro trivial ?_
                        refine gdNF ?_
                        refine gdNF ?_
                        refine condT ?_
                        refine condT ?_
                        refine Or.inl ?_
                        have hz := someE hF
                        subst hz
                        refine Exists.intro [] (Exists.intro [] (Exists.intro [] (Exists.intro [] (Exists.intro [] (And.intro rfl (And.intro rfl (And.intro trivial trivial)))))))
                refine And.intro (fun hk14 => ?_) ?_
                · have hF := pickE hF hk14
                  dsimp only [nthO] at hF
                  refine And.intro (rangeE hk14 (by decide)) ?_
                  refine And.intro (fun h => absurd (hk14.symm.trans h) (by decide)) ?_
                  refine And.intro (fun _ => ?_) (And.intro (fun h => absurd (hk14.symm.trans h) (by decide)) (And.intro (fun h => absurd (hk14.symm.trans h) (by decide)) trivial))
                  refine And.intro trivial ?_
                  obtain ⟨q19_13, hq19_13, hF⟩ := bindE hF
                  refine Or.inl (And.intro f29_in (callV0 (callI C29 (l3, (5 : Int), r3.1, r4.1, k) q19_13 [(0, some 0), (1, some 3)] false C29_holds hq19_13 rfl rfl ?_)))
                  refine (And.intro rfl (And.intro rfl (And.intro rfl (And.intro rfl (And.intro (fun h => nomatch h) (And.intro rfl (And.intro rfl (And.intro (And.intro rfl trivial) (And.intro (And.intro rfl (And.intro rfl trivial)) ?_)))))))))
                  refine Or.inl ?_
                  refine Or.inl ?_
                  refine And.intro (rangeE hk14 (by decide)) ?_
                  refine And.intro (fun h => absurd (hk14.symm.trans h) (by decide)) ?_
                  refine And.intro (fun _ => ?_) (And.intro (fun h => absurd (hk14.symm.trans h) (by decide)) (And.intro (fun h => absurd (hk14.symm.trans h) (by decide)) trivial))
                  refine condI hF (fun hF => ?_) (fun hF => ?_)
                  · refine Or.inl ?_
                    have hz := someE hF
                    subst hz
                    refine Exists.intro [] (Exists.intro [] (Exists.intro [] (Exists.intro [] (Exists.intro [] (And.intro rfl (And.intro rfl (And.intro trivial trivial)))))))
                  · refine Or.inl ?_
                    refine Or.inl ?_
                    refine condI hF (fun hF => ?_) (fun hF => ?_)
                    · refine Exists.intro ((IntKind.i64.wrap (i + (1 : Int))), q19_13.2.2) (And.intro hF (Exists.intro [] (Exists.intro [] (Exists.intro [] (Exists.intro [] (Exists.intro [(0, some 0), (1, some 1), (2, some 2), (3, some 14), (4, some 4), (5, some 5), (6, some 6), (7, some 7), (8, some 8), (9, some 9), (10, some 10), (11, some 11)] (And.intro rfl (And.intro rfl (And.intro rfl (And.intro rfl (And.intro rfl (And.intro (And.intro rfl (And.intro rfl (And.intro rfl trivial))) (And.intro rfl (And.intro rfl (And.intro rfl (And.intro rfl (And.intro rfl (And.intro rfl (And.intro rfl (And.intro rfl (And.intro rfl (And.intro rfl (And.intro rfl (And.intro rfl trivial))))))))))))))))))))))))
                    · refine Or.inl ?_
                      obtain ⟨q19_18, hq19_18, hF⟩ := bindE hF
                      refine Or.inl (And.intro f32_in (callV0 (callI C32 (q19_13.2.2, q19_13.1) q19_18 [(0, some 0), (1, some 14)] false C32_holds hq19_18 rfl rfl ?_)))
                      refine (And.intro rfl (And.intro (fun h => nomatch h) (And.intro rfl (And.intro rfl (And.intro (And.intro rfl trivial) (And.intro (And.intro rfl (And.intro rfl trivial)) ?_))))))
                      refine Or.inl ?_
                      refine Or.inl ?_
                      refine Exists.intro (.take 0 (.take 1 (.take 2 (.take 3 (.take 4 (.take 5 (.take 6 (.alt 7 (.take 8 (.take 9 .done)) .done)))))))) (Exists.intro [] (Exists.intro [] (And.intro rfl ?_)))
                      refine condN hF (fun hF => ?_) (fun hF => ?_)
                      · refine gdYF ?_
                        refine gdYF ?_
                        refine And.intro (rangeE hk14 (by decide)) ?_
                        refine And.intro (fun h => absurd (hk14.symm.trans h) (by decide)) ?_
                        refine And.intro (fun _ => ?_) (And.intro (fun h => absurd (hk14.symm.trans h) (by decide)) (And.intro (fun h => absurd (hk14.symm.trans h) (by decide)) trivial))
                        refine gdYF ?_
                        refine And.intro trivial ?_
                        refine gdYF ?_
                        obtain ⟨q24_7, hq24_7, hF⟩ := bindE hF
                        refine Or.inl (And.intro f19_in (callV0 (callI C19 ((q19_18.2.1, q19_18.2.2.1), (r9.2.1, r9.2.2)) q24_7 [] true C19_holds hq24_7 rfl rfl ?_)))
                        refine (And.intro rfl (And.intro rfl (And.intro rfl (And.intro rfl (And.intro (fun _ => rfl) (And.intro rfl (And.intro rfl (And.intro trivial (And.intro trivial ?_)))))))))
                        refine gdYF ?_
                        refine condF ?_
                        refine condI hF (fun hF => ?_) (fun hF => ?_)
                        · refine Or.inl ?_
                          have hz := someE hF
                          subst hz
                          refine Exists.intro [] (Exists.intro [] (Exists.intro [] (Exists.intro [] (Exists.intro [] (And.intro rfl (And.intro rfl (And.intro trivial trivial)))))))
                        · refine Exists.intro ((IntKind.i64.wrap (i + (1 : Int))), q19_18.2.2.2) (And.intro hF (Exists.intro [] (Exists.intro [] (Exists.intro [] (Exists.intro [] (Exists.intro [(0, some 0), (1, some 1), (2, some 2), (3, some 14), (4, some 4), (5, some 5), (6, some 6), (7, some 7), (8, some 8), (9, some 9), (10, some 10), (11, some 11)] (And.intro rfl (And.intro rfl (And.intro rfl (And.intro rfl (And.intro rfl (And.intro (And.intro rfl (And.intro rfl (And.intro rfl trivial))) (And.intro rfl (And.intro rfl (And.intro rfl (And.intro rfl (And.intro rfl (And.intro rfl (And.intro rfl (And.intro rfl (And.intro rfl (And.intro rfl (And.intro rfl (And.intro rfl trivial))))))))))))))))))))))))
                      · refine gdNF ?_
                        refine gdNF ?_
                        refine gdNF ?_
                        refine And.intro trivial ?_
                        refine gdNF ?_
                        refine gdNF ?_
                        refine condT ?_
                        refine condT ?_
                        refine Or.inl ?_
                        have hz := someE hF
                        subst hz
                        refine Exists.intro [] (Exists.intro [] (Exists.intro [] (Exists.intro [] (Exists.intro [] (And.intro rfl (And.intro rfl (And.intro trivial trivial)))))))
                refine And.intro (fun hk14 => ?_) ?_
                · have hF := pickE hF hk14
                  dsimp only [nthO] at hF
                  refine And.intro (rangeE hk14 (by decide)) ?_
                  refine And.intro (fun h => absurd (hk14.symm.trans h) (by decide)) ?_
                  refine And.intro (fun h => absurd (hk14.symm.trans h) (by decide)) ?_
                  refine And.intro (fun _ => ?_) (And.intro (fun h => absurd (hk14.symm.trans h) (by decide)) trivial)
                  refine And.intro trivial ?_
                  obtain ⟨q19_13, hq19_13, hF⟩ := bindE hF
                  refine Or.inl (And.intro f29_in (callV0 (callI C29 (l3, (6 : Int), r3.1, r4.1, k) q19_13 [(0, some 0), (1, some 3)] false C29_holds hq19_13 rfl rfl ?_)))
                  refine (And.intro rfl (And.intro rfl (And.intro rfl (And.intro rfl (And.intro (fun h => nomatch h) (And.intro rfl (And.intro rfl (And.intro (And.intro rfl trivial) (And.intro (And.intro rfl (And.intro rfl trivial)) ?_)))))))))
                  refine Or.inl ?_
                  refine Or.inl ?_
                  refine And.intro (rangeE hk14 (by decide)) ?_
                  refine And.intro (fun h => absurd (hk14.symm.trans h) (by decide)) ?_
                  refine And.intro (fun h => absurd (hk14.symm.trans h) (by decide)) ?_
                  refine And.intro (fun _ => ?_) (And.intro (fun h => absurd (hk14.symm.trans h) (by decide)) trivial)
                  refine condI hF (fun hF => ?_) (fun hF => ?_)
                  · refine Or.inl ?_
                    have hz := someE hF
                    subst hz
                    refine Exists.intro [] (Exists.intro [] (Exists.intro [] (Exists.intro [] (Exists.intro [] (And.intro rfl (And.intro rfl (And.intro trivial trivial)))))))
                  · refine Or.inl ?_
                    refine Or.inl ?_
                    refine condI hF (fun hF => ?_) (fun hF => ?_)
                    · refine Exists.intro ((IntKind.i64.wrap (i + (1 : Int))), q19_13.2.2) (And.intro hF (Exists.intro [] (Exists.intro [] (Exists.intro [] (Exists.intro [] (Exists.intro [(0, some 0), (1, some 1), (2, some 2), (3, some 14), (4, some 4), (5, some 5), (6, some 6), (7, some 7), (8, some 8), (9, some 9), (10, some 10), (11, some 11)] (And.intro rfl (And.intro rfl (And.intro rfl (And.intro rfl (And.intro rfl (And.intro (And.intro rfl (And.intro rfl (And.intro rfl trivial))) (And.intro rfl (And.intro rfl (And.intro rfl (And.intro rfl (And.intro rfl (And.intro rfl (And.intro rfl (And.intro rfl (And.intro rfl (And.intro rfl (And.intro rfl (And.intro rfl trivial))))))))))))))))))))))))
                    · refine Or.inl ?_
                      obtain ⟨q19_18, hq19_18, hF⟩ := bindE hF
                      refine Or.inl (And.intro f32_in (callV0 (callI C32 (q19_13.2.2, q19_13.1) q19_18 [(0, some 0), (1, some 14)] false C32_holds hq19_18 rfl rfl ?_)))
                      refine (And.intro rfl (And.intro (fun h => nomatch h) (And.intro rfl (And.intro rfl (And.intro (And.intro rfl trivial) (And.intro (And.intro rfl (And.intro rfl trivial)) ?_))))))
                      refine Or.inl ?_
                      refine Or.inl ?_
                      refine Exists.intro (.take 0 (.take 1 (.take 2 (.take 3 (.take 4 (.take 5 (.take 6 (.alt 7 (.take 8 (.take 9 .done)) .done)))))))) (Exists.intro [] (Exists.intro [] (And.intro rfl ?_)))
                      refine condN hF (fun hF => ?_) (fun hF => ?_)
                      · refine gdYF ?_
                        refine gdYF ?_
                        refine And.intro (rangeE hk14 (by decide)) ?_
                        refine And.intro (fun h => absurd (hk14.symm.trans h) (by decide)) ?_
                        refine And.intro (fun h => absurd (hk14.symm.trans h) (by decide)) ?_
                        refine And.intro (fun _ => ?_) (And.intro (fun h => absurd (hk14.symm.trans h) (by decide)) trivial)
                        refine gdYF ?_
                        refine And.intro trivial ?_
                        refine gdYF ?_
                        obtain ⟨q24_7, hq24_7, hF⟩ := bindE hF
                        refine Or.inl (And.intro f19_in (callV0 (callI C19 ((q19_18.2.1, q19_18.2.2.1), (r10.2.1, r10.2.2)) q24_7 [] true C19_holds hq24_7 rfl rfl ?_)))
                        refine (And.intro rfl (And.intro rfl (And.intro rfl (And.intro rfl (And.intro (fun _ => rfl) (And.intro rfl (And.intro rfl (And.intro trivial (And.intro trivial ?_)))))))))
                        refine gdYF ?_
                        refine condF ?_
                        refine condI hF (fun hF => ?_) (fun hF => ?_)
                        · refine Or.inl ?_
                          have hz := someE hF
                          subst hz
                          refine Exists.intro [] (Exists.intro [] (Exists.intro [] (Exists.intro [] (Exists.intro [] (And.intro rfl (And.intro rfl (And.intro trivial trivial)))))))
                        · refine Exists.intro ((IntKind.i64.wrap (i + (1 : Int))), q19_18.2.2.2) (And.intro hF (Exists.intro [] (Exists.intro [] (Exists.intro [] (Exists.intro [] (Exists.intro [(0, some 0), (1, some 1), (2, some 2), (3, some 14), (4, some 4), (5, some 5), (6, some 6), (7, some 7), (8, some 8), (9, some 9), (10, some 10), (11, some 11)] (And.intro rfl (And.intro rfl (And.intro rfl (And.intro rfl (And.intro rfl (And.intro (And.intro rfl (And.intro rfl (And.intro rfl trivial))) (And.intro rfl (And.intro rfl (And.intro rfl (And.intro rfl (And.intro rfl (And.intro rfl (And.intro rfl (And.intro rfl (And.intro rfl (And.intro rfl (And.intro rfl (And.intro rfl trivial))))))))))))))))))))))))
                      · refine gdNF ?_
                        refine gdNF ?_
                        refine gdNF ?_
                        refine And.intro trivial ?_
                        refine gdNF ?_
                        refine gdNF ?_
                        refine condT ?_
                        refine condT ?_
                        refine Or.inl ?_
                        have hz := someE hF
                        subst hz
                        refine Exists.intro [] (Exists.intro [] (Exists.intro [] (Exists.intro [] (Exists.intro [] (And.intro rfl (And.intro rfl (And.intro trivial trivial)))))))
                refine And.intro (fun hk14 => ?_) trivial
                have hF := pickE hF hk14
                dsimp only [nthO] at hF
                refine And.intro (rangeE hk14 (by decide)) ?_
                refine And.intro (fun h => absurd (hk14.symm.trans h) (by decide)) ?_
                refine And.intro (fun h => absurd (hk14.symm.trans h) (by decide)) ?_
                refine And.intro (fun h => absurd (hk14.symm.trans h) (by decide)) ?_
                refine And.intro (fun _ => ?_) trivial
                refine And.intro trivial ?_
                obtain ⟨q19_13, hq19_13, hF⟩ := bindE hF
                refine Or.inl (And.intro f29_in (callV0 (callI C29 (l3, (7 : Int), r4.1, r4.1, k) q19_13 [(0, some 0), (1, some 3)] false C29_holds hq19_13 rfl rfl ?_)))
                refine (And.intro rfl (And.intro rfl (And.intro rfl (And.intro rfl (And.intro (fun h => nomatch h) (And.intro rfl (And.intro rfl (And.intro (And.intro rfl trivial) (And.intro (And.intro rfl (And.intro rfl trivial)) ?_)))))))))
                refine Or.inl ?_
                refine Or.inl ?_
                refine And.intro (rangeE hk14 (by decide)) ?_
                refine And.intro (fun h => absurd (hk14.symm.trans h) (by decide)) ?_
                refine And.intro (fun h => absurd (hk14.symm.trans h) (by decide)) ?_
                refine And.intro (fun h => absurd (hk14.symm.trans h) (by decide)) ?_
                refine And.intro (fun _ => ?_) trivial
                refine condI hF (fun hF => ?_) (fun hF => ?_)
                · refine Or.inl ?_
                  have hz := someE hF
                  subst hz
                  refine Exists.intro [] (Exists.intro [] (Exists.intro [] (Exists.intro [] (Exists.intro [] (And.intro rfl (And.intro rfl (And.intro trivial trivial)))))))
                · refine Or.inl ?_
                  refine Or.inl ?_
                  refine condI hF (fun hF => ?_) (fun hF => ?_)
                  · refine Exists.intro ((IntKind.i64.wrap (i + (1 : Int))), q19_13.2.2) (And.intro hF (Exists.intro [] (Exists.intro [] (Exists.intro [] (Exists.intro [] (Exists.intro [(0, some 0), (1, some 1), (2, some 2), (3, some 14), (4, some 4), (5, some 5), (6, some 6), (7, some 7), (8, some 8), (9, some 9), (10, some 10), (11, some 11)] (And.intro rfl (And.intro rfl (And.intro rfl (And.intro rfl (And.intro rfl (And.intro (And.intro rfl (And.intro rfl (And.intro rfl trivial))) (And.intro rfl (And.intro rfl (And.intro rfl (And.intro rfl (And.intro rfl (And.intro rfl (And.intro rfl (And.intro rfl (And.intro rfl (And.intro rfl (And.intro rfl (And.intro rfl trivial))))))))))))))))))))))))
                  · refine Or.inl ?_
                    obtain ⟨q19_18, hq19_18, hF⟩ := bindE hF
                    refine Or.inl (And.intro f32_in (callV0 (callI C32 (q19_13.2.2, q19_13.1) q19_18 [(0, some 0), (1, some 14)] false C32_holds hq19_18 rfl rfl ?_)))
                    refine (And.intro rfl (And.intro (fun h => nomatch h) (And.intro rfl (And.intro rfl (And.intro (And.intro rfl trivial) (And.intro (And.intro rfl (And.intro rfl trivial)) ?_))))))
                    refine Or.inl ?_
                    refine Or.inl ?_
                    refine Exists.intro (.take 0 (.take 1 (.take 2 (.take 3 (.take 4 (.take 5 (.take 6 (.alt 7 (.take 8 (.take 9 .done)) .done)))))))) (Exists.intro [] (Exists.intro [] (And.intro rfl ?_)))
                    refine condN hF (fun hF => ?_) (fun hF => ?_)
                    · refine gdYF ?_
                      refine gdYF ?_
                      refine And.intro (rangeE hk14 (by decide)) ?_
                      refine And.intro (fun h => absurd (hk14.symm.trans h) (by decide)) ?_
                      refine And.intro (fun h => absurd (hk14.symm.trans h) (by decide)) ?_
                      refine And.intro (fun h => absurd (hk14.symm.trans h) (by decide)) ?_
                      refine And.intro (fun _ => ?_) trivial
                      refine gdYF ?_
                      refine And.intro trivial ?_
                      refine gdYF ?_
                      obtain ⟨q24_7, hq24_7, hF⟩ := bindE hF
                      refine Or.inl (And.intro f19_in (callV0 (callI C19 ((q19_18.2.1, q19_18.2.2.1), (r11.2.1, r11.2.2)) q24_7 [] true C19_holds hq24_7 rfl rfl ?_)))
                      refine (And.intro rfl (And.intro rfl (And.intro rfl (And.intro rfl (And.intro (fun _ => rfl) (And.intro rfl (And.intro rfl (And.intro trivial (And.intro trivial ?_)))))))))
                      refine gdYF ?_
                      refine condF ?_
                      refine condI hF (fun hF => ?_) (fun hF => ?_)
                      · refine Or.inl ?_
                        have hz := someE hF
                        subst hz
                        refine Exists.intro [] (Exists.intro [] (Exists.intro [] (Exists.intro [] (Exists.intro [] (And.intro rfl (And.intro rfl (And.intro trivial trivial)))))))
                      · refine Exists.intro ((IntKind.i64.wrap (i + (1 : Int))), q19_18.2.2.2) (And.intro hF (Exists.intro [] (Exists.intro [] (Exists.intro [] (Exists.intro [] (Exists.intro [(0, some 0), (1, some 1), (2, some 2), (3, some 14), (4, some 4), (5, some 5), (6, some 6), (7, some 7), (8, some 8), (9, some 9), (10, some 10), (11, some 11)] (And.intro rfl (And.intro rfl (And.intro rfl (And.intro rfl (And.intro rfl (And.intro (And.intro rfl (And.intro rfl (And.intro rfl trivial))) (And.intro rfl (And.intro rfl (And.intro rfl (And.intro rfl (And.intro rfl (And.intro rfl (And.intro rfl (And.intro rfl (And.intro rfl (And.intro rfl (And.intro rfl (And.intro rfl trivial))))))))))))))))))))))))
                    · refine gdNF ?_
                      refine gdNF ?_
                      refine gdNF ?_
                      refine And.intro trivial ?_
                      refine gdNF ?_
                      refine gdNF ?_
                      refine condT ?_
                      refine condT ?_
                      refine Or.inl ?_
                      have hz := someE hF
                      subst hz
                      refine Exists.intro [] (Exists.intro [] (Exists.intro [] (Exists.intro [] (Exists.intro [] (And.intro rfl (And.intro rfl (And.intro trivial trivial)))))))
              · have hz := someE hF
                subst hz
                refine Exists.intro [] (Exists.intro [] (Exists.intro [] (Exists.intro [] (Exists.intro [] (And.intro rfl (And.intro trivial trivial))))))
            · rcases z13 with z13a | z13b
              · dsimp only [sumF] at hF
                refine And.intro ?_ trivial
                have hy := someE hF
                subst hy
                refine And.intro rfl (Exists.intro [] (Exists.intro [] (Exists.intro [] (Exists.intro [] (Exists.intro [] (And.intro rfl (And.intro rfl (And.intro trivial trivial))))))))
              · dsimp only [sumF] at hF
                refine And.intro ?_ trivial
                refine Or.inl ?_
                have hy := someE hF
                subst hy
                refine And.intro rfl (Exists.intro [] (Exists.intro [] (Exists.intro [] (Exists.intro [] (Exists.intro [] (And.intro rfl (And.intro rfl (And.intro trivial trivial))))))))
          · dsimp only [sumF] at hF
            refine And.intro ?_ trivial
            have hy := someE hF
            subst hy
            refine And.intro rfl (Exists.intro [] (Exists.intro [] (Exists.intro [] (Exists.intro [] (Exists.intro [] (And.intro rfl (And.intro rfl (And.intro trivial trivial))))))))
      · dsimp only [sumF] at hF
        refine And.intro ?_ trivial
        have hy := someE hF
        subst hy
        refine And.intro rfl (Exists.intro [] (Exists.intro [] (Exists.intro [] (Exists.intro [] (Exists.intro [] (And.intro rfl (And.intro rfl (And.intro trivial trivial))))))))
theorem C12_holds : C12.Holds Try.prog 12 := holds_of_vc tab_ok mixed (fn := Try.f12) (by kernel_rfl) rfl C12 (fun x y hF => C12_vc x.1 x.2.1 x.2.2 y hF)
theorem f12_in : ∃ fn, Try.prog.funcs[12]? = some fn ∧ fn.body.isSome = true ∧ (fn.name == "runtime.NumGoroutine") = false := ⟨Try.f12, by kernel_rfl, by kernel_rfl, by kernel_rfl⟩
end Go.Proofs
