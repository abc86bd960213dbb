import Derived.Test.YtgkmdgdkmgkelaaGreatGradJoinsS3
set_option linter.unusedVariables false
set_option maxRecDepth 100000
set_option maxHeartbeats 8000000
namespace Go.Proofs
open Go.AM
open IntKind (i64 u64 i32 u32 i16 u16 i8 u8)
def f149_j1 (x_:Int) : Option Bool :=
 bif (decide (x_ > (-4294967296:Int))) then
 some (decide (x_ < (4294967296:Int)))
 else
 some false
def f149 (kind:Int) (x_:Int) : Option (Int×Int) :=
 bindF (f149_j1 x_) fun z1 =>
 bif (kind == (1:Int)) then
 bindF (f184 (decide (x_ > (0:Int))) (4294967296:Int) (0:Int)) fun r2 =>
 some (r2,(0:Int))
 else
 bif (kind == (2:Int)) then
 bindF (f184 (decide (x_ > (0:Int))) (4294967296:Int) (536870912:Int)) fun r3 =>
 some (r3,(0:Int))
 else
 bif (kind == (3:Int)) then
 bindF (f184 z1 (4294967296:Int) (0:Int)) fun r4 =>
 some (r4,(0:Int))
 else
 bif (kind == (4:Int)) then
 bindF (f185 x_ (0:Int)) fun r5 =>
 some ((i64.wrap (r5 * (4294967296:Int))),(0:Int))
 else
 bif (kind == (5:Int)) then
 bindF (f184 z1 (2147483648:Int) (0:Int)) fun r6 =>
 some (r6,(0:Int))
 else
 some ((0:Int),(1:Int))
def C149 : Con where
 X := Int×Int
 Y := Int×Int
 e := 0
 args x := [.dat T0 x.1,.dat T0 x.2]
 hin x := []
 F x := f149 x.1 x.2
 ret y := [.dat T0 y.1,.dat T0 y.2]
 hout y := []
 nout := 0
theorem C149_vc (kind:Int) (x_:Int) (y : Int×Int) (hF : f149 kind x_ = some y) : VC Tryz.f149 C149 (kind,x_) y := by
 unfold f149 at hF
 refine OL ?_
 obtain ⟨z1,hz1,hF⟩ := bindE hF
 refine OQ ⟨[(0,⟨[(0,.dat T0 kind),(1,.dat T0 x_),(6,.dat .bool z1)],[],0⟩)],?_,?_⟩
 ·have hF := hz1
  clear hz1
  unfold f149_j1 at hF
  refine condI hF (fun hF=>?_) (fun hF=>?_)
  ·refine gdYT (condT ?_)
   have hz := someE hF
   subst hz
   refine E4 [] (R4 (AI TV TV))
  refine gdNT (condF ?_)
  have hz := someE hF
  subst hz
  refine E4 [] (R4 (AI TV TV))
 refine AI (OL (OL (OL (condI hF (fun hF=>?_) (fun hF=>?_))))) TV
 ·refine OL ?_
  obtain ⟨r2,hr2,hF⟩ := bindE hF
  refine OL (AI f184_in (callV0 (callI C184 ((decide (x_ > (0:Int))),(4294967296:Int),(0:Int)) r2 [] false C184_holds hr2 rfl rfl (R3 (AI (fun h=>nomatch h) (R2 (AI TV (AI TV ?_))))))))
  have hy := someE hF
  subst hy
  refine AI rfl (E4 [] (R3 (AI TV TV)))
 refine OL (condI hF (fun hF=>?_) (fun hF=>?_))
 ·refine OL ?_
  obtain ⟨r3,hr3,hF⟩ := bindE hF
  refine OL (AI f184_in (callV0 (callI C184 ((decide (x_ > (0:Int))),(4294967296:Int),(536870912:Int)) r3 [] false C184_holds hr3 rfl rfl (R3 (AI (fun h=>nomatch h) (R2 (AI TV (AI TV ?_))))))))
  have hy := someE hF
  subst hy
  refine AI rfl (E4 [] (R3 (AI TV TV)))
 refine OL (condI hF (fun hF=>?_) (fun hF=>?_))
 ·refine OL ?_
  obtain ⟨r4,hr4,hF⟩ := bindE hF
  refine OL (AI f184_in (callV0 (callI C184 (z1,(4294967296:Int),(0:Int)) r4 [] false C184_holds hr4 rfl rfl (R3 (AI (fun h=>nomatch h) (R2 (AI TV (AI TV ?_))))))))
  have hy := someE hF
  subst hy
  refine AI rfl (E4 [] (R3 (AI TV TV)))
 refine OL (condI hF (fun hF=>?_) (fun hF=>?_))
 ·refine OL ?_
  obtain ⟨r5,hr5,hF⟩ := bindE hF
  refine OL (AI f185_in (callV0 (callI C185 (x_,(0:Int)) r5 [] false C185_holds hr5 rfl rfl (R2 (AI (fun h=>nomatch h) (R2 (AI TV (AI TV ?_))))))))
  have hy := someE hF
  subst hy
  refine AI rfl (E4 [] (R3 (AI TV TV)))
 refine OL (condI hF (fun hF=>?_) (fun hF=>?_))
 ·refine OL ?_
  obtain ⟨r6,hr6,hF⟩ := bindE hF
  refine OL (AI f184_in (callV0 (callI C184 (z1,(2147483648:Int),(0:Int)) r6 [] false C184_holds hr6 rfl rfl (R3 (AI (fun h=>nomatch h) (R2 (AI TV (AI TV ?_))))))))
  have hy := someE hF
  subst hy
  refine AI rfl (E4 [] (R3 (AI TV TV)))
 refine OL ?_
 have hy := someE hF
 subst hy
 refine AI rfl (E4 [] (R3 (AI TV TV)))
theorem C149_holds : C149.Holds Tryz.prog 149 := holds_of_vc tab_ok mixed (fn := Tryz.f149) (by kernel_rfl) rfl C149 (fun x y hF=>C149_vc x.1 x.2 y hF)
theorem f149_in : InP 149 := ⟨Tryz.f149,by kernel_rfl,by kernel_rfl,by kernel_rfl⟩
def f115_j3 (kind:Int) (t : (List Int)×(List Int)) (g : (List Int)×(List Int)) : Option Bool :=
 bindF (f148 kind) fun r13 =>
 bif (!r13) then
 some true
 else
 bindF (f86 (t.1,t.2)) fun r14 =>
 bif (!r14) then
 some true
 else
 bindF (f86 (g.1,g.2)) fun r15 =>
 some (!r15)
def f115_j2 (kind:Int) (t : (List Int)×(List Int)) (g : (List Int)×(List Int)) : Option (Sum Unit Int) :=
 bindF (f115_j3 kind t g) fun z12 =>
 bif z12 then
 some (Sum.inr (1:Int))
 else
 bindF (f87 t.1 g.1) fun r16 =>
 bif (!r16) then
 some (Sum.inr (4:Int))
 else
 some (Sum.inl ())
def f115_l4 (kind:Int) (t : (List Int)×(List Int)) (g : (List Int)×(List Int)) (go : (Int×(List Int)) → Option (List Int)) (v41:Int) (l4 : List Int) : Option (List Int) :=
 bif (decide (v41 < (List.length t.2:Int))) then
 guardF (0 ≤ v41 ∧ v41 < (List.length t.2:Int)) <|
 bindF (f149 kind (rd (0:Int) t.2 v41)) fun q10_11 =>
 guardF (0 ≤ v41 ∧ v41 < (List.length g.2:Int)) <|
 bindF (f66 (rd (0:Int) g.2 v41) q10_11.1) fun q10_9 =>
 guardF (0 ≤ v41 ∧ v41 < (List.length l4:Int)) <|
 go ((i64.wrap (v41 + (1:Int))),(List.set l4 (Int.toNat v41) q10_9))
 else
 some l4
def f115 (kind:Int) (t : (List Int)×(List Int)) (g : (List Int)×(List Int)) : Option (Int×(List Int)×(List Int)) :=
 bindF (f115_j2 kind t g) fun z8 =>
 sumF z8 (fun z8a =>
 bindF (f85 (g.1,g.2)) fun r17 =>
 bindF (loopF (fun go x=>f115_l4 kind t g go x.1 x.2) fuelN ((0:Int),r17.2)) fun z19 =>
 some ((0:Int),r17.1,z19)) (fun z8b =>
 some (z8b,[],[]))
def C115 : Con where
 X := Int×((List Int)×(List Int))×((List Int)×(List Int))
 Y := Int×(List Int)×(List Int)
 e := 0
 args x := [.dat T0 x.1,.dat T7 x.2.1,.dat T7 x.2.2]
 hin x := []
 F x := f115 x.1 x.2.1 x.2.2
 ret y := [.raw true [(.osl 0),(.osl 1)],.dat T0 y.1]
 hout y := [(0,.arr 3 T0 y.2.1),(1,.arr 23 T0 y.2.2)]
 nout := 2
theorem C115_vc (kind:Int) (t : (List Int)×(List Int)) (g : (List Int)×(List Int)) (y : Int×(List Int)×(List Int)) (hF : f115 kind t g = some y) : VC Tryz.f115 C115 (kind,t,g) y := by
 unfold f115 at hF
 refine OL ?_
 obtain ⟨z8,hz8,hF⟩ := bindE hF
 refine OQ ⟨Sum.elim (fun z8a=>[(0,⟨[(0,.dat T0 kind),(4,P0 0 0),(5,P0 1 0),(6,P0 2 0)],[(0,.cells [(.d T4 t.1),(.d T4 t.2)]),(1,.cells [(.d T4 g.1),(.d T4 g.2)]),(2,.cells [N0,N0])],3⟩)]) (fun z8b=>[(1,⟨[(6,P0 0 0),(7,.dat T0 z8b)],[(0,.cells [N0,N0])],1⟩)]) z8,?_,?_⟩
 ·have hF := hz8
  clear hz8
  unfold f115_j2 at hF
  obtain ⟨z12,hz12,hF⟩ := bindE hF
  refine OQ ⟨[(0,⟨[(0,.dat T0 kind),(4,P0 0 0),(5,P0 1 0),(6,P0 2 0),(13,.dat .bool z12)],[(0,.cells [(.d T4 t.1),(.d T4 t.2)]),(1,.cells [(.d T4 g.1),(.d T4 g.2)]),(2,.cells [N0,N0])],3⟩)],?_,?_⟩
  ·have hF := hz12
   clear hz12
   unfold f115_j3 at hF
   obtain ⟨r13,hr13,hF⟩ := bindE hF
   refine OL (AI f148_in (callV0 (callI C148 kind r13 [] false C148_holds hr13 rfl rfl (AI rfl (AI (fun h=>nomatch h) (R2 (AI TV (AI TV (condN hF (fun hF=>?_) (fun hF=>?_))))))))))
   ·refine gdYF ?_
    obtain ⟨r14,hr14,hF⟩ := bindE hF
    refine OL (AI f86_in (callV0 (callI C86 (t.1,t.2) r14 [] false C86_holds hr14 rfl rfl (R2 (AI (fun h=>nomatch h) (R2 (AI TV (AI TV (gdYF (condF (condN hF (fun hF=>?_) (fun hF=>?_))))))))))))
    ·refine gdYF ?_
     obtain ⟨r15,hr15,hF⟩ := bindE hF
     refine OL (AI f86_in (callV0 (callI C86 (g.1,g.2) r15 [] false C86_holds hr15 rfl rfl (R2 (AI (fun h=>nomatch h) (R2 (AI TV (AI TV (gdYF (condF ?_))))))))))
     have hz := someE hF
     subst hz
     refine E4 [(0,some 0),(1,some 1),(2,some 2)] (R3 (AI (R3 TV) (R3 TV)))
    refine gdNF (gdNF (condT ?_))
    have hz := someE hF
    subst hz
    refine E4 [(0,some 0),(1,some 1),(2,some 2)] (R3 (AI (R3 TV) (R3 TV)))
   refine gdNF (gdNF (condT (gdNF (gdNF (gdNF (condT ?_))))))
   have hz := someE hF
   subst hz
   refine E4 [(0,some 0),(1,some 1),(2,some 2)] (R3 (AI (R3 TV) (R3 TV)))
  refine AI (condI hF (fun hF=>?_) (fun hF=>?_)) TV
  ·refine OL (OL ?_)
   have hz := someE hF
   subst hz
   refine E4 [(0,some 2)] (R2 (AI (AI rfl TV) (AI rfl TV)))
  refine OL ?_
  obtain ⟨r16,hr16,hF⟩ := bindE hF
  refine OL (AI f87_in (callV0 (callI C87 (t.1,g.1) r16 [] false C87_holds hr16 rfl rfl (R2 (AI (fun h=>nomatch h) (R2 (AI TV (AI TV (condI hF (fun hF=>?_) (fun hF=>?_))))))))))
  ·refine OL (OL ?_)
   have hz := someE hF
   subst hz
   refine E4 [(0,some 2)] (R2 (AI (AI rfl TV) (AI rfl TV)))
  have hz := someE hF
  subst hz
  refine E4 [(0,some 0),(1,some 1),(2,some 2)] (R2 (AI (R3 TV) (R3 TV)))
 rcases z8 with z8a | z8b
 ·dsimp only [sumF] at hF
  refine AI (OL ?_) TV
  obtain ⟨r17,hr17,hF⟩ := bindE hF
  refine OL (AI f85_in (callV0 (callI C85 (g.1,g.2) r17 [] false C85_holds hr17 rfl rfl (R2 (AI (fun h=>nomatch h) (R2 (AI TV (AI TV (OL (OL (OL ?_)))))))))))
  obtain ⟨z19,hz19,hF⟩ := bindE hF
  refine loopI (Int×(List Int)) (List Int) (fun x=>⟨[(0,.dat T0 kind),(5,P0 0 0),(6,P0 1 0),(8,P0 2 0),(39,.dat T4 t.2),(40,.dat T0 (List.length t.2:Int)),(41,.dat T0 x.1)],[(0,.cells [(.d T4 g.1),(.d T4 g.2)]),(1,.cells [N0,N0]),(2,.cells [(.osl 3),(.osl 4)]),(3,.arr 3 T0 r17.1),(4,.arr 23 T0 x.2)],5⟩) (fun z=>[(3,⟨[(6,P0 0 0),(8,P0 1 0)],[(0,.cells [N0,N0]),(1,.cells [(.osl 2),(.osl 3)]),(2,.arr 3 T0 r17.1),(3,.arr 23 T0 z)],4⟩)]) (loopF (fun go x=>f115_l4 kind t g go x.1 x.2)) fuelN ((0:Int),r17.2) z19 (AI hz19 (AI (E4 [(0,some 1),(1,some 2),(2,some 5),(3,some 3),(4,some 4)] (R5 (AI (R3 TV) (R5 TV)))) (AI (fun _ _ h=>loopZ h) (AI (fun m=>curI (fun v41=>fun l4 z hF=>?_)) ?_))))
  ·have hF : f115_l4 kind t g (loopF (fun go x=>f115_l4 kind t g go x.1 x.2) m) v41 l4 = some z := hF
   unfold f115_l4 at hF
   refine OL (OL (condI hF (fun hF=>?_) (fun hF=>?_)))
   ·refine OL (OL (guardI hF (fun hF=>?_)))
    refine OL ?_
    obtain ⟨q10_11,hq10_11,hF⟩ := bindE hF
    refine OL (AI f149_in (callV0 (callI C149 (kind,(rd (0:Int) t.2 v41)) q10_11 [] false C149_holds hq10_11 rfl rfl (R2 (AI (fun h=>nomatch h) (R2 (AI TV (AI TV (EI (.take 0 (.take 1 (.take 2 (.take 3 (.take 4 (.take 5 (.take 6 (.take 7 (.take 8 (.alt 9 (.take 10 (.alt 11 .done .done)) .done)))))))))) (EI [] (EI [] (AI rfl (guardI hF (fun hF=>?_))))))))))))))
    refine AI TV ?_
    obtain ⟨q10_9,hq10_9,hF⟩ := bindE hF
    refine OL (AI f66_in (callV0 (callI C66 ((rd (0:Int) g.2 v41),q10_11.1) q10_9 [] false C66_holds hq10_9 rfl rfl (R2 (AI (fun h=>nomatch h) (R2 (AI TV (AI TV (guardI hF (fun hF=>?_))))))))))
    refine AI TV (OL (EI ((i64.wrap (v41 + (1:Int))),(List.set l4 (Int.toNat v41) q10_9)) (AI hF (E4 [(0,some 0),(1,some 1),(2,some 2),(3,some 3),(4,some 4)] (R5 (AI (R3 TV) (R5 TV)))))))
   have hz := someE hF
   subst hz
   refine E4 [(0,some 1),(1,some 2),(2,some 3),(3,some 4)] (AI rfl (AI (R2 TV) (R4 TV)))
  refine AI (OL (OL ?_)) TV
  have hy := someE hF
  subst hy
  refine AI rfl (E4 [(0,some 2),(1,some 3)] (R2 (AI (AI rfl TV) (R2 TV))))
 dsimp only [sumF] at hF
 refine AI ?_ TV
 have hy := someE hF
 subst hy
 refine AI rfl (E4 [(0,none),(1,none)] (R2 (AI (AI rfl TV) (R2 TV))))
theorem C115_holds : C115.Holds Tryz.prog 115 := holds_of_vc tab_ok mixed (fn := Tryz.f115) (by kernel_rfl) rfl C115 (fun x y hF=>C115_vc x.1 x.2.1 x.2.2 y hF)
theorem f115_in : InP 115 := ⟨Tryz.f115,by kernel_rfl,by kernel_rfl,by kernel_rfl⟩
def f151 (n:Int) : Option Bool :=
 bif (decide (n ≥ (1:Int))) then
 some (decide (n ≤ (4096:Int)))
 else
 some false
def C151 : Con where
 X := Int
 Y := Bool
 e := 0
 args x := [.dat T0 x]
 hin x := []
 F x := f151 x
 ret y := [.dat .bool y]
 hout y := []
 nout := 0
theorem C151_vc (n:Int) (y : Bool) (hF : f151 n = some y) : VC Tryz.f151 C151 n y := by
 unfold f151 at hF
 refine OL (OL (condI hF (fun hF=>?_) (fun hF=>?_)))
 ·refine gdYT (condT ?_)
  have hy := someE hF
  subst hy
  refine AI rfl (E4 [] (R2 (AI TV TV)))
 refine gdNT (condF ?_)
 have hy := someE hF
 subst hy
 refine AI rfl (E4 [] (R2 (AI TV TV)))
theorem C151_holds : C151.Holds Tryz.prog 151 := holds_of_vc tab_ok mixed (fn := Tryz.f151) (by kernel_rfl) rfl C151 (fun x y hF=>C151_vc x y hF)
theorem f151_in : InP 151 := ⟨Tryz.f151,by kernel_rfl,by kernel_rfl,by kernel_rfl⟩
def f116_j4 (g : (List Int)×(List Int)) (k : (List Int)×(List Int)) (step:Int) (long:Int) : Option Bool :=
 bindF (f86 (g.1,g.2)) fun r15 =>
 bif (!r15) then
 some true
 else
 bindF (f86 (k.1,k.2)) fun r16 =>
 bif (!r16) then
 some true
 else
 bindF (f150 step) fun r17 =>
 bif (!r17) then
 some true
 else
 bindF (f151 long) fun r18 =>
 some (!r18)
def f116_j5 (g : (List Int)×(List Int)) (k : (List Int)×(List Int)) (step:Int) (long:Int) : Option Bool :=
 bif ((List.length g.1:Int) != (2:Int)) then
 some true
 else
 bif ((List.length k.1:Int) != (3:Int)) then
 some true
 else
 guardF (0 ≤ (0:Int) ∧ (0:Int) < (List.length k.1:Int)) <|
 guardF (0 ≤ (0:Int) ∧ (0:Int) < (List.length g.1:Int)) <|
 bif ((rd (0:Int) k.1 (0:Int)) != (rd (0:Int) g.1 (0:Int))) then
 some true
 else
 guardF (0 ≤ (2:Int) ∧ (2:Int) < (List.length k.1:Int)) <|
 guardF (0 ≤ (1:Int) ∧ (1:Int) < (List.length g.1:Int)) <|
 bindF (f152 long (rd (0:Int) k.1 (2:Int)) step) fun q3_28 =>
 some (q3_28 != (rd (0:Int) g.1 (1:Int)))
def f116_j3 (g : (List Int)×(List Int)) (k : (List Int)×(List Int)) (step:Int) (long:Int) : Option (Sum Unit Int) :=
 bindF (f116_j4 g k step long) fun z14 =>
 bif z14 then
 some (Sum.inr (1:Int))
 else
 bindF (f116_j5 g k step long) fun z19 =>
 bif z19 then
 some (Sum.inr (4:Int))
 else
 some (Sum.inl ())
def f116_j45 (g : (List Int)×(List Int)) (step:Int) (long:Int) (v110:Int) (v127:Int) : Option Bool :=
 guardF (step ≠ 0) <|
 bif ((Int.tmod (i64.wrap ((Int.tmod v110 long) - v127)) step) == (0:Int)) then
 some (decide ((i64.wrap (Int.tdiv (i64.wrap ((Int.tmod v110 long) - v127)) step)) < (rd (0:Int) g.1 (1:Int))))
 else
 some false
def f116_l44 (g : (List Int)×(List Int)) (k : (List Int)×(List Int)) (step:Int) (long:Int) (v110:Int) (v120:Int) (go : (Int×Int×Int×Int) → Option (Int×Int×Int)) (v127:Int) (c4_0_2:Int) (c4_1_2:Int) (c4_2_2:Int) : Option (Int×Int×Int) :=
 bif (decide (v127 < (if (i64.wrap ((Int.tmod v110 long) + (1:Int))) < (rd (0:Int) k.1 (2:Int)) then (i64.wrap ((Int.tmod v110 long) + (1:Int))) else (rd (0:Int) k.1 (2:Int))))) then
 guardF (step ≠ 0) <|
 bindF (f116_j45 g step long v110 v127) fun z59 =>
 bif z59 then
 guardF (0 ≤ (i64.wrap ((i64.wrap (v120 * (rd (0:Int) g.1 (1:Int)))) + (i64.wrap (Int.tdiv (i64.wrap ((Int.tmod v110 long) - v127)) step)))) ∧ (i64.wrap ((i64.wrap (v120 * (rd (0:Int) g.1 (1:Int)))) + (i64.wrap (Int.tdiv (i64.wrap ((Int.tmod v110 long) - v127)) step)))) < (List.length g.2:Int)) <|
 guardF (0 ≤ (i64.wrap ((i64.wrap ((i64.wrap ((i64.wrap (v120 * (rd (0:Int) k.1 (1:Int)))) + (i64.wrap (Int.tdiv v110 long)))) * (rd (0:Int) k.1 (2:Int)))) + v127)) ∧ (i64.wrap ((i64.wrap ((i64.wrap ((i64.wrap (v120 * (rd (0:Int) k.1 (1:Int)))) + (i64.wrap (Int.tdiv v110 long)))) * (rd (0:Int) k.1 (2:Int)))) + v127)) < (List.length k.2:Int)) <|
 bindF (f154 c4_0_2 c4_1_2 c4_2_2 (rd (0:Int) g.2 (i64.wrap ((i64.wrap (v120 * (rd (0:Int) g.1 (1:Int)))) + (i64.wrap (Int.tdiv (i64.wrap ((Int.tmod v110 long) - v127)) step))))) (rd (0:Int) k.2 (i64.wrap ((i64.wrap ((i64.wrap ((i64.wrap (v120 * (rd (0:Int) k.1 (1:Int)))) + (i64.wrap (Int.tdiv v110 long)))) * (rd (0:Int) k.1 (2:Int)))) + v127)))) fun q22_22 =>
 go ((i64.wrap (v127 + (1:Int))),q22_22.1,q22_22.2.1,q22_22.2.2)
 else
 go ((i64.wrap (v127 + (1:Int))),c4_0_2,c4_1_2,c4_2_2)
 else
 some (c4_0_2,c4_1_2,c4_2_2)
def f116_l41 (g : (List Int)×(List Int)) (k : (List Int)×(List Int)) (step:Int) (long:Int) (v110:Int) (go : (Int×Int×Int×Int) → Option (Int×Int×Int)) (v120:Int) (c4_0:Int) (c4_1:Int) (c4_2:Int) : Option (Int×Int×Int) :=
 bif (decide (v120 < (rd (0:Int) k.1 (0:Int)))) then
 bindF (loopF (fun go x=>f116_l44 g k step long v110 v120 go x.1 x.2.1 x.2.2.1 x.2.2.2) fuelN ((0:Int),c4_0,c4_1,c4_2)) fun z58 =>
 go ((i64.wrap (v120 + (1:Int))),z58.1,z58.2.1,z58.2.2)
 else
 some (c4_0,c4_1,c4_2)
def f116_l32 (g : (List Int)×(List Int)) (k : (List Int)×(List Int)) (step:Int) (long:Int) (q5_19 : Int×(List Int)×(List Int)) (go : (Int×(List Int)) → Option (List Int)) (v110:Int) (l5 : List Int) : Option (List Int) :=
 bif (decide (v110 < (List.length q5_19.2.2:Int))) then
 guardF (long ≠ 0) <|
 guardF (long ≠ 0) <|
 bindF (loopF (fun go x=>f116_l41 g k step long v110 go x.1 x.2.1 x.2.2.1 x.2.2.2) fuelN ((0:Int),(0:Int),(0:Int),(0:Int))) fun z55 =>
 bindF (f155 z55.1 z55.2.1 z55.2.2 (32:Int)) fun q25_3 =>
 guardF (0 ≤ v110 ∧ v110 < (List.length l5:Int)) <|
 go ((i64.wrap (v110 + (1:Int))),(List.set l5 (Int.toNat v110) q25_3.1))
 else
 some l5
def f116 (g : (List Int)×(List Int)) (k : (List Int)×(List Int)) (step:Int) (long:Int) : Option (Int×(List Int)×(List Int)) :=
 bindF (f116_j3 g k step long) fun z10 =>
 sumF z10 (fun z10a =>
 guardF (0 ≤ (0:Int) ∧ (0:Int) < (List.length k.1:Int)) <|
 guardF (0 ≤ (1:Int) ∧ (1:Int) < (List.length k.1:Int)) <|
 guardF (0 ≤ (2:Int) ∧ (2:Int) < (List.length k.1:Int)) <|
 guardF (0 ≤ (1:Int) ∧ (1:Int) < (List.length g.1:Int)) <|
 bindF (f153 ([(rd (0:Int) k.1 (1:Int)),long])) fun q5_19 =>
 bif (q5_19.1 != (0:Int)) then
 some (q5_19.1,[],[])
 else
 bindF (loopF (fun go x=>f116_l32 g k step long q5_19 go x.1 x.2) fuelN ((0:Int),q5_19.2.2)) fun z46 =>
 some ((0:Int),q5_19.2.1,z46)) (fun z10b =>
 some (z10b,[],[]))
def C116 : Con where
 X := ((List Int)×(List Int))×((List Int)×(List Int))×Int×Int
 Y := Int×(List Int)×(List Int)
 e := 0
 args x := [.dat T7 x.1,.dat T7 x.2.1,.dat T0 x.2.2.1,.dat T0 x.2.2.2]
 hin x := []
 F x := f116 x.1 x.2.1 x.2.2.1 x.2.2.2
 ret y := [.raw true [(.osl 0),(.osl 1)],.dat T0 y.1]
 hout y := [(0,.arr 3 T0 y.2.1),(1,.arr 23 T0 y.2.2)]
 nout := 2
theorem C116_vc (g : (List Int)×(List Int)) (k : (List Int)×(List Int)) (step:Int) (long:Int) (y : Int×(List Int)×(List Int)) (hF : f116 g k step long = some y) : VC Tryz.f116 C116 (g,k,step,long) y := by
 unfold f116 at hF
 refine OL ?_
 obtain ⟨z10,hz10,hF⟩ := bindE hF
 refine OQ ⟨Sum.elim (fun z10a=>[(0,⟨[(2,.dat T0 step),(3,.dat T0 long),(4,P0 0 0),(5,P0 1 0),(8,P0 2 0)],[(0,.cells [(.d T4 g.1),(.d T4 g.2)]),(1,.cells [(.d T4 k.1),(.d T4 k.2)]),(2,.cells [N0,N0])],3⟩)]) (fun z10b=>[(1,⟨[(8,P0 0 0),(9,.dat T0 z10b)],[(0,.cells [N0,N0])],1⟩)]) z10,?_,?_⟩
 ·have hF := hz10
  clear hz10
  unfold f116_j3 at hF
  obtain ⟨z14,hz14,hF⟩ := bindE hF
  refine OQ ⟨[(0,⟨[(2,.dat T0 step),(3,.dat T0 long),(4,P0 0 0),(5,P0 1 0),(8,P0 2 0),(23,.dat .bool z14)],[(0,.cells [(.d T4 g.1),(.d T4 g.2)]),(1,.cells [(.d T4 k.1),(.d T4 k.2)]),(2,.cells [N0,N0])],3⟩)],?_,?_⟩
  ·have hF := hz14
   clear hz14
   unfold f116_j4 at hF
   obtain ⟨r15,hr15,hF⟩ := bindE hF
   refine OL (AI f86_in (callV0 (callI C86 (g.1,g.2) r15 [] false C86_holds hr15 rfl rfl (R2 (AI (fun h=>nomatch h) (R2 (AI TV (AI TV (condN hF (fun hF=>?_) (fun hF=>?_))))))))))
   ·refine gdYF ?_
    obtain ⟨r16,hr16,hF⟩ := bindE hF
    refine OL (AI f86_in (callV0 (callI C86 (k.1,k.2) r16 [] false C86_holds hr16 rfl rfl (R2 (AI (fun h=>nomatch h) (R2 (AI TV (AI TV (gdYF (condF (condN hF (fun hF=>?_) (fun hF=>?_))))))))))))
    ·refine gdYF ?_
     obtain ⟨r17,hr17,hF⟩ := bindE hF
     refine OL (AI f150_in (callV0 (callI C150 step r17 [] false C150_holds hr17 rfl rfl (AI rfl (AI (fun h=>nomatch h) (R2 (AI TV (AI TV (gdYF (condF (condN hF (fun hF=>?_) (fun hF=>?_))))))))))))
     ·refine gdYF ?_
      obtain ⟨r18,hr18,hF⟩ := bindE hF
      refine OL (AI f151_in (callV0 (callI C151 long r18 [] false C151_holds hr18 rfl rfl (AI rfl (AI (fun h=>nomatch h) (R2 (AI TV (AI TV (gdYF (condF ?_))))))))))
      have hz := someE hF
      subst hz
      refine E4 [(0,some 0),(1,some 1),(2,some 2)] (R4 (AI (R3 TV) (R3 TV)))
     refine gdNF (gdNF (condT ?_))
     have hz := someE hF
     subst hz
     refine E4 [(0,some 0),(1,some 1),(2,some 2)] (R4 (AI (R3 TV) (R3 TV)))
    refine gdNF (gdNF (condT (gdNF (gdNF (gdNF (condT ?_))))))
    have hz := someE hF
    subst hz
    refine E4 [(0,some 0),(1,some 1),(2,some 2)] (R4 (AI (R3 TV) (R3 TV)))
   refine gdNF (gdNF (condT (gdNF (gdNF (gdNF (condT (gdNF (gdNF (gdNF (condT ?_))))))))))
   have hz := someE hF
   subst hz
   refine E4 [(0,some 0),(1,some 1),(2,some 2)] (R4 (AI (R3 TV) (R3 TV)))
  refine AI (condI hF (fun hF=>?_) (fun hF=>?_)) TV
  ·refine OL (OL ?_)
   have hz := someE hF
   subst hz
   refine E4 [(0,some 2)] (R2 (AI (AI rfl TV) (AI rfl TV)))
  obtain ⟨z19,hz19,hF⟩ := bindE hF
  refine OQ ⟨[(0,⟨[(2,.dat T0 step),(3,.dat T0 long),(4,P0 0 0),(5,P0 1 0),(8,P0 2 0),(43,.dat .bool z19)],[(0,.cells [(.d T4 g.1),(.d T4 g.2)]),(1,.cells [(.d T4 k.1),(.d T4 k.2)]),(2,.cells [N0,N0])],3⟩)],?_,?_⟩
  ·have hF := hz19
   clear hz19
   unfold f116_j5 at hF
   refine EI (.take 0 (.take 1 (.take 2 (.take 3 (.take 4 (.take 5 (.take 6 (.take 7 (.take 8 (.take 9 (.take 10 (.take 11 (.take 12 (.take 13 (.take 14 (.take 15 (.take 16 (.take 17 (.take 18 (.take 19 (.take 20 (.take 21 (.take 22 (.take 23 (.take 24 (.take 25 (.take 26 (.take 27 (.take 29 (.take 30 (.take 31 (.take 32 (.alt 28 (.take 33 (.take 34 (.take 35 .done))) .done))))))))))))))))))))))))))))))))) (EI [] (EI [] (AI rfl (condN hF (fun hF=>?_) (fun hF=>?_)))))
   ·refine gdYF (gdYF (gdYF (condF (condN hF (fun hF=>?_) (fun hF=>?_)))))
    ·refine gdYF (gdYF (guardI hF (fun hF=>?_)))
     refine gdYF (gdYF (gdYF (gdYF (guardI hF (fun hF=>?_)))))
     refine gdYF (gdYF (condF (condN hF (fun hF=>?_) (fun hF=>?_))))
     ·refine gdYF (gdYF (gdYF (guardI hF (fun hF=>?_))))
      refine gdYF (gdYF (gdYF (gdYF (gdYF (guardI hF (fun hF=>?_))))))
      refine gdYF (AI TV (gdYF ?_))
      obtain ⟨q3_28,hq3_28,hF⟩ := bindE hF
      refine OL (AI f152_in (callV0 (callI C152 (long,(rd (0:Int) k.1 (2:Int)),step) q3_28 [] false C152_holds hq3_28 rfl rfl (R3 (AI (fun h=>nomatch h) (R2 (AI TV (AI TV (gdYF (condF ?_))))))))))
      have hz := someE hF
      subst hz
      refine E4 [(0,some 0),(1,some 1),(2,some 2)] (R4 (AI (R3 TV) (R3 TV)))
     refine gdNF (gdNF (gdNF (gdNF (gdNF (gdNF (gdNF (gdNF (gdNF (AI TV (gdNF (gdNF (condT ?_))))))))))))
     have hz := someE hF
     subst hz
     refine E4 [(0,some 0),(1,some 1),(2,some 2)] (R4 (AI (R3 TV) (R3 TV)))
    refine gdNF (gdNF (gdNF (gdNF (gdNF (gdNF (gdNF (gdNF (condT (gdNF (gdNF (gdNF (gdNF (gdNF (gdNF (gdNF (gdNF (gdNF (gdNF (AI TV (gdNF (gdNF (condT ?_))))))))))))))))))))))
    have hz := someE hF
    subst hz
    refine E4 [(0,some 0),(1,some 1),(2,some 2)] (R4 (AI (R3 TV) (R3 TV)))
   refine gdNF (gdNF (gdNF (condT (gdNF (gdNF (gdNF (gdNF (gdNF (gdNF (gdNF (gdNF (gdNF (condT (gdNF (gdNF (gdNF (gdNF (gdNF (gdNF (gdNF (gdNF (gdNF (gdNF (AI TV (gdNF (gdNF (condT ?_)))))))))))))))))))))))))))
   have hz := someE hF
   subst hz
   refine E4 [(0,some 0),(1,some 1),(2,some 2)] (R4 (AI (R3 TV) (R3 TV)))
  refine AI (condI hF (fun hF=>?_) (fun hF=>?_)) TV
  ·refine OL (OL ?_)
   have hz := someE hF
   subst hz
   refine E4 [(0,some 2)] (R2 (AI (AI rfl TV) (AI rfl TV)))
  have hz := someE hF
  subst hz
  refine E4 [(0,some 0),(1,some 1),(2,some 2)] (R3 (AI (R3 TV) (R3 TV)))
 rcases z10 with z10a | z10b
 ·dsimp only [sumF] at hF
  refine AI (OL (EI (.take 0 (.take 1 (.take 2 (.take 3 (.take 4 (.take 5 (.take 6 (.take 7 (.take 8 (.take 9 (.take 10 (.take 11 (.take 12 (.take 13 (.take 14 (.take 15 (.take 16 (.take 17 (.take 18 (.take 19 .done)))))))))))))))))))) (EI [] (EI [] (AI rfl (guardI hF (fun hF=>?_))))))) TV
  refine guardI hF (fun hF=>?_)
  refine guardI hF (fun hF=>?_)
  refine guardI hF (fun hF=>?_)
  refine OL (OL ?_)
  obtain ⟨q5_19,hq5_19,hF⟩ := bindE hF
  refine OL (AI f153_in (callV0 (callI C153 [(rd (0:Int) k.1 (1:Int)),long] q5_19 [] true C153_holds hq5_19 rfl rfl (AI rfl (AI (fun _=>rfl) (R2 (AI TV (AI TV (OL (OL (OL (condI hF (fun hF=>?_) (fun hF=>?_)))))))))))))
  ·refine OL (OL ?_)
   have hy := someE hF
   subst hy
   refine AI rfl (E4 [(0,none),(1,none)] (R2 (AI (AI rfl TV) (R2 TV))))
  refine OL (OL ?_)
  obtain ⟨z46,hz46,hF⟩ := bindE hF
  refine loopI (Int×(List Int)) (List Int) (fun x=>⟨[(2,.dat T0 step),(3,.dat T0 long),(4,P0 0 0),(5,P0 1 0),(8,P0 2 0),(10,.dat T0 (rd (0:Int) k.1 (0:Int))),(11,.dat T0 (rd (0:Int) k.1 (1:Int))),(12,.dat T0 (rd (0:Int) k.1 (2:Int))),(13,.dat T0 (rd (0:Int) g.1 (1:Int))),(14,P0 3 0),(109,.dat T0 (List.length q5_19.2.2:Int)),(110,.dat T0 x.1)],[(0,.cells [(.d T4 g.1),(.d T4 g.2)]),(1,.cells [(.d T4 k.1),(.d T4 k.2)]),(2,.cells [N0,N0]),(3,.cells [(.osl 4),(.osl 5)]),(4,.arr 3 T0 q5_19.2.1),(5,.arr 23 T0 x.2)],6⟩) (fun z=>[(3,⟨[(8,P0 0 0),(14,P0 1 0)],[(0,.cells [N0,N0]),(1,.cells [(.osl 2),(.osl 3)]),(2,.arr 3 T0 q5_19.2.1),(3,.arr 23 T0 z)],4⟩)]) (loopF (fun go x=>f116_l32 g k step long q5_19 go x.1 x.2)) fuelN ((0:Int),q5_19.2.2) z46 (AI hz46 (AI (E4 [(0,some 0),(1,some 1),(2,some 2),(3,some 6),(4,some 4),(5,some 5)] (R9 (AI (R4 TV) (R6 TV)))) (AI (fun _ _ h=>loopZ h) (AI (fun m=>curI (fun v110=>fun l5 z hF=>?_)) ?_))))
  ·have hF : f116_l32 g k step long q5_19 (loopF (fun go x=>f116_l32 g k step long q5_19 go x.1 x.2) m) v110 l5 = some z := hF
   unfold f116_l32 at hF
   refine OL (OL (condI hF (fun hF=>?_) (fun hF=>?_)))
   ·refine OL (OL (OL (EI (.take 0 (.take 1 (.take 2 (.take 3 (.take 4 (.take 5 (.take 6 (.take 7 .done)))))))) (EI [] (EI [] (AI rfl (guardI hF (fun hF=>?_))))))))
    refine guardI hF (fun hF=>?_)
    refine OL (OL (OL ?_))
    obtain ⟨z55,hz55,hF⟩ := bindE hF
    refine loopI (Int×Int×Int×Int) (Int×Int×Int) (fun x=>⟨[(2,.dat T0 step),(3,.dat T0 long),(4,P0 0 0),(5,P0 1 0),(8,P0 2 0),(10,.dat T0 (rd (0:Int) k.1 (0:Int))),(11,.dat T0 (rd (0:Int) k.1 (1:Int))),(12,.dat T0 (rd (0:Int) k.1 (2:Int))),(13,.dat T0 (rd (0:Int) g.1 (1:Int))),(14,P0 3 0),(16,.dat T0 v110),(17,.dat T0 (i64.wrap (Int.tdiv v110 long))),(18,.dat T0 (Int.tmod v110 long)),(19,P0 4 0),(109,.dat T0 (List.length q5_19.2.2:Int)),(110,.dat T0 v110),(119,.dat T0 (rd (0:Int) k.1 (0:Int))),(120,.dat T0 x.1)],[(0,.cells [(.d T4 g.1),(.d T4 g.2)]),(1,.cells [(.d T4 k.1),(.d T4 k.2)]),(2,.cells [N0,N0]),(3,.cells [(.osl 5),(.osl 6)]),(4,.cells [(.d T0 x.2.1),(.d T0 x.2.2.1),(.d T8 x.2.2.2)]),(5,.arr 3 T0 q5_19.2.1),(6,.arr 23 T0 l5)],7⟩) (fun z=>[(5,⟨[(2,.dat T0 step),(3,.dat T0 long),(4,P0 0 0),(5,P0 1 0),(8,P0 2 0),(10,.dat T0 (rd (0:Int) k.1 (0:Int))),(11,.dat T0 (rd (0:Int) k.1 (1:Int))),(12,.dat T0 (rd (0:Int) k.1 (2:Int))),(13,.dat T0 (rd (0:Int) g.1 (1:Int))),(14,P0 3 0),(16,.dat T0 v110),(19,P0 4 0),(109,.dat T0 (List.length q5_19.2.2:Int)),(110,.dat T0 v110)],[(0,.cells [(.d T4 g.1),(.d T4 g.2)]),(1,.cells [(.d T4 k.1),(.d T4 k.2)]),(2,.cells [N0,N0]),(3,.cells [(.osl 5),(.osl 6)]),(4,.cells [(.d T0 z.1),(.d T0 z.2.1),(.d T8 z.2.2)]),(5,.arr 3 T0 q5_19.2.1),(6,.arr 23 T0 l5)],7⟩)]) (loopF (fun go x=>f116_l41 g k step long v110 go x.1 x.2.1 x.2.2.1 x.2.2.2)) fuelN ((0:Int),(0:Int),(0:Int),(0:Int)) z55 (AI hz55 (AI (E4 [(0,some 0),(1,some 1),(2,some 2),(3,some 3),(4,some 6),(5,some 4),(6,some 5)] (R14 (AI (R5 TV) (R7 TV)))) (AI (fun _ _ h=>loopZ h) (AI (fun m=>curI (fun v120=>curI (fun c4_0=>curI (fun c4_1=>fun c4_2 z hF=>?_)))) ?_))))
    ·have hF : f116_l41 g k step long v110 (loopF (fun go x=>f116_l41 g k step long v110 go x.1 x.2.1 x.2.2.1 x.2.2.2) m) v120 c4_0 c4_1 c4_2 = some z := hF
     unfold f116_l41 at hF
     refine OL (OL (condI hF (fun hF=>?_) (fun hF=>?_)))
     ·refine OL (OL (OL ?_))
      obtain ⟨z58,hz58,hF⟩ := bindE hF
      refine loopI (Int×Int×Int×Int) (Int×Int×Int) (fun x=>⟨[(2,.dat T0 step),(3,.dat T0 long),(4,P0 0 0),(5,P0 1 0),(8,P0 2 0),(10,.dat T0 (rd (0:Int) k.1 (0:Int))),(11,.dat T0 (rd (0:Int) k.1 (1:Int))),(12,.dat T0 (rd (0:Int) k.1 (2:Int))),(13,.dat T0 (rd (0:Int) g.1 (1:Int))),(14,P0 3 0),(16,.dat T0 v110),(17,.dat T0 (i64.wrap (Int.tdiv v110 long))),(18,.dat T0 (Int.tmod v110 long)),(19,P0 4 0),(20,.dat T0 v120),(109,.dat T0 (List.length q5_19.2.2:Int)),(110,.dat T0 v110),(119,.dat T0 (rd (0:Int) k.1 (0:Int))),(120,.dat T0 v120),(126,.dat T0 (if (i64.wrap ((Int.tmod v110 long) + (1:Int))) < (rd (0:Int) k.1 (2:Int)) then (i64.wrap ((Int.tmod v110 long) + (1:Int))) else (rd (0:Int) k.1 (2:Int)))),(127,.dat T0 x.1)],[(0,.cells [(.d T4 g.1),(.d T4 g.2)]),(1,.cells [(.d T4 k.1),(.d T4 k.2)]),(2,.cells [N0,N0]),(3,.cells [(.osl 5),(.osl 6)]),(4,.cells [(.d T0 x.2.1),(.d T0 x.2.2.1),(.d T8 x.2.2.2)]),(5,.arr 3 T0 q5_19.2.1),(6,.arr 23 T0 l5)],7⟩) (fun z=>[(7,⟨[(2,.dat T0 step),(3,.dat T0 long),(4,P0 0 0),(5,P0 1 0),(8,P0 2 0),(10,.dat T0 (rd (0:Int) k.1 (0:Int))),(11,.dat T0 (rd (0:Int) k.1 (1:Int))),(12,.dat T0 (rd (0:Int) k.1 (2:Int))),(13,.dat T0 (rd (0:Int) g.1 (1:Int))),(14,P0 3 0),(16,.dat T0 v110),(17,.dat T0 (i64.wrap (Int.tdiv v110 long))),(18,.dat T0 (Int.tmod v110 long)),(19,P0 4 0),(109,.dat T0 (List.length q5_19.2.2:Int)),(110,.dat T0 v110),(119,.dat T0 (rd (0:Int) k.1 (0:Int))),(120,.dat T0 v120)],[(0,.cells [(.d T4 g.1),(.d T4 g.2)]),(1,.cells [(.d T4 k.1),(.d T4 k.2)]),(2,.cells [N0,N0]),(3,.cells [(.osl 5),(.osl 6)]),(4,.cells [(.d T0 z.1),(.d T0 z.2.1),(.d T8 z.2.2)]),(5,.arr 3 T0 q5_19.2.1),(6,.arr 23 T0 l5)],7⟩)]) (loopF (fun go x=>f116_l44 g k step long v110 v120 go x.1 x.2.1 x.2.2.1 x.2.2.2)) fuelN ((0:Int),c4_0,c4_1,c4_2) z58 (AI hz58 (AI (E4 [(0,some 0),(1,some 1),(2,some 2),(3,some 3),(4,some 4),(5,some 5),(6,some 6)] (R17 (AI (R5 TV) (R7 TV)))) (AI (fun _ _ h=>loopZ h) (AI (fun m=>curI (fun v127=>curI (fun c4_0_2=>curI (fun c4_1_2=>fun c4_2_2 z hF=>?_)))) ?_))))
      ·have hF : f116_l44 g k step long v110 v120 (loopF (fun go x=>f116_l44 g k step long v110 v120 go x.1 x.2.1 x.2.2.1 x.2.2.2) m) v127 c4_0_2 c4_1_2 c4_2_2 = some z := hF
       unfold f116_l44 at hF
       refine OL (OL (condI hF (fun hF=>?_) (fun hF=>?_)))
       ·refine OL (OL (OL (guardI hF (fun hF=>?_))))
        obtain ⟨z59,hz59,hF⟩ := bindE hF
        refine OQ ⟨[(0,⟨[(2,.dat T0 step),(3,.dat T0 long),(4,P0 0 0),(5,P0 1 0),(8,P0 2 0),(10,.dat T0 (rd (0:Int) k.1 (0:Int))),(11,.dat T0 (rd (0:Int) k.1 (1:Int))),(12,.dat T0 (rd (0:Int) k.1 (2:Int))),(13,.dat T0 (rd (0:Int) g.1 (1:Int))),(14,P0 3 0),(16,.dat T0 v110),(17,.dat T0 (i64.wrap (Int.tdiv v110 long))),(18,.dat T0 (Int.tmod v110 long)),(19,P0 4 0),(20,.dat T0 v120),(21,.dat T0 v127),(22,.dat T0 (i64.wrap (Int.tdiv (i64.wrap ((Int.tmod v110 long) - v127)) step))),(109,.dat T0 (List.length q5_19.2.2:Int)),(110,.dat T0 v110),(119,.dat T0 (rd (0:Int) k.1 (0:Int))),(120,.dat T0 v120),(126,.dat T0 (if (i64.wrap ((Int.tmod v110 long) + (1:Int))) < (rd (0:Int) k.1 (2:Int)) then (i64.wrap ((Int.tmod v110 long) + (1:Int))) else (rd (0:Int) k.1 (2:Int)))),(127,.dat T0 v127),(145,.dat .bool z59)],[(0,.cells [(.d T4 g.1),(.d T4 g.2)]),(1,.cells [(.d T4 k.1),(.d T4 k.2)]),(2,.cells [N0,N0]),(3,.cells [(.osl 5),(.osl 6)]),(4,.cells [(.d T0 c4_0_2),(.d T0 c4_1_2),(.d T8 c4_2_2)]),(5,.arr 3 T0 q5_19.2.1),(6,.arr 23 T0 l5)],7⟩)],?_,?_⟩
        ·have hF := hz59
         clear hz59
         unfold f116_j45 at hF
         refine guardI hF (fun hF=>?_)
         refine condI hF (fun hF=>?_) (fun hF=>?_)
         ·refine gdYT (gdYT (condT ?_))
          have hz := someE hF
          subst hz
          refine E4 [(0,some 0),(1,some 1),(2,some 2),(3,some 3),(4,some 4),(5,some 5),(6,some 6)] (R20 (AI (R5 TV) (R7 TV)))
         refine gdNT (gdNT (condF ?_))
         have hz := someE hF
         subst hz
         refine E4 [(0,some 0),(1,some 1),(2,some 2),(3,some 3),(4,some 4),(5,some 5),(6,some 6)] (R20 (AI (R5 TV) (R7 TV)))
        refine AI (condI hF (fun hF=>?_) (fun hF=>?_)) TV
        ·refine EI (.take 0 (.take 1 (.take 2 (.take 3 (.take 4 (.take 5 (.take 6 (.take 7 (.take 8 (.take 9 (.take 10 (.take 11 (.take 12 (.take 13 (.take 14 (.take 15 (.take 16 (.take 17 (.take 18 (.take 19 (.take 20 (.take 21 (.alt 22 .done .done))))))))))))))))))))))) (EI [] (EI [] (AI rfl (guardI hF (fun hF=>?_)))))
         refine guardI hF (fun hF=>?_)
         refine AI TV ?_
         obtain ⟨q22_22,hq22_22,hF⟩ := bindE hF
         refine OL (AI f154_in (callV0 (callI C154 (c4_0_2,c4_1_2,c4_2_2,(rd (0:Int) g.2 (i64.wrap ((i64.wrap (v120 * (rd (0:Int) g.1 (1:Int)))) + (i64.wrap (Int.tdiv (i64.wrap ((Int.tmod v110 long) - v127)) step))))),(rd (0:Int) k.2 (i64.wrap ((i64.wrap ((i64.wrap ((i64.wrap (v120 * (rd (0:Int) k.1 (1:Int)))) + (i64.wrap (Int.tdiv v110 long)))) * (rd (0:Int) k.1 (2:Int)))) + v127)))) q22_22 [(0,some 4)] false C154_holds hq22_22 rfl rfl (R2 (AI (fun h=>nomatch h) (R2 (AI (AI rfl TV) (AI (AI rfl TV) (EI ((i64.wrap (v127 + (1:Int))),q22_22.1,q22_22.2.1,q22_22.2.2) (AI hF (E4 [(0,some 0),(1,some 1),(2,some 2),(3,some 3),(4,some 4),(5,some 5),(6,some 6)] (R17 (AI (R5 TV) (R7 TV))))))))))))))
        refine EI ((i64.wrap (v127 + (1:Int))),c4_0_2,c4_1_2,c4_2_2) (AI hF (E4 [(0,some 0),(1,some 1),(2,some 2),(3,some 3),(4,some 4),(5,some 5),(6,some 6)] (R17 (AI (R5 TV) (R7 TV)))))
       have hz := someE hF
       subst hz
       refine E4 [(0,some 0),(1,some 1),(2,some 2),(3,some 3),(4,some 4),(5,some 5),(6,some 6)] (R14 (AI (R5 TV) (R7 TV)))
      refine AI (EI ((i64.wrap (v120 + (1:Int))),z58.1,z58.2.1,z58.2.2) (AI hF (E4 [(0,some 0),(1,some 1),(2,some 2),(3,some 3),(4,some 4),(5,some 5),(6,some 6)] (R14 (AI (R5 TV) (R7 TV)))))) TV
     have hz := someE hF
     subst hz
     refine E4 [(0,some 0),(1,some 1),(2,some 2),(3,some 3),(4,some 4),(5,some 5),(6,some 6)] (R10 (AI (R5 TV) (R7 TV)))
    refine AI (EI (.take 0 (.take 1 (.take 2 (.alt 3 (.take 4 (.alt 5 .done .done)) .done)))) (EI [] (EI [] (AI rfl (AI TV ?_))))) TV
    obtain ⟨q25_3,hq25_3,hF⟩ := bindE hF
    refine OL (AI f155_in (callV0 (callI C155 (z55.1,z55.2.1,z55.2.2,(32:Int)) q25_3 [(0,some 4)] false C155_holds hq25_3 rfl rfl (AI rfl (AI (fun h=>nomatch h) (R2 (AI (AI rfl TV) (AI (AI rfl TV) (guardI hF (fun hF=>?_))))))))))
    refine AI TV (OL (EI ((i64.wrap (v110 + (1:Int))),(List.set l5 (Int.toNat v110) q25_3.1)) (AI hF (E4 [(0,some 0),(1,some 1),(2,some 2),(3,some 3),(4,some 5),(5,some 6)] (R9 (AI (R4 TV) (R6 TV)))))))
   have hz := someE hF
   subst hz
   refine E4 [(0,some 2),(1,some 3),(2,some 4),(3,some 5)] (AI rfl (AI (R2 TV) (R4 TV)))
  refine AI (OL (OL ?_)) TV
  have hy := someE hF
  subst hy
  refine AI rfl (E4 [(0,some 2),(1,some 3)] (R2 (AI (AI rfl TV) (R2 TV))))
 dsimp only [sumF] at hF
 refine AI ?_ TV
 have hy := someE hF
 subst hy
 refine AI rfl (E4 [(0,none),(1,none)] (R2 (AI (AI rfl TV) (R2 TV))))
theorem C116_holds : C116.Holds Tryz.prog 116 := holds_of_vc tab_ok mixed (fn := Tryz.f116) (by kernel_rfl) rfl C116 (fun x y hF=>C116_vc x.1 x.2.1 x.2.2.1 x.2.2.2 y hF)
theorem f116_in : InP 116 := ⟨Tryz.f116,by kernel_rfl,by kernel_rfl,by kernel_rfl⟩
def f117_l1 (g : (List Int)×(List Int)) (r1 : Int×(List Int)×(List Int)×(List Int)) (go : (Int×(List Int)) → Option (List Int)) (v29:Int) (l5 : List Int) : Option (List Int) :=
 bif (decide (v29 < (List.length r1.2.2.2:Int))) then
 guardF (0 ≤ v29 ∧ v29 < (List.length r1.2.2.2:Int)) <|
 guardF (0 ≤ v29 ∧ v29 < (List.length g.2:Int)) <|
 guardF (0 ≤ (rd (0:Int) r1.2.2.2 v29) ∧ (rd (0:Int) r1.2.2.2 v29) < (List.length l5:Int)) <|
 go ((i64.wrap (v29 + (1:Int))),(List.set l5 (Int.toNat (rd (0:Int) r1.2.2.2 v29)) (rd (0:Int) g.2 v29)))
 else
 some l5
def f117 (g : (List Int)×(List Int)) (a : (List Int)×(List Int)) (wide:Int) : Option ((List Int)×(List Int)) :=
 bindF (f52 a.1 (0:Int)) fun q6_9 =>
 bindF (f156 (a.1,a.2) wide) fun r1 =>
 bindF (loopF (fun go x=>f117_l1 g r1 go x.1 x.2) fuelN ((0:Int),q6_9.2.2)) fun z2 =>
 some (q6_9.2.1,z2)
def C117 : Con where
 X := ((List Int)×(List Int))×((List Int)×(List Int))×Int
 Y := (List Int)×(List Int)
 e := 0
 args x := [.dat T7 x.1,.dat T7 x.2.1,.dat T0 x.2.2]
 hin x := []
 F x := f117 x.1 x.2.1 x.2.2
 ret y := [.raw true [(.osl 0),(.osl 1)]]
 hout y := [(0,.arr 3 T0 y.1),(1,.arr 23 T0 y.2)]
 nout := 2
theorem C117_vc (g : (List Int)×(List Int)) (a : (List Int)×(List Int)) (wide:Int) (y : (List Int)×(List Int)) (hF : f117 g a wide = some y) : VC Tryz.f117 C117 (g,a,wide) y := by
 unfold f117 at hF
 refine OL (OL ?_)
 obtain ⟨q6_9,hq6_9,hF⟩ := bindE hF
 refine OL (AI f52_in (callV0 (callI C52 (a.1,(0:Int)) q6_9 [] false C52_holds hq6_9 rfl rfl (R2 (AI (fun h=>nomatch h) (R2 (AI TV (AI TV (OL (OL ?_))))))))))
 obtain ⟨r1,hr1,hF⟩ := bindE hF
 refine OL (AI f156_in (callV0 (callI C156 ((a.1,a.2),wide) r1 [] false C156_holds hr1 rfl rfl (R3 (AI (fun h=>nomatch h) (R2 (AI TV (AI TV (OL (OL (OL ?_)))))))))))
 obtain ⟨z2,hz2,hF⟩ := bindE hF
 refine loopI (Int×(List Int)) (List Int) (fun x=>⟨[(3,P0 0 0),(6,P0 1 0),(7,P0 2 0),(27,O0 3),(28,.dat T0 (List.length r1.2.2.2:Int)),(29,.dat T0 x.1)],[(0,.cells [(.d T4 g.1),(.d T4 g.2)]),(1,.cells [N0,N0]),(2,.cells [(.osl 4),(.osl 5)]),(3,.arr 3 T0 r1.2.2.2),(4,.arr 3 T0 q6_9.2.1),(5,.arr 23 T0 x.2)],6⟩) (fun z=>[(2,⟨[(6,P0 0 0),(7,P0 1 0)],[(0,.cells [N0,N0]),(1,.cells [(.osl 2),(.osl 3)]),(2,.arr 3 T0 q6_9.2.1),(3,.arr 23 T0 z)],4⟩)]) (loopF (fun go x=>f117_l1 g r1 go x.1 x.2)) fuelN ((0:Int),q6_9.2.2) z2 (AI hz2 (AI (E4 [(0,some 0),(1,some 2),(2,some 5),(3,some 8),(4,some 3),(5,some 4)] (R3 (AI (R4 TV) (R6 TV)))) (AI (fun _ _ h=>loopZ h) (AI (fun m=>curI (fun v29=>fun l5 z hF=>?_)) ?_))))
 ·have hF : f117_l1 g r1 (loopF (fun go x=>f117_l1 g r1 go x.1 x.2) m) v29 l5 = some z := hF
  unfold f117_l1 at hF
  refine OL (OL (condI hF (fun hF=>?_) (fun hF=>?_)))
  ·refine OL (OL (guardI hF (fun hF=>?_)))
   refine EI (.take 0 (.take 1 (.take 2 (.take 3 (.take 4 (.take 5 (.take 6 (.take 7 (.take 8 (.alt 9 .done .done)))))))))) (EI [] (EI [] (AI rfl (guardI hF (fun hF=>?_)))))
   refine guardI hF (fun hF=>?_)
   refine AI TV (OL (EI ((i64.wrap (v29 + (1:Int))),(List.set l5 (Int.toNat (rd (0:Int) r1.2.2.2 v29)) (rd (0:Int) g.2 v29))) (AI hF (E4 [(0,some 0),(1,some 1),(2,some 2),(3,some 3),(4,some 4),(5,some 5)] (R3 (AI (R4 TV) (R6 TV)))))))
  have hz := someE hF
  subst hz
  refine E4 [(0,some 1),(1,some 2),(2,some 4),(3,some 5)] (AI rfl (AI (R2 TV) (R4 TV)))
 refine AI (OL (OL ?_)) TV
 have hy := someE hF
 subst hy
 refine AI rfl (E4 [(0,some 2),(1,some 3)] (AI rfl (AI (AI rfl TV) (R2 TV))))
theorem C117_holds : C117.Holds Tryz.prog 117 := holds_of_vc tab_ok mixed (fn := Tryz.f117) (by kernel_rfl) rfl C117 (fun x y hF=>C117_vc x.1 x.2.1 x.2.2 y hF)
theorem f117_in : InP 117 := ⟨Tryz.f117,by kernel_rfl,by kernel_rfl,by kernel_rfl⟩
def f88_j1 (n : Int×Int×Int×Int×(List Int)×(List Int)) : Option Bool :=
 bif (n.1 == (2:Int)) then
 some (n.1 == (2:Int))
 else
 some (n.1 == (3:Int))
def f88 (n : Int×Int×Int×Int×(List Int)×(List Int)) (a : (List Int)×(List Int)) (b : (List Int)×(List Int)) (g : (List Int)×(List Int)) : Option (Int×(List Int)×(List Int)) :=
 bindF (f88_j1 n) fun z1 =>
 bif z1 then
 bindF (f108 (g.1,g.2) a.1) fun r2 =>
 some (r2.1,r2.2.1,r2.2.2)
 else
 bif (n.1 == (4:Int)) then
 bindF (f109 (g.1,g.2) (b.1,b.2)) fun r3 =>
 bindF (f110 (r3.2.1,r3.2.2) r3.1 a.1) fun r4 =>
 some (r4.1,r4.2.1,r4.2.2)
 else
 bif (n.1 == (5:Int)) then
 bindF (f111 (g.1,g.2) n.2.2.2.1) fun r5 =>
 some (r5.1,r5.2.1,r5.2.2)
 else
 bif (n.1 == (6:Int)) then
 bindF (f112 (g.1,g.2) (b.1,b.2) false) fun r6 =>
 some (r6.1,r6.2.1,r6.2.2)
 else
 bif (n.1 == (7:Int)) then
 bindF (f113 (g.1,g.2)) fun r7 =>
 some (r7.1,r7.2.1,r7.2.2)
 else
 bif (n.1 == (8:Int)) then
 bindF (f114 (g.1,g.2) a.1 n.2.2.2.1) fun r8 =>
 some ((0:Int),r8.1,r8.2)
 else
 bif (n.1 == (9:Int)) then
 guardF (0 ≤ (0:Int) ∧ (0:Int) < (List.length g.2:Int)) <|
 bindF (f52 a.1 (rd (0:Int) g.2 (0:Int))) fun q17_6 =>
 some (q17_6.1,q17_6.2.1,q17_6.2.2)
 else
 bif (n.1 == (10:Int)) then
 guardF (0 ≤ (0:Int) ∧ (0:Int) < (List.length g.2:Int)) <|
 bindF (f41 (rd (0:Int) g.2 (0:Int))) fun q19_6 =>
 bindF (f98 (q19_6.1,q19_6.2) (List.length a.2:Int)) fun q19_10 =>
 bindF (f52 a.1 q19_10) fun q19_11 =>
 some (q19_11.1,q19_11.2.1,q19_11.2.2)
 else
 bif (n.1 == (11:Int)) then
 bindF (f115 n.2.2.2.1 (a.1,a.2) (g.1,g.2)) fun q19_15 =>
 some (q19_15.1,q19_15.2.1,q19_15.2.2)
 else
 bif (n.1 == (12:Int)) then
 guardF (0 ≤ (1:Int) ∧ (1:Int) < (List.length a.1:Int)) <|
 bindF (f116 (g.1,g.2) (b.1,b.2) n.2.2.2.1 (rd (0:Int) a.1 (1:Int))) fun q23_8 =>
 some (q23_8.1,q23_8.2.1,q23_8.2.2)
 else
 bif (n.1 == (13:Int)) then
 bindF (f117 (g.1,g.2) (a.1,a.2) n.2.2.2.1) fun q23_12 =>
 some ((0:Int),q23_12.1,q23_12.2)
 else
 bif (n.1 == (14:Int)) then
 bindF (f118 (g.1,g.2) a.1) fun r9 =>
 some (r9.1,r9.2.1,r9.2.2)
 else
 some ((0:Int),[],[])
def C88 : Con where
 X := (Int×Int×Int×Int×(List Int)×(List Int))×((List Int)×(List Int))×((List Int)×(List Int))×((List Int)×(List Int))
 Y := Int×(List Int)×(List Int)
 e := 0
 args x := [.dat T6 x.1,.dat T7 x.2.1,.dat T7 x.2.2.1,.dat T7 x.2.2.2]
 hin x := []
 F x := f88 x.1 x.2.1 x.2.2.1 x.2.2.2
 ret y := [.raw true [(.osl 0),(.osl 1)],.dat T0 y.1]
 hout y := [(0,.arr 3 T0 y.2.1),(1,.arr 23 T0 y.2.2)]
 nout := 2
theorem C88_vc (n : Int×Int×Int×Int×(List Int)×(List Int)) (a : (List Int)×(List Int)) (b : (List Int)×(List Int)) (g : (List Int)×(List Int)) (y : Int×(List Int)×(List Int)) (hF : f88 n a b g = some y) : VC Tryz.f88 C88 (n,a,b,g) y := by
 unfold f88 at hF
 refine OL (OL (OL ?_))
 obtain ⟨z1,hz1,hF⟩ := bindE hF
 refine OQ ⟨[(0,⟨[(4,P0 0 0),(5,P0 1 0),(6,P0 2 0),(7,P0 3 0),(8,P0 4 0),(13,.dat T0 n.1),(14,.dat .bool z1)],[(0,.cells [(.d T0 n.1),(.d T0 n.2.1),(.d T0 n.2.2.1),(.d T0 n.2.2.2.1),(.d T4 n.2.2.2.2.1),(.d T4 n.2.2.2.2.2)]),(1,.cells [(.d T4 a.1),(.d T4 a.2)]),(2,.cells [(.d T4 b.1),(.d T4 b.2)]),(3,.cells [(.d T4 g.1),(.d T4 g.2)]),(4,.cells [N0,N0])],5⟩)],?_,?_⟩
 ·have hF := hz1
  clear hz1
  unfold f88_j1 at hF
  refine OL (condI hF (fun hF=>?_) (fun hF=>?_))
  ·have hz := someE hF
   subst hz
   refine E4 [(0,some 0),(1,some 1),(2,some 2),(3,some 3),(4,some 4)] (R3 (AI (R5 TV) (R5 TV)))
  have hz := someE hF
  subst hz
  refine E4 [(0,some 0),(1,some 1),(2,some 2),(3,some 3),(4,some 4)] (R3 (AI (R5 TV) (R5 TV)))
 refine AI (condI hF (fun hF=>?_) (fun hF=>?_)) TV
 ·refine OL ?_
  obtain ⟨r2,hr2,hF⟩ := bindE hF
  refine OL (AI f108_in (callV0 (callI C108 ((g.1,g.2),a.1) r2 [] false C108_holds hr2 rfl rfl (R3 (AI (fun h=>nomatch h) (R2 (AI TV (AI TV (OL ?_)))))))))
  have hy := someE hF
  subst hy
  refine AI rfl (E4 [(0,some 5),(1,some 6)] (R2 (AI (AI rfl TV) (R2 TV))))
 refine OL (condI hF (fun hF=>?_) (fun hF=>?_))
 ·refine OL ?_
  obtain ⟨r3,hr3,hF⟩ := bindE hF
  refine OL (AI f109_in (callV0 (callI C109 ((g.1,g.2),(b.1,b.2)) r3 [] false C109_holds hr3 rfl rfl (R4 (AI (fun h=>nomatch h) (R2 (AI TV (AI TV (OL (OL ?_))))))))))
  obtain ⟨r4,hr4,hF⟩ := bindE hF
  refine OL (AI f110_in (callV0 (callI C110 ((r3.2.1,r3.2.2),r3.1,a.1) r4 [] true C110_holds hr4 rfl rfl (R4 (AI (fun _=>rfl) (R2 (AI TV (AI TV (OL ?_)))))))))
  have hy := someE hF
  subst hy
  refine AI rfl (E4 [(0,some 8),(1,some 9)] (R2 (AI (AI rfl TV) (R2 TV))))
 refine OL (condI hF (fun hF=>?_) (fun hF=>?_))
 ·refine OL ?_
  obtain ⟨r5,hr5,hF⟩ := bindE hF
  refine OL (AI f111_in (callV0 (callI C111 ((g.1,g.2),n.2.2.2.1) r5 [] false C111_holds hr5 rfl rfl (R3 (AI (fun h=>nomatch h) (R2 (AI TV (AI TV (OL ?_)))))))))
  have hy := someE hF
  subst hy
  refine AI rfl (E4 [(0,some 5),(1,some 6)] (R2 (AI (AI rfl TV) (R2 TV))))
 refine OL (condI hF (fun hF=>?_) (fun hF=>?_))
 ·refine OL ?_
  obtain ⟨r6,hr6,hF⟩ := bindE hF
  refine OL (AI f112_in (callV0 (callI C112 ((g.1,g.2),(b.1,b.2),false) r6 [] false C112_holds hr6 rfl rfl (R5 (AI (fun h=>nomatch h) (R2 (AI TV (AI TV (OL ?_)))))))))
  have hy := someE hF
  subst hy
  refine AI rfl (E4 [(0,some 5),(1,some 6)] (R2 (AI (AI rfl TV) (R2 TV))))
 refine OL (condI hF (fun hF=>?_) (fun hF=>?_))
 ·refine OL ?_
  obtain ⟨r7,hr7,hF⟩ := bindE hF
  refine OL (AI f113_in (callV0 (callI C113 (g.1,g.2) r7 [] false C113_holds hr7 rfl rfl (R2 (AI (fun h=>nomatch h) (R2 (AI TV (AI TV (OL ?_)))))))))
  have hy := someE hF
  subst hy
  refine AI rfl (E4 [(0,some 5),(1,some 6)] (R2 (AI (AI rfl TV) (R2 TV))))
 refine OL (condI hF (fun hF=>?_) (fun hF=>?_))
 ·refine OL ?_
  obtain ⟨r8,hr8,hF⟩ := bindE hF
  refine OL (AI f114_in (callV0 (callI C114 ((g.1,g.2),a.1,n.2.2.2.1) r8 [] false C114_holds hr8 rfl rfl (R4 (AI (fun h=>nomatch h) (R2 (AI TV (AI TV (OL ?_)))))))))
  have hy := someE hF
  subst hy
  refine AI rfl (E4 [(0,some 5),(1,some 6)] (R2 (AI (AI rfl TV) (R2 TV))))
 refine OL (condI hF (fun hF=>?_) (fun hF=>?_))
 ·refine OL (EI (.take 0 (.take 1 (.take 2 (.take 3 (.take 4 (.take 5 (.alt 6 (.take 7 (.take 8 (.alt 9 (.take 10 .done) .done))) .done))))))) (EI [] (EI [] (AI rfl (guardI hF (fun hF=>?_))))))
  refine AI TV ?_
  obtain ⟨q17_6,hq17_6,hF⟩ := bindE hF
  refine OL (AI f52_in (callV0 (callI C52 (a.1,(rd (0:Int) g.2 (0:Int))) q17_6 [] false C52_holds hq17_6 rfl rfl (R2 (AI (fun h=>nomatch h) (R2 (AI TV (AI TV (AI TV (OL ?_))))))))))
  have hy := someE hF
  subst hy
  refine AI rfl (E4 [(0,some 5),(1,some 6)] (R2 (AI (AI rfl TV) (R2 TV))))
 refine OL (condI hF (fun hF=>?_) (fun hF=>?_))
 ·refine OL (EI (.take 0 (.take 1 (.take 2 (.take 3 (.take 4 (.take 5 (.take 7 (.take 8 (.take 9 (.alt 6 (.alt 10 (.alt 11 (.take 12 (.take 13 (.alt 14 (.take 15 .done) .done))) .done) .done) .done)))))))))) (EI [] (EI [] (AI rfl (guardI hF (fun hF=>?_))))))
  refine AI TV ?_
  obtain ⟨q19_6,hq19_6,hF⟩ := bindE hF
  refine OL (AI f41_in (callV0 (callI C41 (rd (0:Int) g.2 (0:Int)) q19_6 [] false C41_holds hq19_6 rfl rfl (AI rfl (AI (fun h=>nomatch h) (R2 (AI TV (AI TV (AI TV ?_)))))))))
  obtain ⟨q19_10,hq19_10,hF⟩ := bindE hF
  refine OL (AI f98_in (callV0 (callI C98 ((q19_6.1,q19_6.2),(List.length a.2:Int)) q19_10 [] false C98_holds hq19_10 rfl rfl (R3 (AI (fun h=>nomatch h) (R2 (AI TV (AI TV (AI TV ?_)))))))))
  obtain ⟨q19_11,hq19_11,hF⟩ := bindE hF
  refine OL (AI f52_in (callV0 (callI C52 (a.1,q19_10) q19_11 [] false C52_holds hq19_11 rfl rfl (R2 (AI (fun h=>nomatch h) (R2 (AI TV (AI TV (AI TV (OL ?_))))))))))
  have hy := someE hF
  subst hy
  refine AI rfl (E4 [(0,some 5),(1,some 6)] (R2 (AI (AI rfl TV) (R2 TV))))
 refine OL (condI hF (fun hF=>?_) (fun hF=>?_))
 ·refine OL ?_
  obtain ⟨q19_15,hq19_15,hF⟩ := bindE hF
  refine OL (AI f115_in (callV0 (callI C115 (n.2.2.2.1,(a.1,a.2),(g.1,g.2)) q19_15 [] false C115_holds hq19_15 rfl rfl (R5 (AI (fun h=>nomatch h) (R2 (AI TV (AI TV (OL ?_)))))))))
  have hy := someE hF
  subst hy
  refine AI rfl (E4 [(0,some 5),(1,some 6)] (R2 (AI (AI rfl TV) (R2 TV))))
 refine OL (condI hF (fun hF=>?_) (fun hF=>?_))
 ·refine OL (EI (.take 0 (.take 1 (.take 2 (.take 3 (.take 4 (.take 5 (.take 6 (.take 7 (.alt 8 (.take 9 (.take 10 (.alt 11 (.take 12 .done) .done))) .done))))))))) (EI [] (EI [] (AI rfl (guardI hF (fun hF=>?_))))))
  refine AI TV ?_
  obtain ⟨q23_8,hq23_8,hF⟩ := bindE hF
  refine OL (AI f116_in (callV0 (callI C116 ((g.1,g.2),(b.1,b.2),n.2.2.2.1,(rd (0:Int) a.1 (1:Int))) q23_8 [] false C116_holds hq23_8 rfl rfl (R6 (AI (fun h=>nomatch h) (R2 (AI TV (AI TV (AI TV (OL ?_))))))))))
  have hy := someE hF
  subst hy
  refine AI rfl (E4 [(0,some 5),(1,some 6)] (R2 (AI (AI rfl TV) (R2 TV))))
 refine OL (condI hF (fun hF=>?_) (fun hF=>?_))
 ·refine OL ?_
  obtain ⟨q23_12,hq23_12,hF⟩ := bindE hF
  refine OL (AI f117_in (callV0 (callI C117 ((g.1,g.2),(a.1,a.2),n.2.2.2.1) q23_12 [] false C117_holds hq23_12 rfl rfl (R5 (AI (fun h=>nomatch h) (R2 (AI TV (AI TV (OL ?_)))))))))
  have hy := someE hF
  subst hy
  refine AI rfl (E4 [(0,some 5),(1,some 6)] (R2 (AI (AI rfl TV) (R2 TV))))
 refine OL (condI hF (fun hF=>?_) (fun hF=>?_))
 ·refine OL ?_
  obtain ⟨r9,hr9,hF⟩ := bindE hF
  refine OL (AI f118_in (callV0 (callI C118 ((g.1,g.2),a.1) r9 [] false C118_holds hr9 rfl rfl (R3 (AI (fun h=>nomatch h) (R2 (AI TV (AI TV (OL ?_)))))))))
  have hy := someE hF
  subst hy
  refine AI rfl (E4 [(0,some 5),(1,some 6)] (R2 (AI (AI rfl TV) (R2 TV))))
 refine OL (OL ?_)
 have hy := someE hF
 subst hy
 refine AI rfl (E4 [(0,none),(1,none)] (R2 (AI (AI rfl TV) (R2 TV))))
theorem C88_holds : C88.Holds Tryz.prog 88 := holds_of_vc tab_ok mixed (fn := Tryz.f88) (by kernel_rfl) rfl C88 (fun x y hF=>C88_vc x.1 x.2.1 x.2.2.1 x.2.2.2 y hF)
theorem f88_in : InP 88 := ⟨Tryz.f88,by kernel_rfl,by kernel_rfl,by kernel_rfl⟩
def f119_j4 (g : (List Int)×(List Int)) (a : (List Int)×(List Int)) (step:Int) (wid:Int) : Option Bool :=
 bindF (f86 (g.1,g.2)) fun r15 =>
 bif (!r15) then
 some true
 else
 bindF (f86 (a.1,a.2)) fun r16 =>
 bif (!r16) then
 some true
 else
 bindF (f150 step) fun r17 =>
 bif (!r17) then
 some true
 else
 bindF (f151 wid) fun r18 =>
 some (!r18)
def f119_j5 (g : (List Int)×(List Int)) (a : (List Int)×(List Int)) (step:Int) (wid:Int) : Option Bool :=
 bif ((List.length g.1:Int) != (2:Int)) then
 some true
 else
 bif ((List.length a.1:Int) != (2:Int)) then
 some true
 else
 guardF (0 ≤ (1:Int) ∧ (1:Int) < (List.length a.1:Int)) <|
 guardF (0 ≤ (1:Int) ∧ (1:Int) < (List.length g.1:Int)) <|
 bindF (f152 (rd (0:Int) a.1 (1:Int)) wid step) fun q3_17 =>
 some (q3_17 != (rd (0:Int) g.1 (1:Int)))
def f119_j3 (g : (List Int)×(List Int)) (a : (List Int)×(List Int)) (step:Int) (wid:Int) : Option (Sum Unit Int) :=
 bindF (f119_j4 g a step wid) fun z14 =>
 bif z14 then
 some (Sum.inr (1:Int))
 else
 bindF (f119_j5 g a step wid) fun z19 =>
 bif z19 then
 some (Sum.inr (4:Int))
 else
 some (Sum.inl ())
def f119_l9 (g : (List Int)×(List Int)) (a : (List Int)×(List Int)) (step:Int) (wid:Int) (v97:Int) (go : (Int×Int×Int×Int) → Option (Int×Int×Int)) (v114:Int) (c4_0:Int) (c4_1:Int) (c4_2:Int) : Option (Int×Int×Int) :=
 bif (decide (v114 < (rd (0:Int) g.1 (1:Int)))) then
 guardF (0 ≤ (i64.wrap ((i64.wrap ((i64.wrap (Int.tdiv v97 (i64.wrap ((rd (0:Int) a.1 (0:Int)) * wid)))) * (rd (0:Int) g.1 (1:Int)))) + v114)) ∧ (i64.wrap ((i64.wrap ((i64.wrap (Int.tdiv v97 (i64.wrap ((rd (0:Int) a.1 (0:Int)) * wid)))) * (rd (0:Int) g.1 (1:Int)))) + v114)) < (List.length g.2:Int)) <|
 guardF (0 ≤ (i64.wrap ((i64.wrap ((i64.wrap ((Int.tmod (i64.wrap (Int.tdiv v97 wid)) (rd (0:Int) a.1 (0:Int))) * (rd (0:Int) a.1 (1:Int)))) + (i64.wrap (v114 * step)))) + (Int.tmod v97 wid))) ∧ (i64.wrap ((i64.wrap ((i64.wrap ((Int.tmod (i64.wrap (Int.tdiv v97 wid)) (rd (0:Int) a.1 (0:Int))) * (rd (0:Int) a.1 (1:Int)))) + (i64.wrap (v114 * step)))) + (Int.tmod v97 wid))) < (List.length a.2:Int)) <|
 bindF (f154 c4_0 c4_1 c4_2 (rd (0:Int) g.2 (i64.wrap ((i64.wrap ((i64.wrap (Int.tdiv v97 (i64.wrap ((rd (0:Int) a.1 (0:Int)) * wid)))) * (rd (0:Int) g.1 (1:Int)))) + v114))) (rd (0:Int) a.2 (i64.wrap ((i64.wrap ((i64.wrap ((Int.tmod (i64.wrap (Int.tdiv v97 wid)) (rd (0:Int) a.1 (0:Int))) * (rd (0:Int) a.1 (1:Int)))) + (i64.wrap (v114 * step)))) + (Int.tmod v97 wid))))) fun q17_22 =>
 go ((i64.wrap (v114 + (1:Int))),q17_22.1,q17_22.2.1,q17_22.2.2)
 else
 some (c4_0,c4_1,c4_2)
def f119_l8 (g : (List Int)×(List Int)) (a : (List Int)×(List Int)) (step:Int) (wid:Int) (q5_14 : Int×(List Int)×(List Int)) (go : (Int×(List Int)) → Option (List Int)) (v97:Int) (l5 : List Int) : Option (List Int) :=
 bif (decide (v97 < (List.length q5_14.2.2:Int))) then
 guardF ((i64.wrap ((rd (0:Int) a.1 (0:Int)) * wid)) ≠ 0) <|
 guardF (wid ≠ 0) <|
 guardF ((rd (0:Int) a.1 (0:Int)) ≠ 0) <|
 guardF (wid ≠ 0) <|
 bindF (loopF (fun go x=>f119_l9 g a step wid v97 go x.1 x.2.1 x.2.2.1 x.2.2.2) fuelN ((0:Int),(0:Int),(0:Int),(0:Int))) fun z23 =>
 bindF (f155 z23.1 z23.2.1 z23.2.2 (32:Int)) fun q19_3 =>
 guardF (0 ≤ v97 ∧ v97 < (List.length l5:Int)) <|
 go ((i64.wrap (v97 + (1:Int))),(List.set l5 (Int.toNat v97) q19_3.1))
 else
 some l5
def f119 (g : (List Int)×(List Int)) (a : (List Int)×(List Int)) (step:Int) (wid:Int) : Option (Int×(List Int)×(List Int)) :=
 bindF (f119_j3 g a step wid) fun z10 =>
 sumF z10 (fun z10a =>
 guardF (0 ≤ (0:Int) ∧ (0:Int) < (List.length a.1:Int)) <|
 guardF (0 ≤ (1:Int) ∧ (1:Int) < (List.length a.1:Int)) <|
 guardF (0 ≤ (1:Int) ∧ (1:Int) < (List.length g.1:Int)) <|
 guardF (0 ≤ (0:Int) ∧ (0:Int) < (List.length g.1:Int)) <|
 bindF (f153 ([(rd (0:Int) g.1 (0:Int)),(rd (0:Int) a.1 (0:Int)),wid])) fun q5_14 =>
 bif (q5_14.1 != (0:Int)) then
 some (q5_14.1,[],[])
 else
 bindF (loopF (fun go x=>f119_l8 g a step wid q5_14 go x.1 x.2) fuelN ((0:Int),q5_14.2.2)) fun z22 =>
 some ((0:Int),q5_14.2.1,z22)) (fun z10b =>
 some (z10b,[],[]))
def C119 : Con where
 X := ((List Int)×(List Int))×((List Int)×(List Int))×Int×Int
 Y := Int×(List Int)×(List Int)
 e := 0
 args x := [.dat T7 x.1,.dat T7 x.2.1,.dat T0 x.2.2.1,.dat T0 x.2.2.2]
 hin x := []
 F x := f119 x.1 x.2.1 x.2.2.1 x.2.2.2
 ret y := [.raw true [(.osl 0),(.osl 1)],.dat T0 y.1]
 hout y := [(0,.arr 3 T0 y.2.1),(1,.arr 23 T0 y.2.2)]
 nout := 2
theorem C119_vc (g : (List Int)×(List Int)) (a : (List Int)×(List Int)) (step:Int) (wid:Int) (y : Int×(List Int)×(List Int)) (hF : f119 g a step wid = some y) : VC Tryz.f119 C119 (g,a,step,wid) y := by
 unfold f119 at hF
 refine OL ?_
 obtain ⟨z10,hz10,hF⟩ := bindE hF
 refine OQ ⟨Sum.elim (fun z10a=>[(0,⟨[(2,.dat T0 step),(3,.dat T0 wid),(4,P0 0 0),(5,P0 1 0),(8,P0 2 0)],[(0,.cells [(.d T4 g.1),(.d T4 g.2)]),(1,.cells [(.d T4 a.1),(.d T4 a.2)]),(2,.cells [N0,N0])],3⟩)]) (fun z10b=>[(1,⟨[(8,P0 0 0),(9,.dat T0 z10b)],[(0,.cells [N0,N0])],1⟩)]) z10,?_,?_⟩
 ·have hF := hz10
  clear hz10
  unfold f119_j3 at hF
  obtain ⟨z14,hz14,hF⟩ := bindE hF
  refine OQ ⟨[(0,⟨[(2,.dat T0 step),(3,.dat T0 wid),(4,P0 0 0),(5,P0 1 0),(8,P0 2 0),(21,.dat .bool z14)],[(0,.cells [(.d T4 g.1),(.d T4 g.2)]),(1,.cells [(.d T4 a.1),(.d T4 a.2)]),(2,.cells [N0,N0])],3⟩)],?_,?_⟩
  ·have hF := hz14
   clear hz14
   unfold f119_j4 at hF
   obtain ⟨r15,hr15,hF⟩ := bindE hF
   refine OL (AI f86_in (callV0 (callI C86 (g.1,g.2) r15 [] false C86_holds hr15 rfl rfl (R2 (AI (fun h=>nomatch h) (R2 (AI TV (AI TV (condN hF (fun hF=>?_) (fun hF=>?_))))))))))
   ·refine gdYF ?_
    obtain ⟨r16,hr16,hF⟩ := bindE hF
    refine OL (AI f86_in (callV0 (callI C86 (a.1,a.2) r16 [] false C86_holds hr16 rfl rfl (R2 (AI (fun h=>nomatch h) (R2 (AI TV (AI TV (gdYF (condF (condN hF (fun hF=>?_) (fun hF=>?_))))))))))))
    ·refine gdYF ?_
     obtain ⟨r17,hr17,hF⟩ := bindE hF
     refine OL (AI f150_in (callV0 (callI C150 step r17 [] false C150_holds hr17 rfl rfl (AI rfl (AI (fun h=>nomatch h) (R2 (AI TV (AI TV (gdYF (condF (condN hF (fun hF=>?_) (fun hF=>?_))))))))))))
     ·refine gdYF ?_
      obtain ⟨r18,hr18,hF⟩ := bindE hF
      refine OL (AI f151_in (callV0 (callI C151 wid r18 [] false C151_holds hr18 rfl rfl (AI rfl (AI (fun h=>nomatch h) (R2 (AI TV (AI TV (gdYF (condF ?_))))))))))
      have hz := someE hF
      subst hz
      refine E4 [(0,some 0),(1,some 1),(2,some 2)] (R4 (AI (R3 TV) (R3 TV)))
     refine gdNF (gdNF (condT ?_))
     have hz := someE hF
     subst hz
     refine E4 [(0,some 0),(1,some 1),(2,some 2)] (R4 (AI (R3 TV) (R3 TV)))
    refine gdNF (gdNF (condT (gdNF (gdNF (gdNF (condT ?_))))))
    have hz := someE hF
    subst hz
    refine E4 [(0,some 0),(1,some 1),(2,some 2)] (R4 (AI (R3 TV) (R3 TV)))
   refine gdNF (gdNF (condT (gdNF (gdNF (gdNF (condT (gdNF (gdNF (gdNF (condT ?_))))))))))
   have hz := someE hF
   subst hz
   refine E4 [(0,some 0),(1,some 1),(2,some 2)] (R4 (AI (R3 TV) (R3 TV)))
  refine AI (condI hF (fun hF=>?_) (fun hF=>?_)) TV
  ·refine OL (OL ?_)
   have hz := someE hF
   subst hz
   refine E4 [(0,some 2)] (R2 (AI (AI rfl TV) (AI rfl TV)))
  obtain ⟨z19,hz19,hF⟩ := bindE hF
  refine OQ ⟨[(0,⟨[(2,.dat T0 step),(3,.dat T0 wid),(4,P0 0 0),(5,P0 1 0),(8,P0 2 0),(41,.dat .bool z19)],[(0,.cells [(.d T4 g.1),(.d T4 g.2)]),(1,.cells [(.d T4 a.1),(.d T4 a.2)]),(2,.cells [N0,N0])],3⟩)],?_,?_⟩
  ·have hF := hz19
   clear hz19
   unfold f119_j5 at hF
   refine EI (.take 0 (.take 1 (.take 2 (.take 3 (.take 4 (.take 5 (.take 6 (.take 7 (.take 8 (.take 9 (.take 10 (.take 11 (.take 12 (.take 13 (.take 14 (.take 15 (.take 16 (.take 18 (.take 19 (.take 20 (.take 21 (.alt 17 (.take 22 (.take 23 (.take 24 .done))) .done)))))))))))))))))))))) (EI [] (EI [] (AI rfl (condN hF (fun hF=>?_) (fun hF=>?_)))))
   ·refine gdYF (gdYF (gdYF (condF (condN hF (fun hF=>?_) (fun hF=>?_)))))
    ·refine gdYF (gdYF (guardI hF (fun hF=>?_)))
     refine gdYF (gdYF (gdYF (gdYF (gdYF (gdYF (guardI hF (fun hF=>?_)))))))
     refine gdYF (AI TV (gdYF ?_))
     obtain ⟨q3_17,hq3_17,hF⟩ := bindE hF
     refine OL (AI f152_in (callV0 (callI C152 ((rd (0:Int) a.1 (1:Int)),wid,step) q3_17 [] false C152_holds hq3_17 rfl rfl (R3 (AI (fun h=>nomatch h) (R2 (AI TV (AI TV (gdYF (condF ?_))))))))))
     have hz := someE hF
     subst hz
     refine E4 [(0,some 0),(1,some 1),(2,some 2)] (R4 (AI (R3 TV) (R3 TV)))
    refine gdNF (gdNF (gdNF (gdNF (gdNF (gdNF (gdNF (gdNF (gdNF (AI TV (gdNF (gdNF (condT ?_))))))))))))
    have hz := someE hF
    subst hz
    refine E4 [(0,some 0),(1,some 1),(2,some 2)] (R4 (AI (R3 TV) (R3 TV)))
   refine gdNF (gdNF (gdNF (condT (gdNF (gdNF (gdNF (gdNF (gdNF (gdNF (gdNF (gdNF (gdNF (gdNF (AI TV (gdNF (gdNF (condT ?_)))))))))))))))))
   have hz := someE hF
   subst hz
   refine E4 [(0,some 0),(1,some 1),(2,some 2)] (R4 (AI (R3 TV) (R3 TV)))
  refine AI (condI hF (fun hF=>?_) (fun hF=>?_)) TV
  ·refine OL (OL ?_)
   have hz := someE hF
   subst hz
   refine E4 [(0,some 2)] (R2 (AI (AI rfl TV) (AI rfl TV)))
  have hz := someE hF
  subst hz
  refine E4 [(0,some 0),(1,some 1),(2,some 2)] (R3 (AI (R3 TV) (R3 TV)))
 rcases z10 with z10a | z10b
 ·dsimp only [sumF] at hF
  refine AI (OL (EI (.take 0 (.take 1 (.take 2 (.take 3 (.take 4 (.take 5 (.take 6 (.take 7 (.take 8 (.take 9 (.take 10 (.take 11 (.take 12 (.take 13 (.take 14 .done))))))))))))))) (EI [] (EI [] (AI rfl (guardI hF (fun hF=>?_))))))) TV
  refine guardI hF (fun hF=>?_)
  refine guardI hF (fun hF=>?_)
  refine OL (guardI hF (fun hF=>?_))
  refine OL ?_
  obtain ⟨q5_14,hq5_14,hF⟩ := bindE hF
  refine OL (AI f153_in (callV0 (callI C153 [(rd (0:Int) g.1 (0:Int)),(rd (0:Int) a.1 (0:Int)),wid] q5_14 [] true C153_holds hq5_14 rfl rfl (AI rfl (AI (fun _=>rfl) (R2 (AI TV (AI TV (OL (OL (OL (condI hF (fun hF=>?_) (fun hF=>?_)))))))))))))
  ·refine OL (OL ?_)
   have hy := someE hF
   subst hy
   refine AI rfl (E4 [(0,none),(1,none)] (R2 (AI (AI rfl TV) (R2 TV))))
  refine OL (OL ?_)
  obtain ⟨z22,hz22,hF⟩ := bindE hF
  refine loopI (Int×(List Int)) (List Int) (fun x=>⟨[(2,.dat T0 step),(3,.dat T0 wid),(4,P0 0 0),(5,P0 1 0),(8,P0 2 0),(10,.dat T0 (rd (0:Int) a.1 (0:Int))),(11,.dat T0 (rd (0:Int) a.1 (1:Int))),(12,.dat T0 (rd (0:Int) g.1 (1:Int))),(13,P0 3 0),(96,.dat T0 (List.length q5_14.2.2:Int)),(97,.dat T0 x.1)],[(0,.cells [(.d T4 g.1),(.d T4 g.2)]),(1,.cells [(.d T4 a.1),(.d T4 a.2)]),(2,.cells [N0,N0]),(3,.cells [(.osl 4),(.osl 5)]),(4,.arr 3 T0 q5_14.2.1),(5,.arr 23 T0 x.2)],6⟩) (fun z=>[(3,⟨[(8,P0 0 0),(13,P0 1 0)],[(0,.cells [N0,N0]),(1,.cells [(.osl 2),(.osl 3)]),(2,.arr 3 T0 q5_14.2.1),(3,.arr 23 T0 z)],4⟩)]) (loopF (fun go x=>f119_l8 g a step wid q5_14 go x.1 x.2)) fuelN ((0:Int),q5_14.2.2) z22 (AI hz22 (AI (E4 [(0,some 0),(1,some 1),(2,some 2),(3,some 6),(4,some 4),(5,some 5)] (R8 (AI (R4 TV) (R6 TV)))) (AI (fun _ _ h=>loopZ h) (AI (fun m=>curI (fun v97=>fun l5 z hF=>?_)) ?_))))
  ·have hF : f119_l8 g a step wid q5_14 (loopF (fun go x=>f119_l8 g a step wid q5_14 go x.1 x.2) m) v97 l5 = some z := hF
   unfold f119_l8 at hF
   refine OL (OL (condI hF (fun hF=>?_) (fun hF=>?_)))
   ·refine OL (OL (OL (EI (.take 0 (.take 1 (.take 2 (.take 3 (.take 4 (.take 5 (.take 6 (.take 7 (.take 8 (.take 9 (.take 10 (.take 11 (.take 12 (.take 13 (.take 14 (.take 15 .done)))))))))))))))) (EI [] (EI [] (AI rfl (guardI hF (fun hF=>?_))))))))
    refine guardI hF (fun hF=>?_)
    refine guardI hF (fun hF=>?_)
    refine guardI hF (fun hF=>?_)
    refine OL (OL (OL ?_))
    obtain ⟨z23,hz23,hF⟩ := bindE hF
    refine loopI (Int×Int×Int×Int) (Int×Int×Int) (fun x=>⟨[(2,.dat T0 step),(3,.dat T0 wid),(4,P0 0 0),(5,P0 1 0),(8,P0 2 0),(10,.dat T0 (rd (0:Int) a.1 (0:Int))),(11,.dat T0 (rd (0:Int) a.1 (1:Int))),(12,.dat T0 (rd (0:Int) g.1 (1:Int))),(13,P0 3 0),(15,.dat T0 v97),(16,.dat T0 (i64.wrap (Int.tdiv v97 (i64.wrap ((rd (0:Int) a.1 (0:Int)) * wid))))),(17,.dat T0 (Int.tmod (i64.wrap (Int.tdiv v97 wid)) (rd (0:Int) a.1 (0:Int)))),(18,.dat T0 (Int.tmod v97 wid)),(19,P0 4 0),(96,.dat T0 (List.length q5_14.2.2:Int)),(97,.dat T0 v97),(113,.dat T0 (rd (0:Int) g.1 (1:Int))),(114,.dat T0 x.1)],[(0,.cells [(.d T4 g.1),(.d T4 g.2)]),(1,.cells [(.d T4 a.1),(.d T4 a.2)]),(2,.cells [N0,N0]),(3,.cells [(.osl 5),(.osl 6)]),(4,.cells [(.d T0 x.2.1),(.d T0 x.2.2.1),(.d T8 x.2.2.2)]),(5,.arr 3 T0 q5_14.2.1),(6,.arr 23 T0 l5)],7⟩) (fun z=>[(5,⟨[(2,.dat T0 step),(3,.dat T0 wid),(4,P0 0 0),(5,P0 1 0),(8,P0 2 0),(10,.dat T0 (rd (0:Int) a.1 (0:Int))),(11,.dat T0 (rd (0:Int) a.1 (1:Int))),(12,.dat T0 (rd (0:Int) g.1 (1:Int))),(13,P0 3 0),(15,.dat T0 v97),(19,P0 4 0),(96,.dat T0 (List.length q5_14.2.2:Int)),(97,.dat T0 v97)],[(0,.cells [(.d T4 g.1),(.d T4 g.2)]),(1,.cells [(.d T4 a.1),(.d T4 a.2)]),(2,.cells [N0,N0]),(3,.cells [(.osl 5),(.osl 6)]),(4,.cells [(.d T0 z.1),(.d T0 z.2.1),(.d T8 z.2.2)]),(5,.arr 3 T0 q5_14.2.1),(6,.arr 23 T0 l5)],7⟩)]) (loopF (fun go x=>f119_l9 g a step wid v97 go x.1 x.2.1 x.2.2.1 x.2.2.2)) fuelN ((0:Int),(0:Int),(0:Int),(0:Int)) z23 (AI hz23 (AI (E4 [(0,some 0),(1,some 1),(2,some 2),(3,some 3),(4,some 6),(5,some 4),(6,some 5)] (R14 (AI (R5 TV) (R7 TV)))) (AI (fun _ _ h=>loopZ h) (AI (fun m=>curI (fun v114=>curI (fun c4_0=>curI (fun c4_1=>fun c4_2 z hF=>?_)))) ?_))))
    ·have hF : f119_l9 g a step wid v97 (loopF (fun go x=>f119_l9 g a step wid v97 go x.1 x.2.1 x.2.2.1 x.2.2.2) m) v114 c4_0 c4_1 c4_2 = some z := hF
     unfold f119_l9 at hF
     refine OL (OL (condI hF (fun hF=>?_) (fun hF=>?_)))
     ·refine OL (OL (EI (.take 0 (.take 1 (.take 2 (.take 3 (.take 4 (.take 5 (.take 6 (.take 7 (.take 8 (.take 9 (.take 10 (.take 11 (.take 12 (.take 13 (.take 14 (.take 15 (.take 16 (.take 17 (.take 18 (.take 19 (.take 20 (.take 21 (.alt 22 .done .done))))))))))))))))))))))) (EI [] (EI [] (AI rfl (guardI hF (fun hF=>?_)))))))
      refine guardI hF (fun hF=>?_)
      refine AI TV ?_
      obtain ⟨q17_22,hq17_22,hF⟩ := bindE hF
      refine OL (AI f154_in (callV0 (callI C154 (c4_0,c4_1,c4_2,(rd (0:Int) g.2 (i64.wrap ((i64.wrap ((i64.wrap (Int.tdiv v97 (i64.wrap ((rd (0:Int) a.1 (0:Int)) * wid)))) * (rd (0:Int) g.1 (1:Int)))) + v114))),(rd (0:Int) a.2 (i64.wrap ((i64.wrap ((i64.wrap ((Int.tmod (i64.wrap (Int.tdiv v97 wid)) (rd (0:Int) a.1 (0:Int))) * (rd (0:Int) a.1 (1:Int)))) + (i64.wrap (v114 * step)))) + (Int.tmod v97 wid))))) q17_22 [(0,some 4)] false C154_holds hq17_22 rfl rfl (R2 (AI (fun h=>nomatch h) (R2 (AI (AI rfl TV) (AI (AI rfl TV) (EI ((i64.wrap (v114 + (1:Int))),q17_22.1,q17_22.2.1,q17_22.2.2) (AI hF (E4 [(0,some 0),(1,some 1),(2,some 2),(3,some 3),(4,some 4),(5,some 5),(6,some 6)] (R14 (AI (R5 TV) (R7 TV))))))))))))))
     have hz := someE hF
     subst hz
     refine E4 [(0,some 0),(1,some 1),(2,some 2),(3,some 3),(4,some 4),(5,some 5),(6,some 6)] (R9 (AI (R5 TV) (R7 TV)))
    refine AI (EI (.take 0 (.take 1 (.take 2 (.alt 3 (.take 4 (.alt 5 .done .done)) .done)))) (EI [] (EI [] (AI rfl (AI TV ?_))))) TV
    obtain ⟨q19_3,hq19_3,hF⟩ := bindE hF
    refine OL (AI f155_in (callV0 (callI C155 (z23.1,z23.2.1,z23.2.2,(32:Int)) q19_3 [(0,some 4)] false C155_holds hq19_3 rfl rfl (AI rfl (AI (fun h=>nomatch h) (R2 (AI (AI rfl TV) (AI (AI rfl TV) (guardI hF (fun hF=>?_))))))))))
    refine AI TV (OL (EI ((i64.wrap (v97 + (1:Int))),(List.set l5 (Int.toNat v97) q19_3.1)) (AI hF (E4 [(0,some 0),(1,some 1),(2,some 2),(3,some 3),(4,some 5),(5,some 6)] (R8 (AI (R4 TV) (R6 TV)))))))
   have hz := someE hF
   subst hz
   refine E4 [(0,some 2),(1,some 3),(2,some 4),(3,some 5)] (AI rfl (AI (R2 TV) (R4 TV)))
  refine AI (OL (OL ?_)) TV
  have hy := someE hF
  subst hy
  refine AI rfl (E4 [(0,some 2),(1,some 3)] (R2 (AI (AI rfl TV) (R2 TV))))
 dsimp only [sumF] at hF
 refine AI ?_ TV
 have hy := someE hF
 subst hy
 refine AI rfl (E4 [(0,none),(1,none)] (R2 (AI (AI rfl TV) (R2 TV))))
theorem C119_holds : C119.Holds Tryz.prog 119 := holds_of_vc tab_ok mixed (fn := Tryz.f119) (by kernel_rfl) rfl C119 (fun x y hF=>C119_vc x.1 x.2.1 x.2.2.1 x.2.2.2 y hF)
theorem f119_in : InP 119 := ⟨Tryz.f119,by kernel_rfl,by kernel_rfl,by kernel_rfl⟩
def f89 (n : Int×Int×Int×Int×(List Int)×(List Int)) (a : (List Int)×(List Int)) (b : (List Int)×(List Int)) (g : (List Int)×(List Int)) : Option (Int×(List Int)×(List Int)) :=
 bif (n.1 == (2:Int)) then
 bindF (f108 (g.1,g.2) b.1) fun q13_12 =>
 some (q13_12.1,q13_12.2.1,q13_12.2.2)
 else
 bif (n.1 == (3:Int)) then
 bindF (f111 (g.1,g.2) (-4294967296:Int)) fun r1 =>
 bindF (f110 (r1.2.1,r1.2.2) r1.1 b.1) fun r2 =>
 some (r2.1,r2.2.1,r2.2.2)
 else
 bif (n.1 == (4:Int)) then
 bindF (f109 (g.1,g.2) (a.1,a.2)) fun r3 =>
 bindF (f110 (r3.2.1,r3.2.2) r3.1 b.1) fun r4 =>
 some (r4.1,r4.2.1,r4.2.2)
 else
 bif (n.1 == (6:Int)) then
 bindF (f112 (a.1,a.2) (g.1,g.2) true) fun r5 =>
 some (r5.1,r5.2.1,r5.2.2)
 else
 bif (n.1 == (12:Int)) then
 guardF (0 ≤ (2:Int) ∧ (2:Int) < (List.length b.1:Int)) <|
 bindF (f119 (g.1,g.2) (a.1,a.2) n.2.2.2.1 (rd (0:Int) b.1 (2:Int))) fun q13_8 =>
 some (q13_8.1,q13_8.2.1,q13_8.2.2)
 else
 some ((0:Int),[],[])
def C89 : Con where
 X := (Int×Int×Int×Int×(List Int)×(List Int))×((List Int)×(List Int))×((List Int)×(List Int))×((List Int)×(List Int))
 Y := Int×(List Int)×(List Int)
 e := 0
 args x := [.dat T6 x.1,.dat T7 x.2.1,.dat T7 x.2.2.1,.dat T7 x.2.2.2]
 hin x := []
 F x := f89 x.1 x.2.1 x.2.2.1 x.2.2.2
 ret y := [.raw true [(.osl 0),(.osl 1)],.dat T0 y.1]
 hout y := [(0,.arr 3 T0 y.2.1),(1,.arr 23 T0 y.2.2)]
 nout := 2
theorem C89_vc (n : Int×Int×Int×Int×(List Int)×(List Int)) (a : (List Int)×(List Int)) (b : (List Int)×(List Int)) (g : (List Int)×(List Int)) (y : Int×(List Int)×(List Int)) (hF : f89 n a b g = some y) : VC Tryz.f89 C89 (n,a,b,g) y := by
 unfold f89 at hF
 refine OL (OL (OL (OL (condI hF (fun hF=>?_) (fun hF=>?_)))))
 ·refine OL ?_
  obtain ⟨q13_12,hq13_12,hF⟩ := bindE hF
  refine OL (AI f108_in (callV0 (callI C108 ((g.1,g.2),b.1) q13_12 [] false C108_holds hq13_12 rfl rfl (R3 (AI (fun h=>nomatch h) (R2 (AI TV (AI TV (OL ?_)))))))))
  have hy := someE hF
  subst hy
  refine AI rfl (E4 [(0,some 5),(1,some 6)] (R2 (AI (AI rfl TV) (R2 TV))))
 refine OL (condI hF (fun hF=>?_) (fun hF=>?_))
 ·refine OL ?_
  obtain ⟨r1,hr1,hF⟩ := bindE hF
  have hr1 : C111.F ((g.1,g.2),(-4294967296:Int)) = some r1 := hr1
  refine OL (AI f111_in (callV0 (callI C111 _ r1 [] false C111_holds hr1 rfl rfl (R3 (AI (fun h=>nomatch h) (R2 (AI TV (AI TV (OL (OL ?_))))))))))
  obtain ⟨r2,hr2,hF⟩ := bindE hF
  refine OL (AI f110_in (callV0 (callI C110 ((r1.2.1,r1.2.2),r1.1,b.1) r2 [] true C110_holds hr2 rfl rfl (R4 (AI (fun _=>rfl) (R2 (AI TV (AI TV (OL ?_)))))))))
  have hy := someE hF
  subst hy
  refine AI rfl (E4 [(0,some 8),(1,some 9)] (R2 (AI (AI rfl TV) (R2 TV))))
 refine OL (condI hF (fun hF=>?_) (fun hF=>?_))
 ·refine OL ?_
  obtain ⟨r3,hr3,hF⟩ := bindE hF
  refine OL (AI f109_in (callV0 (callI C109 ((g.1,g.2),(a.1,a.2)) r3 [] false C109_holds hr3 rfl rfl (R4 (AI (fun h=>nomatch h) (R2 (AI TV (AI TV (OL (OL ?_))))))))))
  obtain ⟨r4,hr4,hF⟩ := bindE hF
  refine OL (AI f110_in (callV0 (callI C110 ((r3.2.1,r3.2.2),r3.1,b.1) r4 [] true C110_holds hr4 rfl rfl (R4 (AI (fun _=>rfl) (R2 (AI TV (AI TV (OL ?_)))))))))
  have hy := someE hF
  subst hy
  refine AI rfl (E4 [(0,some 8),(1,some 9)] (R2 (AI (AI rfl TV) (R2 TV))))
 refine OL (condI hF (fun hF=>?_) (fun hF=>?_))
 ·refine OL ?_
  obtain ⟨r5,hr5,hF⟩ := bindE hF
  refine OL (AI f112_in (callV0 (callI C112 ((a.1,a.2),(g.1,g.2),true) r5 [] false C112_holds hr5 rfl rfl (R5 (AI (fun h=>nomatch h) (R2 (AI TV (AI TV (OL ?_)))))))))
  have hy := someE hF
  subst hy
  refine AI rfl (E4 [(0,some 5),(1,some 6)] (R2 (AI (AI rfl TV) (R2 TV))))
 refine OL (condI hF (fun hF=>?_) (fun hF=>?_))
 ·refine OL (EI (.take 0 (.take 1 (.take 2 (.take 3 (.take 4 (.take 5 (.take 6 (.take 7 (.alt 8 (.take 9 (.take 10 (.alt 11 (.take 12 .done) .done))) .done))))))))) (EI [] (EI [] (AI rfl (guardI hF (fun hF=>?_))))))
  refine AI TV ?_
  obtain ⟨q13_8,hq13_8,hF⟩ := bindE hF
  refine OL (AI f119_in (callV0 (callI C119 ((g.1,g.2),(a.1,a.2),n.2.2.2.1,(rd (0:Int) b.1 (2:Int))) q13_8 [] false C119_holds hq13_8 rfl rfl (R6 (AI (fun h=>nomatch h) (R2 (AI TV (AI TV (AI TV (OL ?_))))))))))
  have hy := someE hF
  subst hy
  refine AI rfl (E4 [(0,some 5),(1,some 6)] (R2 (AI (AI rfl TV) (R2 TV))))
 refine OL (OL ?_)
 have hy := someE hF
 subst hy
 refine AI rfl (E4 [(0,none),(1,none)] (R2 (AI (AI rfl TV) (R2 TV))))
theorem C89_holds : C89.Holds Tryz.prog 89 := holds_of_vc tab_ok mixed (fn := Tryz.f89) (by kernel_rfl) rfl C89 (fun x y hF=>C89_vc x.1 x.2.1 x.2.2.1 x.2.2.2 y hF)
theorem f89_in : InP 89 := ⟨Tryz.f89,by kernel_rfl,by kernel_rfl,by kernel_rfl⟩
def f54_j3 (g : (List Int)×(List Int)) (q12_4 : Int×Int×Int×Int×Bool×(List Int)×(List Int)×(List (Int×Int×Int×Int×(List Int)×(List Int)))) : Option Bool :=
 bif (!q12_4.2.2.2.2.1) then
 some true
 else
 bindF (f86 (g.1,g.2)) fun r10 =>
 bif (!r10) then
 some true
 else
 bindF (f87 g.1 q12_4.2.2.2.2.2.1) fun r11 =>
 some (!r11)
def f54_j2 (g : (List Int)×(List Int)) (q12_4 : Int×Int×Int×Int×Bool×(List Int)×(List Int)×(List (Int×Int×Int×Int×(List Int)×(List Int)))) : Option (Sum Unit Unit) :=
 bindF (f54_j3 g q12_4) fun z9 =>
 bif z9 then
 some (Sum.inr ())
 else
 some (Sum.inl ())
def f54 (t_l : List (Int×Int×Int×Int×(List Int)×(List Int))) (n:Int) (g : (List Int)×(List Int)) : Option (Int×(List Int)×(List Int)×(List Int)×(List Int)×(List (Int×Int×Int×Int×(List Int)×(List Int)))) :=
 bindF (f53 t_l n) fun q12_4 =>
 bindF (f54_j2 g q12_4) fun z6 =>
 sumF z6 (fun z6a =>
 bindF (f25 q12_4.2.2.2.2.2.2.2 q12_4.2.1) fun r12 =>
 bindF (f25 r12.2.2.2 q12_4.2.2.1) fun r13 =>
 bindF (f88 (q12_4.1,q12_4.2.1,q12_4.2.2.1,q12_4.2.2.2.1,q12_4.2.2.2.2.2.1,q12_4.2.2.2.2.2.2.1) (r12.2.1,r12.2.2.1) (r13.2.1,r13.2.2.1) (g.1,g.2)) fun r14 =>
 bif (r14.1 != (0:Int)) then
 some (r14.1,[],[],[],[],r13.2.2.2)
 else
 bindF (f89 (q12_4.1,q12_4.2.1,q12_4.2.2.1,q12_4.2.2.2.1,q12_4.2.2.2.2.2.1,q12_4.2.2.2.2.2.2.1) (r12.2.1,r12.2.2.1) (r13.2.1,r13.2.2.1) (g.1,g.2)) fun r15 =>
 bif (r15.1 != (0:Int)) then
 some (r15.1,[],[],[],[],r13.2.2.2)
 else
 some ((0:Int),r14.2.1,r14.2.2,r15.2.1,r15.2.2,r13.2.2.2)) (fun z6b =>
 some ((1:Int),[],[],[],[],q12_4.2.2.2.2.2.2.2))
def C54 : Con where
 X := (List (Int×Int×Int×Int×(List Int)×(List Int)))×Int×((List Int)×(List Int))
 Y := Int×(List Int)×(List Int)×(List Int)×(List Int)×(List (Int×Int×Int×Int×(List Int)×(List Int)))
 e := 2
 args x := [P0 0 0,.dat T0 x.2.1,.dat T7 x.2.2]
 hin x := [(0,.cells [(.osl 1)]),(1,.arr 132 T6 x.1)]
 F x := f54 x.1 x.2.1 x.2.2
 ret y := [.raw true [(.osl 2),(.osl 3)],.raw true [(.osl 4),(.osl 5)],.dat T0 y.1]
 hout y := [(0,.cells [(.osl 1)]),(1,.arr 132 T6 y.2.2.2.2.2),(2,.arr 3 T0 y.2.1),(3,.arr 23 T0 y.2.2.1),(4,.arr 3 T0 y.2.2.2.1),(5,.arr 23 T0 y.2.2.2.2.1)]
 nout := 6
theorem C54_vc (t_l : List (Int×Int×Int×Int×(List Int)×(List Int))) (n:Int) (g : (List Int)×(List Int)) (y : Int×(List Int)×(List Int)×(List Int)×(List Int)×(List (Int×Int×Int×Int×(List Int)×(List Int)))) (hF : f54 t_l n g = some y) : vc Tryz.prog tab Tryz.f54.ntmps 2 (match Tryz.f54.body with | some c=>c | none=>.skip) (retK tab C54 Tryz.f54.results.toList y) (C54.shIn (t_l,n,g)).st := by
 unfold f54 at hF
 refine OL (OL ?_)
 obtain ⟨q12_4,hq12_4,hF⟩ := bindE hF
 refine OL (AI f53_in (callV0 (callI C53 (t_l,n) q12_4 [(0,some 0),(1,some 1)] false C53_holds hq12_4 rfl rfl (AI rfl (AI (fun h=>nomatch h) (R2 (AI (AI rfl TV) (AI (R2 TV) (OL ?_)))))))))
 obtain ⟨z6,hz6,hF⟩ := bindE hF
 refine OQ ⟨Sum.elim (fun z6a=>[(0,⟨[(0,P0 0 0),(5,P0 2 0),(6,P0 3 0),(7,P0 4 0),(9,P0 5 0)],[(0,.cells [(.osl 1)]),(1,.arr 132 T6 q12_4.2.2.2.2.2.2.2),(2,.cells [(.d T4 g.1),(.d T4 g.2)]),(3,.cells [N0,N0]),(4,.cells [N0,N0]),(5,.cells [(.d T0 q12_4.1),(.d T0 q12_4.2.1),(.d T0 q12_4.2.2.1),(.d T0 q12_4.2.2.2.1),(.osl 6),(.osl 7)]),(6,.arr 3 T0 q12_4.2.2.2.2.2.1),(7,.arr 23 T0 q12_4.2.2.2.2.2.2.1)],8⟩)]) (fun z6b=>[(1,⟨[(6,P0 2 0),(7,P0 3 0),(8,D0 1)],[(0,.cells [(.osl 1)]),(1,.arr 132 T6 q12_4.2.2.2.2.2.2.2),(2,.cells [N0,N0]),(3,.cells [N0,N0])],4⟩)]) z6,?_,?_⟩
 ·have hF := hz6
  clear hz6
  unfold f54_j2 at hF
  obtain ⟨z9,hz9,hF⟩ := bindE hF
  refine OQ ⟨[(0,⟨[(0,P0 0 0),(5,P0 2 0),(6,P0 3 0),(7,P0 4 0),(9,P0 5 0),(39,.dat .bool z9)],[(0,.cells [(.osl 1)]),(1,.arr 132 T6 q12_4.2.2.2.2.2.2.2),(2,.cells [(.d T4 g.1),(.d T4 g.2)]),(3,.cells [N0,N0]),(4,.cells [N0,N0]),(5,.cells [(.d T0 q12_4.1),(.d T0 q12_4.2.1),(.d T0 q12_4.2.2.1),(.d T0 q12_4.2.2.2.1),(.osl 6),(.osl 7)]),(6,.arr 3 T0 q12_4.2.2.2.2.2.1),(7,.arr 23 T0 q12_4.2.2.2.2.2.2.1)],8⟩)],?_,?_⟩
  ·have hF := hz9
   clear hz9
   unfold f54_j3 at hF
   refine condN hF (fun hF=>?_) (fun hF=>?_)
   ·refine gdYF ?_
    obtain ⟨r10,hr10,hF⟩ := bindE hF
    refine OL (AI f86_in (callV0 (callI C86 (g.1,g.2) r10 [] false C86_holds hr10 rfl rfl (R2 (AI (fun h=>nomatch h) (R2 (AI TV (AI TV (gdYF (condF (condN hF (fun hF=>?_) (fun hF=>?_))))))))))))
    ·refine gdYF (gdYF (gdYF (gdYF (gdYF ?_))))
     obtain ⟨r11,hr11,hF⟩ := bindE hF
     refine OL (AI f87_in (callV0 (callI C87 (g.1,q12_4.2.2.2.2.2.1) r11 [] true C87_holds hr11 rfl rfl (R2 (AI (fun _=>rfl) (R2 (AI TV (AI TV (gdYF (condF ?_))))))))))
     have hz := someE hF
     subst hz
     refine E4 [(0,some 0),(1,some 1),(2,some 2),(3,some 3),(4,some 4),(5,some 9),(6,some 7),(7,some 8)] (R2 (AI (R5 TV) (R8 TV)))
    refine gdNF (gdNF (gdNF (gdNF (gdNF (gdNF (condT ?_))))))
    have hz := someE hF
    subst hz
    refine E4 [(0,some 0),(1,some 1),(2,some 2),(3,some 3),(4,some 4),(5,some 9),(6,some 7),(7,some 8)] (R2 (AI (R5 TV) (R8 TV)))
   refine gdNF (gdNF (condT (gdNF (gdNF (gdNF (gdNF (gdNF (gdNF (gdNF (condT ?_))))))))))
   have hz := someE hF
   subst hz
   refine E4 [(0,some 0),(1,some 1),(2,some 2),(3,some 3),(4,some 4),(5,some 9),(6,some 7),(7,some 8)] (R2 (AI (R5 TV) (R8 TV)))
  refine AI (condI hF (fun hF=>?_) (fun hF=>?_)) TV
  ·refine OL (OL (OL ?_))
   have hz := someE hF
   subst hz
   refine E4 [(0,some 0),(1,some 1),(2,some 3),(3,some 4)] (R2 (AI (R2 TV) (R4 TV)))
  have hz := someE hF
  subst hz
  refine E4 [(0,some 0),(1,some 1),(2,some 2),(3,some 3),(4,some 4),(5,some 5),(6,some 6),(7,some 7)] (AI rfl (AI (R5 TV) (R8 TV)))
 rcases z6 with z6a | z6b
 ·dsimp only [sumF] at hF
  refine AI (OL ?_) TV
  obtain ⟨r12,hr12,hF⟩ := bindE hF
  refine OL (AI f25_in (callV0 (callI C25 (q12_4.2.2.2.2.2.2.2,q12_4.2.1) r12 [(0,some 0),(1,some 1)] false C25_holds hr12 rfl rfl (AI rfl (AI (fun h=>nomatch h) (R2 (AI (AI rfl TV) (AI (R2 TV) (OL (OL ?_))))))))))
  obtain ⟨r13,hr13,hF⟩ := bindE hF
  refine OL (AI f25_in (callV0 (callI C25 (r12.2.2.2,q12_4.2.2.1) r13 [(0,some 0),(1,some 1)] false C25_holds hr13 rfl rfl (AI rfl (AI (fun h=>nomatch h) (R2 (AI (AI rfl TV) (AI (R2 TV) (OL (OL ?_))))))))))
  obtain ⟨r14,hr14,hF⟩ := bindE hF
  refine OL (AI f88_in (callV0 (callI C88 ((q12_4.1,q12_4.2.1,q12_4.2.2.1,q12_4.2.2.2.1,q12_4.2.2.2.2.2.1,q12_4.2.2.2.2.2.2.1),(r12.2.1,r12.2.2.1),(r13.2.1,r13.2.2.1),(g.1,g.2)) r14 [] true C88_holds hr14 rfl rfl (R8 (AI (fun _=>rfl) (R2 (AI TV (AI TV (OL (OL (OL (condI hF (fun hF=>?_) (fun hF=>?_)))))))))))))
  ·refine OL (OL (OL ?_))
   have hy := someE hF
   subst hy
   refine AI rfl (E4 [(0,some 0),(1,some 1),(2,none),(3,none),(4,none),(5,none)] (R2 (AI (R2 TV) (R6 TV))))
  refine OL ?_
  obtain ⟨r15,hr15,hF⟩ := bindE hF
  refine OL (AI f89_in (callV0 (callI C89 ((q12_4.1,q12_4.2.1,q12_4.2.2.1,q12_4.2.2.2.1,q12_4.2.2.2.2.2.1,q12_4.2.2.2.2.2.2.1),(r12.2.1,r12.2.2.1),(r13.2.1,r13.2.2.1),(g.1,g.2)) r15 [] true C89_holds hr15 rfl rfl (R8 (AI (fun _=>rfl) (R2 (AI TV (AI TV (OL (OL (OL (condI hF (fun hF=>?_) (fun hF=>?_)))))))))))))
  ·refine OL (OL (OL ?_))
   have hy := someE hF
   subst hy
   refine AI rfl (E4 [(0,some 0),(1,some 1),(2,none),(3,none),(4,none),(5,none)] (R2 (AI (R2 TV) (R6 TV))))
  refine OL (EI (.take 0 (.take 1 (.alt 2 (.alt 3 (.take 4 .done) .done) .done))) (EI [] (EI [] (AI rfl (AI TV (OL (AI TV (OL ?_))))))))
  have hy := someE hF
  subst hy
  refine AI rfl (E4 [(0,some 0),(1,some 1),(2,some 18),(3,some 19),(4,some 21),(5,some 22)] (R2 (AI (R2 TV) (R6 TV))))
 dsimp only [sumF] at hF
 refine AI ?_ TV
 have hy := someE hF
 subst hy
 refine AI rfl (E4 [(0,some 0),(1,some 1),(2,none),(3,none),(4,none),(5,none)] (R2 (AI (R2 TV) (R6 TV))))
theorem C54_holds : C54.Holds Tryz.prog 54 := holds_of_vc tab_ok mixed (fn := Tryz.f54) (by kernel_rfl) rfl C54 (fun x y hF=>C54_vc x.1 x.2.1 x.2.2 y hF)
theorem f54_in : InP 54 := ⟨Tryz.f54,by kernel_rfl,by kernel_rfl,by kernel_rfl⟩
def f55 (s_l : List ((List Int)×(List Int))) (s_given : List Bool) (n:Int) (g : (List Int)×(List Int)) : Option (Int×(List ((List Int)×(List Int)))×(List Bool)) :=
 bif (decide (n < (0:Int))) then
 some ((0:Int),s_l,s_given)
 else
 guardF (0 ≤ n ∧ n < (List.length s_l:Int)) <|
 bindF (f90 ((rd (Ty.z T7) s_l n).1,(rd (Ty.z T7) s_l n).2) (g.1,g.2)) fun q4_13 =>
 guardF (0 ≤ n ∧ n < (List.length s_l:Int)) <|
 guardF (0 ≤ n ∧ n < (List.length s_given:Int)) <|
 some (q4_13.1,(List.set s_l (Int.toNat n) (q4_13.2.1,q4_13.2.2)),(List.set s_given (Int.toNat n) true))
def C55 : Con where
 X := (List ((List Int)×(List Int)))×(List Bool)×Int×((List Int)×(List Int))
 Y := Int×(List ((List Int)×(List Int)))×(List Bool)
 e := 3
 args x := [P0 0 0,.dat T0 x.2.2.1,.dat T7 x.2.2.2]
 hin x := [(0,.cells [(.osl 1),(.osl 2)]),(1,.arr 75 T7 x.1),(2,.arr 4 .bool x.2.1)]
 F x := f55 x.1 x.2.1 x.2.2.1 x.2.2.2
 ret y := [.dat T0 y.1]
 hout y := [(0,.cells [(.osl 1),(.osl 2)]),(1,.arr 75 T7 y.2.1),(2,.arr 4 .bool y.2.2)]
 nout := 3
theorem C55_vc (s_l : List ((List Int)×(List Int))) (s_given : List Bool) (n:Int) (g : (List Int)×(List Int)) (y : Int×(List ((List Int)×(List Int)))×(List Bool)) (hF : f55 s_l s_given n g = some y) : vc Tryz.prog tab Tryz.f55.ntmps 3 (match Tryz.f55.body with | some c=>c | none=>.skip) (retK tab C55 Tryz.f55.results.toList y) (C55.shIn (s_l,s_given,n,g)).st := by
 unfold f55 at hF
 refine OL (OL (OL (condI hF (fun hF=>?_) (fun hF=>?_))))
 ·refine OL ?_
  have hy := someE hF
  subst hy
  refine AI rfl (E4 [(0,some 0),(1,some 1),(2,some 2)] (R2 (AI TV (R3 TV))))
 refine OL (OL (EI (.take 0 (.take 1 (.take 2 (.take 3 (.take 4 (.take 5 (.take 6 (.take 7 (.take 8 (.take 9 (.take 10 (.take 11 (.take 12 (.alt 13 (.take 14 (.take 15 (.take 16 (.take 17 (.alt 18 (.take 19 .done) .done))))) .done)))))))))))))) (EI [(18,[1])] (EI [] (AI rfl (guardI hF (fun hF=>?_)))))))
 refine AI TV ?_
 obtain ⟨q4_13,hq4_13,hF⟩ := bindE hF
 refine OL (AI f90_in (callV0 (callI C90 (((rd (Ty.z T7) s_l n).1,(rd (Ty.z T7) s_l n).2),(g.1,g.2)) q4_13 [] false C90_holds hq4_13 rfl rfl (R4 (AI (fun h=>nomatch h) (R2 (AI TV (AI TV (guardI hF (fun hF=>?_))))))))))
 refine AI TV (OL (OL (guardI hF (fun hF=>?_))))
 refine OL (OL ?_)
 have hy := someE hF
 subst hy
 refine AI rfl (E4 [(0,some 0),(1,some 1),(2,some 2)] (R2 (AI TV (R3 TV))))
theorem C55_holds : C55.Holds Tryz.prog 55 := holds_of_vc tab_ok mixed (fn := Tryz.f55) (by kernel_rfl) rfl C55 (fun x y hF=>C55_vc x.1 x.2.1 x.2.2.1 x.2.2.2 y hF)
theorem f55_in : InP 55 := ⟨Tryz.f55,by kernel_rfl,by kernel_rfl,by kernel_rfl⟩
def f24_l1 (root:Int) (go : (Int×(List (Int×Int×Int×Int×(List Int)×(List Int)))×(List ((List Int)×(List Int)))×Int×(List Int)×(List Int)) → Option ((List (Int×Int×Int×Int×(List Int)×(List Int)))×(List ((List Int)×(List Int)))×Int×(List Int)×(List Int))) (v43:Int) (l1 : List (Int×Int×Int×Int×(List Int)×(List Int))) (l3 : List ((List Int)×(List Int))) (i3:Int) (l5 : List Int) (l6 : List Int) : Option ((List (Int×Int×Int×Int×(List Int)×(List Int)))×(List ((List Int)×(List Int)))×Int×(List Int)×(List Int)) :=
 bif (decide (v43 < (i64.wrap (root + (1:Int))))) then
 bindF (f25 l1 v43) fun q12_10 =>
 bindF (f52 q12_10.2.1 (0:Int)) fun r6 =>
 guardF ((List.length (List.set l3 (Int.toNat i3) (l5,l6)) + 1) * 48 ≤ 140737488355328) <|
 go ((i64.wrap (v43 + (1:Int))),q12_10.2.2.2,((List.set l3 (Int.toNat i3) (l5,l6)) ++ [(Ty.z T7)]),(List.length (List.set l3 (Int.toNat i3) (l5,l6)):Int),r6.2.1,r6.2.2)
 else
 some (l1,l3,i3,l5,l6)
def f24_l2 (go : (Int×(List (Int×Int×Int×Int×(List Int)×(List Int)))×(List ((List Int)×(List Int)))×(List Bool)) → Option (Sum (Int×(List (Int×Int×Int×Int×(List Int)×(List Int)))) ((List ((List Int)×(List Int)))×(List Bool)×(List (Int×Int×Int×Int×(List Int)×(List Int)))))) (n:Int) (l1 : List (Int×Int×Int×Int×(List Int)×(List Int))) (l3 : List ((List Int)×(List Int))) (l4 : List Bool) : Option (Sum (Int×(List (Int×Int×Int×Int×(List Int)×(List Int)))) ((List ((List Int)×(List Int)))×(List Bool)×(List (Int×Int×Int×Int×(List Int)×(List Int))))) :=
 bif (decide (n ≥ (0:Int))) then
 guardF (0 ≤ n ∧ n < (List.length l4:Int)) <|
 bif (!(rd false l4 n)) then
 go ((i64.wrap (n - (1:Int))),l1,l3,l4)
 else
 bindF (f53 l1 n) fun r15 =>
 guardF (0 ≤ n ∧ n < (List.length l3:Int)) <|
 bindF (f54 r15.2.2.2.2.2.2.2 n ((rd (Ty.z T7) l3 n).1,(rd (Ty.z T7) l3 n).2)) fun r16 =>
 bif (r16.1 != (0:Int)) then
 some (Sum.inl (r16.1,r16.2.2.2.2.2))
 else
 bindF (f55 l3 l4 r15.2.1 (r16.2.1,r16.2.2.1)) fun r17 =>
 bif (r17.1 != (0:Int)) then
 some (Sum.inl (r17.1,r16.2.2.2.2.2))
 else
 bindF (f55 r17.2.1 r17.2.2 r15.2.2.1 (r16.2.2.2.1,r16.2.2.2.2.1)) fun r18 =>
 bif (r18.1 != (0:Int)) then
 some (Sum.inl (r18.1,r16.2.2.2.2.2))
 else
 go ((i64.wrap (n - (1:Int))),r16.2.2.2.2.2,r18.2.1,r18.2.2)
 else
 some (Sum.inr (l3,l4,l1))
def f24 (t_l : List (Int×Int×Int×Int×(List Int)×(List Int))) (root:Int) : Option (Int×(List ((List Int)×(List Int)))×(List (Int×Int×Int×Int×(List Int)×(List Int)))) :=
 bindF (f25 t_l root) fun r1 =>
 bif (!r1.1) then
 some ((1:Int),[],r1.2.2.2)
 else
 bif (decide ((List.length r1.2.2.1:Int) > (1:Int))) then
 some ((4:Int),[],r1.2.2.2)
 else
 guardF (0 ≤ (i64.wrap (root + (1:Int))) ∧ (i64.wrap (root + (1:Int))) ≤ (i64.wrap (root + (1:Int))) ∧ Int.toNat (i64.wrap (root + (1:Int))) * 1 ≤ 140737488355328) <|
 bindF (loopF (fun go x=>f24_l1 root go x.1 x.2.1 x.2.2.1 x.2.2.2.1 x.2.2.2.2.1 x.2.2.2.2.2) fuelN ((0:Int),r1.2.2.2,[],(0:Int),[],[])) fun z5 =>
 guardF (0 ≤ root ∧ root < (List.length z5.2.1:Int)) <|
 guardF (root = z5.2.2.1) <|
 guardF (0 ≤ (0:Int) ∧ (0:Int) < (List.length z5.2.2.2.2:Int)) <|
 guardF (0 ≤ root ∧ root < (List.length (List.replicate (Int.toNat (i64.wrap (root + (1:Int)))) false):Int)) <|
 bindF (loopF (fun go x=>f24_l2 go x.1 x.2.1 x.2.2.1 x.2.2.2) fuelN (root,z5.1,(List.set z5.2.1 (Int.toNat z5.2.2.1) (z5.2.2.2.1,(List.set z5.2.2.2.2 (Int.toNat (0:Int)) (4294967296:Int)))),(List.set (List.replicate (Int.toNat (i64.wrap (root + (1:Int)))) false) (Int.toNat root) true))) fun z14 =>
 sumF z14 (fun z14a =>
 some (z14a.1,[],z14a.2)) (fun z14b =>
 some ((0:Int),z14b.1,z14b.2.2))
def C24 : Con where
 X := (List (Int×Int×Int×Int×(List Int)×(List Int)))×Int
 Y := Int×(List ((List Int)×(List Int)))×(List (Int×Int×Int×Int×(List Int)×(List Int)))
 e := 2
 args x := [P0 0 0,.dat T0 x.2]
 hin x := [(0,.cells [(.osl 1)]),(1,.arr 132 T6 x.1)]
 F x := f24 x.1 x.2
 ret y := [O0 2,.dat T0 y.1]
 hout y := [(0,.cells [(.osl 1)]),(1,.arr 132 T6 y.2.2),(2,.arr 75 T7 y.2.1)]
 nout := 3
theorem C24_vc (t_l : List (Int×Int×Int×Int×(List Int)×(List Int))) (root:Int) (y : Int×(List ((List Int)×(List Int)))×(List (Int×Int×Int×Int×(List Int)×(List Int)))) (hF : f24 t_l root = some y) : vc Tryz.prog tab Tryz.f24.ntmps 2 (match Tryz.f24.body with | some c=>c | none=>.skip) (retK tab C24 Tryz.f24.results.toList y) (C24.shIn (t_l,root)).st := by
 unfold f24 at hF
 refine OL (OL ?_)
 obtain ⟨r1,hr1,hF⟩ := bindE hF
 refine OL (AI f25_in (callV0 (callI C25 (t_l,root) r1 [(0,some 0),(1,some 1)] false C25_holds hr1 rfl rfl (AI rfl (AI (fun h=>nomatch h) (R2 (AI (AI rfl TV) (AI (R2 TV) (OL (OL (OL (condI hF (fun hF=>?_) (fun hF=>?_)))))))))))))
 ·refine OL ?_
  have hy := someE hF
  subst hy
  refine AI rfl (E4 [(0,some 0),(1,some 1),(2,none)] (R2 (AI (AI rfl TV) (R3 TV))))
 refine OL (condI hF (fun hF=>?_) (fun hF=>?_))
 ·refine OL ?_
  have hy := someE hF
  subst hy
  refine AI rfl (E4 [(0,some 0),(1,some 1),(2,none)] (R2 (AI (AI rfl TV) (R3 TV))))
 refine OL (guardI hF (fun hF=>?_))
 refine OL (OL ?_)
 obtain ⟨z5,hz5,hF⟩ := bindE hF
 refine loopI (Int×(List (Int×Int×Int×Int×(List Int)×(List Int)))×(List ((List Int)×(List Int)))×Int×(List Int)×(List Int)) ((List (Int×Int×Int×Int×(List Int)×(List Int)))×(List ((List Int)×(List Int)))×Int×(List Int)×(List Int)) (fun x=>⟨[(0,P0 0 0),(1,.dat T0 root),(8,P0 2 0),(42,.dat T0 (i64.wrap (root + (1:Int)))),(43,.dat T0 x.1)],[(0,.cells [(.osl 1)]),(1,.arr 132 T6 x.2.1),(2,.cells [(.osl 3),(.osl 4)]),(3,.hol 75 T7 x.2.2.1 x.2.2.2.1 [(.osl 5),(.osl 6)]),(4,.arr 4 .bool (List.replicate (Int.toNat (i64.wrap (root + (1:Int)))) false)),(5,.arr 3 T0 x.2.2.2.2.1),(6,.arr 23 T0 x.2.2.2.2.2)],7⟩) (fun z=>[(3,⟨[(0,P0 0 0),(1,.dat T0 root),(8,P0 2 0)],[(0,.cells [(.osl 1)]),(1,.arr 132 T6 z.1),(2,.cells [(.osl 3),(.osl 4)]),(3,.hol 75 T7 z.2.1 z.2.2.1 [(.osl 5),(.osl 6)]),(4,.arr 4 .bool (List.replicate (Int.toNat (i64.wrap (root + (1:Int)))) false)),(5,.arr 3 T0 z.2.2.2.1),(6,.arr 23 T0 z.2.2.2.2)],7⟩)]) (loopF (fun go x=>f24_l1 root go x.1 x.2.1 x.2.2.1 x.2.2.2.1 x.2.2.2.2.1 x.2.2.2.2.2)) fuelN ((0:Int),r1.2.2.2,[],(0:Int),[],[]) z5 (AI hz5 (AI (E4 [(0,some 0),(1,some 1),(2,some 8),(3,none),(4,some 7),(5,none),(6,none)] (R4 (AI (R2 TV) (R7 TV)))) (AI (fun _ _ h=>loopZ h) (AI (fun m=>curI (fun v43=>curI (fun l1=>curI (fun l3=>curI (fun i3=>curI (fun l5=>fun l6 z hF=>?_)))))) ?_))))
 ·have hF : f24_l1 root (loopF (fun go x=>f24_l1 root go x.1 x.2.1 x.2.2.1 x.2.2.2.1 x.2.2.2.2.1 x.2.2.2.2.2) m) v43 l1 l3 i3 l5 l6 = some z := hF
  unfold f24_l1 at hF
  refine OL (OL (condI hF (fun hF=>?_) (fun hF=>?_)))
  ·refine OL (OL (OL ?_))
   obtain ⟨q12_10,hq12_10,hF⟩ := bindE hF
   refine OL (AI f25_in (callV0 (callI C25 (l1,v43) q12_10 [(0,some 0),(1,some 1)] false C25_holds hq12_10 rfl rfl (AI rfl (AI (fun h=>nomatch h) (R2 (AI (AI rfl TV) (AI (R2 TV) (OL (OL ?_))))))))))
   obtain ⟨r6,hr6,hF⟩ := bindE hF
   refine OL (AI f52_in (callV0 (callI C52 (q12_10.2.1,(0:Int)) r6 [] true C52_holds hr6 rfl rfl (R2 (AI (fun _=>rfl) (R2 (AI TV (AI TV (OL (EI (.take 0 (.take 1 (.take 2 (.take 3 (.take 4 (.take 5 (.alt 6 (.alt 7 (.take 8 (.take 9 (.alt 10 .done .done))) .done) .done))))))) (EI [(10,[2])] (EI [] (AI rfl (AI TV (OQ (AI TV (OQ (AI rfl (AI (AI rfl rfl) (guardI hF (fun hF=>?_)))))))))))))))))))))
   refine AI TV (OL (EI ((i64.wrap (v43 + (1:Int))),q12_10.2.2.2,((List.set l3 (Int.toNat i3) (l5,l6)) ++ [(Ty.z T7)]),(List.length (List.set l3 (Int.toNat i3) (l5,l6)):Int),r6.2.1,r6.2.2) (AI hF (E4 [(0,some 0),(1,some 1),(2,some 2),(3,some 16),(4,some 4),(5,some 12),(6,some 13)] (R4 (AI (R2 TV) (R7 TV)))))))
  have hz := someE hF
  subst hz
  refine E4 [(0,some 0),(1,some 1),(2,some 2),(3,some 3),(4,some 4),(5,some 5),(6,some 6)] (R2 (AI (R2 TV) (R7 TV)))
 refine AI (OL (EI (.take 0 (.take 1 (.take 2 (.take 3 (.take 4 (.take 5 (.take 6 (.take 7 (.take 8 (.take 9 (.take 10 (.take 11 (.take 12 (.take 13 (.alt 14 (.take 15 (.alt 16 .done .done)) .done))))))))))))))) (EI [] (EI [] (AI rfl (guardI hF (fun hF=>?_))))))) TV
 refine guardI hF (fun hF=>?_)
 refine guardI hF (fun hF=>?_)
 refine AI TV (OL (guardI hF (fun hF=>?_)))
 refine AI TV (OL (OL (OL ?_)))
 obtain ⟨z14,hz14,hF⟩ := bindE hF
 refine loopI (Int×(List (Int×Int×Int×Int×(List Int)×(List Int)))×(List ((List Int)×(List Int)))×(List Bool)) (Sum (Int×(List (Int×Int×Int×Int×(List Int)×(List Int)))) ((List ((List Int)×(List Int)))×(List Bool)×(List (Int×Int×Int×Int×(List Int)×(List Int))))) (fun x=>⟨[(0,P0 0 0),(8,P0 2 0),(14,.dat T0 x.1)],[(0,.cells [(.osl 1)]),(1,.arr 132 T6 x.2.1),(2,.cells [(.osl 3),(.osl 4)]),(3,.arr 75 T7 x.2.2.1),(4,.arr 4 .bool x.2.2.2)],5⟩) (fun z=>Sum.elim (fun za=>[(1,⟨[(4,.raw false [N0]),(5,.dat T0 za.1)],[(0,.cells [(.osl 1)]),(1,.arr 132 T6 za.2)],2⟩)]) (fun zb=>[(5,⟨[(8,P0 2 0)],[(0,.cells [(.osl 1)]),(1,.arr 132 T6 zb.2.2),(2,.cells [(.osl 3),(.osl 4)]),(3,.arr 75 T7 zb.1),(4,.arr 4 .bool zb.2.1)],5⟩)]) z) (loopF (fun go x=>f24_l2 go x.1 x.2.1 x.2.2.1 x.2.2.2)) fuelN (root,z5.1,(List.set z5.2.1 (Int.toNat z5.2.2.1) (z5.2.2.2.1,(List.set z5.2.2.2.2 (Int.toNat (0:Int)) (4294967296:Int)))),(List.set (List.replicate (Int.toNat (i64.wrap (root + (1:Int)))) false) (Int.toNat root) true)) z14 (AI hz14 (AI (EI [3] (AI rfl (EI [] (EI [] (EI [] (EI [(0,some 0),(1,some 1),(2,some 2),(3,some 3),(4,some 4)] (R2 (AI (R2 TV) (R5 TV))))))))) (AI (fun _ _ h=>loopZ h) (AI (fun m=>curI (fun n=>curI (fun l1=>curI (fun l3=>fun l4 z hF=>?_)))) ?_))))
 ·have hF : f24_l2 (loopF (fun go x=>f24_l2 go x.1 x.2.1 x.2.2.1 x.2.2.2) m) n l1 l3 l4 = some z := hF
  unfold f24_l2 at hF
  refine OL (OL (condI hF (fun hF=>?_) (fun hF=>?_)))
  ·refine OL (OL (OL (guardI hF (fun hF=>?_))))
   refine condI hF (fun hF=>?_) (fun hF=>?_)
   ·refine EI ((i64.wrap (n - (1:Int))),l1,l3,l4) (AI hF (E4 [(0,some 0),(1,some 1),(2,some 2),(3,some 3),(4,some 4)] (R2 (AI (R2 TV) (R5 TV)))))
   refine OL ?_
   obtain ⟨r15,hr15,hF⟩ := bindE hF
   refine OL (AI f53_in (callV0 (callI C53 (l1,n) r15 [(0,some 0),(1,some 1)] false C53_holds hr15 rfl rfl (AI rfl (AI (fun h=>nomatch h) (R2 (AI (AI rfl TV) (AI (R2 TV) (OL (OL (guardI hF (fun hF=>?_))))))))))))
   obtain ⟨r16,hr16,hF⟩ := bindE hF
   refine OL (AI f54_in (callV0 (callI C54 (r15.2.2.2.2.2.2.2,n,((rd (Ty.z T7) l3 n).1,(rd (Ty.z T7) l3 n).2)) r16 [(0,some 0),(1,some 1)] false C54_holds hr16 rfl rfl (R3 (AI (fun h=>nomatch h) (R2 (AI (AI rfl TV) (AI (R2 TV) (OL (OL (OL (OL (condI hF (fun hF=>?_) (fun hF=>?_))))))))))))))
   ·refine OL ?_
    have hz := someE hF
    subst hz
    refine E4 [(0,some 0),(1,some 1)] (R2 (AI (AI rfl TV) (R2 TV)))
   refine OL (OL ?_)
   obtain ⟨r17,hr17,hF⟩ := bindE hF
   refine OL (AI f55_in (callV0 (callI C55 (l3,l4,r15.2.1,(r16.2.1,r16.2.2.1)) r17 [(0,some 2),(1,some 3),(2,some 4)] false C55_holds hr17 rfl rfl (R3 (AI (fun h=>nomatch h) (R2 (AI (AI rfl TV) (AI (R3 TV) (OL (condI hF (fun hF=>?_) (fun hF=>?_)))))))))))
   ·refine OL ?_
    have hz := someE hF
    subst hz
    refine E4 [(0,some 0),(1,some 1)] (R2 (AI (AI rfl TV) (R2 TV)))
   refine OL ?_
   obtain ⟨r18,hr18,hF⟩ := bindE hF
   refine OL (AI f55_in (callV0 (callI C55 (r17.2.1,r17.2.2,r15.2.2.1,(r16.2.2.2.1,r16.2.2.2.2.1)) r18 [(0,some 2),(1,some 3),(2,some 4)] false C55_holds hr18 rfl rfl (R3 (AI (fun h=>nomatch h) (R2 (AI (AI rfl TV) (AI (R3 TV) (OL (condI hF (fun hF=>?_) (fun hF=>?_)))))))))))
   ·refine OL ?_
    have hz := someE hF
    subst hz
    refine E4 [(0,some 0),(1,some 1)] (R2 (AI (AI rfl TV) (R2 TV)))
   refine EI ((i64.wrap (n - (1:Int))),r16.2.2.2.2.2,r18.2.1,r18.2.2) (AI hF (E4 [(0,some 0),(1,some 1),(2,some 2),(3,some 3),(4,some 4)] (R2 (AI (R2 TV) (R5 TV)))))
  have hz := someE hF
  subst hz
  refine E4 [(0,some 0),(1,some 1),(2,some 2),(3,some 3),(4,some 4)] (AI rfl (AI (AI rfl TV) (R5 TV)))
 rcases z14 with z14a | z14b
 ·dsimp only [sumF] at hF
  refine AI ?_ TV
  have hy := someE hF
  subst hy
  refine AI rfl (E4 [(0,some 0),(1,some 1),(2,none)] (R2 (AI (AI rfl TV) (R3 TV))))
 dsimp only [sumF] at hF
 refine AI (OL ?_) TV
 have hy := someE hF
 subst hy
 refine AI rfl (E4 [(0,some 0),(1,some 1),(2,some 3)] (R2 (AI (AI rfl TV) (R3 TV))))
theorem C24_holds : C24.Holds Tryz.prog 24 := holds_of_vc tab_ok mixed (fn := Tryz.f24) (by kernel_rfl) rfl C24 (fun x y hF=>C24_vc x.1 x.2 y hF)
theorem f24_in : InP 24 := ⟨Tryz.f24,by kernel_rfl,by kernel_rfl,by kernel_rfl⟩
def f8_j3 (kind:Int) : Option Bool :=
 bif (decide (kind < (1:Int))) then
 some true
 else
 some (decide (kind > (3:Int)))
def f8_j2 (kind:Int) : Option (Sum Unit Unit) :=
 bindF (f8_j3 kind) fun z3 =>
 bif z3 then
 some (Sum.inr ())
 else
 some (Sum.inl ())
def f8_l4 (r4 : Int×Int×(List Int)×(List (Int×Int×Int×Int×(List Int)×(List Int)))) (r6 : Int×(List ((List Int)×(List Int)))×(List (Int×Int×Int×Int×(List Int)×(List Int)))) (go : (Int×(List Int)) → Option (List Int)) (v64:Int) (l2 : List Int) : Option (List Int) :=
 bif (decide (v64 < (List.length r4.2.2.1:Int))) then
 guardF (0 ≤ v64 ∧ v64 < (List.length r4.2.2.1:Int)) <|
 guardF (0 ≤ (rd (0:Int) r4.2.2.1 v64) ∧ (rd (0:Int) r4.2.2.1 v64) < (List.length r6.2.1:Int)) <|
 guardF ((List.length l2 + List.length ((rd (Ty.z T7) r6.2.1 (rd (0:Int) r4.2.2.1 v64)).2)) * 8 ≤ 140737488355328) <|
 go ((i64.wrap (v64 + (1:Int))),(l2 ++ ((rd (Ty.z T7) r6.2.1 (rd (0:Int) r4.2.2.1 v64)).2)))
 else
 some l2
def f8 (n : (List Int)×(List (ByteArray×Int×Int))) (kind:Int) (p_ : List Int) (x_ : (List Int)×(List Int)×Int) : Option (Int×Int×(List Int)) :=
 bindF (f8_j2 kind) fun z2 =>
 sumF z2 (fun z2a =>
 bindF (f21) fun q20_7 =>
 bindF (f22 ([]) (n.1,n.2) p_ x_.1) fun r4 =>
 bif (r4.2.1 != (0:Int)) then
 some ((0:Int),r4.2.1,[])
 else
 bindF (f23 r4.2.2.2 kind r4.1 (x_.1,x_.2.1,x_.2.2)) fun r5 =>
 bif (r5.2.1 != (0:Int)) then
 some ((0:Int),r5.2.1,[])
 else
 bindF (f24 r5.2.2 r5.1) fun r6 =>
 bif (r6.1 != (0:Int)) then
 some ((0:Int),r6.1,[])
 else
 bindF (loopF (fun go x=>f8_l4 r4 r6 go x.1 x.2) fuelN ((0:Int),[])) fun z7 =>
 bindF (f25 r6.2.2 r5.1) fun r8 =>
 guardF (0 ≤ (0:Int) ∧ (0:Int) < (List.length r8.2.2.1:Int)) <|
 some ((rd (0:Int) r8.2.2.1 (0:Int)),(0:Int),z7)) (fun z2b =>
 some ((0:Int),(1:Int),[]))
def C8 : Con where
 X := ((List Int)×(List (ByteArray×Int×Int)))×Int×(List Int)×((List Int)×(List Int)×Int)
 Y := Int×Int×(List Int)
 e := 0
 args x := [.dat T2 x.1,.dat T0 x.2.1,.dat T4 x.2.2.1,.dat T10 x.2.2.2]
 hin x := []
 F x := f8 x.1 x.2.1 x.2.2.1 x.2.2.2
 ret y := [O0 0,.dat T0 y.1,.dat T0 y.2.1]
 hout y := [(0,.arr 23 T0 y.2.2)]
 nout := 1
theorem C8_vc (n : (List Int)×(List (ByteArray×Int×Int))) (kind:Int) (p_ : List Int) (x_ : (List Int)×(List Int)×Int) (y : Int×Int×(List Int)) (hF : f8 n kind p_ x_ = some y) : VC Tryz.f8 C8 (n,kind,p_,x_) y := by
 unfold f8 at hF
 refine OL ?_
 obtain ⟨z2,hz2,hF⟩ := bindE hF
 refine OQ ⟨Sum.elim (fun z2a=>[(0,⟨[(1,.dat T0 kind),(2,.dat T4 p_),(4,P0 0 0),(7,P0 1 0)],[(0,.cells [(.d T4 n.1),(.d T3 n.2)]),(1,.cells [(.d T4 x_.1),(.d T4 x_.2.1),(.d T0 x_.2.2)])],2⟩)]) (fun z2b=>[(1,⟨[(8,.raw false [N0]),(9,D0 0),(10,D0 1)],[],0⟩)]) z2,?_,?_⟩
 ·have hF := hz2
  clear hz2
  unfold f8_j2 at hF
  obtain ⟨z3,hz3,hF⟩ := bindE hF
  refine OQ ⟨[(0,⟨[(1,.dat T0 kind),(2,.dat T4 p_),(4,P0 0 0),(7,P0 1 0),(27,.dat .bool z3)],[(0,.cells [(.d T4 n.1),(.d T3 n.2)]),(1,.cells [(.d T4 x_.1),(.d T4 x_.2.1),(.d T0 x_.2.2)])],2⟩)],?_,?_⟩
  ·have hF := hz3
   clear hz3
   unfold f8_j3 at hF
   refine condN hF (fun hF=>?_) (fun hF=>?_)
   ·refine gdYF (condF ?_)
    have hz := someE hF
    subst hz
    refine E4 [(0,some 0),(1,some 1)] (R4 (AI (R2 TV) (R2 TV)))
   refine gdNF (condT ?_)
   have hz := someE hF
   subst hz
   refine E4 [(0,some 0),(1,some 1)] (R4 (AI (R2 TV) (R2 TV)))
  refine AI (condI hF (fun hF=>?_) (fun hF=>?_)) TV
  ·refine OL ?_
   have hz := someE hF
   subst hz
   refine E4 [] (R3 (AI (AI rfl TV) TV))
  have hz := someE hF
  subst hz
  refine E4 [(0,some 0),(1,some 1)] (R3 (AI (R2 TV) (R2 TV)))
 rcases z2 with z2a | z2b
 ·dsimp only [sumF] at hF
  refine AI (OL ?_) TV
  obtain ⟨q20_7,hq20_7,hF⟩ := bindE hF
  refine OL (AI f21_in (callV0 (callI C21 () q20_7 [] false C21_holds hq20_7 rfl rfl (AI (fun h=>nomatch h) (R2 (AI TV (AI TV (OL ?_))))))))
  obtain ⟨r4,hr4,hF⟩ := bindE hF
  refine OL (AI f22_in (callV0 (callI C22 ([],(n.1,n.2),p_,x_.1) r4 [(0,some 2),(1,some 3)] false C22_holds hr4 rfl rfl (R4 (AI (fun h=>nomatch h) (R2 (AI (AI rfl TV) (AI (R2 TV) (OL (OL (condI hF (fun hF=>?_) (fun hF=>?_))))))))))))
  ·refine OL ?_
   have hy := someE hF
   subst hy
   refine AI rfl (E4 [(0,none)] (R3 (AI (AI rfl TV) (AI rfl TV))))
  refine OL ?_
  obtain ⟨r5,hr5,hF⟩ := bindE hF
  refine OL (AI f23_in (callV0 (callI C23 (r4.2.2.2,kind,r4.1,(x_.1,x_.2.1,x_.2.2)) r5 [(0,some 2),(1,some 7)] false C23_holds hr5 rfl rfl (R4 (AI (fun h=>nomatch h) (R2 (AI (AI rfl TV) (AI (R2 TV) (OL (OL (condI hF (fun hF=>?_) (fun hF=>?_))))))))))))
  ·refine OL ?_
   have hy := someE hF
   subst hy
   refine AI rfl (E4 [(0,none)] (R3 (AI (AI rfl TV) (AI rfl TV))))
  refine OL ?_
  obtain ⟨r6,hr6,hF⟩ := bindE hF
  refine OL (AI f24_in (callV0 (callI C24 (r5.2.2,r5.1) r6 [(0,some 2),(1,some 10)] false C24_holds hr6 rfl rfl (AI rfl (AI (fun h=>nomatch h) (R2 (AI (AI rfl TV) (AI (R2 TV) (OL (OL (condI hF (fun hF=>?_) (fun hF=>?_))))))))))))
  ·refine OL ?_
   have hy := someE hF
   subst hy
   refine AI rfl (E4 [(0,none)] (R3 (AI (AI rfl TV) (AI rfl TV))))
  refine OL (OL (OL ?_))
  obtain ⟨z7,hz7,hF⟩ := bindE hF
  refine loopI (Int×(List Int)) (List Int) (fun x=>⟨[(11,P0 0 0),(15,.dat T0 r5.1),(16,O0 1),(17,O0 2),(62,O0 3),(63,.dat T0 (List.length r4.2.2.1:Int)),(64,.dat T0 x.1)],[(0,.cells [(.osl 4)]),(1,.arr 75 T7 r6.2.1),(2,.arr 23 T0 x.2),(3,.arr 3 T0 r4.2.2.1),(4,.arr 132 T6 r6.2.2)],5⟩) (fun z=>[(2,⟨[(11,P0 0 0),(15,.dat T0 r5.1),(17,O0 1)],[(0,.cells [(.osl 2)]),(1,.arr 23 T0 z),(2,.arr 132 T6 r6.2.2)],3⟩)]) (loopF (fun go x=>f8_l4 r4 r6 go x.1 x.2)) fuelN ((0:Int),[]) z7 (AI hz7 (AI (E4 [(0,some 2),(1,some 13),(2,none),(3,some 6),(4,some 10)] (R4 (AI (R4 TV) (R5 TV)))) (AI (fun _ _ h=>loopZ h) (AI (fun m=>curI (fun v64=>fun l2 z hF=>?_)) ?_))))
  ·have hF : f8_l4 r4 r6 (loopF (fun go x=>f8_l4 r4 r6 go x.1 x.2) m) v64 l2 = some z := hF
   unfold f8_l4 at hF
   refine OL (OL (condI hF (fun hF=>?_) (fun hF=>?_)))
   ·refine OL (OL (guardI hF (fun hF=>?_)))
    refine guardI hF (fun hF=>?_)
    refine OL (guardI hF (fun hF=>?_))
    refine EI ((i64.wrap (v64 + (1:Int))),(l2 ++ ((rd (Ty.z T7) r6.2.1 (rd (0:Int) r4.2.2.1 v64)).2))) (AI hF (E4 [(0,some 0),(1,some 1),(2,some 5),(3,some 3),(4,some 4)] (R4 (AI (R4 TV) (R5 TV)))))
   have hz := someE hF
   subst hz
   refine E4 [(0,some 0),(1,some 2),(2,some 4)] (R2 (AI (R2 TV) (R3 TV)))
  refine AI (OL ?_) TV
  obtain ⟨r8,hr8,hF⟩ := bindE hF
  refine OL (AI f25_in (callV0 (callI C25 (r6.2.2,r5.1) r8 [(0,some 0),(1,some 2)] false C25_holds hr8 rfl rfl (AI rfl (AI (fun h=>nomatch h) (R2 (AI (AI rfl TV) (AI (R2 TV) (OL (OL (EI (.take 0 (.take 1 (.take 2 (.take 3 (.take 4 (.take 5 (.take 6 (.take 7 .done)))))))) (EI [] (EI [] (AI rfl (guardI hF (fun hF=>?_))))))))))))))))
  have hy := someE hF
  subst hy
  refine AI rfl (E4 [(0,some 1)] (R3 (AI (AI rfl TV) (AI rfl TV))))
 dsimp only [sumF] at hF
 refine AI ?_ TV
 have hy := someE hF
 subst hy
 refine AI rfl (E4 [(0,none)] (R3 (AI (AI rfl TV) (AI rfl TV))))
theorem C8_holds : C8.Holds Tryz.prog 8 := holds_of_vc tab_ok mixed (fn := Tryz.f8) (by kernel_rfl) rfl C8 (fun x y hF=>C8_vc x.1 x.2.1 x.2.2.1 x.2.2.2 y hF)
theorem f8_in : InP 8 := ⟨Tryz.f8,by kernel_rfl,by kernel_rfl,by kernel_rfl⟩
end Go.Proofs
