import Derived.Test.YtdnlicefpmiljaaGreatDoorModelBackS2
set_option linter.unusedVariables false
set_option maxRecDepth 100000
set_option maxHeartbeats 8000000
namespace Go.Proofs
open Go.AM
open IntKind (i64 u64 i32 u32 i16 u16 i8 u8)
def f186 (kind:Int) (x_:Int) : Option (Int×Int) :=
 bif (kind == (1:Int)) then
 some ((if (0:Int) > x_ then (0:Int) else x_),(0:Int))
 else
 bif (kind == (2:Int)) then
 bif (decide (x_ > (0:Int))) then
 some (x_,(0:Int))
 else
 bindF (f213 (8:Int)) fun r1 =>
 bindF (f207 x_ r1) fun r2 =>
 some (r2,(0:Int))
 else
 bif (kind == (3:Int)) then
 bindF (f214 x_ (-4294967296:Int) (4294967296:Int)) fun r3 =>
 some (r3,(0:Int))
 else
 bif (kind == (4:Int)) then
 bif (decide (x_ < (0:Int))) then
 bindF (f215 x_) fun r4 =>
 some (r4,(0:Int))
 else
 some (x_,(0:Int))
 else
 bif (kind == (5:Int)) then
 bindF (f213 (2:Int)) fun r5 =>
 bindF (f207 x_ r5) fun r6 =>
 bindF (f167 r6 (2147483648:Int)) fun r7 =>
 bindF (f214 r7 (0:Int) (4294967296:Int)) fun r8 =>
 some (r8,(0:Int))
 else
 some ((0:Int),(1:Int))
def C186 : Con where
 X := Int×Int
 Y := Int×Int
 e := 0
 args x := [.dat T1 x.1,.dat T1 x.2]
 hin x := []
 F x := f186 x.1 x.2
 ret y := [.dat T1 y.1,.dat T1 y.2]
 hout y := []
 nout := 0
theorem C186_vc (kind:Int) (x_:Int) (y : Int×Int) (hF : f186 kind x_ = some y) : VC Tryz.f186 C186 (kind,x_) y := by
 unfold f186 at hF
 refine OL (OL (OL (OL (condI hF (fun hF=>?_) (fun hF=>?_)))))
 ·refine OL ?_
  have hy := someE hF
  subst hy
  refine AI rfl (E4 [] (R3 (AI TV TV)))
 refine OL (condI hF (fun hF=>?_) (fun hF=>?_))
 ·refine OL (OL (condI hF (fun hF=>?_) (fun hF=>?_)))
  ·refine OL ?_
   have hy := someE hF
   subst hy
   refine AI rfl (E4 [] (R3 (AI TV TV)))
  refine OL ?_
  obtain ⟨r1,hr1,hF⟩ := bindE hF
  refine OL (AI f213_in (callV0 (callI C213 (8:Int) r1 [] false C213_holds hr1 rfl rfl (AI rfl (AI (fun h=>nomatch h) (R2 (AI TV (AI TV ?_))))))))
  obtain ⟨r2,hr2,hF⟩ := bindE hF
  refine OL (AI f207_in (callV0 (callI C207 (x_,r1) r2 [] false C207_holds hr2 rfl rfl (R2 (AI (fun h=>nomatch h) (R2 (AI TV (AI TV ?_))))))))
  have hy := someE hF
  subst hy
  refine AI rfl (E4 [] (R3 (AI TV TV)))
 refine OL (condI hF (fun hF=>?_) (fun hF=>?_))
 ·refine OL ?_
  obtain ⟨r3,hr3,hF⟩ := bindE hF
  have hr3 : C214.F (x_,(-4294967296:Int),(4294967296:Int)) = some r3 := hr3
  refine OL (AI f214_in (callV0 (callI C214 _ r3 [] false C214_holds hr3 rfl rfl (R3 (AI (fun h=>nomatch h) (R2 (AI TV (AI TV ?_))))))))
  have hy := someE hF
  subst hy
  refine AI rfl (E4 [] (R3 (AI TV TV)))
 refine OL (condI hF (fun hF=>?_) (fun hF=>?_))
 ·refine OL (OL (condI hF (fun hF=>?_) (fun hF=>?_)))
  ·refine OL ?_
   obtain ⟨r4,hr4,hF⟩ := bindE hF
   refine OL (AI f215_in (callV0 (callI C215 x_ r4 [] false C215_holds hr4 rfl rfl (AI rfl (AI (fun h=>nomatch h) (R2 (AI TV (AI TV ?_))))))))
   have hy := someE hF
   subst hy
   refine AI rfl (E4 [] (R3 (AI TV TV)))
  refine OL ?_
  have hy := someE hF
  subst hy
  refine AI rfl (E4 [] (R3 (AI TV TV)))
 refine OL (condI hF (fun hF=>?_) (fun hF=>?_))
 ·refine OL ?_
  obtain ⟨r5,hr5,hF⟩ := bindE hF
  refine OL (AI f213_in (callV0 (callI C213 (2:Int) r5 [] false C213_holds hr5 rfl rfl (AI rfl (AI (fun h=>nomatch h) (R2 (AI TV (AI TV ?_))))))))
  obtain ⟨r6,hr6,hF⟩ := bindE hF
  refine OL (AI f207_in (callV0 (callI C207 (x_,r5) r6 [] false C207_holds hr6 rfl rfl (R2 (AI (fun h=>nomatch h) (R2 (AI TV (AI TV ?_))))))))
  obtain ⟨r7,hr7,hF⟩ := bindE hF
  refine OL (AI f167_in (callV0 (callI C167 (r6,(2147483648:Int)) r7 [] false C167_holds hr7 rfl rfl (R2 (AI (fun h=>nomatch h) (R2 (AI TV (AI TV ?_))))))))
  obtain ⟨r8,hr8,hF⟩ := bindE hF
  refine OL (AI f214_in (callV0 (callI C214 (r7,(0:Int),(4294967296:Int)) r8 [] false C214_holds hr8 rfl rfl (R3 (AI (fun h=>nomatch h) (R2 (AI TV (AI TV ?_))))))))
  have hy := someE hF
  subst hy
  refine AI rfl (E4 [] (R3 (AI TV TV)))
 refine OL ?_
 have hy := someE hF
 subst hy
 refine AI rfl (E4 [] (R3 (AI TV TV)))
theorem C186_holds : C186.Holds Tryz.prog 186 := holds_of_vc tab_ok mixed (fn := Tryz.f186) (by kernel_rfl) rfl C186 (fun x y hF=>C186_vc x.1 x.2 y hF)
theorem f186_in : InP 186 := ⟨Tryz.f186,by kernel_rfl,by kernel_rfl,by kernel_rfl⟩
def f149_j3 (kind:Int) (t : (List Int)×(List Int)) : Option Bool :=
 bindF (f185 kind) fun r9 =>
 bif (!r9) then
 some true
 else
 bindF (f91 (t.1,t.2)) fun r10 =>
 some (!r10)
def f149_j2 (kind:Int) (t : (List Int)×(List Int)) : Option (Sum Unit Unit) :=
 bindF (f149_j3 kind t) fun z8 =>
 bif z8 then
 some (Sum.inr ())
 else
 some (Sum.inl ())
def f149_l4 (kind:Int) (t : (List Int)×(List Int)) (go : (Int×(List Int)) → Option (List Int)) (v23:Int) (l3 : List Int) : Option (List Int) :=
 bif (decide (v23 < (List.length t.2:Int))) then
 guardF (0 ≤ v23 ∧ v23 < (List.length t.2:Int)) <|
 bindF (f186 kind (rd (0:Int) t.2 v23)) fun q7_5 =>
 guardF (0 ≤ v23 ∧ v23 < (List.length l3:Int)) <|
 go ((i64.wrap (v23 + (1:Int))),(List.set l3 (Int.toNat v23) q7_5.1))
 else
 some l3
def f149 (kind:Int) (t : (List Int)×(List Int)) : Option (Int×(List Int)×(List Int)) :=
 bindF (f149_j2 kind t) fun z5 =>
 sumF z5 (fun z5a =>
 bindF (f49 (t.1,t.2)) fun r11 =>
 bindF (loopF (fun go x=>f149_l4 kind t go x.1 x.2) fuelN ((0:Int),r11.2)) fun z12 =>
 some ((0:Int),r11.1,z12)) (fun z5b =>
 some ((1:Int),[],[]))
def C149 : Con where
 X := Int×((List Int)×(List Int))
 Y := Int×(List Int)×(List Int)
 e := 0
 args x := [.dat T1 x.1,.dat T9 x.2]
 hin x := []
 F x := f149 x.1 x.2
 ret y := [.raw true [(.osl 0),(.osl 1)],.dat T1 y.1]
 hout y := [(0,.arr 3 T1 y.2.1),(1,.arr 57 T1 y.2.2)]
 nout := 2
theorem C149_vc (kind:Int) (t : (List Int)×(List Int)) (y : Int×(List Int)×(List Int)) (hF : f149 kind t = some y) : VC Tryz.f149 C149 (kind,t) y := by
 unfold f149 at hF
 refine OL ?_
 obtain ⟨z5,hz5,hF⟩ := bindE hF
 refine OQ ⟨Sum.elim (fun z5a=>[(0,⟨[(0,.dat T1 kind),(3,P0 0 0),(4,P0 1 0)],[(0,.cells [(.d T6 t.1),(.d T6 t.2)]),(1,.cells [N0,N0])],2⟩)]) (fun z5b=>[(1,⟨[(4,P0 0 0),(5,D0 1)],[(0,.cells [N0,N0])],1⟩)]) z5,?_,?_⟩
 ·have hF := hz5
  clear hz5
  unfold f149_j2 at hF
  obtain ⟨z8,hz8,hF⟩ := bindE hF
  refine OQ ⟨[(0,⟨[(0,.dat T1 kind),(3,P0 0 0),(4,P0 1 0),(16,.dat .bool z8)],[(0,.cells [(.d T6 t.1),(.d T6 t.2)]),(1,.cells [N0,N0])],2⟩)],?_,?_⟩
  ·have hF := hz8
   clear hz8
   unfold f149_j3 at hF
   obtain ⟨r9,hr9,hF⟩ := bindE hF
   refine OL (AI f185_in (callV0 (callI C185 kind r9 [] false C185_holds hr9 rfl rfl (AI rfl (AI (fun h=>nomatch h) (R2 (AI TV (AI TV (condN hF (fun hF=>?_) (fun hF=>?_))))))))))
   ·refine gdYF ?_
    obtain ⟨r10,hr10,hF⟩ := bindE hF
    refine OL (AI f91_in (callV0 (callI C91 (t.1,t.2) r10 [] false C91_holds hr10 rfl rfl (R2 (AI (fun h=>nomatch h) (R2 (AI TV (AI TV (gdYF (condF ?_))))))))))
    have hz := someE hF
    subst hz
    refine E4 [(0,some 0),(1,some 1)] (R3 (AI (R2 TV) (R2 TV)))
   refine gdNF (gdNF (condT ?_))
   have hz := someE hF
   subst hz
   refine E4 [(0,some 0),(1,some 1)] (R3 (AI (R2 TV) (R2 TV)))
  refine AI (condI hF (fun hF=>?_) (fun hF=>?_)) TV
  ·refine OL (OL ?_)
   have hz := someE hF
   subst hz
   refine E4 [(0,some 1)] (R2 (AI (AI rfl TV) (AI rfl TV)))
  have hz := someE hF
  subst hz
  refine E4 [(0,some 0),(1,some 1)] (R2 (AI (R2 TV) (R2 TV)))
 rcases z5 with z5a | z5b
 ·dsimp only [sumF] at hF
  refine AI (OL ?_) TV
  obtain ⟨r11,hr11,hF⟩ := bindE hF
  refine OL (AI f49_in (callV0 (callI C49 (t.1,t.2) r11 [] false C49_holds hr11 rfl rfl (R2 (AI (fun h=>nomatch h) (R2 (AI TV (AI TV (OL (OL (OL ?_)))))))))))
  obtain ⟨z12,hz12,hF⟩ := bindE hF
  refine loopI (Int×(List Int)) (List Int) (fun x=>⟨[(0,.dat T1 kind),(4,P0 0 0),(6,P0 1 0),(21,.dat T6 t.2),(22,.dat T1 (List.length t.2:Int)),(23,.dat T1 x.1)],[(0,.cells [N0,N0]),(1,.cells [(.osl 2),(.osl 3)]),(2,.arr 3 T1 r11.1),(3,.arr 57 T1 x.2)],4⟩) (fun z=>[(2,⟨[(4,P0 0 0),(6,P0 1 0)],[(0,.cells [N0,N0]),(1,.cells [(.osl 2),(.osl 3)]),(2,.arr 3 T1 r11.1),(3,.arr 57 T1 z)],4⟩)]) (loopF (fun go x=>f149_l4 kind t go x.1 x.2)) fuelN ((0:Int),r11.2) z12 (AI hz12 (AI (E4 [(0,some 1),(1,some 4),(2,some 2),(3,some 3)] (R5 (AI (R2 TV) (R4 TV)))) (AI (fun _ _ h=>loopZ h) (AI (fun m=>curI (fun v23=>fun l3 z hF=>?_)) ?_))))
  ·have hF : f149_l4 kind t (loopF (fun go x=>f149_l4 kind t go x.1 x.2) m) v23 l3 = some z := hF
   unfold f149_l4 at hF
   refine OL (OL (condI hF (fun hF=>?_) (fun hF=>?_)))
   ·refine OL (OL (guardI hF (fun hF=>?_)))
    refine EI (.take 0 (.take 1 (.take 2 (.take 3 (.take 4 (.alt 5 (.take 6 (.take 7 (.take 8 (.take 9 (.alt 10 .done .done))))) .done)))))) (EI [] (EI [] (AI rfl (AI TV ?_))))
    obtain ⟨q7_5,hq7_5,hF⟩ := bindE hF
    refine OL (AI f186_in (callV0 (callI C186 (kind,(rd (0:Int) t.2 v23)) q7_5 [] false C186_holds hq7_5 rfl rfl (R2 (AI (fun h=>nomatch h) (R2 (AI TV (AI TV (guardI hF (fun hF=>?_))))))))))
    refine AI TV (OL (EI ((i64.wrap (v23 + (1:Int))),(List.set l3 (Int.toNat v23) q7_5.1)) (AI hF (E4 [(0,some 0),(1,some 1),(2,some 2),(3,some 3)] (R5 (AI (R2 TV) (R4 TV)))))))
   have hz := someE hF
   subst hz
   refine E4 [(0,some 0),(1,some 1),(2,some 2),(3,some 3)] (AI rfl (AI (R2 TV) (R4 TV)))
  refine AI (OL (OL ?_)) TV
  have hy := someE hF
  subst hy
  refine AI rfl (E4 [(0,some 2),(1,some 3)] (R2 (AI (AI rfl TV) (R2 TV))))
 dsimp only [sumF] at hF
 refine AI ?_ TV
 have hy := someE hF
 subst hy
 refine AI rfl (E4 [(0,none),(1,none)] (R2 (AI (AI rfl TV) (R2 TV))))
theorem C149_holds : C149.Holds Tryz.prog 149 := holds_of_vc tab_ok mixed (fn := Tryz.f149) (by kernel_rfl) rfl C149 (fun x y hF=>C149_vc x.1 x.2 y hF)
theorem f149_in : InP 149 := ⟨Tryz.f149,by kernel_rfl,by kernel_rfl,by kernel_rfl⟩
def f150_j3 (a : (List Int)×(List Int)) (wid:Int) : Option Bool :=
 bif (decide (wid < (1:Int))) then
 some true
 else
 guardF (0 ≤ (1:Int) ∧ (1:Int) < (List.length a.1:Int)) <|
 some (decide (wid > (rd (0:Int) a.1 (1:Int))))
def f150_j2 (a : (List Int)×(List Int)) (wid:Int) : Option (Sum Unit Int) :=
 bindF (f91 (a.1,a.2)) fun r4 =>
 bif (!r4) then
 some (Sum.inr (1:Int))
 else
 bif ((List.length a.1:Int) != (2:Int)) then
 some (Sum.inr (4:Int))
 else
 bindF (f150_j3 a wid) fun z5 =>
 bif z5 then
 some (Sum.inr (1:Int))
 else
 some (Sum.inl ())
def f150_l7 (a : (List Int)×(List Int)) (wid:Int) (v61:Int) (go : (Int×Int) → Option Int) (best:Int) (at_:Int) : Option Int :=
 guardF ((i64.wrap (Int.tdiv (rd (0:Int) a.1 (1:Int)) wid)) ≠ 0) <|
 guardF ((i64.wrap (Int.tdiv (rd (0:Int) a.1 (1:Int)) wid)) ≠ 0) <|
 bif (decide (at_ < (i64.wrap ((i64.wrap ((i64.wrap ((i64.wrap (Int.tdiv v61 (i64.wrap (Int.tdiv (rd (0:Int) a.1 (1:Int)) wid)))) * (rd (0:Int) a.1 (1:Int)))) + (i64.wrap ((Int.tmod v61 (i64.wrap (Int.tdiv (rd (0:Int) a.1 (1:Int)) wid))) * wid)))) + wid)))) then
 guardF (0 ≤ at_ ∧ at_ < (List.length a.2:Int)) <|
 guardF (0 ≤ best ∧ best < (List.length a.2:Int)) <|
 bif (decide ((rd (0:Int) a.2 at_) > (rd (0:Int) a.2 best))) then
 go (at_,(i64.wrap (at_ + (1:Int))))
 else
 go (best,(i64.wrap (at_ + (1:Int))))
 else
 some best
def f150_l6 (a : (List Int)×(List Int)) (wid:Int) (q7_11 : Int×(List Int)×(List Int)) (go : (Int×(List Int)×(List Int)) → Option ((List Int)×(List Int))) (v61:Int) (l3 : List Int) (l5 : List Int) : Option ((List Int)×(List Int)) :=
 bif (decide (v61 < (List.length q7_11.2.2:Int))) then
 guardF ((i64.wrap (Int.tdiv (rd (0:Int) a.1 (1:Int)) wid)) ≠ 0) <|
 guardF ((i64.wrap (Int.tdiv (rd (0:Int) a.1 (1:Int)) wid)) ≠ 0) <|
 bindF (loopF (fun go x=>f150_l7 a wid v61 go x.1 x.2) fuelN ((i64.wrap ((i64.wrap ((i64.wrap (Int.tdiv v61 (i64.wrap (Int.tdiv (rd (0:Int) a.1 (1:Int)) wid)))) * (rd (0:Int) a.1 (1:Int)))) + (i64.wrap ((Int.tmod v61 (i64.wrap (Int.tdiv (rd (0:Int) a.1 (1:Int)) wid))) * wid)))),(i64.wrap ((i64.wrap ((i64.wrap ((i64.wrap (Int.tdiv v61 (i64.wrap (Int.tdiv (rd (0:Int) a.1 (1:Int)) wid)))) * (rd (0:Int) a.1 (1:Int)))) + (i64.wrap ((Int.tmod v61 (i64.wrap (Int.tdiv (rd (0:Int) a.1 (1:Int)) wid))) * wid)))) + (1:Int))))) fun z9 =>
 guardF (0 ≤ z9 ∧ z9 < (List.length a.2:Int)) <|
 guardF (0 ≤ v61 ∧ v61 < (List.length l5:Int)) <|
 guardF ((List.length l3 + List.length ([z9])) * 8 ≤ 140737488355328) <|
 go ((i64.wrap (v61 + (1:Int))),(l3 ++ ([z9])),(List.set l5 (Int.toNat v61) (rd (0:Int) a.2 z9)))
 else
 some (l3,l5)
def f150 (a : (List Int)×(List Int)) (wid:Int) : Option (Int×(List Int)×(List Int)×(List Int)) :=
 bindF (f150_j2 a wid) fun z3 =>
 sumF z3 (fun z3a =>
 guardF (0 ≤ (1:Int) ∧ (1:Int) < (List.length a.1:Int)) <|
 guardF (0 ≤ (1:Int) ∧ (1:Int) < (List.length a.1:Int)) <|
 guardF (wid ≠ 0) <|
 guardF (0 ≤ (0:Int) ∧ (0:Int) < (List.length a.1:Int)) <|
 bindF (f175 ([(rd (0:Int) a.1 (0:Int)),(i64.wrap (Int.tdiv (rd (0:Int) a.1 (1:Int)) wid))])) fun q7_11 =>
 bindF (loopF (fun go x=>f150_l6 a wid q7_11 go x.1 x.2.1 x.2.2) fuelN ((0:Int),[],q7_11.2.2)) fun z8 =>
 some ((0:Int),q7_11.2.1,z8.2,z8.1)) (fun z3b =>
 some (z3b,[],[],[]))
def C150 : Con where
 X := ((List Int)×(List Int))×Int
 Y := Int×(List Int)×(List Int)×(List Int)
 e := 0
 args x := [.dat T9 x.1,.dat T1 x.2]
 hin x := []
 F x := f150 x.1 x.2
 ret y := [.raw true [(.osl 0),(.osl 1)],O0 2,.dat T1 y.1]
 hout y := [(0,.arr 3 T1 y.2.1),(1,.arr 57 T1 y.2.2.1),(2,.arr 3 T1 y.2.2.2)]
 nout := 3
theorem C150_vc (a : (List Int)×(List Int)) (wid:Int) (y : Int×(List Int)×(List Int)×(List Int)) (hF : f150 a wid = some y) : VC Tryz.f150 C150 (a,wid) y := by
 unfold f150 at hF
 refine OL ?_
 obtain ⟨z3,hz3,hF⟩ := bindE hF
 refine OQ ⟨Sum.elim (fun z3a=>[(0,⟨[(1,.dat T1 wid),(2,P0 0 0),(4,P0 1 0)],[(0,.cells [(.d T6 a.1),(.d T6 a.2)]),(1,.cells [N0,N0])],2⟩)]) (fun z3b=>[(1,⟨[(4,P0 0 0),(5,.raw false [N0]),(6,.dat T1 z3b)],[(0,.cells [N0,N0])],1⟩)]) z3,?_,?_⟩
 ·have hF := hz3
  clear hz3
  unfold f150_j2 at hF
  refine OL ?_
  obtain ⟨r4,hr4,hF⟩ := bindE hF
  refine OL (AI f91_in (callV0 (callI C91 (a.1,a.2) r4 [] false C91_holds hr4 rfl rfl (R2 (AI (fun h=>nomatch h) (R2 (AI TV (AI TV (condI hF (fun hF=>?_) (fun hF=>?_))))))))))
  ·refine OL (OL ?_)
   have hz := someE hF
   subst hz
   refine E4 [(0,some 1)] (R2 (AI (R2 TV) (AI rfl TV)))
  refine OL (condI hF (fun hF=>?_) (fun hF=>?_))
  ·refine OL (OL ?_)
   have hz := someE hF
   subst hz
   refine E4 [(0,some 1)] (R2 (AI (R2 TV) (AI rfl TV)))
  obtain ⟨z5,hz5,hF⟩ := bindE hF
  refine OQ ⟨[(0,⟨[(1,.dat T1 wid),(2,P0 0 0),(4,P0 1 0),(26,.dat .bool z5)],[(0,.cells [(.d T6 a.1),(.d T6 a.2)]),(1,.cells [N0,N0])],2⟩)],?_,?_⟩
  ·have hF := hz5
   clear hz5
   unfold f150_j3 at hF
   refine condN hF (fun hF=>?_) (fun hF=>?_)
   ·refine gdYF (gdYF (gdYF (guardI hF (fun hF=>?_))))
    refine gdYF (gdYF (condF ?_))
    have hz := someE hF
    subst hz
    refine E4 [(0,some 0),(1,some 1)] (R3 (AI (R2 TV) (R2 TV)))
   refine gdNF (gdNF (gdNF (gdNF (gdNF (condT ?_)))))
   have hz := someE hF
   subst hz
   refine E4 [(0,some 0),(1,some 1)] (R3 (AI (R2 TV) (R2 TV)))
  refine AI (condI hF (fun hF=>?_) (fun hF=>?_)) TV
  ·refine OL (OL ?_)
   have hz := someE hF
   subst hz
   refine E4 [(0,some 1)] (R2 (AI (R2 TV) (AI rfl TV)))
  have hz := someE hF
  subst hz
  refine E4 [(0,some 0),(1,some 1)] (R2 (AI (R2 TV) (R2 TV)))
 rcases z3 with z3a | z3b
 ·dsimp only [sumF] at hF
  refine AI (OL (EI (.take 0 (.take 1 (.take 2 (.take 3 (.take 4 (.take 5 (.take 6 (.take 7 (.take 8 (.take 9 (.take 10 (.take 11 .done)))))))))))) (EI [] (EI [] (AI rfl (guardI hF (fun hF=>?_))))))) TV
  refine guardI hF (fun hF=>?_)
  refine guardI hF (fun hF=>?_)
  refine OL (guardI hF (fun hF=>?_))
  refine OL ?_
  obtain ⟨q7_11,hq7_11,hF⟩ := bindE hF
  refine OL (AI f175_in (callV0 (callI C175 [(rd (0:Int) a.1 (0:Int)),(i64.wrap (Int.tdiv (rd (0:Int) a.1 (1:Int)) wid))] q7_11 [] true C175_holds hq7_11 rfl rfl (AI rfl (AI (fun _=>rfl) (R2 (AI TV (AI TV (OL (OL (OL (OL ?_))))))))))))
  obtain ⟨z8,hz8,hF⟩ := bindE hF
  refine loopI (Int×(List Int)×(List Int)) ((List Int)×(List Int)) (fun x=>⟨[(1,.dat T1 wid),(2,P0 0 0),(4,P0 1 0),(7,.dat T1 (rd (0:Int) a.1 (1:Int))),(8,.dat T1 (i64.wrap (Int.tdiv (rd (0:Int) a.1 (1:Int)) wid))),(9,P0 2 0),(11,O0 3),(60,.dat T1 (List.length q7_11.2.2:Int)),(61,.dat T1 x.1)],[(0,.cells [(.d T6 a.1),(.d T6 a.2)]),(1,.cells [N0,N0]),(2,.cells [(.osl 4),(.osl 5)]),(3,.arr 3 T1 x.2.1),(4,.arr 3 T1 q7_11.2.1),(5,.arr 57 T1 x.2.2)],6⟩) (fun z=>[(3,⟨[(4,P0 0 0),(9,P0 1 0),(11,O0 2)],[(0,.cells [N0,N0]),(1,.cells [(.osl 3),(.osl 4)]),(2,.arr 3 T1 z.1),(3,.arr 3 T1 q7_11.2.1),(4,.arr 57 T1 z.2)],5⟩)]) (loopF (fun go x=>f150_l6 a wid q7_11 go x.1 x.2.1 x.2.2)) fuelN ((0:Int),[],q7_11.2.2) z8 (AI hz8 (AI (E4 [(0,some 0),(1,some 1),(2,some 5),(3,none),(4,some 3),(5,some 4)] (R6 (AI (R4 TV) (R6 TV)))) (AI (fun _ _ h=>loopZ h) (AI (fun m=>curI (fun v61=>curI (fun l3=>fun l5 z hF=>?_))) ?_))))
  ·have hF : f150_l6 a wid q7_11 (loopF (fun go x=>f150_l6 a wid q7_11 go x.1 x.2.1 x.2.2) m) v61 l3 l5 = some z := hF
   unfold f150_l6 at hF
   refine OL (OL (condI hF (fun hF=>?_) (fun hF=>?_)))
   ·refine OL (OL (OL (EI (.take 0 (.take 1 (.take 2 (.take 3 (.take 4 (.take 5 (.take 6 (.take 7 (.take 8 (.take 9 (.take 10 (.take 11 .done)))))))))))) (EI [] (EI [] (AI rfl (guardI hF (fun hF=>?_))))))))
    refine guardI hF (fun hF=>?_)
    refine OL (OL ?_)
    obtain ⟨z9,hz9,hF⟩ := bindE hF
    refine loopI (Int×Int) Int (fun x=>⟨[(1,.dat T1 wid),(2,P0 0 0),(4,P0 1 0),(7,.dat T1 (rd (0:Int) a.1 (1:Int))),(8,.dat T1 (i64.wrap (Int.tdiv (rd (0:Int) a.1 (1:Int)) wid))),(9,P0 2 0),(11,O0 3),(12,.dat T1 v61),(13,.dat T1 x.1),(14,.dat T1 x.2),(60,.dat T1 (List.length q7_11.2.2:Int)),(61,.dat T1 v61)],[(0,.cells [(.d T6 a.1),(.d T6 a.2)]),(1,.cells [N0,N0]),(2,.cells [(.osl 4),(.osl 5)]),(3,.arr 3 T1 l3),(4,.arr 3 T1 q7_11.2.1),(5,.arr 57 T1 l5)],6⟩) (fun z=>[(5,⟨[(1,.dat T1 wid),(2,P0 0 0),(4,P0 1 0),(7,.dat T1 (rd (0:Int) a.1 (1:Int))),(8,.dat T1 (i64.wrap (Int.tdiv (rd (0:Int) a.1 (1:Int)) wid))),(9,P0 2 0),(11,O0 3),(12,.dat T1 v61),(13,.dat T1 z),(60,.dat T1 (List.length q7_11.2.2:Int)),(61,.dat T1 v61)],[(0,.cells [(.d T6 a.1),(.d T6 a.2)]),(1,.cells [N0,N0]),(2,.cells [(.osl 4),(.osl 5)]),(3,.arr 3 T1 l3),(4,.arr 3 T1 q7_11.2.1),(5,.arr 57 T1 l5)],6⟩)]) (loopF (fun go x=>f150_l7 a wid v61 go x.1 x.2)) fuelN ((i64.wrap ((i64.wrap ((i64.wrap (Int.tdiv v61 (i64.wrap (Int.tdiv (rd (0:Int) a.1 (1:Int)) wid)))) * (rd (0:Int) a.1 (1:Int)))) + (i64.wrap ((Int.tmod v61 (i64.wrap (Int.tdiv (rd (0:Int) a.1 (1:Int)) wid))) * wid)))),(i64.wrap ((i64.wrap ((i64.wrap ((i64.wrap (Int.tdiv v61 (i64.wrap (Int.tdiv (rd (0:Int) a.1 (1:Int)) wid)))) * (rd (0:Int) a.1 (1:Int)))) + (i64.wrap ((Int.tmod v61 (i64.wrap (Int.tdiv (rd (0:Int) a.1 (1:Int)) wid))) * wid)))) + (1:Int)))) z9 (AI hz9 (AI (E4 [(0,some 0),(1,some 1),(2,some 2),(3,some 3),(4,some 4),(5,some 5)] (R9 (AI (R4 TV) (R6 TV)))) (AI (fun _ _ h=>loopZ h) (AI (fun m=>curI (fun best=>fun at_ z hF=>?_)) ?_))))
    ·have hF : f150_l7 a wid v61 (loopF (fun go x=>f150_l7 a wid v61 go x.1 x.2) m) best at_ = some z := hF
     unfold f150_l7 at hF
     refine OL (OL (EI (.take 0 (.take 1 (.take 2 (.take 3 (.take 4 (.take 5 (.take 6 (.take 7 (.take 8 (.take 9 (.take 10 (.take 11 (.take 12 (.take 13 (.take 14 .done))))))))))))))) (EI [] (EI [] (AI rfl (guardI hF (fun hF=>?_)))))))
     refine guardI hF (fun hF=>?_)
     refine condI hF (fun hF=>?_) (fun hF=>?_)
     ·refine OL (OL (EI (.take 0 (.take 1 (.take 2 (.take 3 (.take 4 (.take 5 (.take 6 (.take 7 (.take 8 (.take 9 (.take 10 .done))))))))))) (EI [] (EI [] (AI rfl (guardI hF (fun hF=>?_)))))))
      refine guardI hF (fun hF=>?_)
      refine condI hF (fun hF=>?_) (fun hF=>?_)
      ·refine EI (at_,(i64.wrap (at_ + (1:Int)))) (AI hF (E4 [(0,some 0),(1,some 1),(2,some 2),(3,some 3),(4,some 4),(5,some 5)] (R9 (AI (R4 TV) (R6 TV)))))
      refine EI (best,(i64.wrap (at_ + (1:Int)))) (AI hF (E4 [(0,some 0),(1,some 1),(2,some 2),(3,some 3),(4,some 4),(5,some 5)] (R9 (AI (R4 TV) (R6 TV)))))
     have hz := someE hF
     subst hz
     refine E4 [(0,some 0),(1,some 1),(2,some 2),(3,some 3),(4,some 4),(5,some 5)] (R8 (AI (R4 TV) (R6 TV)))
    refine AI (OL (EI (.take 0 (.take 1 (.take 2 (.take 3 (.take 4 (.take 5 (.take 6 (.take 7 (.take 8 (.alt 9 .done .done)))))))))) (EI [] (EI [] (AI rfl (guardI hF (fun hF=>?_))))))) TV
    refine guardI hF (fun hF=>?_)
    refine AI TV (OL (OL (OL (guardI hF (fun hF=>?_)))))
    refine EI ((i64.wrap (v61 + (1:Int))),(l3 ++ ([z9])),(List.set l5 (Int.toNat v61) (rd (0:Int) a.2 z9))) (AI hF (E4 [(0,some 0),(1,some 1),(2,some 2),(3,some 7),(4,some 4),(5,some 5)] (R6 (AI (R4 TV) (R6 TV)))))
   have hz := someE hF
   subst hz
   refine E4 [(0,some 1),(1,some 2),(2,some 3),(3,some 4),(4,some 5)] (AI rfl (AI (R3 TV) (R5 TV)))
  refine AI (OL (OL ?_)) TV
  have hy := someE hF
  subst hy
  refine AI rfl (E4 [(0,some 3),(1,some 4),(2,some 2)] (R2 (AI (R2 TV) (R3 TV))))
 dsimp only [sumF] at hF
 refine AI ?_ TV
 have hy := someE hF
 subst hy
 refine AI rfl (E4 [(0,none),(1,none),(2,none)] (R2 (AI (R2 TV) (R3 TV))))
theorem C150_holds : C150.Holds Tryz.prog 150 := holds_of_vc tab_ok mixed (fn := Tryz.f150) (by kernel_rfl) rfl C150 (fun x y hF=>C150_vc x.1 x.2 y hF)
theorem f150_in : InP 150 := ⟨Tryz.f150,by kernel_rfl,by kernel_rfl,by kernel_rfl⟩
def f151_j3 (a : (List Int)×(List Int)) (d : List Int) : Option Bool :=
 bindF (f91 (a.1,a.2)) fun r8 =>
 bif (!r8) then
 some true
 else
 bindF (f65 d) fun r9 =>
 some (!r9)
def f151_j2 (a : (List Int)×(List Int)) (d : List Int) : Option (Sum Unit Int) :=
 bindF (f151_j3 a d) fun z7 =>
 bif z7 then
 some (Sum.inr (1:Int))
 else
 bindF (f117 d) fun q3_1 =>
 bif (q3_1 != (List.length a.2:Int)) then
 some (Sum.inr (4:Int))
 else
 some (Sum.inl ())
def f151 (a : (List Int)×(List Int)) (d : List Int) : Option (Int×(List Int)×(List Int)) :=
 bindF (f151_j2 a d) fun z5 =>
 sumF z5 (fun z5a =>
 bindF (f61 d) fun q5_1 =>
 bindF (f75 a.2) fun q5_4 =>
 some ((0:Int),q5_1,q5_4)) (fun z5b =>
 some (z5b,[],[]))
def C151 : Con where
 X := ((List Int)×(List Int))×(List Int)
 Y := Int×(List Int)×(List Int)
 e := 0
 args x := [.dat T9 x.1,.dat T6 x.2]
 hin x := []
 F x := f151 x.1 x.2
 ret y := [.raw true [(.osl 0),(.osl 1)],.dat T1 y.1]
 hout y := [(0,.arr 3 T1 y.2.1),(1,.arr 57 T1 y.2.2)]
 nout := 2
theorem C151_vc (a : (List Int)×(List Int)) (d : List Int) (y : Int×(List Int)×(List Int)) (hF : f151 a d = some y) : VC Tryz.f151 C151 (a,d) y := by
 unfold f151 at hF
 refine OL ?_
 obtain ⟨z5,hz5,hF⟩ := bindE hF
 refine OQ ⟨Sum.elim (fun z5a=>[(0,⟨[(1,.dat T6 d),(2,P0 0 0),(4,P0 1 0)],[(0,.cells [(.d T6 a.1),(.d T6 a.2)]),(1,.cells [N0,N0])],2⟩)]) (fun z5b=>[(1,⟨[(4,P0 0 0),(5,.dat T1 z5b)],[(0,.cells [N0,N0])],1⟩)]) z5,?_,?_⟩
 ·have hF := hz5
  clear hz5
  unfold f151_j2 at hF
  obtain ⟨z7,hz7,hF⟩ := bindE hF
  refine OQ ⟨[(0,⟨[(1,.dat T6 d),(2,P0 0 0),(4,P0 1 0),(6,.dat .bool z7)],[(0,.cells [(.d T6 a.1),(.d T6 a.2)]),(1,.cells [N0,N0])],2⟩)],?_,?_⟩
  ·have hF := hz7
   clear hz7
   unfold f151_j3 at hF
   obtain ⟨r8,hr8,hF⟩ := bindE hF
   refine OL (AI f91_in (callV0 (callI C91 (a.1,a.2) r8 [] false C91_holds hr8 rfl rfl (R2 (AI (fun h=>nomatch h) (R2 (AI TV (AI TV (condN hF (fun hF=>?_) (fun hF=>?_))))))))))
   ·refine gdYF ?_
    obtain ⟨r9,hr9,hF⟩ := bindE hF
    refine OL (AI f65_in (callV0 (callI C65 d r9 [] false C65_holds hr9 rfl rfl (AI rfl (AI (fun h=>nomatch h) (R2 (AI TV (AI TV (gdYF (condF ?_))))))))))
    have hz := someE hF
    subst hz
    refine E4 [(0,some 0),(1,some 1)] (R3 (AI (R2 TV) (R2 TV)))
   refine gdNF (gdNF (condT ?_))
   have hz := someE hF
   subst hz
   refine E4 [(0,some 0),(1,some 1)] (R3 (AI (R2 TV) (R2 TV)))
  refine AI (condI hF (fun hF=>?_) (fun hF=>?_)) TV
  ·refine OL (OL ?_)
   have hz := someE hF
   subst hz
   refine E4 [(0,some 1)] (R2 (AI (AI rfl TV) (AI rfl TV)))
  refine OL (EI (.take 0 (.take 2 (.take 3 (.take 4 (.alt 1 (.take 5 (.take 6 .done)) .done))))) (EI [] (EI [] (AI rfl (AI TV ?_)))))
  obtain ⟨q3_1,hq3_1,hF⟩ := bindE hF
  refine OL (AI f117_in (callV0 (callI C117 d q3_1 [] false C117_holds hq3_1 rfl rfl (AI rfl (AI (fun h=>nomatch h) (R2 (AI TV (AI TV (condI hF (fun hF=>?_) (fun hF=>?_))))))))))
  ·refine OL (OL ?_)
   have hz := someE hF
   subst hz
   refine E4 [(0,some 1)] (R2 (AI (AI rfl TV) (AI rfl TV)))
  have hz := someE hF
  subst hz
  refine E4 [(0,some 0),(1,some 1)] (R2 (AI (R2 TV) (R2 TV)))
 rcases z5 with z5a | z5b
 ·dsimp only [sumF] at hF
  refine AI (OL (EI (.take 0 (.take 2 (.take 3 (.alt 1 (.alt 4 (.take 5 (.alt 6 (.take 7 .done) .done)) .done) .done)))) (EI [] (EI [] (AI rfl (AI TV ?_)))))) TV
  obtain ⟨q5_1,hq5_1,hF⟩ := bindE hF
  refine OL (AI f61_in (callV0 (callI C61 d q5_1 [] false C61_holds hq5_1 rfl rfl (AI rfl (AI (fun h=>nomatch h) (R2 (AI TV (AI TV (AI TV ?_)))))))))
  obtain ⟨q5_4,hq5_4,hF⟩ := bindE hF
  refine OL (AI f75_in (callV0 (callI C75 a.2 q5_4 [] false C75_holds hq5_4 rfl rfl (AI rfl (AI (fun h=>nomatch h) (R2 (AI TV (AI TV (AI TV (OL ?_))))))))))
  have hy := someE hF
  subst hy
  refine AI rfl (E4 [(0,some 2),(1,some 3)] (R2 (AI (AI rfl TV) (R2 TV))))
 dsimp only [sumF] at hF
 refine AI ?_ TV
 have hy := someE hF
 subst hy
 refine AI rfl (E4 [(0,none),(1,none)] (R2 (AI (AI rfl TV) (R2 TV))))
theorem C151_holds : C151.Holds Tryz.prog 151 := holds_of_vc tab_ok mixed (fn := Tryz.f151) (by kernel_rfl) rfl C151 (fun x y hF=>C151_vc x.1 x.2 y hF)
theorem f151_in : InP 151 := ⟨Tryz.f151,by kernel_rfl,by kernel_rfl,by kernel_rfl⟩
def f121 (op:Int) (a : (List Int)×(List Int)) (k:Int) : Option (Int×(List Int)×(List Int)) :=
 bif (op == (5:Int)) then
 bindF (f143 (a.1,a.2) k) fun r1 =>
 some (r1.1,r1.2.1,r1.2.2)
 else
 bif (op == (7:Int)) then
 bindF (f144 (a.1,a.2)) fun r2 =>
 some (r2.1,r2.2.1,r2.2.2)
 else
 bif (op == (8:Int)) then
 bindF (f145 (a.1,a.2) k) fun r3 =>
 some (r3.1,r3.2.1,r3.2.2)
 else
 bif (op == (9:Int)) then
 bindF (f147 (a.1,a.2)) fun r4 =>
 bindF (f146 r4.1 r4.2) fun r5 =>
 some (r5.1,r5.2.1,r5.2.2)
 else
 bif (op == (10:Int)) then
 bindF (f148 (a.1,a.2)) fun r6 =>
 bindF (f146 r6.1 r6.2) fun r7 =>
 some (r7.1,r7.2.1,r7.2.2)
 else
 bif (op == (11:Int)) then
 bindF (f149 k (a.1,a.2)) fun r8 =>
 some (r8.1,r8.2.1,r8.2.2)
 else
 bif (op == (13:Int)) then
 bindF (f150 (a.1,a.2) k) fun r9 =>
 some (r9.1,r9.2.1,r9.2.2.1)
 else
 bindF (f151 (a.1,a.2) ([(List.length a.2:Int)])) fun r10 =>
 some (r10.1,r10.2.1,r10.2.2)
def C121 : Con where
 X := Int×((List Int)×(List Int))×Int
 Y := Int×(List Int)×(List Int)
 e := 0
 args x := [.dat T1 x.1,.dat T9 x.2.1,.dat T1 x.2.2]
 hin x := []
 F x := f121 x.1 x.2.1 x.2.2
 ret y := [.raw true [(.osl 0),(.osl 1)],.dat T1 y.1]
 hout y := [(0,.arr 3 T1 y.2.1),(1,.arr 57 T1 y.2.2)]
 nout := 2
theorem C121_vc (op:Int) (a : (List Int)×(List Int)) (k:Int) (y : Int×(List Int)×(List Int)) (hF : f121 op a k = some y) : VC Tryz.f121 C121 (op,a,k) y := by
 unfold f121 at hF
 refine OL (OL (OL (OL (condI hF (fun hF=>?_) (fun hF=>?_)))))
 ·refine OL ?_
  obtain ⟨r1,hr1,hF⟩ := bindE hF
  refine OL (AI f143_in (callV0 (callI C143 ((a.1,a.2),k) r1 [] false C143_holds hr1 rfl rfl (R3 (AI (fun h=>nomatch h) (R2 (AI TV (AI TV (OL ?_)))))))))
  have hy := someE hF
  subst hy
  refine AI rfl (E4 [(0,some 2),(1,some 3)] (R2 (AI (AI rfl TV) (R2 TV))))
 refine OL (condI hF (fun hF=>?_) (fun hF=>?_))
 ·refine OL ?_
  obtain ⟨r2,hr2,hF⟩ := bindE hF
  refine OL (AI f144_in (callV0 (callI C144 (a.1,a.2) r2 [] false C144_holds hr2 rfl rfl (R2 (AI (fun h=>nomatch h) (R2 (AI TV (AI TV (OL ?_)))))))))
  have hy := someE hF
  subst hy
  refine AI rfl (E4 [(0,some 2),(1,some 3)] (R2 (AI (AI rfl TV) (R2 TV))))
 refine OL (condI hF (fun hF=>?_) (fun hF=>?_))
 ·refine OL ?_
  obtain ⟨r3,hr3,hF⟩ := bindE hF
  refine OL (AI f145_in (callV0 (callI C145 ((a.1,a.2),k) r3 [] false C145_holds hr3 rfl rfl (R3 (AI (fun h=>nomatch h) (R2 (AI TV (AI TV (OL ?_)))))))))
  have hy := someE hF
  subst hy
  refine AI rfl (E4 [(0,some 2),(1,some 3)] (R2 (AI (AI rfl TV) (R2 TV))))
 refine OL (condI hF (fun hF=>?_) (fun hF=>?_))
 ·refine OL ?_
  obtain ⟨r4,hr4,hF⟩ := bindE hF
  refine OL (AI f147_in (callV0 (callI C147 (a.1,a.2) r4 [] false C147_holds hr4 rfl rfl (R2 (AI (fun h=>nomatch h) (R2 (AI TV (AI TV ?_))))))))
  obtain ⟨r5,hr5,hF⟩ := bindE hF
  refine OL (AI f146_in (callV0 (callI C146 (r4.1,r4.2) r5 [] false C146_holds hr5 rfl rfl (R2 (AI (fun h=>nomatch h) (R2 (AI TV (AI TV (OL ?_)))))))))
  have hy := someE hF
  subst hy
  refine AI rfl (E4 [(0,some 2),(1,some 3)] (R2 (AI (AI rfl TV) (R2 TV))))
 refine OL (condI hF (fun hF=>?_) (fun hF=>?_))
 ·refine OL ?_
  obtain ⟨r6,hr6,hF⟩ := bindE hF
  refine OL (AI f148_in (callV0 (callI C148 (a.1,a.2) r6 [] false C148_holds hr6 rfl rfl (R2 (AI (fun h=>nomatch h) (R2 (AI TV (AI TV ?_))))))))
  obtain ⟨r7,hr7,hF⟩ := bindE hF
  refine OL (AI f146_in (callV0 (callI C146 (r6.1,r6.2) r7 [] false C146_holds hr7 rfl rfl (R2 (AI (fun h=>nomatch h) (R2 (AI TV (AI TV (OL ?_)))))))))
  have hy := someE hF
  subst hy
  refine AI rfl (E4 [(0,some 2),(1,some 3)] (R2 (AI (AI rfl TV) (R2 TV))))
 refine OL (condI hF (fun hF=>?_) (fun hF=>?_))
 ·refine OL ?_
  obtain ⟨r8,hr8,hF⟩ := bindE hF
  refine OL (AI f149_in (callV0 (callI C149 (k,(a.1,a.2)) r8 [] false C149_holds hr8 rfl rfl (R3 (AI (fun h=>nomatch h) (R2 (AI TV (AI TV (OL ?_)))))))))
  have hy := someE hF
  subst hy
  refine AI rfl (E4 [(0,some 2),(1,some 3)] (R2 (AI (AI rfl TV) (R2 TV))))
 refine OL (condI hF (fun hF=>?_) (fun hF=>?_))
 ·refine OL ?_
  obtain ⟨r9,hr9,hF⟩ := bindE hF
  refine OL (AI f150_in (callV0 (callI C150 ((a.1,a.2),k) r9 [] false C150_holds hr9 rfl rfl (R3 (AI (fun h=>nomatch h) (R2 (AI TV (AI TV (OL (OL (OL ?_)))))))))))
  have hy := someE hF
  subst hy
  refine AI rfl (E4 [(0,some 2),(1,some 3)] (R2 (AI (AI rfl TV) (R2 TV))))
 refine OL (OL ?_)
 obtain ⟨r10,hr10,hF⟩ := bindE hF
 refine OL (AI f151_in (callV0 (callI C151 ((a.1,a.2),[(List.length a.2:Int)]) r10 [] true C151_holds hr10 rfl rfl (R3 (AI (fun _=>rfl) (R2 (AI TV (AI TV (OL ?_)))))))))
 have hy := someE hF
 subst hy
 refine AI rfl (E4 [(0,some 3),(1,some 4)] (R2 (AI (AI rfl TV) (R2 TV))))
theorem C121_holds : C121.Holds Tryz.prog 121 := holds_of_vc tab_ok mixed (fn := Tryz.f121) (by kernel_rfl) rfl C121 (fun x y hF=>C121_vc x.1 x.2.1 x.2.2 y hF)
theorem f121_in : InP 121 := ⟨Tryz.f121,by kernel_rfl,by kernel_rfl,by kernel_rfl⟩
def f93_j1 (t_l : List (Int×Int×Int×Int×(List Int)×(List Int))) (op:Int) (a:Int) (b:Int) : Option (Sum (List (Int×Int×Int×Int×(List Int)×(List Int))) (Int×(List (Int×Int×Int×Int×(List Int)×(List Int))))) :=
 bif (decide ((List.length t_l:Int) ≥ (512:Int))) then
 some (Sum.inr ((2:Int),t_l))
 else
 bif (decide (op < (2:Int))) then
 some (Sum.inr ((1:Int),t_l))
 else
 bif (decide (op > (14:Int))) then
 some (Sum.inr ((1:Int),t_l))
 else
 bindF (f48 t_l a) fun r5 =>
 bif (!r5.1) then
 some (Sum.inr ((1:Int),r5.2))
 else
 bindF (f118 op) fun r6 =>
 bif r6 then
 bindF (f48 r5.2 b) fun r7 =>
 bif (!r7.1) then
 some (Sum.inr ((1:Int),r7.2))
 else
 some (Sum.inl r7.2)
 else
 some (Sum.inl r5.2)
def f93_j2 (op:Int) (k:Int) : Option Int :=
 bindF (f119 op) fun r10 =>
 bif r10 then
 some k
 else
 some (0:Int)
def f93_j3 (op:Int) (a:Int) (b:Int) (k:Int) (z4a : List (Int×Int×Int×Int×(List Int)×(List Int))) : Option (Int×Int×(List Int)×(List Int)) :=
 bindF (f118 op) fun r13 =>
 bif r13 then
 guardF (0 ≤ a ∧ a < (List.length z4a:Int)) <|
 guardF (0 ≤ b ∧ b < (List.length z4a:Int)) <|
 bindF (f120 op ((((((rd (Ty.z T8) z4a a).2).2).2).2).1,(((((rd (Ty.z T8) z4a a).2).2).2).2).2) ((((((rd (Ty.z T8) z4a b).2).2).2).2).1,(((((rd (Ty.z T8) z4a b).2).2).2).2).2) k) fun q11_18 =>
 some (q11_18.1,b,q11_18.2.1,q11_18.2.2)
 else
 guardF (0 ≤ a ∧ a < (List.length z4a:Int)) <|
 bindF (f121 op ((((((rd (Ty.z T8) z4a a).2).2).2).2).1,(((((rd (Ty.z T8) z4a a).2).2).2).2).2) k) fun q11_24 =>
 some (q11_24.1,(-1:Int),q11_24.2.1,q11_24.2.2)
def f93 (t_l : List (Int×Int×Int×Int×(List Int)×(List Int))) (op:Int) (a:Int) (b:Int) (k:Int) : Option (Int×Int×(List (Int×Int×Int×Int×(List Int)×(List Int)))) :=
 bindF (f93_j1 t_l op a b) fun z4 =>
 sumF z4 (fun z4a =>
 bindF (f93_j2 op k) fun z9 =>
 bindF (f93_j3 op a b k z4a) fun z12 =>
 bif (z12.1 != (0:Int)) then
 some ((0:Int),z12.1,z4a)
 else
 bindF (f92 z4a (op,a,z12.2.1,z9,z12.2.2.1,z12.2.2.2)) fun r14 =>
 some (r14.1,(0:Int),r14.2)) (fun z4b =>
 some ((0:Int),z4b.1,z4b.2))
def C93 : Con where
 X := (List (Int×Int×Int×Int×(List Int)×(List Int)))×Int×Int×Int×Int
 Y := Int×Int×(List (Int×Int×Int×Int×(List Int)×(List Int)))
 e := 2
 args x := [P0 0 0,.dat T1 x.2.1,.dat T1 x.2.2.1,.dat T1 x.2.2.2.1,.dat T1 x.2.2.2.2]
 hin x := [(0,.cells [(.osl 1)]),(1,.arr 61 T8 x.1)]
 F x := f93 x.1 x.2.1 x.2.2.1 x.2.2.2.1 x.2.2.2.2
 ret y := [.dat T1 y.1,.dat T1 y.2.1]
 hout y := [(0,.cells [(.osl 2)]),(2,.arr 61 T8 y.2.2)]
 nout := 3
theorem C93_vc (t_l : List (Int×Int×Int×Int×(List Int)×(List Int))) (op:Int) (a:Int) (b:Int) (k:Int) (y : Int×Int×(List (Int×Int×Int×Int×(List Int)×(List Int)))) (hF : f93 t_l op a b k = some y) : vc Tryz.prog tab Tryz.f93.ntmps 2 (match Tryz.f93.body with | some c=>c | none=>.skip) (retK tab C93 Tryz.f93.results.toList y) (C93.shIn (t_l,op,a,b,k)).st := by
 unfold f93 at hF
 refine OL ?_
 obtain ⟨z4,hz4,hF⟩ := bindE hF
 refine OQ ⟨Sum.elim (fun z4a=>[(0,⟨[(0,P0 0 0),(1,.dat T1 op),(2,.dat T1 a),(3,.dat T1 b),(4,.dat T1 k)],[(0,.cells [(.osl 1)]),(1,.arr 61 T8 z4a)],2⟩)]) (fun z4b=>[(1,⟨[(10,D0 0),(11,.dat T1 z4b.1)],[(0,.cells [(.osl 1)]),(1,.arr 61 T8 z4b.2)],2⟩)]) z4,?_,?_⟩
 ·have hF := hz4
  clear hz4
  unfold f93_j1 at hF
  refine OL (condI hF (fun hF=>?_) (fun hF=>?_))
  ·refine OL ?_
   have hz := someE hF
   subst hz
   refine E4 [(0,some 0),(1,some 1)] (R3 (AI TV (R2 TV)))
  refine OL (condN hF (fun hF=>?_) (fun hF=>?_))
  ·refine gdYF (condF (condN hF (fun hF=>?_) (fun hF=>?_)))
   ·refine gdYF (gdYF ?_)
    obtain ⟨r5,hr5,hF⟩ := bindE hF
    refine OL (AI f48_in (callV0 (callI C48 (t_l,a) r5 [(0,some 0),(1,some 1)] false C48_holds hr5 rfl rfl (AI rfl (AI (fun h=>nomatch h) (R2 (AI (AI rfl TV) (AI (R2 TV) (gdYF (condF (condN hF (fun hF=>?_) (fun hF=>?_))))))))))))
    ·refine gdYF ?_
     obtain ⟨r6,hr6,hF⟩ := bindE hF
     refine OL (AI f118_in (callV0 (callI C118 op r6 [] false C118_holds hr6 rfl rfl (AI rfl (AI (fun h=>nomatch h) (R2 (AI TV (AI TV (gdYF (condI hF (fun hF=>?_) (fun hF=>?_)))))))))))
     ·refine gdYT (gdYT ?_)
      obtain ⟨r7,hr7,hF⟩ := bindE hF
      refine OL (AI f48_in (callV0 (callI C48 (r5.2,b) r7 [(0,some 0),(1,some 1)] false C48_holds hr7 rfl rfl (AI rfl (AI (fun h=>nomatch h) (R2 (AI (AI rfl TV) (AI (R2 TV) (gdYT (gdYF (condT (condF (condI hF (fun hF=>?_) (fun hF=>?_))))))))))))))
      ·refine OL ?_
       have hz := someE hF
       subst hz
       refine E4 [(0,some 0),(1,some 1)] (R3 (AI TV (R2 TV)))
      have hz := someE hF
      subst hz
      refine E4 [(0,some 0),(1,some 1)] (R5 (AI (AI rfl TV) (R2 TV)))
     refine gdNT (gdNT (gdNT (gdYF (condF (condF (condF ?_))))))
     have hz := someE hF
     subst hz
     refine E4 [(0,some 0),(1,some 1)] (R5 (AI (AI rfl TV) (R2 TV)))
    refine gdNF (gdNF (gdNF (condT (condT (OL ?_)))))
    have hz := someE hF
    subst hz
    refine E4 [(0,some 0),(1,some 1)] (R3 (AI TV (R2 TV)))
   refine gdNF (gdNF (gdNF (condT (gdNF (gdNF (gdNF (gdNF (condT (condT (OL ?_))))))))))
   have hz := someE hF
   subst hz
   refine E4 [(0,some 0),(1,some 1)] (R3 (AI TV (R2 TV)))
  refine gdNF (condT (gdNF (gdNF (gdNF (gdNF (condT (gdNF (gdNF (gdNF (gdNF (condT (condT (OL ?_)))))))))))))
  have hz := someE hF
  subst hz
  refine E4 [(0,some 0),(1,some 1)] (R3 (AI TV (R2 TV)))
 rcases z4 with z4a | z4b
 ·dsimp only [sumF] at hF
  refine AI (OL (OL ?_)) TV
  obtain ⟨z9,hz9,hF⟩ := bindE hF
  refine OQ ⟨[(0,⟨[(0,P0 0 0),(1,.dat T1 op),(2,.dat T1 a),(3,.dat T1 b),(4,.dat T1 k),(12,P0 2 0)],[(0,.cells [(.osl 1)]),(1,.arr 61 T8 z4a),(2,.cells [(.d T1 op),(.d T1 a),(.d T1 (-1:Int)),(.d T1 z9),N0,N0])],3⟩)],?_,?_⟩
  ·have hF := hz9
   clear hz9
   unfold f93_j2 at hF
   refine OL ?_
   obtain ⟨r10,hr10,hF⟩ := bindE hF
   refine OL (AI f119_in (callV0 (callI C119 op r10 [] false C119_holds hr10 rfl rfl (AI rfl (AI (fun h=>nomatch h) (R2 (AI TV (AI TV (condI hF (fun hF=>?_) (fun hF=>?_))))))))))
   ·refine OL ?_
    have hz := someE hF
    subst hz
    refine E4 [(0,some 0),(1,some 1),(2,some 2)] (R5 (AI (R2 TV) (R3 TV)))
   have hz := someE hF
   subst hz
   refine E4 [(0,some 0),(1,some 1),(2,some 2)] (R5 (AI (R2 TV) (R3 TV)))
  refine AI (OL ?_) TV
  obtain ⟨z12,hz12,hF⟩ := bindE hF
  refine OQ ⟨[(0,⟨[(0,P0 0 0),(12,P0 2 0),(13,.dat T1 z12.1)],[(0,.cells [(.osl 1)]),(1,.arr 61 T8 z4a),(2,.cells [(.d T1 op),(.d T1 a),(.d T1 z12.2.1),(.d T1 z9),(.osl 3),(.osl 4)]),(3,.arr 3 T1 z12.2.2.1),(4,.arr 57 T1 z12.2.2.2)],5⟩)],?_,?_⟩
  ·have hF := hz12
   clear hz12
   unfold f93_j3 at hF
   refine OL ?_
   obtain ⟨r13,hr13,hF⟩ := bindE hF
   refine OL (AI f118_in (callV0 (callI C118 op r13 [] false C118_holds hr13 rfl rfl (AI rfl (AI (fun h=>nomatch h) (R2 (AI TV (AI TV (condI hF (fun hF=>?_) (fun hF=>?_))))))))))
   ·refine OL (OL (EI (.take 0 (.take 1 (.take 2 (.take 3 (.take 4 (.take 5 (.take 6 (.take 7 (.take 8 (.take 9 (.take 10 (.take 11 (.take 12 (.take 13 (.take 14 (.take 15 (.take 16 (.take 17 (.alt 18 (.take 19 (.take 20 (.take 21 (.take 22 (.alt 23 (.take 24 .done) .done))))) .done))))))))))))))))))) (EI [] (EI [] (AI rfl (guardI hF (fun hF=>?_)))))))
    refine guardI hF (fun hF=>?_)
    refine AI TV ?_
    obtain ⟨q11_18,hq11_18,hF⟩ := bindE hF
    refine OL (AI f120_in (callV0 (callI C120 (op,((((((rd (Ty.z T8) z4a a).2).2).2).2).1,(((((rd (Ty.z T8) z4a a).2).2).2).2).2),((((((rd (Ty.z T8) z4a b).2).2).2).2).1,(((((rd (Ty.z T8) z4a b).2).2).2).2).2),k) q11_18 [] false C120_holds hq11_18 rfl rfl (R6 (AI (fun h=>nomatch h) (R2 (AI TV (AI TV (AI TV (OL ?_))))))))))
    have hz := someE hF
    subst hz
    refine E4 [(0,some 0),(1,some 1),(2,some 2),(3,some 3),(4,some 4)] (R2 (AI (R2 TV) (R5 TV)))
   refine guardI hF (fun hF=>?_)
   obtain ⟨q11_24,hq11_24,hF⟩ := bindE hF
   refine OL (AI f121_in (callV0 (callI C121 (op,((((((rd (Ty.z T8) z4a a).2).2).2).2).1,(((((rd (Ty.z T8) z4a a).2).2).2).2).2),k) q11_24 [] false C121_holds hq11_24 rfl rfl (R4 (AI (fun h=>nomatch h) (R2 (AI TV (AI TV (OL ?_)))))))))
   have hz := someE hF
   subst hz
   refine E4 [(0,some 0),(1,some 1),(2,some 2),(3,some 3),(4,some 4)] (R2 (AI (R2 TV) (R5 TV)))
  refine AI (OL (OL (condI hF (fun hF=>?_) (fun hF=>?_)))) TV
  ·refine OL ?_
   have hy := someE hF
   subst hy
   refine AI rfl (E4 [(0,some 0),(2,some 1)] (R3 (AI TV (R2 TV))))
  refine OL ?_
  obtain ⟨r14,hr14,hF⟩ := bindE hF
  refine OL (AI f92_in (callV0 (callI C92 (z4a,(op,a,z12.2.1,z9,z12.2.2.1,z12.2.2.2)) r14 [(0,some 0),(1,some 1)] false C92_holds hr14 rfl rfl (R2 (AI (fun h=>nomatch h) (R2 (AI (AI rfl TV) (AI (R2 TV) ?_))))))))
  have hy := someE hF
  subst hy
  refine AI rfl (E4 [(0,some 0),(2,some 7)] (R3 (AI TV (R2 TV))))
 dsimp only [sumF] at hF
 refine AI ?_ TV
 have hy := someE hF
 subst hy
 refine AI rfl (E4 [(0,some 0),(2,some 1)] (R3 (AI TV (R2 TV))))
theorem C93_holds : C93.Holds Tryz.prog 93 := holds_of_vc tab_ok mixed (fn := Tryz.f93) (by kernel_rfl) rfl C93 (fun x y hF=>C93_vc x.1 x.2.1 x.2.2.1 x.2.2.2.1 x.2.2.2.2 y hF)
theorem f93_in : InP 93 := ⟨Tryz.f93,by kernel_rfl,by kernel_rfl,by kernel_rfl⟩
def f71 (r_t_l : List (Int×Int×Int×Int×(List Int)×(List Int))) (r_e:Int) (r_p : List Int) (r_leafs : List Int) (op:Int) (a:Int) (b:Int) (k:Int) : Option (Int×Int×(List Int)×(List Int)×(List (Int×Int×Int×Int×(List Int)×(List Int)))) :=
 bif (r_e != (0:Int)) then
 some ((0:Int),r_e,r_p,r_leafs,r_t_l)
 else
 bindF (f93 r_t_l op a b k) fun r1 =>
 some (r1.1,r1.2.1,r_p,r_leafs,r1.2.2)
def C71 : Con where
 X := (List (Int×Int×Int×Int×(List Int)×(List Int)))×Int×(List Int)×(List Int)×Int×Int×Int×Int
 Y := Int×Int×(List Int)×(List Int)×(List (Int×Int×Int×Int×(List Int)×(List Int)))
 e := 4
 args x := [P0 0 0,.dat T1 x.2.2.2.2.1,.dat T1 x.2.2.2.2.2.1,.dat T1 x.2.2.2.2.2.2.1,.dat T1 x.2.2.2.2.2.2.2]
 hin x := [(0,.cells [(.ptr 1 0),(.d T1 x.2.1),(.d T6 x.2.2.1),(.osl 3)]),(1,.cells [(.osl 2)]),(2,.arr 61 T8 x.1),(3,.arr 3 T1 x.2.2.2.1)]
 F x := f71 x.1 x.2.1 x.2.2.1 x.2.2.2.1 x.2.2.2.2.1 x.2.2.2.2.2.1 x.2.2.2.2.2.2.1 x.2.2.2.2.2.2.2
 ret y := [.dat T1 y.1]
 hout y := [(0,.cells [(.ptr 1 0),(.d T1 y.2.1),(.d T6 y.2.2.1),(.osl 3)]),(1,.cells [(.osl 4)]),(3,.arr 3 T1 y.2.2.2.1),(4,.arr 61 T8 y.2.2.2.2)]
 nout := 5
theorem C71_vc (r_t_l : List (Int×Int×Int×Int×(List Int)×(List Int))) (r_e:Int) (r_p : List Int) (r_leafs : List Int) (op:Int) (a:Int) (b:Int) (k:Int) (y : Int×Int×(List Int)×(List Int)×(List (Int×Int×Int×Int×(List Int)×(List Int)))) (hF : f71 r_t_l r_e r_p r_leafs op a b k = some y) : vc Tryz.prog tab Tryz.f71.ntmps 4 (match Tryz.f71.body with | some c=>c | none=>.skip) (retK tab C71 Tryz.f71.results.toList y) (C71.shIn (r_t_l,r_e,r_p,r_leafs,op,a,b,k)).st := by
 unfold f71 at hF
 refine OL (OL (OL (condI hF (fun hF=>?_) (fun hF=>?_))))
 ·refine OL ?_
  have hy := someE hF
  subst hy
  refine AI rfl (E4 [(0,some 0),(1,some 1),(3,some 3),(4,some 2)] (R2 (AI TV (R4 TV))))
 refine OL ?_
 obtain ⟨r1,hr1,hF⟩ := bindE hF
 refine OL (AI f93_in (callV0 (callI C93 (r_t_l,op,a,b,k) r1 [(0,some 1),(1,some 2)] false C93_holds hr1 rfl rfl (R4 (AI (fun h=>nomatch h) (R2 (AI (AI rfl TV) (AI (R2 TV) (OL (OL (OL ?_)))))))))))
 have hy := someE hF
 subst hy
 refine AI rfl (E4 [(0,some 0),(1,some 1),(3,some 3),(4,some 6)] (R2 (AI TV (R4 TV))))
theorem C71_holds : C71.Holds Tryz.prog 71 := holds_of_vc tab_ok mixed (fn := Tryz.f71) (by kernel_rfl) rfl C71 (fun x y hF=>C71_vc x.1 x.2.1 x.2.2.1 x.2.2.2.1 x.2.2.2.2.1 x.2.2.2.2.2.1 x.2.2.2.2.2.2.1 x.2.2.2.2.2.2.2 y hF)
theorem f71_in : InP 71 := ⟨Tryz.f71,by kernel_rfl,by kernel_rfl,by kernel_rfl⟩
def f44_j1 (in_ : List Int) (x_:Int) (r2 : Int×Int×Int×(List Int)×(List Int)×(List (Int×Int×Int×Int×(List Int)×(List Int)))) : Option (Int×Int×(List Int)×(List Int)×(List (Int×Int×Int×Int×(List Int)×(List Int)))) :=
 bif ((List.length in_:Int) == (2:Int)) then
 bindF (f71 r2.2.2.2.2.2 r2.2.2.1 r2.2.2.2.1 r2.2.2.2.2.1 (14:Int) x_ (0:Int) (0:Int)) fun r5 =>
 some (r5.1,r5.2.1,r5.2.2.1,r5.2.2.2.1,r5.2.2.2.2)
 else
 some (x_,r2.2.2.1,r2.2.2.2.1,r2.2.2.2.2.1,r2.2.2.2.2.2)
def f44 (r_t_l : List (Int×Int×Int×Int×(List Int)×(List Int))) (r_e:Int) (r_p : List Int) (r_leafs : List Int) (l : ByteArray×Int×Int) (in_ : List Int) (x_:Int) (ahead:Int) : Option (Int×Int×(List Int)×(List Int)×(List (Int×Int×Int×Int×(List Int)×(List Int)))) :=
 bindF (f64 (l.1,l.2.1,l.2.2) in_) fun r1 =>
 bindF (f70 r_t_l r_e r_p r_leafs r1) fun r2 =>
 bif (ByteArray.toList l.1 == ByteArray.toList (ByteArray.mk #[100,101,110,115,101])) then
 bindF (f44_j1 in_ x_ r2) fun z4 =>
 bindF (f71 z4.2.2.2.2 z4.2.1 z4.2.2.1 z4.2.2.2.1 (4:Int) r2.1 z4.1 (0:Int)) fun r6 =>
 bindF (f71 r6.2.2.2.2 r6.2.1 r6.2.2.1 r6.2.2.2.1 (8:Int) r6.1 (0:Int) (1:Int)) fun r7 =>
 bindF (f71 r7.2.2.2.2 r7.2.1 r7.2.2.1 r7.2.2.2.1 (2:Int) r7.1 r2.2.1 (0:Int)) fun r8 =>
 some (r8.1,r8.2.1,r8.2.2.1,r8.2.2.2.1,r8.2.2.2.2)
 else
 bif (ByteArray.toList l.1 == ByteArray.toList (ByteArray.mk #[99,111,110,118])) then
 bindF (f71 r2.2.2.2.2.2 r2.2.2.1 r2.2.2.2.1 r2.2.2.2.2.1 (12:Int) x_ r2.1 (1:Int)) fun r9 =>
 some (r9.1,r9.2.1,r9.2.2.1,r9.2.2.2.1,r9.2.2.2.2)
 else
 bif (ByteArray.toList l.1 == ByteArray.toList (ByteArray.mk #[112,111,111,108])) then
 bindF (f71 r2.2.2.2.2.2 r2.2.2.1 r2.2.2.2.1 r2.2.2.2.2.1 (13:Int) x_ (0:Int) l.2.1) fun r10 =>
 some (r10.1,r10.2.1,r10.2.2.1,r10.2.2.2.1,r10.2.2.2.2)
 else
 bif (ByteArray.toList l.1 == ByteArray.toList (ByteArray.mk #[98,101,110,100])) then
 bindF (f71 r2.2.2.2.2.2 r2.2.2.1 r2.2.2.2.1 r2.2.2.2.2.1 (11:Int) x_ (0:Int) l.2.1) fun r11 =>
 some (r11.1,r11.2.1,r11.2.2.1,r11.2.2.2.1,r11.2.2.2.2)
 else
 bindF (f71 r2.2.2.2.2.2 r2.2.2.1 r2.2.2.2.1 r2.2.2.2.2.1 (2:Int) ahead x_ (0:Int)) fun r12 =>
 some (r12.1,r12.2.1,r12.2.2.1,r12.2.2.2.1,r12.2.2.2.2)
def C44 : Con where
 X := (List (Int×Int×Int×Int×(List Int)×(List Int)))×Int×(List Int)×(List Int)×(ByteArray×Int×Int)×(List Int)×Int×Int
 Y := Int×Int×(List Int)×(List Int)×(List (Int×Int×Int×Int×(List Int)×(List Int)))
 e := 4
 args x := [P0 0 0,.dat T3 x.2.2.2.2.1,.dat T6 x.2.2.2.2.2.1,.dat T1 x.2.2.2.2.2.2.1,.dat T1 x.2.2.2.2.2.2.2]
 hin x := [(0,.cells [(.ptr 1 0),(.d T1 x.2.1),(.d T6 x.2.2.1),(.osl 3)]),(1,.cells [(.osl 2)]),(2,.arr 61 T8 x.1),(3,.arr 3 T1 x.2.2.2.1)]
 F x := f44 x.1 x.2.1 x.2.2.1 x.2.2.2.1 x.2.2.2.2.1 x.2.2.2.2.2.1 x.2.2.2.2.2.2.1 x.2.2.2.2.2.2.2
 ret y := [.dat T1 y.1]
 hout y := [(0,.cells [(.ptr 1 0),(.d T1 y.2.1),(.d T6 y.2.2.1),(.osl 4)]),(1,.cells [(.osl 5)]),(4,.arr 3 T1 y.2.2.2.1),(5,.arr 61 T8 y.2.2.2.2)]
 nout := 6
theorem C44_vc (r_t_l : List (Int×Int×Int×Int×(List Int)×(List Int))) (r_e:Int) (r_p : List Int) (r_leafs : List Int) (l : ByteArray×Int×Int) (in_ : List Int) (x_:Int) (ahead:Int) (y : Int×Int×(List Int)×(List Int)×(List (Int×Int×Int×Int×(List Int)×(List Int)))) (hF : f44 r_t_l r_e r_p r_leafs l in_ x_ ahead = some y) : vc Tryz.prog tab Tryz.f44.ntmps 4 (match Tryz.f44.body with | some c=>c | none=>.skip) (retK tab C44 Tryz.f44.results.toList y) (C44.shIn (r_t_l,r_e,r_p,r_leafs,l,in_,x_,ahead)).st := by
 unfold f44 at hF
 refine OL (OL ?_)
 obtain ⟨r1,hr1,hF⟩ := bindE hF
 refine OL (AI f64_in (callV0 (callI C64 ((l.1,l.2.1,l.2.2),in_) r1 [] false C64_holds hr1 rfl rfl (R3 (AI (fun h=>nomatch h) (R2 (AI TV (AI TV ?_))))))))
 obtain ⟨r2,hr2,hF⟩ := bindE hF
 refine OL (AI f70_in (callV0 (callI C70 (r_t_l,r_e,r_p,r_leafs,r1) r2 [(0,some 0),(1,some 1),(2,some 2),(3,some 3)] false C70_holds hr2 rfl rfl (AI rfl (AI (fun h=>nomatch h) (R2 (AI (AI rfl TV) (AI (R4 TV) (OL (OL (OL (condI hF (fun hF=>?_) (fun hF=>?_)))))))))))))
 ·obtain ⟨z4,hz4,hF⟩ := bindE hF
  refine OQ ⟨[(0,⟨[(0,P0 0 0),(3,.dat T1 z4.1),(11,.dat T1 r2.1),(12,.dat T1 r2.2.1)],[(0,.cells [(.ptr 1 0),(.d T1 z4.2.1),(.d T6 z4.2.2.1),(.osl 4)]),(1,.cells [(.osl 5)]),(4,.arr 3 T1 z4.2.2.2.1),(5,.arr 61 T8 z4.2.2.2.2)],6⟩)],?_,?_⟩
  ·have hF := hz4
   clear hz4
   unfold f44_j1 at hF
   refine OL (condI hF (fun hF=>?_) (fun hF=>?_))
   ·obtain ⟨r5,hr5,hF⟩ := bindE hF
    refine OL (AI f71_in (callV0 (callI C71 (r2.2.2.2.2.2,r2.2.2.1,r2.2.2.2.1,r2.2.2.2.2.1,(14:Int),x_,(0:Int),(0:Int)) r5 [(0,some 0),(1,some 1),(2,some 11),(3,some 10)] false C71_holds hr5 rfl rfl (R4 (AI (fun h=>nomatch h) (R2 (AI (AI rfl TV) (AI (R4 TV) ?_))))))))
    have hz := someE hF
    subst hz
    refine E4 [(0,some 0),(1,some 1),(4,some 10),(5,some 16)] (R4 (AI (AI rfl TV) (R4 TV)))
   have hz := someE hF
   subst hz
   refine E4 [(0,some 0),(1,some 1),(4,some 10),(5,some 11)] (R4 (AI (AI rfl TV) (R4 TV)))
  refine AI (OL ?_) TV
  obtain ⟨r6,hr6,hF⟩ := bindE hF
  refine OL (AI f71_in (callV0 (callI C71 (z4.2.2.2.2,z4.2.1,z4.2.2.1,z4.2.2.2.1,(4:Int),r2.1,z4.1,(0:Int)) r6 [(0,some 0),(1,some 1),(2,some 5),(3,some 4)] false C71_holds hr6 rfl rfl (R4 (AI (fun h=>nomatch h) (R2 (AI (AI rfl TV) (AI (R4 TV) ?_))))))))
  obtain ⟨r7,hr7,hF⟩ := bindE hF
  refine OL (AI f71_in (callV0 (callI C71 (r6.2.2.2.2,r6.2.1,r6.2.2.1,r6.2.2.2.1,(8:Int),r6.1,(0:Int),(1:Int)) r7 [(0,some 0),(1,some 1),(2,some 10),(3,some 4)] false C71_holds hr7 rfl rfl (R4 (AI (fun h=>nomatch h) (R2 (AI (AI rfl TV) (AI (R4 TV) (OL ?_)))))))))
  obtain ⟨r8,hr8,hF⟩ := bindE hF
  refine OL (AI f71_in (callV0 (callI C71 (r7.2.2.2.2,r7.2.1,r7.2.2.1,r7.2.2.2.1,(2:Int),r7.1,r2.2.1,(0:Int)) r8 [(0,some 0),(1,some 1),(2,some 15),(3,some 4)] false C71_holds hr8 rfl rfl (R4 (AI (fun h=>nomatch h) (R2 (AI (AI rfl TV) (AI (R4 TV) ?_))))))))
  have hy := someE hF
  subst hy
  refine AI rfl (E4 [(0,some 0),(1,some 1),(4,some 4),(5,some 20)] (R2 (AI TV (R4 TV))))
 refine OL (condI hF (fun hF=>?_) (fun hF=>?_))
 ·refine OL ?_
  obtain ⟨r9,hr9,hF⟩ := bindE hF
  refine OL (AI f71_in (callV0 (callI C71 (r2.2.2.2.2.2,r2.2.2.1,r2.2.2.2.1,r2.2.2.2.2.1,(12:Int),x_,r2.1,(1:Int)) r9 [(0,some 0),(1,some 1),(2,some 11),(3,some 10)] false C71_holds hr9 rfl rfl (R4 (AI (fun h=>nomatch h) (R2 (AI (AI rfl TV) (AI (R4 TV) ?_))))))))
  have hy := someE hF
  subst hy
  refine AI rfl (E4 [(0,some 0),(1,some 1),(4,some 10),(5,some 16)] (R2 (AI TV (R4 TV))))
 refine OL (condI hF (fun hF=>?_) (fun hF=>?_))
 ·refine OL ?_
  obtain ⟨r10,hr10,hF⟩ := bindE hF
  refine OL (AI f71_in (callV0 (callI C71 (r2.2.2.2.2.2,r2.2.2.1,r2.2.2.2.1,r2.2.2.2.2.1,(13:Int),x_,(0:Int),l.2.1) r10 [(0,some 0),(1,some 1),(2,some 11),(3,some 10)] false C71_holds hr10 rfl rfl (R4 (AI (fun h=>nomatch h) (R2 (AI (AI rfl TV) (AI (R4 TV) ?_))))))))
  have hy := someE hF
  subst hy
  refine AI rfl (E4 [(0,some 0),(1,some 1),(4,some 10),(5,some 16)] (R2 (AI TV (R4 TV))))
 refine OL (condI hF (fun hF=>?_) (fun hF=>?_))
 ·refine OL ?_
  obtain ⟨r11,hr11,hF⟩ := bindE hF
  refine OL (AI f71_in (callV0 (callI C71 (r2.2.2.2.2.2,r2.2.2.1,r2.2.2.2.1,r2.2.2.2.2.1,(11:Int),x_,(0:Int),l.2.1) r11 [(0,some 0),(1,some 1),(2,some 11),(3,some 10)] false C71_holds hr11 rfl rfl (R4 (AI (fun h=>nomatch h) (R2 (AI (AI rfl TV) (AI (R4 TV) ?_))))))))
  have hy := someE hF
  subst hy
  refine AI rfl (E4 [(0,some 0),(1,some 1),(4,some 10),(5,some 16)] (R2 (AI TV (R4 TV))))
 refine OL ?_
 obtain ⟨r12,hr12,hF⟩ := bindE hF
 refine OL (AI f71_in (callV0 (callI C71 (r2.2.2.2.2.2,r2.2.2.1,r2.2.2.2.1,r2.2.2.2.2.1,(2:Int),ahead,x_,(0:Int)) r12 [(0,some 0),(1,some 1),(2,some 11),(3,some 10)] false C71_holds hr12 rfl rfl (R4 (AI (fun h=>nomatch h) (R2 (AI (AI rfl TV) (AI (R4 TV) ?_))))))))
 have hy := someE hF
 subst hy
 refine AI rfl (E4 [(0,some 0),(1,some 1),(4,some 10),(5,some 16)] (R2 (AI TV (R4 TV))))
theorem C44_holds : C44.Holds Tryz.prog 44 := holds_of_vc tab_ok mixed (fn := Tryz.f44) (by kernel_rfl) rfl C44 (fun x y hF=>C44_vc x.1 x.2.1 x.2.2.1 x.2.2.2.1 x.2.2.2.2.1 x.2.2.2.2.2.1 x.2.2.2.2.2.2.1 x.2.2.2.2.2.2.2 y hF)
theorem f44_in : InP 44 := ⟨Tryz.f44,by kernel_rfl,by kernel_rfl,by kernel_rfl⟩
def f45 (t_l : List (Int×Int×Int×Int×(List Int)×(List Int))) (n:Int) : Option (List (Int×Int×Int×Int×(List Int)×(List Int))) :=
 guardF (0 ≤ (if (List.length t_l:Int) < (if (0:Int) > n then (0:Int) else n) then (List.length t_l:Int) else (if (0:Int) > n then (0:Int) else n)) ∧ (if (List.length t_l:Int) < (if (0:Int) > n then (0:Int) else n) then (List.length t_l:Int) else (if (0:Int) > n then (0:Int) else n)) ≤ (List.length t_l:Int)) <|
 some (List.take (Int.toNat (if (List.length t_l:Int) < (if (0:Int) > n then (0:Int) else n) then (List.length t_l:Int) else (if (0:Int) > n then (0:Int) else n))) t_l)
def C45 : Con where
 X := (List (Int×Int×Int×Int×(List Int)×(List Int)))×Int
 Y := List (Int×Int×Int×Int×(List Int)×(List Int))
 e := 2
 args x := [P0 0 0,.dat T1 x.2]
 hin x := [(0,.cells [(.osl 1)]),(1,.arr 61 T8 x.1)]
 F x := f45 x.1 x.2
 ret y := []
 hout y := [(0,.cells [(.osl 2)]),(2,.arr 61 T8 y)]
 nout := 3
theorem C45_vc (t_l : List (Int×Int×Int×Int×(List Int)×(List Int))) (n:Int) (y : List (Int×Int×Int×Int×(List Int)×(List Int))) (hF : f45 t_l n = some y) : vc Tryz.prog tab Tryz.f45.ntmps 2 (match Tryz.f45.body with | some c=>c | none=>.skip) (retK tab C45 Tryz.f45.results.toList y) (C45.shIn (t_l,n)).st := by
 unfold f45 at hF
 refine EI (.take 0 (.take 1 (.take 2 (.take 3 (.take 4 (.take 5 (.take 6 (.take 7 (.take 8 (.take 9 (.take 10 (.take 11 (.take 12 (.alt 13 (.take 14 (.take 15 (.alt 16 .done .done))) .done)))))))))))))) (EI [(16,[0])] (EI [] (AI rfl (AI TV (OQ (OQ (guardI hF (fun hF=>?_))))))))
 refine AI TV (OL ?_)
 have hy := someE hF
 subst hy
 refine AI rfl (E4 [(0,some 0),(2,some 2)] (AI rfl (AI TV (R2 TV))))
theorem C45_holds : C45.Holds Tryz.prog 45 := holds_of_vc tab_ok mixed (fn := Tryz.f45) (by kernel_rfl) rfl C45 (fun x y hF=>C45_vc x.1 x.2 y hF)
theorem f45_in : InP 45 := ⟨Tryz.f45,by kernel_rfl,by kernel_rfl,by kernel_rfl⟩
def f21_j3 (n : (List Int)×(List (ByteArray×Int×Int))) (p_ : List Int) (x_ : List Int) (r1 : Int×Bool) : Option Bool :=
 bif ((List.length p_:Int) != r1.1) then
 some true
 else
 bindF (f42 n.1) fun r8 =>
 some ((List.length x_:Int) != r8)
def f21_j2 (n : (List Int)×(List (ByteArray×Int×Int))) (p_ : List Int) (x_ : List Int) (r1 : Int×Bool) : Option (Sum Unit Unit) :=
 bindF (f21_j3 n p_ x_ r1) fun z7 =>
 bif z7 then
 some (Sum.inr ())
 else
 some (Sum.inl ())
def f21_l4 (n : (List Int)×(List (ByteArray×Int×Int))) (q18_7 : Int×(List (List Int))) (go : (Int×Int×Int×Int×(List Int)×(List (Int×Int×Int×Int×(List Int)×(List Int)))×(List Int)) → Option (Int×Int×(List Int)×(List (Int×Int×Int×Int×(List Int)×(List Int)))×(List Int))) (at_:Int) (ahead:Int) (v62:Int) (c3_1:Int) (c3_2 : List Int) (l4 : List (Int×Int×Int×Int×(List Int)×(List Int))) (l5 : List Int) : Option (Int×Int×(List Int)×(List (Int×Int×Int×Int×(List Int)×(List Int)))×(List Int)) :=
 bif (decide (v62 < (List.length n.2:Int))) then
 guardF (0 ≤ v62 ∧ v62 < (List.length n.2:Int)) <|
 guardF (0 ≤ v62 ∧ v62 < (List.length q18_7.2:Int)) <|
 bindF (f44 l4 c3_1 c3_2 l5 ((rd (Ty.z T3) n.2 v62).1,((rd (Ty.z T3) n.2 v62).2).1,((rd (Ty.z T3) n.2 v62).2).2) (rd (Ty.z T6) q18_7.2 v62) at_ ahead) fun q12_8 =>
 go (q12_8.1,at_,(i64.wrap (v62 + (1:Int))),q12_8.2.1,q12_8.2.2.1,q12_8.2.2.2.2,q12_8.2.2.2.1)
 else
 some (at_,c3_1,c3_2,l4,l5)
def f21 (t_l : List (Int×Int×Int×Int×(List Int)×(List Int))) (n : (List Int)×(List (ByteArray×Int×Int))) (p_ : List Int) (x_ : List Int) : Option (Int×Int×(List Int)×(List (Int×Int×Int×Int×(List Int)×(List Int)))) :=
 bindF (f11 (n.1,n.2)) fun q18_7 =>
 bif (q18_7.1 != (0:Int)) then
 some ((0:Int),q18_7.1,[],t_l)
 else
 bindF (f36 (n.1,n.2) q18_7.2) fun r1 =>
 bindF (f21_j2 n p_ x_ r1) fun z5 =>
 sumF z5 (fun z5a =>
 bindF (f25 t_l) fun r9 =>
 bindF (f43 r9.2 (0:Int) p_ ([]) n.1 x_) fun r10 =>
 bindF (loopF (fun go x=>f21_l4 n q18_7 go x.1 x.2.1 x.2.2.1 x.2.2.2.1 x.2.2.2.2.1 x.2.2.2.2.2.1 x.2.2.2.2.2.2) fuelN (r10.1,(0:Int),(0:Int),r10.2.1,r10.2.2.1,r10.2.2.2.2,r10.2.2.2.1)) fun z11 =>
 bif (z11.2.1 != (0:Int)) then
 bindF (f45 z11.2.2.2.1 r9.1) fun q12_9 =>
 some ((0:Int),z11.2.1,[],q12_9)
 else
 some (z11.1,(0:Int),z11.2.2.2.2,z11.2.2.2.1)) (fun z5b =>
 some ((0:Int),(1:Int),[],t_l))
def C21 : Con where
 X := (List (Int×Int×Int×Int×(List Int)×(List Int)))×((List Int)×(List (ByteArray×Int×Int)))×(List Int)×(List Int)
 Y := Int×Int×(List Int)×(List (Int×Int×Int×Int×(List Int)×(List Int)))
 e := 2
 args x := [P0 0 0,.dat T4 x.2.1,.dat T6 x.2.2.1,.dat T6 x.2.2.2]
 hin x := [(0,.cells [(.osl 1)]),(1,.arr 61 T8 x.1)]
 F x := f21 x.1 x.2.1 x.2.2.1 x.2.2.2
 ret y := [.dat T1 y.1,O0 2,.dat T1 y.2.1]
 hout y := [(0,.cells [(.osl 3)]),(2,.arr 3 T1 y.2.2.1),(3,.arr 61 T8 y.2.2.2)]
 nout := 4
theorem C21_vc (t_l : List (Int×Int×Int×Int×(List Int)×(List Int))) (n : (List Int)×(List (ByteArray×Int×Int))) (p_ : List Int) (x_ : List Int) (y : Int×Int×(List Int)×(List (Int×Int×Int×Int×(List Int)×(List Int)))) (hF : f21 t_l n p_ x_ = some y) : vc Tryz.prog tab Tryz.f21.ntmps 2 (match Tryz.f21.body with | some c=>c | none=>.skip) (retK tab C21 Tryz.f21.results.toList y) (C21.shIn (t_l,n,p_,x_)).st := by
 unfold f21 at hF
 refine OL (OL ?_)
 obtain ⟨q18_7,hq18_7,hF⟩ := bindE hF
 refine OL (AI f11_in (callV0 (callI C11 (n.1,n.2) q18_7 [] false C11_holds hq18_7 rfl rfl (R2 (AI (fun h=>nomatch h) (R2 (AI TV (AI TV (OL (OL (condI hF (fun hF=>?_) (fun hF=>?_))))))))))))
 ·refine OL ?_
  have hy := someE hF
  subst hy
  refine AI rfl (E4 [(0,some 0),(2,none),(3,some 1)] (R3 (AI (AI rfl TV) (R3 TV))))
 refine OL ?_
 obtain ⟨r1,hr1,hF⟩ := bindE hF
 refine OL (AI f36_in (callV0 (callI C36 ((n.1,n.2),q18_7.2) r1 [] true C36_holds hr1 rfl rfl (R3 (AI (fun _=>rfl) (R2 (AI TV (AI TV ?_))))))))
 obtain ⟨z5,hz5,hF⟩ := bindE hF
 refine OQ ⟨Sum.elim (fun z5a=>[(0,⟨[(0,P0 0 0),(2,.dat T6 p_),(3,.dat T6 x_),(5,P0 2 0),(11,O0 3)],[(0,.cells [(.osl 1)]),(1,.arr 61 T8 t_l),(2,.cells [(.d T6 n.1),(.d T5 n.2)]),(3,.arr 23 T6 q18_7.2)],4⟩)]) (fun z5b=>[(1,⟨[(8,D0 0),(9,.raw false [N0]),(10,D0 1)],[(0,.cells [(.osl 1)]),(1,.arr 61 T8 t_l)],2⟩)]) z5,?_,?_⟩
 ·have hF := hz5
  clear hz5
  unfold f21_j2 at hF
  obtain ⟨z7,hz7,hF⟩ := bindE hF
  refine OQ ⟨[(0,⟨[(0,P0 0 0),(2,.dat T6 p_),(3,.dat T6 x_),(5,P0 2 0),(11,O0 3),(47,.dat .bool z7)],[(0,.cells [(.osl 1)]),(1,.arr 61 T8 t_l),(2,.cells [(.d T6 n.1),(.d T5 n.2)]),(3,.arr 23 T6 q18_7.2)],4⟩)],?_,?_⟩
  ·have hF := hz7
   clear hz7
   unfold f21_j3 at hF
   refine condN hF (fun hF=>?_) (fun hF=>?_)
   ·refine gdYF (gdYF (gdYF (gdYF ?_)))
    obtain ⟨r8,hr8,hF⟩ := bindE hF
    refine OL (AI f42_in (callV0 (callI C42 n.1 r8 [] false C42_holds hr8 rfl rfl (AI rfl (AI (fun h=>nomatch h) (R2 (AI TV (AI TV (gdYF (condF ?_))))))))))
    have hz := someE hF
    subst hz
    refine E4 [(0,some 0),(1,some 1),(2,some 2),(3,some 3)] (R4 (AI (R3 TV) (R4 TV)))
   refine gdNF (gdNF (gdNF (gdNF (gdNF (condT ?_)))))
   have hz := someE hF
   subst hz
   refine E4 [(0,some 0),(1,some 1),(2,some 2),(3,some 3)] (R4 (AI (R3 TV) (R4 TV)))
  refine AI (condI hF (fun hF=>?_) (fun hF=>?_)) TV
  ·refine OL ?_
   have hz := someE hF
   subst hz
   refine E4 [(0,some 0),(1,some 1)] (R3 (AI (AI rfl TV) (R2 TV)))
  have hz := someE hF
  subst hz
  refine E4 [(0,some 0),(1,some 1),(2,some 2),(3,some 3)] (R3 (AI (R3 TV) (R4 TV)))
 rcases z5 with z5a | z5b
 ·dsimp only [sumF] at hF
  refine AI (OL ?_) TV
  obtain ⟨r9,hr9,hF⟩ := bindE hF
  refine OL (AI f25_in (callV0 (callI C25 t_l r9 [(0,some 0),(1,some 1)] false C25_holds hr9 rfl rfl (AI (fun h=>nomatch h) (R2 (AI (AI rfl TV) (AI (R2 TV) (OL ?_))))))))
  obtain ⟨r10,hr10,hF⟩ := bindE hF
  refine OL (AI f43_in (callVn [(4,3,3,T1)] (virtI rfl rfl (virt0 (callI C43 (r9.2,(0:Int),p_,[],n.1,x_) r10 [(0,some 4),(1,some 0),(2,some 1),(3,some 7)] false C43_holds hr10 rfl rfl (R2 (AI (fun h=>nomatch h) (R2 (AI (AI rfl TV) (AI (R4 TV) (OL (OL ?_))))))))))))
  obtain ⟨z11,hz11,hF⟩ := bindE hF
  refine loopI (Int×Int×Int×Int×(List Int)×(List (Int×Int×Int×Int×(List Int)×(List Int)))×(List Int)) (Int×Int×(List Int)×(List (Int×Int×Int×Int×(List Int)×(List Int)))×(List Int)) (fun x=>⟨[(0,P0 0 0),(11,O0 2),(15,P0 3 0),(16,.dat T1 r9.1),(17,.dat T1 x.1),(18,.dat T1 x.2.1),(60,.dat T5 n.2),(61,.dat T1 (List.length n.2:Int)),(62,.dat T1 x.2.2.1)],[(0,.cells [(.osl 4)]),(2,.arr 23 T6 q18_7.2),(3,.cells [(.ptr 0 0),(.d T1 x.2.2.2.1),(.d T6 x.2.2.2.2.1),(.osl 5)]),(4,.arr 61 T8 x.2.2.2.2.2.1),(5,.arr 3 T1 x.2.2.2.2.2.2)],6⟩) (fun z=>[(2,⟨[(0,P0 0 0),(15,P0 2 0),(16,.dat T1 r9.1),(17,.dat T1 z.1)],[(0,.cells [(.osl 3)]),(2,.cells [(.ptr 0 0),(.d T1 z.2.1),(.d T6 z.2.2.1),(.osl 4)]),(3,.arr 61 T8 z.2.2.2.1),(4,.arr 3 T1 z.2.2.2.2)],5⟩)]) (loopF (fun go x=>f21_l4 n q18_7 go x.1 x.2.1 x.2.2.1 x.2.2.2.1 x.2.2.2.2.1 x.2.2.2.2.2.1 x.2.2.2.2.2.2)) fuelN (r10.1,(0:Int),(0:Int),r10.2.1,r10.2.2.1,r10.2.2.2.2,r10.2.2.2.1) z11 (AI hz11 (AI (E4 [(0,some 0),(2,some 3),(3,some 4),(4,some 12),(5,some 7)] (R7 (AI (R3 TV) (R5 TV)))) (AI (fun _ _ h=>loopZ h) (AI (fun m=>curI (fun at_=>curI (fun ahead=>curI (fun v62=>curI (fun c3_1=>curI (fun c3_2=>curI (fun l4=>fun l5 z hF=>?_))))))) ?_))))
  ·have hF : f21_l4 n q18_7 (loopF (fun go x=>f21_l4 n q18_7 go x.1 x.2.1 x.2.2.1 x.2.2.2.1 x.2.2.2.2.1 x.2.2.2.2.2.1 x.2.2.2.2.2.2) m) at_ ahead v62 c3_1 c3_2 l4 l5 = some z := hF
   unfold f21_l4 at hF
   refine OL (OL (condI hF (fun hF=>?_) (fun hF=>?_)))
   ·refine OL (OL (guardI hF (fun hF=>?_)))
    refine OL (OL (EI (.take 0 (.take 1 (.take 2 (.take 3 (.take 4 (.take 5 (.take 6 (.take 7 (.alt 8 (.take 9 .done) .done))))))))) (EI [] (EI [] (AI rfl (guardI hF (fun hF=>?_)))))))
    refine AI TV ?_
    obtain ⟨q12_8,hq12_8,hF⟩ := bindE hF
    refine OL (AI f44_in (callV0 (callI C44 (l4,c3_1,c3_2,l5,((rd (Ty.z T3) n.2 v62).1,((rd (Ty.z T3) n.2 v62).2).1,((rd (Ty.z T3) n.2 v62).2).2),(rd (Ty.z T6) q18_7.2 v62),at_,ahead) q12_8 [(0,some 3),(1,some 0),(2,some 4),(3,some 5)] false C44_holds hq12_8 rfl rfl (R5 (AI (fun h=>nomatch h) (R2 (AI (AI rfl TV) (AI (R4 TV) (EI (q12_8.1,at_,(i64.wrap (v62 + (1:Int))),q12_8.2.1,q12_8.2.2.1,q12_8.2.2.2.2,q12_8.2.2.2.1) (AI hF (E4 [(0,some 0),(2,some 2),(3,some 3),(4,some 12),(5,some 11)] (R7 (AI (R3 TV) (R5 TV))))))))))))))
   have hz := someE hF
   subst hz
   refine E4 [(0,some 0),(2,some 3),(3,some 4),(4,some 5)] (R3 (AI (R2 TV) (R4 TV)))
  refine AI (OL (OL (condI hF (fun hF=>?_) (fun hF=>?_)))) TV
  ·refine OL ?_
   obtain ⟨q12_9,hq12_9,hF⟩ := bindE hF
   refine OL (AI f45_in (callV0 (callI C45 (z11.2.2.2.1,r9.1) q12_9 [(0,some 0),(1,some 3)] false C45_holds hq12_9 rfl rfl (AI rfl (AI (fun h=>nomatch h) (R2 (AI (AI rfl TV) (AI (R2 TV) (OL (EI (.take 0 (.take 1 (.take 2 (.take 3 (.take 4 (.take 5 (.take 6 .done))))))) (EI [] (EI [] (AI rfl ?_)))))))))))))
   have hy := someE hF
   subst hy
   refine AI rfl (E4 [(0,some 0),(2,none),(3,some 7)] (R3 (AI (AI rfl TV) (R3 TV))))
  refine OL (EI (.take 0 (.take 1 (.take 2 (.take 3 (.take 4 (.take 5 (.take 6 (.take 7 .done)))))))) (EI [] (EI [] (AI rfl ?_))))
  have hy := someE hF
  subst hy
  refine AI rfl (E4 [(0,some 0),(2,some 4),(3,some 3)] (R3 (AI (AI rfl TV) (R3 TV))))
 dsimp only [sumF] at hF
 refine AI ?_ TV
 have hy := someE hF
 subst hy
 refine AI rfl (E4 [(0,some 0),(2,none),(3,some 1)] (R3 (AI (AI rfl TV) (R3 TV))))
theorem C21_holds : C21.Holds Tryz.prog 21 := holds_of_vc tab_ok mixed (fn := Tryz.f21) (by kernel_rfl) rfl C21 (fun x y hF=>C21_vc x.1 x.2.1 x.2.2.1 x.2.2.2 y hF)
theorem f21_in : InP 21 := ⟨Tryz.f21,by kernel_rfl,by kernel_rfl,by kernel_rfl⟩
def f23 (t_l : List (Int×Int×Int×Int×(List Int)×(List Int))) (n:Int) : Option (Int×Int×Int×Int×Bool×(List Int)×(List Int)×(List (Int×Int×Int×Int×(List Int)×(List Int)))) :=
 bindF (f48 t_l n) fun r1 =>
 bif (!r1.1) then
 some ((0:Int),(0:Int),(0:Int),(0:Int),false,[],[],r1.2)
 else
 guardF (0 ≤ n ∧ n < (List.length r1.2:Int)) <|
 bindF (f49 ((((((rd (Ty.z T8) r1.2 n).2).2).2).2).1,(((((rd (Ty.z T8) r1.2 n).2).2).2).2).2)) fun r2 =>
 some ((rd (Ty.z T8) r1.2 n).1,((rd (Ty.z T8) r1.2 n).2).1,(((rd (Ty.z T8) r1.2 n).2).2).1,((((rd (Ty.z T8) r1.2 n).2).2).2).1,true,r2.1,r2.2,r1.2)
def C23 : Con where
 X := (List (Int×Int×Int×Int×(List Int)×(List Int)))×Int
 Y := Int×Int×Int×Int×Bool×(List Int)×(List Int)×(List (Int×Int×Int×Int×(List Int)×(List Int)))
 e := 2
 args x := [P0 0 0,.dat T1 x.2]
 hin x := [(0,.cells [(.osl 1)]),(1,.arr 61 T8 x.1)]
 F x := f23 x.1 x.2
 ret y := [.raw true [(.d T1 y.1),(.d T1 y.2.1),(.d T1 y.2.2.1),(.d T1 y.2.2.2.1),(.osl 2),(.osl 3)],.dat .bool y.2.2.2.2.1]
 hout y := [(0,.cells [(.osl 1)]),(1,.arr 61 T8 y.2.2.2.2.2.2.2),(2,.arr 3 T1 y.2.2.2.2.2.1),(3,.arr 57 T1 y.2.2.2.2.2.2.1)]
 nout := 4
theorem C23_vc (t_l : List (Int×Int×Int×Int×(List Int)×(List Int))) (n:Int) (y : Int×Int×Int×Int×Bool×(List Int)×(List Int)×(List (Int×Int×Int×Int×(List Int)×(List Int)))) (hF : f23 t_l n = some y) : vc Tryz.prog tab Tryz.f23.ntmps 2 (match Tryz.f23.body with | some c=>c | none=>.skip) (retK tab C23 Tryz.f23.results.toList y) (C23.shIn (t_l,n)).st := by
 unfold f23 at hF
 refine OL (OL (OL ?_))
 obtain ⟨r1,hr1,hF⟩ := bindE hF
 refine OL (AI f48_in (callV0 (callI C48 (t_l,n) r1 [(0,some 0),(1,some 1)] false C48_holds hr1 rfl rfl (AI rfl (AI (fun h=>nomatch h) (R2 (AI (AI rfl TV) (AI (R2 TV) (condI hF (fun hF=>?_) (fun hF=>?_))))))))))
 ·refine OL (OL ?_)
  have hy := someE hF
  subst hy
  refine AI rfl (E4 [(0,some 0),(1,some 1),(2,none),(3,none)] (R2 (AI (AI rfl TV) (R4 TV))))
 refine OL (guardI hF (fun hF=>?_))
 refine OL (OL ?_)
 obtain ⟨r2,hr2,hF⟩ := bindE hF
 refine OL (AI f49_in (callV0 (callI C49 ((((((rd (Ty.z T8) r1.2 n).2).2).2).2).1,(((((rd (Ty.z T8) r1.2 n).2).2).2).2).2) r2 [] false C49_holds hr2 rfl rfl (R2 (AI (fun h=>nomatch h) (R2 (AI TV (AI TV (OL (OL (OL ?_)))))))))))
 have hy := someE hF
 subst hy
 refine AI rfl (E4 [(0,some 0),(1,some 1),(2,some 6),(3,some 7)] (R2 (AI (AI rfl TV) (R4 TV))))
theorem C23_holds : C23.Holds Tryz.prog 23 := holds_of_vc tab_ok mixed (fn := Tryz.f23) (by kernel_rfl) rfl C23 (fun x y hF=>C23_vc x.1 x.2 y hF)
theorem f23_in : InP 23 := ⟨Tryz.f23,by kernel_rfl,by kernel_rfl,by kernel_rfl⟩
def f27 (t_l : List (Int×Int×Int×Int×(List Int)×(List Int))) (n:Int) : Option (Bool×(List Int)×(List Int)×(List (Int×Int×Int×Int×(List Int)×(List Int)))) :=
 bindF (f23 t_l n) fun r1 =>
 some (r1.2.2.2.2.1,r1.2.2.2.2.2.1,r1.2.2.2.2.2.2.1,r1.2.2.2.2.2.2.2)
def C27 : Con where
 X := (List (Int×Int×Int×Int×(List Int)×(List Int)))×Int
 Y := Bool×(List Int)×(List Int)×(List (Int×Int×Int×Int×(List Int)×(List Int)))
 e := 2
 args x := [P0 0 0,.dat T1 x.2]
 hin x := [(0,.cells [(.osl 1)]),(1,.arr 61 T8 x.1)]
 F x := f27 x.1 x.2
 ret y := [.raw true [(.osl 2),(.osl 3)],.dat .bool y.1]
 hout y := [(0,.cells [(.osl 1)]),(1,.arr 61 T8 y.2.2.2),(2,.arr 3 T1 y.2.1),(3,.arr 57 T1 y.2.2.1)]
 nout := 4
theorem C27_vc (t_l : List (Int×Int×Int×Int×(List Int)×(List Int))) (n:Int) (y : Bool×(List Int)×(List Int)×(List (Int×Int×Int×Int×(List Int)×(List Int)))) (hF : f27 t_l n = some y) : vc Tryz.prog tab Tryz.f27.ntmps 2 (match Tryz.f27.body with | some c=>c | none=>.skip) (retK tab C27 Tryz.f27.results.toList y) (C27.shIn (t_l,n)).st := by
 unfold f27 at hF
 refine OL (OL ?_)
 obtain ⟨r1,hr1,hF⟩ := bindE hF
 refine OL (AI f23_in (callV0 (callI C23 (t_l,n) r1 [(0,some 0),(1,some 1)] false C23_holds hr1 rfl rfl (AI rfl (AI (fun h=>nomatch h) (R2 (AI (AI rfl TV) (AI (R2 TV) (OL (OL (OL ?_)))))))))))
 have hy := someE hF
 subst hy
 refine AI rfl (E4 [(0,some 0),(1,some 1),(2,some 5),(3,some 6)] (R2 (AI (AI rfl TV) (R4 TV))))
theorem C27_holds : C27.Holds Tryz.prog 27 := holds_of_vc tab_ok mixed (fn := Tryz.f27) (by kernel_rfl) rfl C27 (fun x y hF=>C27_vc x.1 x.2 y hF)
theorem f27_in : InP 27 := ⟨Tryz.f27,by kernel_rfl,by kernel_rfl,by kernel_rfl⟩
def f66 (i:Int) : Option ByteArray :=
 itoaF4 i
def C66 : Con where
 X := Int
 Y := ByteArray
 e := 0
 args x := [.dat T1 x]
 hin x := []
 F x := f66 x
 ret y := [.dat .str y]
 hout y := []
 nout := 0
theorem C66_holds : C66.Holds Tryz.prog 66 := itoa4_holds Tryz.laysM171 (g := 0) (by kernel_rfl) (List.Mem.head _)
theorem f66_in : InP 66 := ⟨Tryz.f66,by kernel_rfl,by kernel_rfl,by kernel_rfl⟩
def f37_l1 (l : List Int) (go : (ByteArray×Int) → Option ByteArray) (s : ByteArray) (v8:Int) : Option ByteArray :=
 bif (decide (v8 < (List.length l:Int))) then
 guardF (0 ≤ v8 ∧ v8 < (List.length l:Int)) <|
 bindF (f66 (rd (0:Int) l v8)) fun r4 =>
 guardF (((ByteArray.size (ByteArray.mk #[32]) + ByteArray.size r4 : Nat):Int) ≤ 140737488355328) <|
 guardF (((ByteArray.size s + ByteArray.size ((ByteArray.mk #[32]) ++ r4) : Nat):Int) ≤ 140737488355328) <|
 go ((s ++ ((ByteArray.mk #[32]) ++ r4)),(i64.wrap (v8 + (1:Int))))
 else
 some s
def f37 (l : List Int) : Option ByteArray :=
 bindF (loopF (fun go x=>f37_l1 l go x.1 x.2) fuelN ((ByteArray.mk #[]),(0:Int))) fun z3 =>
 some z3
def C37 : Con where
 X := List Int
 Y := ByteArray
 e := 0
 args x := [.dat T6 x]
 hin x := []
 F x := f37 x
 ret y := [.dat .str y]
 hout y := []
 nout := 0
theorem C37_vc (l : List Int) (y : ByteArray) (hF : f37 l = some y) : VC Tryz.f37 C37 l y := by
 unfold f37 at hF
 refine OL (OL (OL (OL ?_)))
 obtain ⟨z3,hz3,hF⟩ := bindE hF
 refine loopI (ByteArray×Int) ByteArray (fun x=>⟨[(3,.dat .str x.1),(6,.dat T6 l),(7,.dat T1 (List.length l:Int)),(8,.dat T1 x.2)],[],0⟩) (fun z=>[(2,⟨[(3,.dat .str z)],[],0⟩)]) (loopF (fun go x=>f37_l1 l go x.1 x.2)) fuelN ((ByteArray.mk #[]),(0:Int)) z3 (AI hz3 (AI (E4 [] (R5 (AI TV TV))) (AI (fun _ _ h=>loopZ h) (AI (fun m=>curI (fun s=>fun v8 z hF=>?_)) ?_))))
 ·have hF : f37_l1 l (loopF (fun go x=>f37_l1 l go x.1 x.2) m) s v8 = some z := hF
  unfold f37_l1 at hF
  refine OL (OL (condI hF (fun hF=>?_) (fun hF=>?_)))
  ·refine OL (OL (guardI hF (fun hF=>?_)))
   obtain ⟨r4,hr4,hF⟩ := bindE hF
   refine OL (AI f66_in (callV0 (callI C66 (rd (0:Int) l v8) r4 [] false C66_holds hr4 rfl rfl (AI rfl (AI (fun h=>nomatch h) (R2 (AI TV (AI TV (guardI hF (fun hF=>?_))))))))))
   refine guardI hF (fun hF=>?_)
   refine EI ((s ++ ((ByteArray.mk #[32]) ++ r4)),(i64.wrap (v8 + (1:Int)))) (AI hF (E4 [] (R5 (AI TV TV))))
  have hz := someE hF
  subst hz
  refine E4 [] (R2 (AI TV TV))
 refine AI (OL ?_) TV
 have hy := someE hF
 subst hy
 refine AI rfl (E4 [] (R2 (AI TV TV)))
theorem C37_holds : C37.Holds Tryz.prog 37 := holds_of_vc tab_ok mixed (fn := Tryz.f37) (by kernel_rfl) rfl C37 (fun x y hF=>C37_vc x y hF)
theorem f37_in : InP 37 := ⟨Tryz.f37,by kernel_rfl,by kernel_rfl,by kernel_rfl⟩
def f14_l1 (n : (List Int)×(List (ByteArray×Int×Int))) (go : (ByteArray×Int) → Option ByteArray) (s : ByteArray) (v22:Int) : Option ByteArray :=
 bif (decide (v22 < (List.length n.2:Int))) then
 guardF (0 ≤ v22 ∧ v22 < (List.length n.2:Int)) <|
 guardF (((ByteArray.size (ByteArray.mk #[32]) + ByteArray.size ((rd (Ty.z T3) n.2 v22).1) : Nat):Int) ≤ 140737488355328) <|
 bindF (f38 ((rd (Ty.z T3) n.2 v22).1)) fun q8_11 =>
 guardF (0 ≤ q8_11 ∧ q8_11 ≤ (List.length ([((rd (Ty.z T3) n.2 v22).2).1,((rd (Ty.z T3) n.2 v22).2).2]):Int)) <|
 bindF (f37 (List.take (Int.toNat q8_11) ([((rd (Ty.z T3) n.2 v22).2).1,((rd (Ty.z T3) n.2 v22).2).2]))) fun q8_13 =>
 guardF (((ByteArray.size ((ByteArray.mk #[32]) ++ ((rd (Ty.z T3) n.2 v22).1)) + ByteArray.size q8_13 : Nat):Int) ≤ 140737488355328) <|
 guardF (((ByteArray.size s + ByteArray.size (((ByteArray.mk #[32]) ++ ((rd (Ty.z T3) n.2 v22).1)) ++ q8_13) : Nat):Int) ≤ 140737488355328) <|
 go ((s ++ (((ByteArray.mk #[32]) ++ ((rd (Ty.z T3) n.2 v22).1)) ++ q8_13)),(i64.wrap (v22 + (1:Int))))
 else
 some s
def f14 (n : (List Int)×(List (ByteArray×Int×Int))) : Option ByteArray :=
 bindF (f11 (n.1,n.2)) fun q8_16 =>
 bif (q8_16.1 != (0:Int)) then
 some (ByteArray.mk #[])
 else
 bindF (f37 n.1) fun r1 =>
 guardF (((ByteArray.size (ByteArray.mk #[105,110]) + ByteArray.size r1 : Nat):Int) ≤ 140737488355328) <|
 bindF (loopF (fun go x=>f14_l1 n go x.1 x.2) fuelN (((ByteArray.mk #[105,110]) ++ r1),(0:Int))) fun z2 =>
 some z2
def C14 : Con where
 X := (List Int)×(List (ByteArray×Int×Int))
 Y := ByteArray
 e := 0
 args x := [.dat T4 x]
 hin x := []
 F x := f14 x
 ret y := [.dat .str y]
 hout y := []
 nout := 0
theorem C14_vc (n : (List Int)×(List (ByteArray×Int×Int))) (y : ByteArray) (hF : f14 n = some y) : VC Tryz.f14 C14 n y := by
 unfold f14 at hF
 refine OL (OL (OL ?_))
 obtain ⟨q8_16,hq8_16,hF⟩ := bindE hF
 refine OL (AI f11_in (callV0 (callI C11 (n.1,n.2) q8_16 [] false C11_holds hq8_16 rfl rfl (R2 (AI (fun h=>nomatch h) (R2 (AI TV (AI TV (OL (condI hF (fun hF=>?_) (fun hF=>?_)))))))))))
 ·refine OL ?_
  have hy := someE hF
  subst hy
  refine AI rfl (E4 [] (R2 (AI TV TV)))
 refine OL ?_
 obtain ⟨r1,hr1,hF⟩ := bindE hF
 refine OL (AI f37_in (callV0 (callI C37 n.1 r1 [] false C37_holds hr1 rfl rfl (AI rfl (AI (fun h=>nomatch h) (R2 (AI TV (AI TV (guardI hF (fun hF=>?_))))))))))
 refine OL (OL ?_)
 obtain ⟨z2,hz2,hF⟩ := bindE hF
 refine loopI (ByteArray×Int) ByteArray (fun x=>⟨[(5,.dat .str x.1),(20,.dat T5 n.2),(21,.dat T1 (List.length n.2:Int)),(22,.dat T1 x.2)],[],0⟩) (fun z=>[(2,⟨[(5,.dat .str z)],[],0⟩)]) (loopF (fun go x=>f14_l1 n go x.1 x.2)) fuelN (((ByteArray.mk #[105,110]) ++ r1),(0:Int)) z2 (AI hz2 (AI (E4 [] (R5 (AI TV TV))) (AI (fun _ _ h=>loopZ h) (AI (fun m=>curI (fun s=>fun v22 z hF=>?_)) ?_))))
 ·have hF : f14_l1 n (loopF (fun go x=>f14_l1 n go x.1 x.2) m) s v22 = some z := hF
  unfold f14_l1 at hF
  refine OL (OL (condI hF (fun hF=>?_) (fun hF=>?_)))
  ·refine OL (OL (guardI hF (fun hF=>?_)))
   refine OL ?_
   obtain ⟨g8_0,hF⟩ := guardE hF
   obtain ⟨q8_11,hq8_11,hF⟩ := bindE hF
   obtain ⟨g8_2,hF⟩ := guardE hF
   obtain ⟨q8_13,hq8_13,hF⟩ := bindE hF
   obtain ⟨g8_4,hF⟩ := guardE hF
   obtain ⟨g8_5,hF⟩ := guardE hF
   refine EI (.take 0 (.take 1 (.take 2 (.take 3 (.take 4 (.take 5 (.take 6 (.take 7 (.take 9 (.take 10 (.alt 8 (.alt 11 (.alt 12 (.alt 13 (.take 14 (.take 15 (.take 16 .done))) .done) .done) .done) (.alt 11 (.alt 8 (.alt 12 (.alt 13 (.take 14 (.take 15 (.take 16 .done))) .done) .done) .done) .done)))))))))))) (EI [] (EI [] (AI rfl (AI g8_0 (AI (AI TV ?_) ?_)))))
   ·refine OL (AI f38_in (callV0 (callI C38 (rd (Ty.z T3) n.2 v22).1 q8_11 [] false C38_holds hq8_11 rfl rfl (AI rfl (AI (fun h=>nomatch h) (R2 (AI TV (AI TV (AI TV (OL (AI TV (OL (AI g8_2 (AI TV (OL (AI f37_in (callV0 (callI C37 (List.take (Int.toNat q8_11) ([((rd (Ty.z T3) n.2 v22).2).1,((rd (Ty.z T3) n.2 v22).2).2])) q8_13 [] false C37_holds hq8_13 rfl rfl (AI rfl (AI (fun h=>nomatch h) (R2 (AI TV (AI TV (AI g8_4 (AI g8_5 (EI ((s ++ (((ByteArray.mk #[32]) ++ ((rd (Ty.z T3) n.2 v22).1)) ++ q8_13)),(i64.wrap (v22 + (1:Int)))) (AI hF (E4 [] (R5 (AI TV TV))))))))))))))))))))))))))))))
   refine OL (AI TV (OL (AI f38_in (callV0 (callI C38 (rd (Ty.z T3) n.2 v22).1 q8_11 [] false C38_holds hq8_11 rfl rfl (AI rfl (AI (fun h=>nomatch h) (R2 (AI TV (AI TV (AI TV (OL (AI g8_2 (AI TV (OL (AI f37_in (callV0 (callI C37 (List.take (Int.toNat q8_11) ([((rd (Ty.z T3) n.2 v22).2).1,((rd (Ty.z T3) n.2 v22).2).2])) q8_13 [] false C37_holds hq8_13 rfl rfl (AI rfl (AI (fun h=>nomatch h) (R2 (AI TV (AI TV (AI g8_4 (AI g8_5 (EI ((s ++ (((ByteArray.mk #[32]) ++ ((rd (Ty.z T3) n.2 v22).1)) ++ q8_13)),(i64.wrap (v22 + (1:Int)))) (AI hF (E4 [] (R5 (AI TV TV))))))))))))))))))))))))))))))
  have hz := someE hF
  subst hz
  refine E4 [] (R2 (AI TV TV))
 refine AI (OL ?_) TV
 have hy := someE hF
 subst hy
 refine AI rfl (E4 [] (R2 (AI TV TV)))
theorem C14_holds : C14.Holds Tryz.prog 14 := holds_of_vc tab_ok mixed (fn := Tryz.f14) (by kernel_rfl) rfl C14 (fun x y hF=>C14_vc x y hF)
theorem f14_in : InP 14 := ⟨Tryz.f14,by kernel_rfl,by kernel_rfl,by kernel_rfl⟩
def f9 : Option Bool :=
 bindF (f10 (ByteArray.mk #[105,110,32,50,32,100,101,110,115,101,32,49])) fun r1 =>
 bindF (f12 (r1.1.1,r1.1.2)) fun r2 =>
 bindF (f20) fun r3 =>
 bindF (f21 ([]) (r1.1.1,r1.1.2) ([(4294967296:Int),(8589934592:Int),(5:Int)]) ([(3:Int),(4:Int)])) fun r4 =>
 bindF (f27 r4.2.2.2 r4.1) fun r5 =>
 bif (r1.2 == (0:Int)) then
 bif (r2.2 == (0:Int)) then
 bif (r2.1 == (3:Int)) then
 bif (r4.2.1 == (0:Int)) then
 bif ((List.length r4.2.2.1:Int) == (2:Int)) then
 bif r5.1 then
 bif ((List.length r5.2.2.1:Int) == (1:Int)) then
 guardF (0 ≤ (0:Int) ∧ (0:Int) < (List.length r5.2.2.1:Int)) <|
 bif ((rd (0:Int) r5.2.2.1 (0:Int)) == (16:Int)) then
 bindF (f14 (r1.1.1,r1.1.2)) fun r6 =>
 some (ByteArray.toList r6 == ByteArray.toList (ByteArray.mk #[105,110,32,50,32,100,101,110,115,101,32,49]))
 else
 some false
 else
 some false
 else
 some false
 else
 some false
 else
 some false
 else
 some false
 else
 some false
 else
 some false
def C9 : Con where
 X := Unit
 Y := Bool
 e := 0
 args x := []
 hin x := []
 F x := f9
 ret y := [.dat .bool y]
 hout y := []
 nout := 0
theorem C9_vc (y : Bool) (hF : f9 = some y) : VC Tryz.f9 C9 () y := by
 unfold f9 at hF
 refine OL (OL ?_)
 obtain ⟨r1,hr1,hF⟩ := bindE hF
 refine OL (AI f10_in (callV0 (callI C10 (ByteArray.mk #[105,110,32,50,32,100,101,110,115,101,32,49]) r1 [] false C10_holds hr1 rfl rfl (AI rfl (AI (fun h=>nomatch h) (R2 (AI TV (AI TV (OL (OL ?_))))))))))
 obtain ⟨r2,hr2,hF⟩ := bindE hF
 refine OL (AI f12_in (callV0 (callI C12 (r1.1.1,r1.1.2) r2 [] false C12_holds hr2 rfl rfl (R2 (AI (fun h=>nomatch h) (R2 (AI TV (AI TV (OL ?_)))))))))
 obtain ⟨r3,hr3,hF⟩ := bindE hF
 refine OL (AI f20_in (callV0 (callI C20 () r3 [] false C20_holds hr3 rfl rfl (AI (fun h=>nomatch h) (R2 (AI TV (AI TV (OL (OL (OL ?_))))))))))
 obtain ⟨r4,hr4,hF⟩ := bindE hF
 refine OL (AI f21_in (callV0 (callI C21 ([],(r1.1.1,r1.1.2),[(4294967296:Int),(8589934592:Int),(5:Int)],[(3:Int),(4:Int)]) r4 [(0,some 1),(1,some 2)] false C21_holds hr4 rfl rfl (R4 (AI (fun h=>nomatch h) (R2 (AI (AI rfl TV) (AI (R2 TV) (OL ?_)))))))))
 obtain ⟨r5,hr5,hF⟩ := bindE hF
 refine OL (AI f27_in (callV0 (callI C27 (r4.2.2.2,r4.1) r5 [(0,some 1),(1,some 8)] false C27_holds hr5 rfl rfl (AI rfl (AI (fun h=>nomatch h) (R2 (AI (AI rfl TV) (AI (R2 TV) (OL (OL (condI hF (fun hF=>?_) (fun hF=>?_))))))))))))
 ·refine gdYT (condT (condI hF (fun hF=>?_) (fun hF=>?_)))
  ·refine gdYT (condT (condI hF (fun hF=>?_) (fun hF=>?_)))
   ·refine gdYT (condT (condI hF (fun hF=>?_) (fun hF=>?_)))
    ·refine gdYT (gdYT (condT (condI hF (fun hF=>?_) (fun hF=>?_))))
     ·refine condT (condI hF (fun hF=>?_) (fun hF=>?_))
      ·refine gdYT (gdYT (gdYT (condT (condI hF (fun hF=>?_) (fun hF=>?_)))))
       ·refine gdYT (gdYT (guardI hF (fun hF=>?_)))
        refine gdYT (gdYT (condT (condI hF (fun hF=>?_) (fun hF=>?_))))
        ·refine gdYT ?_
         obtain ⟨r6,hr6,hF⟩ := bindE hF
         refine OL (AI f14_in (callV0 (callI C14 (r1.1.1,r1.1.2) r6 [] false C14_holds hr6 rfl rfl (R2 (AI (fun h=>nomatch h) (R2 (AI TV (AI TV (gdYT (condT ?_))))))))))
         have hy := someE hF
         subst hy
         refine AI rfl (E4 [] (R2 (AI TV TV)))
        refine gdNT (gdNT (condF ?_))
        have hy := someE hF
        subst hy
        refine AI rfl (E4 [] (R2 (AI TV TV)))
       refine gdNT (gdNT (gdNT (gdNT (condF (gdNT (gdNT (gdNT (condF ?_))))))))
       have hy := someE hF
       subst hy
       refine AI rfl (E4 [] (R2 (AI TV TV)))
      refine gdNT (gdNT (gdNT (condF (gdNT (gdNT (gdNT (gdNT (gdNT (condF (gdNT (gdNT (gdNT (condF ?_)))))))))))))
      have hy := someE hF
      subst hy
      refine AI rfl (E4 [] (R2 (AI TV TV)))
     refine condF (gdNT (gdNT (gdNT (gdNT (condF (gdNT (gdNT (gdNT (gdNT (gdNT (condF (gdNT (gdNT (gdNT (condF ?_)))))))))))))))
     have hy := someE hF
     subst hy
     refine AI rfl (E4 [] (R2 (AI TV TV)))
    refine gdNT (gdNT (condF (gdNT (condF (gdNT (gdNT (gdNT (gdNT (condF (gdNT (gdNT (gdNT (gdNT (gdNT (condF (gdNT (gdNT (gdNT (condF ?_)))))))))))))))))))
    have hy := someE hF
    subst hy
    refine AI rfl (E4 [] (R2 (AI TV TV)))
   refine gdNT (condF (gdNT (gdNT (gdNT (condF (gdNT (condF (gdNT (gdNT (gdNT (gdNT (condF (gdNT (gdNT (gdNT (gdNT (gdNT (condF (gdNT (gdNT (gdNT (condF ?_))))))))))))))))))))))
   have hy := someE hF
   subst hy
   refine AI rfl (E4 [] (R2 (AI TV TV)))
  refine gdNT (condF (gdNT (gdNT (condF (gdNT (gdNT (gdNT (condF (gdNT (condF (gdNT (gdNT (gdNT (gdNT (condF (gdNT (gdNT (gdNT (gdNT (gdNT (condF (gdNT (gdNT (gdNT (condF ?_)))))))))))))))))))))))))
  have hy := someE hF
  subst hy
  refine AI rfl (E4 [] (R2 (AI TV TV)))
 refine gdNT (condF (gdNT (gdNT (condF (gdNT (gdNT (condF (gdNT (gdNT (gdNT (condF (gdNT (condF (gdNT (gdNT (gdNT (gdNT (condF (gdNT (gdNT (gdNT (gdNT (gdNT (condF (gdNT (gdNT (gdNT (condF ?_))))))))))))))))))))))))))))
 have hy := someE hF
 subst hy
 refine AI rfl (E4 [] (R2 (AI TV TV)))
theorem C9_holds : C9.Holds Tryz.prog 9 := holds_of_vc tab_ok mixed (fn := Tryz.f9) (by kernel_rfl) rfl C9 (fun x y hF=>C9_vc y hF)
theorem f9_in : InP 9 := ⟨Tryz.f9,by kernel_rfl,by kernel_rfl,by kernel_rfl⟩
def f13_l1 (a : List Int) (b : List Int) (go : Int → Option (Sum Unit Unit)) (i:Int) : Option (Sum Unit Unit) :=
 bif (decide (i < (List.length a:Int))) then
 guardF (0 ≤ i ∧ i < (List.length a:Int)) <|
 guardF (0 ≤ i ∧ i < (List.length b:Int)) <|
 bif ((rd (0:Int) a i) != (rd (0:Int) b i)) then
 some (Sum.inl ())
 else
 go (i64.wrap (i + (1:Int)))
 else
 some (Sum.inr ())
def f13 (a : List Int) (b : List Int) : Option Bool :=
 bif ((List.length a:Int) != (List.length b:Int)) then
 some false
 else
 bindF (loopF (fun go x=>f13_l1 a b go x) fuelN (0:Int)) fun z1 =>
 sumF z1 (fun z1a =>
 some false) (fun z1b =>
 some true)
def C13 : Con where
 X := (List Int)×(List Int)
 Y := Bool
 e := 0
 args x := [.dat T6 x.1,.dat T6 x.2]
 hin x := []
 F x := f13 x.1 x.2
 ret y := [.dat .bool y]
 hout y := []
 nout := 0
theorem C13_vc (a : List Int) (b : List Int) (y : Bool) (hF : f13 a b = some y) : VC Tryz.f13 C13 (a,b) y := by
 unfold f13 at hF
 refine OL (OL (OL (condI hF (fun hF=>?_) (fun hF=>?_))))
 ·refine OL ?_
  have hy := someE hF
  subst hy
  refine AI rfl (E4 [] (R2 (AI TV TV)))
 refine OL (OL ?_)
 obtain ⟨z1,hz1,hF⟩ := bindE hF
 refine loopI Int (Sum Unit Unit) (fun x=>⟨[(0,.dat T6 a),(1,.dat T6 b),(5,.dat T1 x)],[],0⟩) (fun z=>Sum.elim (fun za=>[(1,⟨[(4,.dat .bool false)],[],0⟩)]) (fun zb=>[(2,⟨[],[],0⟩)]) z) (loopF (fun go x=>f13_l1 a b go x)) fuelN (0:Int) z1 (AI hz1 (AI (E4 [] (R4 (AI TV TV))) (AI (fun _ _ h=>loopZ h) (AI (fun m=>fun i z hF=>?_) ?_))))
 ·have hF : f13_l1 a b (loopF (fun go x=>f13_l1 a b go x) m) i = some z := hF
  unfold f13_l1 at hF
  refine OL (OL (condI hF (fun hF=>?_) (fun hF=>?_)))
  ·refine OL (OL (EI (.take 0 (.take 1 (.take 2 (.take 3 (.take 4 (.take 5 (.take 6 (.take 7 (.take 8 .done))))))))) (EI [] (EI [] (AI rfl (guardI hF (fun hF=>?_)))))))
   refine guardI hF (fun hF=>?_)
   refine condI hF (fun hF=>?_) (fun hF=>?_)
   ·refine OL ?_
    have hz := someE hF
    subst hz
    refine E4 [] (R2 (AI TV TV))
   refine EI (i64.wrap (i + (1:Int))) (AI hF (E4 [] (R4 (AI TV TV))))
  have hz := someE hF
  subst hz
  refine E4 [] (AI rfl (AI TV TV))
 rcases z1 with z1a | z1b
 ·dsimp only [sumF] at hF
  refine AI ?_ TV
  have hy := someE hF
  subst hy
  refine AI rfl (E4 [] (R2 (AI TV TV)))
 dsimp only [sumF] at hF
 refine AI (OL ?_) TV
 have hy := someE hF
 subst hy
 refine AI rfl (E4 [] (R2 (AI TV TV)))
theorem C13_holds : C13.Holds Tryz.prog 13 := holds_of_vc tab_ok mixed (fn := Tryz.f13) (by kernel_rfl) rfl C13 (fun x y hF=>C13_vc x.1 x.2 y hF)
theorem f13_in : InP 13 := ⟨Tryz.f13,by kernel_rfl,by kernel_rfl,by kernel_rfl⟩
def f16_l1 (n : (List Int)×(List (ByteArray×Int×Int))) (go : (Int×(List (ByteArray×Int×Int))) → Option (List (ByteArray×Int×Int))) (i:Int) (l3 : List (ByteArray×Int×Int)) : Option (List (ByteArray×Int×Int)) :=
 bif (decide (i < (List.length n.2:Int))) then
 guardF (0 ≤ i ∧ i < (List.length n.2:Int)) <|
 guardF (0 ≤ i ∧ i < (List.length n.2:Int)) <|
 guardF (0 ≤ i ∧ i < (List.length n.2:Int)) <|
 guardF ((List.length l3 + List.length ([((rd (Ty.z T3) n.2 i).1,((rd (Ty.z T3) n.2 i).2).1,((rd (Ty.z T3) n.2 i).2).2)])) * 32 ≤ 140737488355328) <|
 go ((i64.wrap (i + (1:Int))),(l3 ++ ([((rd (Ty.z T3) n.2 i).1,((rd (Ty.z T3) n.2 i).2).1,((rd (Ty.z T3) n.2 i).2).2)])))
 else
 some l3
def f16 (n : (List Int)×(List (ByteArray×Int×Int))) : Option ((List Int)×(List (ByteArray×Int×Int))) :=
 bindF (loopF (fun go x=>f16_l1 n go x.1 x.2) fuelN ((0:Int),[])) fun z1 =>
 some (n.1,z1)
def C16 : Con where
 X := (List Int)×(List (ByteArray×Int×Int))
 Y := (List Int)×(List (ByteArray×Int×Int))
 e := 0
 args x := [.dat T4 x]
 hin x := []
 F x := f16 x
 ret y := [.raw true [(.d T6 y.1),(.osl 0)]]
 hout y := [(0,.arr 91 T3 y.2)]
 nout := 1
theorem C16_vc (n : (List Int)×(List (ByteArray×Int×Int))) (y : (List Int)×(List (ByteArray×Int×Int))) (hF : f16 n = some y) : VC Tryz.f16 C16 n y := by
 unfold f16 at hF
 refine OL (OL (OL (OL (OL ?_))))
 obtain ⟨z1,hz1,hF⟩ := bindE hF
 refine loopI (Int×(List (ByteArray×Int×Int))) (List (ByteArray×Int×Int)) (fun x=>⟨[(1,P0 0 0),(2,P0 1 0),(3,P0 2 0),(4,.dat T1 x.1)],[(0,.cells [(.d T6 n.1),(.d T5 n.2)]),(1,.cells [N0,N0]),(2,.cells [(.d T6 n.1),(.osl 3)]),(3,.arr 91 T3 x.2)],4⟩) (fun z=>[(2,⟨[(2,P0 0 0),(3,P0 1 0)],[(0,.cells [N0,N0]),(1,.cells [(.d T6 n.1),(.osl 2)]),(2,.arr 91 T3 z)],3⟩)]) (loopF (fun go x=>f16_l1 n go x.1 x.2)) fuelN ((0:Int),[]) z1 (AI hz1 (AI (E4 [(0,some 0),(1,some 1),(2,some 2),(3,none)] (R2 (AI (R3 TV) (R4 TV)))) (AI (fun _ _ h=>loopZ h) (AI (fun m=>curI (fun i=>fun l3 z hF=>?_)) ?_))))
 ·have hF : f16_l1 n (loopF (fun go x=>f16_l1 n go x.1 x.2) m) i l3 = some z := hF
  unfold f16_l1 at hF
  refine OL (OL (condI hF (fun hF=>?_) (fun hF=>?_)))
  ·refine OL (EI (.take 0 (.take 1 (.take 2 (.take 3 (.take 4 (.take 5 (.take 6 (.take 7 (.take 8 (.take 9 (.take 10 (.take 11 (.take 12 (.take 13 (.take 14 (.take 15 (.take 16 (.take 17 (.take 18 (.take 19 (.take 20 (.alt 21 (.alt 22 (.take 23 (.alt 24 .done .done)) .done) .done)))))))))))))))))))))) (EI [(24,[2])] (EI [] (AI rfl (guardI hF (fun hF=>?_))))))
   refine guardI hF (fun hF=>?_)
   refine guardI hF (fun hF=>?_)
   refine AI TV (OL (AI TV (OL (guardI hF (fun hF=>?_)))))
   refine AI TV (OL (EI ((i64.wrap (i + (1:Int))),(l3 ++ ([((rd (Ty.z T3) n.2 i).1,((rd (Ty.z T3) n.2 i).2).1,((rd (Ty.z T3) n.2 i).2).2)]))) (AI hF (E4 [(0,some 0),(1,some 1),(2,some 2),(3,some 5)] (R2 (AI (R3 TV) (R4 TV)))))))
  have hz := someE hF
  subst hz
  refine E4 [(0,some 1),(1,some 2),(2,some 3)] (AI rfl (AI (R2 TV) (R3 TV)))
 refine AI (OL (OL ?_)) TV
 have hy := someE hF
 subst hy
 refine AI rfl (E4 [(0,some 2)] (AI rfl (AI (AI rfl TV) (AI rfl TV))))
theorem C16_holds : C16.Holds Tryz.prog 16 := holds_of_vc tab_ok mixed (fn := Tryz.f16) (by kernel_rfl) rfl C16 (fun x y hF=>C16_vc x y hF)
theorem f16_in : InP 16 := ⟨Tryz.f16,by kernel_rfl,by kernel_rfl,by kernel_rfl⟩
def f26_j1 (a : (List Int)×(List (ByteArray×Int×Int))) (b : (List Int)×(List (ByteArray×Int×Int))) : Option (Sum Unit Unit) :=
 bindF (f13 a.1 b.1) fun r2 =>
 bif (!r2) then
 some (Sum.inr ())
 else
 bif ((List.length a.2:Int) != (List.length b.2:Int)) then
 some (Sum.inr ())
 else
 some (Sum.inl ())
def f26_l2 (a : (List Int)×(List (ByteArray×Int×Int))) (b : (List Int)×(List (ByteArray×Int×Int))) (go : Int → Option (Sum Unit Unit)) (i:Int) : Option (Sum Unit Unit) :=
 bif (decide (i < (List.length a.2:Int))) then
 guardF (0 ≤ i ∧ i < (List.length a.2:Int)) <|
 guardF (0 ≤ i ∧ i < (List.length b.2:Int)) <|
 bif (!(ByteArray.toList ((rd (Ty.z T3) a.2 i).1) == ByteArray.toList ((rd (Ty.z T3) b.2 i).1) && ((((rd (Ty.z T3) a.2 i).2).1) == (((rd (Ty.z T3) b.2 i).2).1) && (((rd (Ty.z T3) a.2 i).2).2) == (((rd (Ty.z T3) b.2 i).2).2)))) then
 some (Sum.inl ())
 else
 go (i64.wrap (i + (1:Int)))
 else
 some (Sum.inr ())
def f26 (a : (List Int)×(List (ByteArray×Int×Int))) (b : (List Int)×(List (ByteArray×Int×Int))) : Option Bool :=
 bindF (f26_j1 a b) fun z1 =>
 sumF z1 (fun z1a =>
 bindF (loopF (fun go x=>f26_l2 a b go x) fuelN (0:Int)) fun z3 =>
 sumF z3 (fun z3a =>
 some false) (fun z3b =>
 some true)) (fun z1b =>
 some false)
def C26 : Con where
 X := ((List Int)×(List (ByteArray×Int×Int)))×((List Int)×(List (ByteArray×Int×Int)))
 Y := Bool
 e := 0
 args x := [.dat T4 x.1,.dat T4 x.2]
 hin x := []
 F x := f26 x.1 x.2
 ret y := [.dat .bool y]
 hout y := []
 nout := 0
theorem C26_vc (a : (List Int)×(List (ByteArray×Int×Int))) (b : (List Int)×(List (ByteArray×Int×Int))) (y : Bool) (hF : f26 a b = some y) : VC Tryz.f26 C26 (a,b) y := by
 unfold f26 at hF
 refine OL ?_
 obtain ⟨z1,hz1,hF⟩ := bindE hF
 refine OQ ⟨Sum.elim (fun z1a=>[(0,⟨[(2,P0 0 0),(3,P0 1 0)],[(0,.cells [(.d T6 a.1),(.d T5 a.2)]),(1,.cells [(.d T6 b.1),(.d T5 b.2)])],2⟩)]) (fun z1b=>[(1,⟨[(4,.dat .bool false)],[],0⟩)]) z1,?_,?_⟩
 ·have hF := hz1
  clear hz1
  unfold f26_j1 at hF
  refine OL ?_
  obtain ⟨r2,hr2,hF⟩ := bindE hF
  refine OL (AI f13_in (callV0 (callI C13 (a.1,b.1) r2 [] false C13_holds hr2 rfl rfl (R2 (AI (fun h=>nomatch h) (R2 (AI TV (AI TV (condN hF (fun hF=>?_) (fun hF=>?_))))))))))
  ·refine gdYF (gdYF (gdYF (gdYF (gdYF (gdYF (condF (condI hF (fun hF=>?_) (fun hF=>?_))))))))
   ·refine OL ?_
    have hz := someE hF
    subst hz
    refine E4 [] (R2 (AI TV TV))
   have hz := someE hF
   subst hz
   refine E4 [(0,some 0),(1,some 1)] (AI rfl (AI (R2 TV) (R2 TV)))
  refine gdNF (gdNF (gdNF (gdNF (gdNF (gdNF (condT (condT (OL ?_))))))))
  have hz := someE hF
  subst hz
  refine E4 [] (R2 (AI TV TV))
 rcases z1 with z1a | z1b
 ·dsimp only [sumF] at hF
  refine AI (OL (OL ?_)) TV
  obtain ⟨z3,hz3,hF⟩ := bindE hF
  refine loopI Int (Sum Unit Unit) (fun x=>⟨[(2,P0 0 0),(3,P0 1 0),(5,.dat T1 x)],[(0,.cells [(.d T6 a.1),(.d T5 a.2)]),(1,.cells [(.d T6 b.1),(.d T5 b.2)])],2⟩) (fun z=>Sum.elim (fun za=>[(1,⟨[(4,.dat .bool false)],[],0⟩)]) (fun zb=>[(2,⟨[],[],0⟩)]) z) (loopF (fun go x=>f26_l2 a b go x)) fuelN (0:Int) z3 (AI hz3 (AI (E4 [(0,some 0),(1,some 1)] (R2 (AI (R2 TV) (R2 TV)))) (AI (fun _ _ h=>loopZ h) (AI (fun m=>fun i z hF=>?_) ?_))))
  ·have hF : f26_l2 a b (loopF (fun go x=>f26_l2 a b go x) m) i = some z := hF
   unfold f26_l2 at hF
   refine OL (OL (condI hF (fun hF=>?_) (fun hF=>?_)))
   ·refine OL (OL (EI (.take 0 (.take 1 (.take 2 (.take 3 (.take 4 (.take 5 (.take 6 (.take 7 (.take 8 (.take 9 (.take 10 .done))))))))))) (EI [] (EI [] (AI rfl (guardI hF (fun hF=>?_)))))))
    refine guardI hF (fun hF=>?_)
    refine AI ⟨by kernel_rfl,by kernel_rfl,by decide,by decide,by decide⟩ ?_
    refine condI hF (fun hF=>?_) (fun hF=>?_)
    ·refine OL ?_
     have hz := someE hF
     subst hz
     refine E4 [] (R2 (AI TV TV))
    refine EI (i64.wrap (i + (1:Int))) (AI hF (E4 [(0,some 0),(1,some 1)] (R2 (AI (R2 TV) (R2 TV)))))
   have hz := someE hF
   subst hz
   refine E4 [] (AI rfl (AI TV TV))
  rcases z3 with z3a | z3b
  ·dsimp only [sumF] at hF
   refine AI ?_ TV
   have hy := someE hF
   subst hy
   refine AI rfl (E4 [] (R2 (AI TV TV)))
  dsimp only [sumF] at hF
  refine AI (OL ?_) TV
  have hy := someE hF
  subst hy
  refine AI rfl (E4 [] (R2 (AI TV TV)))
 dsimp only [sumF] at hF
 refine AI ?_ TV
 have hy := someE hF
 subst hy
 refine AI rfl (E4 [] (R2 (AI TV TV)))
theorem C26_holds : C26.Holds Tryz.prog 26 := holds_of_vc tab_ok mixed (fn := Tryz.f26) (by kernel_rfl) rfl C26 (fun x y hF=>C26_vc x.1 x.2 y hF)
theorem f26_in : InP 26 := ⟨Tryz.f26,by kernel_rfl,by kernel_rfl,by kernel_rfl⟩
def f6_j1 (n : (List Int)×(List (ByteArray×Int×Int))) : Option (Sum Unit Unit) :=
 bif (decide ((List.length n.1:Int) > (10:Int))) then
 some (Sum.inr ())
 else
 bif (decide ((List.length n.2:Int) > (40:Int))) then
 some (Sum.inr ())
 else
 some (Sum.inl ())
def f6 (n : (List Int)×(List (ByteArray×Int×Int))) : Option Bool :=
 bindF (f9) fun q9_9 =>
 bif (!q9_9) then
 some false
 else
 bindF (f6_j1 n) fun z1 =>
 sumF z1 (fun z1a =>
 bindF (f11 (n.1,n.2)) fun r2 =>
 bindF (f14 (n.1,n.2)) fun r3 =>
 bindF (f10 r3) fun r4 =>
 bif (r2.1 != (0:Int)) then
 bindF (f14 (n.1,n.2)) fun r5 =>
 bif (ByteArray.toList r5 == ByteArray.toList (ByteArray.mk #[])) then
 some (r4.2 == (7:Int))
 else
 some false
 else
 bif (r4.2 == (0:Int)) then
 bindF (f16 (r4.1.1,r4.1.2)) fun q9_4 =>
 bindF (f16 (n.1,n.2)) fun q9_6 =>
 bindF (f26 (q9_4.1,q9_4.2) (q9_6.1,q9_6.2)) fun q9_7 =>
 some q9_7
 else
 some false) (fun z1b =>
 some true)
def C6 : Con where
 X := (List Int)×(List (ByteArray×Int×Int))
 Y := Bool
 e := 0
 args x := [.dat T4 x]
 hin x := []
 F x := f6 x
 ret y := [.dat .bool y]
 hout y := []
 nout := 0
theorem C6_vc (n : (List Int)×(List (ByteArray×Int×Int))) (y : Bool) (hF : f6 n = some y) : VC Tryz.f6 C6 n y := by
 unfold f6 at hF
 refine OL (OL (OL ?_))
 obtain ⟨q9_9,hq9_9,hF⟩ := bindE hF
 refine OL (AI f9_in (callV0 (callI C9 () q9_9 [] false C9_holds hq9_9 rfl rfl (AI (fun h=>nomatch h) (R2 (AI TV (AI TV (condI hF (fun hF=>?_) (fun hF=>?_)))))))))
 ·refine OL ?_
  have hy := someE hF
  subst hy
  refine AI rfl (E4 [] (R2 (AI TV TV)))
 obtain ⟨z1,hz1,hF⟩ := bindE hF
 refine OQ ⟨Sum.elim (fun z1a=>[(0,⟨[(1,P0 0 0)],[(0,.cells [(.d T6 n.1),(.d T5 n.2)])],1⟩)]) (fun z1b=>[(1,⟨[(2,.dat .bool true)],[],0⟩)]) z1,?_,?_⟩
 ·have hF := hz1
  clear hz1
  unfold f6_j1 at hF
  refine OL (condN hF (fun hF=>?_) (fun hF=>?_))
  ·refine gdYF (gdYF (gdYF (condF (condI hF (fun hF=>?_) (fun hF=>?_)))))
   ·refine OL ?_
    have hz := someE hF
    subst hz
    refine E4 [] (R2 (AI TV TV))
   have hz := someE hF
   subst hz
   refine E4 [(0,some 0)] (AI rfl (AI (AI rfl TV) (AI rfl TV)))
  refine gdNF (gdNF (gdNF (condT (condT (OL ?_)))))
  have hz := someE hF
  subst hz
  refine E4 [] (R2 (AI TV TV))
 rcases z1 with z1a | z1b
 ·dsimp only [sumF] at hF
  refine AI (OL ?_) TV
  obtain ⟨r2,hr2,hF⟩ := bindE hF
  refine OL (AI f11_in (callV0 (callI C11 (n.1,n.2) r2 [] false C11_holds hr2 rfl rfl (R2 (AI (fun h=>nomatch h) (R2 (AI TV (AI TV (OL ?_)))))))))
  obtain ⟨r3,hr3,hF⟩ := bindE hF
  refine OL (AI f14_in (callV0 (callI C14 (n.1,n.2) r3 [] false C14_holds hr3 rfl rfl (R2 (AI (fun h=>nomatch h) (R2 (AI TV (AI TV ?_))))))))
  obtain ⟨r4,hr4,hF⟩ := bindE hF
  refine OL (AI f10_in (callV0 (callI C10 r3 r4 [] false C10_holds hr4 rfl rfl (AI rfl (AI (fun h=>nomatch h) (R2 (AI TV (AI TV (OL (OL (OL (condI hF (fun hF=>?_) (fun hF=>?_)))))))))))))
  ·refine OL ?_
   obtain ⟨r5,hr5,hF⟩ := bindE hF
   refine OL (AI f14_in (callV0 (callI C14 (n.1,n.2) r5 [] false C14_holds hr5 rfl rfl (R2 (AI (fun h=>nomatch h) (R2 (AI TV (AI TV (condI hF (fun hF=>?_) (fun hF=>?_))))))))))
   ·refine gdYT (condT ?_)
    have hy := someE hF
    subst hy
    refine AI rfl (E4 [] (R2 (AI TV TV)))
   refine gdNT (condF ?_)
   have hy := someE hF
   subst hy
   refine AI rfl (E4 [] (R2 (AI TV TV)))
  refine OL (EI (.take 0 (.take 1 (.take 2 (.take 3 (.take 5 (.alt 4 (.alt 6 (.alt 7 (.take 8 (.take 9 .done)) .done) .done) .done)))))) (EI [] (EI [] (AI rfl (condI hF (fun hF=>?_) (fun hF=>?_))))))
  ·refine gdYT (AI TV (gdYT ?_))
   obtain ⟨q9_4,hq9_4,hF⟩ := bindE hF
   refine OL (AI f16_in (callV0 (callI C16 (r4.1.1,r4.1.2) q9_4 [] false C16_holds hq9_4 rfl rfl (R2 (AI (fun h=>nomatch h) (R2 (AI TV (AI TV (AI TV (gdYT ?_))))))))))
   obtain ⟨q9_6,hq9_6,hF⟩ := bindE hF
   refine OL (AI f16_in (callV0 (callI C16 (n.1,n.2) q9_6 [] false C16_holds hq9_6 rfl rfl (R2 (AI (fun h=>nomatch h) (R2 (AI TV (AI TV (AI TV (gdYT ?_))))))))))
   obtain ⟨q9_7,hq9_7,hF⟩ := bindE hF
   refine OL (AI f26_in (callV0 (callI C26 ((q9_4.1,q9_4.2),(q9_6.1,q9_6.2)) q9_7 [] true C26_holds hq9_7 rfl rfl (R4 (AI (fun _=>rfl) (R2 (AI TV (AI TV (condT ?_)))))))))
   have hy := someE hF
   subst hy
   refine AI rfl (E4 [] (R2 (AI TV TV)))
  refine gdNT (AI TV (gdNT (AI TV (gdNT (AI TV (gdNT (condF ?_)))))))
  have hy := someE hF
  subst hy
  refine AI rfl (E4 [] (R2 (AI TV TV)))
 dsimp only [sumF] at hF
 refine AI ?_ TV
 have hy := someE hF
 subst hy
 refine AI rfl (E4 [] (R2 (AI TV TV)))
theorem C6_holds : C6.Holds Tryz.prog 6 := holds_of_vc tab_ok mixed (fn := Tryz.f6) (by kernel_rfl) rfl C6 (fun x y hF=>C6_vc x y hF)
theorem f6_in : InP 6 := ⟨Tryz.f6,by kernel_rfl,by kernel_rfl,by kernel_rfl⟩
end Go.Proofs
