import Derived.Test.YtdnlicefpmiljaaGreatDoorModelShapesS3
set_option linter.unusedVariables false
set_option maxRecDepth 100000
set_option maxHeartbeats 8000000
namespace Go.Proofs
open Go.AM
open IntKind (i64 u64 i32 u32 i16 u16 i8 u8)
def f15_j54 (n : (List Int)×(List (ByteArray×Int×Int))) (great : Bool) (i:Int) (r74:Int) : Option Bool :=
 bif great then
 some true
 else
 some (decide ((i64.wrap ((((rd (Ty.z T3) n.2 i).2).1) * r74)) > (4096:Int)))
def f15_j57 (n : (List Int)×(List (ByteArray×Int×Int))) (i:Int) (l1 : List (List Int)) : Option Bool :=
 bif ((List.length (rd (Ty.z T6) l1 (i64.wrap ((List.length l1:Int) - (1:Int)))):Int) != (2:Int)) then
 some true
 else
 guardF (0 ≤ (1:Int) ∧ (1:Int) < (List.length (rd (Ty.z T6) l1 (i64.wrap ((List.length l1:Int) - (1:Int)))):Int)) <|
 some (decide ((((rd (Ty.z T3) n.2 i).2).2) > (rd (0:Int) (rd (Ty.z T6) l1 (i64.wrap ((List.length l1:Int) - (1:Int)))) (1:Int))))
def f15_j56 (n : (List Int)×(List (ByteArray×Int×Int))) (i:Int) (l1 : List (List Int)) : Option (Sum Unit Unit) :=
 bindF (f15_j57 n i l1) fun z78 =>
 bif z78 then
 some (Sum.inr ())
 else
 some (Sum.inl ())
def f15_j58 (n : (List Int)×(List (ByteArray×Int×Int))) (great : Bool) (i:Int) (l1 : List (List Int)) : Option Bool :=
 bif great then
 some true
 else
 guardF (0 ≤ (0:Int) ∧ (0:Int) < (List.length (rd (Ty.z T6) l1 (i64.wrap ((List.length l1:Int) - (1:Int)))):Int)) <|
 some (decide ((i64.wrap ((i64.wrap ((((rd (Ty.z T3) n.2 i).2).1) * (rd (0:Int) (rd (Ty.z T6) l1 (i64.wrap ((List.length l1:Int) - (1:Int)))) (0:Int)))) * (((rd (Ty.z T3) n.2 i).2).2))) > (4096:Int)))
def f15_j61 (n : (List Int)×(List (ByteArray×Int×Int))) (i:Int) (l1 : List (List Int)) : Option Bool :=
 bif ((List.length (rd (Ty.z T6) l1 (i64.wrap ((List.length l1:Int) - (1:Int)))):Int) != (2:Int)) then
 some true
 else
 guardF (0 ≤ (1:Int) ∧ (1:Int) < (List.length (rd (Ty.z T6) l1 (i64.wrap ((List.length l1:Int) - (1:Int)))):Int)) <|
 some (decide ((((rd (Ty.z T3) n.2 i).2).1) > (rd (0:Int) (rd (Ty.z T6) l1 (i64.wrap ((List.length l1:Int) - (1:Int)))) (1:Int))))
def f15_j60 (n : (List Int)×(List (ByteArray×Int×Int))) (i:Int) (l1 : List (List Int)) : Option (Sum Unit Unit) :=
 bindF (f15_j61 n i l1) fun z82 =>
 bif z82 then
 some (Sum.inr ())
 else
 some (Sum.inl ())
def f15_j62 (n : (List Int)×(List (ByteArray×Int×Int))) (i:Int) (l1 : List (List Int)) : Option Bool :=
 bif (i == (0:Int)) then
 some true
 else
 guardF (0 ≤ (i64.wrap (i - (1:Int))) ∧ (i64.wrap (i - (1:Int))) < (List.length n.2:Int)) <|
 bif (ByteArray.toList ((rd (Ty.z T3) n.2 (i64.wrap (i - (1:Int)))).1) == ByteArray.toList (ByteArray.mk #[115,107,105,112])) then
 some true
 else
 guardF (0 ≤ (i64.wrap ((List.length l1:Int) - (2:Int))) ∧ (i64.wrap ((List.length l1:Int) - (2:Int))) < (List.length l1:Int)) <|
 bindF (f13 (rd (Ty.z T6) l1 (i64.wrap ((List.length l1:Int) - (2:Int)))) (rd (Ty.z T6) l1 (i64.wrap ((List.length l1:Int) - (1:Int))))) fun r85 =>
 some (!r85)
def f15_j53 (n : (List Int)×(List (ByteArray×Int×Int))) (all:Int) (great : Bool) (i:Int) (l1 : List (List Int)) : Option (Sum (Int×Bool×(List Int)) Unit) :=
 bif (ByteArray.toList ((rd (Ty.z T3) n.2 i).1) == ByteArray.toList (ByteArray.mk #[100,101,110,115,101])) then
 bindF (f40 (rd (Ty.z T6) l1 (i64.wrap ((List.length l1:Int) - (1:Int))))) fun r74 =>
 bindF (f15_j54 n great i r74) fun z75 =>
 some (Sum.inl ((i64.wrap ((i64.wrap (all + (i64.wrap ((((rd (Ty.z T3) n.2 i).2).1) * r74)))) + (((rd (Ty.z T3) n.2 i).2).1))),z75,[((rd (Ty.z T3) n.2 i).2).1]))
 else
 bif (ByteArray.toList ((rd (Ty.z T3) n.2 i).1) == ByteArray.toList (ByteArray.mk #[99,111,110,118])) then
 bindF (f15_j56 n i l1) fun z77 =>
 sumF z77 (fun z77a =>
 bindF (f15_j58 n great i l1) fun z79 =>
 guardF (0 ≤ (0:Int) ∧ (0:Int) < (List.length (rd (Ty.z T6) l1 (i64.wrap ((List.length l1:Int) - (1:Int)))):Int)) <|
 guardF (0 ≤ (1:Int) ∧ (1:Int) < (List.length (rd (Ty.z T6) l1 (i64.wrap ((List.length l1:Int) - (1:Int)))):Int)) <|
 some (Sum.inl ((i64.wrap (all + (i64.wrap ((i64.wrap ((((rd (Ty.z T3) n.2 i).2).1) * (rd (0:Int) (rd (Ty.z T6) l1 (i64.wrap ((List.length l1:Int) - (1:Int)))) (0:Int)))) * (((rd (Ty.z T3) n.2 i).2).2))))),z79,[((rd (Ty.z T3) n.2 i).2).1,(i64.wrap ((i64.wrap ((rd (0:Int) (rd (Ty.z T6) l1 (i64.wrap ((List.length l1:Int) - (1:Int)))) (1:Int)) - (((rd (Ty.z T3) n.2 i).2).2))) + (1:Int)))]))) (fun z77b =>
 some (Sum.inr ()))
 else
 bif (ByteArray.toList ((rd (Ty.z T3) n.2 i).1) == ByteArray.toList (ByteArray.mk #[112,111,111,108])) then
 bindF (f15_j60 n i l1) fun z81 =>
 sumF z81 (fun z81a =>
 guardF (0 ≤ (0:Int) ∧ (0:Int) < (List.length (rd (Ty.z T6) l1 (i64.wrap ((List.length l1:Int) - (1:Int)))):Int)) <|
 guardF (0 ≤ (1:Int) ∧ (1:Int) < (List.length (rd (Ty.z T6) l1 (i64.wrap ((List.length l1:Int) - (1:Int)))):Int)) <|
 guardF ((((rd (Ty.z T3) n.2 i).2).1) ≠ 0) <|
 some (Sum.inl (all,great,[(rd (0:Int) (rd (Ty.z T6) l1 (i64.wrap ((List.length l1:Int) - (1:Int)))) (0:Int)),(i64.wrap (Int.tdiv (rd (0:Int) (rd (Ty.z T6) l1 (i64.wrap ((List.length l1:Int) - (1:Int)))) (1:Int)) (((rd (Ty.z T3) n.2 i).2).1)))]))) (fun z81b =>
 some (Sum.inr ()))
 else
 bif (ByteArray.toList ((rd (Ty.z T3) n.2 i).1) == ByteArray.toList (ByteArray.mk #[115,107,105,112])) then
 bindF (f15_j62 n i l1) fun z84 =>
 bif z84 then
 some (Sum.inr ())
 else
 some (Sum.inl (all,great,(rd (Ty.z T6) l1 (i64.wrap ((List.length l1:Int) - (1:Int))))))
 else
 some (Sum.inl (all,great,(rd (Ty.z T6) l1 (i64.wrap ((List.length l1:Int) - (1:Int))))))
def f15_j63 (z73a : Int×Bool×(List Int)) : Option Bool :=
 bif z73a.2.1 then
 some true
 else
 bindF (f40 z73a.2.2) fun r88 =>
 some (decide (r88 > (4096:Int)))
def f15_j64 (z73a : Int×Bool×(List Int)) (z87 : Bool) : Option (Int×Bool) :=
 bif (decide (z73a.1 > (4096:Int))) then
 some ((4097:Int),true)
 else
 some (z73a.1,z87)
def f15_l43 (n : (List Int)×(List (ByteArray×Int×Int))) (go : (Int×Bool×Int×(List (List Int))) → Option (Sum Unit (Int×Bool×(List (List Int))))) (all:Int) (great : Bool) (i:Int) (l1 : List (List Int)) : Option (Sum Unit (Int×Bool×(List (List Int)))) :=
 bif (decide (i < (List.length n.2:Int))) then
 guardF (0 ≤ (i64.wrap ((List.length l1:Int) - (1:Int))) ∧ (i64.wrap ((List.length l1:Int) - (1:Int))) < (List.length l1:Int)) <|
 guardF (0 ≤ i ∧ i < (List.length n.2:Int)) <|
 bindF (f15_j53 n all great i l1) fun z73 =>
 sumF z73 (fun z73a =>
 bindF (f15_j63 z73a) fun z87 =>
 bindF (f15_j64 z73a z87) fun z89 =>
 guardF ((List.length ([] : List Int) + List.length z73a.2.2) * 8 ≤ 140737488355328) <|
 guardF ((List.length l1 + List.length ([(([] : List Int) ++ z73a.2.2)])) * 24 ≤ 140737488355328) <|
 go (z89.1,z89.2,(i64.wrap (i + (1:Int))),(l1 ++ ([(([] : List Int) ++ z73a.2.2)])))) (fun z73b =>
 some (Sum.inl ()))
 else
 some (Sum.inr (all,great,l1))
def f15_j67 (n : (List Int)×(List (ByteArray×Int×Int))) (z60b : Int×Bool×(List (List Int))) : Option Bool :=
 bif z60b.2.1 then
 some true
 else
 bindF (f40 n.1) fun r96 =>
 some (decide (r96 > (4096:Int)))
def f15_j66 (n : (List Int)×(List (ByteArray×Int×Int))) (z60b : Int×Bool×(List (List Int))) : Option (Sum Unit Unit) :=
 bindF (f15_j67 n z60b) fun z95 =>
 bif z95 then
 some (Sum.inr ())
 else
 some (Sum.inl ())
def f15 (n : (List Int)×(List (ByteArray×Int×Int))) : Option (Int×Int×(List (List Int))) :=
 bindF (f39 (n.1,n.2)) fun r1 =>
 bif (!r1) then
 some ((0:Int),(1:Int),[])
 else
 guardF ((List.length ([] : List Int) + List.length n.1) * 8 ≤ 140737488355328) <|
 bindF (loopF (fun go x=>f15_l43 n go x.1 x.2.1 x.2.2.1 x.2.2.2) fuelN ((0:Int),(decide ((List.length n.2:Int) > (16:Int))),(0:Int),[(([] : List Int) ++ n.1)])) fun z60 =>
 sumF z60 (fun z60a =>
 some ((0:Int),(4:Int),[])) (fun z60b =>
 bindF (f15_j66 n z60b) fun z93 =>
 sumF z93 (fun z93a =>
 some (z60b.1,(0:Int),z60b.2.2)) (fun z93b =>
 some ((0:Int),(2:Int),[])))
def C15 : Con where
 X := (List Int)×(List (ByteArray×Int×Int))
 Y := Int×Int×(List (List Int))
 e := 0
 args x := [.dat T4 x]
 hin x := []
 F x := f15 x
 ret y := [O0 0,.dat T1 y.1,.dat T1 y.2.1]
 hout y := [(0,.arr 23 T6 y.2.2)]
 nout := 1
theorem C15_vc (n : (List Int)×(List (ByteArray×Int×Int))) (y : Int×Int×(List (List Int))) (hF : f15 n = some y) : VC Tryz.f15 C15 n y := by
 unfold f15 at hF
 refine OL (OL (OL ?_))
 obtain ⟨r1,hr1,hF⟩ := bindE hF
 refine OL (AI f39_in (callV0 (callI C39 (n.1,n.2) r1 [] false C39_holds hr1 rfl rfl (R2 (AI (fun h=>nomatch h) (R2 (AI TV (AI TV (condI hF (fun hF=>?_) (fun hF=>?_))))))))))
 ·refine OL ?_
  have hy := someE hF
  subst hy
  refine AI rfl (E4 [(0,none)] (R3 (AI (AI rfl TV) (AI rfl TV))))
 refine OL (OL (OL (guardI hF (fun hF=>?_))))
 refine OL (OL (EI (.take 0 (.take 1 (.take 2 (.take 3 (.take 4 (.take 5 .done)))))) (EI [] (EI [] (AI rfl (OL (OL ?_)))))))
 obtain ⟨z60,hz60,hF⟩ := bindE hF
 refine loopI (Int×Bool×Int×(List (List Int))) (Sum Unit (Int×Bool×(List (List Int)))) (fun x=>⟨[(1,P0 0 0),(5,O0 1),(6,.dat T1 x.1),(7,.dat .bool x.2.1),(8,.dat T1 x.2.2.1)],[(0,.cells [(.d T6 n.1),(.d T5 n.2)]),(1,.arr 23 T6 x.2.2.2)],2⟩) (fun z=>Sum.elim (fun za=>[(1,⟨[(2,.raw false [N0]),(3,D0 0),(4,D0 4)],[],0⟩)]) (fun zb=>[(2,⟨[(1,P0 0 0),(5,O0 1),(6,.dat T1 zb.1),(7,.dat .bool zb.2.1)],[(0,.cells [(.d T6 n.1),(.d T5 n.2)]),(1,.arr 23 T6 zb.2.2)],2⟩)]) z) (loopF (fun go x=>f15_l43 n go x.1 x.2.1 x.2.2.1 x.2.2.2)) fuelN ((0:Int),(decide ((List.length n.2:Int) > (16:Int))),(0:Int),[(([] : List Int) ++ n.1)]) z60 (AI hz60 (AI (E4 [(0,some 0),(1,some 3)] (R4 (AI (R2 TV) (R2 TV)))) (AI (fun _ _ h=>loopZ h) (AI (fun m=>curI (fun all=>curI (fun great=>curI (fun i=>fun l1 z hF=>?_)))) ?_))))
 ·have hF : f15_l43 n (loopF (fun go x=>f15_l43 n go x.1 x.2.1 x.2.2.1 x.2.2.2) m) all great i l1 = some z := hF
  unfold f15_l43 at hF
  refine OL (OL (condI hF (fun hF=>?_) (fun hF=>?_)))
  ·refine OL (OL (guardI hF (fun hF=>?_)))
   refine OL (guardI hF (fun hF=>?_))
   refine OL ?_
   obtain ⟨z73,hz73,hF⟩ := bindE hF
   refine OQ ⟨Sum.elim (fun z73a=>[(0,⟨[(1,P0 0 0),(5,O0 1),(6,.dat T1 z73a.1),(7,.dat .bool z73a.2.1),(8,.dat T1 i),(9,.dat T6 z73a.2.2)],[(0,.cells [(.d T6 n.1),(.d T5 n.2)]),(1,.arr 23 T6 l1)],2⟩)]) (fun z73b=>[(1,⟨[(2,.raw false [N0]),(3,D0 0),(4,D0 4)],[],0⟩)]) z73,?_,?_⟩
   ·have hF := hz73
    clear hz73
    unfold f15_j53 at hF
    refine OL (OL (condI hF (fun hF=>?_) (fun hF=>?_)))
    ·refine OL ?_
     obtain ⟨r74,hr74,hF⟩ := bindE hF
     refine OL (AI f40_in (callV0 (callI C40 (rd (Ty.z T6) l1 (i64.wrap ((List.length l1:Int) - (1:Int)))) r74 [] false C40_holds hr74 rfl rfl (AI rfl (AI (fun h=>nomatch h) (R2 (AI TV (AI TV ?_))))))))
     obtain ⟨z75,hz75,hF⟩ := bindE hF
     refine OQ ⟨[(0,⟨[(1,P0 0 0),(5,O0 1),(6,.dat T1 all),(7,.dat .bool z75),(8,.dat T1 i),(10,P0 2 0),(11,.dat T1 r74)],[(0,.cells [(.d T6 n.1),(.d T5 n.2)]),(1,.arr 23 T6 l1),(2,.cells [(.d .str ((rd (Ty.z T3) n.2 i).1)),(.d T1 (((rd (Ty.z T3) n.2 i).2).1)),(.d T1 (((rd (Ty.z T3) n.2 i).2).2))])],3⟩)],?_,?_⟩
     ·have hF := hz75
      clear hz75
      unfold f15_j54 at hF
      refine condN hF (fun hF=>?_) (fun hF=>?_)
      ·refine gdYF (gdYF (gdYF (gdYF (condF ?_))))
       have hz := someE hF
       subst hz
       refine E4 [(0,some 0),(1,some 1),(2,some 2)] (R5 (AI (R3 TV) (R3 TV)))
      refine gdNF (gdNF (gdNF (gdNF (condT ?_))))
      have hz := someE hF
      subst hz
      refine E4 [(0,some 0),(1,some 1),(2,some 2)] (R5 (AI (R3 TV) (R3 TV)))
     refine AI (OL (OL ?_)) TV
     have hz := someE hF
     subst hz
     refine E4 [(0,some 0),(1,some 1)] (R5 (AI (R2 TV) (R2 TV)))
    refine OL (condI hF (fun hF=>?_) (fun hF=>?_))
    ·obtain ⟨z77,hz77,hF⟩ := bindE hF
     refine OQ ⟨Sum.elim (fun z77a=>[(0,⟨[(1,P0 0 0),(5,O0 1),(6,.dat T1 all),(7,.dat .bool great),(8,.dat T1 i),(9,.dat T6 (rd (Ty.z T6) l1 (i64.wrap ((List.length l1:Int) - (1:Int))))),(10,P0 2 0)],[(0,.cells [(.d T6 n.1),(.d T5 n.2)]),(1,.arr 23 T6 l1),(2,.cells [(.d .str ((rd (Ty.z T3) n.2 i).1)),(.d T1 (((rd (Ty.z T3) n.2 i).2).1)),(.d T1 (((rd (Ty.z T3) n.2 i).2).2))])],3⟩)]) (fun z77b=>[(1,⟨[(2,.raw false [N0]),(3,D0 0),(4,D0 4)],[],0⟩)]) z77,?_,?_⟩
     ·have hF := hz77
      clear hz77
      unfold f15_j56 at hF
      obtain ⟨z78,hz78,hF⟩ := bindE hF
      refine OQ ⟨[(0,⟨[(1,P0 0 0),(5,O0 1),(6,.dat T1 all),(7,.dat .bool great),(8,.dat T1 i),(9,.dat T6 (rd (Ty.z T6) l1 (i64.wrap ((List.length l1:Int) - (1:Int))))),(10,P0 2 0),(80,.dat .bool z78)],[(0,.cells [(.d T6 n.1),(.d T5 n.2)]),(1,.arr 23 T6 l1),(2,.cells [(.d .str ((rd (Ty.z T3) n.2 i).1)),(.d T1 (((rd (Ty.z T3) n.2 i).2).1)),(.d T1 (((rd (Ty.z T3) n.2 i).2).2))])],3⟩)],?_,?_⟩
      ·have hF := hz78
       clear hz78
       unfold f15_j57 at hF
       refine EI (.take 0 (.take 1 (.take 2 (.take 3 (.take 4 (.take 5 (.take 6 (.take 7 (.take 8 (.take 9 (.take 10 .done))))))))))) (EI [] (EI [] (AI rfl (condN hF (fun hF=>?_) (fun hF=>?_)))))
       ·refine gdYF (gdYF (gdYF (guardI hF (fun hF=>?_))))
        refine gdYF (gdYF (condF ?_))
        have hz := someE hF
        subst hz
        refine E4 [(0,some 0),(1,some 1),(2,some 2)] (R6 (AI (R3 TV) (R3 TV)))
       refine gdNF (gdNF (gdNF (gdNF (gdNF (condT ?_)))))
       have hz := someE hF
       subst hz
       refine E4 [(0,some 0),(1,some 1),(2,some 2)] (R6 (AI (R3 TV) (R3 TV)))
      refine AI (condI hF (fun hF=>?_) (fun hF=>?_)) TV
      ·refine OL ?_
       have hz := someE hF
       subst hz
       refine E4 [] (R3 (AI (AI rfl TV) TV))
      have hz := someE hF
      subst hz
      refine E4 [(0,some 0),(1,some 1),(2,some 2)] (R5 (AI (R3 TV) (R3 TV)))
     rcases z77 with z77a | z77b
     ·dsimp only [sumF] at hF
      refine AI ?_ TV
      obtain ⟨z79,hz79,hF⟩ := bindE hF
      refine OQ ⟨[(0,⟨[(1,P0 0 0),(5,O0 1),(6,.dat T1 all),(7,.dat .bool z79),(8,.dat T1 i),(9,.dat T6 (rd (Ty.z T6) l1 (i64.wrap ((List.length l1:Int) - (1:Int))))),(10,P0 2 0)],[(0,.cells [(.d T6 n.1),(.d T5 n.2)]),(1,.arr 23 T6 l1),(2,.cells [(.d .str ((rd (Ty.z T3) n.2 i).1)),(.d T1 (((rd (Ty.z T3) n.2 i).2).1)),(.d T1 (((rd (Ty.z T3) n.2 i).2).2))])],3⟩)],?_,?_⟩
      ·have hF := hz79
       clear hz79
       unfold f15_j58 at hF
       refine EI (.take 0 (.take 1 (.take 2 (.take 3 (.take 4 (.take 5 (.take 6 (.take 7 (.take 8 (.take 9 (.take 10 (.take 11 (.take 12 (.take 13 .done)))))))))))))) (EI [] (EI [] (AI rfl (condN hF (fun hF=>?_) (fun hF=>?_)))))
       ·refine gdYF (gdYF (gdYF (guardI hF (fun hF=>?_))))
        refine gdYF (gdYF (gdYF (gdYF (gdYF (gdYF (condF ?_))))))
        have hz := someE hF
        subst hz
        refine E4 [(0,some 0),(1,some 1),(2,some 2)] (R5 (AI (R3 TV) (R3 TV)))
       refine gdNF (gdNF (gdNF (gdNF (gdNF (gdNF (gdNF (gdNF (gdNF (condT ?_)))))))))
       have hz := someE hF
       subst hz
       refine E4 [(0,some 0),(1,some 1),(2,some 2)] (R5 (AI (R3 TV) (R3 TV)))
      refine AI (OL (EI (.take 0 (.take 1 (.take 2 (.take 3 (.take 4 (.take 5 (.take 6 (.take 7 (.take 8 (.take 9 (.take 10 (.take 11 .done)))))))))))) (EI [] (EI [] (AI rfl (guardI hF (fun hF=>?_))))))) TV
      refine EI (.take 0 (.take 1 (.take 2 (.take 3 (.take 4 (.take 5 (.take 6 (.take 7 (.take 8 (.alt 9 (.take 10 .done) .done)))))))))) (EI [] (EI [] (AI rfl (guardI hF (fun hF=>?_)))))
      refine AI TV (OL ?_)
      have hz := someE hF
      subst hz
      refine E4 [(0,some 0),(1,some 1)] (R5 (AI (R2 TV) (R2 TV)))
     dsimp only [sumF] at hF
     refine AI ?_ TV
     have hz := someE hF
     subst hz
     refine E4 [] (R3 (AI (AI rfl TV) TV))
    refine OL (condI hF (fun hF=>?_) (fun hF=>?_))
    ·obtain ⟨z81,hz81,hF⟩ := bindE hF
     refine OQ ⟨Sum.elim (fun z81a=>[(0,⟨[(1,P0 0 0),(5,O0 1),(6,.dat T1 all),(7,.dat .bool great),(8,.dat T1 i),(9,.dat T6 (rd (Ty.z T6) l1 (i64.wrap ((List.length l1:Int) - (1:Int))))),(10,P0 2 0)],[(0,.cells [(.d T6 n.1),(.d T5 n.2)]),(1,.arr 23 T6 l1),(2,.cells [(.d .str ((rd (Ty.z T3) n.2 i).1)),(.d T1 (((rd (Ty.z T3) n.2 i).2).1)),(.d T1 (((rd (Ty.z T3) n.2 i).2).2))])],3⟩)]) (fun z81b=>[(1,⟨[(2,.raw false [N0]),(3,D0 0),(4,D0 4)],[],0⟩)]) z81,?_,?_⟩
     ·have hF := hz81
      clear hz81
      unfold f15_j60 at hF
      obtain ⟨z82,hz82,hF⟩ := bindE hF
      refine OQ ⟨[(0,⟨[(1,P0 0 0),(5,O0 1),(6,.dat T1 all),(7,.dat .bool great),(8,.dat T1 i),(9,.dat T6 (rd (Ty.z T6) l1 (i64.wrap ((List.length l1:Int) - (1:Int))))),(10,P0 2 0),(127,.dat .bool z82)],[(0,.cells [(.d T6 n.1),(.d T5 n.2)]),(1,.arr 23 T6 l1),(2,.cells [(.d .str ((rd (Ty.z T3) n.2 i).1)),(.d T1 (((rd (Ty.z T3) n.2 i).2).1)),(.d T1 (((rd (Ty.z T3) n.2 i).2).2))])],3⟩)],?_,?_⟩
      ·have hF := hz82
       clear hz82
       unfold f15_j61 at hF
       refine EI (.take 0 (.take 1 (.take 2 (.take 3 (.take 4 (.take 5 (.take 6 (.take 7 (.take 8 (.take 9 (.take 10 .done))))))))))) (EI [] (EI [] (AI rfl (condN hF (fun hF=>?_) (fun hF=>?_)))))
       ·refine gdYF (gdYF (gdYF (guardI hF (fun hF=>?_))))
        refine gdYF (gdYF (condF ?_))
        have hz := someE hF
        subst hz
        refine E4 [(0,some 0),(1,some 1),(2,some 2)] (R6 (AI (R3 TV) (R3 TV)))
       refine gdNF (gdNF (gdNF (gdNF (gdNF (condT ?_)))))
       have hz := someE hF
       subst hz
       refine E4 [(0,some 0),(1,some 1),(2,some 2)] (R6 (AI (R3 TV) (R3 TV)))
      refine AI (condI hF (fun hF=>?_) (fun hF=>?_)) TV
      ·refine OL ?_
       have hz := someE hF
       subst hz
       refine E4 [] (R3 (AI (AI rfl TV) TV))
      have hz := someE hF
      subst hz
      refine E4 [(0,some 0),(1,some 1),(2,some 2)] (R5 (AI (R3 TV) (R3 TV)))
     rcases z81 with z81a | z81b
     ·dsimp only [sumF] at hF
      refine AI (EI (.take 0 (.take 1 (.take 2 (.take 3 (.take 4 (.take 5 (.take 6 (.take 7 (.take 8 (.alt 9 (.take 10 .done) .done)))))))))) (EI [] (EI [] (AI rfl (guardI hF (fun hF=>?_)))))) TV
      refine guardI hF (fun hF=>?_)
      refine guardI hF (fun hF=>?_)
      refine AI TV (OL ?_)
      have hz := someE hF
      subst hz
      refine E4 [(0,some 0),(1,some 1)] (R5 (AI (R2 TV) (R2 TV)))
     dsimp only [sumF] at hF
     refine AI ?_ TV
     have hz := someE hF
     subst hz
     refine E4 [] (R3 (AI (AI rfl TV) TV))
    refine OL (condI hF (fun hF=>?_) (fun hF=>?_))
    ·obtain ⟨z84,hz84,hF⟩ := bindE hF
     refine OQ ⟨[(0,⟨[(1,P0 0 0),(5,O0 1),(6,.dat T1 all),(7,.dat .bool great),(8,.dat T1 i),(9,.dat T6 (rd (Ty.z T6) l1 (i64.wrap ((List.length l1:Int) - (1:Int))))),(162,.dat .bool z84)],[(0,.cells [(.d T6 n.1),(.d T5 n.2)]),(1,.arr 23 T6 l1)],2⟩)],?_,?_⟩
     ·have hF := hz84
      clear hz84
      unfold f15_j62 at hF
      refine condN hF (fun hF=>?_) (fun hF=>?_)
      ·refine gdYF (gdYF (gdYF (gdYF (guardI hF (fun hF=>?_)))))
       refine gdYF (gdYF (gdYF (condF (condN hF (fun hF=>?_) (fun hF=>?_)))))
       ·refine gdYF (gdYF (gdYF (gdYF (guardI hF (fun hF=>?_)))))
        refine gdYF (gdYF (gdYF ?_))
        obtain ⟨r85,hr85,hF⟩ := bindE hF
        refine OL (AI f13_in (callV0 (callI C13 ((rd (Ty.z T6) l1 (i64.wrap ((List.length l1:Int) - (2:Int)))),(rd (Ty.z T6) l1 (i64.wrap ((List.length l1:Int) - (1:Int))))) r85 [] false C13_holds hr85 rfl rfl (R2 (AI (fun h=>nomatch h) (R2 (AI TV (AI TV (gdYF (condF ?_))))))))))
        have hz := someE hF
        subst hz
        refine E4 [(0,some 0),(1,some 1)] (R6 (AI (R2 TV) (R2 TV)))
       refine gdNF (gdNF (gdNF (gdNF (gdNF (gdNF (gdNF (gdNF (condT ?_))))))))
       have hz := someE hF
       subst hz
       refine E4 [(0,some 0),(1,some 1)] (R6 (AI (R2 TV) (R2 TV)))
      refine gdNF (gdNF (gdNF (gdNF (gdNF (gdNF (gdNF (condT (gdNF (gdNF (gdNF (gdNF (gdNF (gdNF (gdNF (gdNF (gdNF (condT ?_)))))))))))))))))
      have hz := someE hF
      subst hz
      refine E4 [(0,some 0),(1,some 1)] (R6 (AI (R2 TV) (R2 TV)))
     refine AI (condI hF (fun hF=>?_) (fun hF=>?_)) TV
     ·refine OL ?_
      have hz := someE hF
      subst hz
      refine E4 [] (R3 (AI (AI rfl TV) TV))
     have hz := someE hF
     subst hz
     refine E4 [(0,some 0),(1,some 1)] (R5 (AI (R2 TV) (R2 TV)))
    have hz := someE hF
    subst hz
    refine E4 [(0,some 0),(1,some 1)] (R5 (AI (R2 TV) (R2 TV)))
   rcases z73 with z73a | z73b
   ·dsimp only [sumF] at hF
    refine AI ?_ TV
    obtain ⟨z87,hz87,hF⟩ := bindE hF
    refine OQ ⟨[(0,⟨[(1,P0 0 0),(5,O0 1),(6,.dat T1 z73a.1),(7,.dat .bool z87),(8,.dat T1 i),(9,.dat T6 z73a.2.2)],[(0,.cells [(.d T6 n.1),(.d T5 n.2)]),(1,.arr 23 T6 l1)],2⟩)],?_,?_⟩
    ·have hF := hz87
     clear hz87
     unfold f15_j63 at hF
     refine condN hF (fun hF=>?_) (fun hF=>?_)
     ·refine gdYF ?_
      obtain ⟨r88,hr88,hF⟩ := bindE hF
      refine OL (AI f40_in (callV0 (callI C40 z73a.2.2 r88 [] false C40_holds hr88 rfl rfl (AI rfl (AI (fun h=>nomatch h) (R2 (AI TV (AI TV (gdYF (condF ?_))))))))))
      have hz := someE hF
      subst hz
      refine E4 [(0,some 0),(1,some 1)] (R5 (AI (R2 TV) (R2 TV)))
     refine gdNF (gdNF (condT ?_))
     have hz := someE hF
     subst hz
     refine E4 [(0,some 0),(1,some 1)] (R5 (AI (R2 TV) (R2 TV)))
    refine AI ?_ TV
    obtain ⟨z89,hz89,hF⟩ := bindE hF
    refine OQ ⟨[(0,⟨[(1,P0 0 0),(5,O0 1),(6,.dat T1 z89.1),(7,.dat .bool z89.2),(8,.dat T1 i),(9,.dat T6 z73a.2.2)],[(0,.cells [(.d T6 n.1),(.d T5 n.2)]),(1,.arr 23 T6 l1)],2⟩)],?_,?_⟩
    ·have hF := hz89
     clear hz89
     unfold f15_j64 at hF
     refine OL (condI hF (fun hF=>?_) (fun hF=>?_))
     ·refine OL ?_
      have hz := someE hF
      subst hz
      refine E4 [(0,some 0),(1,some 1)] (R5 (AI (R2 TV) (R2 TV)))
     have hz := someE hF
     subst hz
     refine E4 [(0,some 0),(1,some 1)] (R5 (AI (R2 TV) (R2 TV)))
    refine AI (OL (OL (guardI hF (fun hF=>?_)))) TV
    refine OL (OL (guardI hF (fun hF=>?_)))
    refine EI (z89.1,z89.2,(i64.wrap (i + (1:Int))),(l1 ++ ([(([] : List Int) ++ z73a.2.2)]))) (AI hF (E4 [(0,some 0),(1,some 5)] (R4 (AI (R2 TV) (R2 TV)))))
   dsimp only [sumF] at hF
   refine AI ?_ TV
   have hz := someE hF
   subst hz
   refine E4 [] (R3 (AI (AI rfl TV) TV))
  have hz := someE hF
  subst hz
  refine E4 [(0,some 0),(1,some 1)] (R3 (AI (R2 TV) (R2 TV)))
 rcases z60 with z60a | z60b
 ·dsimp only [sumF] at hF
  refine AI ?_ TV
  have hy := someE hF
  subst hy
  refine AI rfl (E4 [(0,none)] (R3 (AI (AI rfl TV) (AI rfl TV))))
 dsimp only [sumF] at hF
 refine AI ?_ TV
 obtain ⟨z93,hz93,hF⟩ := bindE hF
 refine OQ ⟨Sum.elim (fun z93a=>[(0,⟨[(5,O0 0),(6,.dat T1 z60b.1)],[(0,.arr 23 T6 z60b.2.2)],1⟩)]) (fun z93b=>[(1,⟨[(2,.raw false [N0]),(3,D0 0),(4,D0 2)],[],0⟩)]) z93,?_,?_⟩
 ·have hF := hz93
  clear hz93
  unfold f15_j66 at hF
  obtain ⟨z95,hz95,hF⟩ := bindE hF
  refine OQ ⟨[(0,⟨[(5,O0 0),(6,.dat T1 z60b.1),(183,.dat .bool z95)],[(0,.arr 23 T6 z60b.2.2)],1⟩)],?_,?_⟩
  ·have hF := hz95
   clear hz95
   unfold f15_j67 at hF
   refine condN hF (fun hF=>?_) (fun hF=>?_)
   ·refine gdYF (gdYF ?_)
    obtain ⟨r96,hr96,hF⟩ := bindE hF
    refine OL (AI f40_in (callV0 (callI C40 n.1 r96 [] false C40_holds hr96 rfl rfl (AI rfl (AI (fun h=>nomatch h) (R2 (AI TV (AI TV (gdYF (condF ?_))))))))))
    have hz := someE hF
    subst hz
    refine E4 [(0,some 1)] (R3 (AI (AI rfl TV) (AI rfl TV)))
   refine gdNF (gdNF (gdNF (condT ?_)))
   have hz := someE hF
   subst hz
   refine E4 [(0,some 1)] (R3 (AI (AI rfl TV) (AI rfl TV)))
  refine AI (condI hF (fun hF=>?_) (fun hF=>?_)) TV
  ·refine OL ?_
   have hz := someE hF
   subst hz
   refine E4 [] (R3 (AI (AI rfl TV) TV))
  have hz := someE hF
  subst hz
  refine E4 [(0,some 0)] (R2 (AI (AI rfl TV) (AI rfl TV)))
 rcases z93 with z93a | z93b
 ·dsimp only [sumF] at hF
  refine AI (OL ?_) TV
  have hy := someE hF
  subst hy
  refine AI rfl (E4 [(0,some 0)] (R3 (AI (AI rfl TV) (AI rfl TV))))
 dsimp only [sumF] at hF
 refine AI ?_ TV
 have hy := someE hF
 subst hy
 refine AI rfl (E4 [(0,none)] (R3 (AI (AI rfl TV) (AI rfl TV))))
theorem C15_holds : C15.Holds Tryz.prog 15 := holds_of_vc tab_ok mixed (fn := Tryz.f15) (by kernel_rfl) rfl C15 (fun x y hF=>C15_vc x y hF)
theorem f15_in : InP 15 := ⟨Tryz.f15,by kernel_rfl,by kernel_rfl,by kernel_rfl⟩
def f68_9000 (n:Int) : Option ByteArray :=
 none
def C68_9000 : Con where
 X := Int
 Y := ByteArray
 e := 0
 args x := [.dat T10 x]
 hin x := []
 F x := f68_9000 x
 ret y := [.dat .str y]
 hout y := []
 nout := 0
theorem C68_9000_holds : C68_9000.Holds Tryz.prog 68 := fun x y h=>nomatch h
theorem f68_9000_in : ∃ fn,Tryz.prog.funcs[68]? = some fn ∧ fn.body.isSome = true ∧ (fn.name == "runtime.NumGoroutine") = false := ⟨Tryz.f68,by kernel_rfl,by kernel_rfl,by kernel_rfl⟩
def f68_9001 (n:Int) : Option ByteArray :=
 bif (decide (n < (10:Int))) then
 some (strOfNums ([(u8.wrap (u64.wrap ((48:Int) + n)))]))
 else
 bindF (f68_9000 (u64.wrap (Int.tdiv n (10:Int)))) fun q3_2 =>
 guardF (((ByteArray.size q3_2 + ByteArray.size (strOfNums ([(u8.wrap (u64.wrap ((48:Int) + (Int.tmod n (10:Int)))))])) : Nat):Int) ≤ 140737488355328) <|
 some (q3_2 ++ (strOfNums ([(u8.wrap (u64.wrap ((48:Int) + (Int.tmod n (10:Int)))))])))
def C68_9001 : Con where
 X := Int
 Y := ByteArray
 e := 0
 args x := [.dat T10 x]
 hin x := []
 F x := f68_9001 x
 ret y := [.dat .str y]
 hout y := []
 nout := 0
theorem C68_9001_vc (n:Int) (y : ByteArray) (hF : f68_9001 n = some y) : VC Tryz.f68 C68_9001 n y := by
 unfold f68_9001 at hF
 refine OL (OL (OL (condI hF (fun hF=>?_) (fun hF=>?_))))
 ·refine OL (OL ?_)
  have hy := someE hF
  subst hy
  refine AI rfl (E4 [] (R2 (AI TV TV)))
 refine OL ?_
 obtain ⟨q3_2,hq3_2,hF⟩ := bindE hF
 obtain ⟨g3_1,hF⟩ := guardE hF
 refine EI (.take 0 (.take 1 (.take 3 (.take 4 (.take 5 (.take 6 (.alt 2 (.alt 7 (.alt 8 (.take 9 (.take 10 .done)) .done) .done) (.alt 7 (.alt 2 (.alt 8 (.take 9 (.take 10 .done)) .done) (.alt 8 (.alt 2 (.take 9 (.take 10 .done)) .done) .done)) .done)))))))) (EI [] (EI [] (AI rfl (AI (by decide) (AI (by decide) (AI (AI TV ?_) ?_))))))
 ·refine OL (AI (AI TV ?_) ?_)
  ·refine AI TV (OL (AI f68_9000_in (callV0 (callI C68_9000 (u64.wrap (Int.tdiv n (10:Int))) q3_2 [] false C68_9000_holds hq3_2 rfl rfl (AI rfl (AI (fun h=>nomatch h) (R2 (AI TV (AI TV (AI g3_1 ?_))))))))))
   have hy := someE hF
   subst hy
   refine AI rfl (E4 [] (R2 (AI TV TV)))
  refine OL (AI f68_9000_in (callV0 (callI C68_9000 (u64.wrap (Int.tdiv n (10:Int))) q3_2 [] false C68_9000_holds hq3_2 rfl rfl (AI rfl (AI (fun h=>nomatch h) (R2 (AI TV (AI TV (AI TV (AI g3_1 ?_))))))))))
  have hy := someE hF
  subst hy
  refine AI rfl (E4 [] (R2 (AI TV TV)))
 refine OL (AI f68_9000_in (callV0 (callI C68_9000 (u64.wrap (Int.tdiv n (10:Int))) q3_2 [] false C68_9000_holds hq3_2 rfl rfl (AI rfl (AI (fun h=>nomatch h) (R2 (AI TV (AI TV (AI TV (OL (AI TV (AI g3_1 ?_))))))))))))
 have hy := someE hF
 subst hy
 refine AI rfl (E4 [] (R2 (AI TV TV)))
theorem C68_9001_holds : C68_9001.Holds Tryz.prog 68 := holds_of_vc tab_ok mixed (fn := Tryz.f68) (by kernel_rfl) rfl C68_9001 (fun x y hF=>C68_9001_vc x y hF)
theorem f68_9001_in : ∃ fn,Tryz.prog.funcs[68]? = some fn ∧ fn.body.isSome = true ∧ (fn.name == "runtime.NumGoroutine") = false := ⟨Tryz.f68,by kernel_rfl,by kernel_rfl,by kernel_rfl⟩
def f68_9002 (n:Int) : Option ByteArray :=
 bif (decide (n < (10:Int))) then
 some (strOfNums ([(u8.wrap (u64.wrap ((48:Int) + n)))]))
 else
 bindF (f68_9001 (u64.wrap (Int.tdiv n (10:Int)))) fun q3_2 =>
 guardF (((ByteArray.size q3_2 + ByteArray.size (strOfNums ([(u8.wrap (u64.wrap ((48:Int) + (Int.tmod n (10:Int)))))])) : Nat):Int) ≤ 140737488355328) <|
 some (q3_2 ++ (strOfNums ([(u8.wrap (u64.wrap ((48:Int) + (Int.tmod n (10:Int)))))])))
def C68_9002 : Con where
 X := Int
 Y := ByteArray
 e := 0
 args x := [.dat T10 x]
 hin x := []
 F x := f68_9002 x
 ret y := [.dat .str y]
 hout y := []
 nout := 0
theorem C68_9002_vc (n:Int) (y : ByteArray) (hF : f68_9002 n = some y) : VC Tryz.f68 C68_9002 n y := by
 unfold f68_9002 at hF
 refine OL (OL (OL (condI hF (fun hF=>?_) (fun hF=>?_))))
 ·refine OL (OL ?_)
  have hy := someE hF
  subst hy
  refine AI rfl (E4 [] (R2 (AI TV TV)))
 refine OL ?_
 obtain ⟨q3_2,hq3_2,hF⟩ := bindE hF
 obtain ⟨g3_1,hF⟩ := guardE hF
 refine EI (.take 0 (.take 1 (.take 3 (.take 4 (.take 5 (.take 6 (.alt 2 (.alt 7 (.alt 8 (.take 9 (.take 10 .done)) .done) .done) (.alt 7 (.alt 2 (.alt 8 (.take 9 (.take 10 .done)) .done) (.alt 8 (.alt 2 (.take 9 (.take 10 .done)) .done) .done)) .done)))))))) (EI [] (EI [] (AI rfl (AI (by decide) (AI (by decide) (AI (AI TV ?_) ?_))))))
 ·refine OL (AI (AI TV ?_) ?_)
  ·refine AI TV (OL (AI f68_9001_in (callV0 (callI C68_9001 (u64.wrap (Int.tdiv n (10:Int))) q3_2 [] false C68_9001_holds hq3_2 rfl rfl (AI rfl (AI (fun h=>nomatch h) (R2 (AI TV (AI TV (AI g3_1 ?_))))))))))
   have hy := someE hF
   subst hy
   refine AI rfl (E4 [] (R2 (AI TV TV)))
  refine OL (AI f68_9001_in (callV0 (callI C68_9001 (u64.wrap (Int.tdiv n (10:Int))) q3_2 [] false C68_9001_holds hq3_2 rfl rfl (AI rfl (AI (fun h=>nomatch h) (R2 (AI TV (AI TV (AI TV (AI g3_1 ?_))))))))))
  have hy := someE hF
  subst hy
  refine AI rfl (E4 [] (R2 (AI TV TV)))
 refine OL (AI f68_9001_in (callV0 (callI C68_9001 (u64.wrap (Int.tdiv n (10:Int))) q3_2 [] false C68_9001_holds hq3_2 rfl rfl (AI rfl (AI (fun h=>nomatch h) (R2 (AI TV (AI TV (AI TV (OL (AI TV (AI g3_1 ?_))))))))))))
 have hy := someE hF
 subst hy
 refine AI rfl (E4 [] (R2 (AI TV TV)))
theorem C68_9002_holds : C68_9002.Holds Tryz.prog 68 := holds_of_vc tab_ok mixed (fn := Tryz.f68) (by kernel_rfl) rfl C68_9002 (fun x y hF=>C68_9002_vc x y hF)
theorem f68_9002_in : ∃ fn,Tryz.prog.funcs[68]? = some fn ∧ fn.body.isSome = true ∧ (fn.name == "runtime.NumGoroutine") = false := ⟨Tryz.f68,by kernel_rfl,by kernel_rfl,by kernel_rfl⟩
def f68_9003 (n:Int) : Option ByteArray :=
 bif (decide (n < (10:Int))) then
 some (strOfNums ([(u8.wrap (u64.wrap ((48:Int) + n)))]))
 else
 bindF (f68_9002 (u64.wrap (Int.tdiv n (10:Int)))) fun q3_2 =>
 guardF (((ByteArray.size q3_2 + ByteArray.size (strOfNums ([(u8.wrap (u64.wrap ((48:Int) + (Int.tmod n (10:Int)))))])) : Nat):Int) ≤ 140737488355328) <|
 some (q3_2 ++ (strOfNums ([(u8.wrap (u64.wrap ((48:Int) + (Int.tmod n (10:Int)))))])))
def C68_9003 : Con where
 X := Int
 Y := ByteArray
 e := 0
 args x := [.dat T10 x]
 hin x := []
 F x := f68_9003 x
 ret y := [.dat .str y]
 hout y := []
 nout := 0
theorem C68_9003_vc (n:Int) (y : ByteArray) (hF : f68_9003 n = some y) : VC Tryz.f68 C68_9003 n y := by
 unfold f68_9003 at hF
 refine OL (OL (OL (condI hF (fun hF=>?_) (fun hF=>?_))))
 ·refine OL (OL ?_)
  have hy := someE hF
  subst hy
  refine AI rfl (E4 [] (R2 (AI TV TV)))
 refine OL ?_
 obtain ⟨q3_2,hq3_2,hF⟩ := bindE hF
 obtain ⟨g3_1,hF⟩ := guardE hF
 refine EI (.take 0 (.take 1 (.take 3 (.take 4 (.take 5 (.take 6 (.alt 2 (.alt 7 (.alt 8 (.take 9 (.take 10 .done)) .done) .done) (.alt 7 (.alt 2 (.alt 8 (.take 9 (.take 10 .done)) .done) (.alt 8 (.alt 2 (.take 9 (.take 10 .done)) .done) .done)) .done)))))))) (EI [] (EI [] (AI rfl (AI (by decide) (AI (by decide) (AI (AI TV ?_) ?_))))))
 ·refine OL (AI (AI TV ?_) ?_)
  ·refine AI TV (OL (AI f68_9002_in (callV0 (callI C68_9002 (u64.wrap (Int.tdiv n (10:Int))) q3_2 [] false C68_9002_holds hq3_2 rfl rfl (AI rfl (AI (fun h=>nomatch h) (R2 (AI TV (AI TV (AI g3_1 ?_))))))))))
   have hy := someE hF
   subst hy
   refine AI rfl (E4 [] (R2 (AI TV TV)))
  refine OL (AI f68_9002_in (callV0 (callI C68_9002 (u64.wrap (Int.tdiv n (10:Int))) q3_2 [] false C68_9002_holds hq3_2 rfl rfl (AI rfl (AI (fun h=>nomatch h) (R2 (AI TV (AI TV (AI TV (AI g3_1 ?_))))))))))
  have hy := someE hF
  subst hy
  refine AI rfl (E4 [] (R2 (AI TV TV)))
 refine OL (AI f68_9002_in (callV0 (callI C68_9002 (u64.wrap (Int.tdiv n (10:Int))) q3_2 [] false C68_9002_holds hq3_2 rfl rfl (AI rfl (AI (fun h=>nomatch h) (R2 (AI TV (AI TV (AI TV (OL (AI TV (AI g3_1 ?_))))))))))))
 have hy := someE hF
 subst hy
 refine AI rfl (E4 [] (R2 (AI TV TV)))
theorem C68_9003_holds : C68_9003.Holds Tryz.prog 68 := holds_of_vc tab_ok mixed (fn := Tryz.f68) (by kernel_rfl) rfl C68_9003 (fun x y hF=>C68_9003_vc x y hF)
theorem f68_9003_in : ∃ fn,Tryz.prog.funcs[68]? = some fn ∧ fn.body.isSome = true ∧ (fn.name == "runtime.NumGoroutine") = false := ⟨Tryz.f68,by kernel_rfl,by kernel_rfl,by kernel_rfl⟩
def f68_9004 (n:Int) : Option ByteArray :=
 bif (decide (n < (10:Int))) then
 some (strOfNums ([(u8.wrap (u64.wrap ((48:Int) + n)))]))
 else
 bindF (f68_9003 (u64.wrap (Int.tdiv n (10:Int)))) fun q3_2 =>
 guardF (((ByteArray.size q3_2 + ByteArray.size (strOfNums ([(u8.wrap (u64.wrap ((48:Int) + (Int.tmod n (10:Int)))))])) : Nat):Int) ≤ 140737488355328) <|
 some (q3_2 ++ (strOfNums ([(u8.wrap (u64.wrap ((48:Int) + (Int.tmod n (10:Int)))))])))
def C68_9004 : Con where
 X := Int
 Y := ByteArray
 e := 0
 args x := [.dat T10 x]
 hin x := []
 F x := f68_9004 x
 ret y := [.dat .str y]
 hout y := []
 nout := 0
theorem C68_9004_vc (n:Int) (y : ByteArray) (hF : f68_9004 n = some y) : VC Tryz.f68 C68_9004 n y := by
 unfold f68_9004 at hF
 refine OL (OL (OL (condI hF (fun hF=>?_) (fun hF=>?_))))
 ·refine OL (OL ?_)
  have hy := someE hF
  subst hy
  refine AI rfl (E4 [] (R2 (AI TV TV)))
 refine OL ?_
 obtain ⟨q3_2,hq3_2,hF⟩ := bindE hF
 obtain ⟨g3_1,hF⟩ := guardE hF
 refine EI (.take 0 (.take 1 (.take 3 (.take 4 (.take 5 (.take 6 (.alt 2 (.alt 7 (.alt 8 (.take 9 (.take 10 .done)) .done) .done) (.alt 7 (.alt 2 (.alt 8 (.take 9 (.take 10 .done)) .done) (.alt 8 (.alt 2 (.take 9 (.take 10 .done)) .done) .done)) .done)))))))) (EI [] (EI [] (AI rfl (AI (by decide) (AI (by decide) (AI (AI TV ?_) ?_))))))
 ·refine OL (AI (AI TV ?_) ?_)
  ·refine AI TV (OL (AI f68_9003_in (callV0 (callI C68_9003 (u64.wrap (Int.tdiv n (10:Int))) q3_2 [] false C68_9003_holds hq3_2 rfl rfl (AI rfl (AI (fun h=>nomatch h) (R2 (AI TV (AI TV (AI g3_1 ?_))))))))))
   have hy := someE hF
   subst hy
   refine AI rfl (E4 [] (R2 (AI TV TV)))
  refine OL (AI f68_9003_in (callV0 (callI C68_9003 (u64.wrap (Int.tdiv n (10:Int))) q3_2 [] false C68_9003_holds hq3_2 rfl rfl (AI rfl (AI (fun h=>nomatch h) (R2 (AI TV (AI TV (AI TV (AI g3_1 ?_))))))))))
  have hy := someE hF
  subst hy
  refine AI rfl (E4 [] (R2 (AI TV TV)))
 refine OL (AI f68_9003_in (callV0 (callI C68_9003 (u64.wrap (Int.tdiv n (10:Int))) q3_2 [] false C68_9003_holds hq3_2 rfl rfl (AI rfl (AI (fun h=>nomatch h) (R2 (AI TV (AI TV (AI TV (OL (AI TV (AI g3_1 ?_))))))))))))
 have hy := someE hF
 subst hy
 refine AI rfl (E4 [] (R2 (AI TV TV)))
theorem C68_9004_holds : C68_9004.Holds Tryz.prog 68 := holds_of_vc tab_ok mixed (fn := Tryz.f68) (by kernel_rfl) rfl C68_9004 (fun x y hF=>C68_9004_vc x y hF)
theorem f68_9004_in : ∃ fn,Tryz.prog.funcs[68]? = some fn ∧ fn.body.isSome = true ∧ (fn.name == "runtime.NumGoroutine") = false := ⟨Tryz.f68,by kernel_rfl,by kernel_rfl,by kernel_rfl⟩
def f41 (n:Int) : Option ByteArray :=
 bindF (f68_9004 (u64.wrap n)) fun r1 =>
 some r1
def C41 : Con where
 X := Int
 Y := ByteArray
 e := 0
 args x := [.dat T1 x]
 hin x := []
 F x := f41 x
 ret y := [.dat .str y]
 hout y := []
 nout := 0
theorem C41_vc (n:Int) (y : ByteArray) (hF : f41 n = some y) : VC Tryz.f41 C41 n y := by
 unfold f41 at hF
 refine OL (OL ?_)
 obtain ⟨r1,hr1,hF⟩ := bindE hF
 refine OL (AI f68_9004_in (callV0 (callI C68_9004 (u64.wrap n) r1 [] false C68_9004_holds hr1 rfl rfl (AI rfl (AI (fun h=>nomatch h) (R2 (AI TV (AI TV ?_))))))))
 have hy := someE hF
 subst hy
 refine AI rfl (E4 [] (R2 (AI TV TV)))
theorem C41_holds : C41.Holds Tryz.prog 41 := holds_of_vc tab_ok mixed (fn := Tryz.f41) (by kernel_rfl) rfl C41 (fun x y hF=>C41_vc x y hF)
theorem f41_in : InP 41 := ⟨Tryz.f41,by kernel_rfl,by kernel_rfl,by kernel_rfl⟩
def f17_l1 (n : (List Int)×(List (ByteArray×Int×Int))) (go : (ByteArray×Int) → Option ByteArray) (s : ByteArray) (i:Int) : Option ByteArray :=
 bif (decide (i < (List.length n.1:Int))) then
 guardF (((ByteArray.size s + ByteArray.size (ByteArray.mk #[32]) : Nat):Int) ≤ 140737488355328) <|
 guardF (0 ≤ i ∧ i < (List.length n.1:Int)) <|
 bindF (f41 (rd (0:Int) n.1 i)) fun r5 =>
 guardF (((ByteArray.size (s ++ (ByteArray.mk #[32])) + ByteArray.size r5 : Nat):Int) ≤ 140737488355328) <|
 go (((s ++ (ByteArray.mk #[32])) ++ r5),(i64.wrap (i + (1:Int))))
 else
 some s
def f17_j5 (n : (List Int)×(List (ByteArray×Int×Int))) (s : ByteArray) (i:Int) : Option ByteArray :=
 bif (!(ByteArray.toList ((rd (Ty.z T3) n.2 i).1) == ByteArray.toList (ByteArray.mk #[115,107,105,112]))) then
 guardF (((ByteArray.size ((s ++ (ByteArray.mk #[32])) ++ ((rd (Ty.z T3) n.2 i).1)) + ByteArray.size (ByteArray.mk #[32]) : Nat):Int) ≤ 140737488355328) <|
 bindF (f41 (((rd (Ty.z T3) n.2 i).2).1)) fun r17 =>
 guardF (((ByteArray.size (((s ++ (ByteArray.mk #[32])) ++ ((rd (Ty.z T3) n.2 i).1)) ++ (ByteArray.mk #[32])) + ByteArray.size r17 : Nat):Int) ≤ 140737488355328) <|
 some ((((s ++ (ByteArray.mk #[32])) ++ ((rd (Ty.z T3) n.2 i).1)) ++ (ByteArray.mk #[32])) ++ r17)
 else
 some ((s ++ (ByteArray.mk #[32])) ++ ((rd (Ty.z T3) n.2 i).1))
def f17_l4 (n : (List Int)×(List (ByteArray×Int×Int))) (go : (ByteArray×Int) → Option ByteArray) (s : ByteArray) (i:Int) : Option ByteArray :=
 bif (decide (i < (List.length n.2:Int))) then
 guardF (0 ≤ i ∧ i < (List.length n.2:Int)) <|
 guardF (((ByteArray.size s + ByteArray.size (ByteArray.mk #[32]) : Nat):Int) ≤ 140737488355328) <|
 guardF (((ByteArray.size (s ++ (ByteArray.mk #[32])) + ByteArray.size ((rd (Ty.z T3) n.2 i).1) : Nat):Int) ≤ 140737488355328) <|
 bindF (f17_j5 n s i) fun z16 =>
 bif (ByteArray.toList ((rd (Ty.z T3) n.2 i).1) == ByteArray.toList (ByteArray.mk #[99,111,110,118])) then
 guardF (((ByteArray.size z16 + ByteArray.size (ByteArray.mk #[32]) : Nat):Int) ≤ 140737488355328) <|
 bindF (f41 (((rd (Ty.z T3) n.2 i).2).2)) fun r18 =>
 guardF (((ByteArray.size (z16 ++ (ByteArray.mk #[32])) + ByteArray.size r18 : Nat):Int) ≤ 140737488355328) <|
 go (((z16 ++ (ByteArray.mk #[32])) ++ r18),(i64.wrap (i + (1:Int))))
 else
 go (z16,(i64.wrap (i + (1:Int))))
 else
 some s
def f17 (n : (List Int)×(List (ByteArray×Int×Int))) : Option ByteArray :=
 bindF (f15 (n.1,n.2)) fun r1 =>
 bif (r1.2.1 != (0:Int)) then
 some (ByteArray.mk #[])
 else
 bindF (loopF (fun go x=>f17_l1 n go x.1 x.2) fuelN ((ByteArray.mk #[105,110]),(0:Int))) fun z4 =>
 bindF (loopF (fun go x=>f17_l4 n go x.1 x.2) fuelN (z4,(0:Int))) fun z14 =>
 some z14
def C17 : Con where
 X := (List Int)×(List (ByteArray×Int×Int))
 Y := ByteArray
 e := 0
 args x := [.dat T4 x]
 hin x := []
 F x := f17 x
 ret y := [.dat .str y]
 hout y := []
 nout := 0
theorem C17_vc (n : (List Int)×(List (ByteArray×Int×Int))) (y : ByteArray) (hF : f17 n = some y) : VC Tryz.f17 C17 n y := by
 unfold f17 at hF
 refine OL (OL ?_)
 obtain ⟨r1,hr1,hF⟩ := bindE hF
 refine OL (AI f15_in (callV0 (callI C15 (n.1,n.2) r1 [] false C15_holds hr1 rfl rfl (R2 (AI (fun h=>nomatch h) (R2 (AI TV (AI TV (OL (OL (condI hF (fun hF=>?_) (fun hF=>?_))))))))))))
 ·refine OL ?_
  have hy := someE hF
  subst hy
  refine AI rfl (E4 [] (R2 (AI TV TV)))
 refine OL (OL (OL ?_))
 obtain ⟨z4,hz4,hF⟩ := bindE hF
 refine loopI (ByteArray×Int) ByteArray (fun x=>⟨[(1,P0 0 0),(6,.dat .str x.1),(7,.dat T1 x.2)],[(0,.cells [(.d T6 n.1),(.d T5 n.2)])],1⟩) (fun z=>[(2,⟨[(1,P0 0 0),(6,.dat .str z)],[(0,.cells [(.d T6 n.1),(.d T5 n.2)])],1⟩)]) (loopF (fun go x=>f17_l1 n go x.1 x.2)) fuelN ((ByteArray.mk #[105,110]),(0:Int)) z4 (AI hz4 (AI (E4 [(0,some 0)] (R3 (AI (AI rfl TV) (AI rfl TV)))) (AI (fun _ _ h=>loopZ h) (AI (fun m=>curI (fun s=>fun i z hF=>?_)) ?_))))
 ·have hF : f17_l1 n (loopF (fun go x=>f17_l1 n go x.1 x.2) m) s i = some z := hF
  unfold f17_l1 at hF
  refine OL (OL (condI hF (fun hF=>?_) (fun hF=>?_)))
  ·refine OL (guardI hF (fun hF=>?_))
   refine guardI hF (fun hF=>?_)
   obtain ⟨r5,hr5,hF⟩ := bindE hF
   refine OL (AI f41_in (callV0 (callI C41 (rd (0:Int) n.1 i) r5 [] false C41_holds hr5 rfl rfl (AI rfl (AI (fun h=>nomatch h) (R2 (AI TV (AI TV (guardI hF (fun hF=>?_))))))))))
   refine EI (((s ++ (ByteArray.mk #[32])) ++ r5),(i64.wrap (i + (1:Int)))) (AI hF (E4 [(0,some 0)] (R3 (AI (AI rfl TV) (AI rfl TV)))))
  have hz := someE hF
  subst hz
  refine E4 [(0,some 0)] (R2 (AI (AI rfl TV) (AI rfl TV)))
 refine AI (OL (OL ?_)) TV
 obtain ⟨z14,hz14,hF⟩ := bindE hF
 refine loopI (ByteArray×Int) ByteArray (fun x=>⟨[(1,P0 0 0),(6,.dat .str x.1),(8,.dat T1 x.2)],[(0,.cells [(.d T6 n.1),(.d T5 n.2)])],1⟩) (fun z=>[(4,⟨[(6,.dat .str z)],[],0⟩)]) (loopF (fun go x=>f17_l4 n go x.1 x.2)) fuelN (z4,(0:Int)) z14 (AI hz14 (AI (E4 [(0,some 0)] (R3 (AI (AI rfl TV) (AI rfl TV)))) (AI (fun _ _ h=>loopZ h) (AI (fun m=>curI (fun s=>fun i z hF=>?_)) ?_))))
 ·have hF : f17_l4 n (loopF (fun go x=>f17_l4 n go x.1 x.2) m) s i = some z := hF
  unfold f17_l4 at hF
  refine OL (OL (condI hF (fun hF=>?_) (fun hF=>?_)))
  ·refine OL (OL (guardI hF (fun hF=>?_)))
   refine OL (OL (guardI hF (fun hF=>?_)))
   refine guardI hF (fun hF=>?_)
   obtain ⟨z16,hz16,hF⟩ := bindE hF
   refine OQ ⟨[(0,⟨[(1,P0 0 0),(6,.dat .str z16),(8,.dat T1 i),(9,P0 1 0)],[(0,.cells [(.d T6 n.1),(.d T5 n.2)]),(1,.cells [(.d .str ((rd (Ty.z T3) n.2 i).1)),(.d T1 (((rd (Ty.z T3) n.2 i).2).1)),(.d T1 (((rd (Ty.z T3) n.2 i).2).2))])],2⟩)],?_,?_⟩
   ·have hF := hz16
    clear hz16
    unfold f17_j5 at hF
    refine OL (condI hF (fun hF=>?_) (fun hF=>?_))
    ·refine guardI hF (fun hF=>?_)
     obtain ⟨r17,hr17,hF⟩ := bindE hF
     refine OL (AI f41_in (callV0 (callI C41 ((rd (Ty.z T3) n.2 i).2).1 r17 [] false C41_holds hr17 rfl rfl (AI rfl (AI (fun h=>nomatch h) (R2 (AI TV (AI TV (guardI hF (fun hF=>?_))))))))))
     have hz := someE hF
     subst hz
     refine E4 [(0,some 0),(1,some 1)] (R3 (AI (R2 TV) (R2 TV)))
    have hz := someE hF
    subst hz
    refine E4 [(0,some 0),(1,some 1)] (R3 (AI (R2 TV) (R2 TV)))
   refine AI (OL (condI hF (fun hF=>?_) (fun hF=>?_))) TV
   ·refine guardI hF (fun hF=>?_)
    obtain ⟨r18,hr18,hF⟩ := bindE hF
    refine OL (AI f41_in (callV0 (callI C41 ((rd (Ty.z T3) n.2 i).2).2 r18 [] false C41_holds hr18 rfl rfl (AI rfl (AI (fun h=>nomatch h) (R2 (AI TV (AI TV (guardI hF (fun hF=>?_))))))))))
    refine EI (((z16 ++ (ByteArray.mk #[32])) ++ r18),(i64.wrap (i + (1:Int)))) (AI hF (E4 [(0,some 0)] (R3 (AI (AI rfl TV) (AI rfl TV)))))
   refine EI (z16,(i64.wrap (i + (1:Int)))) (AI hF (E4 [(0,some 0)] (R3 (AI (AI rfl TV) (AI rfl TV)))))
  have hz := someE hF
  subst hz
  refine E4 [] (R2 (AI TV TV))
 refine AI (OL ?_) TV
 have hy := someE hF
 subst hy
 refine AI rfl (E4 [] (R2 (AI TV TV)))
theorem C17_holds : C17.Holds Tryz.prog 17 := holds_of_vc tab_ok mixed (fn := Tryz.f17) (by kernel_rfl) rfl C17 (fun x y hF=>C17_vc x y hF)
theorem f17_in : InP 17 := ⟨Tryz.f17,by kernel_rfl,by kernel_rfl,by kernel_rfl⟩
def f4_j1 (n : (List Int)×(List (ByteArray×Int×Int))) : Option (Sum Unit Unit) :=
 bif (decide ((List.length n.1:Int) > (10:Int))) then
 some (Sum.inr ())
 else
 bif (decide ((List.length n.2:Int) > (40:Int))) then
 some (Sum.inr ())
 else
 some (Sum.inl ())
def f4_j2 (n : (List Int)×(List (ByteArray×Int×Int))) (r2 : Int×(List (List Int))) (r3 : Int×Int) (r5 : Int×Int×(List (List Int))) : Option (Sum Unit Unit) :=
 bif (r2.1 != r5.2.1) then
 some (Sum.inr ())
 else
 bif (r3.2 != r5.2.1) then
 some (Sum.inr ())
 else
 bif (r3.1 != r5.1) then
 some (Sum.inr ())
 else
 bif ((List.length r2.2:Int) != (List.length r5.2.2:Int)) then
 some (Sum.inr ())
 else
 bindF (f14 (n.1,n.2)) fun q8_22 =>
 bindF (f16 (n.1,n.2)) fun q8_24 =>
 bindF (f17 (q8_24.1,q8_24.2)) fun q8_25 =>
 bif (!(ByteArray.toList q8_22 == ByteArray.toList q8_25)) then
 some (Sum.inr ())
 else
 some (Sum.inl ())
def f4_l3 (r2 : Int×(List (List Int))) (r5 : Int×Int×(List (List Int))) (go : Int → Option (Sum Unit Unit)) (i:Int) : Option (Sum Unit Unit) :=
 bif (decide (i < (List.length r5.2.2:Int))) then
 guardF (0 ≤ i ∧ i < (List.length r2.2:Int)) <|
 guardF (0 ≤ i ∧ i < (List.length r5.2.2:Int)) <|
 bindF (f13 (rd (Ty.z T6) r2.2 i) (rd (Ty.z T6) r5.2.2 i)) fun q13_8 =>
 bif (!q13_8) then
 some (Sum.inl ())
 else
 go (i64.wrap (i + (1:Int)))
 else
 some (Sum.inr ())
def f4 (n : (List Int)×(List (ByteArray×Int×Int))) : Option Bool :=
 bindF (f9) fun q13_9 =>
 bif (!q13_9) then
 some false
 else
 bindF (f4_j1 n) fun z1 =>
 sumF z1 (fun z1a =>
 bindF (f11 (n.1,n.2)) fun r2 =>
 bindF (f12 (n.1,n.2)) fun r3 =>
 bindF (f16 (n.1,n.2)) fun r4 =>
 bindF (f15 (r4.1,r4.2)) fun r5 =>
 bindF (f4_j2 n r2 r3 r5) fun z6 =>
 sumF z6 (fun z6a =>
 bindF (loopF (fun go x=>f4_l3 r2 r5 go x) fuelN (0:Int)) fun z7 =>
 sumF z7 (fun z7a =>
 some false) (fun z7b =>
 some true)) (fun z6b =>
 some false)) (fun z1b =>
 some true)
def C4 : Con where
 X := (List Int)×(List (ByteArray×Int×Int))
 Y := Bool
 e := 0
 args x := [.dat T4 x]
 hin x := []
 F x := f4 x
 ret y := [.dat .bool y]
 hout y := []
 nout := 0
theorem C4_vc (n : (List Int)×(List (ByteArray×Int×Int))) (y : Bool) (hF : f4 n = some y) : VC Tryz.f4 C4 n y := by
 unfold f4 at hF
 refine OL (OL (OL ?_))
 obtain ⟨q13_9,hq13_9,hF⟩ := bindE hF
 refine OL (AI f9_in (callV0 (callI C9 () q13_9 [] false C9_holds hq13_9 rfl rfl (AI (fun h=>nomatch h) (R2 (AI TV (AI TV (condI hF (fun hF=>?_) (fun hF=>?_)))))))))
 ·refine OL ?_
  have hy := someE hF
  subst hy
  refine AI rfl (E4 [] (R2 (AI TV TV)))
 obtain ⟨z1,hz1,hF⟩ := bindE hF
 refine OQ ⟨Sum.elim (fun z1a=>[(0,⟨[(1,P0 0 0)],[(0,.cells [(.d T6 n.1),(.d T5 n.2)])],1⟩)]) (fun z1b=>[(1,⟨[(2,.dat .bool true)],[],0⟩)]) z1,?_,?_⟩
 ·have hF := hz1
  clear hz1
  unfold f4_j1 at hF
  refine OL (condN hF (fun hF=>?_) (fun hF=>?_))
  ·refine gdYF (gdYF (gdYF (condF (condI hF (fun hF=>?_) (fun hF=>?_)))))
   ·refine OL ?_
    have hz := someE hF
    subst hz
    refine E4 [] (R2 (AI TV TV))
   have hz := someE hF
   subst hz
   refine E4 [(0,some 0)] (AI rfl (AI (AI rfl TV) (AI rfl TV)))
  refine gdNF (gdNF (gdNF (condT (condT (OL ?_)))))
  have hz := someE hF
  subst hz
  refine E4 [] (R2 (AI TV TV))
 rcases z1 with z1a | z1b
 ·dsimp only [sumF] at hF
  refine AI (OL ?_) TV
  obtain ⟨r2,hr2,hF⟩ := bindE hF
  refine OL (AI f11_in (callV0 (callI C11 (n.1,n.2) r2 [] false C11_holds hr2 rfl rfl (R2 (AI (fun h=>nomatch h) (R2 (AI TV (AI TV (OL ?_)))))))))
  obtain ⟨r3,hr3,hF⟩ := bindE hF
  refine OL (AI f12_in (callV0 (callI C12 (n.1,n.2) r3 [] false C12_holds hr3 rfl rfl (R2 (AI (fun h=>nomatch h) (R2 (AI TV (AI TV (OL ?_)))))))))
  obtain ⟨r4,hr4,hF⟩ := bindE hF
  refine OL (AI f16_in (callV0 (callI C16 (n.1,n.2) r4 [] false C16_holds hr4 rfl rfl (R2 (AI (fun h=>nomatch h) (R2 (AI TV (AI TV ?_))))))))
  obtain ⟨r5,hr5,hF⟩ := bindE hF
  refine OL (AI f15_in (callV0 (callI C15 (r4.1,r4.2) r5 [] false C15_holds hr5 rfl rfl (R2 (AI (fun h=>nomatch h) (R2 (AI TV (AI TV ?_))))))))
  obtain ⟨z6,hz6,hF⟩ := bindE hF
  refine OQ ⟨Sum.elim (fun z6a=>[(0,⟨[(3,O0 0),(7,O0 1)],[(0,.arr 23 T6 r2.2),(1,.arr 23 T6 r5.2.2)],2⟩)]) (fun z6b=>[(1,⟨[(2,.dat .bool false)],[],0⟩)]) z6,?_,?_⟩
  ·have hF := hz6
   clear hz6
   unfold f4_j2 at hF
   refine OL (EI (.take 0 (.take 1 (.take 2 (.take 3 (.take 4 (.take 5 (.take 6 (.take 7 (.take 8 (.take 9 (.take 10 (.take 11 (.take 12 (.take 13 (.take 14 (.take 15 (.take 16 (.take 17 (.take 18 (.take 19 (.take 20 (.take 21 (.take 23 (.alt 22 (.alt 24 (.alt 25 (.take 26 (.take 27 .done)) .done) .done) .done)))))))))))))))))))))))) (EI [] (EI [] (AI rfl (condN hF (fun hF=>?_) (fun hF=>?_))))))
   ·refine gdYF (gdYF (condF (condN hF (fun hF=>?_) (fun hF=>?_))))
    ·refine gdYF (gdYF (condF (condN hF (fun hF=>?_) (fun hF=>?_))))
     ·refine gdYF (gdYF (gdYF (gdYF (condF (condN hF (fun hF=>?_) (fun hF=>?_))))))
      ·refine gdYF (AI TV (gdYF ?_))
       obtain ⟨q8_22,hq8_22,hF⟩ := bindE hF
       refine OL (AI f14_in (callV0 (callI C14 (n.1,n.2) q8_22 [] false C14_holds hq8_22 rfl rfl (R2 (AI (fun h=>nomatch h) (R2 (AI TV (AI TV (AI TV (gdYF ?_))))))))))
       obtain ⟨q8_24,hq8_24,hF⟩ := bindE hF
       refine OL (AI f16_in (callV0 (callI C16 (n.1,n.2) q8_24 [] false C16_holds hq8_24 rfl rfl (R2 (AI (fun h=>nomatch h) (R2 (AI TV (AI TV (AI TV (gdYF ?_))))))))))
       obtain ⟨q8_25,hq8_25,hF⟩ := bindE hF
       refine OL (AI f17_in (callV0 (callI C17 (q8_24.1,q8_24.2) q8_25 [] true C17_holds hq8_25 rfl rfl (R2 (AI (fun _=>rfl) (R2 (AI TV (AI TV (gdYF (condF (condI hF (fun hF=>?_) (fun hF=>?_))))))))))))
       ·refine OL ?_
        have hz := someE hF
        subst hz
        refine E4 [] (R2 (AI TV TV))
       have hz := someE hF
       subst hz
       refine E4 [(0,some 1),(1,some 3)] (AI rfl (AI (R2 TV) (R2 TV)))
      refine gdNF (AI TV (gdNF (AI TV (gdNF (AI TV (gdNF (gdNF (condT (condT (OL ?_))))))))))
      have hz := someE hF
      subst hz
      refine E4 [] (R2 (AI TV TV))
     refine gdNF (gdNF (gdNF (gdNF (condT (gdNF (gdNF (AI TV (gdNF (AI TV (gdNF (AI TV (gdNF (gdNF (condT (condT (OL ?_))))))))))))))))
     have hz := someE hF
     subst hz
     refine E4 [] (R2 (AI TV TV))
    refine gdNF (gdNF (condT (gdNF (gdNF (gdNF (gdNF (gdNF (condT (gdNF (gdNF (AI TV (gdNF (AI TV (gdNF (AI TV (gdNF (gdNF (condT (condT (OL ?_))))))))))))))))))))
    have hz := someE hF
    subst hz
    refine E4 [] (R2 (AI TV TV))
   refine gdNF (gdNF (condT (gdNF (gdNF (gdNF (condT (gdNF (gdNF (gdNF (gdNF (gdNF (condT (gdNF (gdNF (AI TV (gdNF (AI TV (gdNF (AI TV (gdNF (gdNF (condT (condT (OL ?_))))))))))))))))))))))))
   have hz := someE hF
   subst hz
   refine E4 [] (R2 (AI TV TV))
  rcases z6 with z6a | z6b
  ·dsimp only [sumF] at hF
   refine AI (OL (OL ?_)) TV
   obtain ⟨z7,hz7,hF⟩ := bindE hF
   refine loopI Int (Sum Unit Unit) (fun x=>⟨[(3,O0 0),(7,O0 1),(10,.dat T1 x)],[(0,.arr 23 T6 r2.2),(1,.arr 23 T6 r5.2.2)],2⟩) (fun z=>Sum.elim (fun za=>[(1,⟨[(2,.dat .bool false)],[],0⟩)]) (fun zb=>[(2,⟨[],[],0⟩)]) z) (loopF (fun go x=>f4_l3 r2 r5 go x)) fuelN (0:Int) z7 (AI hz7 (AI (E4 [(0,some 0),(1,some 1)] (R2 (AI (R2 TV) (R2 TV)))) (AI (fun _ _ h=>loopZ h) (AI (fun m=>fun i z hF=>?_) ?_))))
   ·have hF : f4_l3 r2 r5 (loopF (fun go x=>f4_l3 r2 r5 go x) m) i = some z := hF
    unfold f4_l3 at hF
    refine OL (OL (condI hF (fun hF=>?_) (fun hF=>?_)))
    ·refine OL (OL (EI (.take 0 (.take 1 (.take 2 (.take 3 (.take 4 (.take 5 (.take 6 (.take 7 (.alt 8 (.take 9 .done) .done))))))))) (EI [] (EI [] (AI rfl (guardI hF (fun hF=>?_)))))))
     refine guardI hF (fun hF=>?_)
     refine AI TV ?_
     obtain ⟨q13_8,hq13_8,hF⟩ := bindE hF
     refine OL (AI f13_in (callV0 (callI C13 ((rd (Ty.z T6) r2.2 i),(rd (Ty.z T6) r5.2.2 i)) q13_8 [] false C13_holds hq13_8 rfl rfl (R2 (AI (fun h=>nomatch h) (R2 (AI TV (AI TV (condI hF (fun hF=>?_) (fun hF=>?_))))))))))
     ·refine OL ?_
      have hz := someE hF
      subst hz
      refine E4 [] (R2 (AI TV TV))
     refine EI (i64.wrap (i + (1:Int))) (AI hF (E4 [(0,some 0),(1,some 1)] (R2 (AI (R2 TV) (R2 TV)))))
    have hz := someE hF
    subst hz
    refine E4 [] (AI rfl (AI TV TV))
   rcases z7 with z7a | z7b
   ·dsimp only [sumF] at hF
    refine AI ?_ TV
    have hy := someE hF
    subst hy
    refine AI rfl (E4 [] (R2 (AI TV TV)))
   dsimp only [sumF] at hF
   refine AI (OL ?_) TV
   have hy := someE hF
   subst hy
   refine AI rfl (E4 [] (R2 (AI TV TV)))
  dsimp only [sumF] at hF
  refine AI ?_ TV
  have hy := someE hF
  subst hy
  refine AI rfl (E4 [] (R2 (AI TV TV)))
 dsimp only [sumF] at hF
 refine AI ?_ TV
 have hy := someE hF
 subst hy
 refine AI rfl (E4 [] (R2 (AI TV TV)))
theorem C4_holds : C4.Holds Tryz.prog 4 := holds_of_vc tab_ok mixed (fn := Tryz.f4) (by kernel_rfl) rfl C4 (fun x y hF=>C4_vc x y hF)
theorem f4_in : InP 4 := ⟨Tryz.f4,by kernel_rfl,by kernel_rfl,by kernel_rfl⟩
end Go.Proofs
