import Derived.Test.YtoicgngppmpapaaGreatSoloKnownS9
set_option linter.unusedVariables false
set_option maxRecDepth 100000
set_option maxHeartbeats 8000000
namespace Go.Proofs
open Go.AM
open IntKind (i64 u64 i32 u32 i16 u16 i8 u8)
def f79_j54 (n : LI×(List (ByteArray×Int×Int))) (great : Bool) (i:Int) (r74:Int) : Option Bool :=
 bif great then
 some true
 else
 some (decide ((i64.wrap ((((rd (Ty.z T6) n.2 i).2).1) * r74)) > (4096:Int)))
def f79_j57 (n : LI×(List (ByteArray×Int×Int))) (i:Int) (l1 : List LI) : Option Bool :=
 bif ((List.length (rd (Ty.z T1) l1 (i64.wrap ((List.length l1:Int) - (1:Int)))):Int) != (2:Int)) then
 some true
 else
 guardF (0 ≤ (1:Int) ∧ (1:Int) < (List.length (rd (Ty.z T1) l1 (i64.wrap ((List.length l1:Int) - (1:Int)))):Int)) <|
 some (decide ((((rd (Ty.z T6) n.2 i).2).2) > (rd (0:Int) (rd (Ty.z T1) l1 (i64.wrap ((List.length l1:Int) - (1:Int)))) (1:Int))))
def f79_j56 (n : LI×(List (ByteArray×Int×Int))) (i:Int) (l1 : List LI) : Option (Sum Unit Unit) :=
 bindF (f79_j57 n i l1) fun z78 =>
 bif z78 then
 some (Sum.inr ())
 else
 some (Sum.inl ())
def f79_j58 (n : LI×(List (ByteArray×Int×Int))) (great : Bool) (i:Int) (l1 : List LI) : Option Bool :=
 bif great then
 some true
 else
 guardF (0 ≤ (0:Int) ∧ (0:Int) < (List.length (rd (Ty.z T1) l1 (i64.wrap ((List.length l1:Int) - (1:Int)))):Int)) <|
 some (decide ((i64.wrap ((i64.wrap ((((rd (Ty.z T6) n.2 i).2).1) * (rd (0:Int) (rd (Ty.z T1) l1 (i64.wrap ((List.length l1:Int) - (1:Int)))) (0:Int)))) * (((rd (Ty.z T6) n.2 i).2).2))) > (4096:Int)))
def f79_j61 (n : LI×(List (ByteArray×Int×Int))) (i:Int) (l1 : List LI) : Option Bool :=
 bif ((List.length (rd (Ty.z T1) l1 (i64.wrap ((List.length l1:Int) - (1:Int)))):Int) != (2:Int)) then
 some true
 else
 guardF (0 ≤ (1:Int) ∧ (1:Int) < (List.length (rd (Ty.z T1) l1 (i64.wrap ((List.length l1:Int) - (1:Int)))):Int)) <|
 some (decide ((((rd (Ty.z T6) n.2 i).2).1) > (rd (0:Int) (rd (Ty.z T1) l1 (i64.wrap ((List.length l1:Int) - (1:Int)))) (1:Int))))
def f79_j60 (n : LI×(List (ByteArray×Int×Int))) (i:Int) (l1 : List LI) : Option (Sum Unit Unit) :=
 bindF (f79_j61 n i l1) fun z82 =>
 bif z82 then
 some (Sum.inr ())
 else
 some (Sum.inl ())
def f79_j62 (n : LI×(List (ByteArray×Int×Int))) (i:Int) (l1 : List LI) : Option Bool :=
 bif (i == (0:Int)) then
 some true
 else
 guardF (0 ≤ (i64.wrap (i - (1:Int))) ∧ (i64.wrap (i - (1:Int))) < (List.length n.2:Int)) <|
 bif (ByteArray.toList ((rd (Ty.z T6) n.2 (i64.wrap (i - (1:Int)))).1) == ByteArray.toList (ByteArray.mk #[115,107,105,112])) then
 some true
 else
 guardF (0 ≤ (i64.wrap ((List.length l1:Int) - (2:Int))) ∧ (i64.wrap ((List.length l1:Int) - (2:Int))) < (List.length l1:Int)) <|
 bindF (f73 (rd (Ty.z T1) l1 (i64.wrap ((List.length l1:Int) - (2:Int)))) (rd (Ty.z T1) l1 (i64.wrap ((List.length l1:Int) - (1:Int))))) fun r85 =>
 some (!r85)
def f79_j53 (n : LI×(List (ByteArray×Int×Int))) (all:Int) (great : Bool) (i:Int) (l1 : List LI) : Option (Sum (Int×Bool×LI) Unit) :=
 bif (ByteArray.toList ((rd (Ty.z T6) n.2 i).1) == ByteArray.toList (ByteArray.mk #[100,101,110,115,101])) then
 bindF (f133 (rd (Ty.z T1) l1 (i64.wrap ((List.length l1:Int) - (1:Int))))) fun r74 =>
 bindF (f79_j54 n great i r74) fun z75 =>
 some (Sum.inl ((i64.wrap ((i64.wrap (all + (i64.wrap ((((rd (Ty.z T6) n.2 i).2).1) * r74)))) + (((rd (Ty.z T6) n.2 i).2).1))),z75,[((rd (Ty.z T6) n.2 i).2).1]))
 else
 bif (ByteArray.toList ((rd (Ty.z T6) n.2 i).1) == ByteArray.toList (ByteArray.mk #[99,111,110,118])) then
 bindF (f79_j56 n i l1) fun z77 =>
 sumF z77 (fun z77a =>
 bindF (f79_j58 n great i l1) fun z79 =>
 guardF (0 ≤ (0:Int) ∧ (0:Int) < (List.length (rd (Ty.z T1) l1 (i64.wrap ((List.length l1:Int) - (1:Int)))):Int)) <|
 guardF (0 ≤ (1:Int) ∧ (1:Int) < (List.length (rd (Ty.z T1) l1 (i64.wrap ((List.length l1:Int) - (1:Int)))):Int)) <|
 some (Sum.inl ((i64.wrap (all + (i64.wrap ((i64.wrap ((((rd (Ty.z T6) n.2 i).2).1) * (rd (0:Int) (rd (Ty.z T1) l1 (i64.wrap ((List.length l1:Int) - (1:Int)))) (0:Int)))) * (((rd (Ty.z T6) n.2 i).2).2))))),z79,[((rd (Ty.z T6) n.2 i).2).1,(i64.wrap ((i64.wrap ((rd (0:Int) (rd (Ty.z T1) l1 (i64.wrap ((List.length l1:Int) - (1:Int)))) (1:Int)) - (((rd (Ty.z T6) n.2 i).2).2))) + (1:Int)))]))) (fun z77b =>
 some (Sum.inr ()))
 else
 bif (ByteArray.toList ((rd (Ty.z T6) n.2 i).1) == ByteArray.toList (ByteArray.mk #[112,111,111,108])) then
 bindF (f79_j60 n i l1) fun z81 =>
 sumF z81 (fun z81a =>
 guardF (0 ≤ (0:Int) ∧ (0:Int) < (List.length (rd (Ty.z T1) l1 (i64.wrap ((List.length l1:Int) - (1:Int)))):Int)) <|
 guardF (0 ≤ (1:Int) ∧ (1:Int) < (List.length (rd (Ty.z T1) l1 (i64.wrap ((List.length l1:Int) - (1:Int)))):Int)) <|
 guardF ((((rd (Ty.z T6) n.2 i).2).1) ≠ 0) <|
 some (Sum.inl (all,great,[(rd (0:Int) (rd (Ty.z T1) l1 (i64.wrap ((List.length l1:Int) - (1:Int)))) (0:Int)),(i64.wrap (Int.tdiv (rd (0:Int) (rd (Ty.z T1) l1 (i64.wrap ((List.length l1:Int) - (1:Int)))) (1:Int)) (((rd (Ty.z T6) n.2 i).2).1)))]))) (fun z81b =>
 some (Sum.inr ()))
 else
 bif (ByteArray.toList ((rd (Ty.z T6) n.2 i).1) == ByteArray.toList (ByteArray.mk #[115,107,105,112])) then
 bindF (f79_j62 n i l1) fun z84 =>
 bif z84 then
 some (Sum.inr ())
 else
 some (Sum.inl (all,great,(rd (Ty.z T1) l1 (i64.wrap ((List.length l1:Int) - (1:Int))))))
 else
 some (Sum.inl (all,great,(rd (Ty.z T1) l1 (i64.wrap ((List.length l1:Int) - (1:Int))))))
def f79_j63 (z73a : Int×Bool×LI) : Option Bool :=
 bif z73a.2.1 then
 some true
 else
 bindF (f133 z73a.2.2) fun r88 =>
 some (decide (r88 > (4096:Int)))
def f79_j64 (z73a : Int×Bool×LI) (z87 : Bool) : Option (Int×Bool) :=
 bif (decide (z73a.1 > (4096:Int))) then
 some ((4097:Int),true)
 else
 some (z73a.1,z87)
def f79_l43 (n : LI×(List (ByteArray×Int×Int))) (go : (Int×Bool×Int×(List LI)) → Option (Sum Unit (Int×Bool×(List LI)))) (all:Int) (great : Bool) (i:Int) (l1 : List LI) : Option (Sum Unit (Int×Bool×(List LI))) :=
 bif (decide (i < (List.length n.2:Int))) then
 guardF (0 ≤ (i64.wrap ((List.length l1:Int) - (1:Int))) ∧ (i64.wrap ((List.length l1:Int) - (1:Int))) < (List.length l1:Int)) <|
 guardF (0 ≤ i ∧ i < (List.length n.2:Int)) <|
 bindF (f79_j53 n all great i l1) fun z73 =>
 sumF z73 (fun z73a =>
 bindF (f79_j63 z73a) fun z87 =>
 bindF (f79_j64 z73a z87) fun z89 =>
 guardF ((List.length ([] : LI) + List.length z73a.2.2) * 8 ≤ 140737488355328) <|
 guardF ((List.length l1 + List.length ([(([] : LI) ++ z73a.2.2)])) * 24 ≤ 140737488355328) <|
 go (z89.1,z89.2,(i64.wrap (i + (1:Int))),(l1 ++ ([(([] : LI) ++ z73a.2.2)])))) (fun z73b =>
 some (Sum.inl ()))
 else
 some (Sum.inr (all,great,l1))
def f79_j67 (n : LI×(List (ByteArray×Int×Int))) (z60b : Int×Bool×(List LI)) : Option Bool :=
 bif z60b.2.1 then
 some true
 else
 bindF (f133 n.1) fun r96 =>
 some (decide (r96 > (4096:Int)))
def f79_j66 (n : LI×(List (ByteArray×Int×Int))) (z60b : Int×Bool×(List LI)) : Option (Sum Unit Unit) :=
 bindF (f79_j67 n z60b) fun z95 =>
 bif z95 then
 some (Sum.inr ())
 else
 some (Sum.inl ())
def f79 (n : LI×(List (ByteArray×Int×Int))) : Option (Int×Int×(List LI)) :=
 bindF (f132 (n.1,n.2)) fun r1 =>
 bif (!r1) then
 some ((0:Int),(1:Int),[])
 else
 guardF ((List.length ([] : LI) + List.length n.1) * 8 ≤ 140737488355328) <|
 bindF (loopF (fun go x=>f79_l43 n go x.1 x.2.1 x.2.2.1 x.2.2.2) fuelN ((0:Int),(decide ((List.length n.2:Int) > (16:Int))),(0:Int),[(([] : LI) ++ n.1)])) fun z60 =>
 sumF z60 (fun z60a =>
 some ((0:Int),(4:Int),[])) (fun z60b =>
 bindF (f79_j66 n z60b) fun z93 =>
 sumF z93 (fun z93a =>
 some (z60b.1,(0:Int),z60b.2.2)) (fun z93b =>
 some ((0:Int),(2:Int),[])))
def C79 : Con where
 X := LI×(List (ByteArray×Int×Int))
 Y := Int×Int×(List LI)
 e := 0
 args x := [.dat T7 x]
 hin x := []
 F x := f79 x
 ret y := [O0 0,.dat T2 y.1,.dat T2 y.2.1]
 hout y := [(0,.arr 33 T1 y.2.2)]
 nout := 1
theorem C79_vc (n : LI×(List (ByteArray×Int×Int))) (y : Int×Int×(List LI)) (q : f79 n = some y) : VC Tryz.f79 C79 n y := by
 unfold f79 at q
 refine OL (OL (OL ?_))
 obtain ⟨r1,hr1,q⟩ := bE q
 refine OL (AI f132_in (cV (cQ C132 (n.1,n.2) r1 [] false C132_holds hr1 rfl rfl (R2 (K0 (cI q (fun q=>?_) (fun q=>?_)))))))
 ·cases sE q
  refine OL (AI rfl (E4 [(0,none)] (R3 (AJ (AI rfl TV)))))
 refine OL (OL (OL (gI q (fun q=>?_))))
 refine OL (OL (EI (.take 0 (.take 1 (.take 2 (.take 3 (.take 4 (.take 5 .done)))))) (EI [] (EI [] (AI rfl (OL (OL ?_)))))))
 obtain ⟨z60,hz60,q⟩ := bE q
 refine lI (Int×Bool×Int×(List LI)) (Sum Unit (Int×Bool×(List LI))) (fun x=>⟨[(1,P0 0 0),(5,O0 1),(6,.dat T2 x.1),(7,.dat .bool x.2.1),(8,.dat T2 x.2.2.1)],[(0,.cells [(.d T1 n.1),(.d T8 n.2)]),(1,.arr 33 T1 x.2.2.2)],2⟩) (fun z=>Sum.elim (fun za=>[(1,⟨[(2,.raw false [N0]),(3,D0 0),(4,D0 4)],[],0⟩)]) (fun zb=>[(2,⟨[(1,P0 0 0),(5,O0 1),(6,.dat T2 zb.1),(7,.dat .bool zb.2.1)],[(0,.cells [(.d T1 n.1),(.d T8 n.2)]),(1,.arr 33 T1 zb.2.2)],2⟩)]) z) (loopF (fun go x=>f79_l43 n go x.1 x.2.1 x.2.2.1 x.2.2.2)) fuelN ((0:Int),(decide ((List.length n.2:Int) > (16:Int))),(0:Int),[(([] : LI) ++ n.1)]) z60 (AI hz60 (AI (E4 [(0,some 0),(1,some 3)] (R4 (AI (R2 TV) (R2 TV)))) (AI (fun _ _ h=>lZ h) (AI (fun m=>curI (fun all=>curI (fun great=>curI (fun i=>fun l1 z q=>?_)))) ?_))))
 ·have q : f79_l43 n (loopF (fun go x=>f79_l43 n go x.1 x.2.1 x.2.2.1 x.2.2.2) m) all great i l1 = some z := q
  unfold f79_l43 at q
  refine OL (OL (cI q (fun q=>?_) (fun q=>?_)))
  ·refine OL (OL (gI q (fun q=>?_)))
   refine OL (gI q (fun q=>?_))
   refine OL ?_
   obtain ⟨z73,hz73,q⟩ := bE q
   refine OQ ⟨Sum.elim (fun z73a=>[(0,⟨[(1,P0 0 0),(5,O0 1),(6,.dat T2 z73a.1),(7,.dat .bool z73a.2.1),(8,.dat T2 i),(9,.dat T1 z73a.2.2)],[(0,.cells [(.d T1 n.1),(.d T8 n.2)]),(1,.arr 33 T1 l1)],2⟩)]) (fun z73b=>[(1,⟨[(2,.raw false [N0]),(3,D0 0),(4,D0 4)],[],0⟩)]) z73,?_,?_⟩
   ·have q := hz73
    clear hz73
    unfold f79_j53 at q
    refine OL (OL (cI q (fun q=>?_) (fun q=>?_)))
    ·refine OL ?_
     obtain ⟨r74,hr74,q⟩ := bE q
     refine OL (AI f133_in (cV (cQ C133 (rd (Ty.z T1) l1 (i64.wrap ((List.length l1:Int) - (1:Int)))) r74 [] false C133_holds hr74 rfl rfl (AI rfl (K0 ?_)))))
     obtain ⟨z75,hz75,q⟩ := bE q
     refine OQ ⟨[(0,⟨[(1,P0 0 0),(5,O0 1),(6,.dat T2 all),(7,.dat .bool z75),(8,.dat T2 i),(10,P0 2 0),(11,.dat T2 r74)],[(0,.cells [(.d T1 n.1),(.d T8 n.2)]),(1,.arr 33 T1 l1),(2,.cells [(.d .str ((rd (Ty.z T6) n.2 i).1)),(.d T2 (((rd (Ty.z T6) n.2 i).2).1)),(.d T2 (((rd (Ty.z T6) n.2 i).2).2))])],3⟩)],?_,?_⟩
     ·have q := hz75
      clear hz75
      unfold f79_j54 at q
      refine cN q (fun q=>?_) (fun q=>?_)
      ·refine gY (gY (gY (gY (cF ?_))))
       cases sE q
       refine E4 I3 (R5 (AI (R3 TV) (R3 TV)))
      refine gN (gN (gN (gN (cT ?_))))
      cases sE q
      refine E4 I3 (R5 (AI (R3 TV) (R3 TV)))
     refine AI (OL (OL ?_)) TV
     cases sE q
     refine E4 I2 (R5 (AI (R2 TV) (R2 TV)))
    refine OL (cI q (fun q=>?_) (fun q=>?_))
    ·obtain ⟨z77,hz77,q⟩ := bE q
     refine OQ ⟨Sum.elim (fun z77a=>[(0,⟨[(1,P0 0 0),(5,O0 1),(6,.dat T2 all),(7,.dat .bool great),(8,.dat T2 i),(9,.dat T1 (rd (Ty.z T1) l1 (i64.wrap ((List.length l1:Int) - (1:Int))))),(10,P0 2 0)],[(0,.cells [(.d T1 n.1),(.d T8 n.2)]),(1,.arr 33 T1 l1),(2,.cells [(.d .str ((rd (Ty.z T6) n.2 i).1)),(.d T2 (((rd (Ty.z T6) n.2 i).2).1)),(.d T2 (((rd (Ty.z T6) n.2 i).2).2))])],3⟩)]) (fun z77b=>[(1,⟨[(2,.raw false [N0]),(3,D0 0),(4,D0 4)],[],0⟩)]) z77,?_,?_⟩
     ·have q := hz77
      clear hz77
      unfold f79_j56 at q
      obtain ⟨z78,hz78,q⟩ := bE q
      refine OQ ⟨[(0,⟨[(1,P0 0 0),(5,O0 1),(6,.dat T2 all),(7,.dat .bool great),(8,.dat T2 i),(9,.dat T1 (rd (Ty.z T1) l1 (i64.wrap ((List.length l1:Int) - (1:Int))))),(10,P0 2 0),(80,.dat .bool z78)],[(0,.cells [(.d T1 n.1),(.d T8 n.2)]),(1,.arr 33 T1 l1),(2,.cells [(.d .str ((rd (Ty.z T6) n.2 i).1)),(.d T2 (((rd (Ty.z T6) n.2 i).2).1)),(.d T2 (((rd (Ty.z T6) n.2 i).2).2))])],3⟩)],?_,?_⟩
      ·have q := hz78
       clear hz78
       unfold f79_j57 at q
       refine EI (.take 0 (.take 1 (.take 2 (.take 3 (.take 4 (.take 5 (.take 6 (.take 7 (.take 8 (.take 9 (.take 10 .done))))))))))) (EI [] (EI [] (AI rfl (cN q (fun q=>?_) (fun q=>?_)))))
       ·refine gY (gY (gY (gI q (fun q=>?_))))
        refine gY (gY (cF ?_))
        cases sE q
        refine E4 I3 (R6 (AI (R3 TV) (R3 TV)))
       refine gN (gN (gN (gN (gN (cT ?_)))))
       cases sE q
       refine E4 I3 (R6 (AI (R3 TV) (R3 TV)))
      refine AI (cI q (fun q=>?_) (fun q=>?_)) TV
      ·cases sE q
       refine OL (E4 [] (R3 (AJ TV)))
      cases sE q
      refine E4 I3 (R5 (AI (R3 TV) (R3 TV)))
     rcases z77 with z77a | z77b
     ·dsimp only [sumF] at q
      refine AI ?_ TV
      obtain ⟨z79,hz79,q⟩ := bE q
      refine OQ ⟨[(0,⟨[(1,P0 0 0),(5,O0 1),(6,.dat T2 all),(7,.dat .bool z79),(8,.dat T2 i),(9,.dat T1 (rd (Ty.z T1) l1 (i64.wrap ((List.length l1:Int) - (1:Int))))),(10,P0 2 0)],[(0,.cells [(.d T1 n.1),(.d T8 n.2)]),(1,.arr 33 T1 l1),(2,.cells [(.d .str ((rd (Ty.z T6) n.2 i).1)),(.d T2 (((rd (Ty.z T6) n.2 i).2).1)),(.d T2 (((rd (Ty.z T6) n.2 i).2).2))])],3⟩)],?_,?_⟩
      ·have q := hz79
       clear hz79
       unfold f79_j58 at q
       refine EI (.take 0 (.take 1 (.take 2 (.take 3 (.take 4 (.take 5 (.take 6 (.take 7 (.take 8 (.take 9 (.take 10 (.take 11 (.take 12 (.take 13 .done)))))))))))))) (EI [] (EI [] (AI rfl (cN q (fun q=>?_) (fun q=>?_)))))
       ·refine gY (gY (gY (gI q (fun q=>?_))))
        refine gY (gY (gY (gY (gY (gY (cF ?_))))))
        cases sE q
        refine E4 I3 (R5 (AI (R3 TV) (R3 TV)))
       refine gN (gN (gN (gN (gN (gN (gN (gN (gN (cT ?_)))))))))
       cases sE q
       refine E4 I3 (R5 (AI (R3 TV) (R3 TV)))
      refine AI (OL (EI (.take 0 (.take 1 (.take 2 (.take 3 (.take 4 (.take 5 (.take 6 (.take 7 (.take 8 (.take 9 (.take 10 (.take 11 .done)))))))))))) (EI [] (EI [] (AI rfl (gI q (fun q=>?_))))))) TV
      refine EI (.take 0 (.take 1 (.take 2 (.take 3 (.take 4 (.take 5 (.take 6 (.take 7 (.take 8 (.alt 9 (.take 10 .done) .done)))))))))) (EI [] (EI [] (AI rfl (gI q (fun q=>?_)))))
      refine AI TV (OL ?_)
      cases sE q
      refine E4 I2 (R5 (AI (R2 TV) (R2 TV)))
     dsimp only [sumF] at q
     refine AI ?_ TV
     cases sE q
     refine E4 [] (R3 (AJ TV))
    refine OL (cI q (fun q=>?_) (fun q=>?_))
    ·obtain ⟨z81,hz81,q⟩ := bE q
     refine OQ ⟨Sum.elim (fun z81a=>[(0,⟨[(1,P0 0 0),(5,O0 1),(6,.dat T2 all),(7,.dat .bool great),(8,.dat T2 i),(9,.dat T1 (rd (Ty.z T1) l1 (i64.wrap ((List.length l1:Int) - (1:Int))))),(10,P0 2 0)],[(0,.cells [(.d T1 n.1),(.d T8 n.2)]),(1,.arr 33 T1 l1),(2,.cells [(.d .str ((rd (Ty.z T6) n.2 i).1)),(.d T2 (((rd (Ty.z T6) n.2 i).2).1)),(.d T2 (((rd (Ty.z T6) n.2 i).2).2))])],3⟩)]) (fun z81b=>[(1,⟨[(2,.raw false [N0]),(3,D0 0),(4,D0 4)],[],0⟩)]) z81,?_,?_⟩
     ·have q := hz81
      clear hz81
      unfold f79_j60 at q
      obtain ⟨z82,hz82,q⟩ := bE q
      refine OQ ⟨[(0,⟨[(1,P0 0 0),(5,O0 1),(6,.dat T2 all),(7,.dat .bool great),(8,.dat T2 i),(9,.dat T1 (rd (Ty.z T1) l1 (i64.wrap ((List.length l1:Int) - (1:Int))))),(10,P0 2 0),(127,.dat .bool z82)],[(0,.cells [(.d T1 n.1),(.d T8 n.2)]),(1,.arr 33 T1 l1),(2,.cells [(.d .str ((rd (Ty.z T6) n.2 i).1)),(.d T2 (((rd (Ty.z T6) n.2 i).2).1)),(.d T2 (((rd (Ty.z T6) n.2 i).2).2))])],3⟩)],?_,?_⟩
      ·have q := hz82
       clear hz82
       unfold f79_j61 at q
       refine EI (.take 0 (.take 1 (.take 2 (.take 3 (.take 4 (.take 5 (.take 6 (.take 7 (.take 8 (.take 9 (.take 10 .done))))))))))) (EI [] (EI [] (AI rfl (cN q (fun q=>?_) (fun q=>?_)))))
       ·refine gY (gY (gY (gI q (fun q=>?_))))
        refine gY (gY (cF ?_))
        cases sE q
        refine E4 I3 (R6 (AI (R3 TV) (R3 TV)))
       refine gN (gN (gN (gN (gN (cT ?_)))))
       cases sE q
       refine E4 I3 (R6 (AI (R3 TV) (R3 TV)))
      refine AI (cI q (fun q=>?_) (fun q=>?_)) TV
      ·cases sE q
       refine OL (E4 [] (R3 (AJ TV)))
      cases sE q
      refine E4 I3 (R5 (AI (R3 TV) (R3 TV)))
     rcases z81 with z81a | z81b
     ·dsimp only [sumF] at q
      refine AI (EI (.take 0 (.take 1 (.take 2 (.take 3 (.take 4 (.take 5 (.take 6 (.take 7 (.take 8 (.alt 9 (.take 10 .done) .done)))))))))) (EI [] (EI [] (AI rfl (gI q (fun q=>?_)))))) TV
      refine gI q (fun q=>?_)
      refine gI q (fun q=>?_)
      refine AI TV (OL ?_)
      cases sE q
      refine E4 I2 (R5 (AI (R2 TV) (R2 TV)))
     dsimp only [sumF] at q
     refine AI ?_ TV
     cases sE q
     refine E4 [] (R3 (AJ TV))
    refine OL (cI q (fun q=>?_) (fun q=>?_))
    ·obtain ⟨z84,hz84,q⟩ := bE q
     refine OQ ⟨[(0,⟨[(1,P0 0 0),(5,O0 1),(6,.dat T2 all),(7,.dat .bool great),(8,.dat T2 i),(9,.dat T1 (rd (Ty.z T1) l1 (i64.wrap ((List.length l1:Int) - (1:Int))))),(162,.dat .bool z84)],[(0,.cells [(.d T1 n.1),(.d T8 n.2)]),(1,.arr 33 T1 l1)],2⟩)],?_,?_⟩
     ·have q := hz84
      clear hz84
      unfold f79_j62 at q
      refine cN q (fun q=>?_) (fun q=>?_)
      ·refine gY (gY (gY (gY (gI q (fun q=>?_)))))
       refine gY (gY (gY (cF (cN q (fun q=>?_) (fun q=>?_)))))
       ·refine gY (gY (gY (gY (gI q (fun q=>?_)))))
        refine gY (gY (gY ?_))
        obtain ⟨r85,hr85,q⟩ := bE q
        refine OL (AI f73_in (cV (cQ C73 ((rd (Ty.z T1) l1 (i64.wrap ((List.length l1:Int) - (2:Int)))),(rd (Ty.z T1) l1 (i64.wrap ((List.length l1:Int) - (1:Int))))) r85 [] false C73_holds hr85 rfl rfl (R2 (K0 (gY (cF ?_)))))))
        cases sE q
        refine E4 I2 (R6 (AI (R2 TV) (R2 TV)))
       refine gN (gN (gN (gN (gN (gN (gN (gN (cT ?_))))))))
       cases sE q
       refine E4 I2 (R6 (AI (R2 TV) (R2 TV)))
      refine gN (gN (gN (gN (gN (gN (gN (cT (gN (gN (gN (gN (gN (gN (gN (gN (gN (cT ?_)))))))))))))))))
      cases sE q
      refine E4 I2 (R6 (AI (R2 TV) (R2 TV)))
     refine AI (cI q (fun q=>?_) (fun q=>?_)) TV
     ·cases sE q
      refine OL (E4 [] (R3 (AJ TV)))
     cases sE q
     refine E4 I2 (R5 (AI (R2 TV) (R2 TV)))
    cases sE q
    refine E4 I2 (R5 (AI (R2 TV) (R2 TV)))
   rcases z73 with z73a | z73b
   ·dsimp only [sumF] at q
    refine AI ?_ TV
    obtain ⟨z87,hz87,q⟩ := bE q
    refine OQ ⟨[(0,⟨[(1,P0 0 0),(5,O0 1),(6,.dat T2 z73a.1),(7,.dat .bool z87),(8,.dat T2 i),(9,.dat T1 z73a.2.2)],[(0,.cells [(.d T1 n.1),(.d T8 n.2)]),(1,.arr 33 T1 l1)],2⟩)],?_,?_⟩
    ·have q := hz87
     clear hz87
     unfold f79_j63 at q
     refine cN q (fun q=>?_) (fun q=>?_)
     ·refine gY ?_
      obtain ⟨r88,hr88,q⟩ := bE q
      refine OL (AI f133_in (cV (cQ C133 z73a.2.2 r88 [] false C133_holds hr88 rfl rfl (AI rfl (K0 (gY (cF ?_)))))))
      cases sE q
      refine E4 I2 (R5 (AI (R2 TV) (R2 TV)))
     refine gN (gN (cT ?_))
     cases sE q
     refine E4 I2 (R5 (AI (R2 TV) (R2 TV)))
    refine AI ?_ TV
    obtain ⟨z89,hz89,q⟩ := bE q
    refine OQ ⟨[(0,⟨[(1,P0 0 0),(5,O0 1),(6,.dat T2 z89.1),(7,.dat .bool z89.2),(8,.dat T2 i),(9,.dat T1 z73a.2.2)],[(0,.cells [(.d T1 n.1),(.d T8 n.2)]),(1,.arr 33 T1 l1)],2⟩)],?_,?_⟩
    ·have q := hz89
     clear hz89
     unfold f79_j64 at q
     refine OL (cI q (fun q=>?_) (fun q=>?_))
     ·cases sE q
      refine OL (E4 I2 (R5 (AI (R2 TV) (R2 TV))))
     cases sE q
     refine E4 I2 (R5 (AI (R2 TV) (R2 TV)))
    refine AI (OL (OL (gI q (fun q=>?_)))) TV
    refine OL (OL (gI q (fun q=>?_)))
    refine EI (z89.1,z89.2,(i64.wrap (i + (1:Int))),(l1 ++ ([(([] : LI) ++ z73a.2.2)]))) (AI q (E4 [(0,some 0),(1,some 5)] (R4 (AI (R2 TV) (R2 TV)))))
   dsimp only [sumF] at q
   refine AI ?_ TV
   cases sE q
   refine E4 [] (R3 (AJ TV))
  cases sE q
  refine E4 I2 (R3 (AI (R2 TV) (R2 TV)))
 rcases z60 with z60a | z60b
 ·dsimp only [sumF] at q
  refine AI ?_ TV
  cases sE q
  refine AI rfl (E4 [(0,none)] (R3 (AJ (AI rfl TV))))
 dsimp only [sumF] at q
 refine AI ?_ TV
 obtain ⟨z93,hz93,q⟩ := bE q
 refine OQ ⟨Sum.elim (fun z93a=>[(0,⟨[(5,O0 0),(6,.dat T2 z60b.1)],[(0,.arr 33 T1 z60b.2.2)],1⟩)]) (fun z93b=>[(1,⟨[(2,.raw false [N0]),(3,D0 0),(4,D0 2)],[],0⟩)]) z93,?_,?_⟩
 ·have q := hz93
  clear hz93
  unfold f79_j66 at q
  obtain ⟨z95,hz95,q⟩ := bE q
  refine OQ ⟨[(0,⟨[(5,O0 0),(6,.dat T2 z60b.1),(183,.dat .bool z95)],[(0,.arr 33 T1 z60b.2.2)],1⟩)],?_,?_⟩
  ·have q := hz95
   clear hz95
   unfold f79_j67 at q
   refine cN q (fun q=>?_) (fun q=>?_)
   ·refine gY (gY ?_)
    obtain ⟨r96,hr96,q⟩ := bE q
    refine OL (AI f133_in (cV (cQ C133 n.1 r96 [] false C133_holds hr96 rfl rfl (AI rfl (K0 (gY (cF ?_)))))))
    cases sE q
    refine E4 [(0,some 1)] (R3 (AJ (AI rfl TV)))
   refine gN (gN (gN (cT ?_)))
   cases sE q
   refine E4 [(0,some 1)] (R3 (AJ (AI rfl TV)))
  refine AI (cI q (fun q=>?_) (fun q=>?_)) TV
  ·cases sE q
   refine OL (E4 [] (R3 (AJ TV)))
  cases sE q
  refine E4 [(0,some 0)] (R2 (AJ (AI rfl TV)))
 rcases z93 with z93a | z93b
 ·dsimp only [sumF] at q
  refine AI (OL ?_) TV
  cases sE q
  refine AI rfl (E4 [(0,some 0)] (R3 (AJ (AI rfl TV))))
 dsimp only [sumF] at q
 refine AI ?_ TV
 cases sE q
 refine AI rfl (E4 [(0,none)] (R3 (AJ (AI rfl TV))))
theorem C79_holds : HP C79 79 := hH Tryz.f79 (by kernel_rfl) rfl (fun x y q=>C79_vc x y q)
theorem f79_in : InP 79 := inP (by kernel_rfl)
def f82_j3 (n : LI×(List (ByteArray×Int×Int))) (p_ : LI) (x_ : LI) (r1 : Int×Int×(List LI)) : Option Bool :=
 bif ((List.length p_:Int) != r1.1) then
 some true
 else
 bindF (f133 n.1) fun r8 =>
 some ((List.length x_:Int) != r8)
def f82_j2 (n : LI×(List (ByteArray×Int×Int))) (p_ : LI) (x_ : LI) (r1 : Int×Int×(List LI)) : Option (Sum Unit Unit) :=
 bindF (f82_j3 n p_ x_ r1) fun z7 =>
 bif z7 then
 some (Sum.inr ())
 else
 some (Sum.inl ())
def f82_j65 (n : LI×(List (ByteArray×Int×Int))) (p_ : LI) (used:Int) (i:Int) (r162:Int) (q24_15 : Int×Int×NL) : Option (Int×Int×NL) :=
 bif (q24_15.2.1 == (0:Int)) then
 guardF (0 ≤ (i64.wrap (used + (i64.wrap ((((rd (Ty.z T6) n.2 i).2).1) * r162)))) ∧ (i64.wrap (used + (i64.wrap ((((rd (Ty.z T6) n.2 i).2).1) * r162)))) ≤ (i64.wrap ((i64.wrap (used + (i64.wrap ((((rd (Ty.z T6) n.2 i).2).1) * r162)))) + (((rd (Ty.z T6) n.2 i).2).1))) ∧ (i64.wrap ((i64.wrap (used + (i64.wrap ((((rd (Ty.z T6) n.2 i).2).1) * r162)))) + (((rd (Ty.z T6) n.2 i).2).1))) ≤ (List.length p_:Int)) <|
 bindF (f19 q24_15.2.2 ([((rd (Ty.z T6) n.2 i).2).1],(List.drop (Int.toNat (i64.wrap (used + (i64.wrap ((((rd (Ty.z T6) n.2 i).2).1) * r162))))) (List.take (Int.toNat (i64.wrap ((i64.wrap (used + (i64.wrap ((((rd (Ty.z T6) n.2 i).2).1) * r162)))) + (((rd (Ty.z T6) n.2 i).2).1)))) p_)))) fun q26_22 =>
 some (q26_22.2.1,q26_22.1,q26_22.2.2)
 else
 some (q24_15.2.1,(0:Int),q24_15.2.2)
def f82_j68 (last:Int) (l4 : NL) (z163 : Int×Int×NL) : Option Bool :=
 bif (z163.1 == (0:Int)) then
 some ((List.length ((((((rd (Ty.z T0) l4 last).2).2).2).2).1):Int) == (2:Int))
 else
 some false
def f82_j67 (last:Int) (l4 : NL) (z163 : Int×Int×NL) : Option (Int×Int×NL) :=
 bindF (f82_j68 last l4 z163) fun z167 =>
 bif z167 then
 bindF (f70 z163.2.2 (14:Int) last (-1:Int) (0:Int)) fun r168 =>
 some (r168.2.1,r168.1,r168.2.2)
 else
 some (z163.1,last,z163.2.2)
def f82_j69 (q24_15 : Int×Int×NL) (z166 : Int×Int×NL) : Option (Int×Int×NL) :=
 bif (z166.1 == (0:Int)) then
 bindF (f70 z166.2.2 (4:Int) q24_15.1 z166.2.1 (0:Int)) fun r171 =>
 some (r171.2.1,r171.1,r171.2.2)
 else
 some (z166.1,(0:Int),z166.2.2)
def f82_j70 (z170 : Int×Int×NL) : Option (Int×Int×NL) :=
 bif (z170.1 == (0:Int)) then
 bindF (f70 z170.2.2 (8:Int) z170.2.1 (-1:Int) (1:Int)) fun r174 =>
 some (r174.2.1,r174.1,r174.2.2)
 else
 some (z170.1,z170.2.1,z170.2.2)
def f82_j71 (z163 : Int×Int×NL) (z173 : Int×Int×NL) : Option (Int×Int×NL) :=
 bif (z173.1 == (0:Int)) then
 bindF (f70 z173.2.2 (2:Int) z173.2.1 z163.2.1 (0:Int)) fun r177 =>
 some (r177.2.1,r177.1,r177.2.2)
 else
 some (z173.1,z173.2.1,z173.2.2)
def f82_j72 (last:Int) (q39_16 : Int×Int×NL) : Option (Int×Int×NL) :=
 bif (q39_16.2.1 == (0:Int)) then
 bindF (f70 q39_16.2.2 (12:Int) last q39_16.1 (1:Int)) fun r179 =>
 some (r179.2.1,r179.1,r179.2.2)
 else
 some (q39_16.2.1,(0:Int),q39_16.2.2)
def f82_j64 (n : LI×(List (ByteArray×Int×Int))) (p_ : LI) (from_:Int) (last:Int) (used:Int) (i:Int) (l3 : LI) (l4 : NL) : Option (Int×Int×Int×LI×NL) :=
 bif (ByteArray.toList ((rd (Ty.z T6) n.2 i).1) == ByteArray.toList (ByteArray.mk #[100,101,110,115,101])) then
 bindF (f133 ((((((rd (Ty.z T0) l4 last).2).2).2).2).1)) fun r162 =>
 guardF (0 ≤ used ∧ used ≤ (i64.wrap (used + (i64.wrap ((((rd (Ty.z T6) n.2 i).2).1) * r162)))) ∧ (i64.wrap (used + (i64.wrap ((((rd (Ty.z T6) n.2 i).2).1) * r162)))) ≤ (List.length p_:Int)) <|
 bindF (f19 l4 ([((rd (Ty.z T6) n.2 i).2).1,r162],(List.drop (Int.toNat used) (List.take (Int.toNat (i64.wrap (used + (i64.wrap ((((rd (Ty.z T6) n.2 i).2).1) * r162))))) p_)))) fun q24_15 =>
 bindF (f82_j65 n p_ used i r162 q24_15) fun z163 =>
 bindF (f82_j67 last l4 z163) fun z166 =>
 bindF (f82_j69 q24_15 z166) fun z170 =>
 bindF (f82_j70 z170) fun z173 =>
 bindF (f82_j71 z163 z173) fun z176 =>
 guardF ((List.length l3 + List.length ([q24_15.1,z163.2.1])) * 8 ≤ 140737488355328) <|
 some (z176.1,(i64.wrap ((i64.wrap (used + (i64.wrap ((((rd (Ty.z T6) n.2 i).2).1) * r162)))) + (((rd (Ty.z T6) n.2 i).2).1))),z176.2.1,(l3 ++ ([q24_15.1,z163.2.1])),z176.2.2)
 else
 bif (ByteArray.toList ((rd (Ty.z T6) n.2 i).1) == ByteArray.toList (ByteArray.mk #[99,111,110,118])) then
 guardF (0 ≤ (0:Int) ∧ (0:Int) < (List.length ((((((rd (Ty.z T0) l4 last).2).2).2).2).1):Int)) <|
 guardF (0 ≤ (0:Int) ∧ (0:Int) < (List.length ((((((rd (Ty.z T0) l4 last).2).2).2).2).1):Int)) <|
 guardF (0 ≤ used ∧ used ≤ (i64.wrap (used + (i64.wrap ((i64.wrap ((((rd (Ty.z T6) n.2 i).2).1) * (rd (0:Int) ((((((rd (Ty.z T0) l4 last).2).2).2).2).1) (0:Int)))) * (((rd (Ty.z T6) n.2 i).2).2))))) ∧ (i64.wrap (used + (i64.wrap ((i64.wrap ((((rd (Ty.z T6) n.2 i).2).1) * (rd (0:Int) ((((((rd (Ty.z T0) l4 last).2).2).2).2).1) (0:Int)))) * (((rd (Ty.z T6) n.2 i).2).2))))) ≤ (List.length p_:Int)) <|
 bindF (f19 l4 ([((rd (Ty.z T6) n.2 i).2).1,(rd (0:Int) ((((((rd (Ty.z T0) l4 last).2).2).2).2).1) (0:Int)),((rd (Ty.z T6) n.2 i).2).2],(List.drop (Int.toNat used) (List.take (Int.toNat (i64.wrap (used + (i64.wrap ((i64.wrap ((((rd (Ty.z T6) n.2 i).2).1) * (rd (0:Int) ((((((rd (Ty.z T0) l4 last).2).2).2).2).1) (0:Int)))) * (((rd (Ty.z T6) n.2 i).2).2)))))) p_)))) fun q39_16 =>
 bindF (f82_j72 last q39_16) fun z178 =>
 guardF ((List.length l3 + List.length ([q39_16.1])) * 8 ≤ 140737488355328) <|
 some (z178.1,(i64.wrap (used + (i64.wrap ((i64.wrap ((((rd (Ty.z T6) n.2 i).2).1) * (rd (0:Int) ((((((rd (Ty.z T0) l4 last).2).2).2).2).1) (0:Int)))) * (((rd (Ty.z T6) n.2 i).2).2))))),z178.2.1,(l3 ++ ([q39_16.1])),z178.2.2)
 else
 bif (ByteArray.toList ((rd (Ty.z T6) n.2 i).1) == ByteArray.toList (ByteArray.mk #[112,111,111,108])) then
 bindF (f70 l4 (13:Int) last (-1:Int) (((rd (Ty.z T6) n.2 i).2).1)) fun r180 =>
 some (r180.2.1,used,r180.1,l3,r180.2.2)
 else
 bif (ByteArray.toList ((rd (Ty.z T6) n.2 i).1) == ByteArray.toList (ByteArray.mk #[98,101,110,100])) then
 bindF (f70 l4 (11:Int) last (-1:Int) (((rd (Ty.z T6) n.2 i).2).1)) fun r181 =>
 some (r181.2.1,used,r181.1,l3,r181.2.2)
 else
 bindF (f70 l4 (2:Int) from_ last (0:Int)) fun r182 =>
 some (r182.2.1,used,r182.1,l3,r182.2.2)
def f82_l55 (n : LI×(List (ByteArray×Int×Int))) (p_ : LI) (go : (Int×Int×Int×Int×LI×NL) → Option (Sum (Int×NL) (Int×LI×NL))) (from_:Int) (last:Int) (used:Int) (i:Int) (l3 : LI) (l4 : NL) : Option (Sum (Int×NL) (Int×LI×NL)) :=
 bif (decide (i < (List.length n.2:Int))) then
 guardF (0 ≤ i ∧ i < (List.length n.2:Int)) <|
 guardF (0 ≤ last ∧ last < (List.length l4:Int)) <|
 bindF (f82_j64 n p_ from_ last used i l3 l4) fun z161 =>
 bif (z161.1 != (0:Int)) then
 some (Sum.inl (z161.1,z161.2.2.2.2))
 else
 go (last,z161.2.2.1,z161.2.1,(i64.wrap (i + (1:Int))),z161.2.2.2.1,z161.2.2.2.2)
 else
 some (Sum.inr (last,l3,l4))
def f82 (t_L : NL) (n : LI×(List (ByteArray×Int×Int))) (p_ : LI) (x_ : LI) : Option (Int×Int×LI×NL) :=
 bindF (f79 (n.1,n.2)) fun r1 =>
 bif (r1.2.1 != (0:Int)) then
 some ((0:Int),r1.2.1,[],t_L)
 else
 bindF (f82_j2 n p_ x_ r1) fun z5 =>
 sumF z5 (fun z5a =>
 bindF (f19 t_L (n.1,x_)) fun r9 =>
 bif (r9.2.1 != (0:Int)) then
 some ((0:Int),r9.2.1,[],r9.2.2)
 else
 bindF (loopF (fun go x=>f82_l55 n p_ go x.1 x.2.1 x.2.2.1 x.2.2.2.1 x.2.2.2.2.1 x.2.2.2.2.2) fuelN (r9.1,r9.1,(0:Int),(0:Int),[],r9.2.2)) fun z139 =>
 sumF z139 (fun z139a =>
 some ((0:Int),z139a.1,[],z139a.2)) (fun z139b =>
 some (z139b.1,(0:Int),z139b.2.1,z139b.2.2))) (fun z5b =>
 some ((0:Int),(1:Int),[],t_L))
def C82 : Con where
 X := NL×(LI×(List (ByteArray×Int×Int)))×LI×LI
 Y := Int×Int×LI×NL
 e := 2
 args x := [P0 0 0,.dat T7 x.2.1,.dat T1 x.2.2.1,.dat T1 x.2.2.2]
 hin x := [(0,.cells [(.osl 1)]),(1,.arr 45 T0 x.1)]
 F x := f82 x.1 x.2.1 x.2.2.1 x.2.2.2
 ret y := [.dat T2 y.1,O0 2,.dat T2 y.2.1]
 hout y := [(0,.cells [(.osl 3)]),(2,.arr 3 T2 y.2.2.1),(3,.arr 45 T0 y.2.2.2)]
 nout := 4
theorem C82_vc (t_L : NL) (n : LI×(List (ByteArray×Int×Int))) (p_ : LI) (x_ : LI) (y : Int×Int×LI×NL) (q : f82 t_L n p_ x_ = some y) : VE Tryz.f82 2 C82 (t_L,n,p_,x_) y := by
 unfold f82 at q
 refine OL (OL ?_)
 obtain ⟨r1,hr1,q⟩ := bE q
 refine OL (AI f79_in (cV (cQ C79 (n.1,n.2) r1 [] false C79_holds hr1 rfl rfl (R2 (K0 (OL (OL (cI q (fun q=>?_) (fun q=>?_)))))))))
 ·cases sE q
  refine OL (AI rfl (E4 [(0,some 0),(2,none),(3,some 1)] (R3 (AJ (R3 TV)))))
 obtain ⟨z5,hz5,q⟩ := bE q
 refine OQ ⟨Sum.elim (fun z5a=>[(0,⟨[(0,P0 0 0),(2,.dat T1 p_),(3,.dat T1 x_),(5,P0 2 0)],[(0,.cells [(.osl 1)]),(1,.arr 45 T0 t_L),(2,.cells [(.d T1 n.1),(.d T8 n.2)])],3⟩)]) (fun z5b=>[(1,⟨[(8,D0 0),(9,.raw false [N0]),(10,D0 1)],[(0,.cells [(.osl 1)]),(1,.arr 45 T0 t_L)],2⟩)]) z5,?_,?_⟩
 ·have q := hz5
  clear hz5
  unfold f82_j2 at q
  obtain ⟨z7,hz7,q⟩ := bE q
  refine OQ ⟨[(0,⟨[(0,P0 0 0),(2,.dat T1 p_),(3,.dat T1 x_),(5,P0 2 0),(48,.dat .bool z7)],[(0,.cells [(.osl 1)]),(1,.arr 45 T0 t_L),(2,.cells [(.d T1 n.1),(.d T8 n.2)])],3⟩)],?_,?_⟩
  ·have q := hz7
   clear hz7
   unfold f82_j3 at q
   refine cN q (fun q=>?_) (fun q=>?_)
   ·refine gY (gY (gY (gY ?_)))
    obtain ⟨r8,hr8,q⟩ := bE q
    refine OL (AI f133_in (cV (cQ C133 n.1 r8 [] false C133_holds hr8 rfl rfl (AI rfl (K0 (gY (cF ?_)))))))
    cases sE q
    refine E4 I3 (R4 (AI (R2 TV) (R3 TV)))
   refine gN (gN (gN (gN (gN (cT ?_)))))
   cases sE q
   refine E4 I3 (R4 (AI (R2 TV) (R3 TV)))
  refine AI (cI q (fun q=>?_) (fun q=>?_)) TV
  ·cases sE q
   refine OL (E4 I2 (R3 (AJ (R2 TV))))
  cases sE q
  refine E4 I3 (R3 (AI (R2 TV) (R3 TV)))
 rcases z5 with z5a | z5b
 ·dsimp only [sumF] at q
  refine AI (OL ?_) TV
  obtain ⟨r9,hr9,q⟩ := bE q
  refine OL (AI f19_in (cV (cQ C19 (t_L,(n.1,x_)) r9 I2 false C19_holds hr9 rfl rfl (R2 (AI NH (R2 (AJ (AI (R2 TV) (OL (OL (cI q (fun q=>?_) (fun q=>?_))))))))))))
  ·cases sE q
   refine OL (AI rfl (E4 [(0,some 0),(2,none),(3,some 5)] (R3 (AJ (R3 TV)))))
  refine OL (OL (OL (OL (OL ?_))))
  obtain ⟨z139,hz139,q⟩ := bE q
  refine lI (Int×Int×Int×Int×LI×NL) (Sum (Int×NL) (Int×LI×NL)) (fun x=>⟨[(0,P0 0 0),(2,.dat T1 p_),(5,P0 2 0),(15,O0 3),(16,.dat T2 x.1),(17,.dat T2 x.2.1),(18,.dat T2 x.2.2.1),(19,.dat T2 x.2.2.2.1)],[(0,.cells [(.osl 4)]),(2,.cells [(.d T1 n.1),(.d T8 n.2)]),(3,.arr 3 T2 x.2.2.2.2.1),(4,.arr 45 T0 x.2.2.2.2.2)],5⟩) (fun z=>Sum.elim (fun za=>[(1,⟨[(8,D0 0),(9,.raw false [N0]),(10,.dat T2 za.1)],[(0,.cells [(.osl 2)]),(2,.arr 45 T0 za.2)],3⟩)]) (fun zb=>[(2,⟨[(15,O0 2),(17,.dat T2 zb.1)],[(0,.cells [(.osl 3)]),(2,.arr 3 T2 zb.2.1),(3,.arr 45 T0 zb.2.2)],4⟩)]) z) (loopF (fun go x=>f82_l55 n p_ go x.1 x.2.1 x.2.2.1 x.2.2.2.1 x.2.2.2.2.1 x.2.2.2.2.2)) fuelN (r9.1,r9.1,(0:Int),(0:Int),[],r9.2.2) z139 (AI hz139 (AI (E4 [(0,some 0),(2,some 2),(3,none),(4,some 5)] (R6 (AI (R3 TV) (R4 TV)))) (AI (fun _ _ h=>lZ h) (AI (fun m=>curI (fun from_=>curI (fun last=>curI (fun used=>curI (fun i=>curI (fun l3=>fun l4 z q=>?_)))))) ?_))))
  ·have q : f82_l55 n p_ (loopF (fun go x=>f82_l55 n p_ go x.1 x.2.1 x.2.2.1 x.2.2.2.1 x.2.2.2.2.1 x.2.2.2.2.2) m) from_ last used i l3 l4 = some z := q
   unfold f82_l55 at q
   refine OL (OL (cI q (fun q=>?_) (fun q=>?_)))
   ·refine OL (OL (gI q (fun q=>?_)))
    refine OL (OL (gI q (fun q=>?_)))
    refine OL (OL (OL ?_))
    obtain ⟨z161,hz161,q⟩ := bE q
    refine OQ ⟨[(0,⟨[(0,P0 0 0),(2,.dat T1 p_),(5,P0 2 0),(13,.dat T2 z161.1),(15,O0 3),(18,.dat T2 z161.2.1),(19,.dat T2 i),(22,.dat T2 last),(25,.dat T2 z161.2.2.1)],[(0,.cells [(.osl 4)]),(2,.cells [(.d T1 n.1),(.d T8 n.2)]),(3,.arr 3 T2 z161.2.2.2.1),(4,.arr 45 T0 z161.2.2.2.2)],5⟩)],?_,?_⟩
    ·have q := hz161
     clear hz161
     unfold f82_j64 at q
     refine OL (OL (cI q (fun q=>?_) (fun q=>?_)))
     ·refine OL ?_
      obtain ⟨r162,hr162,q⟩ := bE q
      refine OL (AI f133_in (cV (cQ C133 (((((rd (Ty.z T0) l4 last).2).2).2).2).1 r162 [] false C133_holds hr162 rfl rfl (AI rfl (K0 (OL (EI (.take 0 (.take 1 (.take 2 (.take 3 (.take 5 (.take 6 (.take 7 (.take 8 (.take 9 (.take 10 (.take 11 (.take 12 (.take 13 (.alt 4 (.take 14 (.alt 15 (.take 16 (.take 17 (.take 18 (.take 19 (.take 20 .done))))) .done)) .done)))))))))))))) (EI [] (EI [] (AI rfl (gI q (fun q=>?_))))))))))))
      refine AI TV (OL (AI TV ?_))
      obtain ⟨q24_15,hq24_15,q⟩ := bE q
      refine OL (AI f19_in (cV (cQ C19 (l4,([((rd (Ty.z T6) n.2 i).2).1,r162],(List.drop (Int.toNat used) (List.take (Int.toNat (i64.wrap (used + (i64.wrap ((((rd (Ty.z T6) n.2 i).2).1) * r162))))) p_)))) q24_15 [(0,some 0),(1,some 4)] false C19_holds hq24_15 rfl rfl (R2 (AI NH (R2 (AJ (AI (R2 TV) ?_))))))))
      obtain ⟨z163,hz163,q⟩ := bE q
      refine OQ ⟨[(0,⟨[(0,P0 0 0),(2,.dat T1 p_),(5,P0 2 0),(13,.dat T2 z163.1),(15,O0 3),(17,.dat T2 last),(18,.dat T2 used),(19,.dat T2 i),(20,P0 4 0),(21,.dat T1 ((((((rd (Ty.z T0) l4 last).2).2).2).2).1)),(22,.dat T2 last),(23,.dat T2 q24_15.1),(24,.dat T2 z163.2.1),(25,D0 0),(26,.dat T2 r162)],[(0,.cells [(.osl 5)]),(2,.cells [(.d T1 n.1),(.d T8 n.2)]),(3,.arr 3 T2 l3),(4,.cells [(.d .str ((rd (Ty.z T6) n.2 i).1)),(.d T2 (((rd (Ty.z T6) n.2 i).2).1)),(.d T2 (((rd (Ty.z T6) n.2 i).2).2))]),(5,.arr 45 T0 z163.2.2)],6⟩)],?_,?_⟩
      ·have q := hz163
       clear hz163
       unfold f82_j65 at q
       refine OL (cI q (fun q=>?_) (fun q=>?_))
       ·refine EI (.take 0 (.take 1 (.take 2 (.take 4 (.take 5 (.take 6 (.take 7 (.take 8 (.take 9 (.take 10 (.take 11 (.take 12 (.take 13 (.take 14 (.take 15 (.take 16 (.take 17 (.take 18 (.take 19 (.take 20 (.alt 3 (.take 21 (.alt 22 (.take 23 (.take 24 (.take 25 (.take 26 (.take 27 .done))))) .done)) .done))))))))))))))))))))) (EI [] (EI [] (AI rfl (gI q (fun q=>?_)))))
        refine AI TV (OL (AI TV ?_))
        obtain ⟨q26_22,hq26_22,q⟩ := bE q
        refine OL (AI f19_in (cV (cQ C19 (q24_15.2.2,([((rd (Ty.z T6) n.2 i).2).1],(List.drop (Int.toNat (i64.wrap (used + (i64.wrap ((((rd (Ty.z T6) n.2 i).2).1) * r162))))) (List.take (Int.toNat (i64.wrap ((i64.wrap (used + (i64.wrap ((((rd (Ty.z T6) n.2 i).2).1) * r162)))) + (((rd (Ty.z T6) n.2 i).2).1)))) p_)))) q26_22 [(0,some 0),(1,some 9)] false C19_holds hq26_22 rfl rfl (R2 (AI NH (R2 (AJ (AI (R2 TV) ?_))))))))
        cases sE q
        refine E4 [(0,some 0),(2,some 2),(3,some 3),(4,some 5),(5,some 13)] (R12 (AI (R4 TV) (R5 TV)))
       cases sE q
       refine E4 [(0,some 0),(2,some 2),(3,some 3),(4,some 5),(5,some 9)] (R12 (AI (R4 TV) (R5 TV)))
      refine AI (OL ?_) TV
      obtain ⟨z166,hz166,q⟩ := bE q
      refine OQ ⟨[(0,⟨[(0,P0 0 0),(2,.dat T1 p_),(5,P0 2 0),(13,.dat T2 z166.1),(15,O0 3),(17,.dat T2 z166.2.1),(18,.dat T2 (i64.wrap ((i64.wrap (used + (i64.wrap ((((rd (Ty.z T6) n.2 i).2).1) * r162)))) + (((rd (Ty.z T6) n.2 i).2).1)))),(19,.dat T2 i),(22,.dat T2 last),(23,.dat T2 q24_15.1),(24,.dat T2 z163.2.1),(25,D0 0)],[(0,.cells [(.osl 4)]),(2,.cells [(.d T1 n.1),(.d T8 n.2)]),(3,.arr 3 T2 l3),(4,.arr 45 T0 z166.2.2)],5⟩)],?_,?_⟩
      ·have q := hz166
       clear hz166
       unfold f82_j67 at q
       obtain ⟨z167,hz167,q⟩ := bE q
       refine OQ ⟨[(0,⟨[(0,P0 0 0),(2,.dat T1 p_),(5,P0 2 0),(13,.dat T2 z163.1),(15,O0 3),(17,.dat T2 last),(18,.dat T2 (i64.wrap ((i64.wrap (used + (i64.wrap ((((rd (Ty.z T6) n.2 i).2).1) * r162)))) + (((rd (Ty.z T6) n.2 i).2).1)))),(19,.dat T2 i),(22,.dat T2 last),(23,.dat T2 q24_15.1),(24,.dat T2 z163.2.1),(25,D0 0),(160,.dat .bool z167)],[(0,.cells [(.osl 4)]),(2,.cells [(.d T1 n.1),(.d T8 n.2)]),(3,.arr 3 T2 l3),(4,.arr 45 T0 z163.2.2)],5⟩)],?_,?_⟩
       ·have q := hz167
        clear hz167
        unfold f82_j68 at q
        refine cI q (fun q=>?_) (fun q=>?_)
        ·refine gX (gX (cT ?_))
         cases sE q
         refine E4 [(0,some 0),(2,some 2),(3,some 3),(4,some 5)] (R11 (AI (R3 TV) (R4 TV)))
        refine gM (gM (cF ?_))
        cases sE q
        refine E4 [(0,some 0),(2,some 2),(3,some 3),(4,some 5)] (R11 (AI (R3 TV) (R4 TV)))
       refine AI (cI q (fun q=>?_) (fun q=>?_)) TV
       ·obtain ⟨r168,hr168,q⟩ := bE q
        have hr168 : C70.F (z163.2.2,(14:Int),last,(-1:Int),(0:Int)) = some r168 := hr168
        refine OL (AI f70_in (cV (cQ C70 _ r168 [(0,some 0),(1,some 4)] false C70_holds hr168 rfl rfl (R4 (AI NH (R2 (AJ (AI (R2 TV) ?_))))))))
        cases sE q
        refine E4 [(0,some 0),(2,some 2),(3,some 3),(4,some 7)] (R10 (AI (R3 TV) (R4 TV)))
       cases sE q
       refine E4 [(0,some 0),(2,some 2),(3,some 3),(4,some 4)] (R10 (AI (R3 TV) (R4 TV)))
      refine AI ?_ TV
      obtain ⟨z170,hz170,q⟩ := bE q
      refine OQ ⟨[(0,⟨[(0,P0 0 0),(2,.dat T1 p_),(5,P0 2 0),(13,.dat T2 z170.1),(15,O0 3),(18,.dat T2 (i64.wrap ((i64.wrap (used + (i64.wrap ((((rd (Ty.z T6) n.2 i).2).1) * r162)))) + (((rd (Ty.z T6) n.2 i).2).1)))),(19,.dat T2 i),(22,.dat T2 last),(23,.dat T2 q24_15.1),(24,.dat T2 z163.2.1),(25,.dat T2 z170.2.1)],[(0,.cells [(.osl 4)]),(2,.cells [(.d T1 n.1),(.d T8 n.2)]),(3,.arr 3 T2 l3),(4,.arr 45 T0 z170.2.2)],5⟩)],?_,?_⟩
      ·have q := hz170
       clear hz170
       unfold f82_j69 at q
       refine OL (cI q (fun q=>?_) (fun q=>?_))
       ·obtain ⟨r171,hr171,q⟩ := bE q
        refine OL (AI f70_in (cV (cQ C70 (z166.2.2,(4:Int),q24_15.1,z166.2.1,(0:Int)) r171 [(0,some 0),(1,some 4)] false C70_holds hr171 rfl rfl (R4 (AI NH (R2 (AJ (AI (R2 TV) ?_))))))))
        cases sE q
        refine E4 [(0,some 0),(2,some 2),(3,some 3),(4,some 7)] (R9 (AI (R3 TV) (R4 TV)))
       cases sE q
       refine E4 [(0,some 0),(2,some 2),(3,some 3),(4,some 4)] (R9 (AI (R3 TV) (R4 TV)))
      refine AI ?_ TV
      obtain ⟨z173,hz173,q⟩ := bE q
      refine OQ ⟨[(0,⟨[(0,P0 0 0),(2,.dat T1 p_),(5,P0 2 0),(13,.dat T2 z173.1),(15,O0 3),(18,.dat T2 (i64.wrap ((i64.wrap (used + (i64.wrap ((((rd (Ty.z T6) n.2 i).2).1) * r162)))) + (((rd (Ty.z T6) n.2 i).2).1)))),(19,.dat T2 i),(22,.dat T2 last),(23,.dat T2 q24_15.1),(24,.dat T2 z163.2.1),(25,.dat T2 z173.2.1)],[(0,.cells [(.osl 4)]),(2,.cells [(.d T1 n.1),(.d T8 n.2)]),(3,.arr 3 T2 l3),(4,.arr 45 T0 z173.2.2)],5⟩)],?_,?_⟩
      ·have q := hz173
       clear hz173
       unfold f82_j70 at q
       refine OL (cI q (fun q=>?_) (fun q=>?_))
       ·obtain ⟨r174,hr174,q⟩ := bE q
        have hr174 : C70.F (z170.2.2,(8:Int),z170.2.1,(-1:Int),(1:Int)) = some r174 := hr174
        refine OL (AI f70_in (cV (cQ C70 _ r174 [(0,some 0),(1,some 4)] false C70_holds hr174 rfl rfl (R4 (AI NH (R2 (AJ (AI (R2 TV) ?_))))))))
        cases sE q
        refine E4 [(0,some 0),(2,some 2),(3,some 3),(4,some 7)] (R9 (AI (R3 TV) (R4 TV)))
       cases sE q
       refine E4 [(0,some 0),(2,some 2),(3,some 3),(4,some 4)] (R9 (AI (R3 TV) (R4 TV)))
      refine AI ?_ TV
      obtain ⟨z176,hz176,q⟩ := bE q
      refine OQ ⟨[(0,⟨[(0,P0 0 0),(2,.dat T1 p_),(5,P0 2 0),(13,.dat T2 z176.1),(15,O0 3),(18,.dat T2 (i64.wrap ((i64.wrap (used + (i64.wrap ((((rd (Ty.z T6) n.2 i).2).1) * r162)))) + (((rd (Ty.z T6) n.2 i).2).1)))),(19,.dat T2 i),(22,.dat T2 last),(23,.dat T2 q24_15.1),(24,.dat T2 z163.2.1),(25,.dat T2 z176.2.1)],[(0,.cells [(.osl 4)]),(2,.cells [(.d T1 n.1),(.d T8 n.2)]),(3,.arr 3 T2 l3),(4,.arr 45 T0 z176.2.2)],5⟩)],?_,?_⟩
      ·have q := hz176
       clear hz176
       unfold f82_j71 at q
       refine OL (cI q (fun q=>?_) (fun q=>?_))
       ·obtain ⟨r177,hr177,q⟩ := bE q
        refine OL (AI f70_in (cV (cQ C70 (z173.2.2,(2:Int),z173.2.1,z163.2.1,(0:Int)) r177 [(0,some 0),(1,some 4)] false C70_holds hr177 rfl rfl (R4 (AI NH (R2 (AJ (AI (R2 TV) ?_))))))))
        cases sE q
        refine E4 [(0,some 0),(2,some 2),(3,some 3),(4,some 7)] (R9 (AI (R3 TV) (R4 TV)))
       cases sE q
       refine E4 [(0,some 0),(2,some 2),(3,some 3),(4,some 4)] (R9 (AI (R3 TV) (R4 TV)))
      refine AI (OL (OL (gI q (fun q=>?_)))) TV
      cases sE q
      refine E4 [(0,some 0),(2,some 2),(3,some 6),(4,some 4)] (R7 (AI (R3 TV) (R4 TV)))
     refine OL (cI q (fun q=>?_) (fun q=>?_))
     ·refine OL (EI (.take 0 (.take 1 (.take 2 (.take 3 (.take 4 (.take 5 (.take 6 (.take 7 (.take 8 (.take 9 .done)))))))))) (EI [] (EI [] (AI rfl (gI q (fun q=>?_))))))
      refine OL (EI (.take 0 (.take 1 (.take 2 (.take 3 (.take 4 (.take 5 (.take 6 (.take 7 (.take 9 (.take 10 (.take 11 (.take 12 (.take 13 (.take 14 (.alt 8 (.take 15 (.alt 16 (.take 17 (.take 18 (.take 19 (.take 20 (.take 21 .done))))) .done)) .done))))))))))))))) (EI [] (EI [] (AI rfl (gI q (fun q=>?_))))))
      refine gI q (fun q=>?_)
      refine AI TV (OL (AI TV ?_))
      obtain ⟨q39_16,hq39_16,q⟩ := bE q
      refine OL (AI f19_in (cV (cQ C19 (l4,([((rd (Ty.z T6) n.2 i).2).1,(rd (0:Int) ((((((rd (Ty.z T0) l4 last).2).2).2).2).1) (0:Int)),((rd (Ty.z T6) n.2 i).2).2],(List.drop (Int.toNat used) (List.take (Int.toNat (i64.wrap (used + (i64.wrap ((i64.wrap ((((rd (Ty.z T6) n.2 i).2).1) * (rd (0:Int) ((((((rd (Ty.z T0) l4 last).2).2).2).2).1) (0:Int)))) * (((rd (Ty.z T6) n.2 i).2).2)))))) p_)))) q39_16 [(0,some 0),(1,some 4)] false C19_holds hq39_16 rfl rfl (R2 (AI NH (R2 (AJ (AI (R2 TV) (OL ?_)))))))))
      obtain ⟨z178,hz178,q⟩ := bE q
      refine OQ ⟨[(0,⟨[(0,P0 0 0),(2,.dat T1 p_),(5,P0 2 0),(13,.dat T2 z178.1),(15,O0 3),(18,.dat T2 (i64.wrap (used + (i64.wrap ((i64.wrap ((((rd (Ty.z T6) n.2 i).2).1) * (rd (0:Int) ((((((rd (Ty.z T0) l4 last).2).2).2).2).1) (0:Int)))) * (((rd (Ty.z T6) n.2 i).2).2)))))),(19,.dat T2 i),(22,.dat T2 last),(23,.dat T2 q39_16.1),(25,.dat T2 z178.2.1)],[(0,.cells [(.osl 4)]),(2,.cells [(.d T1 n.1),(.d T8 n.2)]),(3,.arr 3 T2 l3),(4,.arr 45 T0 z178.2.2)],5⟩)],?_,?_⟩
      ·have q := hz178
       clear hz178
       unfold f82_j72 at q
       refine OL (cI q (fun q=>?_) (fun q=>?_))
       ·obtain ⟨r179,hr179,q⟩ := bE q
        refine OL (AI f70_in (cV (cQ C70 (q39_16.2.2,(12:Int),last,q39_16.1,(1:Int)) r179 [(0,some 0),(1,some 9)] false C70_holds hr179 rfl rfl (R4 (AI NH (R2 (AJ (AI (R2 TV) ?_))))))))
        cases sE q
        refine E4 [(0,some 0),(2,some 2),(3,some 3),(4,some 12)] (R8 (AI (R3 TV) (R4 TV)))
       cases sE q
       refine E4 [(0,some 0),(2,some 2),(3,some 3),(4,some 9)] (R8 (AI (R3 TV) (R4 TV)))
      refine AI (OL (OL (gI q (fun q=>?_)))) TV
      cases sE q
      refine E4 [(0,some 0),(2,some 2),(3,some 6),(4,some 4)] (R7 (AI (R3 TV) (R4 TV)))
     refine OL (cI q (fun q=>?_) (fun q=>?_))
     ·obtain ⟨r180,hr180,q⟩ := bE q
      have hr180 : C70.F (l4,(13:Int),last,(-1:Int),((rd (Ty.z T6) n.2 i).2).1) = some r180 := hr180
      refine OL (AI f70_in (cV (cQ C70 _ r180 [(0,some 0),(1,some 4)] false C70_holds hr180 rfl rfl (R4 (AI NH (R2 (AJ (AI (R2 TV) ?_))))))))
      cases sE q
      refine E4 [(0,some 0),(2,some 2),(3,some 3),(4,some 8)] (R7 (AI (R3 TV) (R4 TV)))
     refine OL (cI q (fun q=>?_) (fun q=>?_))
     ·obtain ⟨r181,hr181,q⟩ := bE q
      have hr181 : C70.F (l4,(11:Int),last,(-1:Int),((rd (Ty.z T6) n.2 i).2).1) = some r181 := hr181
      refine OL (AI f70_in (cV (cQ C70 _ r181 [(0,some 0),(1,some 4)] false C70_holds hr181 rfl rfl (R4 (AI NH (R2 (AJ (AI (R2 TV) ?_))))))))
      cases sE q
      refine E4 [(0,some 0),(2,some 2),(3,some 3),(4,some 8)] (R7 (AI (R3 TV) (R4 TV)))
     obtain ⟨r182,hr182,q⟩ := bE q
     refine OL (AI f70_in (cV (cQ C70 (l4,(2:Int),from_,last,(0:Int)) r182 [(0,some 0),(1,some 4)] false C70_holds hr182 rfl rfl (R4 (AI NH (R2 (AJ (AI (R2 TV) ?_))))))))
     cases sE q
     refine E4 [(0,some 0),(2,some 2),(3,some 3),(4,some 8)] (R7 (AI (R3 TV) (R4 TV)))
    refine AI (OL (OL (cI q (fun q=>?_) (fun q=>?_)))) TV
    ·cases sE q
     refine OL (E4 [(0,some 0),(2,some 4)] (R3 (AJ (R2 TV))))
    refine EI (last,z161.2.2.1,z161.2.1,(i64.wrap (i + (1:Int))),z161.2.2.2.1,z161.2.2.2.2) (AI q (E4 [(0,some 0),(2,some 2),(3,some 3),(4,some 4)] (R6 (AI (R3 TV) (R4 TV)))))
   cases sE q
   refine E4 [(0,some 0),(2,some 3),(3,some 4)] (R2 (AJ (R3 TV)))
  rcases z139 with z139a | z139b
  ·dsimp only [sumF] at q
   refine AI ?_ TV
   cases sE q
   refine AI rfl (E4 [(0,some 0),(2,none),(3,some 2)] (R3 (AJ (R3 TV))))
  dsimp only [sumF] at q
  refine AI (OL ?_) TV
  cases sE q
  refine AI rfl (E4 [(0,some 0),(2,some 2),(3,some 3)] (R3 (AJ (R3 TV))))
 dsimp only [sumF] at q
 refine AI ?_ TV
 cases sE q
 refine AI rfl (E4 [(0,some 0),(2,none),(3,some 1)] (R3 (AJ (R3 TV))))
theorem C82_holds : HP C82 82 := hH Tryz.f82 (by kernel_rfl) rfl (fun x y q=>C82_vc x.1 x.2.1 x.2.2.1 x.2.2.2 y q)
theorem f82_in : InP 82 := inP (by kernel_rfl)
def f34_j3 (kind:Int) : Option Bool :=
 bif (decide (kind < (1:Int))) then
 some true
 else
 some (decide (kind > (3:Int)))
def f34_j2 (kind:Int) : Option (Sum Unit Unit) :=
 bindF (f34_j3 kind) fun z3 =>
 bif z3 then
 some (Sum.inr ())
 else
 some (Sum.inl ())
def f34_l4 (q18_14 : Int×Int×LI×NL) (r5 : Int×(List (LI×LI))×NL) (go : (Int×LI) → Option LI) (i:Int) (l3 : LI) : Option LI :=
 bif (decide (i < (List.length q18_14.2.2.1:Int))) then
 guardF (0 ≤ i ∧ i < (List.length q18_14.2.2.1:Int)) <|
 guardF (0 ≤ (rd (0:Int) q18_14.2.2.1 i) ∧ (rd (0:Int) q18_14.2.2.1 i) < (List.length r5.2.1:Int)) <|
 guardF ((List.length l3 + List.length ((rd (Ty.z T3) r5.2.1 (rd (0:Int) q18_14.2.2.1 i)).2)) * 8 ≤ 140737488355328) <|
 go ((i64.wrap (i + (1:Int))),(l3 ++ ((rd (Ty.z T3) r5.2.1 (rd (0:Int) q18_14.2.2.1 i)).2)))
 else
 some l3
def f34 (n : LI×(List (ByteArray×Int×Int))) (kind:Int) (p_ : LI) (x_ : LI×LI×Int) : Option (Int×Int×LI) :=
 bindF (f34_j2 kind) fun z2 =>
 sumF z2 (fun z2a =>
 bindF (f82 ([]) (n.1,n.2) p_ x_.1) fun q18_14 =>
 bif (q18_14.2.1 != (0:Int)) then
 some ((0:Int),q18_14.2.1,[])
 else
 bindF (f23 q18_14.2.2.2 kind q18_14.1 x_.2.1 x_.2.2) fun r4 =>
 bif (r4.2.1 != (0:Int)) then
 some ((0:Int),r4.2.1,[])
 else
 bindF (f27 r4.2.2 r4.1) fun r5 =>
 bif (r5.1 != (0:Int)) then
 some ((0:Int),r5.1,[])
 else
 bindF (loopF (fun go x=>f34_l4 q18_14 r5 go x.1 x.2) fuelN ((0:Int),[])) fun z6 =>
 guardF (0 ≤ r4.1 ∧ r4.1 < (List.length r5.2.2:Int)) <|
 guardF (0 ≤ (0:Int) ∧ (0:Int) < (List.length ((((((rd (Ty.z T0) r5.2.2 r4.1).2).2).2).2).2):Int)) <|
 some ((rd (0:Int) ((((((rd (Ty.z T0) r5.2.2 r4.1).2).2).2).2).2) (0:Int)),(0:Int),z6)) (fun z2b =>
 some ((0:Int),(1:Int),[]))
def C34 : Con where
 X := (LI×(List (ByteArray×Int×Int)))×Int×LI×(LI×LI×Int)
 Y := Int×Int×LI
 e := 0
 args x := [.dat T7 x.1,.dat T2 x.2.1,.dat T1 x.2.2.1,.dat T10 x.2.2.2]
 hin x := []
 F x := f34 x.1 x.2.1 x.2.2.1 x.2.2.2
 ret y := [O0 0,.dat T2 y.1,.dat T2 y.2.1]
 hout y := [(0,.arr 40 T2 y.2.2)]
 nout := 1
theorem C34_vc (n : LI×(List (ByteArray×Int×Int))) (kind:Int) (p_ : LI) (x_ : LI×LI×Int) (y : Int×Int×LI) (q : f34 n kind p_ x_ = some y) : VC Tryz.f34 C34 (n,kind,p_,x_) y := by
 unfold f34 at q
 refine OL ?_
 obtain ⟨z2,hz2,q⟩ := bE q
 refine OQ ⟨Sum.elim (fun z2a=>[(0,⟨[(1,.dat T2 kind),(2,.dat T1 p_),(4,P0 0 0),(7,P0 1 0)],[(0,.cells [(.d T1 n.1),(.d T8 n.2)]),(1,.cells [(.d T1 x_.1),(.d T1 x_.2.1),(.d T2 x_.2.2)])],2⟩)]) (fun z2b=>[(1,⟨[(8,.raw false [N0]),(9,D0 0),(10,D0 1)],[],0⟩)]) z2,?_,?_⟩
 ·have q := hz2
  clear hz2
  unfold f34_j2 at q
  obtain ⟨z3,hz3,q⟩ := bE q
  refine OQ ⟨[(0,⟨[(1,.dat T2 kind),(2,.dat T1 p_),(4,P0 0 0),(7,P0 1 0),(24,.dat .bool z3)],[(0,.cells [(.d T1 n.1),(.d T8 n.2)]),(1,.cells [(.d T1 x_.1),(.d T1 x_.2.1),(.d T2 x_.2.2)])],2⟩)],?_,?_⟩
  ·have q := hz3
   clear hz3
   unfold f34_j3 at q
   refine cN q (fun q=>?_) (fun q=>?_)
   ·refine gY (cF ?_)
    cases sE q
    refine E4 I2 (R4 (AI (R2 TV) (R2 TV)))
   refine gN (cT ?_)
   cases sE q
   refine E4 I2 (R4 (AI (R2 TV) (R2 TV)))
  refine AI (cI q (fun q=>?_) (fun q=>?_)) TV
  ·cases sE q
   refine OL (E4 [] (R3 (AJ TV)))
  cases sE q
  refine E4 I2 (R3 (AI (R2 TV) (R2 TV)))
 rcases z2 with z2a | z2b
 ·dsimp only [sumF] at q
  refine AI (OL (OL ?_)) TV
  obtain ⟨q18_14,hq18_14,q⟩ := bE q
  refine OL (AI f82_in (callVn [(2,0,45,T0)] (virtI rfl rfl (virt0 (cQ C82 ([],(n.1,n.2),p_,x_.1) q18_14 [(0,some 2),(1,some 3)] false C82_holds hq18_14 rfl rfl (R4 (AI NH (R2 (AJ (AI (R2 TV) (OL (OL (cI q (fun q=>?_) (fun q=>?_))))))))))))))
  ·cases sE q
   refine OL (AI rfl (E4 [(0,none)] (R3 (AJ (AI rfl TV)))))
  refine OL ?_
  obtain ⟨r4,hr4,q⟩ := bE q
  refine OL (AI f23_in (cV (cQ C23 (q18_14.2.2.2,kind,q18_14.1,x_.2.1,x_.2.2) r4 [(0,some 2),(1,some 7)] false C23_holds hr4 rfl rfl (R4 (AI NH (R2 (AJ (AI (R2 TV) (OL (OL (cI q (fun q=>?_) (fun q=>?_))))))))))))
  ·cases sE q
   refine OL (AI rfl (E4 [(0,none)] (R3 (AJ (AI rfl TV)))))
  refine OL ?_
  obtain ⟨r5,hr5,q⟩ := bE q
  refine OL (AI f27_in (cV (cQ C27 (r4.2.2,r4.1) r5 [(0,some 2),(1,some 10)] false C27_holds hr5 rfl rfl (AI rfl (AI NH (R2 (AJ (AI (R2 TV) (OL (OL (cI q (fun q=>?_) (fun q=>?_))))))))))))
  ·cases sE q
   refine OL (AI rfl (E4 [(0,none)] (R3 (AJ (AI rfl TV)))))
  refine OL (OL (OL ?_))
  obtain ⟨z6,hz6,q⟩ := bE q
  refine lI (Int×LI) LI (fun x=>⟨[(11,P0 0 0),(13,O0 1),(15,.dat T2 r4.1),(16,O0 2),(17,O0 3),(18,.dat T2 x.1)],[(0,.cells [(.osl 4)]),(1,.arr 3 T2 q18_14.2.2.1),(2,.arr 35 T3 r5.2.1),(3,.arr 40 T2 x.2),(4,.arr 45 T0 r5.2.2)],5⟩) (fun z=>[(2,⟨[(11,P0 0 0),(15,.dat T2 r4.1),(17,O0 1)],[(0,.cells [(.osl 2)]),(1,.arr 40 T2 z),(2,.arr 45 T0 r5.2.2)],3⟩)]) (loopF (fun go x=>f34_l4 q18_14 r5 go x.1 x.2)) fuelN ((0:Int),[]) z6 (AI hz6 (AI (E4 [(0,some 2),(1,some 6),(2,some 13),(3,none),(4,some 10)] (R3 (AI (R4 TV) (R5 TV)))) (AI (fun _ _ h=>lZ h) (AI (fun m=>curI (fun i=>fun l3 z q=>?_)) ?_))))
  ·have q : f34_l4 q18_14 r5 (loopF (fun go x=>f34_l4 q18_14 r5 go x.1 x.2) m) i l3 = some z := q
   unfold f34_l4 at q
   refine OL (OL (cI q (fun q=>?_) (fun q=>?_)))
   ·refine OL (gI q (fun q=>?_))
    refine gI q (fun q=>?_)
    refine OL (gI q (fun q=>?_))
    refine EI ((i64.wrap (i + (1:Int))),(l3 ++ ((rd (Ty.z T3) r5.2.1 (rd (0:Int) q18_14.2.2.1 i)).2))) (AI q (E4 [(0,some 0),(1,some 1),(2,some 2),(3,some 5),(4,some 4)] (R3 (AI (R4 TV) (R5 TV)))))
   cases sE q
   refine E4 [(0,some 0),(1,some 3),(2,some 4)] (R2 (AI (R2 TV) (R3 TV)))
  refine AI (OL (EI (.take 0 (.take 1 (.take 2 (.take 3 (.take 4 (.take 5 (.take 6 (.take 7 (.take 8 (.take 9 (.take 10 (.take 11 (.take 12 (.take 13 (.take 14 .done))))))))))))))) (EI [] (EI [] (AI rfl (gI q (fun q=>?_))))))) TV
  refine gI q (fun q=>?_)
  cases sE q
  refine AI rfl (E4 [(0,some 1)] (R3 (AJ (AI rfl TV))))
 dsimp only [sumF] at q
 refine AI ?_ TV
 cases sE q
 refine AI rfl (E4 [(0,none)] (R3 (AJ (AI rfl TV))))
theorem C34_holds : HP C34 34 := hH Tryz.f34 (by kernel_rfl) rfl (fun x y q=>C34_vc x.1 x.2.1 x.2.2.1 x.2.2.2 y q)
theorem f34_in : InP 34 := inP (by kernel_rfl)
def f86_j1 (a_Neg : Bool) (a_M_0:Int) (a_M_1:Int) : Option (Int×Int) :=
 bif a_Neg then
 bif ((u64.wrap ((bitsOf IntKind.u64 (fun p q=>p ^^^ q) (if (IntKind.signed IntKind.u64) then -1 else IntKind.max IntKind.u64) a_M_0) + (1:Int))) == (0:Int)) then
 some ((u64.wrap ((bitsOf IntKind.u64 (fun p q=>p ^^^ q) (if (IntKind.signed IntKind.u64) then -1 else IntKind.max IntKind.u64) a_M_0) + (1:Int))),(u64.wrap ((bitsOf IntKind.u64 (fun p q=>p ^^^ q) (if (IntKind.signed IntKind.u64) then -1 else IntKind.max IntKind.u64) a_M_1) + (1:Int))))
 else
 some ((u64.wrap ((bitsOf IntKind.u64 (fun p q=>p ^^^ q) (if (IntKind.signed IntKind.u64) then -1 else IntKind.max IntKind.u64) a_M_0) + (1:Int))),(bitsOf IntKind.u64 (fun p q=>p ^^^ q) (if (IntKind.signed IntKind.u64) then -1 else IntKind.max IntKind.u64) a_M_1))
 else
 some (a_M_0,a_M_1)
def f86 (a_Neg : Bool) (a_M_0:Int) (a_M_1:Int) (a_M_2:Int) (a_M_3:Int) : Option (Int×Int) :=
 bindF (f86_j1 a_Neg a_M_0 a_M_1) fun z1 =>
 some ((i64.wrap z1.2),z1.1)
def C86 : Con where
 X := Bool×Int×Int×Int×Int
 Y := Int×Int
 e := 0
 args x := [.raw true [(.d .bool x.1),(.d T4 x.2.1),(.d T4 x.2.2.1),(.d T4 x.2.2.2.1),(.d T4 x.2.2.2.2)]]
 hin x := []
 F x := f86 x.1 x.2.1 x.2.2.1 x.2.2.2.1 x.2.2.2.2
 ret y := [.raw true [(.d T2 y.1),(.d T4 y.2)]]
 hout y := []
 nout := 0
theorem C86_vc (a_Neg : Bool) (a_M_0:Int) (a_M_1:Int) (a_M_2:Int) (a_M_3:Int) (y : Int×Int) (q : f86 a_Neg a_M_0 a_M_1 a_M_2 a_M_3 = some y) : VC Tryz.f86 C86 (a_Neg,a_M_0,a_M_1,a_M_2,a_M_3) y := by
 unfold f86 at q
 refine OL (OL (EI (.take 0 (.take 1 (.take 2 (.take 3 (.take 4 (.take 5 (.take 6 (.take 7 .done)))))))) (EI [] (EI [] (AI rfl (AI (by decide) (AI (fun _=>?_) (AI (fun h=>absurd h (by decide)) (AI (fun h=>absurd h (by decide)) (AI (fun h=>absurd h (by decide)) TV))))))))))
 refine AI (by decide) (AI (fun h=>absurd h (by decide)) ?_)
 refine AI (fun _=>?_) (AI (fun h=>absurd h (by decide)) (AI (fun h=>absurd h (by decide)) TV))
 obtain ⟨z1,hz1,q⟩ := bE q
 refine OQ ⟨[(0,⟨[(2,P0 0 0),(3,.dat T4 z1.1),(4,.dat T4 z1.2)],[(0,.cells [(.d T2 (0:Int)),(.d T4 (0:Int))])],1⟩)],?_,?_⟩
 ·have q := hz1
  clear hz1
  unfold f86_j1 at q
  refine OL (cI q (fun q=>?_) (fun q=>?_))
  ·refine OL (OL (OL (cI q (fun q=>?_) (fun q=>?_))))
   ·cases sE q
    refine E4 [(0,some 1)] (R3 (AJ (AI rfl TV)))
   cases sE q
   refine E4 [(0,some 1)] (R3 (AJ (AI rfl TV)))
  cases sE q
  refine E4 [(0,some 1)] (R3 (AJ (AI rfl TV)))
 refine AI (OL (OL ?_)) TV
 cases sE q
 refine AI rfl (E4 [] (AI rfl (AJ TV)))
theorem C86_holds : HP C86 86 := hH Tryz.f86 (by kernel_rfl) rfl (fun x y q=>C86_vc x.1 x.2.1 x.2.2.1 x.2.2.2.1 x.2.2.2.2 y q)
theorem f86_in : InP 86 := inP (by kernel_rfl)
def f140_j1 (a : Int×Int) : Option Int :=
 bif ((u64.wrap ((bitsOf IntKind.u64 (fun p q=>p ^^^ q) (if (IntKind.signed IntKind.u64) then -1 else IntKind.max IntKind.u64) a.2) + (1:Int))) == (0:Int)) then
 some (u64.wrap ((bitsOf IntKind.u64 (fun p q=>p ^^^ q) (if (IntKind.signed IntKind.u64) then -1 else IntKind.max IntKind.u64) (u64.wrap a.1)) + (1:Int)))
 else
 some (bitsOf IntKind.u64 (fun p q=>p ^^^ q) (if (IntKind.signed IntKind.u64) then -1 else IntKind.max IntKind.u64) (u64.wrap a.1))
def f140 (a : Int×Int) : Option (Bool×Int×Int) :=
 bif (decide (a.1 ≥ (0:Int))) then
 some (false,a.2,(u64.wrap a.1))
 else
 bindF (f140_j1 a) fun z1 =>
 some (true,(u64.wrap ((bitsOf IntKind.u64 (fun p q=>p ^^^ q) (if (IntKind.signed IntKind.u64) then -1 else IntKind.max IntKind.u64) a.2) + (1:Int))),z1)
def C140 : Con where
 X := Int×Int
 Y := Bool×Int×Int
 e := 0
 args x := [.dat T5 x]
 hin x := []
 F x := f140 x
 ret y := [.raw true [(.d .bool y.1),(.d T4 y.2.1),(.d T4 y.2.2),(.d T4 (0:Int)),(.d T4 (0:Int))]]
 hout y := []
 nout := 0
theorem C140_vc (a : Int×Int) (y : Bool×Int×Int) (q : f140 a = some y) : VC Tryz.f140 C140 a y := by
 unfold f140 at q
 refine OL (OL (OL (cI q (fun q=>?_) (fun q=>?_))))
 ·refine OL (OL ?_)
  cases sE q
  refine AI rfl (E4 [] (AI rfl (AJ TV)))
 refine OL (EI (.take 0 (.take 1 (.take 2 (.take 3 (.take 4 (.take 5 (.take 6 (.take 7 (.take 8 (.take 9 .done)))))))))) (EI [] (EI [] (AI rfl ?_))))
 obtain ⟨z1,hz1,q⟩ := bE q
 refine OQ ⟨[(0,⟨[(2,P0 0 0),(3,.dat T4 (u64.wrap ((bitsOf IntKind.u64 (fun p q=>p ^^^ q) (if (IntKind.signed IntKind.u64) then -1 else IntKind.max IntKind.u64) a.2) + (1:Int)))),(4,.dat T4 z1)],[(0,.cells [(.d .bool false),(.d T4 (0:Int)),(.d T4 (0:Int)),(.d T4 (0:Int)),(.d T4 (0:Int))])],1⟩)],?_,?_⟩
 ·have q := hz1
  clear hz1
  unfold f140_j1 at q
  refine OL (cI q (fun q=>?_) (fun q=>?_))
  ·cases sE q
   refine E4 [(0,some 1)] (R3 (AJ (AI rfl TV)))
  cases sE q
  refine E4 [(0,some 1)] (R3 (AJ (AI rfl TV)))
 refine AI (OL (OL ?_)) TV
 cases sE q
 refine AI rfl (E4 [] (AI rfl (AJ TV)))
theorem C140_holds : HP C140 140 := hH Tryz.f140 (by kernel_rfl) rfl (fun x y q=>C140_vc x y q)
theorem f140_in : InP 140 := inP (by kernel_rfl)
def f85 (a : Int×Int) (b : Int×Int) : Option (Int×Int) :=
 bindF (f140 (a.1,a.2)) fun q1_1 =>
 bindF (f140 (b.1,b.2)) fun q1_3 =>
 bindF (f139 q1_1.1 q1_1.2.1 q1_1.2.2 (0:Int) (0:Int) q1_3.1 q1_3.2.1 q1_3.2.2 (0:Int) (0:Int)) fun q1_4 =>
 bindF (f86 q1_4.1 q1_4.2.1 q1_4.2.2.1 q1_4.2.2.2.1 q1_4.2.2.2.2) fun q1_5 =>
 some (q1_5.1,q1_5.2)
def C85 : Con where
 X := (Int×Int)×(Int×Int)
 Y := Int×Int
 e := 0
 args x := [.dat T5 x.1,.dat T5 x.2]
 hin x := []
 F x := f85 x.1 x.2
 ret y := [.raw true [(.d T2 y.1),(.d T4 y.2)]]
 hout y := []
 nout := 0
theorem C85_vc (a : Int×Int) (b : Int×Int) (y : Int×Int) (q : f85 a b = some y) : VC Tryz.f85 C85 (a,b) y := by
 unfold f85 at q
 refine OL (OL (EI (.take 0 (.take 2 (.alt 1 (.alt 3 (.alt 4 (.alt 5 (.alt 6 .done .done) .done) .done) .done) .done))) (EI [] (EI [] (AI rfl (AI TV ?_))))))
 obtain ⟨q1_1,hq1_1,q⟩ := bE q
 refine OL (AI f140_in (cV (cQ C140 (a.1,a.2) q1_1 [] false C140_holds hq1_1 rfl rfl (R2 (K0 (AI TV ?_))))))
 obtain ⟨q1_3,hq1_3,q⟩ := bE q
 refine OL (AI f140_in (cV (cQ C140 (b.1,b.2) q1_3 [] false C140_holds hq1_3 rfl rfl (R2 (K0 (AI TV ?_))))))
 obtain ⟨q1_4,hq1_4,q⟩ := bE q
 refine OL (AI f139_in (cV (cQ C139 (q1_1.1,q1_1.2.1,q1_1.2.2,(0:Int),(0:Int),q1_3.1,q1_3.2.1,q1_3.2.2,(0:Int),(0:Int)) q1_4 [] false C139_holds hq1_4 rfl rfl (AI NH (R2 (AI (R2 TV) (AI TV (AI TV ?_))))))))
 obtain ⟨q1_5,hq1_5,q⟩ := bE q
 refine OL (AI f86_in (cV (cQ C86 (q1_4.1,q1_4.2.1,q1_4.2.2.1,q1_4.2.2.2.1,q1_4.2.2.2.2) q1_5 [] false C86_holds hq1_5 rfl rfl (AI NH (R2 (AJ (AI TV (AI TV (OL ?_)))))))))
 cases sE q
 refine AI rfl (E4 [] (AI rfl (AJ TV)))
theorem C85_holds : HP C85 85 := hH Tryz.f85 (by kernel_rfl) rfl (fun x y q=>C85_vc x.1 x.2 y q)
theorem f85_in : InP 85 := inP (by kernel_rfl)
def f39_l4 (q17_4 : Int×Int×(List LI)) (q9_7 : Int×Int×LI) (go : (Int×(List (Int×Int))) → Option (List (Int×Int))) (k:Int) (l2_2 : List (Int×Int)) : Option (List (Int×Int)) :=
 bif (decide (k < q17_4.1)) then
 guardF (0 ≤ k ∧ k < (List.length l2_2:Int)) <|
 guardF (0 ≤ k ∧ k < (List.length q9_7.2.2:Int)) <|
 bindF (f87 (rd (0:Int) q9_7.2.2 k)) fun q15_10 =>
 bindF (f86 q15_10.1 q15_10.2 (0:Int) (0:Int) (0:Int)) fun q15_11 =>
 bindF (f85 ((rd (Ty.z T5) l2_2 k).1,(rd (Ty.z T5) l2_2 k).2) (q15_11.1,q15_11.2)) fun q15_12 =>
 guardF (0 ≤ k ∧ k < (List.length l2_2:Int)) <|
 go ((i64.wrap (k + (1:Int))),(List.set l2_2 (Int.toNat k) (q15_12.1,q15_12.2)))
 else
 some l2_2
def f39_l3 (n : LI×(List (ByteArray×Int×Int))) (kind:Int) (p_ : LI) (l : List (LI×LI×Int)) (q17_4 : Int×Int×(List LI)) (go : (Int×(List (Int×Int))×Int×Int) → Option (Sum Int ((List (Int×Int))×Int×Int))) (i:Int) (l2 : List (Int×Int)) (c3_0:Int) (c3_1:Int) : Option (Sum Int ((List (Int×Int))×Int×Int)) :=
 bif (decide (i < (List.length l:Int))) then
 guardF (0 ≤ i ∧ i < (List.length l:Int)) <|
 bindF (f34 (n.1,n.2) kind p_ ((rd (Ty.z T10) l i).1,((rd (Ty.z T10) l i).2).1,((rd (Ty.z T10) l i).2).2)) fun q9_7 =>
 bif (q9_7.2.1 != (0:Int)) then
 some (Sum.inl q9_7.2.1)
 else
 bindF (loopF (fun go x=>f39_l4 q17_4 q9_7 go x.1 x.2) fuelN ((0:Int),l2)) fun z4 =>
 bindF (f87 q9_7.1) fun q16_2 =>
 bindF (f86 q16_2.1 q16_2.2 (0:Int) (0:Int) (0:Int)) fun q16_3 =>
 bindF (f85 (c3_0,c3_1) (q16_3.1,q16_3.2)) fun q16_4 =>
 go ((i64.wrap (i + (1:Int))),z4,q16_4.1,q16_4.2)
 else
 some (Sum.inr (l2,c3_0,c3_1))
def f39 (n : LI×(List (ByteArray×Int×Int))) (kind:Int) (p_ : LI) (l : List (LI×LI×Int)) : Option (Int×Int×Int×(List (Int×Int))) :=
 bindF (f79 (n.1,n.2)) fun q17_4 =>
 bif (q17_4.2.1 != (0:Int)) then
 some ((0:Int),(0:Int),q17_4.2.1,[])
 else
 guardF (0 ≤ q17_4.1 ∧ q17_4.1 ≤ q17_4.1 ∧ Int.toNat q17_4.1 * 16 ≤ 140737488355328) <|
 bindF (loopF (fun go x=>f39_l3 n kind p_ l q17_4 go x.1 x.2.1 x.2.2.1 x.2.2.2) fuelN ((0:Int),(List.replicate (Int.toNat q17_4.1) (Ty.z T5)),(0:Int),(0:Int))) fun z3 =>
 sumF z3 (fun z3a =>
 some ((0:Int),(0:Int),z3a,[])) (fun z3b =>
 some (z3b.2.1,z3b.2.2,(0:Int),z3b.1))
def C39 : Con where
 X := (LI×(List (ByteArray×Int×Int)))×Int×LI×(List (LI×LI×Int))
 Y := Int×Int×Int×(List (Int×Int))
 e := 0
 args x := [.dat T7 x.1,.dat T2 x.2.1,.dat T1 x.2.2.1,.dat T11 x.2.2.2]
 hin x := []
 F x := f39 x.1 x.2.1 x.2.2.1 x.2.2.2
 ret y := [O0 0,.raw true [(.d T2 y.1),(.d T4 y.2.1)],.dat T2 y.2.2.1]
 hout y := [(0,.arr 79 T5 y.2.2.2)]
 nout := 1
theorem C39_vc (n : LI×(List (ByteArray×Int×Int))) (kind:Int) (p_ : LI) (l : List (LI×LI×Int)) (y : Int×Int×Int×(List (Int×Int))) (q : f39 n kind p_ l = some y) : VC Tryz.f39 C39 (n,kind,p_,l) y := by
 unfold f39 at q
 refine OL (OL ?_)
 obtain ⟨q17_4,hq17_4,q⟩ := bE q
 refine OL (AI f79_in (cV (cQ C79 (n.1,n.2) q17_4 [] false C79_holds hq17_4 rfl rfl (R2 (K0 (OL (OL (cI q (fun q=>?_) (fun q=>?_)))))))))
 ·refine OL (OL ?_)
  cases sE q
  refine AI rfl (E4 [(0,none)] (R2 (AI (R2 TV) (AI rfl TV))))
 refine OL (gI q (fun q=>?_))
 refine OL (OL (OL (OL ?_)))
 obtain ⟨z3,hz3,q⟩ := bE q
 refine lI (Int×(List (Int×Int))×Int×Int) (Sum Int ((List (Int×Int))×Int×Int)) (fun x=>⟨[(1,.dat T2 kind),(2,.dat T1 p_),(3,.dat T11 l),(4,P0 0 0),(9,P0 1 0),(12,.dat T2 q17_4.1),(14,O0 2),(15,P0 3 0),(16,.dat T2 x.1)],[(0,.cells [(.d T1 n.1),(.d T8 n.2)]),(1,.cells [(.d T2 (0:Int)),(.d T4 (0:Int))]),(2,.arr 79 T5 x.2.1),(3,.cells [(.d T2 x.2.2.1),(.d T4 x.2.2.2)])],4⟩) (fun z=>Sum.elim (fun za=>[(1,⟨[(8,.raw false [N0]),(9,P0 0 0),(10,.dat T2 za)],[(0,.cells [(.d T2 (0:Int)),(.d T4 (0:Int))])],1⟩)]) (fun zb=>[(2,⟨[(9,P0 0 0),(14,O0 1),(15,P0 2 0)],[(0,.cells [(.d T2 (0:Int)),(.d T4 (0:Int))]),(1,.arr 79 T5 zb.1),(2,.cells [(.d T2 zb.2.1),(.d T4 zb.2.2)])],3⟩)]) z) (loopF (fun go x=>f39_l3 n kind p_ l q17_4 go x.1 x.2.1 x.2.2.1 x.2.2.2)) fuelN ((0:Int),(List.replicate (Int.toNat q17_4.1) (Ty.z T5)),(0:Int),(0:Int)) z3 (AI hz3 (AI (E4 [(0,some 0),(1,some 1),(2,some 3),(3,some 4)] (R6 (AI (R4 TV) (R4 TV)))) (AI (fun _ _ h=>lZ h) (AI (fun m=>curI (fun i=>curI (fun l2=>curI (fun c3_0=>fun c3_1 z q=>?_)))) ?_))))
 ·have q : f39_l3 n kind p_ l q17_4 (loopF (fun go x=>f39_l3 n kind p_ l q17_4 go x.1 x.2.1 x.2.2.1 x.2.2.2) m) i l2 c3_0 c3_1 = some z := q
  unfold f39_l3 at q
  refine OL (OL (cI q (fun q=>?_) (fun q=>?_)))
  ·refine OL (OL (EI (.take 0 (.take 1 (.take 2 (.take 3 (.take 4 (.take 5 (.take 6 (.alt 7 (.take 8 (.take 9 (.take 10 (.take 11 (.take 12 (.take 13 (.take 14 .done))))))) .done)))))))) (EI [] (EI [] (AI rfl (gI q (fun q=>?_)))))))
   refine AI TV ?_
   obtain ⟨q9_7,hq9_7,q⟩ := bE q
   refine OL (AI f34_in (cV (cQ C34 ((n.1,n.2),kind,p_,((rd (Ty.z T10) l i).1,((rd (Ty.z T10) l i).2).1,((rd (Ty.z T10) l i).2).2)) q9_7 [] false C34_holds hq9_7 rfl rfl (R6 (K0 (OL (OL (cI q (fun q=>?_) (fun q=>?_)))))))))
   ·refine OL (OL ?_)
    cases sE q
    refine E4 [(0,some 1)] (R2 (AI (R2 TV) (AI rfl TV)))
   refine OL (OL ?_)
   obtain ⟨z4,hz4,q⟩ := bE q
   refine lI (Int×(List (Int×Int))) (List (Int×Int)) (fun x=>⟨[(1,.dat T2 kind),(2,.dat T1 p_),(3,.dat T11 l),(4,P0 0 0),(9,P0 1 0),(12,.dat T2 q17_4.1),(14,O0 2),(15,P0 3 0),(16,.dat T2 i),(17,O0 4),(18,.dat T2 q9_7.1),(20,.dat T2 x.1)],[(0,.cells [(.d T1 n.1),(.d T8 n.2)]),(1,.cells [(.d T2 (0:Int)),(.d T4 (0:Int))]),(2,.arr 79 T5 x.2),(3,.cells [(.d T2 c3_0),(.d T4 c3_1)]),(4,.arr 40 T2 q9_7.2.2)],5⟩) (fun z=>[(4,⟨[(1,.dat T2 kind),(2,.dat T1 p_),(3,.dat T11 l),(4,P0 0 0),(9,P0 1 0),(12,.dat T2 q17_4.1),(14,O0 2),(15,P0 3 0),(16,.dat T2 i),(18,.dat T2 q9_7.1)],[(0,.cells [(.d T1 n.1),(.d T8 n.2)]),(1,.cells [(.d T2 (0:Int)),(.d T4 (0:Int))]),(2,.arr 79 T5 z),(3,.cells [(.d T2 c3_0),(.d T4 c3_1)])],4⟩)]) (loopF (fun go x=>f39_l4 q17_4 q9_7 go x.1 x.2)) fuelN ((0:Int),l2) z4 (AI hz4 (AI (E4 I5 (R8 (AI (R5 TV) (R5 TV)))) (AI (fun _ _ h=>lZ h) (AI (fun m=>curI (fun k=>fun l2_2 z q=>?_)) ?_))))
   ·have q : f39_l4 q17_4 q9_7 (loopF (fun go x=>f39_l4 q17_4 q9_7 go x.1 x.2) m) k l2_2 = some z := q
    unfold f39_l4 at q
    refine OL (OL (cI q (fun q=>?_) (fun q=>?_)))
    ·refine OL (EI (.take 0 (.take 1 (.take 2 (.take 3 (.take 4 (.take 5 (.take 6 (.take 7 (.take 8 (.take 9 (.alt 10 (.alt 11 (.alt 12 (.take 13 (.alt 14 .done .done)) .done) .done) .done))))))))))) (EI [(14,[2])] (EI [] (AI rfl (gI q (fun q=>?_))))))
     refine gI q (fun q=>?_)
     refine AI TV ?_
     obtain ⟨q15_10,hq15_10,q⟩ := bE q
     refine OL (AI f87_in (cV (cQ C87 (rd (0:Int) q9_7.2.2 k) q15_10 [] false C87_holds hq15_10 rfl rfl (AI rfl (K0 (AI TV ?_))))))
     obtain ⟨q15_11,hq15_11,q⟩ := bE q
     refine OL (AI f86_in (cV (cQ C86 (q15_10.1,q15_10.2,(0:Int),(0:Int),(0:Int)) q15_11 [] false C86_holds hq15_11 rfl rfl (AI NH (R2 (AJ (AI TV (AI TV ?_))))))))
     obtain ⟨q15_12,hq15_12,q⟩ := bE q
     refine OL (AI f85_in (cV (cQ C85 (((rd (Ty.z T5) l2_2 k).1,(rd (Ty.z T5) l2_2 k).2),(q15_11.1,q15_11.2)) q15_12 [] false C85_holds hq15_12 rfl rfl (R4 (K0 (gI q (fun q=>?_)))))))
     refine AI TV (OL (EI ((i64.wrap (k + (1:Int))),(List.set l2_2 (Int.toNat k) (q15_12.1,q15_12.2))) (AI q (E4 I5 (R8 (AI (R5 TV) (R5 TV)))))))
    cases sE q
    refine E4 I4 (R7 (AI (R4 TV) (R4 TV)))
   refine AI (EI (.take 0 (.take 1 (.alt 2 (.alt 3 (.alt 4 (.alt 5 .done .done) .done) .done) .done))) (EI [(5,[3])] (EI [] (AI rfl (AI TV ?_))))) TV
   obtain ⟨q16_2,hq16_2,q⟩ := bE q
   refine OL (AI f87_in (cV (cQ C87 q9_7.1 q16_2 [] false C87_holds hq16_2 rfl rfl (AI rfl (K0 (AI TV ?_))))))
   obtain ⟨q16_3,hq16_3,q⟩ := bE q
   refine OL (AI f86_in (cV (cQ C86 (q16_2.1,q16_2.2,(0:Int),(0:Int),(0:Int)) q16_3 [] false C86_holds hq16_3 rfl rfl (AI NH (R2 (AJ (AI TV (AI TV ?_))))))))
   obtain ⟨q16_4,hq16_4,q⟩ := bE q
   refine OL (AI f85_in (cV (cQ C85 ((c3_0,c3_1),(q16_3.1,q16_3.2)) q16_4 [] false C85_holds hq16_4 rfl rfl (R4 (K0 (AI TV (OL (EI ((i64.wrap (i + (1:Int))),z4,q16_4.1,q16_4.2) (AI q (E4 I4 (R6 (AI (R4 TV) (R4 TV)))))))))))))
  cases sE q
  refine E4 [(0,some 1),(1,some 2),(2,some 3)] (AI rfl (AI (R3 TV) (R3 TV)))
 rcases z3 with z3a | z3b
 ·dsimp only [sumF] at q
  refine AI ?_ TV
  cases sE q
  refine AI rfl (E4 [(0,none)] (R2 (AI (R2 TV) (AI rfl TV))))
 dsimp only [sumF] at q
 refine AI (OL (EI (.take 0 (.take 1 (.take 2 (.alt 3 (.take 4 .done) .done)))) (EI [] (EI [] (AI rfl (AI TV (OL ?_))))))) TV
 cases sE q
 refine AI rfl (E4 [(0,some 1)] (R2 (AI (R2 TV) (AI rfl TV))))
theorem C39_holds : HP C39 39 := hH Tryz.f39 (by kernel_rfl) rfl (fun x y q=>C39_vc x.1 x.2.1 x.2.2.1 x.2.2.2 y q)
theorem f39_in : InP 39 := inP (by kernel_rfl)
def f44_l1 (go : (Int×(List (LI×LI×Int))) → Option (List (LI×LI×Int))) (i:Int) (l4 : List (LI×LI×Int)) : Option (List (LI×LI×Int)) :=
 bif (decide (i < (4:Int))) then
 guardF ((List.length l4 + List.length ([([(i64.wrap (i * (4294967296:Int)))],[(i64.wrap ((i64.wrap ((i64.wrap ((2:Int) * i)) + (1:Int))) * (4294967296:Int)))],(0:Int))])) * 56 ≤ 140737488355328) <|
 go ((i64.wrap (i + (1:Int))),(l4 ++ ([([(i64.wrap (i * (4294967296:Int)))],[(i64.wrap ((i64.wrap ((i64.wrap ((2:Int) * i)) + (1:Int))) * (4294967296:Int)))],(0:Int))])))
 else
 some l4
def f44 : Option (List (LI×LI×Int)) :=
 bindF (loopF (fun go x=>f44_l1 go x.1 x.2) fuelN ((0:Int),[])) fun z1 =>
 some z1
def C44 : Con where
 X := Unit
 Y := List (LI×LI×Int)
 e := 0
 args x := []
 hin x := []
 F x := f44
 ret y := [.raw true [(.osl 0),(.osl 1),(.d T2 (1:Int)),(.d T2 (2:Int)),(.d T2 (1073741824:Int)),(.d T2 (2147483648:Int)),(.d T2 (0:Int)),(.osl 2),(.osl 3)]]
 hout y := [(0,.arr 3 T2 ([(1:Int)])),(1,.arr 95 T6 ([((ByteArray.mk #[100,101,110,115,101]),(1:Int),(0:Int))])),(2,.arr 57 T10 y),(3,.arr 40 T2 ([(0:Int),(0:Int)]))]
 nout := 4
theorem C44_vc (y : List (LI×LI×Int)) (q : f44 = some y) : VC Tryz.f44 C44 () y := by
 unfold f44 at q
 refine OL (OL (OL (OL (OL (OL (OL (OL ?_)))))))
 obtain ⟨z1,hz1,q⟩ := bE q
 refine lI (Int×(List (LI×LI×Int))) (List (LI×LI×Int)) (fun x=>⟨[(0,P0 0 0),(1,P0 1 0),(2,.dat T2 x.1)],[(0,.cells [N0,N0,(.d T2 (0:Int)),(.d T2 (0:Int)),(.d T2 (0:Int)),(.d T2 (0:Int)),(.d T2 (0:Int)),N0,N0]),(1,.cells [(.osl 2),(.osl 3),(.d T2 (1:Int)),(.d T2 (2:Int)),(.d T2 (1073741824:Int)),(.d T2 (2147483648:Int)),(.d T2 (0:Int)),(.osl 4),(.osl 5)]),(2,.arr 3 T2 ([(1:Int)])),(3,.arr 95 T6 ([((ByteArray.mk #[100,101,110,115,101]),(1:Int),(0:Int))])),(4,.arr 57 T10 x.2),(5,.arr 40 T2 ([(0:Int),(0:Int)]))],6⟩) (fun z=>[(2,⟨[(0,P0 0 0),(1,P0 1 0)],[(0,.cells [N0,N0,(.d T2 (0:Int)),(.d T2 (0:Int)),(.d T2 (0:Int)),(.d T2 (0:Int)),(.d T2 (0:Int)),N0,N0]),(1,.cells [(.osl 2),(.osl 3),(.d T2 (1:Int)),(.d T2 (2:Int)),(.d T2 (1073741824:Int)),(.d T2 (2147483648:Int)),(.d T2 (0:Int)),(.osl 4),(.osl 5)]),(2,.arr 3 T2 ([(1:Int)])),(3,.arr 95 T6 ([((ByteArray.mk #[100,101,110,115,101]),(1:Int),(0:Int))])),(4,.arr 57 T10 z),(5,.arr 40 T2 ([(0:Int),(0:Int)]))],6⟩)]) (loopF (fun go x=>f44_l1 go x.1 x.2)) fuelN ((0:Int),[]) z1 (AI hz1 (AI (E4 [(0,some 0),(1,some 4),(2,some 1),(3,some 2),(4,none),(5,some 3)] (R2 (AI (R2 TV) (R6 TV)))) (AI (fun _ _ h=>lZ h) (AI (fun m=>curI (fun i=>fun l4 z q=>?_)) ?_))))
 ·have q : f44_l1 (loopF (fun go x=>f44_l1 go x.1 x.2) m) i l4 = some z := q
  unfold f44_l1 at q
  refine OL (OL (cI q (fun q=>?_) (fun q=>?_)))
  ·refine OL (OL (OL (OL (OL (gI q (fun q=>?_))))))
   refine OL (EI ((i64.wrap (i + (1:Int))),(l4 ++ ([([(i64.wrap (i * (4294967296:Int)))],[(i64.wrap ((i64.wrap ((i64.wrap ((2:Int) * i)) + (1:Int))) * (4294967296:Int)))],(0:Int))]))) (AI q (E4 [(0,some 0),(1,some 1),(2,some 2),(3,some 3),(4,some 9),(5,some 5)] (R2 (AI (R2 TV) (R6 TV))))))
  cases sE q
  refine E4 I6 (AI rfl (AI (R2 TV) (R6 TV)))
 refine AI (OL (OL ?_)) TV
 cases sE q
 refine AI rfl (E4 [(0,some 2),(1,some 3),(2,some 4),(3,some 5)] (AI rfl (AJ (R4 TV))))
theorem C44_holds : HP C44 44 := hH Tryz.f44 (by kernel_rfl) rfl (fun x y q=>C44_vc y q)
theorem f44_in : InP 44 := inP (by kernel_rfl)
def f47_j1 (j : (LI×(List (ByteArray×Int×Int)))×Int×Int×(Int×Int×Int)×(List (LI×LI×Int))×LI) (r1 : Int×Int) : Option (Sum Unit Unit) :=
 bif (decide (j.2.1 < (1:Int))) then
 some (Sum.inr ())
 else
 bif (decide (j.2.1 > (3:Int))) then
 some (Sum.inr ())
 else
 bif (decide ((List.length j.2.2.2.2.1:Int) < (1:Int))) then
 some (Sum.inr ())
 else
 bif (decide ((List.length j.2.2.2.2.1:Int) > (256:Int))) then
 some (Sum.inr ())
 else
 bif (decide (j.2.2.1 < (1:Int))) then
 some (Sum.inr ())
 else
 bif (decide (j.2.2.1 > (List.length j.2.2.2.2.1:Int))) then
 some (Sum.inr ())
 else
 bif (decide (j.2.2.2.1.2.2 < (0:Int))) then
 some (Sum.inr ())
 else
 bif ((List.length j.2.2.2.2.2:Int) != r1.1) then
 some (Sum.inr ())
 else
 some (Sum.inl ())
def f47_l2 (j : (LI×(List (ByteArray×Int×Int)))×Int×Int×(Int×Int×Int)×(List (LI×LI×Int))×LI) (go : Int → Option (Sum Int Unit)) (v68:Int) : Option (Sum Int Unit) :=
 bif (decide (v68 < (List.length j.2.2.2.2.1:Int))) then
 guardF (0 ≤ v68 ∧ v68 < (List.length j.2.2.2.2.1:Int)) <|
 bindF (f33 (j.1.1,j.1.2) j.2.1 j.2.2.2.2.2 ((rd (Ty.z T10) j.2.2.2.2.1 v68).1,((rd (Ty.z T10) j.2.2.2.2.1 v68).2).1,((rd (Ty.z T10) j.2.2.2.2.1 v68).2).2)) fun r6 =>
 bif (r6.2.1 != (0:Int)) then
 some (Sum.inl r6.2.1)
 else
 go (i64.wrap (v68 + (1:Int)))
 else
 some (Sum.inr ())
def f47 (j : (LI×(List (ByteArray×Int×Int)))×Int×Int×(Int×Int×Int)×(List (LI×LI×Int))×LI) : Option Int :=
 bindF (f83 (j.1.1,j.1.2)) fun r1 =>
 bif (r1.2 != (0:Int)) then
 some r1.2
 else
 bindF (f47_j1 j r1) fun z2 =>
 sumF z2 (fun z2a =>
 bindF (loopF (fun go x=>f47_l2 j go x) fuelN (0:Int)) fun z5 =>
 sumF z5 (fun z5a =>
 some z5a) (fun z5b =>
 some (0:Int))) (fun z2b =>
 some (1:Int))
def C47 : Con where
 X := (LI×(List (ByteArray×Int×Int)))×Int×Int×(Int×Int×Int)×(List (LI×LI×Int))×LI
 Y := Int
 e := 0
 args x := [.dat T12 x]
 hin x := []
 F x := f47 x
 ret y := [.dat T2 y]
 hout y := []
 nout := 0
theorem C47_vc (j : (LI×(List (ByteArray×Int×Int)))×Int×Int×(Int×Int×Int)×(List (LI×LI×Int))×LI) (y:Int) (q : f47 j = some y) : VC Tryz.f47 C47 j y := by
 unfold f47 at q
 refine OL (OL ?_)
 obtain ⟨r1,hr1,q⟩ := bE q
 refine OL (AI f83_in (cV (cQ C83 (j.1.1,j.1.2) r1 [] false C83_holds hr1 rfl rfl (R2 (K0 (OL (OL (cI q (fun q=>?_) (fun q=>?_)))))))))
 ·cases sE q
  refine OL (AI rfl (E4 [] (R2 (AI TV TV))))
 obtain ⟨z2,hz2,q⟩ := bE q
 refine OQ ⟨Sum.elim (fun z2a=>[(0,⟨[(1,P0 0 0)],[(0,.cells [(.d T1 j.1.1),(.d T8 j.1.2),(.d T2 j.2.1),(.d T2 j.2.2.1),(.d T2 j.2.2.2.1.1),(.d T2 j.2.2.2.1.2.1),(.d T2 j.2.2.2.1.2.2),(.d T11 j.2.2.2.2.1),(.d T1 j.2.2.2.2.2)])],1⟩)]) (fun z2b=>[(1,⟨[(2,D0 1)],[],0⟩)]) z2,?_,?_⟩
 ·have q := hz2
  clear hz2
  unfold f47_j1 at q
  refine OL (cN q (fun q=>?_) (fun q=>?_))
  ·refine gY (gY (cF (cN q (fun q=>?_) (fun q=>?_))))
   ·refine gY (gY (gY (cF (cN q (fun q=>?_) (fun q=>?_)))))
    ·refine gY (gY (gY (cF (cN q (fun q=>?_) (fun q=>?_)))))
     ·refine gY (gY (cF (cN q (fun q=>?_) (fun q=>?_))))
      ·refine gY (gY (gY (gY (gY (cF (cN q (fun q=>?_) (fun q=>?_)))))))
       ·refine gY (gY (gY (cF (cN q (fun q=>?_) (fun q=>?_)))))
        ·refine gY (gY (gY (gY (cF (cI q (fun q=>?_) (fun q=>?_))))))
         ·cases sE q
          refine OL (E4 [] (R2 (AI TV TV)))
         cases sE q
         refine E4 [(0,some 0)] (AI rfl (AJ (AI rfl TV)))
        refine gN (gN (gN (gN (cT (cT (OL ?_))))))
        cases sE q
        refine E4 [] (R2 (AI TV TV))
       refine gN (gN (gN (cT (gN (gN (gN (gN (gN (cT (cT (OL ?_)))))))))))
       cases sE q
       refine E4 [] (R2 (AI TV TV))
      refine gN (gN (gN (gN (gN (cT (gN (gN (gN (gN (cT (gN (gN (gN (gN (gN (cT (cT (OL ?_))))))))))))))))))
      cases sE q
      refine E4 [] (R2 (AI TV TV))
     refine gN (gN (cT (gN (gN (gN (gN (gN (gN (cT (gN (gN (gN (gN (cT (gN (gN (gN (gN (gN (cT (cT (OL ?_))))))))))))))))))))))
     cases sE q
     refine E4 [] (R2 (AI TV TV))
    refine gN (gN (gN (cT (gN (gN (gN (cT (gN (gN (gN (gN (gN (gN (cT (gN (gN (gN (gN (cT (gN (gN (gN (gN (gN (cT (cT (OL ?_)))))))))))))))))))))))))))
    cases sE q
    refine E4 [] (R2 (AI TV TV))
   refine gN (gN (gN (cT (gN (gN (gN (gN (cT (gN (gN (gN (cT (gN (gN (gN (gN (gN (gN (cT (gN (gN (gN (gN (cT (gN (gN (gN (gN (gN (cT (cT (OL ?_))))))))))))))))))))))))))))))))
   cases sE q
   refine E4 [] (R2 (AI TV TV))
  refine gN (gN (cT (gN (gN (gN (gN (cT (gN (gN (gN (gN (cT (gN (gN (gN (cT (gN (gN (gN (gN (gN (gN (cT (gN (gN (gN (gN (cT (gN (gN (gN (gN (gN (cT (cT (OL ?_))))))))))))))))))))))))))))))))))))
  cases sE q
  refine E4 [] (R2 (AI TV TV))
 rcases z2 with z2a | z2b
 ·dsimp only [sumF] at q
  refine AI (OL (OL ?_)) TV
  obtain ⟨z5,hz5,q⟩ := bE q
  refine lI Int (Sum Int Unit) (fun x=>⟨[(1,P0 0 0),(66,.dat T11 j.2.2.2.2.1),(67,.dat T2 (List.length j.2.2.2.2.1:Int)),(68,.dat T2 x)],[(0,.cells [(.d T1 j.1.1),(.d T8 j.1.2),(.d T2 j.2.1),(.d T2 j.2.2.1),(.d T2 j.2.2.2.1.1),(.d T2 j.2.2.2.1.2.1),(.d T2 j.2.2.2.1.2.2),(.d T11 j.2.2.2.2.1),(.d T1 j.2.2.2.2.2)])],1⟩) (fun z=>Sum.elim (fun za=>[(1,⟨[(2,.dat T2 za)],[],0⟩)]) (fun zb=>[(2,⟨[],[],0⟩)]) z) (loopF (fun go x=>f47_l2 j go x)) fuelN (0:Int) z5 (AI hz5 (AI (E4 [(0,some 0)] (R4 (AJ (AI rfl TV)))) (AI (fun _ _ h=>lZ h) (AI (fun m=>fun v68 z q=>?_) ?_))))
  ·have q : f47_l2 j (loopF (fun go x=>f47_l2 j go x) m) v68 = some z := q
   unfold f47_l2 at q
   refine OL (OL (cI q (fun q=>?_) (fun q=>?_)))
   ·refine OL (OL (gI q (fun q=>?_)))
    refine OL (OL ?_)
    obtain ⟨r6,hr6,q⟩ := bE q
    refine OL (AI f33_in (cV (cQ C33 ((j.1.1,j.1.2),j.2.1,j.2.2.2.2.2,((rd (Ty.z T10) j.2.2.2.2.1 v68).1,((rd (Ty.z T10) j.2.2.2.2.1 v68).2).1,((rd (Ty.z T10) j.2.2.2.2.1 v68).2).2)) r6 [] false C33_holds hr6 rfl rfl (R6 (K0 (OL (cI q (fun q=>?_) (fun q=>?_))))))))
    ·cases sE q
     refine OL (E4 [] (R2 (AI TV TV)))
    refine EI (i64.wrap (v68 + (1:Int))) (AI q (E4 [(0,some 0)] (R4 (AJ (AI rfl TV)))))
   cases sE q
   refine E4 [] (AI rfl (AI TV TV))
  rcases z5 with z5a | z5b
  ·dsimp only [sumF] at q
   refine AI ?_ TV
   cases sE q
   refine AI rfl (E4 [] (R2 (AI TV TV)))
  dsimp only [sumF] at q
  refine AI (OL ?_) TV
  cases sE q
  refine AI rfl (E4 [] (R2 (AI TV TV)))
 dsimp only [sumF] at q
 refine AI ?_ TV
 cases sE q
 refine AI rfl (E4 [] (R2 (AI TV TV)))
theorem C47_holds : HP C47 47 := hH Tryz.f47 (by kernel_rfl) rfl (fun x y q=>C47_vc x y q)
theorem f47_in : InP 47 := inP (by kernel_rfl)
def f193 (s : List (ByteArray×Int×Int)) : Option (List (ByteArray×Int×Int)) :=
 nilF s
 (some ([]))
 (guardF ((List.length ([] : List (ByteArray×Int×Int)) + List.length s) * 32 ≤ 140737488355328) <|
 some (([] : List (ByteArray×Int×Int)) ++ s))
def C193 : Con where
 X := List (ByteArray×Int×Int)
 Y := List (ByteArray×Int×Int)
 e := 0
 args x := [.dat T8 x]
 hin x := []
 F x := f193 x
 ret y := [O0 0]
 hout y := [(0,.arr 95 T6 y)]
 nout := 1
theorem C193_vc (s : List (ByteArray×Int×Int)) (y : List (ByteArray×Int×Int)) (q : f193 s = some y) : VC Tryz.f193 C193 s y := by
 unfold f193 at q
 refine OL (OL (OL (nilI q (fun q=>?_) (fun q=>?_))))
 ·refine cT (OL ?_)
  cases sE q
  refine AI rfl (E4 [(0,none)] (AI rfl (AJ (AI rfl TV))))
 refine cF (OL (OL (OL (gI q (fun q=>?_)))))
 cases sE q
 refine AI rfl (E4 [(0,some 1)] (AI rfl (AJ (AI rfl TV))))
theorem C193_holds : HP C193 193 := hH Tryz.f193 (by kernel_rfl) rfl (fun x y q=>C193_vc x y q)
theorem f193_in : InP 193 := inP (by kernel_rfl)
def f142 (n : LI×(List (ByteArray×Int×Int))) : Option (LI×(List (ByteArray×Int×Int))) :=
 bindF (f101 n.1) fun q1_2 =>
 bindF (f193 n.2) fun q1_5 =>
 some (q1_2,q1_5)
def C142 : Con where
 X := LI×(List (ByteArray×Int×Int))
 Y := LI×(List (ByteArray×Int×Int))
 e := 0
 args x := [.dat T7 x]
 hin x := []
 F x := f142 x
 ret y := [.raw true [(.osl 0),(.osl 1)]]
 hout y := [(0,.arr 3 T2 y.1),(1,.arr 95 T6 y.2)]
 nout := 2
theorem C142_vc (n : LI×(List (ByteArray×Int×Int))) (y : LI×(List (ByteArray×Int×Int))) (q : f142 n = some y) : VC Tryz.f142 C142 n y := by
 unfold f142 at q
 refine OL (OL (EI (.take 0 (.take 1 (.take 3 (.take 4 (.alt 2 (.alt 5 (.take 6 (.alt 7 .done .done)) .done) .done))))) (EI [] (EI [] (AI rfl (AI TV ?_))))))
 obtain ⟨q1_2,hq1_2,q⟩ := bE q
 refine OL (AI f101_in (cV (cQ C101 n.1 q1_2 [] false C101_holds hq1_2 rfl rfl (AI rfl (K0 (AI TV ?_))))))
 obtain ⟨q1_5,hq1_5,q⟩ := bE q
 refine OL (AI f193_in (cV (cQ C193 n.2 q1_5 [] false C193_holds hq1_5 rfl rfl (AI rfl (K0 (AI TV (OL ?_)))))))
 cases sE q
 refine AI rfl (E4 [(0,some 2),(1,some 3)] (AI rfl (AJ (R2 TV))))
theorem C142_holds : HP C142 142 := hH Tryz.f142 (by kernel_rfl) rfl (fun x y q=>C142_vc x y q)
theorem f142_in : InP 142 := inP (by kernel_rfl)
def f90_l1 (j : (LI×(List (ByteArray×Int×Int)))×Int×Int×(Int×Int×Int)×(List (LI×LI×Int))×LI) (go : (Int×(List (LI×LI×Int))) → Option (List (LI×LI×Int))) (v17:Int) (l2 : List (LI×LI×Int)) : Option (List (LI×LI×Int)) :=
 bif (decide (v17 < (List.length j.2.2.2.2.1:Int))) then
 guardF (0 ≤ v17 ∧ v17 < (List.length j.2.2.2.2.1:Int)) <|
 bindF (f96 ((rd (Ty.z T10) j.2.2.2.2.1 v17).1)) fun q7_2 =>
 bindF (f96 (((rd (Ty.z T10) j.2.2.2.2.1 v17).2).1)) fun q7_5 =>
 guardF ((List.length l2 + List.length ([(q7_2,q7_5,((rd (Ty.z T10) j.2.2.2.2.1 v17).2).2)])) * 56 ≤ 140737488355328) <|
 go ((i64.wrap (v17 + (1:Int))),(l2 ++ ([(q7_2,q7_5,((rd (Ty.z T10) j.2.2.2.2.1 v17).2).2)])))
 else
 some l2
def f90 (j : (LI×(List (ByteArray×Int×Int)))×Int×Int×(Int×Int×Int)×(List (LI×LI×Int))×LI) : Option (Int×Int×Int×Int×Int×LI×(List (ByteArray×Int×Int))×(List (LI×LI×Int))×LI) :=
 bindF (f142 (j.1.1,j.1.2)) fun r1 =>
 bindF (f96 j.2.2.2.2.2) fun r2 =>
 bindF (loopF (fun go x=>f90_l1 j go x.1 x.2) fuelN ((0:Int),[])) fun z3 =>
 some (j.2.1,j.2.2.1,j.2.2.2.1.1,j.2.2.2.1.2.1,j.2.2.2.1.2.2,r1.1,r1.2,z3,r2)
def C90 : Con where
 X := (LI×(List (ByteArray×Int×Int)))×Int×Int×(Int×Int×Int)×(List (LI×LI×Int))×LI
 Y := Int×Int×Int×Int×Int×LI×(List (ByteArray×Int×Int))×(List (LI×LI×Int))×LI
 e := 0
 args x := [.dat T12 x]
 hin x := []
 F x := f90 x
 ret y := [.raw true [(.osl 0),(.osl 1),(.d T2 y.1),(.d T2 y.2.1),(.d T2 y.2.2.1),(.d T2 y.2.2.2.1),(.d T2 y.2.2.2.2.1),(.osl 2),(.osl 3)]]
 hout y := [(0,.arr 3 T2 y.2.2.2.2.2.1),(1,.arr 95 T6 y.2.2.2.2.2.2.1),(2,.arr 57 T10 y.2.2.2.2.2.2.2.1),(3,.arr 40 T2 y.2.2.2.2.2.2.2.2)]
 nout := 4
theorem C90_vc (j : (LI×(List (ByteArray×Int×Int)))×Int×Int×(Int×Int×Int)×(List (LI×LI×Int))×LI) (y : Int×Int×Int×Int×Int×LI×(List (ByteArray×Int×Int))×(List (LI×LI×Int))×LI) (q : f90 j = some y) : VC Tryz.f90 C90 j y := by
 unfold f90 at q
 refine OL (OL ?_)
 obtain ⟨r1,hr1,q⟩ := bE q
 refine OL (AI f142_in (cV (cQ C142 (j.1.1,j.1.2) r1 [] false C142_holds hr1 rfl rfl (R2 (K0 (OL (OL ?_)))))))
 obtain ⟨r2,hr2,q⟩ := bE q
 refine OL (AI f96_in (cV (cQ C96 j.2.2.2.2.2 r2 [] false C96_holds hr2 rfl rfl (AI rfl (K0 (OL (OL (OL (OL ?_)))))))))
 obtain ⟨z3,hz3,q⟩ := bE q
 refine lI (Int×(List (LI×LI×Int))) (List (LI×LI×Int)) (fun x=>⟨[(1,P0 0 0),(2,P0 1 0),(3,O0 2),(15,.dat T11 j.2.2.2.2.1),(16,.dat T2 (List.length j.2.2.2.2.1:Int)),(17,.dat T2 x.1)],[(0,.cells [(.osl 3),(.osl 4),(.d T2 j.2.1),(.d T2 j.2.2.1),(.d T2 j.2.2.2.1.1),(.d T2 j.2.2.2.1.2.1),(.d T2 j.2.2.2.1.2.2),(.d T11 j.2.2.2.2.1),(.osl 5)]),(1,.cells [N0,N0,(.d T2 (0:Int)),(.d T2 (0:Int)),(.d T2 (0:Int)),(.d T2 (0:Int)),(.d T2 (0:Int)),N0,N0]),(2,.arr 57 T10 x.2),(3,.arr 3 T2 r1.1),(4,.arr 95 T6 r1.2),(5,.arr 40 T2 r2)],6⟩) (fun z=>[(2,⟨[(1,P0 0 0),(2,P0 1 0),(3,O0 2)],[(0,.cells [(.osl 3),(.osl 4),(.d T2 j.2.1),(.d T2 j.2.2.1),(.d T2 j.2.2.2.1.1),(.d T2 j.2.2.2.1.2.1),(.d T2 j.2.2.2.1.2.2),(.d T11 j.2.2.2.2.1),(.osl 5)]),(1,.cells [N0,N0,(.d T2 (0:Int)),(.d T2 (0:Int)),(.d T2 (0:Int)),(.d T2 (0:Int)),(.d T2 (0:Int)),N0,N0]),(2,.arr 57 T10 z),(3,.arr 3 T2 r1.1),(4,.arr 95 T6 r1.2),(5,.arr 40 T2 r2)],6⟩)]) (loopF (fun go x=>f90_l1 j go x.1 x.2)) fuelN ((0:Int),[]) z3 (AI hz3 (AI (E4 [(0,some 0),(1,some 1),(2,none),(3,some 2),(4,some 3),(5,some 4)] (R4 (AI (R3 TV) (R6 TV)))) (AI (fun _ _ h=>lZ h) (AI (fun m=>curI (fun v17=>fun l2 z q=>?_)) ?_))))
 ·have q : f90_l1 j (loopF (fun go x=>f90_l1 j go x.1 x.2) m) v17 l2 = some z := q
  unfold f90_l1 at q
  refine OL (OL (cI q (fun q=>?_) (fun q=>?_)))
  ·refine OL (OL (gI q (fun q=>?_)))
   refine OL (OL (EI (.take 0 (.take 1 (.take 3 (.take 4 (.alt 2 (.take 6 (.alt 5 (.alt 7 (.take 8 (.alt 9 .done .done)) .done) .done)) .done))))) (EI [(7,[5,6]),(9,[5,6])] (EI [] (AI rfl (AI TV ?_))))))
   obtain ⟨q7_2,hq7_2,q⟩ := bE q
   refine OL (AI f96_in (cV (cQ C96 (rd (Ty.z T10) j.2.2.2.2.1 v17).1 q7_2 [] false C96_holds hq7_2 rfl rfl (AI rfl (K0 (AI TV ?_))))))
   obtain ⟨q7_5,hq7_5,q⟩ := bE q
   refine OL (AI f96_in (cV (cQ C96 ((rd (Ty.z T10) j.2.2.2.2.1 v17).2).1 q7_5 [] false C96_holds hq7_5 rfl rfl (AI rfl (K0 (AI TV (OL (AI TV (OL (OL (OL (gI q (fun q=>?_)))))))))))))
   refine EI ((i64.wrap (v17 + (1:Int))),(l2 ++ ([(q7_2,q7_5,((rd (Ty.z T10) j.2.2.2.2.1 v17).2).2)]))) (AI q (E4 [(0,some 0),(1,some 1),(2,some 10),(3,some 3),(4,some 4),(5,some 5)] (R4 (AI (R3 TV) (R6 TV)))))
  cases sE q
  refine E4 I6 (AI rfl (AI (R3 TV) (R6 TV)))
 refine AI (OL (OL (OL (OL ?_)))) TV
 cases sE q
 refine AI rfl (E4 [(0,some 3),(1,some 4),(2,some 2),(3,some 5)] (AI rfl (AJ (R4 TV))))
theorem C90_holds : HP C90 90 := hH Tryz.f90 (by kernel_rfl) rfl (fun x y q=>C90_vc x y q)
theorem f90_in : InP 90 := inP (by kernel_rfl)
def f91 (p_ : LI) : Option (LI×LI) :=
 bindF (f96 p_) fun q1_1 =>
 guardF (0 ≤ (List.length p_:Int) ∧ (List.length p_:Int) ≤ (List.length p_:Int) ∧ Int.toNat (List.length p_:Int) * 8 ≤ 140737488355328) <|
 some (q1_1,(List.replicate (Int.toNat (List.length p_:Int)) (0:Int)))
def C91 : Con where
 X := LI
 Y := LI×LI
 e := 0
 args x := [.dat T1 x]
 hin x := []
 F x := f91 x
 ret y := [.raw true [(.osl 0),(.osl 1)]]
 hout y := [(0,.arr 40 T2 y.1),(1,.arr 40 T2 y.2)]
 nout := 2
theorem C91_vc (p_ : LI) (y : LI×LI) (q : f91 p_ = some y) : VC Tryz.f91 C91 p_ y := by
 unfold f91 at q
 refine OL (OL ?_)
 obtain ⟨q1_1,hq1_1,q⟩ := bE q
 obtain ⟨g1_1,q⟩ := gE q
 refine EI (.take 0 (.take 2 (.take 3 (.alt 1 (.alt 4 (.take 5 (.alt 6 .done .done)) .done) (.alt 4 (.alt 1 (.take 5 (.alt 6 .done .done)) .done) .done))))) (EI [] (EI [] (AI rfl (AI (AI TV ?_) ?_))))
 ·refine AI g1_1 (AI TV (OL (AI f96_in (cV (cQ C96 p_ q1_1 [] false C96_holds hq1_1 rfl rfl (AI rfl (K0 (AI TV (OL ?_)))))))))
  cases sE q
  refine AI rfl (E4 [(0,some 2),(1,some 1)] (AI rfl (AJ (R2 TV))))
 refine OL (AI f96_in (cV (cQ C96 p_ q1_1 [] false C96_holds hq1_1 rfl rfl (AI rfl (K0 (AI TV (AI g1_1 (AI TV (OL ?_)))))))))
 cases sE q
 refine AI rfl (E4 [(0,some 1),(1,some 2)] (AI rfl (AJ (R2 TV))))
theorem C91_holds : HP C91 91 := hH Tryz.f91 (by kernel_rfl) rfl (fun x y q=>C91_vc x y q)
theorem f91_in : InP 91 := inP (by kernel_rfl)
end Go.Proofs
