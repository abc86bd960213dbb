import Derived.Test.YtoicgngppmpapaaGreatGradPartsS3
set_option linter.unusedVariables false
set_option maxRecDepth 100000
set_option maxHeartbeats 8000000
namespace Go.Proofs
open Go.AM
open IntKind (i64 u64 i32 u32 i16 u16 i8 u8)
def f187_j4 (n : LI×(List (ByteArray×Int×Int))) (v16:Int) (l1 : List LI) (q5_5 : Bool×LI) : Option (Sum Unit Unit) :=
 bif (!q5_5.1) then
 some (Sum.inr ())
 else
 bif (ByteArray.toList ((rd (Ty.z T6) n.2 v16).1) == ByteArray.toList (ByteArray.mk #[115,107,105,112])) then
 bindF (f233 (n.1,n.2) v16 l1) fun r8 =>
 bif (!r8) then
 some (Sum.inr ())
 else
 some (Sum.inl ())
 else
 some (Sum.inl ())
def f187_l3 (n : LI×(List (ByteArray×Int×Int))) (go : (Int×(List LI)) → Option (Sum Unit (List LI))) (v16:Int) (l1 : List LI) : Option (Sum Unit (List LI)) :=
 bif (decide (v16 < (List.length n.2:Int))) then
 guardF (0 ≤ v16 ∧ v16 < (List.length n.2:Int)) <|
 guardF (0 ≤ v16 ∧ v16 < (List.length l1:Int)) <|
 bindF (f232 ((rd (Ty.z T6) n.2 v16).1,((rd (Ty.z T6) n.2 v16).2).1,((rd (Ty.z T6) n.2 v16).2).2) (rd (Ty.z T1) l1 v16)) fun q5_5 =>
 bindF (f187_j4 n v16 l1 q5_5) fun z7 =>
 sumF z7 (fun z7a =>
 guardF ((List.length l1 + List.length ([q5_5.2])) * 24 ≤ 140737488355328) <|
 go ((i64.wrap (v16 + (1:Int))),(l1 ++ ([q5_5.2])))) (fun z7b =>
 some (Sum.inl ()))
 else
 some (Sum.inr l1)
def f187 (n : LI×(List (ByteArray×Int×Int))) : Option (Bool×(List LI)) :=
 bindF (f101 n.1) fun r1 =>
 bindF (loopF (fun go x=>f187_l3 n go x.1 x.2) fuelN ((0:Int),[r1])) fun z6 =>
 sumF z6 (fun z6a =>
 some (false,[])) (fun z6b =>
 some (true,z6b))
def C187 : Con where
 X := LI×(List (ByteArray×Int×Int))
 Y := Bool×(List LI)
 e := 0
 args x := [.dat T7 x]
 hin x := []
 F x := f187 x
 ret y := [O0 0,.dat .bool y.1]
 hout y := [(0,.arr 33 T1 y.2)]
 nout := 1
theorem C187_vc (n : LI×(List (ByteArray×Int×Int))) (y : Bool×(List LI)) (q : f187 n = some y) : VC Tryz.f187 C187 n y := by
 unfold f187 at q
 refine OL (OL ?_)
 obtain ⟨r1,hr1,q⟩ := bE q
 refine OL (AI f101_in (cV (cQ C101 n.1 r1 [] false C101_holds hr1 rfl rfl (AI rfl (K0 (OL (OL (OL ?_))))))))
 obtain ⟨z6,hz6,q⟩ := bE q
 refine lI (Int×(List LI)) (Sum Unit (List LI)) (fun x=>⟨[(1,P0 0 0),(4,O0 1),(14,.dat T8 n.2),(15,.dat T2 (List.length n.2:Int)),(16,.dat T2 x.1)],[(0,.cells [(.d T1 n.1),(.d T8 n.2)]),(1,.arr 33 T1 x.2)],2⟩) (fun z=>Sum.elim (fun za=>[(1,⟨[(2,.raw false [N0]),(3,.dat .bool false)],[],0⟩)]) (fun zb=>[(2,⟨[(4,O0 0)],[(0,.arr 33 T1 zb)],1⟩)]) z) (loopF (fun go x=>f187_l3 n go x.1 x.2)) fuelN ((0:Int),[r1]) z6 (AI hz6 (AI (E4 [(0,some 0),(1,some 2)] (R4 (AI (R2 TV) (R2 TV)))) (AI (fun _ _ h=>lZ h) (AI (fun m=>curI (fun v16=>fun l1 z q=>?_)) ?_))))
 ·have q : f187_l3 n (loopF (fun go x=>f187_l3 n go x.1 x.2) m) v16 l1 = some z := q
  unfold f187_l3 at q
  refine OL (OL (cI q (fun q=>?_) (fun q=>?_)))
  ·refine OL (OL (gI q (fun q=>?_)))
   refine OL (OL (EI (.take 0 (.take 1 (.take 2 (.take 3 (.take 4 (.alt 5 (.take 6 (.take 7 (.take 8 (.take 9 (.take 10 .done))))) .done)))))) (EI [] (EI [] (AI rfl (gI q (fun q=>?_)))))))
   refine AI TV ?_
   obtain ⟨q5_5,hq5_5,q⟩ := bE q
   refine OL (AI f232_in (cV (cQ C232 (((rd (Ty.z T6) n.2 v16).1,((rd (Ty.z T6) n.2 v16).2).1,((rd (Ty.z T6) n.2 v16).2).2),(rd (Ty.z T1) l1 v16)) q5_5 [] false C232_holds hq5_5 rfl rfl (R3 (K0 ?_)))))
   obtain ⟨z7,hz7,q⟩ := bE q
   refine OQ ⟨Sum.elim (fun z7a=>[(0,⟨[(1,P0 0 0),(4,O0 1),(7,O0 2),(14,.dat T8 n.2),(15,.dat T2 (List.length n.2:Int)),(16,.dat T2 v16)],[(0,.cells [(.d T1 n.1),(.d T8 n.2)]),(1,.arr 33 T1 l1),(2,.arr 3 T2 q5_5.2)],3⟩)]) (fun z7b=>[(1,⟨[(2,.raw false [N0]),(3,.dat .bool false)],[],0⟩)]) z7,?_,?_⟩
   ·have q := hz7
    clear hz7
    unfold f187_j4 at q
    refine OL (cN q (fun q=>?_) (fun q=>?_))
    ·refine gY (gY (gY (cI q (fun q=>?_) (fun q=>?_))))
     ·refine gX (gX (gX ?_))
      obtain ⟨r8,hr8,q⟩ := bE q
      refine OL (AI f233_in (cV (cQ C233 ((n.1,n.2),v16,l1) r8 [] true C233_holds hr8 rfl rfl (R4 (AI (fun _=>rfl) (R2 (AI TV (AI TV (gX (gY (cT (cF (cI q (fun q=>?_) (fun q=>?_))))))))))))))
      ·cases sE q
       refine OL (E4 [] (R2 (AJ TV)))
      cases sE q
      refine E4 [(0,some 0),(1,some 1),(2,some 3)] (R4 (AI (R3 TV) (R3 TV)))
     refine gM (gM (gM (gM (gY (cF (cF (cF ?_)))))))
     cases sE q
     refine E4 [(0,some 0),(1,some 1),(2,some 3)] (R4 (AI (R3 TV) (R3 TV)))
    refine gN (gN (gN (gN (cT (cT (OL ?_))))))
    cases sE q
    refine E4 [] (R2 (AJ TV))
   rcases z7 with z7a | z7b
   ·dsimp only [sumF] at q
    refine AI (OL (OL (gI q (fun q=>?_)))) TV
    refine EI ((i64.wrap (v16 + (1:Int))),(l1 ++ ([q5_5.2]))) (AI q (E4 [(0,some 0),(1,some 4)] (R4 (AI (R2 TV) (R2 TV)))))
   dsimp only [sumF] at q
   refine AI ?_ TV
   cases sE q
   refine E4 [] (R2 (AJ TV))
  cases sE q
  refine E4 [(0,some 1)] (AI rfl (AJ (AI rfl TV)))
 rcases z6 with z6a | z6b
 ·dsimp only [sumF] at q
  refine AI ?_ TV
  cases sE q
  refine AI rfl (E4 [(0,none)] (R2 (AJ (AI rfl TV))))
 dsimp only [sumF] at q
 refine AI (OL ?_) TV
 cases sE q
 refine AI rfl (E4 [(0,some 0)] (R2 (AJ (AI rfl TV))))
theorem C187_holds : HP C187 187 := hH Tryz.f187 (by kernel_rfl) rfl (fun x y q=>C187_vc x y q)
theorem f187_in : InP 187 := inP (by kernel_rfl)
def f136_l1 (d : LI) (go : (Int×Int) → Option Int) (n:Int) (v8:Int) : Option Int :=
 bif (decide (v8 < (List.length d:Int))) then
 guardF (0 ≤ v8 ∧ v8 < (List.length d:Int)) <|
 go ((i64.wrap (n * (rd (0:Int) d v8))),(i64.wrap (v8 + (1:Int))))
 else
 some n
def f136 (d : LI) : Option Int :=
 bindF (loopF (fun go x=>f136_l1 d go x.1 x.2) fuelN ((1:Int),(0:Int))) fun z1 =>
 some z1
def C136 : Con where
 X := LI
 Y := Int
 e := 0
 args x := [.dat T1 x]
 hin x := []
 F x := f136 x
 ret y := [.dat T2 y]
 hout y := []
 nout := 0
theorem C136_vc (d : LI) (y:Int) (q : f136 d = some y) : VC Tryz.f136 C136 d y := by
 unfold f136 at q
 refine OL (OL (OL (OL ?_)))
 obtain ⟨z1,hz1,q⟩ := bE q
 refine lI (Int×Int) Int (fun x=>⟨[(3,.dat T2 x.1),(6,.dat T1 d),(7,.dat T2 (List.length d:Int)),(8,.dat T2 x.2)],[],0⟩) (fun z=>[(2,⟨[(3,.dat T2 z)],[],0⟩)]) (loopF (fun go x=>f136_l1 d go x.1 x.2)) fuelN ((1:Int),(0:Int)) z1 (AI hz1 (AI (E4 [] (R5 (AI TV TV))) (AI (fun _ _ h=>lZ h) (AI (fun m=>curI (fun n=>fun v8 z q=>?_)) ?_))))
 ·have q : f136_l1 d (loopF (fun go x=>f136_l1 d go x.1 x.2) m) n v8 = some z := q
  unfold f136_l1 at q
  refine OL (OL (cI q (fun q=>?_) (fun q=>?_)))
  ·refine OL (OL (gI q (fun q=>?_)))
   refine EI ((i64.wrap (n * (rd (0:Int) d v8))),(i64.wrap (v8 + (1:Int)))) (AI q (E4 [] (R5 (AI TV TV))))
  cases sE q
  refine E4 [] (R2 (AI TV TV))
 refine AI (OL ?_) TV
 cases sE q
 refine AI rfl (E4 [] (R2 (AI TV TV)))
theorem C136_holds : HP C136 136 := hH Tryz.f136 (by kernel_rfl) rfl (fun x y q=>C136_vc x y q)
theorem f136_in : InP 136 := inP (by kernel_rfl)
def f188 (l : ByteArray×Int×Int) (in_ : LI) : Option (List LI) :=
 bif (ByteArray.toList l.1 == ByteArray.toList (ByteArray.mk #[100,101,110,115,101])) then
 bindF (f136 in_) fun q3_3 =>
 some ([[l.2.1,q3_3],[l.2.1]])
 else
 bif (ByteArray.toList l.1 == ByteArray.toList (ByteArray.mk #[99,111,110,118])) then
 guardF (0 ≤ (0:Int) ∧ (0:Int) < (List.length in_:Int)) <|
 some ([[l.2.1,(rd (0:Int) in_ (0:Int)),l.2.2]])
 else
 some ([])
def C188 : Con where
 X := (ByteArray×Int×Int)×LI
 Y := List LI
 e := 0
 args x := [.dat T6 x.1,.dat T1 x.2]
 hin x := []
 F x := f188 x.1 x.2
 ret y := [O0 0]
 hout y := [(0,.arr 33 T1 y)]
 nout := 1
theorem C188_vc (l : ByteArray×Int×Int) (in_ : LI) (y : List LI) (q : f188 l in_ = some y) : VC Tryz.f188 C188 (l,in_) y := by
 unfold f188 at q
 refine OL (OL (OL (OL (cI q (fun q=>?_) (fun q=>?_)))))
 ·refine OL ?_
  obtain ⟨q3_3,hq3_3,q⟩ := bE q
  refine EI (.take 0 (.take 1 (.take 2 (.take 5 (.take 6 (.alt 3 (.alt 4 (.alt 7 (.alt 8 (.take 9 .done) .done) .done) (.alt 7 (.alt 4 (.alt 8 (.take 9 .done) .done) .done) .done)) (.alt 7 (.alt 3 (.alt 4 (.alt 8 (.take 9 .done) .done) .done) .done) .done))))))) (EI [] (EI [] (AI rfl (AI (AI TV ?_) ?_))))
  ·refine OL (AI TV (OL (AI f136_in (cV (cQ C136 in_ q3_3 [] false C136_holds hq3_3 rfl rfl (AI rfl (K0 (AI TV (OL (AI TV (OL ?_)))))))))))
   cases sE q
   refine AI rfl (E4 [(0,some 3)] (AI rfl (AJ (AI rfl TV))))
  refine OL (AI f136_in (cV (cQ C136 in_ q3_3 [] false C136_holds hq3_3 rfl rfl (AI rfl (K0 (AI (AI TV ?_) ?_))))))
  ·refine OL (AI TV (OL (AI TV (OL ?_))))
   cases sE q
   refine AI rfl (E4 [(0,some 3)] (AI rfl (AJ (AI rfl TV))))
  refine OL (AI TV (OL (AI TV (OL ?_))))
  cases sE q
  refine AI rfl (E4 [(0,some 3)] (AI rfl (AJ (AI rfl TV))))
 refine OL (cI q (fun q=>?_) (fun q=>?_))
 ·refine OL (EI (.take 0 (.take 1 (.take 2 (.take 3 (.take 4 (.take 5 (.take 6 (.alt 7 (.alt 8 (.take 9 .done) .done) .done)))))))) (EI [] (EI [] (AI rfl (gI q (fun q=>?_))))))
  refine AI TV (OL (AI TV (OL ?_)))
  cases sE q
  refine AI rfl (E4 [(0,some 2)] (AI rfl (AJ (AI rfl TV))))
 cases sE q
 refine OL (AI rfl (E4 [(0,none)] (AI rfl (AJ (AI rfl TV)))))
theorem C188_holds : HP C188 188 := hH Tryz.f188 (by kernel_rfl) rfl (fun x y q=>C188_vc x.1 x.2 y q)
theorem f188_in : InP 188 := inP (by kernel_rfl)
def f135_l4 (q5_5 : List LI) (go : (Int×Bool×Int) → Option (Int×Bool)) (many_2:Int) (ok_2 : Bool) (v31:Int) : Option (Int×Bool) :=
 bif (decide (v31 < (List.length q5_5:Int))) then
 guardF (0 ≤ v31 ∧ v31 < (List.length q5_5:Int)) <|
 bindF (f136 (rd (Ty.z T1) q5_5 v31)) fun r25 =>
 bif ok_2 then
 bindF (f99 (rd (Ty.z T1) q5_5 v31)) fun r26 =>
 go ((i64.wrap (many_2 + r25)),r26,(i64.wrap (v31 + (1:Int))))
 else
 go ((i64.wrap (many_2 + r25)),false,(i64.wrap (v31 + (1:Int))))
 else
 some (many_2,ok_2)
def f135_l3 (n : LI×(List (ByteArray×Int×Int))) (d : List LI) (go : (Int×Bool×Int) → Option (Int×Bool)) (many:Int) (ok : Bool) (v19:Int) : Option (Int×Bool) :=
 bif (decide (v19 < (List.length n.2:Int))) then
 guardF (0 ≤ v19 ∧ v19 < (List.length n.2:Int)) <|
 guardF (0 ≤ v19 ∧ v19 < (List.length d:Int)) <|
 bindF (f188 ((rd (Ty.z T6) n.2 v19).1,((rd (Ty.z T6) n.2 v19).2).1,((rd (Ty.z T6) n.2 v19).2).2) (rd (Ty.z T1) d v19)) fun q5_5 =>
 bindF (loopF (fun go x=>f135_l4 q5_5 go x.1 x.2.1 x.2.2) fuelN (many,ok,(0:Int))) fun z24 =>
 bif z24.2 then
 guardF (0 ≤ v19 ∧ v19 < (List.length d:Int)) <|
 bindF (f99 (rd (Ty.z T1) d v19)) fun r27 =>
 bif r27 then
 guardF (0 ≤ (i64.wrap (v19 + (1:Int))) ∧ (i64.wrap (v19 + (1:Int))) < (List.length d:Int)) <|
 bindF (f99 (rd (Ty.z T1) d (i64.wrap (v19 + (1:Int))))) fun r28 =>
 go (z24.1,r28,(i64.wrap (v19 + (1:Int))))
 else
 go (z24.1,false,(i64.wrap (v19 + (1:Int))))
 else
 go (z24.1,false,(i64.wrap (v19 + (1:Int))))
 else
 some (many,ok)
def f135 (n : LI×(List (ByteArray×Int×Int))) (d : List LI) : Option (Int×Bool) :=
 bindF (loopF (fun go x=>f135_l3 n d go x.1 x.2.1 x.2.2) fuelN ((0:Int),(decide ((List.length n.2:Int) ≤ (16:Int))),(0:Int))) fun z19 =>
 bif z19.2 then
 bindF (f99 n.1) fun r29 =>
 bif r29 then
 some (z19.1,(decide (z19.1 ≤ (4096:Int))))
 else
 some (z19.1,false)
 else
 some (z19.1,false)
def C135 : Con where
 X := (LI×(List (ByteArray×Int×Int)))×(List LI)
 Y := Int×Bool
 e := 0
 args x := [.dat T7 x.1,.dat T9 x.2]
 hin x := []
 F x := f135 x.1 x.2
 ret y := [.dat T2 y.1,.dat .bool y.2]
 hout y := []
 nout := 0
theorem C135_vc (n : LI×(List (ByteArray×Int×Int))) (d : List LI) (y : Int×Bool) (q : f135 n d = some y) : VC Tryz.f135 C135 (n,d) y := by
 unfold f135 at q
 refine OL (OL (EI (.take 0 (.take 1 (.take 2 (.take 3 (.take 4 (.take 5 .done)))))) (EI [] (EI [] (AI rfl (OL (OL ?_)))))))
 obtain ⟨z19,hz19,q⟩ := bE q
 refine lI (Int×Bool×Int) (Int×Bool) (fun x=>⟨[(1,.dat T9 d),(2,P0 0 0),(6,.dat T2 x.1),(7,.dat .bool x.2.1),(17,.dat T8 n.2),(18,.dat T2 (List.length n.2:Int)),(19,.dat T2 x.2.2)],[(0,.cells [(.d T1 n.1),(.d T8 n.2)])],1⟩) (fun z=>[(2,⟨[(2,P0 0 0),(6,.dat T2 z.1),(7,.dat .bool z.2)],[(0,.cells [(.d T1 n.1),(.d T8 n.2)])],1⟩)]) (loopF (fun go x=>f135_l3 n d go x.1 x.2.1 x.2.2)) fuelN ((0:Int),(decide ((List.length n.2:Int) ≤ (16:Int))),(0:Int)) z19 (AI hz19 (AI (E4 [(0,some 0)] (R7 (AJ (AI rfl TV)))) (AI (fun _ _ h=>lZ h) (AI (fun m=>curI (fun many=>curI (fun ok=>fun v19 z q=>?_))) ?_))))
 ·have q : f135_l3 n d (loopF (fun go x=>f135_l3 n d go x.1 x.2.1 x.2.2) m) many ok v19 = some z := q
  unfold f135_l3 at q
  refine OL (OL (cI q (fun q=>?_) (fun q=>?_)))
  ·refine OL (OL (gI q (fun q=>?_)))
   refine OL (OL (OL (EI (.take 0 (.take 1 (.take 2 (.take 3 (.take 4 (.take 7 (.alt 5 (.take 6 .done) .done))))))) (EI [] (EI [] (AI rfl (gI q (fun q=>?_))))))))
   refine AI TV ?_
   obtain ⟨q5_5,hq5_5,q⟩ := bE q
   refine OL (AI f188_in (cV (cQ C188 (((rd (Ty.z T6) n.2 v19).1,((rd (Ty.z T6) n.2 v19).2).1,((rd (Ty.z T6) n.2 v19).2).2),(rd (Ty.z T1) d v19)) q5_5 [] false C188_holds hq5_5 rfl rfl (R3 (K0 ?_)))))
   obtain ⟨z24,hz24,q⟩ := bE q
   refine lI (Int×Bool×Int) (Int×Bool) (fun x=>⟨[(1,.dat T9 d),(2,P0 0 0),(6,.dat T2 x.1),(7,.dat .bool x.2.1),(8,.dat T2 v19),(17,.dat T8 n.2),(18,.dat T2 (List.length n.2:Int)),(19,.dat T2 v19),(29,O0 1),(30,.dat T2 (List.length q5_5:Int)),(31,.dat T2 x.2.2)],[(0,.cells [(.d T1 n.1),(.d T8 n.2)]),(1,.arr 33 T1 q5_5)],2⟩) (fun z=>[(4,⟨[(1,.dat T9 d),(2,P0 0 0),(6,.dat T2 z.1),(7,.dat .bool z.2),(8,.dat T2 v19),(17,.dat T8 n.2),(18,.dat T2 (List.length n.2:Int)),(19,.dat T2 v19)],[(0,.cells [(.d T1 n.1),(.d T8 n.2)])],1⟩)]) (loopF (fun go x=>f135_l4 q5_5 go x.1 x.2.1 x.2.2)) fuelN (many,ok,(0:Int)) z24 (AI hz24 (AI (E4 [(0,some 0),(1,some 2)] (R10 (AI (R2 TV) (R2 TV)))) (AI (fun _ _ h=>lZ h) (AI (fun m=>curI (fun many_2=>curI (fun ok_2=>fun v31 z q=>?_))) ?_))))
   ·have q : f135_l4 q5_5 (loopF (fun go x=>f135_l4 q5_5 go x.1 x.2.1 x.2.2) m) many_2 ok_2 v31 = some z := q
    unfold f135_l4 at q
    refine OL (OL (cI q (fun q=>?_) (fun q=>?_)))
    ·refine OL (OL (gI q (fun q=>?_)))
     refine OL ?_
     obtain ⟨r25,hr25,q⟩ := bE q
     refine OL (AI f136_in (cV (cQ C136 (rd (Ty.z T1) q5_5 v31) r25 [] false C136_holds hr25 rfl rfl (AI rfl (K0 (cI q (fun q=>?_) (fun q=>?_)))))))
     ·refine gX ?_
      obtain ⟨r26,hr26,q⟩ := bE q
      refine OL (AI f99_in (cV (cQ C99 (rd (Ty.z T1) q5_5 v31) r26 [] false C99_holds hr26 rfl rfl (AI rfl (K0 (cT (EI ((i64.wrap (many_2 + r25)),r26,(i64.wrap (v31 + (1:Int)))) (AI q (E4 I2 (R10 (AI (R2 TV) (R2 TV))))))))))))
     refine gM (cF (EI ((i64.wrap (many_2 + r25)),false,(i64.wrap (v31 + (1:Int)))) (AI q (E4 I2 (R10 (AI (R2 TV) (R2 TV)))))))
    cases sE q
    refine E4 [(0,some 0)] (R8 (AJ (AI rfl TV)))
   refine AI (cI q (fun q=>?_) (fun q=>?_)) TV
   ·refine gX (gX (gI q (fun q=>?_)))
    refine gX (gX ?_)
    obtain ⟨r27,hr27,q⟩ := bE q
    refine OL (AI f99_in (cV (cQ C99 (rd (Ty.z T1) d v19) r27 [] false C99_holds hr27 rfl rfl (AI rfl (K0 (cT (cI q (fun q=>?_) (fun q=>?_))))))))
    ·refine gX (gX (gX (gI q (fun q=>?_))))
     refine gX (gX ?_)
     obtain ⟨r28,hr28,q⟩ := bE q
     refine OL (AI f99_in (cV (cQ C99 (rd (Ty.z T1) d (i64.wrap (v19 + (1:Int)))) r28 [] false C99_holds hr28 rfl rfl (AI rfl (K0 (cT (EI (z24.1,r28,(i64.wrap (v19 + (1:Int)))) (AI q (E4 [(0,some 0)] (R7 (AJ (AI rfl TV))))))))))))
    refine gM (gM (gM (gM (gM (cF (EI (z24.1,false,(i64.wrap (v19 + (1:Int)))) (AI q (E4 [(0,some 0)] (R7 (AJ (AI rfl TV)))))))))))
   refine gM (gM (gM (gM (cF (gM (gM (gM (gM (gM (gM (cF (EI (z24.1,false,(i64.wrap (v19 + (1:Int)))) (AI q (E4 [(0,some 0)] (R7 (AJ (AI rfl TV)))))))))))))))))
  cases sE q
  refine E4 [(0,some 0)] (R3 (AJ (AI rfl TV)))
 refine AI (OL (cI q (fun q=>?_) (fun q=>?_))) TV
 ·refine gX (gX ?_)
  obtain ⟨r29,hr29,q⟩ := bE q
  refine OL (AI f99_in (cV (cQ C99 n.1 r29 [] false C99_holds hr29 rfl rfl (AI rfl (K0 (cT (cI q (fun q=>?_) (fun q=>?_))))))))
  ·refine gX (cT ?_)
   cases sE q
   refine AI rfl (E4 [] (R3 (AI TV TV)))
  refine gM (cF ?_)
  cases sE q
  refine AI rfl (E4 [] (R3 (AI TV TV)))
 refine gM (gM (cF (gM (gM (cF ?_)))))
 cases sE q
 refine AI rfl (E4 [] (R3 (AI TV TV)))
theorem C135_holds : HP C135 135 := hH Tryz.f135 (by kernel_rfl) rfl (fun x y q=>C135_vc x.1 x.2 y q)
theorem f135_in : InP 135 := inP (by kernel_rfl)
def f134 (n : LI×(List (ByteArray×Int×Int))) : Option (Int×(List LI)) :=
 bindF (f186 (n.1,n.2)) fun r1 =>
 bif (!r1) then
 some ((1:Int),[])
 else
 bindF (f187 (n.1,n.2)) fun r2 =>
 bif (!r2.1) then
 some ((4:Int),[])
 else
 bindF (f135 (n.1,n.2) r2.2) fun r3 =>
 bif (!r3.2) then
 some ((2:Int),[])
 else
 some ((0:Int),r2.2)
def C134 : Con where
 X := LI×(List (ByteArray×Int×Int))
 Y := Int×(List LI)
 e := 0
 args x := [.dat T7 x]
 hin x := []
 F x := f134 x
 ret y := [O0 0,.dat T2 y.1]
 hout y := [(0,.arr 33 T1 y.2)]
 nout := 1
theorem C134_vc (n : LI×(List (ByteArray×Int×Int))) (y : Int×(List LI)) (q : f134 n = some y) : VC Tryz.f134 C134 n y := by
 unfold f134 at q
 refine OL (OL (OL ?_))
 obtain ⟨r1,hr1,q⟩ := bE q
 refine OL (AI f186_in (cV (cQ C186 (n.1,n.2) r1 [] false C186_holds hr1 rfl rfl (R2 (K0 (cI q (fun q=>?_) (fun q=>?_)))))))
 ·cases sE q
  refine OL (AI rfl (E4 [(0,none)] (R2 (AJ (AI rfl TV)))))
 refine OL ?_
 obtain ⟨r2,hr2,q⟩ := bE q
 refine OL (AI f187_in (cV (cQ C187 (n.1,n.2) r2 [] false C187_holds hr2 rfl rfl (R2 (K0 (OL (OL (cI q (fun q=>?_) (fun q=>?_)))))))))
 ·cases sE q
  refine OL (AI rfl (E4 [(0,none)] (R2 (AJ (AI rfl TV)))))
 refine OL (OL ?_)
 obtain ⟨r3,hr3,q⟩ := bE q
 refine OL (AI f135_in (cV (cQ C135 ((n.1,n.2),r2.2) r3 [] true C135_holds hr3 rfl rfl (R3 (AI (fun _=>rfl) (R2 (AI TV (AI TV (OL (cI q (fun q=>?_) (fun q=>?_)))))))))))
 ·cases sE q
  refine OL (AI rfl (E4 [(0,none)] (R2 (AJ (AI rfl TV)))))
 cases sE q
 refine OL (AI rfl (E4 [(0,some 1)] (R2 (AJ (AI rfl TV)))))
theorem C134_holds : HP C134 134 := hH Tryz.f134 (by kernel_rfl) rfl (fun x y q=>C134_vc x y q)
theorem f134_in : InP 134 := inP (by kernel_rfl)
def f83 (n : LI×(List (ByteArray×Int×Int))) : Option (Int×Int) :=
 bindF (f134 (n.1,n.2)) fun r1 =>
 bif (r1.1 != (0:Int)) then
 some ((0:Int),r1.1)
 else
 bindF (f135 (n.1,n.2) r1.2) fun r2 =>
 some (r2.1,(0:Int))
def C83 : Con where
 X := LI×(List (ByteArray×Int×Int))
 Y := Int×Int
 e := 0
 args x := [.dat T7 x]
 hin x := []
 F x := f83 x
 ret y := [.dat T2 y.1,.dat T2 y.2]
 hout y := []
 nout := 0
theorem C83_vc (n : LI×(List (ByteArray×Int×Int))) (y : Int×Int) (q : f83 n = some y) : VC Tryz.f83 C83 n y := by
 unfold f83 at q
 refine OL (OL ?_)
 obtain ⟨r1,hr1,q⟩ := bE q
 refine OL (AI f134_in (cV (cQ C134 (n.1,n.2) r1 [] false C134_holds hr1 rfl rfl (R2 (K0 (OL (OL (cI q (fun q=>?_) (fun q=>?_)))))))))
 ·cases sE q
  refine OL (AI rfl (E4 [] (R3 (AI TV TV))))
 refine OL ?_
 obtain ⟨r2,hr2,q⟩ := bE q
 refine OL (AI f135_in (cV (cQ C135 ((n.1,n.2),r1.2) r2 [] true C135_holds hr2 rfl rfl (R3 (AI (fun _=>rfl) (R2 (AI TV (AI TV (OL ?_)))))))))
 cases sE q
 refine AI rfl (E4 [] (R3 (AI TV TV)))
theorem C83_holds : HP C83 83 := hH Tryz.f83 (by kernel_rfl) rfl (fun x y q=>C83_vc x y q)
theorem f83_in : InP 83 := inP (by kernel_rfl)
def f137 (r_t_l : NL) (r_e:Int) (r_p : LI) (r_leafs : LI) (d : LI) (v : LI) : Option (Int×Int×LI×LI×NL) :=
 bif (r_e != (0:Int)) then
 some ((0:Int),r_e,r_p,r_leafs,r_t_l)
 else
 bindF (f17 r_t_l (d,v)) fun r1 =>
 some (r1.1,r1.2.1,r_p,r_leafs,r1.2.2)
def C137 : Con where
 X := NL×Int×LI×LI×LI×LI
 Y := Int×Int×LI×LI×NL
 e := 4
 args x := [P0 0 0,.dat T1 x.2.2.2.2.1,.dat T1 x.2.2.2.2.2]
 hin x := [(0,.cells [(.ptr 1 0),(.d T2 x.2.1),(.d T1 x.2.2.1),(.osl 3)]),(1,.cells [(.osl 2)]),(2,.arr 42 T0 x.1),(3,.arr 3 T2 x.2.2.2.1)]
 F x := f137 x.1 x.2.1 x.2.2.1 x.2.2.2.1 x.2.2.2.2.1 x.2.2.2.2.2
 ret y := [.dat T2 y.1]
 hout y := [(0,.cells [(.ptr 1 0),(.d T2 y.2.1),(.d T1 y.2.2.1),(.osl 3)]),(1,.cells [(.osl 4)]),(3,.arr 3 T2 y.2.2.2.1),(4,.arr 42 T0 y.2.2.2.2)]
 nout := 5
theorem C137_vc (r_t_l : NL) (r_e:Int) (r_p : LI) (r_leafs : LI) (d : LI) (v : LI) (y : Int×Int×LI×LI×NL) (q : f137 r_t_l r_e r_p r_leafs d v = some y) : VE Tryz.f137 4 C137 (r_t_l,r_e,r_p,r_leafs,d,v) y := by
 unfold f137 at q
 refine OL (OL (OL (cI q (fun q=>?_) (fun q=>?_))))
 ·cases sE q
  refine OL (AI rfl (E4 [(0,some 0),(1,some 1),(3,some 3),(4,some 2)] (R2 (AI TV (R4 TV)))))
 refine OL ?_
 obtain ⟨r1,hr1,q⟩ := bE q
 refine OL (AI f17_in (cV (cQ C17 (r_t_l,(d,v)) r1 [(0,some 1),(1,some 2)] false C17_holds hr1 rfl rfl (R2 (AI NH (R2 (AJ (AI (R2 TV) (OL (OL (OL ?_)))))))))))
 cases sE q
 refine AI rfl (E4 [(0,some 0),(1,some 1),(3,some 3),(4,some 6)] (R2 (AI TV (R4 TV))))
theorem C137_holds : HP C137 137 := hH Tryz.f137 (by kernel_rfl) rfl (fun x y q=>C137_vc x.1 x.2.1 x.2.2.1 x.2.2.2.1 x.2.2.2.2.1 x.2.2.2.2.2 y q)
theorem f137_in : InP 137 := inP (by kernel_rfl)
def f189_j4 (l : List LI) (v12:Int) (c0_1:Int) (c0_2 : LI) (l4 : LI) (l5 : NL) : Option (Int×Int×LI×LI×NL) :=
 bindF (f136 (rd (Ty.z T1) l v12)) fun q5_7 =>
 guardF (0 ≤ q5_7 ∧ q5_7 ≤ (List.length c0_2:Int)) <|
 bindF (f137 l5 c0_1 c0_2 l4 (rd (Ty.z T1) l v12) (List.take (Int.toNat q5_7) c0_2)) fun q5_9 =>
 some (q5_9.1,q5_9.2.1,q5_9.2.2.1,q5_9.2.2.2.1,q5_9.2.2.2.2)
def f189_l3 (l : List LI) (go : (Int×Int×Int×Int×LI×LI×NL) → Option (Int×Int×Int×LI×LI×NL)) (first:Int) (last:Int) (v12:Int) (c0_1:Int) (c0_2 : LI) (l4 : LI) (l5 : NL) : Option (Int×Int×Int×LI×LI×NL) :=
 bif (decide (v12 < (List.length l:Int))) then
 guardF (0 ≤ v12 ∧ v12 < (List.length l:Int)) <|
 bindF (f189_j4 l v12 c0_1 c0_2 l4 l5) fun z4 =>
 bindF (f136 (rd (Ty.z T1) l v12)) fun q6_6 =>
 guardF (0 ≤ q6_6 ∧ q6_6 ≤ (List.length z4.2.2.1:Int)) <|
 guardF ((List.length z4.2.2.2.1 + List.length ([z4.1])) * 8 ≤ 140737488355328) <|
 bif (v12 == (0:Int)) then
 go (z4.1,z4.1,(i64.wrap (v12 + (1:Int))),z4.2.1,(List.drop (Int.toNat q6_6) z4.2.2.1),(z4.2.2.2.1 ++ ([z4.1])),z4.2.2.2.2)
 else
 go (first,z4.1,(i64.wrap (v12 + (1:Int))),z4.2.1,(List.drop (Int.toNat q6_6) z4.2.2.1),(z4.2.2.2.1 ++ ([z4.1])),z4.2.2.2.2)
 else
 some (first,last,c0_1,c0_2,l4,l5)
def f189 (r_t_l : NL) (r_e:Int) (r_p : LI) (r_leafs : LI) (l : List LI) : Option (Int×Int×Int×LI×LI×NL) :=
 bindF (loopF (fun go x=>f189_l3 l go x.1 x.2.1 x.2.2.1 x.2.2.2.1 x.2.2.2.2.1 x.2.2.2.2.2.1 x.2.2.2.2.2.2) fuelN ((0:Int),(0:Int),(0:Int),r_e,r_p,r_leafs,r_t_l)) fun z3 =>
 some (z3.1,z3.2.1,z3.2.2.1,z3.2.2.2.1,z3.2.2.2.2.1,z3.2.2.2.2.2)
def C189 : Con where
 X := NL×Int×LI×LI×(List LI)
 Y := Int×Int×Int×LI×LI×NL
 e := 4
 args x := [P0 0 0,.dat T9 x.2.2.2.2]
 hin x := [(0,.cells [(.ptr 1 0),(.d T2 x.2.1),(.d T1 x.2.2.1),(.osl 3)]),(1,.cells [(.osl 2)]),(2,.arr 42 T0 x.1),(3,.arr 3 T2 x.2.2.2.1)]
 F x := f189 x.1 x.2.1 x.2.2.1 x.2.2.2.1 x.2.2.2.2
 ret y := [.dat T2 y.1,.dat T2 y.2.1]
 hout y := [(0,.cells [(.ptr 1 0),(.d T2 y.2.2.1),(.d T1 y.2.2.2.1),(.osl 4)]),(1,.cells [(.osl 5)]),(4,.arr 3 T2 y.2.2.2.2.1),(5,.arr 42 T0 y.2.2.2.2.2)]
 nout := 6
theorem C189_vc (r_t_l : NL) (r_e:Int) (r_p : LI) (r_leafs : LI) (l : List LI) (y : Int×Int×Int×LI×LI×NL) (q : f189 r_t_l r_e r_p r_leafs l = some y) : VE Tryz.f189 4 C189 (r_t_l,r_e,r_p,r_leafs,l) y := by
 unfold f189 at q
 refine OL (OL (OL (OL ?_)))
 obtain ⟨z3,hz3,q⟩ := bE q
 refine lI (Int×Int×Int×Int×LI×LI×NL) (Int×Int×Int×LI×LI×NL) (fun x=>⟨[(0,P0 0 0),(6,.dat T2 x.1),(7,.dat T2 x.2.1),(10,.dat T9 l),(11,.dat T2 (List.length l:Int)),(12,.dat T2 x.2.2.1)],[(0,.cells [(.ptr 1 0),(.d T2 x.2.2.2.1),(.d T1 x.2.2.2.2.1),(.osl 4)]),(1,.cells [(.osl 5)]),(4,.arr 3 T2 x.2.2.2.2.2.1),(5,.arr 42 T0 x.2.2.2.2.2.2)],6⟩) (fun z=>[(2,⟨[(6,.dat T2 z.1),(7,.dat T2 z.2.1)],[(0,.cells [(.ptr 1 0),(.d T2 z.2.2.1),(.d T1 z.2.2.2.1),(.osl 4)]),(1,.cells [(.osl 5)]),(4,.arr 3 T2 z.2.2.2.2.1),(5,.arr 42 T0 z.2.2.2.2.2)],6⟩)]) (loopF (fun go x=>f189_l3 l go x.1 x.2.1 x.2.2.1 x.2.2.2.1 x.2.2.2.2.1 x.2.2.2.2.2.1 x.2.2.2.2.2.2)) fuelN ((0:Int),(0:Int),(0:Int),r_e,r_p,r_leafs,r_t_l) z3 (AI hz3 (AI (E4 [(0,some 0),(1,some 1),(4,some 3),(5,some 2)] (R6 (AJ (R4 TV)))) (AI (fun _ _ h=>lZ h) (AI (fun m=>curI (fun first=>curI (fun last=>curI (fun v12=>curI (fun c0_1=>curI (fun c0_2=>curI (fun l4=>fun l5 z q=>?_))))))) ?_))))
 ·have q : f189_l3 l (loopF (fun go x=>f189_l3 l go x.1 x.2.1 x.2.2.1 x.2.2.2.1 x.2.2.2.2.1 x.2.2.2.2.2.1 x.2.2.2.2.2.2) m) first last v12 c0_1 c0_2 l4 l5 = some z := q
  unfold f189_l3 at q
  refine OL (OL (cI q (fun q=>?_) (fun q=>?_)))
  ·refine OL (OL (gI q (fun q=>?_)))
   obtain ⟨z4,hz4,q⟩ := bE q
   refine OQ ⟨[(0,⟨[(0,P0 0 0),(6,.dat T2 first),(7,.dat T2 z4.1),(8,.dat T2 v12),(9,.dat T1 (rd (Ty.z T1) l v12)),(10,.dat T9 l),(11,.dat T2 (List.length l:Int)),(12,.dat T2 v12)],[(0,.cells [(.ptr 1 0),(.d T2 z4.2.1),(.d T1 z4.2.2.1),(.osl 4)]),(1,.cells [(.osl 5)]),(4,.arr 3 T2 z4.2.2.2.1),(5,.arr 42 T0 z4.2.2.2.2)],6⟩)],?_,?_⟩
   ·have q := hz4
    clear hz4
    unfold f189_j4 at q
    obtain ⟨q5_7,hq5_7,q⟩ := bE q
    obtain ⟨g5_1,q⟩ := gE q
    obtain ⟨q5_9,hq5_9,q⟩ := bE q
    refine EI (.take 0 (.take 1 (.take 2 (.take 3 (.take 4 (.take 6 (.alt 5 (.alt 7 (.take 8 (.alt 9 (.take 10 .done) .done)) .done) (.alt 7 (.alt 5 (.take 8 (.alt 9 (.take 10 .done) .done)) .done) .done)))))))) (EI [(9,[0])] (EI [] (AI rfl (AI (AI TV ?_) ?_))))
    ·refine OL (AI f136_in (cV (cQ C136 (rd (Ty.z T1) l v12) q5_7 [] false C136_holds hq5_7 rfl rfl (AI rfl (K0 (AI TV (AI g5_1 (AI TV (OL (AI f137_in (cV (cQ C137 (l5,c0_1,c0_2,l4,(rd (Ty.z T1) l v12),(List.take (Int.toNat q5_7) c0_2)) q5_9 [(0,some 0),(1,some 1),(2,some 5),(3,some 4)] false C137_holds hq5_9 rfl rfl (R2 (AI NH (R2 (AJ (AI (R4 TV) ?_)))))))))))))))))
     cases sE q
     refine E4 [(0,some 0),(1,some 1),(4,some 4),(5,some 10)] (R8 (AJ (R4 TV)))
    refine AI TV (OL (AI f136_in (cV (cQ C136 (rd (Ty.z T1) l v12) q5_7 [] false C136_holds hq5_7 rfl rfl (AI rfl (K0 (AI g5_1 (AI TV (OL (AI f137_in (cV (cQ C137 (l5,c0_1,c0_2,l4,(rd (Ty.z T1) l v12),(List.take (Int.toNat q5_7) c0_2)) q5_9 [(0,some 0),(1,some 1),(2,some 5),(3,some 4)] false C137_holds hq5_9 rfl rfl (R2 (AI NH (R2 (AJ (AI (R4 TV) ?_)))))))))))))))))
    cases sE q
    refine E4 [(0,some 0),(1,some 1),(4,some 4),(5,some 10)] (R8 (AJ (R4 TV)))
   refine AI (OL (EI (.take 0 (.take 1 (.take 2 (.take 3 (.take 4 (.take 5 (.alt 6 (.take 7 (.take 8 (.take 9 (.alt 10 .done .done)))) .done))))))) (EI [(10,[0])] (EI [] (AI rfl (AI TV ?_)))))) TV
   obtain ⟨q6_6,hq6_6,q⟩ := bE q
   refine OL (AI f136_in (cV (cQ C136 (rd (Ty.z T1) l v12) q6_6 [] false C136_holds hq6_6 rfl rfl (AI rfl (K0 (gI q (fun q=>?_)))))))
   refine AI TV (OL (OL (OL (OL (gI q (fun q=>?_))))))
   refine OL (OL (cI q (fun q=>?_) (fun q=>?_)))
   ·refine EI (z4.1,z4.1,(i64.wrap (v12 + (1:Int))),z4.2.1,(List.drop (Int.toNat q6_6) z4.2.2.1),(z4.2.2.2.1 ++ ([z4.1])),z4.2.2.2.2) (AI q (E4 [(0,some 0),(1,some 1),(4,some 7),(5,some 5)] (R6 (AJ (R4 TV)))))
   refine EI (first,z4.1,(i64.wrap (v12 + (1:Int))),z4.2.1,(List.drop (Int.toNat q6_6) z4.2.2.1),(z4.2.2.2.1 ++ ([z4.1])),z4.2.2.2.2) (AI q (E4 [(0,some 0),(1,some 1),(4,some 7),(5,some 5)] (R6 (AJ (R4 TV)))))
  cases sE q
  refine E4 [(0,some 0),(1,some 1),(4,some 4),(5,some 5)] (R3 (AI TV (R4 TV)))
 refine AI (OL ?_) TV
 cases sE q
 refine AI rfl (E4 [(0,some 0),(1,some 1),(4,some 4),(5,some 5)] (R3 (AI TV (R4 TV))))
theorem C189_holds : HP C189 189 := hH Tryz.f189 (by kernel_rfl) rfl (fun x y q=>C189_vc x.1 x.2.1 x.2.2.1 x.2.2.2.1 x.2.2.2.2 y q)
theorem f189_in : InP 189 := inP (by kernel_rfl)
def f190 (r_t_l : NL) (r_e:Int) (r_p : LI) (r_leafs : LI) (op:Int) (a:Int) (b:Int) (k:Int) : Option (Int×Int×LI×LI×NL) :=
 bif (r_e != (0:Int)) then
 some ((0:Int),r_e,r_p,r_leafs,r_t_l)
 else
 bindF (f104 r_t_l op a b k) fun r1 =>
 some (r1.1,r1.2.1,r_p,r_leafs,r1.2.2)
def C190 : Con where
 X := NL×Int×LI×LI×Int×Int×Int×Int
 Y := Int×Int×LI×LI×NL
 e := 4
 args x := [P0 0 0,.dat T2 x.2.2.2.2.1,.dat T2 x.2.2.2.2.2.1,.dat T2 x.2.2.2.2.2.2.1,.dat T2 x.2.2.2.2.2.2.2]
 hin x := [(0,.cells [(.ptr 1 0),(.d T2 x.2.1),(.d T1 x.2.2.1),(.osl 3)]),(1,.cells [(.osl 2)]),(2,.arr 42 T0 x.1),(3,.arr 3 T2 x.2.2.2.1)]
 F x := f190 x.1 x.2.1 x.2.2.1 x.2.2.2.1 x.2.2.2.2.1 x.2.2.2.2.2.1 x.2.2.2.2.2.2.1 x.2.2.2.2.2.2.2
 ret y := [.dat T2 y.1]
 hout y := [(0,.cells [(.ptr 1 0),(.d T2 y.2.1),(.d T1 y.2.2.1),(.osl 3)]),(1,.cells [(.osl 4)]),(3,.arr 3 T2 y.2.2.2.1),(4,.arr 42 T0 y.2.2.2.2)]
 nout := 5
theorem C190_vc (r_t_l : NL) (r_e:Int) (r_p : LI) (r_leafs : LI) (op:Int) (a:Int) (b:Int) (k:Int) (y : Int×Int×LI×LI×NL) (q : f190 r_t_l r_e r_p r_leafs op a b k = some y) : VE Tryz.f190 4 C190 (r_t_l,r_e,r_p,r_leafs,op,a,b,k) y := by
 unfold f190 at q
 refine OL (OL (OL (cI q (fun q=>?_) (fun q=>?_))))
 ·cases sE q
  refine OL (AI rfl (E4 [(0,some 0),(1,some 1),(3,some 3),(4,some 2)] (R2 (AI TV (R4 TV)))))
 refine OL ?_
 obtain ⟨r1,hr1,q⟩ := bE q
 refine OL (AI f104_in (cV (cQ C104 (r_t_l,op,a,b,k) r1 [(0,some 1),(1,some 2)] false C104_holds hr1 rfl rfl (R4 (AI NH (R2 (AJ (AI (R2 TV) (OL (OL (OL ?_)))))))))))
 cases sE q
 refine AI rfl (E4 [(0,some 0),(1,some 1),(3,some 3),(4,some 6)] (R2 (AI TV (R4 TV))))
theorem C190_holds : HP C190 190 := hH Tryz.f190 (by kernel_rfl) rfl (fun x y q=>C190_vc x.1 x.2.1 x.2.2.1 x.2.2.2.1 x.2.2.2.2.1 x.2.2.2.2.2.1 x.2.2.2.2.2.2.1 x.2.2.2.2.2.2.2 y q)
theorem f190_in : InP 190 := inP (by kernel_rfl)
def f138_j1 (in_ : LI) (x_:Int) (r2 : Int×Int×Int×LI×LI×NL) : Option (Int×Int×LI×LI×NL) :=
 bif ((List.length in_:Int) == (2:Int)) then
 bindF (f190 r2.2.2.2.2.2 r2.2.2.1 r2.2.2.2.1 r2.2.2.2.2.1 (14:Int) x_ (0:Int) (0:Int)) fun r5 =>
 some (r5.1,r5.2.1,r5.2.2.1,r5.2.2.2.1,r5.2.2.2.2)
 else
 some (x_,r2.2.2.1,r2.2.2.2.1,r2.2.2.2.2.1,r2.2.2.2.2.2)
def f138 (r_t_l : NL) (r_e:Int) (r_p : LI) (r_leafs : LI) (l : ByteArray×Int×Int) (in_ : LI) (x_:Int) (ahead:Int) : Option (Int×Int×LI×LI×NL) :=
 bindF (f188 (l.1,l.2.1,l.2.2) in_) fun r1 =>
 bindF (f189 r_t_l r_e r_p r_leafs r1) fun r2 =>
 bif (ByteArray.toList l.1 == ByteArray.toList (ByteArray.mk #[100,101,110,115,101])) then
 bindF (f138_j1 in_ x_ r2) fun z4 =>
 bindF (f190 z4.2.2.2.2 z4.2.1 z4.2.2.1 z4.2.2.2.1 (4:Int) r2.1 z4.1 (0:Int)) fun r6 =>
 bindF (f190 r6.2.2.2.2 r6.2.1 r6.2.2.1 r6.2.2.2.1 (8:Int) r6.1 (0:Int) (1:Int)) fun r7 =>
 bindF (f190 r7.2.2.2.2 r7.2.1 r7.2.2.1 r7.2.2.2.1 (2:Int) r7.1 r2.2.1 (0:Int)) fun r8 =>
 some (r8.1,r8.2.1,r8.2.2.1,r8.2.2.2.1,r8.2.2.2.2)
 else
 bif (ByteArray.toList l.1 == ByteArray.toList (ByteArray.mk #[99,111,110,118])) then
 bindF (f190 r2.2.2.2.2.2 r2.2.2.1 r2.2.2.2.1 r2.2.2.2.2.1 (12:Int) x_ r2.1 (1:Int)) fun r9 =>
 some (r9.1,r9.2.1,r9.2.2.1,r9.2.2.2.1,r9.2.2.2.2)
 else
 bif (ByteArray.toList l.1 == ByteArray.toList (ByteArray.mk #[112,111,111,108])) then
 bindF (f190 r2.2.2.2.2.2 r2.2.2.1 r2.2.2.2.1 r2.2.2.2.2.1 (13:Int) x_ (0:Int) l.2.1) fun r10 =>
 some (r10.1,r10.2.1,r10.2.2.1,r10.2.2.2.1,r10.2.2.2.2)
 else
 bif (ByteArray.toList l.1 == ByteArray.toList (ByteArray.mk #[98,101,110,100])) then
 bindF (f190 r2.2.2.2.2.2 r2.2.2.1 r2.2.2.2.1 r2.2.2.2.2.1 (11:Int) x_ (0:Int) l.2.1) fun r11 =>
 some (r11.1,r11.2.1,r11.2.2.1,r11.2.2.2.1,r11.2.2.2.2)
 else
 bindF (f190 r2.2.2.2.2.2 r2.2.2.1 r2.2.2.2.1 r2.2.2.2.2.1 (2:Int) ahead x_ (0:Int)) fun r12 =>
 some (r12.1,r12.2.1,r12.2.2.1,r12.2.2.2.1,r12.2.2.2.2)
def C138 : Con where
 X := NL×Int×LI×LI×(ByteArray×Int×Int)×LI×Int×Int
 Y := Int×Int×LI×LI×NL
 e := 4
 args x := [P0 0 0,.dat T6 x.2.2.2.2.1,.dat T1 x.2.2.2.2.2.1,.dat T2 x.2.2.2.2.2.2.1,.dat T2 x.2.2.2.2.2.2.2]
 hin x := [(0,.cells [(.ptr 1 0),(.d T2 x.2.1),(.d T1 x.2.2.1),(.osl 3)]),(1,.cells [(.osl 2)]),(2,.arr 42 T0 x.1),(3,.arr 3 T2 x.2.2.2.1)]
 F x := f138 x.1 x.2.1 x.2.2.1 x.2.2.2.1 x.2.2.2.2.1 x.2.2.2.2.2.1 x.2.2.2.2.2.2.1 x.2.2.2.2.2.2.2
 ret y := [.dat T2 y.1]
 hout y := [(0,.cells [(.ptr 1 0),(.d T2 y.2.1),(.d T1 y.2.2.1),(.osl 4)]),(1,.cells [(.osl 5)]),(4,.arr 3 T2 y.2.2.2.1),(5,.arr 42 T0 y.2.2.2.2)]
 nout := 6
theorem C138_vc (r_t_l : NL) (r_e:Int) (r_p : LI) (r_leafs : LI) (l : ByteArray×Int×Int) (in_ : LI) (x_:Int) (ahead:Int) (y : Int×Int×LI×LI×NL) (q : f138 r_t_l r_e r_p r_leafs l in_ x_ ahead = some y) : VE Tryz.f138 4 C138 (r_t_l,r_e,r_p,r_leafs,l,in_,x_,ahead) y := by
 unfold f138 at q
 refine OL (OL ?_)
 obtain ⟨r1,hr1,q⟩ := bE q
 refine OL (AI f188_in (cV (cQ C188 ((l.1,l.2.1,l.2.2),in_) r1 [] false C188_holds hr1 rfl rfl (R3 (K0 ?_)))))
 obtain ⟨r2,hr2,q⟩ := bE q
 refine OL (AI f189_in (cV (cQ C189 (r_t_l,r_e,r_p,r_leafs,r1) r2 I4 false C189_holds hr2 rfl rfl (AI rfl (AI NH (R2 (AJ (AI (R4 TV) (OL (OL (OL (cI q (fun q=>?_) (fun q=>?_)))))))))))))
 ·obtain ⟨z4,hz4,q⟩ := bE q
  refine OQ ⟨[(0,⟨[(0,P0 0 0),(3,.dat T2 z4.1),(11,.dat T2 r2.1),(12,.dat T2 r2.2.1)],[(0,.cells [(.ptr 1 0),(.d T2 z4.2.1),(.d T1 z4.2.2.1),(.osl 4)]),(1,.cells [(.osl 5)]),(4,.arr 3 T2 z4.2.2.2.1),(5,.arr 42 T0 z4.2.2.2.2)],6⟩)],?_,?_⟩
  ·have q := hz4
   clear hz4
   unfold f138_j1 at q
   refine OL (cI q (fun q=>?_) (fun q=>?_))
   ·obtain ⟨r5,hr5,q⟩ := bE q
    refine OL (AI f190_in (cV (cQ C190 (r2.2.2.2.2.2,r2.2.2.1,r2.2.2.2.1,r2.2.2.2.2.1,(14:Int),x_,(0:Int),(0:Int)) r5 [(0,some 0),(1,some 1),(2,some 11),(3,some 10)] false C190_holds hr5 rfl rfl (R4 (AI NH (R2 (AJ (AI (R4 TV) ?_))))))))
    cases sE q
    refine E4 [(0,some 0),(1,some 1),(4,some 10),(5,some 16)] (R4 (AJ (R4 TV)))
   cases sE q
   refine E4 [(0,some 0),(1,some 1),(4,some 10),(5,some 11)] (R4 (AJ (R4 TV)))
  refine AI (OL ?_) TV
  obtain ⟨r6,hr6,q⟩ := bE q
  refine OL (AI f190_in (cV (cQ C190 (z4.2.2.2.2,z4.2.1,z4.2.2.1,z4.2.2.2.1,(4:Int),r2.1,z4.1,(0:Int)) r6 [(0,some 0),(1,some 1),(2,some 5),(3,some 4)] false C190_holds hr6 rfl rfl (R4 (AI NH (R2 (AJ (AI (R4 TV) ?_))))))))
  obtain ⟨r7,hr7,q⟩ := bE q
  refine OL (AI f190_in (cV (cQ C190 (r6.2.2.2.2,r6.2.1,r6.2.2.1,r6.2.2.2.1,(8:Int),r6.1,(0:Int),(1:Int)) r7 [(0,some 0),(1,some 1),(2,some 10),(3,some 4)] false C190_holds hr7 rfl rfl (R4 (AI NH (R2 (AJ (AI (R4 TV) (OL ?_)))))))))
  obtain ⟨r8,hr8,q⟩ := bE q
  refine OL (AI f190_in (cV (cQ C190 (r7.2.2.2.2,r7.2.1,r7.2.2.1,r7.2.2.2.1,(2:Int),r7.1,r2.2.1,(0:Int)) r8 [(0,some 0),(1,some 1),(2,some 15),(3,some 4)] false C190_holds hr8 rfl rfl (R4 (AI NH (R2 (AJ (AI (R4 TV) ?_))))))))
  cases sE q
  refine AI rfl (E4 [(0,some 0),(1,some 1),(4,some 4),(5,some 20)] (R2 (AI TV (R4 TV))))
 refine OL (cI q (fun q=>?_) (fun q=>?_))
 ·refine OL ?_
  obtain ⟨r9,hr9,q⟩ := bE q
  refine OL (AI f190_in (cV (cQ C190 (r2.2.2.2.2.2,r2.2.2.1,r2.2.2.2.1,r2.2.2.2.2.1,(12:Int),x_,r2.1,(1:Int)) r9 [(0,some 0),(1,some 1),(2,some 11),(3,some 10)] false C190_holds hr9 rfl rfl (R4 (AI NH (R2 (AJ (AI (R4 TV) ?_))))))))
  cases sE q
  refine AI rfl (E4 [(0,some 0),(1,some 1),(4,some 10),(5,some 16)] (R2 (AI TV (R4 TV))))
 refine OL (cI q (fun q=>?_) (fun q=>?_))
 ·refine OL ?_
  obtain ⟨r10,hr10,q⟩ := bE q
  refine OL (AI f190_in (cV (cQ C190 (r2.2.2.2.2.2,r2.2.2.1,r2.2.2.2.1,r2.2.2.2.2.1,(13:Int),x_,(0:Int),l.2.1) r10 [(0,some 0),(1,some 1),(2,some 11),(3,some 10)] false C190_holds hr10 rfl rfl (R4 (AI NH (R2 (AJ (AI (R4 TV) ?_))))))))
  cases sE q
  refine AI rfl (E4 [(0,some 0),(1,some 1),(4,some 10),(5,some 16)] (R2 (AI TV (R4 TV))))
 refine OL (cI q (fun q=>?_) (fun q=>?_))
 ·refine OL ?_
  obtain ⟨r11,hr11,q⟩ := bE q
  refine OL (AI f190_in (cV (cQ C190 (r2.2.2.2.2.2,r2.2.2.1,r2.2.2.2.1,r2.2.2.2.2.1,(11:Int),x_,(0:Int),l.2.1) r11 [(0,some 0),(1,some 1),(2,some 11),(3,some 10)] false C190_holds hr11 rfl rfl (R4 (AI NH (R2 (AJ (AI (R4 TV) ?_))))))))
  cases sE q
  refine AI rfl (E4 [(0,some 0),(1,some 1),(4,some 10),(5,some 16)] (R2 (AI TV (R4 TV))))
 refine OL ?_
 obtain ⟨r12,hr12,q⟩ := bE q
 refine OL (AI f190_in (cV (cQ C190 (r2.2.2.2.2.2,r2.2.2.1,r2.2.2.2.1,r2.2.2.2.2.1,(2:Int),ahead,x_,(0:Int)) r12 [(0,some 0),(1,some 1),(2,some 11),(3,some 10)] false C190_holds hr12 rfl rfl (R4 (AI NH (R2 (AJ (AI (R4 TV) ?_))))))))
 cases sE q
 refine AI rfl (E4 [(0,some 0),(1,some 1),(4,some 10),(5,some 16)] (R2 (AI TV (R4 TV))))
theorem C138_holds : HP C138 138 := hH Tryz.f138 (by kernel_rfl) rfl (fun x y q=>C138_vc x.1 x.2.1 x.2.2.1 x.2.2.2.1 x.2.2.2.2.1 x.2.2.2.2.2.1 x.2.2.2.2.2.2.1 x.2.2.2.2.2.2.2 y q)
theorem f138_in : InP 138 := inP (by kernel_rfl)
def f80_j3 (n : LI×(List (ByteArray×Int×Int))) (p_ : LI) (x_ : LI) (r1 : Int×Bool) : Option Bool :=
 bif ((List.length p_:Int) != r1.1) then
 some true
 else
 bindF (f136 n.1) fun r8 =>
 some ((List.length x_:Int) != r8)
def f80_j2 (n : LI×(List (ByteArray×Int×Int))) (p_ : LI) (x_ : LI) (r1 : Int×Bool) : Option (Sum Unit Unit) :=
 bindF (f80_j3 n p_ x_ r1) fun z7 =>
 bif z7 then
 some (Sum.inr ())
 else
 some (Sum.inl ())
def f80_l4 (n : LI×(List (ByteArray×Int×Int))) (q18_7 : Int×(List LI)) (go : (Int×Int×Int×Int×LI×NL×LI) → Option (Int×Int×LI×NL×LI)) (at_:Int) (ahead:Int) (v62:Int) (c3_1:Int) (c3_2 : LI) (l4 : NL) (l5 : LI) : Option (Int×Int×LI×NL×LI) :=
 bif (decide (v62 < (List.length n.2:Int))) then
 guardF (0 ≤ v62 ∧ v62 < (List.length n.2:Int)) <|
 guardF (0 ≤ v62 ∧ v62 < (List.length q18_7.2:Int)) <|
 bindF (f138 l4 c3_1 c3_2 l5 ((rd (Ty.z T6) n.2 v62).1,((rd (Ty.z T6) n.2 v62).2).1,((rd (Ty.z T6) n.2 v62).2).2) (rd (Ty.z T1) q18_7.2 v62) at_ ahead) fun q12_8 =>
 go (q12_8.1,at_,(i64.wrap (v62 + (1:Int))),q12_8.2.1,q12_8.2.2.1,q12_8.2.2.2.2,q12_8.2.2.2.1)
 else
 some (at_,c3_1,c3_2,l4,l5)
def f80 (t_l : NL) (n : LI×(List (ByteArray×Int×Int))) (p_ : LI) (x_ : LI) : Option (Int×Int×LI×NL) :=
 bindF (f134 (n.1,n.2)) fun q18_7 =>
 bif (q18_7.1 != (0:Int)) then
 some ((0:Int),q18_7.1,[],t_l)
 else
 bindF (f135 (n.1,n.2) q18_7.2) fun r1 =>
 bindF (f80_j2 n p_ x_ r1) fun z5 =>
 sumF z5 (fun z5a =>
 bindF (f28 t_l) fun r9 =>
 bindF (f137 r9.2 (0:Int) p_ ([]) n.1 x_) fun r10 =>
 bindF (loopF (fun go x=>f80_l4 n q18_7 go x.1 x.2.1 x.2.2.1 x.2.2.2.1 x.2.2.2.2.1 x.2.2.2.2.2.1 x.2.2.2.2.2.2) fuelN (r10.1,(0:Int),(0:Int),r10.2.1,r10.2.2.1,r10.2.2.2.2,r10.2.2.2.1)) fun z11 =>
 bif (z11.2.1 != (0:Int)) then
 bindF (f105 z11.2.2.2.1 r9.1) fun q12_9 =>
 some ((0:Int),z11.2.1,[],q12_9)
 else
 some (z11.1,(0:Int),z11.2.2.2.2,z11.2.2.2.1)) (fun z5b =>
 some ((0:Int),(1:Int),[],t_l))
def C80 : Con where
 X := NL×(LI×(List (ByteArray×Int×Int)))×LI×LI
 Y := Int×Int×LI×NL
 e := 2
 args x := [P0 0 0,.dat T7 x.2.1,.dat T1 x.2.2.1,.dat T1 x.2.2.2]
 hin x := [(0,.cells [(.osl 1)]),(1,.arr 42 T0 x.1)]
 F x := f80 x.1 x.2.1 x.2.2.1 x.2.2.2
 ret y := [.dat T2 y.1,O0 2,.dat T2 y.2.1]
 hout y := [(0,.cells [(.osl 3)]),(2,.arr 3 T2 y.2.2.1),(3,.arr 42 T0 y.2.2.2)]
 nout := 4
theorem C80_vc (t_l : NL) (n : LI×(List (ByteArray×Int×Int))) (p_ : LI) (x_ : LI) (y : Int×Int×LI×NL) (q : f80 t_l n p_ x_ = some y) : VE Tryz.f80 2 C80 (t_l,n,p_,x_) y := by
 unfold f80 at q
 refine OL (OL ?_)
 obtain ⟨q18_7,hq18_7,q⟩ := bE q
 refine OL (AI f134_in (cV (cQ C134 (n.1,n.2) q18_7 [] false C134_holds hq18_7 rfl rfl (R2 (K0 (OL (OL (cI q (fun q=>?_) (fun q=>?_)))))))))
 ·cases sE q
  refine OL (AI rfl (E4 [(0,some 0),(2,none),(3,some 1)] (R3 (AJ (R3 TV)))))
 refine OL ?_
 obtain ⟨r1,hr1,q⟩ := bE q
 refine OL (AI f135_in (cV (cQ C135 ((n.1,n.2),q18_7.2) r1 [] true C135_holds hr1 rfl rfl (R3 (AI (fun _=>rfl) (R2 (AI TV (AI TV ?_))))))))
 obtain ⟨z5,hz5,q⟩ := bE q
 refine OQ ⟨Sum.elim (fun z5a=>[(0,⟨[(0,P0 0 0),(2,.dat T1 p_),(3,.dat T1 x_),(5,P0 2 0),(11,O0 3)],[(0,.cells [(.osl 1)]),(1,.arr 42 T0 t_l),(2,.cells [(.d T1 n.1),(.d T8 n.2)]),(3,.arr 33 T1 q18_7.2)],4⟩)]) (fun z5b=>[(1,⟨[(8,D0 0),(9,.raw false [N0]),(10,D0 1)],[(0,.cells [(.osl 1)]),(1,.arr 42 T0 t_l)],2⟩)]) z5,?_,?_⟩
 ·have q := hz5
  clear hz5
  unfold f80_j2 at q
  obtain ⟨z7,hz7,q⟩ := bE q
  refine OQ ⟨[(0,⟨[(0,P0 0 0),(2,.dat T1 p_),(3,.dat T1 x_),(5,P0 2 0),(11,O0 3),(47,.dat .bool z7)],[(0,.cells [(.osl 1)]),(1,.arr 42 T0 t_l),(2,.cells [(.d T1 n.1),(.d T8 n.2)]),(3,.arr 33 T1 q18_7.2)],4⟩)],?_,?_⟩
  ·have q := hz7
   clear hz7
   unfold f80_j3 at q
   refine cN q (fun q=>?_) (fun q=>?_)
   ·refine gY (gY (gY (gY ?_)))
    obtain ⟨r8,hr8,q⟩ := bE q
    refine OL (AI f136_in (cV (cQ C136 n.1 r8 [] false C136_holds hr8 rfl rfl (AI rfl (K0 (gY (cF ?_)))))))
    cases sE q
    refine E4 I4 (R4 (AI (R3 TV) (R4 TV)))
   refine gN (gN (gN (gN (gN (cT ?_)))))
   cases sE q
   refine E4 I4 (R4 (AI (R3 TV) (R4 TV)))
  refine AI (cI q (fun q=>?_) (fun q=>?_)) TV
  ·cases sE q
   refine OL (E4 I2 (R3 (AJ (R2 TV))))
  cases sE q
  refine E4 I4 (R3 (AI (R3 TV) (R4 TV)))
 rcases z5 with z5a | z5b
 ·dsimp only [sumF] at q
  refine AI (OL ?_) TV
  obtain ⟨r9,hr9,q⟩ := bE q
  refine OL (AI f28_in (cV (cQ C28 t_l r9 I2 false C28_holds hr9 rfl rfl (AI NH (R2 (AJ (AI (R2 TV) (OL ?_))))))))
  obtain ⟨r10,hr10,q⟩ := bE q
  refine OL (AI f137_in (callVn [(4,3,3,T2)] (virtI rfl rfl (virt0 (cQ C137 (r9.2,(0:Int),p_,[],n.1,x_) r10 [(0,some 4),(1,some 0),(2,some 1),(3,some 7)] false C137_holds hr10 rfl rfl (R2 (AI NH (R2 (AJ (AI (R4 TV) (OL (OL ?_))))))))))))
  obtain ⟨z11,hz11,q⟩ := bE q
  refine lI (Int×Int×Int×Int×LI×NL×LI) (Int×Int×LI×NL×LI) (fun x=>⟨[(0,P0 0 0),(11,O0 2),(15,P0 3 0),(16,.dat T2 r9.1),(17,.dat T2 x.1),(18,.dat T2 x.2.1),(60,.dat T8 n.2),(61,.dat T2 (List.length n.2:Int)),(62,.dat T2 x.2.2.1)],[(0,.cells [(.osl 4)]),(2,.arr 33 T1 q18_7.2),(3,.cells [(.ptr 0 0),(.d T2 x.2.2.2.1),(.d T1 x.2.2.2.2.1),(.osl 5)]),(4,.arr 42 T0 x.2.2.2.2.2.1),(5,.arr 3 T2 x.2.2.2.2.2.2)],6⟩) (fun z=>[(2,⟨[(0,P0 0 0),(15,P0 2 0),(16,.dat T2 r9.1),(17,.dat T2 z.1)],[(0,.cells [(.osl 3)]),(2,.cells [(.ptr 0 0),(.d T2 z.2.1),(.d T1 z.2.2.1),(.osl 4)]),(3,.arr 42 T0 z.2.2.2.1),(4,.arr 3 T2 z.2.2.2.2)],5⟩)]) (loopF (fun go x=>f80_l4 n q18_7 go x.1 x.2.1 x.2.2.1 x.2.2.2.1 x.2.2.2.2.1 x.2.2.2.2.2.1 x.2.2.2.2.2.2)) fuelN (r10.1,(0:Int),(0:Int),r10.2.1,r10.2.2.1,r10.2.2.2.2,r10.2.2.2.1) z11 (AI hz11 (AI (E4 [(0,some 0),(2,some 3),(3,some 4),(4,some 12),(5,some 7)] (R7 (AI (R3 TV) (R5 TV)))) (AI (fun _ _ h=>lZ h) (AI (fun m=>curI (fun at_=>curI (fun ahead=>curI (fun v62=>curI (fun c3_1=>curI (fun c3_2=>curI (fun l4=>fun l5 z q=>?_))))))) ?_))))
  ·have q : f80_l4 n q18_7 (loopF (fun go x=>f80_l4 n q18_7 go x.1 x.2.1 x.2.2.1 x.2.2.2.1 x.2.2.2.2.1 x.2.2.2.2.2.1 x.2.2.2.2.2.2) m) at_ ahead v62 c3_1 c3_2 l4 l5 = some z := q
   unfold f80_l4 at q
   refine OL (OL (cI q (fun q=>?_) (fun q=>?_)))
   ·refine OL (OL (gI q (fun q=>?_)))
    refine OL (OL (EI (.take 0 (.take 1 (.take 2 (.take 3 (.take 4 (.take 5 (.take 6 (.take 7 (.alt 8 (.take 9 .done) .done))))))))) (EI [] (EI [] (AI rfl (gI q (fun q=>?_)))))))
    refine AI TV ?_
    obtain ⟨q12_8,hq12_8,q⟩ := bE q
    refine OL (AI f138_in (cV (cQ C138 (l4,c3_1,c3_2,l5,((rd (Ty.z T6) n.2 v62).1,((rd (Ty.z T6) n.2 v62).2).1,((rd (Ty.z T6) n.2 v62).2).2),(rd (Ty.z T1) q18_7.2 v62),at_,ahead) q12_8 [(0,some 3),(1,some 0),(2,some 4),(3,some 5)] false C138_holds hq12_8 rfl rfl (R5 (AI NH (R2 (AJ (AI (R4 TV) (EI (q12_8.1,at_,(i64.wrap (v62 + (1:Int))),q12_8.2.1,q12_8.2.2.1,q12_8.2.2.2.2,q12_8.2.2.2.1) (AI q (E4 [(0,some 0),(2,some 2),(3,some 3),(4,some 12),(5,some 11)] (R7 (AI (R3 TV) (R5 TV))))))))))))))
   cases sE q
   refine E4 [(0,some 0),(2,some 3),(3,some 4),(4,some 5)] (R3 (AI (R2 TV) (R4 TV)))
  refine AI (OL (OL (cI q (fun q=>?_) (fun q=>?_)))) TV
  ·refine OL ?_
   obtain ⟨q12_9,hq12_9,q⟩ := bE q
   refine OL (AI f105_in (cV (cQ C105 (z11.2.2.2.1,r9.1) q12_9 [(0,some 0),(1,some 3)] false C105_holds hq12_9 rfl rfl (AI rfl (AI NH (R2 (AJ (AI (R2 TV) (OL (EI (.take 0 (.take 1 (.take 2 (.take 3 (.take 4 (.take 5 (.take 6 .done))))))) (EI [] (EI [] (AI rfl ?_)))))))))))))
   cases sE q
   refine AI rfl (E4 [(0,some 0),(2,none),(3,some 7)] (R3 (AJ (R3 TV))))
  refine OL (EI (.take 0 (.take 1 (.take 2 (.take 3 (.take 4 (.take 5 (.take 6 (.take 7 .done)))))))) (EI [] (EI [] (AI rfl ?_))))
  cases sE q
  refine AI rfl (E4 [(0,some 0),(2,some 4),(3,some 3)] (R3 (AJ (R3 TV))))
 dsimp only [sumF] at q
 refine AI ?_ TV
 cases sE q
 refine AI rfl (E4 [(0,some 0),(2,none),(3,some 1)] (R3 (AJ (R3 TV))))
theorem C80_holds : HP C80 80 := hH Tryz.f80 (by kernel_rfl) rfl (fun x y q=>C80_vc x.1 x.2.1 x.2.2.1 x.2.2.2 y q)
theorem f80_in : InP 80 := inP (by kernel_rfl)
def f81 (t_l : NL) (kind:Int) (out:Int) (e : LI×LI×Int) : Option (Int×Int×NL) :=
 bif (kind == (1:Int)) then
 bindF (f20 t_l out e.2.1) fun r1 =>
 some (r1.1,r1.2.1,r1.2.2)
 else
 bif (kind == (2:Int)) then
 bindF (f21 t_l out e.2.1) fun r2 =>
 some (r2.1,r2.2.1,r2.2.2)
 else
 bindF (f22 t_l out e.2.2) fun r3 =>
 some (r3.1,r3.2.1,r3.2.2)
def C81 : Con where
 X := NL×Int×Int×(LI×LI×Int)
 Y := Int×Int×NL
 e := 2
 args x := [P0 0 0,.dat T2 x.2.1,.dat T2 x.2.2.1,.dat T10 x.2.2.2]
 hin x := [(0,.cells [(.osl 1)]),(1,.arr 42 T0 x.1)]
 F x := f81 x.1 x.2.1 x.2.2.1 x.2.2.2
 ret y := [.dat T2 y.1,.dat T2 y.2.1]
 hout y := [(0,.cells [(.osl 2)]),(2,.arr 42 T0 y.2.2)]
 nout := 3
theorem C81_vc (t_l : NL) (kind:Int) (out:Int) (e : LI×LI×Int) (y : Int×Int×NL) (q : f81 t_l kind out e = some y) : VE Tryz.f81 2 C81 (t_l,kind,out,e) y := by
 unfold f81 at q
 refine OL (OL (OL (OL (cI q (fun q=>?_) (fun q=>?_)))))
 ·refine OL ?_
  obtain ⟨r1,hr1,q⟩ := bE q
  refine OL (AI f20_in (cV (cQ C20 (t_l,out,e.2.1) r1 I2 false C20_holds hr1 rfl rfl (R2 (AI NH (R2 (AJ (AI (R2 TV) ?_))))))))
  cases sE q
  refine AI rfl (E4 [(0,some 0),(2,some 5)] (R3 (AI TV (R2 TV))))
 refine OL (cI q (fun q=>?_) (fun q=>?_))
 ·refine OL ?_
  obtain ⟨r2,hr2,q⟩ := bE q
  refine OL (AI f21_in (cV (cQ C21 (t_l,out,e.2.1) r2 I2 false C21_holds hr2 rfl rfl (R2 (AI NH (R2 (AJ (AI (R2 TV) ?_))))))))
  cases sE q
  refine AI rfl (E4 [(0,some 0),(2,some 5)] (R3 (AI TV (R2 TV))))
 refine OL ?_
 obtain ⟨r3,hr3,q⟩ := bE q
 refine OL (AI f22_in (cV (cQ C22 (t_l,out,e.2.2) r3 I2 false C22_holds hr3 rfl rfl (R2 (AI NH (R2 (AJ (AI (R2 TV) ?_))))))))
 cases sE q
 refine AI rfl (E4 [(0,some 0),(2,some 5)] (R3 (AI TV (R2 TV))))
theorem C81_holds : HP C81 81 := hH Tryz.f81 (by kernel_rfl) rfl (fun x y q=>C81_vc x.1 x.2.1 x.2.2.1 x.2.2.2 y q)
theorem f81_in : InP 81 := inP (by kernel_rfl)
def f33_j3 (kind:Int) : Option Bool :=
 bif (decide (kind < (1:Int))) then
 some true
 else
 some (decide (kind > (3:Int)))
def f33_j2 (kind:Int) : Option (Sum Unit Unit) :=
 bindF (f33_j3 kind) fun z3 =>
 bif z3 then
 some (Sum.inr ())
 else
 some (Sum.inl ())
def f33_l4 (r4 : Int×Int×LI×NL) (r6 : Int×(List (LI×LI))×NL) (go : (Int×LI) → Option LI) (v64:Int) (l2 : LI) : Option LI :=
 bif (decide (v64 < (List.length r4.2.2.1:Int))) then
 guardF (0 ≤ v64 ∧ v64 < (List.length r4.2.2.1:Int)) <|
 guardF (0 ≤ (rd (0:Int) r4.2.2.1 v64) ∧ (rd (0:Int) r4.2.2.1 v64) < (List.length r6.2.1:Int)) <|
 guardF ((List.length l2 + List.length ((rd (Ty.z T3) r6.2.1 (rd (0:Int) r4.2.2.1 v64)).2)) * 8 ≤ 140737488355328) <|
 go ((i64.wrap (v64 + (1:Int))),(l2 ++ ((rd (Ty.z T3) r6.2.1 (rd (0:Int) r4.2.2.1 v64)).2)))
 else
 some l2
def f33 (n : LI×(List (ByteArray×Int×Int))) (kind:Int) (p_ : LI) (x_ : LI×LI×Int) : Option (Int×Int×LI) :=
 bindF (f33_j2 kind) fun z2 =>
 sumF z2 (fun z2a =>
 bindF (f16) fun q20_7 =>
 bindF (f80 ([]) (n.1,n.2) p_ x_.1) fun r4 =>
 bif (r4.2.1 != (0:Int)) then
 some ((0:Int),r4.2.1,[])
 else
 bindF (f81 r4.2.2.2 kind r4.1 (x_.1,x_.2.1,x_.2.2)) fun r5 =>
 bif (r5.2.1 != (0:Int)) then
 some ((0:Int),r5.2.1,[])
 else
 bindF (f26 r5.2.2 r5.1) fun r6 =>
 bif (r6.1 != (0:Int)) then
 some ((0:Int),r6.1,[])
 else
 bindF (loopF (fun go x=>f33_l4 r4 r6 go x.1 x.2) fuelN ((0:Int),[])) fun z7 =>
 bindF (f58 r6.2.2 r5.1) fun r8 =>
 guardF (0 ≤ (0:Int) ∧ (0:Int) < (List.length r8.2.2.1:Int)) <|
 some ((rd (0:Int) r8.2.2.1 (0:Int)),(0:Int),z7)) (fun z2b =>
 some ((0:Int),(1:Int),[]))
def C33 : Con where
 X := (LI×(List (ByteArray×Int×Int)))×Int×LI×(LI×LI×Int)
 Y := Int×Int×LI
 e := 0
 args x := [.dat T7 x.1,.dat T2 x.2.1,.dat T1 x.2.2.1,.dat T10 x.2.2.2]
 hin x := []
 F x := f33 x.1 x.2.1 x.2.2.1 x.2.2.2
 ret y := [O0 0,.dat T2 y.1,.dat T2 y.2.1]
 hout y := [(0,.arr 40 T2 y.2.2)]
 nout := 1
theorem C33_vc (n : LI×(List (ByteArray×Int×Int))) (kind:Int) (p_ : LI) (x_ : LI×LI×Int) (y : Int×Int×LI) (q : f33 n kind p_ x_ = some y) : VC Tryz.f33 C33 (n,kind,p_,x_) y := by
 unfold f33 at q
 refine OL ?_
 obtain ⟨z2,hz2,q⟩ := bE q
 refine OQ ⟨Sum.elim (fun z2a=>[(0,⟨[(1,.dat T2 kind),(2,.dat T1 p_),(4,P0 0 0),(7,P0 1 0)],[(0,.cells [(.d T1 n.1),(.d T8 n.2)]),(1,.cells [(.d T1 x_.1),(.d T1 x_.2.1),(.d T2 x_.2.2)])],2⟩)]) (fun z2b=>[(1,⟨[(8,.raw false [N0]),(9,D0 0),(10,D0 1)],[],0⟩)]) z2,?_,?_⟩
 ·have q := hz2
  clear hz2
  unfold f33_j2 at q
  obtain ⟨z3,hz3,q⟩ := bE q
  refine OQ ⟨[(0,⟨[(1,.dat T2 kind),(2,.dat T1 p_),(4,P0 0 0),(7,P0 1 0),(27,.dat .bool z3)],[(0,.cells [(.d T1 n.1),(.d T8 n.2)]),(1,.cells [(.d T1 x_.1),(.d T1 x_.2.1),(.d T2 x_.2.2)])],2⟩)],?_,?_⟩
  ·have q := hz3
   clear hz3
   unfold f33_j3 at q
   refine cN q (fun q=>?_) (fun q=>?_)
   ·refine gY (cF ?_)
    cases sE q
    refine E4 I2 (R4 (AI (R2 TV) (R2 TV)))
   refine gN (cT ?_)
   cases sE q
   refine E4 I2 (R4 (AI (R2 TV) (R2 TV)))
  refine AI (cI q (fun q=>?_) (fun q=>?_)) TV
  ·cases sE q
   refine OL (E4 [] (R3 (AJ TV)))
  cases sE q
  refine E4 I2 (R3 (AI (R2 TV) (R2 TV)))
 rcases z2 with z2a | z2b
 ·dsimp only [sumF] at q
  refine AI (OL ?_) TV
  obtain ⟨q20_7,hq20_7,q⟩ := bE q
  refine OL (AI f16_in (cV (cQ C16 () q20_7 [] false C16_holds hq20_7 rfl rfl (K0 (OL ?_)))))
  obtain ⟨r4,hr4,q⟩ := bE q
  refine OL (AI f80_in (cV (cQ C80 ([],(n.1,n.2),p_,x_.1) r4 [(0,some 2),(1,some 3)] false C80_holds hr4 rfl rfl (R4 (AI NH (R2 (AJ (AI (R2 TV) (OL (OL (cI q (fun q=>?_) (fun q=>?_))))))))))))
  ·cases sE q
   refine OL (AI rfl (E4 [(0,none)] (R3 (AJ (AI rfl TV)))))
  refine OL ?_
  obtain ⟨r5,hr5,q⟩ := bE q
  refine OL (AI f81_in (cV (cQ C81 (r4.2.2.2,kind,r4.1,(x_.1,x_.2.1,x_.2.2)) r5 [(0,some 2),(1,some 7)] false C81_holds hr5 rfl rfl (R4 (AI NH (R2 (AJ (AI (R2 TV) (OL (OL (cI q (fun q=>?_) (fun q=>?_))))))))))))
  ·cases sE q
   refine OL (AI rfl (E4 [(0,none)] (R3 (AJ (AI rfl TV)))))
  refine OL ?_
  obtain ⟨r6,hr6,q⟩ := bE q
  refine OL (AI f26_in (cV (cQ C26 (r5.2.2,r5.1) r6 [(0,some 2),(1,some 10)] false C26_holds hr6 rfl rfl (AI rfl (AI NH (R2 (AJ (AI (R2 TV) (OL (OL (cI q (fun q=>?_) (fun q=>?_))))))))))))
  ·cases sE q
   refine OL (AI rfl (E4 [(0,none)] (R3 (AJ (AI rfl TV)))))
  refine OL (OL (OL ?_))
  obtain ⟨z7,hz7,q⟩ := bE q
  refine lI (Int×LI) LI (fun x=>⟨[(11,P0 0 0),(15,.dat T2 r5.1),(16,O0 1),(17,O0 2),(62,O0 3),(63,.dat T2 (List.length r4.2.2.1:Int)),(64,.dat T2 x.1)],[(0,.cells [(.osl 4)]),(1,.arr 35 T3 r6.2.1),(2,.arr 40 T2 x.2),(3,.arr 3 T2 r4.2.2.1),(4,.arr 42 T0 r6.2.2)],5⟩) (fun z=>[(2,⟨[(11,P0 0 0),(15,.dat T2 r5.1),(17,O0 1)],[(0,.cells [(.osl 2)]),(1,.arr 40 T2 z),(2,.arr 42 T0 r6.2.2)],3⟩)]) (loopF (fun go x=>f33_l4 r4 r6 go x.1 x.2)) fuelN ((0:Int),[]) z7 (AI hz7 (AI (E4 [(0,some 2),(1,some 13),(2,none),(3,some 6),(4,some 10)] (R4 (AI (R4 TV) (R5 TV)))) (AI (fun _ _ h=>lZ h) (AI (fun m=>curI (fun v64=>fun l2 z q=>?_)) ?_))))
  ·have q : f33_l4 r4 r6 (loopF (fun go x=>f33_l4 r4 r6 go x.1 x.2) m) v64 l2 = some z := q
   unfold f33_l4 at q
   refine OL (OL (cI q (fun q=>?_) (fun q=>?_)))
   ·refine OL (OL (gI q (fun q=>?_)))
    refine gI q (fun q=>?_)
    refine OL (gI q (fun q=>?_))
    refine EI ((i64.wrap (v64 + (1:Int))),(l2 ++ ((rd (Ty.z T3) r6.2.1 (rd (0:Int) r4.2.2.1 v64)).2))) (AI q (E4 [(0,some 0),(1,some 1),(2,some 5),(3,some 3),(4,some 4)] (R4 (AI (R4 TV) (R5 TV)))))
   cases sE q
   refine E4 [(0,some 0),(1,some 2),(2,some 4)] (R2 (AI (R2 TV) (R3 TV)))
  refine AI (OL ?_) TV
  obtain ⟨r8,hr8,q⟩ := bE q
  refine OL (AI f58_in (cV (cQ C58 (r6.2.2,r5.1) r8 [(0,some 0),(1,some 2)] false C58_holds hr8 rfl rfl (AI rfl (AI NH (R2 (AJ (AI (R2 TV) (OL (OL (EI (.take 0 (.take 1 (.take 2 (.take 3 (.take 4 (.take 5 (.take 6 (.take 7 .done)))))))) (EI [] (EI [] (AI rfl (gI q (fun q=>?_))))))))))))))))
  cases sE q
  refine AI rfl (E4 [(0,some 1)] (R3 (AJ (AI rfl TV))))
 dsimp only [sumF] at q
 refine AI ?_ TV
 cases sE q
 refine AI rfl (E4 [(0,none)] (R3 (AJ (AI rfl TV))))
theorem C33_holds : HP C33 33 := hH Tryz.f33 (by kernel_rfl) rfl (fun x y q=>C33_vc x.1 x.2.1 x.2.2.1 x.2.2.2 y q)
theorem f33_in : InP 33 := inP (by kernel_rfl)
def f38_l4 (q17_4 : Int×Int×LI) (go : (Int×(List (Int×Int))) → Option (List (Int×Int))) (v55:Int) (l2_2 : List (Int×Int)) : Option (List (Int×Int)) :=
 bif (decide (v55 < (List.length q17_4.2.2:Int))) then
 guardF (0 ≤ v55 ∧ v55 < (List.length q17_4.2.2:Int)) <|
 guardF (0 ≤ v55 ∧ v55 < (List.length l2_2:Int)) <|
 bindF (f84 (rd (0:Int) q17_4.2.2 v55)) fun q15_7 =>
 bindF (f42 ((rd (Ty.z T5) l2_2 v55).1,(rd (Ty.z T5) l2_2 v55).2) (q15_7.1,q15_7.2)) fun q15_8 =>
 guardF (0 ≤ v55 ∧ v55 < (List.length l2_2:Int)) <|
 go ((i64.wrap (v55 + (1:Int))),(List.set l2_2 (Int.toNat v55) (q15_8.1,q15_8.2)))
 else
 some l2_2
def f38_l3 (n : LI×(List (ByteArray×Int×Int))) (kind:Int) (p_ : LI) (l : List (LI×LI×Int)) (go : (Int×(List (Int×Int))×Int×Int) → Option (Sum Int ((List (Int×Int))×Int×Int))) (v36:Int) (l2 : List (Int×Int)) (c3_0:Int) (c3_1:Int) : Option (Sum Int ((List (Int×Int))×Int×Int)) :=
 bif (decide (v36 < (List.length l:Int))) then
 guardF (0 ≤ v36 ∧ v36 < (List.length l:Int)) <|
 bindF (f33 (n.1,n.2) kind p_ ((rd (Ty.z T10) l v36).1,((rd (Ty.z T10) l v36).2).1,((rd (Ty.z T10) l v36).2).2)) fun q17_4 =>
 bif (q17_4.2.1 != (0:Int)) then
 some (Sum.inl q17_4.2.1)
 else
 bindF (loopF (fun go x=>f38_l4 q17_4 go x.1 x.2) fuelN ((0:Int),l2)) fun z5 =>
 bindF (f84 q17_4.1) fun q17_2 =>
 bindF (f42 (c3_0,c3_1) (q17_2.1,q17_2.2)) fun q17_3 =>
 go ((i64.wrap (v36 + (1:Int))),z5,q17_3.1,q17_3.2)
 else
 some (Sum.inr (l2,c3_0,c3_1))
def f38 (n : LI×(List (ByteArray×Int×Int))) (kind:Int) (p_ : LI) (l : List (LI×LI×Int)) : Option (Int×Int×Int×(List (Int×Int))) :=
 bindF (f83 (n.1,n.2)) fun q19_4 =>
 bif (q19_4.2 != (0:Int)) then
 some ((0:Int),(0:Int),q19_4.2,[])
 else
 guardF (0 ≤ q19_4.1 ∧ q19_4.1 ≤ q19_4.1 ∧ Int.toNat q19_4.1 * 16 ≤ 140737488355328) <|
 bindF (loopF (fun go x=>f38_l3 n kind p_ l go x.1 x.2.1 x.2.2.1 x.2.2.2) fuelN ((0:Int),(List.replicate (Int.toNat q19_4.1) (Ty.z T5)),(0:Int),(0:Int))) fun z4 =>
 sumF z4 (fun z4a =>
 some ((0:Int),(0:Int),z4a,[])) (fun z4b =>
 some (z4b.2.1,z4b.2.2,(0:Int),z4b.1))
def C38 : Con where
 X := (LI×(List (ByteArray×Int×Int)))×Int×LI×(List (LI×LI×Int))
 Y := Int×Int×Int×(List (Int×Int))
 e := 0
 args x := [.dat T7 x.1,.dat T2 x.2.1,.dat T1 x.2.2.1,.dat T11 x.2.2.2]
 hin x := []
 F x := f38 x.1 x.2.1 x.2.2.1 x.2.2.2
 ret y := [O0 0,.raw true [(.d T2 y.1),(.d T4 y.2.1)],.dat T2 y.2.2.1]
 hout y := [(0,.arr 79 T5 y.2.2.2)]
 nout := 1
theorem C38_vc (n : LI×(List (ByteArray×Int×Int))) (kind:Int) (p_ : LI) (l : List (LI×LI×Int)) (y : Int×Int×Int×(List (Int×Int))) (q : f38 n kind p_ l = some y) : VC Tryz.f38 C38 (n,kind,p_,l) y := by
 unfold f38 at q
 refine OL (OL ?_)
 obtain ⟨q19_4,hq19_4,q⟩ := bE q
 refine OL (AI f83_in (cV (cQ C83 (n.1,n.2) q19_4 [] false C83_holds hq19_4 rfl rfl (R2 (K0 (OL (OL (cI q (fun q=>?_) (fun q=>?_)))))))))
 ·refine OL (OL ?_)
  cases sE q
  refine AI rfl (E4 [(0,none)] (R2 (AI (R2 TV) (AI rfl TV))))
 refine OL (gI q (fun q=>?_))
 refine OL (OL (OL (OL ?_)))
 obtain ⟨z4,hz4,q⟩ := bE q
 refine lI (Int×(List (Int×Int))×Int×Int) (Sum Int ((List (Int×Int))×Int×Int)) (fun x=>⟨[(1,.dat T2 kind),(2,.dat T1 p_),(4,P0 0 0),(9,P0 1 0),(13,O0 2),(14,P0 3 0),(34,.dat T11 l),(35,.dat T2 (List.length l:Int)),(36,.dat T2 x.1)],[(0,.cells [(.d T1 n.1),(.d T8 n.2)]),(1,.cells [(.d T2 (0:Int)),(.d T4 (0:Int))]),(2,.arr 79 T5 x.2.1),(3,.cells [(.d T2 x.2.2.1),(.d T4 x.2.2.2)])],4⟩) (fun z=>Sum.elim (fun za=>[(1,⟨[(8,.raw false [N0]),(9,P0 0 0),(10,.dat T2 za)],[(0,.cells [(.d T2 (0:Int)),(.d T4 (0:Int))])],1⟩)]) (fun zb=>[(2,⟨[(9,P0 0 0),(13,O0 1),(14,P0 2 0)],[(0,.cells [(.d T2 (0:Int)),(.d T4 (0:Int))]),(1,.arr 79 T5 zb.1),(2,.cells [(.d T2 zb.2.1),(.d T4 zb.2.2)])],3⟩)]) z) (loopF (fun go x=>f38_l3 n kind p_ l go x.1 x.2.1 x.2.2.1 x.2.2.2)) fuelN ((0:Int),(List.replicate (Int.toNat q19_4.1) (Ty.z T5)),(0:Int),(0:Int)) z4 (AI hz4 (AI (E4 I4 (R6 (AI (R4 TV) (R4 TV)))) (AI (fun _ _ h=>lZ h) (AI (fun m=>curI (fun v36=>curI (fun l2=>curI (fun c3_0=>fun c3_1 z q=>?_)))) ?_))))
 ·have q : f38_l3 n kind p_ l (loopF (fun go x=>f38_l3 n kind p_ l go x.1 x.2.1 x.2.2.1 x.2.2.2) m) v36 l2 c3_0 c3_1 = some z := q
  unfold f38_l3 at q
  refine OL (OL (cI q (fun q=>?_) (fun q=>?_)))
  ·refine OL (OL (gI q (fun q=>?_)))
   refine OL (OL ?_)
   obtain ⟨q17_4,hq17_4,q⟩ := bE q
   refine OL (AI f33_in (cV (cQ C33 ((n.1,n.2),kind,p_,((rd (Ty.z T10) l v36).1,((rd (Ty.z T10) l v36).2).1,((rd (Ty.z T10) l v36).2).2)) q17_4 [] false C33_holds hq17_4 rfl rfl (R6 (K0 (OL (OL (cI q (fun q=>?_) (fun q=>?_)))))))))
   ·refine OL (OL ?_)
    cases sE q
    refine E4 [(0,some 1)] (R2 (AI (R2 TV) (AI rfl TV)))
   refine OL (OL ?_)
   obtain ⟨z5,hz5,q⟩ := bE q
   refine lI (Int×(List (Int×Int))) (List (Int×Int)) (fun x=>⟨[(1,.dat T2 kind),(2,.dat T1 p_),(4,P0 0 0),(9,P0 1 0),(13,O0 2),(14,P0 3 0),(18,.dat T2 q17_4.1),(34,.dat T11 l),(35,.dat T2 (List.length l:Int)),(36,.dat T2 v36),(53,O0 4),(54,.dat T2 (List.length q17_4.2.2:Int)),(55,.dat T2 x.1)],[(0,.cells [(.d T1 n.1),(.d T8 n.2)]),(1,.cells [(.d T2 (0:Int)),(.d T4 (0:Int))]),(2,.arr 79 T5 x.2),(3,.cells [(.d T2 c3_0),(.d T4 c3_1)]),(4,.arr 40 T2 q17_4.2.2)],5⟩) (fun z=>[(4,⟨[(1,.dat T2 kind),(2,.dat T1 p_),(4,P0 0 0),(9,P0 1 0),(13,O0 2),(14,P0 3 0),(18,.dat T2 q17_4.1),(34,.dat T11 l),(35,.dat T2 (List.length l:Int)),(36,.dat T2 v36)],[(0,.cells [(.d T1 n.1),(.d T8 n.2)]),(1,.cells [(.d T2 (0:Int)),(.d T4 (0:Int))]),(2,.arr 79 T5 z),(3,.cells [(.d T2 c3_0),(.d T4 c3_1)])],4⟩)]) (loopF (fun go x=>f38_l4 q17_4 go x.1 x.2)) fuelN ((0:Int),l2) z5 (AI hz5 (AI (E4 [(0,some 0),(1,some 1),(2,some 2),(3,some 3),(4,some 5)] (R9 (AI (R5 TV) (R5 TV)))) (AI (fun _ _ h=>lZ h) (AI (fun m=>curI (fun v55=>fun l2_2 z q=>?_)) ?_))))
   ·have q : f38_l4 q17_4 (loopF (fun go x=>f38_l4 q17_4 go x.1 x.2) m) v55 l2_2 = some z := q
    unfold f38_l4 at q
    refine OL (OL (cI q (fun q=>?_) (fun q=>?_)))
    ·refine OL (OL (gI q (fun q=>?_)))
     refine EI (.take 0 (.take 1 (.take 2 (.take 3 (.take 4 (.take 5 (.take 6 (.alt 7 (.alt 8 (.take 9 (.alt 10 .done .done)) .done) .done)))))))) (EI [(10,[2])] (EI [] (AI rfl (gI q (fun q=>?_)))))
     refine AI TV ?_
     obtain ⟨q15_7,hq15_7,q⟩ := bE q
     refine OL (AI f84_in (cV (cQ C84 (rd (0:Int) q17_4.2.2 v55) q15_7 [] false C84_holds hq15_7 rfl rfl (AI rfl (K0 (AI TV ?_))))))
     obtain ⟨q15_8,hq15_8,q⟩ := bE q
     refine OL (AI f42_in (cV (cQ C42 (((rd (Ty.z T5) l2_2 v55).1,(rd (Ty.z T5) l2_2 v55).2),(q15_7.1,q15_7.2)) q15_8 [] false C42_holds hq15_8 rfl rfl (R4 (K0 (gI q (fun q=>?_)))))))
     refine AI TV (OL (EI ((i64.wrap (v55 + (1:Int))),(List.set l2_2 (Int.toNat v55) (q15_8.1,q15_8.2))) (AI q (E4 I5 (R9 (AI (R5 TV) (R5 TV)))))))
    cases sE q
    refine E4 I4 (R7 (AI (R4 TV) (R4 TV)))
   refine AI (EI (.take 0 (.take 1 (.alt 2 (.alt 3 (.alt 4 .done .done) .done) .done))) (EI [(4,[3])] (EI [] (AI rfl (AI TV ?_))))) TV
   obtain ⟨q17_2,hq17_2,q⟩ := bE q
   refine OL (AI f84_in (cV (cQ C84 q17_4.1 q17_2 [] false C84_holds hq17_2 rfl rfl (AI rfl (K0 (AI TV ?_))))))
   obtain ⟨q17_3,hq17_3,q⟩ := bE q
   refine OL (AI f42_in (cV (cQ C42 ((c3_0,c3_1),(q17_2.1,q17_2.2)) q17_3 [] false C42_holds hq17_3 rfl rfl (R4 (K0 (AI TV (OL (EI ((i64.wrap (v36 + (1:Int))),z5,q17_3.1,q17_3.2) (AI q (E4 I4 (R6 (AI (R4 TV) (R4 TV)))))))))))))
  cases sE q
  refine E4 [(0,some 1),(1,some 2),(2,some 3)] (AI rfl (AI (R3 TV) (R3 TV)))
 rcases z4 with z4a | z4b
 ·dsimp only [sumF] at q
  refine AI ?_ TV
  cases sE q
  refine AI rfl (E4 [(0,none)] (R2 (AI (R2 TV) (AI rfl TV))))
 dsimp only [sumF] at q
 refine AI (OL (EI (.take 0 (.take 1 (.take 2 (.alt 3 (.take 4 .done) .done)))) (EI [] (EI [] (AI rfl (AI TV (OL ?_))))))) TV
 cases sE q
 refine AI rfl (E4 [(0,some 1)] (R2 (AI (R2 TV) (AI rfl TV))))
theorem C38_holds : HP C38 38 := hH Tryz.f38 (by kernel_rfl) rfl (fun x y q=>C38_vc x.1 x.2.1 x.2.2.1 x.2.2.2 y q)
theorem f38_in : InP 38 := inP (by kernel_rfl)
def f37_l1 (a : LI) (b : LI) (go : Int → Option (Sum Unit Unit)) (i:Int) : Option (Sum Unit Unit) :=
 bif (decide (i < (List.length a:Int))) then
 guardF (0 ≤ i ∧ i < (List.length a:Int)) <|
 guardF (0 ≤ i ∧ i < (List.length b:Int)) <|
 bif ((rd (0:Int) a i) != (rd (0:Int) b i)) then
 some (Sum.inl ())
 else
 go (i64.wrap (i + (1:Int)))
 else
 some (Sum.inr ())
def f37 (a : LI) (b : LI) : Option Bool :=
 bif ((List.length a:Int) != (List.length b:Int)) then
 some false
 else
 bindF (loopF (fun go x=>f37_l1 a b go x) fuelN (0:Int)) fun z1 =>
 sumF z1 (fun z1a =>
 some false) (fun z1b =>
 some true)
def C37 : Con where
 X := LI×LI
 Y := Bool
 e := 0
 args x := [.dat T1 x.1,.dat T1 x.2]
 hin x := []
 F x := f37 x.1 x.2
 ret y := [.dat .bool y]
 hout y := []
 nout := 0
theorem C37_vc (a : LI) (b : LI) (y : Bool) (q : f37 a b = some y) : VC Tryz.f37 C37 (a,b) y := by
 unfold f37 at q
 refine OL (OL (OL (cI q (fun q=>?_) (fun q=>?_))))
 ·cases sE q
  refine OL (AI rfl (E4 [] (R2 (AI TV TV))))
 refine OL (OL ?_)
 obtain ⟨z1,hz1,q⟩ := bE q
 refine lI Int (Sum Unit Unit) (fun x=>⟨[(0,.dat T1 a),(1,.dat T1 b),(5,.dat T2 x)],[],0⟩) (fun z=>Sum.elim (fun za=>[(1,⟨[(4,.dat .bool false)],[],0⟩)]) (fun zb=>[(2,⟨[],[],0⟩)]) z) (loopF (fun go x=>f37_l1 a b go x)) fuelN (0:Int) z1 (AI hz1 (AI (E4 [] (R4 (AI TV TV))) (AI (fun _ _ h=>lZ h) (AI (fun m=>fun i z q=>?_) ?_))))
 ·have q : f37_l1 a b (loopF (fun go x=>f37_l1 a b go x) m) i = some z := q
  unfold f37_l1 at q
  refine OL (OL (cI q (fun q=>?_) (fun q=>?_)))
  ·refine OL (OL (EI (.take 0 (.take 1 (.take 2 (.take 3 (.take 4 (.take 5 (.take 6 (.take 7 (.take 8 .done))))))))) (EI [] (EI [] (AI rfl (gI q (fun q=>?_)))))))
   refine gI q (fun q=>?_)
   refine cI q (fun q=>?_) (fun q=>?_)
   ·cases sE q
    refine OL (E4 [] (R2 (AI TV TV)))
   refine EI (i64.wrap (i + (1:Int))) (AI q (E4 [] (R4 (AI TV TV))))
  cases sE q
  refine E4 [] (AI rfl (AI TV TV))
 rcases z1 with z1a | z1b
 ·dsimp only [sumF] at q
  refine AI ?_ TV
  cases sE q
  refine AI rfl (E4 [] (R2 (AI TV TV)))
 dsimp only [sumF] at q
 refine AI (OL ?_) TV
 cases sE q
 refine AI rfl (E4 [] (R2 (AI TV TV)))
theorem C37_holds : HP C37 37 := hH Tryz.f37 (by kernel_rfl) rfl (fun x y q=>C37_vc x.1 x.2 y q)
theorem f37_in : InP 37 := inP (by kernel_rfl)
def f29 : Option Bool :=
 bindF (f78) fun r1 =>
 bindF (f38 ([(1:Int)],[((ByteArray.mk #[100,101,110,115,101]),(1:Int),(0:Int))]) (1:Int) ([(0:Int),(0:Int)]) ([])) fun r2 =>
 bindF (f78) fun r3 =>
 bindF (f33 ([(1:Int)],[((ByteArray.mk #[100,101,110,115,101]),(1:Int),(0:Int))]) (1:Int) ([(0:Int),(0:Int)]) ([(8589934592:Int)],[(4294967296:Int)],(0:Int))) fun r4 =>
 bif (r2.2.2.1 == (0:Int)) then
 bif ((List.length r2.2.2.2:Int) == (2:Int)) then
 guardF (0 ≤ (0:Int) ∧ (0:Int) < (List.length r2.2.2.2:Int)) <|
 bif (((rd (Ty.z T5) r2.2.2.2 (0:Int)).1) == (0:Int) && ((rd (Ty.z T5) r2.2.2.2 (0:Int)).2) == (0:Int)) then
 bif (r4.2.1 == (0:Int)) then
 bif (r4.1 == (4294967296:Int)) then
 bindF (f37 r4.2.2 ([(-17179869184:Int),(-8589934592:Int)])) fun r5 =>
 some r5
 else
 some false
 else
 some false
 else
 some false
 else
 some false
 else
 some false
def C29 : Con where
 X := Unit
 Y := Bool
 e := 0
 args x := []
 hin x := []
 F x := f29
 ret y := [.dat .bool y]
 hout y := []
 nout := 0
theorem C29_vc (y : Bool) (q : f29 = some y) : VC Tryz.f29 C29 () y := by
 unfold f29 at q
 refine OL (OL ?_)
 obtain ⟨r1,hr1,q⟩ := bE q
 refine OL (AI f78_in (cV (cQ C78 () r1 [] false C78_holds hr1 rfl rfl (K0 (OL ?_)))))
 obtain ⟨r2,hr2,q⟩ := bE q
 refine OL (AI f38_in (cV (cQ C38 (([(1:Int)],[((ByteArray.mk #[100,101,110,115,101]),(1:Int),(0:Int))]),(1:Int),[(0:Int),(0:Int)],[]) r2 [] true C38_holds hr2 rfl rfl (R5 (AI (fun _=>rfl) (R2 (AI TV (AI TV (OL (OL ?_))))))))))
 obtain ⟨r3,hr3,q⟩ := bE q
 refine OL (AI f78_in (cV (cQ C78 () r3 [] false C78_holds hr3 rfl rfl (K0 (OL (OL (OL ?_)))))))
 obtain ⟨r4,hr4,q⟩ := bE q
 refine OL (AI f33_in (cV (cQ C33 (([(1:Int)],[((ByteArray.mk #[100,101,110,115,101]),(1:Int),(0:Int))]),(1:Int),[(0:Int),(0:Int)],([(8589934592:Int)],[(4294967296:Int)],(0:Int))) r4 [] true C33_holds hr4 rfl rfl (R6 (AI (fun _=>rfl) (R2 (AI TV (AI TV (OL (cI q (fun q=>?_) (fun q=>?_)))))))))))
 ·refine gX (gX (cT (cI q (fun q=>?_) (fun q=>?_))))
  ·refine gX (gI q (fun q=>?_))
   refine gX (gX (gX (AI ⟨by kernel_rfl,by kernel_rfl,by decide,by decide⟩ ?_)))
   refine cT (cI q (fun q=>?_) (fun q=>?_))
   ·refine gX (cT (cI q (fun q=>?_) (fun q=>?_)))
    ·refine gX (cT (cI q (fun q=>?_) (fun q=>?_)))
     ·refine gX (OL (gX ?_))
      obtain ⟨r5,hr5,q⟩ := bE q
      have hr5 : C37.F (r4.2.2,[(-17179869184:Int),(-8589934592:Int)]) = some r5 := hr5
      refine OL (AI f37_in (cV (cQ C37 _ r5 [] true C37_holds hr5 rfl rfl (R2 (AI (fun _=>rfl) (R2 (AI TV (AI TV (cT ?_)))))))))
      cases sE q
      refine AI rfl (E4 [] (R2 (AI TV TV)))
     refine gM (gM (cF ?_))
     cases sE q
     refine AI rfl (E4 [] (R2 (AI TV TV)))
    refine gM (cF (gM (gM (gM (cF ?_)))))
    cases sE q
    refine AI rfl (E4 [] (R2 (AI TV TV)))
   refine gM (cF (gM (gM (cF (gM (gM (gM (cF ?_))))))))
   cases sE q
   refine AI rfl (E4 [] (R2 (AI TV TV)))
  refine gM (gM (gM (gM (cF (gM (gM (cF (gM (gM (cF (gM (gM (gM (cF ?_))))))))))))))
  cases sE q
  refine AI rfl (E4 [] (R2 (AI TV TV)))
 refine gM (gM (cF (gM (gM (gM (gM (gM (cF (gM (gM (cF (gM (gM (cF (gM (gM (gM (cF ?_))))))))))))))))))
 cases sE q
 refine AI rfl (E4 [] (R2 (AI TV TV)))
theorem C29_holds : HP C29 29 := hH Tryz.f29 (by kernel_rfl) rfl (fun x y q=>C29_vc y q)
theorem f29_in : InP 29 := inP (by kernel_rfl)
def f35_l1 (n : LI×(List (ByteArray×Int×Int))) (go : (Int×(List (ByteArray×Int×Int))) → Option (List (ByteArray×Int×Int))) (i:Int) (l3 : List (ByteArray×Int×Int)) : Option (List (ByteArray×Int×Int)) :=
 bif (decide (i < (List.length n.2:Int))) then
 guardF (0 ≤ i ∧ i < (List.length n.2:Int)) <|
 guardF (0 ≤ i ∧ i < (List.length n.2:Int)) <|
 guardF (0 ≤ i ∧ i < (List.length n.2:Int)) <|
 guardF ((List.length l3 + List.length ([((rd (Ty.z T6) n.2 i).1,((rd (Ty.z T6) n.2 i).2).1,((rd (Ty.z T6) n.2 i).2).2)])) * 32 ≤ 140737488355328) <|
 go ((i64.wrap (i + (1:Int))),(l3 ++ ([((rd (Ty.z T6) n.2 i).1,((rd (Ty.z T6) n.2 i).2).1,((rd (Ty.z T6) n.2 i).2).2)])))
 else
 some l3
def f35 (n : LI×(List (ByteArray×Int×Int))) : Option (LI×(List (ByteArray×Int×Int))) :=
 bindF (loopF (fun go x=>f35_l1 n go x.1 x.2) fuelN ((0:Int),[])) fun z1 =>
 some (n.1,z1)
def C35 : Con where
 X := LI×(List (ByteArray×Int×Int))
 Y := LI×(List (ByteArray×Int×Int))
 e := 0
 args x := [.dat T7 x]
 hin x := []
 F x := f35 x
 ret y := [.raw true [(.d T1 y.1),(.osl 0)]]
 hout y := [(0,.arr 158 T6 y.2)]
 nout := 1
theorem C35_vc (n : LI×(List (ByteArray×Int×Int))) (y : LI×(List (ByteArray×Int×Int))) (q : f35 n = some y) : VC Tryz.f35 C35 n y := by
 unfold f35 at q
 refine OL (OL (OL (OL (OL ?_))))
 obtain ⟨z1,hz1,q⟩ := bE q
 refine lI (Int×(List (ByteArray×Int×Int))) (List (ByteArray×Int×Int)) (fun x=>⟨[(1,P0 0 0),(2,P0 1 0),(3,P0 2 0),(4,.dat T2 x.1)],[(0,.cells [(.d T1 n.1),(.d T8 n.2)]),(1,.cells [N0,N0]),(2,.cells [(.d T1 n.1),(.osl 3)]),(3,.arr 158 T6 x.2)],4⟩) (fun z=>[(2,⟨[(2,P0 0 0),(3,P0 1 0)],[(0,.cells [N0,N0]),(1,.cells [(.d T1 n.1),(.osl 2)]),(2,.arr 158 T6 z)],3⟩)]) (loopF (fun go x=>f35_l1 n go x.1 x.2)) fuelN ((0:Int),[]) z1 (AI hz1 (AI (E4 [(0,some 0),(1,some 1),(2,some 2),(3,none)] (R2 (AI (R3 TV) (R4 TV)))) (AI (fun _ _ h=>lZ h) (AI (fun m=>curI (fun i=>fun l3 z q=>?_)) ?_))))
 ·have q : f35_l1 n (loopF (fun go x=>f35_l1 n go x.1 x.2) m) i l3 = some z := q
  unfold f35_l1 at q
  refine OL (OL (cI q (fun q=>?_) (fun q=>?_)))
  ·refine OL (EI (.take 0 (.take 1 (.take 2 (.take 3 (.take 4 (.take 5 (.take 6 (.take 7 (.take 8 (.take 9 (.take 10 (.take 11 (.take 12 (.take 13 (.take 14 (.take 15 (.take 16 (.take 17 (.take 18 (.take 19 (.take 20 (.alt 21 (.alt 22 (.take 23 (.alt 24 .done .done)) .done) .done)))))))))))))))))))))) (EI [(24,[2])] (EI [] (AI rfl (gI q (fun q=>?_))))))
   refine gI q (fun q=>?_)
   refine gI q (fun q=>?_)
   refine AI TV (OL (AI TV (OL (gI q (fun q=>?_)))))
   refine AI TV (OL (EI ((i64.wrap (i + (1:Int))),(l3 ++ ([((rd (Ty.z T6) n.2 i).1,((rd (Ty.z T6) n.2 i).2).1,((rd (Ty.z T6) n.2 i).2).2)]))) (AI q (E4 [(0,some 0),(1,some 1),(2,some 2),(3,some 5)] (R2 (AI (R3 TV) (R4 TV)))))))
  cases sE q
  refine E4 [(0,some 1),(1,some 2),(2,some 3)] (AI rfl (AI (R2 TV) (R3 TV)))
 refine AI (OL (OL ?_)) TV
 cases sE q
 refine AI rfl (E4 [(0,some 2)] (AI rfl (AJ (AI rfl TV))))
theorem C35_holds : HP C35 35 := hH Tryz.f35 (by kernel_rfl) rfl (fun x y q=>C35_vc x y q)
theorem f35_in : InP 35 := inP (by kernel_rfl)
def f185 (v:Int) (lo:Int) (hi:Int) : Option Bool :=
 bif (decide (v ≥ lo)) then
 some (decide (v ≤ hi))
 else
 some false
def C185 : Con where
 X := Int×Int×Int
 Y := Bool
 e := 0
 args x := [.dat T2 x.1,.dat T2 x.2.1,.dat T2 x.2.2]
 hin x := []
 F x := f185 x.1 x.2.1 x.2.2
 ret y := [.dat .bool y]
 hout y := []
 nout := 0
theorem C185_vc (v:Int) (lo:Int) (hi:Int) (y : Bool) (q : f185 v lo hi = some y) : VC Tryz.f185 C185 (v,lo,hi) y := by
 unfold f185 at q
 refine OL (OL (cI q (fun q=>?_) (fun q=>?_)))
 ·refine gX (gX (cT ?_))
  cases sE q
  refine AI rfl (E4 [] (R2 (AI TV TV)))
 refine gM (gM (cF ?_))
 cases sE q
 refine AI rfl (E4 [] (R2 (AI TV TV)))
theorem C185_holds : HP C185 185 := hH Tryz.f185 (by kernel_rfl) rfl (fun x y q=>C185_vc x.1 x.2.1 x.2.2 y q)
theorem f185_in : InP 185 := inP (by kernel_rfl)
def f132_j1 (n : LI×(List (ByteArray×Int×Int))) : Option (Sum Unit Unit) :=
 bif ((List.length n.1:Int) == (1:Int)) then
 guardF (0 ≤ (0:Int) ∧ (0:Int) < (List.length n.1:Int)) <|
 bindF (f185 (rd (0:Int) n.1 (0:Int)) (1:Int) (1024:Int)) fun r5 =>
 bif (!r5) then
 some (Sum.inr ())
 else
 some (Sum.inl ())
 else
 bif ((List.length n.1:Int) == (2:Int)) then
 guardF (0 ≤ (0:Int) ∧ (0:Int) < (List.length n.1:Int)) <|
 bindF (f185 (rd (0:Int) n.1 (0:Int)) (1:Int) (64:Int)) fun r6 =>
 bif (!r6) then
 some (Sum.inr ())
 else
 guardF (0 ≤ (1:Int) ∧ (1:Int) < (List.length n.1:Int)) <|
 bindF (f185 (rd (0:Int) n.1 (1:Int)) (1:Int) (64:Int)) fun r7 =>
 bif (!r7) then
 some (Sum.inr ())
 else
 some (Sum.inl ())
 else
 some (Sum.inr ())
def f132_j5 (n : LI×(List (ByteArray×Int×Int))) (i:Int) : Option Bool :=
 bif (ByteArray.toList ((rd (Ty.z T6) n.2 i).1) == ByteArray.toList (ByteArray.mk #[100,101,110,115,101])) then
 bindF (f185 (((rd (Ty.z T6) n.2 i).2).1) (1:Int) (256:Int)) fun r37 =>
 bif r37 then
 some ((((rd (Ty.z T6) n.2 i).2).2) == (0:Int))
 else
 some false
 else
 bif (ByteArray.toList ((rd (Ty.z T6) n.2 i).1) == ByteArray.toList (ByteArray.mk #[99,111,110,118])) then
 bindF (f185 (((rd (Ty.z T6) n.2 i).2).1) (1:Int) (16:Int)) fun r38 =>
 bif r38 then
 bindF (f185 (((rd (Ty.z T6) n.2 i).2).2) (1:Int) (16:Int)) fun r39 =>
 some r39
 else
 some false
 else
 bif (ByteArray.toList ((rd (Ty.z T6) n.2 i).1) == ByteArray.toList (ByteArray.mk #[112,111,111,108])) then
 bindF (f185 (((rd (Ty.z T6) n.2 i).2).1) (1:Int) (16:Int)) fun r40 =>
 bif r40 then
 some ((((rd (Ty.z T6) n.2 i).2).2) == (0:Int))
 else
 some false
 else
 bif (ByteArray.toList ((rd (Ty.z T6) n.2 i).1) == ByteArray.toList (ByteArray.mk #[98,101,110,100])) then
 bindF (f185 (((rd (Ty.z T6) n.2 i).2).1) (1:Int) (5:Int)) fun r41 =>
 bif r41 then
 some ((((rd (Ty.z T6) n.2 i).2).2) == (0:Int))
 else
 some false
 else
 bif (ByteArray.toList ((rd (Ty.z T6) n.2 i).1) == ByteArray.toList (ByteArray.mk #[115,107,105,112])) then
 bif ((((rd (Ty.z T6) n.2 i).2).1) == (0:Int)) then
 some ((((rd (Ty.z T6) n.2 i).2).2) == (0:Int))
 else
 some false
 else
 some false
def f132_l4 (n : LI×(List (ByteArray×Int×Int))) (go : Int → Option (Sum Unit Unit)) (i:Int) : Option (Sum Unit Unit) :=
 bif (decide (i < (List.length n.2:Int))) then
 guardF (0 ≤ i ∧ i < (List.length n.2:Int)) <|
 bindF (f132_j5 n i) fun z36 =>
 bif (!z36) then
 some (Sum.inl ())
 else
 go (i64.wrap (i + (1:Int)))
 else
 some (Sum.inr ())
def f132 (n : LI×(List (ByteArray×Int×Int))) : Option Bool :=
 bindF (f132_j1 n) fun z4 =>
 sumF z4 (fun z4a =>
 bindF (loopF (fun go x=>f132_l4 n go x) fuelN (0:Int)) fun z30 =>
 sumF z30 (fun z30a =>
 some false) (fun z30b =>
 some true)) (fun z4b =>
 some false)
def C132 : Con where
 X := LI×(List (ByteArray×Int×Int))
 Y := Bool
 e := 0
 args x := [.dat T7 x]
 hin x := []
 F x := f132 x
 ret y := [.dat .bool y]
 hout y := []
 nout := 0
theorem C132_vc (n : LI×(List (ByteArray×Int×Int))) (y : Bool) (q : f132 n = some y) : VC Tryz.f132 C132 n y := by
 unfold f132 at q
 refine OL ?_
 obtain ⟨z4,hz4,q⟩ := bE q
 refine OQ ⟨Sum.elim (fun z4a=>[(0,⟨[(1,P0 0 0)],[(0,.cells [(.d T1 n.1),(.d T8 n.2)])],1⟩)]) (fun z4b=>[(1,⟨[(2,.dat .bool false)],[],0⟩)]) z4,?_,?_⟩
 ·have q := hz4
  clear hz4
  unfold f132_j1 at q
  refine OL (OL (cI q (fun q=>?_) (fun q=>?_)))
  ·refine OL (gI q (fun q=>?_))
   obtain ⟨r5,hr5,q⟩ := bE q
   refine OL (AI f185_in (cV (cQ C185 ((rd (0:Int) n.1 (0:Int)),(1:Int),(1024:Int)) r5 [] false C185_holds hr5 rfl rfl (R3 (K0 (cI q (fun q=>?_) (fun q=>?_)))))))
   ·cases sE q
    refine OL (E4 [] (R2 (AI TV TV)))
   cases sE q
   refine E4 [(0,some 0)] (AI rfl (AJ (AI rfl TV)))
  refine OL (cI q (fun q=>?_) (fun q=>?_))
  ·refine OL (gI q (fun q=>?_))
   obtain ⟨r6,hr6,q⟩ := bE q
   refine OL (AI f185_in (cV (cQ C185 ((rd (0:Int) n.1 (0:Int)),(1:Int),(64:Int)) r6 [] false C185_holds hr6 rfl rfl (R3 (K0 (cN q (fun q=>?_) (fun q=>?_)))))))
   ·refine gY (gY (gI q (fun q=>?_)))
    refine gY (gY ?_)
    obtain ⟨r7,hr7,q⟩ := bE q
    refine OL (AI f185_in (cV (cQ C185 ((rd (0:Int) n.1 (1:Int)),(1:Int),(64:Int)) r7 [] false C185_holds hr7 rfl rfl (R3 (K0 (gY (cF (cI q (fun q=>?_) (fun q=>?_)))))))))
    ·cases sE q
     refine OL (E4 [] (R2 (AI TV TV)))
    cases sE q
    refine E4 [(0,some 0)] (AI rfl (AJ (AI rfl TV)))
   refine gN (gN (gN (gN (gN (cT (cT (OL ?_)))))))
   cases sE q
   refine E4 [] (R2 (AI TV TV))
  cases sE q
  refine OL (E4 [] (R2 (AI TV TV)))
 rcases z4 with z4a | z4b
 ·dsimp only [sumF] at q
  refine AI (OL (OL ?_)) TV
  obtain ⟨z30,hz30,q⟩ := bE q
  refine lI Int (Sum Unit Unit) (fun x=>⟨[(1,P0 0 0),(3,.dat T2 x)],[(0,.cells [(.d T1 n.1),(.d T8 n.2)])],1⟩) (fun z=>Sum.elim (fun za=>[(1,⟨[(2,.dat .bool false)],[],0⟩)]) (fun zb=>[(3,⟨[],[],0⟩)]) z) (loopF (fun go x=>f132_l4 n go x)) fuelN (0:Int) z30 (AI hz30 (AI (E4 [(0,some 0)] (R2 (AJ (AI rfl TV)))) (AI (fun _ _ h=>lZ h) (AI (fun m=>fun i z q=>?_) ?_))))
  ·have q : f132_l4 n (loopF (fun go x=>f132_l4 n go x) m) i = some z := q
   unfold f132_l4 at q
   refine OL (OL (cI q (fun q=>?_) (fun q=>?_)))
   ·refine OL (OL (gI q (fun q=>?_)))
    refine OL (OL ?_)
    obtain ⟨z36,hz36,q⟩ := bE q
    refine OQ ⟨[(0,⟨[(1,P0 0 0),(3,.dat T2 i),(5,.dat .bool z36)],[(0,.cells [(.d T1 n.1),(.d T8 n.2)])],1⟩)],?_,?_⟩
    ·have q := hz36
     clear hz36
     unfold f132_j5 at q
     refine OL (OL (cI q (fun q=>?_) (fun q=>?_)))
     ·obtain ⟨r37,hr37,q⟩ := bE q
      refine OL (AI f185_in (cV (cQ C185 (((rd (Ty.z T6) n.2 i).2).1,(1:Int),(256:Int)) r37 [] false C185_holds hr37 rfl rfl (R3 (K0 (cI q (fun q=>?_) (fun q=>?_)))))))
      ·refine gX (gX (cT ?_))
       cases sE q
       refine E4 [(0,some 0)] (R3 (AJ (AI rfl TV)))
      refine gM (gM (cF ?_))
      cases sE q
      refine E4 [(0,some 0)] (R3 (AJ (AI rfl TV)))
     refine OL (cI q (fun q=>?_) (fun q=>?_))
     ·obtain ⟨r38,hr38,q⟩ := bE q
      refine OL (AI f185_in (cV (cQ C185 (((rd (Ty.z T6) n.2 i).2).1,(1:Int),(16:Int)) r38 [] false C185_holds hr38 rfl rfl (R3 (K0 (cI q (fun q=>?_) (fun q=>?_)))))))
      ·refine gX (gX ?_)
       obtain ⟨r39,hr39,q⟩ := bE q
       refine OL (AI f185_in (cV (cQ C185 (((rd (Ty.z T6) n.2 i).2).2,(1:Int),(16:Int)) r39 [] false C185_holds hr39 rfl rfl (R3 (K0 (cT ?_))))))
       cases sE q
       refine E4 [(0,some 0)] (R3 (AJ (AI rfl TV)))
      refine gM (gM (cF ?_))
      cases sE q
      refine E4 [(0,some 0)] (R3 (AJ (AI rfl TV)))
     refine OL (cI q (fun q=>?_) (fun q=>?_))
     ·obtain ⟨r40,hr40,q⟩ := bE q
      refine OL (AI f185_in (cV (cQ C185 (((rd (Ty.z T6) n.2 i).2).1,(1:Int),(16:Int)) r40 [] false C185_holds hr40 rfl rfl (R3 (K0 (cI q (fun q=>?_) (fun q=>?_)))))))
      ·refine gX (gX (cT ?_))
       cases sE q
       refine E4 [(0,some 0)] (R3 (AJ (AI rfl TV)))
      refine gM (gM (cF ?_))
      cases sE q
      refine E4 [(0,some 0)] (R3 (AJ (AI rfl TV)))
     refine OL (cI q (fun q=>?_) (fun q=>?_))
     ·obtain ⟨r41,hr41,q⟩ := bE q
      refine OL (AI f185_in (cV (cQ C185 (((rd (Ty.z T6) n.2 i).2).1,(1:Int),(5:Int)) r41 [] false C185_holds hr41 rfl rfl (R3 (K0 (cI q (fun q=>?_) (fun q=>?_)))))))
      ·refine gX (gX (cT ?_))
       cases sE q
       refine E4 [(0,some 0)] (R3 (AJ (AI rfl TV)))
      refine gM (gM (cF ?_))
      cases sE q
      refine E4 [(0,some 0)] (R3 (AJ (AI rfl TV)))
     refine OL (cI q (fun q=>?_) (fun q=>?_))
     ·refine cI q (fun q=>?_) (fun q=>?_)
      ·refine gX (gX (cT ?_))
       cases sE q
       refine E4 [(0,some 0)] (R3 (AJ (AI rfl TV)))
      refine gM (gM (cF ?_))
      cases sE q
      refine E4 [(0,some 0)] (R3 (AJ (AI rfl TV)))
     cases sE q
     refine E4 [(0,some 0)] (R3 (AJ (AI rfl TV)))
    refine AI (OL (cI q (fun q=>?_) (fun q=>?_))) TV
    ·cases sE q
     refine OL (E4 [] (R2 (AI TV TV)))
    refine EI (i64.wrap (i + (1:Int))) (AI q (E4 [(0,some 0)] (R2 (AJ (AI rfl TV)))))
   cases sE q
   refine E4 [] (AI rfl (AI TV TV))
  rcases z30 with z30a | z30b
  ·dsimp only [sumF] at q
   refine AI ?_ TV
   cases sE q
   refine AI rfl (E4 [] (R2 (AI TV TV)))
  dsimp only [sumF] at q
  refine AI (OL ?_) TV
  cases sE q
  refine AI rfl (E4 [] (R2 (AI TV TV)))
 dsimp only [sumF] at q
 refine AI ?_ TV
 cases sE q
 refine AI rfl (E4 [] (R2 (AI TV TV)))
theorem C132_holds : HP C132 132 := hH Tryz.f132 (by kernel_rfl) rfl (fun x y q=>C132_vc x y q)
theorem f132_in : InP 132 := inP (by kernel_rfl)
def f133_l1 (d : LI) (go : (Int×Int) → Option Int) (n:Int) (i:Int) : Option Int :=
 bif (decide (i < (List.length d:Int))) then
 guardF (0 ≤ i ∧ i < (List.length d:Int)) <|
 go ((i64.wrap (n * (rd (0:Int) d i))),(i64.wrap (i + (1:Int))))
 else
 some n
def f133 (d : LI) : Option Int :=
 bindF (loopF (fun go x=>f133_l1 d go x.1 x.2) fuelN ((1:Int),(0:Int))) fun z1 =>
 some z1
def C133 : Con where
 X := LI
 Y := Int
 e := 0
 args x := [.dat T1 x]
 hin x := []
 F x := f133 x
 ret y := [.dat T2 y]
 hout y := []
 nout := 0
theorem C133_vc (d : LI) (y:Int) (q : f133 d = some y) : VC Tryz.f133 C133 d y := by
 unfold f133 at q
 refine OL (OL (OL (OL ?_)))
 obtain ⟨z1,hz1,q⟩ := bE q
 refine lI (Int×Int) Int (fun x=>⟨[(0,.dat T1 d),(3,.dat T2 x.1),(4,.dat T2 x.2)],[],0⟩) (fun z=>[(2,⟨[(3,.dat T2 z)],[],0⟩)]) (loopF (fun go x=>f133_l1 d go x.1 x.2)) fuelN ((1:Int),(0:Int)) z1 (AI hz1 (AI (E4 [] (R4 (AI TV TV))) (AI (fun _ _ h=>lZ h) (AI (fun m=>curI (fun n=>fun i z q=>?_)) ?_))))
 ·have q : f133_l1 d (loopF (fun go x=>f133_l1 d go x.1 x.2) m) n i = some z := q
  unfold f133_l1 at q
  refine OL (OL (cI q (fun q=>?_) (fun q=>?_)))
  ·refine OL (gI q (fun q=>?_))
   refine EI ((i64.wrap (n * (rd (0:Int) d i))),(i64.wrap (i + (1:Int)))) (AI q (E4 [] (R4 (AI TV TV))))
  cases sE q
  refine E4 [] (R2 (AI TV TV))
 refine AI (OL ?_) TV
 cases sE q
 refine AI rfl (E4 [] (R2 (AI TV TV)))
theorem C133_holds : HP C133 133 := hH Tryz.f133 (by kernel_rfl) rfl (fun x y q=>C133_vc x y q)
theorem f133_in : InP 133 := inP (by kernel_rfl)
end Go.Proofs
