import Derived.Test.YtgkmdgdkmgkelaaGreatFc
set_option linter.unusedVariables false
set_option maxRecDepth 100000
set_option maxHeartbeats 8000000
namespace Go.Proofs
open Go.AM
open IntKind (i64 u64 i32 u32 i16 u16 i8 u8)
def f9 : Option Unit :=
 some ()
def C9 : Con where
 X := Unit
 Y := Unit
 e := 0
 args x := []
 hin x := []
 F x := f9
 ret y := [.raw true [(.osl 0),(.osl 1)]]
 hout y := [(0,.arr 3 T0 ([(1:Int)])),(1,.arr 50 T1 ([((ByteArray.mk #[100,101,110,115,101]),(1:Int),(0:Int))]))]
 nout := 2
theorem C9_vc (y : Unit) (hF : f9 = some y) : VC Tryz.f9 C9 () y := by
 unfold f9 at hF
 refine OL (OL (OL (OL (OL ?_))))
 have hy := someE hF
 subst hy
 refine AI rfl (E4 [(0,some 1),(1,some 2)] (AI rfl (AI (AI rfl TV) (R2 TV))))
theorem C9_holds : C9.Holds Tryz.prog 9 := holds_of_vc tab_ok mixed (fn := Tryz.f9) (by kernel_rfl) rfl C9 (fun x y hF=>C9_vc y hF)
theorem f9_in : InP 9 := ⟨Tryz.f9,by kernel_rfl,by kernel_rfl,by kernel_rfl⟩
def f135_j1 (kind : ByteArray) : Option Bool :=
 bif (ByteArray.toList kind == ByteArray.toList (ByteArray.mk #[100,101,110,115,101])) then
 some (ByteArray.toList kind == ByteArray.toList (ByteArray.mk #[100,101,110,115,101]))
 else
 bif (ByteArray.toList kind == ByteArray.toList (ByteArray.mk #[112,111,111,108])) then
 some (ByteArray.toList kind == ByteArray.toList (ByteArray.mk #[112,111,111,108]))
 else
 some (ByteArray.toList kind == ByteArray.toList (ByteArray.mk #[98,101,110,100]))
def f135 (kind : ByteArray) : Option Int :=
 bindF (f135_j1 kind) fun z1 =>
 bif z1 then
 some (1:Int)
 else
 bif (ByteArray.toList kind == ByteArray.toList (ByteArray.mk #[99,111,110,118])) then
 some (2:Int)
 else
 bif (ByteArray.toList kind == ByteArray.toList (ByteArray.mk #[115,107,105,112])) then
 some (0:Int)
 else
 some (-1:Int)
def C135 : Con where
 X := ByteArray
 Y := Int
 e := 0
 args x := [.dat .str x]
 hin x := []
 F x := f135 x
 ret y := [.dat T0 y]
 hout y := []
 nout := 0
theorem C135_vc (kind : ByteArray) (y:Int) (hF : f135 kind = some y) : VC Tryz.f135 C135 kind y := by
 unfold f135 at hF
 refine OL (OL (OL ?_))
 obtain ⟨z1,hz1,hF⟩ := bindE hF
 refine OQ ⟨[(0,⟨[(3,.dat .str kind),(4,.dat .bool z1)],[],0⟩)],?_,?_⟩
 ·have hF := hz1
  clear hz1
  unfold f135_j1 at hF
  refine OL (condI hF (fun hF=>?_) (fun hF=>?_))
  ·have hz := someE hF
   subst hz
   refine E4 [] (R3 (AI TV TV))
  refine OL (condI hF (fun hF=>?_) (fun hF=>?_))
  ·have hz := someE hF
   subst hz
   refine E4 [] (R3 (AI TV TV))
  have hz := someE hF
  subst hz
  refine E4 [] (R3 (AI TV TV))
 refine AI (condI hF (fun hF=>?_) (fun hF=>?_)) TV
 ·refine OL ?_
  have hy := someE hF
  subst hy
  refine AI rfl (E4 [] (R2 (AI TV TV)))
 refine OL (condI hF (fun hF=>?_) (fun hF=>?_))
 ·refine OL ?_
  have hy := someE hF
  subst hy
  refine AI rfl (E4 [] (R2 (AI TV TV)))
 refine OL (condI hF (fun hF=>?_) (fun hF=>?_))
 ·refine OL ?_
  have hy := someE hF
  subst hy
  refine AI rfl (E4 [] (R2 (AI TV TV)))
 refine OL ?_
 have hy := someE hF
 subst hy
 refine AI rfl (E4 [] (R2 (AI TV TV)))
theorem C135_holds : C135.Holds Tryz.prog 135 := holds_of_vc tab_ok mixed (fn := Tryz.f135) (by kernel_rfl) rfl C135 (fun x y hF=>C135_vc x y hF)
theorem f135_in : InP 135 := ⟨Tryz.f135,by kernel_rfl,by kernel_rfl,by kernel_rfl⟩
def f100 (v:Int) (most:Int) : Option Bool :=
 bif (decide (v ≥ (1:Int))) then
 some (decide (v ≤ most))
 else
 some false
def C100 : Con where
 X := Int×Int
 Y := Bool
 e := 0
 args x := [.dat T0 x.1,.dat T0 x.2]
 hin x := []
 F x := f100 x.1 x.2
 ret y := [.dat .bool y]
 hout y := []
 nout := 0
theorem C100_vc (v:Int) (most:Int) (y : Bool) (hF : f100 v most = some y) : VC Tryz.f100 C100 (v,most) y := by
 unfold f100 at hF
 refine OL (OL (condI hF (fun hF=>?_) (fun hF=>?_)))
 ·refine gdYT (gdYT (condT ?_))
  have hy := someE hF
  subst hy
  refine AI rfl (E4 [] (R2 (AI TV TV)))
 refine gdNT (gdNT (condF ?_))
 have hy := someE hF
 subst hy
 refine AI rfl (E4 [] (R2 (AI TV TV)))
theorem C100_holds : C100.Holds Tryz.prog 100 := holds_of_vc tab_ok mixed (fn := Tryz.f100) (by kernel_rfl) rfl C100 (fun x y hF=>C100_vc x.1 x.2 y hF)
theorem f100_in : InP 100 := ⟨Tryz.f100,by kernel_rfl,by kernel_rfl,by kernel_rfl⟩
def f99_j1 (l : ByteArray×Int×Int) : Option (Sum Unit Unit) :=
 bindF (f135 l.1) fun r3 =>
 bif (decide (r3 < (2:Int))) then
 bif (l.2.2 != (0:Int)) then
 some (Sum.inr ())
 else
 some (Sum.inl ())
 else
 some (Sum.inl ())
def f99 (l : ByteArray×Int×Int) : Option Bool :=
 bindF (f99_j1 l) fun z2 =>
 sumF z2 (fun z2a =>
 bif (ByteArray.toList l.1 == ByteArray.toList (ByteArray.mk #[100,101,110,115,101])) then
 bindF (f100 l.2.1 (256:Int)) fun r4 =>
 some r4
 else
 bif (ByteArray.toList l.1 == ByteArray.toList (ByteArray.mk #[99,111,110,118])) then
 bindF (f100 l.2.1 (16:Int)) fun r5 =>
 bif r5 then
 bindF (f100 l.2.2 (16:Int)) fun r6 =>
 some r6
 else
 some false
 else
 bif (ByteArray.toList l.1 == ByteArray.toList (ByteArray.mk #[112,111,111,108])) then
 bindF (f100 l.2.1 (16:Int)) fun r7 =>
 some r7
 else
 bif (ByteArray.toList l.1 == ByteArray.toList (ByteArray.mk #[98,101,110,100])) then
 bindF (f100 l.2.1 (5:Int)) fun r8 =>
 some r8
 else
 bif (ByteArray.toList l.1 == ByteArray.toList (ByteArray.mk #[115,107,105,112])) then
 some (l.2.1 == (0:Int))
 else
 some false) (fun z2b =>
 some false)
def C99 : Con where
 X := ByteArray×Int×Int
 Y := Bool
 e := 0
 args x := [.dat T1 x]
 hin x := []
 F x := f99 x
 ret y := [.dat .bool y]
 hout y := []
 nout := 0
theorem C99_vc (l : ByteArray×Int×Int) (y : Bool) (hF : f99 l = some y) : VC Tryz.f99 C99 l y := by
 unfold f99 at hF
 refine OL ?_
 obtain ⟨z2,hz2,hF⟩ := bindE hF
 refine OQ ⟨Sum.elim (fun z2a=>[(0,⟨[(1,P0 0 0)],[(0,.cells [(.d .str l.1),(.d T0 l.2.1),(.d T0 l.2.2)])],1⟩)]) (fun z2b=>[(1,⟨[(2,.dat .bool false)],[],0⟩)]) z2,?_,?_⟩
 ·have hF := hz2
  clear hz2
  unfold f99_j1 at hF
  refine OL ?_
  obtain ⟨r3,hr3,hF⟩ := bindE hF
  refine OL (AI f135_in (callV0 (callI C135 l.1 r3 [] false C135_holds hr3 rfl rfl (AI rfl (AI (fun h=>nomatch h) (R2 (AI TV (AI TV (condI hF (fun hF=>?_) (fun hF=>?_))))))))))
  ·refine gdYT (gdYT (condT (condI hF (fun hF=>?_) (fun hF=>?_))))
   ·refine OL ?_
    have hz := someE hF
    subst hz
    refine E4 [] (R2 (AI TV TV))
   have hz := someE hF
   subst hz
   refine E4 [(0,some 0)] (AI rfl (AI (AI rfl TV) (AI rfl TV)))
  refine gdNT (gdNT (condF (condF ?_)))
  have hz := someE hF
  subst hz
  refine E4 [(0,some 0)] (AI rfl (AI (AI rfl TV) (AI rfl TV)))
 rcases z2 with z2a | z2b
 ·dsimp only [sumF] at hF
  refine AI (OL (OL (OL (condI hF (fun hF=>?_) (fun hF=>?_))))) TV
  ·refine OL ?_
   obtain ⟨r4,hr4,hF⟩ := bindE hF
   refine OL (AI f100_in (callV0 (callI C100 (l.2.1,(256:Int)) r4 [] false C100_holds hr4 rfl rfl (R2 (AI (fun h=>nomatch h) (R2 (AI TV (AI TV ?_))))))))
   have hy := someE hF
   subst hy
   refine AI rfl (E4 [] (R2 (AI TV TV)))
  refine OL (condI hF (fun hF=>?_) (fun hF=>?_))
  ·refine OL ?_
   obtain ⟨r5,hr5,hF⟩ := bindE hF
   refine OL (AI f100_in (callV0 (callI C100 (l.2.1,(16:Int)) r5 [] false C100_holds hr5 rfl rfl (R2 (AI (fun h=>nomatch h) (R2 (AI TV (AI TV (condI hF (fun hF=>?_) (fun hF=>?_))))))))))
   ·refine gdYT (gdYT ?_)
    obtain ⟨r6,hr6,hF⟩ := bindE hF
    refine OL (AI f100_in (callV0 (callI C100 (l.2.2,(16:Int)) r6 [] false C100_holds hr6 rfl rfl (R2 (AI (fun h=>nomatch h) (R2 (AI TV (AI TV (condT ?_)))))))))
    have hy := someE hF
    subst hy
    refine AI rfl (E4 [] (R2 (AI TV TV)))
   refine gdNT (gdNT (condF ?_))
   have hy := someE hF
   subst hy
   refine AI rfl (E4 [] (R2 (AI TV TV)))
  refine OL (condI hF (fun hF=>?_) (fun hF=>?_))
  ·refine OL ?_
   obtain ⟨r7,hr7,hF⟩ := bindE hF
   refine OL (AI f100_in (callV0 (callI C100 (l.2.1,(16:Int)) r7 [] false C100_holds hr7 rfl rfl (R2 (AI (fun h=>nomatch h) (R2 (AI TV (AI TV ?_))))))))
   have hy := someE hF
   subst hy
   refine AI rfl (E4 [] (R2 (AI TV TV)))
  refine OL (condI hF (fun hF=>?_) (fun hF=>?_))
  ·refine OL ?_
   obtain ⟨r8,hr8,hF⟩ := bindE hF
   refine OL (AI f100_in (callV0 (callI C100 (l.2.1,(5:Int)) r8 [] false C100_holds hr8 rfl rfl (R2 (AI (fun h=>nomatch h) (R2 (AI TV (AI TV ?_))))))))
   have hy := someE hF
   subst hy
   refine AI rfl (E4 [] (R2 (AI TV TV)))
  refine OL (condI hF (fun hF=>?_) (fun hF=>?_))
  ·refine gdYT (gdYT (condT ?_))
   have hy := someE hF
   subst hy
   refine AI rfl (E4 [] (R2 (AI TV TV)))
  refine gdNT (gdNT (condF ?_))
  have hy := someE hF
  subst hy
  refine AI rfl (E4 [] (R2 (AI TV TV)))
 dsimp only [sumF] at hF
 refine AI ?_ TV
 have hy := someE hF
 subst hy
 refine AI rfl (E4 [] (R2 (AI TV TV)))
theorem C99_holds : C99.Holds Tryz.prog 99 := holds_of_vc tab_ok mixed (fn := Tryz.f99) (by kernel_rfl) rfl C99 (fun x y hF=>C99_vc x y hF)
theorem f99_in : InP 99 := ⟨Tryz.f99,by kernel_rfl,by kernel_rfl,by kernel_rfl⟩
def f69_l1 (n : (List Int)×(List (ByteArray×Int×Int))) (go : Int → Option (Sum Unit Unit)) (v8:Int) : Option (Sum Unit Unit) :=
 bif (decide (v8 < (List.length n.2:Int))) then
 guardF (0 ≤ v8 ∧ v8 < (List.length n.2:Int)) <|
 bindF (f99 ((rd (Ty.z T1) n.2 v8).1,((rd (Ty.z T1) n.2 v8).2).1,((rd (Ty.z T1) n.2 v8).2).2)) fun r4 =>
 bif (!r4) then
 some (Sum.inl ())
 else
 go (i64.wrap (v8 + (1:Int)))
 else
 some (Sum.inr ())
def f69 (n : (List Int)×(List (ByteArray×Int×Int))) : Option Bool :=
 bindF (loopF (fun go x=>f69_l1 n go x) fuelN (0:Int)) fun z3 =>
 sumF z3 (fun z3a =>
 some false) (fun z3b =>
 bif ((List.length n.1:Int) == (1:Int)) then
 guardF (0 ≤ (0:Int) ∧ (0:Int) < (List.length n.1:Int)) <|
 bindF (f100 (rd (0:Int) n.1 (0:Int)) (1024:Int)) fun r5 =>
 some r5
 else
 bif ((List.length n.1:Int) == (2:Int)) then
 guardF (0 ≤ (0:Int) ∧ (0:Int) < (List.length n.1:Int)) <|
 bindF (f100 (rd (0:Int) n.1 (0:Int)) (64:Int)) fun r6 =>
 bif r6 then
 guardF (0 ≤ (1:Int) ∧ (1:Int) < (List.length n.1:Int)) <|
 bindF (f100 (rd (0:Int) n.1 (1:Int)) (64:Int)) fun r7 =>
 some r7
 else
 some false
 else
 some false)
def C69 : Con where
 X := (List Int)×(List (ByteArray×Int×Int))
 Y := Bool
 e := 0
 args x := [.dat T2 x]
 hin x := []
 F x := f69 x
 ret y := [.dat .bool y]
 hout y := []
 nout := 0
theorem C69_vc (n : (List Int)×(List (ByteArray×Int×Int))) (y : Bool) (hF : f69 n = some y) : VC Tryz.f69 C69 n y := by
 unfold f69 at hF
 refine OL (OL (OL ?_))
 obtain ⟨z3,hz3,hF⟩ := bindE hF
 refine loopI Int (Sum Unit Unit) (fun x=>⟨[(1,P0 0 0),(6,.dat T3 n.2),(7,.dat T0 (List.length n.2:Int)),(8,.dat T0 x)],[(0,.cells [(.d T4 n.1),(.d T3 n.2)])],1⟩) (fun z=>Sum.elim (fun za=>[(1,⟨[(2,.dat .bool false)],[],0⟩)]) (fun zb=>[(2,⟨[(1,P0 0 0)],[(0,.cells [(.d T4 n.1),(.d T3 n.2)])],1⟩)]) z) (loopF (fun go x=>f69_l1 n go x)) fuelN (0:Int) z3 (AI hz3 (AI (E4 [(0,some 0)] (R4 (AI (AI rfl TV) (AI rfl TV)))) (AI (fun _ _ h=>loopZ h) (AI (fun m=>fun v8 z hF=>?_) ?_))))
 ·have hF : f69_l1 n (loopF (fun go x=>f69_l1 n go x) m) v8 = some z := hF
  unfold f69_l1 at hF
  refine OL (OL (condI hF (fun hF=>?_) (fun hF=>?_)))
  ·refine OL (OL (guardI hF (fun hF=>?_)))
   refine OL (OL ?_)
   obtain ⟨r4,hr4,hF⟩ := bindE hF
   refine OL (AI f99_in (callV0 (callI C99 ((rd (Ty.z T1) n.2 v8).1,((rd (Ty.z T1) n.2 v8).2).1,((rd (Ty.z T1) n.2 v8).2).2) r4 [] false C99_holds hr4 rfl rfl (R2 (AI (fun h=>nomatch h) (R2 (AI TV (AI TV (condI hF (fun hF=>?_) (fun hF=>?_))))))))))
   ·refine OL ?_
    have hz := someE hF
    subst hz
    refine E4 [] (R2 (AI TV TV))
   refine EI (i64.wrap (v8 + (1:Int))) (AI hF (E4 [(0,some 0)] (R4 (AI (AI rfl TV) (AI rfl TV)))))
  have hz := someE hF
  subst hz
  refine E4 [(0,some 0)] (AI rfl (AI (AI rfl TV) (AI rfl TV)))
 rcases z3 with z3a | z3b
 ·dsimp only [sumF] at hF
  refine AI ?_ TV
  have hy := someE hF
  subst hy
  refine AI rfl (E4 [] (R2 (AI TV TV)))
 dsimp only [sumF] at hF
 refine AI (OL (OL (OL (condI hF (fun hF=>?_) (fun hF=>?_))))) TV
 ·refine OL (guardI hF (fun hF=>?_))
  obtain ⟨r5,hr5,hF⟩ := bindE hF
  refine OL (AI f100_in (callV0 (callI C100 ((rd (0:Int) n.1 (0:Int)),(1024:Int)) r5 [] false C100_holds hr5 rfl rfl (R2 (AI (fun h=>nomatch h) (R2 (AI TV (AI TV ?_))))))))
  have hy := someE hF
  subst hy
  refine AI rfl (E4 [] (R2 (AI TV TV)))
 refine OL (condI hF (fun hF=>?_) (fun hF=>?_))
 ·refine OL (guardI hF (fun hF=>?_))
  obtain ⟨r6,hr6,hF⟩ := bindE hF
  refine OL (AI f100_in (callV0 (callI C100 ((rd (0:Int) n.1 (0:Int)),(64:Int)) r6 [] false C100_holds hr6 rfl rfl (R2 (AI (fun h=>nomatch h) (R2 (AI TV (AI TV (condI hF (fun hF=>?_) (fun hF=>?_))))))))))
  ·refine gdYT (gdYT (guardI hF (fun hF=>?_)))
   refine gdYT (gdYT ?_)
   obtain ⟨r7,hr7,hF⟩ := bindE hF
   refine OL (AI f100_in (callV0 (callI C100 ((rd (0:Int) n.1 (1:Int)),(64:Int)) r7 [] false C100_holds hr7 rfl rfl (R2 (AI (fun h=>nomatch h) (R2 (AI TV (AI TV (condT ?_)))))))))
   have hy := someE hF
   subst hy
   refine AI rfl (E4 [] (R2 (AI TV TV)))
  refine gdNT (gdNT (gdNT (gdNT (condF ?_))))
  have hy := someE hF
  subst hy
  refine AI rfl (E4 [] (R2 (AI TV TV)))
 refine OL ?_
 have hy := someE hF
 subst hy
 refine AI rfl (E4 [] (R2 (AI TV TV)))
theorem C69_holds : C69.Holds Tryz.prog 69 := holds_of_vc tab_ok mixed (fn := Tryz.f69) (by kernel_rfl) rfl C69 (fun x y hF=>C69_vc x y hF)
theorem f69_in : InP 69 := ⟨Tryz.f69,by kernel_rfl,by kernel_rfl,by kernel_rfl⟩
def f82 (s : List Int) : Option (List Int) :=
 nilF s
 (some ([]))
 (guardF ((List.length ([] : List Int) + List.length s) * 8 ≤ 140737488355328) <|
 some (([] : List Int) ++ s))
def C82 : Con where
 X := List Int
 Y := List Int
 e := 0
 args x := [.dat T4 x]
 hin x := []
 F x := f82 x
 ret y := [O0 0]
 hout y := [(0,.arr 3 T0 y)]
 nout := 1
theorem C82_vc (s : List Int) (y : List Int) (hF : f82 s = some y) : VC Tryz.f82 C82 s y := by
 unfold f82 at hF
 refine OL (OL (OL (nilI hF (fun hF=>?_) (fun hF=>?_))))
 ·refine condT (OL ?_)
  have hy := someE hF
  subst hy
  refine AI rfl (E4 [(0,none)] (AI rfl (AI (AI rfl TV) (AI rfl TV))))
 refine condF (OL (OL (OL (guardI hF (fun hF=>?_)))))
 have hy := someE hF
 subst hy
 refine AI rfl (E4 [(0,some 1)] (AI rfl (AI (AI rfl TV) (AI rfl TV))))
theorem C82_holds : C82.Holds Tryz.prog 82 := holds_of_vc tab_ok mixed (fn := Tryz.f82) (by kernel_rfl) rfl C82 (fun x y hF=>C82_vc x y hF)
theorem f82_in : InP 82 := ⟨Tryz.f82,by kernel_rfl,by kernel_rfl,by kernel_rfl⟩
def f101_j1 (l : ByteArray×Int×Int) (in_ : List Int) : Option (Sum Unit Unit) :=
 bif ((List.length in_:Int) != (2:Int)) then
 some (Sum.inr ())
 else
 guardF (0 ≤ (1:Int) ∧ (1:Int) < (List.length in_:Int)) <|
 bif (decide (l.2.2 > (rd (0:Int) in_ (1:Int)))) then
 some (Sum.inr ())
 else
 some (Sum.inl ())
def f101_j2 (l : ByteArray×Int×Int) (in_ : List Int) : Option (Sum Unit Unit) :=
 bif ((List.length in_:Int) != (2:Int)) then
 some (Sum.inr ())
 else
 guardF (0 ≤ (1:Int) ∧ (1:Int) < (List.length in_:Int)) <|
 bif (decide (l.2.1 > (rd (0:Int) in_ (1:Int)))) then
 some (Sum.inr ())
 else
 some (Sum.inl ())
def f101 (l : ByteArray×Int×Int) (in_ : List Int) : Option (Bool×(List Int)) :=
 bif (ByteArray.toList l.1 == ByteArray.toList (ByteArray.mk #[100,101,110,115,101])) then
 some (true,[l.2.1])
 else
 bif (ByteArray.toList l.1 == ByteArray.toList (ByteArray.mk #[99,111,110,118])) then
 bindF (f101_j1 l in_) fun z1 =>
 sumF z1 (fun z1a =>
 guardF (0 ≤ (1:Int) ∧ (1:Int) < (List.length in_:Int)) <|
 some (true,[l.2.1,(i64.wrap ((i64.wrap ((rd (0:Int) in_ (1:Int)) - l.2.2)) + (1:Int)))])) (fun z1b =>
 some (false,[]))
 else
 bif (ByteArray.toList l.1 == ByteArray.toList (ByteArray.mk #[112,111,111,108])) then
 bindF (f101_j2 l in_) fun z2 =>
 sumF z2 (fun z2a =>
 guardF (0 ≤ (0:Int) ∧ (0:Int) < (List.length in_:Int)) <|
 guardF (0 ≤ (1:Int) ∧ (1:Int) < (List.length in_:Int)) <|
 guardF (l.2.1 ≠ 0) <|
 some (true,[(rd (0:Int) in_ (0:Int)),(i64.wrap (Int.tdiv (rd (0:Int) in_ (1:Int)) l.2.1))])) (fun z2b =>
 some (false,[]))
 else
 bindF (f82 in_) fun q11_11 =>
 some (true,q11_11)
def C101 : Con where
 X := (ByteArray×Int×Int)×(List Int)
 Y := Bool×(List Int)
 e := 0
 args x := [.dat T1 x.1,.dat T4 x.2]
 hin x := []
 F x := f101 x.1 x.2
 ret y := [O0 0,.dat .bool y.1]
 hout y := [(0,.arr 3 T0 y.2)]
 nout := 1
theorem C101_vc (l : ByteArray×Int×Int) (in_ : List Int) (y : Bool×(List Int)) (hF : f101 l in_ = some y) : VC Tryz.f101 C101 (l,in_) y := by
 unfold f101 at hF
 refine OL (OL (OL (OL (condI hF (fun hF=>?_) (fun hF=>?_)))))
 ·refine OL (OL ?_)
  have hy := someE hF
  subst hy
  refine AI rfl (E4 [(0,some 1)] (R2 (AI (AI rfl TV) (AI rfl TV))))
 refine OL (condI hF (fun hF=>?_) (fun hF=>?_))
 ·obtain ⟨z1,hz1,hF⟩ := bindE hF
  refine OQ ⟨Sum.elim (fun z1a=>[(0,⟨[(1,.dat T4 in_),(2,P0 0 0)],[(0,.cells [(.d .str l.1),(.d T0 l.2.1),(.d T0 l.2.2)])],1⟩)]) (fun z1b=>[(1,⟨[(4,.raw false [N0]),(5,.dat .bool false)],[],0⟩)]) z1,?_,?_⟩
  ·have hF := hz1
   clear hz1
   unfold f101_j1 at hF
   refine OL (EI (.take 0 (.take 1 (.take 2 (.take 3 (.take 4 (.take 5 (.take 6 (.take 7 (.take 8 (.take 9 (.take 10 .done))))))))))) (EI [] (EI [] (AI rfl (condN hF (fun hF=>?_) (fun hF=>?_))))))
   ·refine gdYF (gdYF (gdYF (guardI hF (fun hF=>?_))))
    refine gdYF (gdYF (condF (condI hF (fun hF=>?_) (fun hF=>?_))))
    ·refine OL ?_
     have hz := someE hF
     subst hz
     refine E4 [] (R2 (AI (AI rfl TV) TV))
    have hz := someE hF
    subst hz
    refine E4 [(0,some 0)] (R2 (AI (AI rfl TV) (AI rfl TV)))
   refine gdNF (gdNF (gdNF (gdNF (gdNF (condT (condT (OL ?_)))))))
   have hz := someE hF
   subst hz
   refine E4 [] (R2 (AI (AI rfl TV) TV))
  rcases z1 with z1a | z1b
  ·dsimp only [sumF] at hF
   refine AI (OL (EI (.take 0 (.take 1 (.take 2 (.take 3 (.take 4 (.take 5 (.take 6 (.take 7 (.take 8 (.alt 9 (.take 10 (.take 11 .done)) .done)))))))))) (EI [] (EI [] (AI rfl (guardI hF (fun hF=>?_))))))) TV
   refine AI TV (OL ?_)
   have hy := someE hF
   subst hy
   refine AI rfl (E4 [(0,some 1)] (R2 (AI (AI rfl TV) (AI rfl TV))))
  dsimp only [sumF] at hF
  refine AI ?_ TV
  have hy := someE hF
  subst hy
  refine AI rfl (E4 [(0,none)] (R2 (AI (AI rfl TV) (AI rfl TV))))
 refine OL (condI hF (fun hF=>?_) (fun hF=>?_))
 ·obtain ⟨z2,hz2,hF⟩ := bindE hF
  refine OQ ⟨Sum.elim (fun z2a=>[(0,⟨[(1,.dat T4 in_),(2,P0 0 0)],[(0,.cells [(.d .str l.1),(.d T0 l.2.1),(.d T0 l.2.2)])],1⟩)]) (fun z2b=>[(1,⟨[(4,.raw false [N0]),(5,.dat .bool false)],[],0⟩)]) z2,?_,?_⟩
  ·have hF := hz2
   clear hz2
   unfold f101_j2 at hF
   refine OL (EI (.take 0 (.take 1 (.take 2 (.take 3 (.take 4 (.take 5 (.take 6 (.take 7 (.take 8 (.take 9 (.take 10 .done))))))))))) (EI [] (EI [] (AI rfl (condN hF (fun hF=>?_) (fun hF=>?_))))))
   ·refine gdYF (gdYF (gdYF (guardI hF (fun hF=>?_))))
    refine gdYF (gdYF (condF (condI hF (fun hF=>?_) (fun hF=>?_))))
    ·refine OL ?_
     have hz := someE hF
     subst hz
     refine E4 [] (R2 (AI (AI rfl TV) TV))
    have hz := someE hF
    subst hz
    refine E4 [(0,some 0)] (R2 (AI (AI rfl TV) (AI rfl TV)))
   refine gdNF (gdNF (gdNF (gdNF (gdNF (condT (condT (OL ?_)))))))
   have hz := someE hF
   subst hz
   refine E4 [] (R2 (AI (AI rfl TV) TV))
  rcases z2 with z2a | z2b
  ·dsimp only [sumF] at hF
   refine AI (OL (EI (.take 0 (.take 1 (.take 2 (.take 3 (.take 4 (.take 5 (.take 6 (.take 7 (.take 8 (.alt 9 (.take 10 (.take 11 .done)) .done)))))))))) (EI [] (EI [] (AI rfl (guardI hF (fun hF=>?_))))))) TV
   refine guardI hF (fun hF=>?_)
   refine guardI hF (fun hF=>?_)
   refine AI TV (OL ?_)
   have hy := someE hF
   subst hy
   refine AI rfl (E4 [(0,some 1)] (R2 (AI (AI rfl TV) (AI rfl TV))))
  dsimp only [sumF] at hF
  refine AI ?_ TV
  have hy := someE hF
  subst hy
  refine AI rfl (E4 [(0,none)] (R2 (AI (AI rfl TV) (AI rfl TV))))
 refine OL ?_
 obtain ⟨q11_11,hq11_11,hF⟩ := bindE hF
 refine OL (AI f82_in (callV0 (callI C82 in_ q11_11 [] false C82_holds hq11_11 rfl rfl (AI rfl (AI (fun h=>nomatch h) (R2 (AI TV (AI TV ?_))))))))
 have hy := someE hF
 subst hy
 refine AI rfl (E4 [(0,some 1)] (R2 (AI (AI rfl TV) (AI rfl TV))))
theorem C101_holds : C101.Holds Tryz.prog 101 := holds_of_vc tab_ok mixed (fn := Tryz.f101) (by kernel_rfl) rfl C101 (fun x y hF=>C101_vc x.1 x.2 y hF)
theorem f101_in : InP 101 := ⟨Tryz.f101,by kernel_rfl,by kernel_rfl,by kernel_rfl⟩
def f107_l1 (s1 : List Int) (s2 : List Int) (go : Int → Option (Sum Unit Unit)) (v13:Int) : Option (Sum Unit Unit) :=
 bif (decide (v13 < (List.length s1:Int))) then
 guardF (0 ≤ v13 ∧ v13 < (List.length s1:Int)) <|
 guardF (0 ≤ v13 ∧ v13 < (List.length s2:Int)) <|
 bif ((rd (0:Int) s1 v13) != (rd (0:Int) s2 v13)) then
 some (Sum.inl ())
 else
 go (i64.wrap (v13 + (1:Int)))
 else
 some (Sum.inr ())
def f107 (s1 : List Int) (s2 : List Int) : Option Bool :=
 bif ((List.length s1:Int) != (List.length s2:Int)) then
 some false
 else
 bindF (loopF (fun go x=>f107_l1 s1 s2 go x) fuelN (0:Int)) fun z1 =>
 sumF z1 (fun z1a =>
 some false) (fun z1b =>
 some true)
def C107 : Con where
 X := (List Int)×(List Int)
 Y := Bool
 e := 0
 args x := [.dat T4 x.1,.dat T4 x.2]
 hin x := []
 F x := f107 x.1 x.2
 ret y := [.dat .bool y]
 hout y := []
 nout := 0
theorem C107_vc (s1 : List Int) (s2 : List Int) (y : Bool) (hF : f107 s1 s2 = some y) : VC Tryz.f107 C107 (s1,s2) y := by
 unfold f107 at hF
 refine OL (OL (OL (condI hF (fun hF=>?_) (fun hF=>?_))))
 ·refine OL ?_
  have hy := someE hF
  subst hy
  refine AI rfl (E4 [] (R2 (AI TV TV)))
 refine OL (OL ?_)
 obtain ⟨z1,hz1,hF⟩ := bindE hF
 refine loopI Int (Sum Unit Unit) (fun x=>⟨[(0,.dat T4 s1),(1,.dat T4 s2),(12,.dat T0 (List.length s1:Int)),(13,.dat T0 x)],[],0⟩) (fun z=>Sum.elim (fun za=>[(1,⟨[(4,.dat .bool false)],[],0⟩)]) (fun zb=>[(2,⟨[],[],0⟩)]) z) (loopF (fun go x=>f107_l1 s1 s2 go x)) fuelN (0:Int) z1 (AI hz1 (AI (E4 [] (R5 (AI TV TV))) (AI (fun _ _ h=>loopZ h) (AI (fun m=>fun v13 z hF=>?_) ?_))))
 ·have hF : f107_l1 s1 s2 (loopF (fun go x=>f107_l1 s1 s2 go x) m) v13 = some z := hF
  unfold f107_l1 at hF
  refine OL (OL (condI hF (fun hF=>?_) (fun hF=>?_)))
  ·refine OL (OL (OL (EI (.take 0 (.take 1 (.take 2 (.take 3 (.take 4 (.take 5 (.take 6 (.take 7 (.take 8 .done))))))))) (EI [] (EI [] (AI rfl (guardI hF (fun hF=>?_))))))))
   refine guardI hF (fun hF=>?_)
   refine condI hF (fun hF=>?_) (fun hF=>?_)
   ·refine OL ?_
    have hz := someE hF
    subst hz
    refine E4 [] (R2 (AI TV TV))
   refine EI (i64.wrap (v13 + (1:Int))) (AI hF (E4 [] (R5 (AI TV TV))))
  have hz := someE hF
  subst hz
  refine E4 [] (AI rfl (AI TV TV))
 rcases z1 with z1a | z1b
 ·dsimp only [sumF] at hF
  refine AI ?_ TV
  have hy := someE hF
  subst hy
  refine AI rfl (E4 [] (R2 (AI TV TV)))
 dsimp only [sumF] at hF
 refine AI (OL ?_) TV
 have hy := someE hF
 subst hy
 refine AI rfl (E4 [] (R2 (AI TV TV)))
theorem C107_holds : C107.Holds Tryz.prog 107 := holds_of_vc tab_ok mixed (fn := Tryz.f107) (by kernel_rfl) rfl C107 (fun x y hF=>C107_vc x.1 x.2 y hF)
theorem f107_in : InP 107 := ⟨Tryz.f107,by kernel_rfl,by kernel_rfl,by kernel_rfl⟩
def f87 (a : List Int) (b : List Int) : Option Bool :=
 bindF (f107 a b) fun r1 =>
 some r1
def C87 : Con where
 X := (List Int)×(List Int)
 Y := Bool
 e := 0
 args x := [.dat T4 x.1,.dat T4 x.2]
 hin x := []
 F x := f87 x.1 x.2
 ret y := [.dat .bool y]
 hout y := []
 nout := 0
theorem C87_vc (a : List Int) (b : List Int) (y : Bool) (hF : f87 a b = some y) : VC Tryz.f87 C87 (a,b) y := by
 unfold f87 at hF
 refine OL (OL ?_)
 obtain ⟨r1,hr1,hF⟩ := bindE hF
 refine OL (AI f107_in (callV0 (callI C107 (a,b) r1 [] false C107_holds hr1 rfl rfl (R2 (AI (fun h=>nomatch h) (R2 (AI TV (AI TV ?_))))))))
 have hy := someE hF
 subst hy
 refine AI rfl (E4 [] (R2 (AI TV TV)))
theorem C87_holds : C87.Holds Tryz.prog 87 := holds_of_vc tab_ok mixed (fn := Tryz.f87) (by kernel_rfl) rfl C87 (fun x y hF=>C87_vc x.1 x.2 y hF)
theorem f87_in : InP 87 := ⟨Tryz.f87,by kernel_rfl,by kernel_rfl,by kernel_rfl⟩
def f102 (n : (List Int)×(List (ByteArray×Int×Int))) (i:Int) (d : List (List Int)) : Option Bool :=
 bif (decide (i > (0:Int))) then
 guardF (0 ≤ (i64.wrap (i - (1:Int))) ∧ (i64.wrap (i - (1:Int))) < (List.length n.2:Int)) <|
 bif (!(ByteArray.toList ((rd (Ty.z T1) n.2 (i64.wrap (i - (1:Int)))).1) == ByteArray.toList (ByteArray.mk #[115,107,105,112]))) then
 guardF (0 ≤ (i64.wrap (i - (1:Int))) ∧ (i64.wrap (i - (1:Int))) < (List.length d:Int)) <|
 guardF (0 ≤ i ∧ i < (List.length d:Int)) <|
 bindF (f87 (rd (Ty.z T4) d (i64.wrap (i - (1:Int)))) (rd (Ty.z T4) d i)) fun q1_22 =>
 some q1_22
 else
 some false
 else
 some false
def C102 : Con where
 X := ((List Int)×(List (ByteArray×Int×Int)))×Int×(List (List Int))
 Y := Bool
 e := 0
 args x := [.dat T2 x.1,.dat T0 x.2.1,.dat T5 x.2.2]
 hin x := []
 F x := f102 x.1 x.2.1 x.2.2
 ret y := [.dat .bool y]
 hout y := []
 nout := 0
theorem C102_vc (n : (List Int)×(List (ByteArray×Int×Int))) (i:Int) (d : List (List Int)) (y : Bool) (hF : f102 n i d = some y) : VC Tryz.f102 C102 (n,i,d) y := by
 unfold f102 at hF
 refine OL (OL (EI (.take 0 (.take 1 (.take 2 (.take 3 (.take 4 (.take 5 (.take 6 (.take 7 (.take 8 (.take 9 (.take 10 (.take 11 (.take 12 (.take 13 (.take 14 (.take 15 (.take 16 (.take 17 (.take 18 (.take 19 (.take 20 (.take 21 (.alt 22 (.take 23 (.take 24 .done)) .done))))))))))))))))))))))) (EI [] (EI [] (AI rfl (condI hF (fun hF=>?_) (fun hF=>?_)))))))
 ·refine gdYT (gdYT (gdYT (gdYT (guardI hF (fun hF=>?_)))))
  refine gdYT (gdYT (gdYT (condT (condI hF (fun hF=>?_) (fun hF=>?_)))))
  ·refine gdYT (gdYT (gdYT (guardI hF (fun hF=>?_))))
   refine gdYT (gdYT (gdYT (gdYT (guardI hF (fun hF=>?_)))))
   refine gdYT (AI TV (gdYT ?_))
   obtain ⟨q1_22,hq1_22,hF⟩ := bindE hF
   refine OL (AI f87_in (callV0 (callI C87 ((rd (Ty.z T4) d (i64.wrap (i - (1:Int)))),(rd (Ty.z T4) d i)) q1_22 [] false C87_holds hq1_22 rfl rfl (R2 (AI (fun h=>nomatch h) (R2 (AI TV (AI TV (condT ?_)))))))))
   have hy := someE hF
   subst hy
   refine AI rfl (E4 [] (R2 (AI TV TV)))
  refine gdNT (gdNT (gdNT (gdNT (gdNT (gdNT (gdNT (gdNT (AI TV (gdNT (condF ?_))))))))))
  have hy := someE hF
  subst hy
  refine AI rfl (E4 [] (R2 (AI TV TV)))
 refine gdNT (gdNT (gdNT (gdNT (gdNT (gdNT (gdNT (condF (gdNT (gdNT (gdNT (gdNT (gdNT (gdNT (gdNT (gdNT (gdNT (AI TV (gdNT (condF ?_)))))))))))))))))))
 have hy := someE hF
 subst hy
 refine AI rfl (E4 [] (R2 (AI TV TV)))
theorem C102_holds : C102.Holds Tryz.prog 102 := holds_of_vc tab_ok mixed (fn := Tryz.f102) (by kernel_rfl) rfl C102 (fun x y hF=>C102_vc x.1 x.2.1 x.2.2 y hF)
theorem f102_in : InP 102 := ⟨Tryz.f102,by kernel_rfl,by kernel_rfl,by kernel_rfl⟩
def f70_j4 (n : (List Int)×(List (ByteArray×Int×Int))) (v16:Int) (l1 : List (List Int)) (q5_5 : Bool×(List Int)) : Option (Sum Unit Unit) :=
 bif (!q5_5.1) then
 some (Sum.inr ())
 else
 bif (ByteArray.toList ((rd (Ty.z T1) n.2 v16).1) == ByteArray.toList (ByteArray.mk #[115,107,105,112])) then
 bindF (f102 (n.1,n.2) v16 l1) fun r8 =>
 bif (!r8) then
 some (Sum.inr ())
 else
 some (Sum.inl ())
 else
 some (Sum.inl ())
def f70_l3 (n : (List Int)×(List (ByteArray×Int×Int))) (go : (Int×(List (List Int))) → Option (Sum Unit (List (List Int)))) (v16:Int) (l1 : List (List Int)) : Option (Sum Unit (List (List Int))) :=
 bif (decide (v16 < (List.length n.2:Int))) then
 guardF (0 ≤ v16 ∧ v16 < (List.length n.2:Int)) <|
 guardF (0 ≤ v16 ∧ v16 < (List.length l1:Int)) <|
 bindF (f101 ((rd (Ty.z T1) n.2 v16).1,((rd (Ty.z T1) n.2 v16).2).1,((rd (Ty.z T1) n.2 v16).2).2) (rd (Ty.z T4) l1 v16)) fun q5_5 =>
 bindF (f70_j4 n v16 l1 q5_5) fun z7 =>
 sumF z7 (fun z7a =>
 guardF ((List.length l1 + List.length ([q5_5.2])) * 24 ≤ 140737488355328) <|
 go ((i64.wrap (v16 + (1:Int))),(l1 ++ ([q5_5.2])))) (fun z7b =>
 some (Sum.inl ()))
 else
 some (Sum.inr l1)
def f70 (n : (List Int)×(List (ByteArray×Int×Int))) : Option (Bool×(List (List Int))) :=
 bindF (f82 n.1) fun r1 =>
 bindF (loopF (fun go x=>f70_l3 n go x.1 x.2) fuelN ((0:Int),[r1])) fun z6 =>
 sumF z6 (fun z6a =>
 some (false,[])) (fun z6b =>
 some (true,z6b))
def C70 : Con where
 X := (List Int)×(List (ByteArray×Int×Int))
 Y := Bool×(List (List Int))
 e := 0
 args x := [.dat T2 x]
 hin x := []
 F x := f70 x
 ret y := [O0 0,.dat .bool y.1]
 hout y := [(0,.arr 30 T4 y.2)]
 nout := 1
theorem C70_vc (n : (List Int)×(List (ByteArray×Int×Int))) (y : Bool×(List (List Int))) (hF : f70 n = some y) : VC Tryz.f70 C70 n y := by
 unfold f70 at hF
 refine OL (OL ?_)
 obtain ⟨r1,hr1,hF⟩ := bindE hF
 refine OL (AI f82_in (callV0 (callI C82 n.1 r1 [] false C82_holds hr1 rfl rfl (AI rfl (AI (fun h=>nomatch h) (R2 (AI TV (AI TV (OL (OL (OL ?_)))))))))))
 obtain ⟨z6,hz6,hF⟩ := bindE hF
 refine loopI (Int×(List (List Int))) (Sum Unit (List (List Int))) (fun x=>⟨[(1,P0 0 0),(4,O0 1),(14,.dat T3 n.2),(15,.dat T0 (List.length n.2:Int)),(16,.dat T0 x.1)],[(0,.cells [(.d T4 n.1),(.d T3 n.2)]),(1,.arr 30 T4 x.2)],2⟩) (fun z=>Sum.elim (fun za=>[(1,⟨[(2,.raw false [N0]),(3,.dat .bool false)],[],0⟩)]) (fun zb=>[(2,⟨[(4,O0 0)],[(0,.arr 30 T4 zb)],1⟩)]) z) (loopF (fun go x=>f70_l3 n go x.1 x.2)) fuelN ((0:Int),[r1]) z6 (AI hz6 (AI (E4 [(0,some 0),(1,some 2)] (R4 (AI (R2 TV) (R2 TV)))) (AI (fun _ _ h=>loopZ h) (AI (fun m=>curI (fun v16=>fun l1 z hF=>?_)) ?_))))
 ·have hF : f70_l3 n (loopF (fun go x=>f70_l3 n go x.1 x.2) m) v16 l1 = some z := hF
  unfold f70_l3 at hF
  refine OL (OL (condI hF (fun hF=>?_) (fun hF=>?_)))
  ·refine OL (OL (guardI hF (fun hF=>?_)))
   refine OL (OL (EI (.take 0 (.take 1 (.take 2 (.take 3 (.take 4 (.alt 5 (.take 6 (.take 7 (.take 8 (.take 9 (.take 10 .done))))) .done)))))) (EI [] (EI [] (AI rfl (guardI hF (fun hF=>?_)))))))
   refine AI TV ?_
   obtain ⟨q5_5,hq5_5,hF⟩ := bindE hF
   refine OL (AI f101_in (callV0 (callI C101 (((rd (Ty.z T1) n.2 v16).1,((rd (Ty.z T1) n.2 v16).2).1,((rd (Ty.z T1) n.2 v16).2).2),(rd (Ty.z T4) l1 v16)) q5_5 [] false C101_holds hq5_5 rfl rfl (R3 (AI (fun h=>nomatch h) (R2 (AI TV (AI TV ?_))))))))
   obtain ⟨z7,hz7,hF⟩ := bindE hF
   refine OQ ⟨Sum.elim (fun z7a=>[(0,⟨[(1,P0 0 0),(4,O0 1),(7,O0 2),(14,.dat T3 n.2),(15,.dat T0 (List.length n.2:Int)),(16,.dat T0 v16)],[(0,.cells [(.d T4 n.1),(.d T3 n.2)]),(1,.arr 30 T4 l1),(2,.arr 3 T0 q5_5.2)],3⟩)]) (fun z7b=>[(1,⟨[(2,.raw false [N0]),(3,.dat .bool false)],[],0⟩)]) z7,?_,?_⟩
   ·have hF := hz7
    clear hz7
    unfold f70_j4 at hF
    refine OL (condN hF (fun hF=>?_) (fun hF=>?_))
    ·refine gdYF (gdYF (gdYF (condI hF (fun hF=>?_) (fun hF=>?_))))
     ·refine gdYT (gdYT (gdYT ?_))
      obtain ⟨r8,hr8,hF⟩ := bindE hF
      refine OL (AI f102_in (callV0 (callI C102 ((n.1,n.2),v16,l1) r8 [] true C102_holds hr8 rfl rfl (R4 (AI (fun _=>rfl) (R2 (AI TV (AI TV (gdYT (gdYF (condT (condF (condI hF (fun hF=>?_) (fun hF=>?_))))))))))))))
      ·refine OL ?_
       have hz := someE hF
       subst hz
       refine E4 [] (R2 (AI (AI rfl TV) TV))
      have hz := someE hF
      subst hz
      refine E4 [(0,some 0),(1,some 1),(2,some 3)] (R4 (AI (R3 TV) (R3 TV)))
     refine gdNT (gdNT (gdNT (gdNT (gdYF (condF (condF (condF ?_)))))))
     have hz := someE hF
     subst hz
     refine E4 [(0,some 0),(1,some 1),(2,some 3)] (R4 (AI (R3 TV) (R3 TV)))
    refine gdNF (gdNF (gdNF (gdNF (condT (condT (OL ?_))))))
    have hz := someE hF
    subst hz
    refine E4 [] (R2 (AI (AI rfl TV) TV))
   rcases z7 with z7a | z7b
   ·dsimp only [sumF] at hF
    refine AI (OL (OL (guardI hF (fun hF=>?_)))) TV
    refine EI ((i64.wrap (v16 + (1:Int))),(l1 ++ ([q5_5.2]))) (AI hF (E4 [(0,some 0),(1,some 4)] (R4 (AI (R2 TV) (R2 TV)))))
   dsimp only [sumF] at hF
   refine AI ?_ TV
   have hz := someE hF
   subst hz
   refine E4 [] (R2 (AI (AI rfl TV) TV))
  have hz := someE hF
  subst hz
  refine E4 [(0,some 1)] (AI rfl (AI (AI rfl TV) (AI rfl TV)))
 rcases z6 with z6a | z6b
 ·dsimp only [sumF] at hF
  refine AI ?_ TV
  have hy := someE hF
  subst hy
  refine AI rfl (E4 [(0,none)] (R2 (AI (AI rfl TV) (AI rfl TV))))
 dsimp only [sumF] at hF
 refine AI (OL ?_) TV
 have hy := someE hF
 subst hy
 refine AI rfl (E4 [(0,some 0)] (R2 (AI (AI rfl TV) (AI rfl TV))))
theorem C70_holds : C70.Holds Tryz.prog 70 := holds_of_vc tab_ok mixed (fn := Tryz.f70) (by kernel_rfl) rfl C70 (fun x y hF=>C70_vc x y hF)
theorem f70_in : InP 70 := ⟨Tryz.f70,by kernel_rfl,by kernel_rfl,by kernel_rfl⟩
def f44_l1 (d : List Int) (go : (Int×Int) → Option Int) (n:Int) (v8:Int) : Option Int :=
 bif (decide (v8 < (List.length d:Int))) then
 guardF (0 ≤ v8 ∧ v8 < (List.length d:Int)) <|
 go ((i64.wrap (n * (rd (0:Int) d v8))),(i64.wrap (v8 + (1:Int))))
 else
 some n
def f44 (d : List Int) : Option Int :=
 bindF (loopF (fun go x=>f44_l1 d go x.1 x.2) fuelN ((1:Int),(0:Int))) fun z1 =>
 some z1
def C44 : Con where
 X := List Int
 Y := Int
 e := 0
 args x := [.dat T4 x]
 hin x := []
 F x := f44 x
 ret y := [.dat T0 y]
 hout y := []
 nout := 0
theorem C44_vc (d : List Int) (y:Int) (hF : f44 d = some y) : VC Tryz.f44 C44 d y := by
 unfold f44 at hF
 refine OL (OL (OL (OL ?_)))
 obtain ⟨z1,hz1,hF⟩ := bindE hF
 refine loopI (Int×Int) Int (fun x=>⟨[(3,.dat T0 x.1),(6,.dat T4 d),(7,.dat T0 (List.length d:Int)),(8,.dat T0 x.2)],[],0⟩) (fun z=>[(2,⟨[(3,.dat T0 z)],[],0⟩)]) (loopF (fun go x=>f44_l1 d go x.1 x.2)) fuelN ((1:Int),(0:Int)) z1 (AI hz1 (AI (E4 [] (R5 (AI TV TV))) (AI (fun _ _ h=>loopZ h) (AI (fun m=>curI (fun n=>fun v8 z hF=>?_)) ?_))))
 ·have hF : f44_l1 d (loopF (fun go x=>f44_l1 d go x.1 x.2) m) n v8 = some z := hF
  unfold f44_l1 at hF
  refine OL (OL (condI hF (fun hF=>?_) (fun hF=>?_)))
  ·refine OL (OL (guardI hF (fun hF=>?_)))
   refine EI ((i64.wrap (n * (rd (0:Int) d v8))),(i64.wrap (v8 + (1:Int)))) (AI hF (E4 [] (R5 (AI TV TV))))
  have hz := someE hF
  subst hz
  refine E4 [] (R2 (AI TV TV))
 refine AI (OL ?_) TV
 have hy := someE hF
 subst hy
 refine AI rfl (E4 [] (R2 (AI TV TV)))
theorem C44_holds : C44.Holds Tryz.prog 44 := holds_of_vc tab_ok mixed (fn := Tryz.f44) (by kernel_rfl) rfl C44 (fun x y hF=>C44_vc x y hF)
theorem f44_in : InP 44 := ⟨Tryz.f44,by kernel_rfl,by kernel_rfl,by kernel_rfl⟩
def f71 (l : ByteArray×Int×Int) (in_ : List Int) : Option (List (List Int)) :=
 bif (ByteArray.toList l.1 == ByteArray.toList (ByteArray.mk #[100,101,110,115,101])) then
 bindF (f44 in_) fun q3_3 =>
 some ([[l.2.1,q3_3],[l.2.1]])
 else
 bif (ByteArray.toList l.1 == ByteArray.toList (ByteArray.mk #[99,111,110,118])) then
 guardF (0 ≤ (0:Int) ∧ (0:Int) < (List.length in_:Int)) <|
 some ([[l.2.1,(rd (0:Int) in_ (0:Int)),l.2.2]])
 else
 some ([])
def C71 : Con where
 X := (ByteArray×Int×Int)×(List Int)
 Y := List (List Int)
 e := 0
 args x := [.dat T1 x.1,.dat T4 x.2]
 hin x := []
 F x := f71 x.1 x.2
 ret y := [O0 0]
 hout y := [(0,.arr 30 T4 y)]
 nout := 1
theorem C71_vc (l : ByteArray×Int×Int) (in_ : List Int) (y : List (List Int)) (hF : f71 l in_ = some y) : VC Tryz.f71 C71 (l,in_) y := by
 unfold f71 at hF
 refine OL (OL (OL (OL (condI hF (fun hF=>?_) (fun hF=>?_)))))
 ·refine OL ?_
  obtain ⟨q3_3,hq3_3,hF⟩ := bindE hF
  refine EI (.take 0 (.take 1 (.take 2 (.take 5 (.take 6 (.alt 3 (.alt 4 (.alt 7 (.alt 8 (.take 9 .done) .done) .done) (.alt 7 (.alt 4 (.alt 8 (.take 9 .done) .done) .done) .done)) (.alt 7 (.alt 3 (.alt 4 (.alt 8 (.take 9 .done) .done) .done) .done) .done))))))) (EI [] (EI [] (AI rfl (AI (AI TV ?_) ?_))))
  ·refine OL (AI TV (OL (AI f44_in (callV0 (callI C44 in_ q3_3 [] false C44_holds hq3_3 rfl rfl (AI rfl (AI (fun h=>nomatch h) (R2 (AI TV (AI TV (AI TV (OL (AI TV (OL ?_))))))))))))))
   have hy := someE hF
   subst hy
   refine AI rfl (E4 [(0,some 3)] (AI rfl (AI (AI rfl TV) (AI rfl TV))))
  refine OL (AI f44_in (callV0 (callI C44 in_ q3_3 [] false C44_holds hq3_3 rfl rfl (AI rfl (AI (fun h=>nomatch h) (R2 (AI TV (AI TV (AI (AI TV ?_) ?_)))))))))
  ·refine OL (AI TV (OL (AI TV (OL ?_))))
   have hy := someE hF
   subst hy
   refine AI rfl (E4 [(0,some 3)] (AI rfl (AI (AI rfl TV) (AI rfl TV))))
  refine OL (AI TV (OL (AI TV (OL ?_))))
  have hy := someE hF
  subst hy
  refine AI rfl (E4 [(0,some 3)] (AI rfl (AI (AI rfl TV) (AI rfl TV))))
 refine OL (condI hF (fun hF=>?_) (fun hF=>?_))
 ·refine OL (EI (.take 0 (.take 1 (.take 2 (.take 3 (.take 4 (.take 5 (.take 6 (.alt 7 (.alt 8 (.take 9 .done) .done) .done)))))))) (EI [] (EI [] (AI rfl (guardI hF (fun hF=>?_))))))
  refine AI TV (OL (AI TV (OL ?_)))
  have hy := someE hF
  subst hy
  refine AI rfl (E4 [(0,some 2)] (AI rfl (AI (AI rfl TV) (AI rfl TV))))
 refine OL ?_
 have hy := someE hF
 subst hy
 refine AI rfl (E4 [(0,none)] (AI rfl (AI (AI rfl TV) (AI rfl TV))))
theorem C71_holds : C71.Holds Tryz.prog 71 := holds_of_vc tab_ok mixed (fn := Tryz.f71) (by kernel_rfl) rfl C71 (fun x y hF=>C71_vc x.1 x.2 y hF)
theorem f71_in : InP 71 := ⟨Tryz.f71,by kernel_rfl,by kernel_rfl,by kernel_rfl⟩
def f103_j4 (d : List Int) (v11:Int) : Option (Sum Unit Unit) :=
 bif (decide ((rd (0:Int) d v11) < (1:Int))) then
 some (Sum.inr ())
 else
 bif (decide ((rd (0:Int) d v11) > (4096:Int))) then
 some (Sum.inr ())
 else
 some (Sum.inl ())
def f103_l3 (d : List Int) (go : (Int×Int) → Option (Sum Unit Int)) (n:Int) (v11:Int) : Option (Sum Unit Int) :=
 bif (decide (v11 < (List.length d:Int))) then
 guardF (0 ≤ v11 ∧ v11 < (List.length d:Int)) <|
 bindF (f103_j4 d v11) fun z4 =>
 sumF z4 (fun z4a =>
 bif (decide ((i64.wrap (n * (rd (0:Int) d v11))) > (4096:Int))) then
 some (Sum.inl ())
 else
 go ((i64.wrap (n * (rd (0:Int) d v11))),(i64.wrap (v11 + (1:Int))))) (fun z4b =>
 some (Sum.inl ()))
 else
 some (Sum.inr n)
def f103 (d : List Int) : Option Int :=
 bif (decide ((List.length d:Int) > (4:Int))) then
 some (0:Int)
 else
 bindF (loopF (fun go x=>f103_l3 d go x.1 x.2) fuelN ((1:Int),(0:Int))) fun z3 =>
 sumF z3 (fun z3a =>
 some (0:Int)) (fun z3b =>
 some z3b)
def C103 : Con where
 X := List Int
 Y := Int
 e := 0
 args x := [.dat T4 x]
 hin x := []
 F x := f103 x
 ret y := [.dat T0 y]
 hout y := []
 nout := 0
theorem C103_vc (d : List Int) (y:Int) (hF : f103 d = some y) : VC Tryz.f103 C103 d y := by
 unfold f103 at hF
 refine OL (OL (OL (condI hF (fun hF=>?_) (fun hF=>?_))))
 ·refine OL ?_
  have hy := someE hF
  subst hy
  refine AI rfl (E4 [] (R2 (AI TV TV)))
 refine OL (OL (OL ?_))
 obtain ⟨z3,hz3,hF⟩ := bindE hF
 refine loopI (Int×Int) (Sum Unit Int) (fun x=>⟨[(3,.dat T0 x.1),(9,.dat T4 d),(10,.dat T0 (List.length d:Int)),(11,.dat T0 x.2)],[],0⟩) (fun z=>Sum.elim (fun za=>[(1,⟨[(2,D0 0)],[],0⟩)]) (fun zb=>[(2,⟨[(3,.dat T0 zb)],[],0⟩)]) z) (loopF (fun go x=>f103_l3 d go x.1 x.2)) fuelN ((1:Int),(0:Int)) z3 (AI hz3 (AI (E4 [] (R5 (AI TV TV))) (AI (fun _ _ h=>loopZ h) (AI (fun m=>curI (fun n=>fun v11 z hF=>?_)) ?_))))
 ·have hF : f103_l3 d (loopF (fun go x=>f103_l3 d go x.1 x.2) m) n v11 = some z := hF
  unfold f103_l3 at hF
  refine OL (OL (condI hF (fun hF=>?_) (fun hF=>?_)))
  ·refine OL (OL (guardI hF (fun hF=>?_)))
   obtain ⟨z4,hz4,hF⟩ := bindE hF
   refine OQ ⟨Sum.elim (fun z4a=>[(0,⟨[(3,.dat T0 n),(5,.dat T0 (rd (0:Int) d v11)),(9,.dat T4 d),(10,.dat T0 (List.length d:Int)),(11,.dat T0 v11)],[],0⟩)]) (fun z4b=>[(1,⟨[(2,D0 0)],[],0⟩)]) z4,?_,?_⟩
   ·have hF := hz4
    clear hz4
    unfold f103_j4 at hF
    refine OL (condN hF (fun hF=>?_) (fun hF=>?_))
    ·refine gdYF (condF (condI hF (fun hF=>?_) (fun hF=>?_)))
     ·refine OL ?_
      have hz := someE hF
      subst hz
      refine E4 [] (R2 (AI TV TV))
     have hz := someE hF
     subst hz
     refine E4 [] (R6 (AI TV TV))
    refine gdNF (condT (condT (OL ?_)))
    have hz := someE hF
    subst hz
    refine E4 [] (R2 (AI TV TV))
   rcases z4 with z4a | z4b
   ·dsimp only [sumF] at hF
    refine AI (OL (OL (condI hF (fun hF=>?_) (fun hF=>?_)))) TV
    ·refine OL ?_
     have hz := someE hF
     subst hz
     refine E4 [] (R2 (AI TV TV))
    refine EI ((i64.wrap (n * (rd (0:Int) d v11))),(i64.wrap (v11 + (1:Int)))) (AI hF (E4 [] (R5 (AI TV TV))))
   dsimp only [sumF] at hF
   refine AI ?_ TV
   have hz := someE hF
   subst hz
   refine E4 [] (R2 (AI TV TV))
  have hz := someE hF
  subst hz
  refine E4 [] (R2 (AI TV TV))
 rcases z3 with z3a | z3b
 ·dsimp only [sumF] at hF
  refine AI ?_ TV
  have hy := someE hF
  subst hy
  refine AI rfl (E4 [] (R2 (AI TV TV)))
 dsimp only [sumF] at hF
 refine AI (OL ?_) TV
 have hy := someE hF
 subst hy
 refine AI rfl (E4 [] (R2 (AI TV TV)))
theorem C103_holds : C103.Holds Tryz.prog 103 := holds_of_vc tab_ok mixed (fn := Tryz.f103) (by kernel_rfl) rfl C103 (fun x y hF=>C103_vc x y hF)
theorem f103_in : InP 103 := ⟨Tryz.f103,by kernel_rfl,by kernel_rfl,by kernel_rfl⟩
def f72 (d : List Int) : Option Bool :=
 bindF (f103 d) fun r1 =>
 some (decide (r1 > (0:Int)))
def C72 : Con where
 X := List Int
 Y := Bool
 e := 0
 args x := [.dat T4 x]
 hin x := []
 F x := f72 x
 ret y := [.dat .bool y]
 hout y := []
 nout := 0
theorem C72_vc (d : List Int) (y : Bool) (hF : f72 d = some y) : VC Tryz.f72 C72 d y := by
 unfold f72 at hF
 refine OL (OL ?_)
 obtain ⟨r1,hr1,hF⟩ := bindE hF
 refine OL (AI f103_in (callV0 (callI C103 d r1 [] false C103_holds hr1 rfl rfl (AI rfl (AI (fun h=>nomatch h) (R2 (AI TV (AI TV ?_))))))))
 have hy := someE hF
 subst hy
 refine AI rfl (E4 [] (R2 (AI TV TV)))
theorem C72_holds : C72.Holds Tryz.prog 72 := holds_of_vc tab_ok mixed (fn := Tryz.f72) (by kernel_rfl) rfl C72 (fun x y hF=>C72_vc x y hF)
theorem f72_in : InP 72 := ⟨Tryz.f72,by kernel_rfl,by kernel_rfl,by kernel_rfl⟩
def f43_l4 (q5_5 : List (List Int)) (go : (Int×Bool×Int) → Option (Int×Bool)) (many_2:Int) (ok_2 : Bool) (v31:Int) : Option (Int×Bool) :=
 bif (decide (v31 < (List.length q5_5:Int))) then
 guardF (0 ≤ v31 ∧ v31 < (List.length q5_5:Int)) <|
 bindF (f44 (rd (Ty.z T4) q5_5 v31)) fun r25 =>
 bif ok_2 then
 bindF (f72 (rd (Ty.z T4) q5_5 v31)) fun r26 =>
 go ((i64.wrap (many_2 + r25)),r26,(i64.wrap (v31 + (1:Int))))
 else
 go ((i64.wrap (many_2 + r25)),false,(i64.wrap (v31 + (1:Int))))
 else
 some (many_2,ok_2)
def f43_l3 (n : (List Int)×(List (ByteArray×Int×Int))) (d : List (List Int)) (go : (Int×Bool×Int) → Option (Int×Bool)) (many:Int) (ok : Bool) (v19:Int) : Option (Int×Bool) :=
 bif (decide (v19 < (List.length n.2:Int))) then
 guardF (0 ≤ v19 ∧ v19 < (List.length n.2:Int)) <|
 guardF (0 ≤ v19 ∧ v19 < (List.length d:Int)) <|
 bindF (f71 ((rd (Ty.z T1) n.2 v19).1,((rd (Ty.z T1) n.2 v19).2).1,((rd (Ty.z T1) n.2 v19).2).2) (rd (Ty.z T4) d v19)) fun q5_5 =>
 bindF (loopF (fun go x=>f43_l4 q5_5 go x.1 x.2.1 x.2.2) fuelN (many,ok,(0:Int))) fun z24 =>
 bif z24.2 then
 guardF (0 ≤ v19 ∧ v19 < (List.length d:Int)) <|
 bindF (f72 (rd (Ty.z T4) d v19)) fun r27 =>
 bif r27 then
 guardF (0 ≤ (i64.wrap (v19 + (1:Int))) ∧ (i64.wrap (v19 + (1:Int))) < (List.length d:Int)) <|
 bindF (f72 (rd (Ty.z T4) d (i64.wrap (v19 + (1:Int))))) fun r28 =>
 go (z24.1,r28,(i64.wrap (v19 + (1:Int))))
 else
 go (z24.1,false,(i64.wrap (v19 + (1:Int))))
 else
 go (z24.1,false,(i64.wrap (v19 + (1:Int))))
 else
 some (many,ok)
def f43 (n : (List Int)×(List (ByteArray×Int×Int))) (d : List (List Int)) : Option (Int×Bool) :=
 bindF (loopF (fun go x=>f43_l3 n d go x.1 x.2.1 x.2.2) fuelN ((0:Int),(decide ((List.length n.2:Int) ≤ (16:Int))),(0:Int))) fun z19 =>
 bif z19.2 then
 bindF (f72 n.1) fun r29 =>
 bif r29 then
 some (z19.1,(decide (z19.1 ≤ (4096:Int))))
 else
 some (z19.1,false)
 else
 some (z19.1,false)
def C43 : Con where
 X := ((List Int)×(List (ByteArray×Int×Int)))×(List (List Int))
 Y := Int×Bool
 e := 0
 args x := [.dat T2 x.1,.dat T5 x.2]
 hin x := []
 F x := f43 x.1 x.2
 ret y := [.dat T0 y.1,.dat .bool y.2]
 hout y := []
 nout := 0
theorem C43_vc (n : (List Int)×(List (ByteArray×Int×Int))) (d : List (List Int)) (y : Int×Bool) (hF : f43 n d = some y) : VC Tryz.f43 C43 (n,d) y := by
 unfold f43 at hF
 refine OL (OL (EI (.take 0 (.take 1 (.take 2 (.take 3 (.take 4 (.take 5 .done)))))) (EI [] (EI [] (AI rfl (OL (OL ?_)))))))
 obtain ⟨z19,hz19,hF⟩ := bindE hF
 refine loopI (Int×Bool×Int) (Int×Bool) (fun x=>⟨[(1,.dat T5 d),(2,P0 0 0),(6,.dat T0 x.1),(7,.dat .bool x.2.1),(17,.dat T3 n.2),(18,.dat T0 (List.length n.2:Int)),(19,.dat T0 x.2.2)],[(0,.cells [(.d T4 n.1),(.d T3 n.2)])],1⟩) (fun z=>[(2,⟨[(2,P0 0 0),(6,.dat T0 z.1),(7,.dat .bool z.2)],[(0,.cells [(.d T4 n.1),(.d T3 n.2)])],1⟩)]) (loopF (fun go x=>f43_l3 n d go x.1 x.2.1 x.2.2)) fuelN ((0:Int),(decide ((List.length n.2:Int) ≤ (16:Int))),(0:Int)) z19 (AI hz19 (AI (E4 [(0,some 0)] (R7 (AI (AI rfl TV) (AI rfl TV)))) (AI (fun _ _ h=>loopZ h) (AI (fun m=>curI (fun many=>curI (fun ok=>fun v19 z hF=>?_))) ?_))))
 ·have hF : f43_l3 n d (loopF (fun go x=>f43_l3 n d go x.1 x.2.1 x.2.2) m) many ok v19 = some z := hF
  unfold f43_l3 at hF
  refine OL (OL (condI hF (fun hF=>?_) (fun hF=>?_)))
  ·refine OL (OL (guardI hF (fun hF=>?_)))
   refine OL (OL (OL (EI (.take 0 (.take 1 (.take 2 (.take 3 (.take 4 (.take 7 (.alt 5 (.take 6 .done) .done))))))) (EI [] (EI [] (AI rfl (guardI hF (fun hF=>?_))))))))
   refine AI TV ?_
   obtain ⟨q5_5,hq5_5,hF⟩ := bindE hF
   refine OL (AI f71_in (callV0 (callI C71 (((rd (Ty.z T1) n.2 v19).1,((rd (Ty.z T1) n.2 v19).2).1,((rd (Ty.z T1) n.2 v19).2).2),(rd (Ty.z T4) d v19)) q5_5 [] false C71_holds hq5_5 rfl rfl (R3 (AI (fun h=>nomatch h) (R2 (AI TV (AI TV ?_))))))))
   obtain ⟨z24,hz24,hF⟩ := bindE hF
   refine loopI (Int×Bool×Int) (Int×Bool) (fun x=>⟨[(1,.dat T5 d),(2,P0 0 0),(6,.dat T0 x.1),(7,.dat .bool x.2.1),(8,.dat T0 v19),(17,.dat T3 n.2),(18,.dat T0 (List.length n.2:Int)),(19,.dat T0 v19),(29,O0 1),(30,.dat T0 (List.length q5_5:Int)),(31,.dat T0 x.2.2)],[(0,.cells [(.d T4 n.1),(.d T3 n.2)]),(1,.arr 30 T4 q5_5)],2⟩) (fun z=>[(4,⟨[(1,.dat T5 d),(2,P0 0 0),(6,.dat T0 z.1),(7,.dat .bool z.2),(8,.dat T0 v19),(17,.dat T3 n.2),(18,.dat T0 (List.length n.2:Int)),(19,.dat T0 v19)],[(0,.cells [(.d T4 n.1),(.d T3 n.2)])],1⟩)]) (loopF (fun go x=>f43_l4 q5_5 go x.1 x.2.1 x.2.2)) fuelN (many,ok,(0:Int)) z24 (AI hz24 (AI (E4 [(0,some 0),(1,some 2)] (R10 (AI (R2 TV) (R2 TV)))) (AI (fun _ _ h=>loopZ h) (AI (fun m=>curI (fun many_2=>curI (fun ok_2=>fun v31 z hF=>?_))) ?_))))
   ·have hF : f43_l4 q5_5 (loopF (fun go x=>f43_l4 q5_5 go x.1 x.2.1 x.2.2) m) many_2 ok_2 v31 = some z := hF
    unfold f43_l4 at hF
    refine OL (OL (condI hF (fun hF=>?_) (fun hF=>?_)))
    ·refine OL (OL (guardI hF (fun hF=>?_)))
     refine OL ?_
     obtain ⟨r25,hr25,hF⟩ := bindE hF
     refine OL (AI f44_in (callV0 (callI C44 (rd (Ty.z T4) q5_5 v31) r25 [] false C44_holds hr25 rfl rfl (AI rfl (AI (fun h=>nomatch h) (R2 (AI TV (AI TV (condI hF (fun hF=>?_) (fun hF=>?_))))))))))
     ·refine gdYT ?_
      obtain ⟨r26,hr26,hF⟩ := bindE hF
      refine OL (AI f72_in (callV0 (callI C72 (rd (Ty.z T4) q5_5 v31) r26 [] false C72_holds hr26 rfl rfl (AI rfl (AI (fun h=>nomatch h) (R2 (AI TV (AI TV (condT (EI ((i64.wrap (many_2 + r25)),r26,(i64.wrap (v31 + (1:Int)))) (AI hF (E4 [(0,some 0),(1,some 1)] (R10 (AI (R2 TV) (R2 TV)))))))))))))))
     refine gdNT (condF (EI ((i64.wrap (many_2 + r25)),false,(i64.wrap (v31 + (1:Int)))) (AI hF (E4 [(0,some 0),(1,some 1)] (R10 (AI (R2 TV) (R2 TV)))))))
    have hz := someE hF
    subst hz
    refine E4 [(0,some 0)] (R8 (AI (AI rfl TV) (AI rfl TV)))
   refine AI (condI hF (fun hF=>?_) (fun hF=>?_)) TV
   ·refine gdYT (gdYT (guardI hF (fun hF=>?_)))
    refine gdYT (gdYT ?_)
    obtain ⟨r27,hr27,hF⟩ := bindE hF
    refine OL (AI f72_in (callV0 (callI C72 (rd (Ty.z T4) d v19) r27 [] false C72_holds hr27 rfl rfl (AI rfl (AI (fun h=>nomatch h) (R2 (AI TV (AI TV (condT (condI hF (fun hF=>?_) (fun hF=>?_)))))))))))
    ·refine gdYT (gdYT (gdYT (guardI hF (fun hF=>?_))))
     refine gdYT (gdYT ?_)
     obtain ⟨r28,hr28,hF⟩ := bindE hF
     refine OL (AI f72_in (callV0 (callI C72 (rd (Ty.z T4) d (i64.wrap (v19 + (1:Int)))) r28 [] false C72_holds hr28 rfl rfl (AI rfl (AI (fun h=>nomatch h) (R2 (AI TV (AI TV (condT (EI (z24.1,r28,(i64.wrap (v19 + (1:Int)))) (AI hF (E4 [(0,some 0)] (R7 (AI (AI rfl TV) (AI rfl TV)))))))))))))))
    refine gdNT (gdNT (gdNT (gdNT (gdNT (condF (EI (z24.1,false,(i64.wrap (v19 + (1:Int)))) (AI hF (E4 [(0,some 0)] (R7 (AI (AI rfl TV) (AI rfl TV)))))))))))
   refine gdNT (gdNT (gdNT (gdNT (condF (gdNT (gdNT (gdNT (gdNT (gdNT (gdNT (condF (EI (z24.1,false,(i64.wrap (v19 + (1:Int)))) (AI hF (E4 [(0,some 0)] (R7 (AI (AI rfl TV) (AI rfl TV)))))))))))))))))
  have hz := someE hF
  subst hz
  refine E4 [(0,some 0)] (R3 (AI (AI rfl TV) (AI rfl TV)))
 refine AI (OL (condI hF (fun hF=>?_) (fun hF=>?_))) TV
 ·refine gdYT (gdYT ?_)
  obtain ⟨r29,hr29,hF⟩ := bindE hF
  refine OL (AI f72_in (callV0 (callI C72 n.1 r29 [] false C72_holds hr29 rfl rfl (AI rfl (AI (fun h=>nomatch h) (R2 (AI TV (AI TV (condT (condI hF (fun hF=>?_) (fun hF=>?_)))))))))))
  ·refine gdYT (condT ?_)
   have hy := someE hF
   subst hy
   refine AI rfl (E4 [] (R3 (AI TV TV)))
  refine gdNT (condF ?_)
  have hy := someE hF
  subst hy
  refine AI rfl (E4 [] (R3 (AI TV TV)))
 refine gdNT (gdNT (condF (gdNT (gdNT (condF ?_)))))
 have hy := someE hF
 subst hy
 refine AI rfl (E4 [] (R3 (AI TV TV)))
theorem C43_holds : C43.Holds Tryz.prog 43 := holds_of_vc tab_ok mixed (fn := Tryz.f43) (by kernel_rfl) rfl C43 (fun x y hF=>C43_vc x.1 x.2 y hF)
theorem f43_in : InP 43 := ⟨Tryz.f43,by kernel_rfl,by kernel_rfl,by kernel_rfl⟩
def f42 (n : (List Int)×(List (ByteArray×Int×Int))) : Option (Int×(List (List Int))) :=
 bindF (f69 (n.1,n.2)) fun r1 =>
 bif (!r1) then
 some ((1:Int),[])
 else
 bindF (f70 (n.1,n.2)) fun r2 =>
 bif (!r2.1) then
 some ((4:Int),[])
 else
 bindF (f43 (n.1,n.2) r2.2) fun r3 =>
 bif (!r3.2) then
 some ((2:Int),[])
 else
 some ((0:Int),r2.2)
def C42 : Con where
 X := (List Int)×(List (ByteArray×Int×Int))
 Y := Int×(List (List Int))
 e := 0
 args x := [.dat T2 x]
 hin x := []
 F x := f42 x
 ret y := [O0 0,.dat T0 y.1]
 hout y := [(0,.arr 30 T4 y.2)]
 nout := 1
theorem C42_vc (n : (List Int)×(List (ByteArray×Int×Int))) (y : Int×(List (List Int))) (hF : f42 n = some y) : VC Tryz.f42 C42 n y := by
 unfold f42 at hF
 refine OL (OL (OL ?_))
 obtain ⟨r1,hr1,hF⟩ := bindE hF
 refine OL (AI f69_in (callV0 (callI C69 (n.1,n.2) r1 [] false C69_holds hr1 rfl rfl (R2 (AI (fun h=>nomatch h) (R2 (AI TV (AI TV (condI hF (fun hF=>?_) (fun hF=>?_))))))))))
 ·refine OL ?_
  have hy := someE hF
  subst hy
  refine AI rfl (E4 [(0,none)] (R2 (AI (AI rfl TV) (AI rfl TV))))
 refine OL ?_
 obtain ⟨r2,hr2,hF⟩ := bindE hF
 refine OL (AI f70_in (callV0 (callI C70 (n.1,n.2) r2 [] false C70_holds hr2 rfl rfl (R2 (AI (fun h=>nomatch h) (R2 (AI TV (AI TV (OL (OL (condI hF (fun hF=>?_) (fun hF=>?_))))))))))))
 ·refine OL ?_
  have hy := someE hF
  subst hy
  refine AI rfl (E4 [(0,none)] (R2 (AI (AI rfl TV) (AI rfl TV))))
 refine OL (OL ?_)
 obtain ⟨r3,hr3,hF⟩ := bindE hF
 refine OL (AI f43_in (callV0 (callI C43 ((n.1,n.2),r2.2) r3 [] true C43_holds hr3 rfl rfl (R3 (AI (fun _=>rfl) (R2 (AI TV (AI TV (OL (condI hF (fun hF=>?_) (fun hF=>?_)))))))))))
 ·refine OL ?_
  have hy := someE hF
  subst hy
  refine AI rfl (E4 [(0,none)] (R2 (AI (AI rfl TV) (AI rfl TV))))
 refine OL ?_
 have hy := someE hF
 subst hy
 refine AI rfl (E4 [(0,some 1)] (R2 (AI (AI rfl TV) (AI rfl TV))))
theorem C42_holds : C42.Holds Tryz.prog 42 := holds_of_vc tab_ok mixed (fn := Tryz.f42) (by kernel_rfl) rfl C42 (fun x y hF=>C42_vc x y hF)
theorem f42_in : InP 42 := ⟨Tryz.f42,by kernel_rfl,by kernel_rfl,by kernel_rfl⟩
def f37 (n : (List Int)×(List (ByteArray×Int×Int))) : Option (Int×Int) :=
 bindF (f42 (n.1,n.2)) fun r1 =>
 bif (r1.1 != (0:Int)) then
 some ((0:Int),r1.1)
 else
 bindF (f43 (n.1,n.2) r1.2) fun r2 =>
 some (r2.1,(0:Int))
def C37 : Con where
 X := (List Int)×(List (ByteArray×Int×Int))
 Y := Int×Int
 e := 0
 args x := [.dat T2 x]
 hin x := []
 F x := f37 x
 ret y := [.dat T0 y.1,.dat T0 y.2]
 hout y := []
 nout := 0
theorem C37_vc (n : (List Int)×(List (ByteArray×Int×Int))) (y : Int×Int) (hF : f37 n = some y) : VC Tryz.f37 C37 n y := by
 unfold f37 at hF
 refine OL (OL ?_)
 obtain ⟨r1,hr1,hF⟩ := bindE hF
 refine OL (AI f42_in (callV0 (callI C42 (n.1,n.2) r1 [] false C42_holds hr1 rfl rfl (R2 (AI (fun h=>nomatch h) (R2 (AI TV (AI TV (OL (OL (condI hF (fun hF=>?_) (fun hF=>?_))))))))))))
 ·refine OL ?_
  have hy := someE hF
  subst hy
  refine AI rfl (E4 [] (R3 (AI TV TV)))
 refine OL ?_
 obtain ⟨r2,hr2,hF⟩ := bindE hF
 refine OL (AI f43_in (callV0 (callI C43 ((n.1,n.2),r1.2) r2 [] true C43_holds hr2 rfl rfl (R3 (AI (fun _=>rfl) (R2 (AI TV (AI TV (OL ?_)))))))))
 have hy := someE hF
 subst hy
 refine AI rfl (E4 [] (R3 (AI TV TV)))
theorem C37_holds : C37.Holds Tryz.prog 37 := holds_of_vc tab_ok mixed (fn := Tryz.f37) (by kernel_rfl) rfl C37 (fun x y hF=>C37_vc x y hF)
theorem f37_in : InP 37 := ⟨Tryz.f37,by kernel_rfl,by kernel_rfl,by kernel_rfl⟩
def f21 : Option Unit :=
 some ()
def C21 : Con where
 X := Unit
 Y := Unit
 e := 0
 args x := []
 hin x := []
 F x := f21
 ret y := [P0 0 0]
 hout y := [(0,.cells [(.osl 1)]),(1,.arr 132 T6 ([]))]
 nout := 2
theorem C21_vc (y : Unit) (hF : f21 = some y) : VC Tryz.f21 C21 () y := by
 unfold f21 at hF
 refine OL (OL ?_)
 have hy := someE hF
 subst hy
 refine AI rfl (E4 [(0,some 0),(1,none)] (AI rfl (AI (AI rfl TV) (R2 TV))))
theorem C21_holds : C21.Holds Tryz.prog 21 := holds_of_vc tab_ok mixed (fn := Tryz.f21) (by kernel_rfl) rfl C21 (fun x y hF=>C21_vc y hF)
theorem f21_in : InP 21 := ⟨Tryz.f21,by kernel_rfl,by kernel_rfl,by kernel_rfl⟩
def f45 (t_l : List (Int×Int×Int×Int×(List Int)×(List Int))) : Option (Int×(List (Int×Int×Int×Int×(List Int)×(List Int)))) :=
 some ((List.length t_l:Int),t_l)
def C45 : Con where
 X := List (Int×Int×Int×Int×(List Int)×(List Int))
 Y := Int×(List (Int×Int×Int×Int×(List Int)×(List Int)))
 e := 2
 args x := [P0 0 0]
 hin x := [(0,.cells [(.osl 1)]),(1,.arr 132 T6 x)]
 F x := f45 x
 ret y := [.dat T0 y.1]
 hout y := [(0,.cells [(.osl 1)]),(1,.arr 132 T6 y.2)]
 nout := 2
theorem C45_vc (t_l : List (Int×Int×Int×Int×(List Int)×(List Int))) (y : Int×(List (Int×Int×Int×Int×(List Int)×(List Int)))) (hF : f45 t_l = some y) : vc Tryz.prog tab Tryz.f45.ntmps 2 (match Tryz.f45.body with | some c=>c | none=>.skip) (retK tab C45 Tryz.f45.results.toList y) (C45.shIn t_l).st := by
 unfold f45 at hF
 refine OL (OL ?_)
 have hy := someE hF
 subst hy
 refine AI rfl (E4 [(0,some 0),(1,some 1)] (R2 (AI TV (R2 TV))))
theorem C45_holds : C45.Holds Tryz.prog 45 := holds_of_vc tab_ok mixed (fn := Tryz.f45) (by kernel_rfl) rfl C45 (fun x y hF=>C45_vc x y hF)
theorem f45_in : InP 45 := ⟨Tryz.f45,by kernel_rfl,by kernel_rfl,by kernel_rfl⟩
def f83 (d : List Int) : Option Int :=
 bindF (f103 d) fun r1 =>
 some r1
def C83 : Con where
 X := List Int
 Y := Int
 e := 0
 args x := [.dat T4 x]
 hin x := []
 F x := f83 x
 ret y := [.dat T0 y]
 hout y := []
 nout := 0
theorem C83_vc (d : List Int) (y:Int) (hF : f83 d = some y) : VC Tryz.f83 C83 d y := by
 unfold f83 at hF
 refine OL (OL ?_)
 obtain ⟨r1,hr1,hF⟩ := bindE hF
 refine OL (AI f103_in (callV0 (callI C103 d r1 [] false C103_holds hr1 rfl rfl (AI rfl (AI (fun h=>nomatch h) (R2 (AI TV (AI TV ?_))))))))
 have hy := someE hF
 subst hy
 refine AI rfl (E4 [] (R2 (AI TV TV)))
theorem C83_holds : C83.Holds Tryz.prog 83 := holds_of_vc tab_ok mixed (fn := Tryz.f83) (by kernel_rfl) rfl C83 (fun x y hF=>C83_vc x y hF)
theorem f83_in : InP 83 := ⟨Tryz.f83,by kernel_rfl,by kernel_rfl,by kernel_rfl⟩
def f86 (t : (List Int)×(List Int)) : Option Bool :=
 bindF (f72 t.1) fun q1_2 =>
 bif q1_2 then
 bindF (f83 t.1) fun q1_9 =>
 some ((List.length t.2:Int) == q1_9)
 else
 some false
def C86 : Con where
 X := (List Int)×(List Int)
 Y := Bool
 e := 0
 args x := [.dat T7 x]
 hin x := []
 F x := f86 x
 ret y := [.dat .bool y]
 hout y := []
 nout := 0
theorem C86_vc (t : (List Int)×(List Int)) (y : Bool) (hF : f86 t = some y) : VC Tryz.f86 C86 t y := by
 unfold f86 at hF
 refine OL (OL (EI (.take 0 (.take 1 (.alt 2 (.take 3 (.take 4 (.take 5 (.take 6 (.take 7 (.take 8 (.alt 9 (.take 10 (.take 11 (.take 12 .done))) .done))))))) .done))) (EI [] (EI [] (AI rfl (AI TV ?_))))))
 obtain ⟨q1_2,hq1_2,hF⟩ := bindE hF
 refine OL (AI f72_in (callV0 (callI C72 t.1 q1_2 [] false C72_holds hq1_2 rfl rfl (AI rfl (AI (fun h=>nomatch h) (R2 (AI TV (AI TV (condI hF (fun hF=>?_) (fun hF=>?_))))))))))
 ·refine gdYT (gdYT (gdYT (gdYT (AI TV (gdYT ?_)))))
  obtain ⟨q1_9,hq1_9,hF⟩ := bindE hF
  refine OL (AI f83_in (callV0 (callI C83 t.1 q1_9 [] false C83_holds hq1_9 rfl rfl (AI rfl (AI (fun h=>nomatch h) (R2 (AI TV (AI TV (gdYT (condT ?_))))))))))
  have hy := someE hF
  subst hy
  refine AI rfl (E4 [] (R2 (AI TV TV)))
 refine gdNT (gdNT (gdNT (gdNT (AI TV (gdNT (gdNT (condF ?_)))))))
 have hy := someE hF
 subst hy
 refine AI rfl (E4 [] (R2 (AI TV TV)))
theorem C86_holds : C86.Holds Tryz.prog 86 := holds_of_vc tab_ok mixed (fn := Tryz.f86) (by kernel_rfl) rfl C86 (fun x y hF=>C86_vc x y hF)
theorem f86_in : InP 86 := ⟨Tryz.f86,by kernel_rfl,by kernel_rfl,by kernel_rfl⟩
def f60 (s : List Int) : Option (List Int) :=
 nilF s
 (some ([]))
 (guardF ((List.length ([] : List Int) + List.length s) * 8 ≤ 140737488355328) <|
 some (([] : List Int) ++ s))
def C60 : Con where
 X := List Int
 Y := List Int
 e := 0
 args x := [.dat T4 x]
 hin x := []
 F x := f60 x
 ret y := [O0 0]
 hout y := [(0,.arr 23 T0 y)]
 nout := 1
theorem C60_vc (s : List Int) (y : List Int) (hF : f60 s = some y) : VC Tryz.f60 C60 s y := by
 unfold f60 at hF
 refine OL (OL (OL (nilI hF (fun hF=>?_) (fun hF=>?_))))
 ·refine condT (OL ?_)
  have hy := someE hF
  subst hy
  refine AI rfl (E4 [(0,none)] (AI rfl (AI (AI rfl TV) (AI rfl TV))))
 refine condF (OL (OL (OL (guardI hF (fun hF=>?_)))))
 have hy := someE hF
 subst hy
 refine AI rfl (E4 [(0,some 1)] (AI rfl (AI (AI rfl TV) (AI rfl TV))))
theorem C60_holds : C60.Holds Tryz.prog 60 := holds_of_vc tab_ok mixed (fn := Tryz.f60) (by kernel_rfl) rfl C60 (fun x y hF=>C60_vc x y hF)
theorem f60_in : InP 60 := ⟨Tryz.f60,by kernel_rfl,by kernel_rfl,by kernel_rfl⟩
def f85 (t : (List Int)×(List Int)) : Option ((List Int)×(List Int)) :=
 bindF (f82 t.1) fun q1_2 =>
 bindF (f60 t.2) fun q1_5 =>
 some (q1_2,q1_5)
def C85 : Con where
 X := (List Int)×(List Int)
 Y := (List Int)×(List Int)
 e := 0
 args x := [.dat T7 x]
 hin x := []
 F x := f85 x
 ret y := [.raw true [(.osl 0),(.osl 1)]]
 hout y := [(0,.arr 3 T0 y.1),(1,.arr 23 T0 y.2)]
 nout := 2
theorem C85_vc (t : (List Int)×(List Int)) (y : (List Int)×(List Int)) (hF : f85 t = some y) : VC Tryz.f85 C85 t y := by
 unfold f85 at hF
 refine OL (OL (EI (.take 0 (.take 1 (.take 3 (.take 4 (.alt 2 (.alt 5 (.take 6 (.alt 7 .done .done)) .done) .done))))) (EI [] (EI [] (AI rfl (AI TV ?_))))))
 obtain ⟨q1_2,hq1_2,hF⟩ := bindE hF
 refine OL (AI f82_in (callV0 (callI C82 t.1 q1_2 [] false C82_holds hq1_2 rfl rfl (AI rfl (AI (fun h=>nomatch h) (R2 (AI TV (AI TV (AI TV ?_)))))))))
 obtain ⟨q1_5,hq1_5,hF⟩ := bindE hF
 refine OL (AI f60_in (callV0 (callI C60 t.2 q1_5 [] false C60_holds hq1_5 rfl rfl (AI rfl (AI (fun h=>nomatch h) (R2 (AI TV (AI TV (AI TV (OL ?_))))))))))
 have hy := someE hF
 subst hy
 refine AI rfl (E4 [(0,some 2),(1,some 3)] (AI rfl (AI (AI rfl TV) (R2 TV))))
theorem C85_holds : C85.Holds Tryz.prog 85 := holds_of_vc tab_ok mixed (fn := Tryz.f85) (by kernel_rfl) rfl C85 (fun x y hF=>C85_vc x y hF)
theorem f85_in : InP 85 := ⟨Tryz.f85,by kernel_rfl,by kernel_rfl,by kernel_rfl⟩
def f104 (t_l : List (Int×Int×Int×Int×(List Int)×(List Int))) (n : Int×Int×Int×Int×(List Int)×(List Int)) : Option (Int×(List (Int×Int×Int×Int×(List Int)×(List Int)))) :=
 guardF ((List.length t_l + List.length ([(n.1,n.2.1,n.2.2.1,n.2.2.2.1,n.2.2.2.2.1,n.2.2.2.2.2)])) * 80 ≤ 140737488355328) <|
 some ((i64.wrap ((List.length (t_l ++ ([(n.1,n.2.1,n.2.2.1,n.2.2.2.1,n.2.2.2.2.1,n.2.2.2.2.2)])):Int) - (1:Int))),(t_l ++ ([(n.1,n.2.1,n.2.2.1,n.2.2.2.1,n.2.2.2.2.1,n.2.2.2.2.2)])))
def C104 : Con where
 X := (List (Int×Int×Int×Int×(List Int)×(List Int)))×(Int×Int×Int×Int×(List Int)×(List Int))
 Y := Int×(List (Int×Int×Int×Int×(List Int)×(List Int)))
 e := 2
 args x := [P0 0 0,.dat T6 x.2]
 hin x := [(0,.cells [(.osl 1)]),(1,.arr 132 T6 x.1)]
 F x := f104 x.1 x.2
 ret y := [.dat T0 y.1,D0 0]
 hout y := [(0,.cells [(.osl 2)]),(2,.arr 132 T6 y.2)]
 nout := 3
theorem C104_vc (t_l : List (Int×Int×Int×Int×(List Int)×(List Int))) (n : Int×Int×Int×Int×(List Int)×(List Int)) (y : Int×(List (Int×Int×Int×Int×(List Int)×(List Int)))) (hF : f104 t_l n = some y) : vc Tryz.prog tab Tryz.f104.ntmps 2 (match Tryz.f104.body with | some c=>c | none=>.skip) (retK tab C104 Tryz.f104.results.toList y) (C104.shIn (t_l,n)).st := by
 unfold f104 at hF
 refine OL (OL (EI (.take 0 (.take 1 (.take 2 (.take 3 (.take 4 (.take 5 (.alt 6 (.alt 7 (.take 8 (.take 9 (.alt 10 .done .done))) .done) .done))))))) (EI [(10,[0])] (EI [] (AI rfl (AI TV (OL (AI TV (OL (guardI hF (fun hF=>?_)))))))))))
 refine AI TV (OL (OL ?_))
 have hy := someE hF
 subst hy
 refine AI rfl (E4 [(0,some 0),(2,some 4)] (R3 (AI TV (R2 TV))))
theorem C104_holds : C104.Holds Tryz.prog 104 := holds_of_vc tab_ok mixed (fn := Tryz.f104) (by kernel_rfl) rfl C104 (fun x y hF=>C104_vc x.1 x.2 y hF)
theorem f104_in : InP 104 := ⟨Tryz.f104,by kernel_rfl,by kernel_rfl,by kernel_rfl⟩
def f73 (t_l : List (Int×Int×Int×Int×(List Int)×(List Int))) (x_ : (List Int)×(List Int)) : Option (Int×Int×(List (Int×Int×Int×Int×(List Int)×(List Int)))) :=
 bif (decide ((List.length t_l:Int) ≥ (512:Int))) then
 some ((0:Int),(2:Int),t_l)
 else
 bindF (f86 (x_.1,x_.2)) fun r1 =>
 bif (!r1) then
 some ((0:Int),(1:Int),t_l)
 else
 bindF (f85 (x_.1,x_.2)) fun r2 =>
 bindF (f104 t_l ((1:Int),(-1:Int),(-1:Int),(0:Int),r2.1,r2.2)) fun r3 =>
 some (r3.1,(0:Int),r3.2)
def C73 : Con where
 X := (List (Int×Int×Int×Int×(List Int)×(List Int)))×((List Int)×(List Int))
 Y := Int×Int×(List (Int×Int×Int×Int×(List Int)×(List Int)))
 e := 2
 args x := [P0 0 0,.dat T7 x.2]
 hin x := [(0,.cells [(.osl 1)]),(1,.arr 132 T6 x.1)]
 F x := f73 x.1 x.2
 ret y := [.dat T0 y.1,.dat T0 y.2.1]
 hout y := [(0,.cells [(.osl 2)]),(2,.arr 132 T6 y.2.2)]
 nout := 3
theorem C73_vc (t_l : List (Int×Int×Int×Int×(List Int)×(List Int))) (x_ : (List Int)×(List Int)) (y : Int×Int×(List (Int×Int×Int×Int×(List Int)×(List Int)))) (hF : f73 t_l x_ = some y) : vc Tryz.prog tab Tryz.f73.ntmps 2 (match Tryz.f73.body with | some c=>c | none=>.skip) (retK tab C73 Tryz.f73.results.toList y) (C73.shIn (t_l,x_)).st := by
 unfold f73 at hF
 refine OL (OL (OL (condI hF (fun hF=>?_) (fun hF=>?_))))
 ·refine OL ?_
  have hy := someE hF
  subst hy
  refine AI rfl (E4 [(0,some 0),(2,some 1)] (R3 (AI TV (R2 TV))))
 refine OL ?_
 obtain ⟨r1,hr1,hF⟩ := bindE hF
 refine OL (AI f86_in (callV0 (callI C86 (x_.1,x_.2) r1 [] false C86_holds hr1 rfl rfl (R2 (AI (fun h=>nomatch h) (R2 (AI TV (AI TV (condI hF (fun hF=>?_) (fun hF=>?_))))))))))
 ·refine OL ?_
  have hy := someE hF
  subst hy
  refine AI rfl (E4 [(0,some 0),(2,some 1)] (R3 (AI TV (R2 TV))))
 refine OL ?_
 obtain ⟨r2,hr2,hF⟩ := bindE hF
 refine OL (AI f85_in (callV0 (callI C85 (x_.1,x_.2) r2 [] false C85_holds hr2 rfl rfl (R2 (AI (fun h=>nomatch h) (R2 (AI TV (AI TV ?_))))))))
 obtain ⟨r3,hr3,hF⟩ := bindE hF
 have hr3 : C104.F (t_l,((1:Int),(-1:Int),(-1:Int),(0:Int),r2.1,r2.2)) = some r3 := hr3
 refine OL (AI f104_in (callV0 (callI C104 _ r3 [(0,some 0),(1,some 1)] false C104_holds hr3 rfl rfl (R2 (AI (fun h=>nomatch h) (R2 (AI (AI rfl TV) (AI (R2 TV) ?_))))))))
 have hy := someE hF
 subst hy
 refine AI rfl (E4 [(0,some 0),(2,some 7)] (R3 (AI TV (R2 TV))))
theorem C73_holds : C73.Holds Tryz.prog 73 := holds_of_vc tab_ok mixed (fn := Tryz.f73) (by kernel_rfl) rfl C73 (fun x y hF=>C73_vc x.1 x.2 y hF)
theorem f73_in : InP 73 := ⟨Tryz.f73,by kernel_rfl,by kernel_rfl,by kernel_rfl⟩
def f46 (r_t_l : List (Int×Int×Int×Int×(List Int)×(List Int))) (r_e:Int) (r_p : List Int) (r_leafs : List Int) (d : List Int) (v : List Int) : Option (Int×Int×(List Int)×(List Int)×(List (Int×Int×Int×Int×(List Int)×(List Int)))) :=
 bif (r_e != (0:Int)) then
 some ((0:Int),r_e,r_p,r_leafs,r_t_l)
 else
 bindF (f73 r_t_l (d,v)) fun r1 =>
 some (r1.1,r1.2.1,r_p,r_leafs,r1.2.2)
def C46 : Con where
 X := (List (Int×Int×Int×Int×(List Int)×(List Int)))×Int×(List Int)×(List Int)×(List Int)×(List Int)
 Y := Int×Int×(List Int)×(List Int)×(List (Int×Int×Int×Int×(List Int)×(List Int)))
 e := 4
 args x := [P0 0 0,.dat T4 x.2.2.2.2.1,.dat T4 x.2.2.2.2.2]
 hin x := [(0,.cells [(.ptr 1 0),(.d T0 x.2.1),(.d T4 x.2.2.1),(.osl 3)]),(1,.cells [(.osl 2)]),(2,.arr 132 T6 x.1),(3,.arr 3 T0 x.2.2.2.1)]
 F x := f46 x.1 x.2.1 x.2.2.1 x.2.2.2.1 x.2.2.2.2.1 x.2.2.2.2.2
 ret y := [.dat T0 y.1]
 hout y := [(0,.cells [(.ptr 1 0),(.d T0 y.2.1),(.d T4 y.2.2.1),(.osl 3)]),(1,.cells [(.osl 4)]),(3,.arr 3 T0 y.2.2.2.1),(4,.arr 132 T6 y.2.2.2.2)]
 nout := 5
theorem C46_vc (r_t_l : List (Int×Int×Int×Int×(List Int)×(List Int))) (r_e:Int) (r_p : List Int) (r_leafs : List Int) (d : List Int) (v : List Int) (y : Int×Int×(List Int)×(List Int)×(List (Int×Int×Int×Int×(List Int)×(List Int)))) (hF : f46 r_t_l r_e r_p r_leafs d v = some y) : vc Tryz.prog tab Tryz.f46.ntmps 4 (match Tryz.f46.body with | some c=>c | none=>.skip) (retK tab C46 Tryz.f46.results.toList y) (C46.shIn (r_t_l,r_e,r_p,r_leafs,d,v)).st := by
 unfold f46 at hF
 refine OL (OL (OL (condI hF (fun hF=>?_) (fun hF=>?_))))
 ·refine OL ?_
  have hy := someE hF
  subst hy
  refine AI rfl (E4 [(0,some 0),(1,some 1),(3,some 3),(4,some 2)] (R2 (AI TV (R4 TV))))
 refine OL ?_
 obtain ⟨r1,hr1,hF⟩ := bindE hF
 refine OL (AI f73_in (callV0 (callI C73 (r_t_l,(d,v)) r1 [(0,some 1),(1,some 2)] false C73_holds hr1 rfl rfl (R2 (AI (fun h=>nomatch h) (R2 (AI (AI rfl TV) (AI (R2 TV) (OL (OL (OL ?_)))))))))))
 have hy := someE hF
 subst hy
 refine AI rfl (E4 [(0,some 0),(1,some 1),(3,some 3),(4,some 6)] (R2 (AI TV (R4 TV))))
theorem C46_holds : C46.Holds Tryz.prog 46 := holds_of_vc tab_ok mixed (fn := Tryz.f46) (by kernel_rfl) rfl C46 (fun x y hF=>C46_vc x.1 x.2.1 x.2.2.1 x.2.2.2.1 x.2.2.2.2.1 x.2.2.2.2.2 y hF)
theorem f46_in : InP 46 := ⟨Tryz.f46,by kernel_rfl,by kernel_rfl,by kernel_rfl⟩
def f74_j4 (l : List (List Int)) (v12:Int) (c0_1:Int) (c0_2 : List Int) (l4 : List Int) (l5 : List (Int×Int×Int×Int×(List Int)×(List Int))) : Option (Int×Int×(List Int)×(List Int)×(List (Int×Int×Int×Int×(List Int)×(List Int)))) :=
 bindF (f44 (rd (Ty.z T4) l v12)) fun q5_7 =>
 guardF (0 ≤ q5_7 ∧ q5_7 ≤ (List.length c0_2:Int)) <|
 bindF (f46 l5 c0_1 c0_2 l4 (rd (Ty.z T4) l v12) (List.take (Int.toNat q5_7) c0_2)) fun q5_9 =>
 some (q5_9.1,q5_9.2.1,q5_9.2.2.1,q5_9.2.2.2.1,q5_9.2.2.2.2)
def f74_l3 (l : List (List Int)) (go : (Int×Int×Int×Int×(List Int)×(List Int)×(List (Int×Int×Int×Int×(List Int)×(List Int)))) → Option (Int×Int×Int×(List Int)×(List Int)×(List (Int×Int×Int×Int×(List Int)×(List Int))))) (first:Int) (last:Int) (v12:Int) (c0_1:Int) (c0_2 : List Int) (l4 : List Int) (l5 : List (Int×Int×Int×Int×(List Int)×(List Int))) : Option (Int×Int×Int×(List Int)×(List Int)×(List (Int×Int×Int×Int×(List Int)×(List Int)))) :=
 bif (decide (v12 < (List.length l:Int))) then
 guardF (0 ≤ v12 ∧ v12 < (List.length l:Int)) <|
 bindF (f74_j4 l v12 c0_1 c0_2 l4 l5) fun z4 =>
 bindF (f44 (rd (Ty.z T4) l v12)) fun q6_6 =>
 guardF (0 ≤ q6_6 ∧ q6_6 ≤ (List.length z4.2.2.1:Int)) <|
 guardF ((List.length z4.2.2.2.1 + List.length ([z4.1])) * 8 ≤ 140737488355328) <|
 bif (v12 == (0:Int)) then
 go (z4.1,z4.1,(i64.wrap (v12 + (1:Int))),z4.2.1,(List.drop (Int.toNat q6_6) z4.2.2.1),(z4.2.2.2.1 ++ ([z4.1])),z4.2.2.2.2)
 else
 go (first,z4.1,(i64.wrap (v12 + (1:Int))),z4.2.1,(List.drop (Int.toNat q6_6) z4.2.2.1),(z4.2.2.2.1 ++ ([z4.1])),z4.2.2.2.2)
 else
 some (first,last,c0_1,c0_2,l4,l5)
def f74 (r_t_l : List (Int×Int×Int×Int×(List Int)×(List Int))) (r_e:Int) (r_p : List Int) (r_leafs : List Int) (l : List (List Int)) : Option (Int×Int×Int×(List Int)×(List Int)×(List (Int×Int×Int×Int×(List Int)×(List Int)))) :=
 bindF (loopF (fun go x=>f74_l3 l go x.1 x.2.1 x.2.2.1 x.2.2.2.1 x.2.2.2.2.1 x.2.2.2.2.2.1 x.2.2.2.2.2.2) fuelN ((0:Int),(0:Int),(0:Int),r_e,r_p,r_leafs,r_t_l)) fun z3 =>
 some (z3.1,z3.2.1,z3.2.2.1,z3.2.2.2.1,z3.2.2.2.2.1,z3.2.2.2.2.2)
def C74 : Con where
 X := (List (Int×Int×Int×Int×(List Int)×(List Int)))×Int×(List Int)×(List Int)×(List (List Int))
 Y := Int×Int×Int×(List Int)×(List Int)×(List (Int×Int×Int×Int×(List Int)×(List Int)))
 e := 4
 args x := [P0 0 0,.dat T5 x.2.2.2.2]
 hin x := [(0,.cells [(.ptr 1 0),(.d T0 x.2.1),(.d T4 x.2.2.1),(.osl 3)]),(1,.cells [(.osl 2)]),(2,.arr 132 T6 x.1),(3,.arr 3 T0 x.2.2.2.1)]
 F x := f74 x.1 x.2.1 x.2.2.1 x.2.2.2.1 x.2.2.2.2
 ret y := [.dat T0 y.1,.dat T0 y.2.1]
 hout y := [(0,.cells [(.ptr 1 0),(.d T0 y.2.2.1),(.d T4 y.2.2.2.1),(.osl 4)]),(1,.cells [(.osl 5)]),(4,.arr 3 T0 y.2.2.2.2.1),(5,.arr 132 T6 y.2.2.2.2.2)]
 nout := 6
theorem C74_vc (r_t_l : List (Int×Int×Int×Int×(List Int)×(List Int))) (r_e:Int) (r_p : List Int) (r_leafs : List Int) (l : List (List Int)) (y : Int×Int×Int×(List Int)×(List Int)×(List (Int×Int×Int×Int×(List Int)×(List Int)))) (hF : f74 r_t_l r_e r_p r_leafs l = some y) : vc Tryz.prog tab Tryz.f74.ntmps 4 (match Tryz.f74.body with | some c=>c | none=>.skip) (retK tab C74 Tryz.f74.results.toList y) (C74.shIn (r_t_l,r_e,r_p,r_leafs,l)).st := by
 unfold f74 at hF
 refine OL (OL (OL (OL ?_)))
 obtain ⟨z3,hz3,hF⟩ := bindE hF
 refine loopI (Int×Int×Int×Int×(List Int)×(List Int)×(List (Int×Int×Int×Int×(List Int)×(List Int)))) (Int×Int×Int×(List Int)×(List Int)×(List (Int×Int×Int×Int×(List Int)×(List Int)))) (fun x=>⟨[(0,P0 0 0),(6,.dat T0 x.1),(7,.dat T0 x.2.1),(10,.dat T5 l),(11,.dat T0 (List.length l:Int)),(12,.dat T0 x.2.2.1)],[(0,.cells [(.ptr 1 0),(.d T0 x.2.2.2.1),(.d T4 x.2.2.2.2.1),(.osl 4)]),(1,.cells [(.osl 5)]),(4,.arr 3 T0 x.2.2.2.2.2.1),(5,.arr 132 T6 x.2.2.2.2.2.2)],6⟩) (fun z=>[(2,⟨[(6,.dat T0 z.1),(7,.dat T0 z.2.1)],[(0,.cells [(.ptr 1 0),(.d T0 z.2.2.1),(.d T4 z.2.2.2.1),(.osl 4)]),(1,.cells [(.osl 5)]),(4,.arr 3 T0 z.2.2.2.2.1),(5,.arr 132 T6 z.2.2.2.2.2)],6⟩)]) (loopF (fun go x=>f74_l3 l go x.1 x.2.1 x.2.2.1 x.2.2.2.1 x.2.2.2.2.1 x.2.2.2.2.2.1 x.2.2.2.2.2.2)) fuelN ((0:Int),(0:Int),(0:Int),r_e,r_p,r_leafs,r_t_l) z3 (AI hz3 (AI (E4 [(0,some 0),(1,some 1),(4,some 3),(5,some 2)] (R6 (AI (AI rfl TV) (R4 TV)))) (AI (fun _ _ h=>loopZ h) (AI (fun m=>curI (fun first=>curI (fun last=>curI (fun v12=>curI (fun c0_1=>curI (fun c0_2=>curI (fun l4=>fun l5 z hF=>?_))))))) ?_))))
 ·have hF : f74_l3 l (loopF (fun go x=>f74_l3 l go x.1 x.2.1 x.2.2.1 x.2.2.2.1 x.2.2.2.2.1 x.2.2.2.2.2.1 x.2.2.2.2.2.2) m) first last v12 c0_1 c0_2 l4 l5 = some z := hF
  unfold f74_l3 at hF
  refine OL (OL (condI hF (fun hF=>?_) (fun hF=>?_)))
  ·refine OL (OL (guardI hF (fun hF=>?_)))
   obtain ⟨z4,hz4,hF⟩ := bindE hF
   refine OQ ⟨[(0,⟨[(0,P0 0 0),(6,.dat T0 first),(7,.dat T0 z4.1),(8,.dat T0 v12),(9,.dat T4 (rd (Ty.z T4) l v12)),(10,.dat T5 l),(11,.dat T0 (List.length l:Int)),(12,.dat T0 v12)],[(0,.cells [(.ptr 1 0),(.d T0 z4.2.1),(.d T4 z4.2.2.1),(.osl 4)]),(1,.cells [(.osl 5)]),(4,.arr 3 T0 z4.2.2.2.1),(5,.arr 132 T6 z4.2.2.2.2)],6⟩)],?_,?_⟩
   ·have hF := hz4
    clear hz4
    unfold f74_j4 at hF
    obtain ⟨q5_7,hq5_7,hF⟩ := bindE hF
    obtain ⟨g5_1,hF⟩ := guardE hF
    obtain ⟨q5_9,hq5_9,hF⟩ := bindE hF
    refine EI (.take 0 (.take 1 (.take 2 (.take 3 (.take 4 (.take 6 (.alt 5 (.alt 7 (.take 8 (.alt 9 (.take 10 .done) .done)) .done) (.alt 7 (.alt 5 (.take 8 (.alt 9 (.take 10 .done) .done)) .done) .done)))))))) (EI [(9,[0])] (EI [] (AI rfl (AI (AI TV ?_) ?_))))
    ·refine OL (AI f44_in (callV0 (callI C44 (rd (Ty.z T4) l v12) q5_7 [] false C44_holds hq5_7 rfl rfl (AI rfl (AI (fun h=>nomatch h) (R2 (AI TV (AI TV (AI TV (AI g5_1 (AI TV (OL (AI f46_in (callV0 (callI C46 (l5,c0_1,c0_2,l4,(rd (Ty.z T4) l v12),(List.take (Int.toNat q5_7) c0_2)) q5_9 [(0,some 0),(1,some 1),(2,some 5),(3,some 4)] false C46_holds hq5_9 rfl rfl (R2 (AI (fun h=>nomatch h) (R2 (AI (AI rfl TV) (AI (R4 TV) ?_))))))))))))))))))))
     have hz := someE hF
     subst hz
     refine E4 [(0,some 0),(1,some 1),(4,some 4),(5,some 10)] (R8 (AI (AI rfl TV) (R4 TV)))
    refine AI TV (OL (AI f44_in (callV0 (callI C44 (rd (Ty.z T4) l v12) q5_7 [] false C44_holds hq5_7 rfl rfl (AI rfl (AI (fun h=>nomatch h) (R2 (AI TV (AI TV (AI g5_1 (AI TV (OL (AI f46_in (callV0 (callI C46 (l5,c0_1,c0_2,l4,(rd (Ty.z T4) l v12),(List.take (Int.toNat q5_7) c0_2)) q5_9 [(0,some 0),(1,some 1),(2,some 5),(3,some 4)] false C46_holds hq5_9 rfl rfl (R2 (AI (fun h=>nomatch h) (R2 (AI (AI rfl TV) (AI (R4 TV) ?_))))))))))))))))))))
    have hz := someE hF
    subst hz
    refine E4 [(0,some 0),(1,some 1),(4,some 4),(5,some 10)] (R8 (AI (AI rfl TV) (R4 TV)))
   refine AI (OL (EI (.take 0 (.take 1 (.take 2 (.take 3 (.take 4 (.take 5 (.alt 6 (.take 7 (.take 8 (.take 9 (.alt 10 .done .done)))) .done))))))) (EI [(10,[0])] (EI [] (AI rfl (AI TV ?_)))))) TV
   obtain ⟨q6_6,hq6_6,hF⟩ := bindE hF
   refine OL (AI f44_in (callV0 (callI C44 (rd (Ty.z T4) l v12) q6_6 [] false C44_holds hq6_6 rfl rfl (AI rfl (AI (fun h=>nomatch h) (R2 (AI TV (AI TV (guardI hF (fun hF=>?_))))))))))
   refine AI TV (OL (OL (OL (OL (guardI hF (fun hF=>?_))))))
   refine OL (OL (condI hF (fun hF=>?_) (fun hF=>?_)))
   ·refine EI (z4.1,z4.1,(i64.wrap (v12 + (1:Int))),z4.2.1,(List.drop (Int.toNat q6_6) z4.2.2.1),(z4.2.2.2.1 ++ ([z4.1])),z4.2.2.2.2) (AI hF (E4 [(0,some 0),(1,some 1),(4,some 7),(5,some 5)] (R6 (AI (AI rfl TV) (R4 TV)))))
   refine EI (first,z4.1,(i64.wrap (v12 + (1:Int))),z4.2.1,(List.drop (Int.toNat q6_6) z4.2.2.1),(z4.2.2.2.1 ++ ([z4.1])),z4.2.2.2.2) (AI hF (E4 [(0,some 0),(1,some 1),(4,some 7),(5,some 5)] (R6 (AI (AI rfl TV) (R4 TV)))))
  have hz := someE hF
  subst hz
  refine E4 [(0,some 0),(1,some 1),(4,some 4),(5,some 5)] (R3 (AI TV (R4 TV)))
 refine AI (OL ?_) TV
 have hy := someE hF
 subst hy
 refine AI rfl (E4 [(0,some 0),(1,some 1),(4,some 4),(5,some 5)] (R3 (AI TV (R4 TV))))
theorem C74_holds : C74.Holds Tryz.prog 74 := holds_of_vc tab_ok mixed (fn := Tryz.f74) (by kernel_rfl) rfl C74 (fun x y hF=>C74_vc x.1 x.2.1 x.2.2.1 x.2.2.2.1 x.2.2.2.2 y hF)
theorem f74_in : InP 74 := ⟨Tryz.f74,by kernel_rfl,by kernel_rfl,by kernel_rfl⟩
def f84 (t_l : List (Int×Int×Int×Int×(List Int)×(List Int))) (n:Int) : Option (Bool×(List (Int×Int×Int×Int×(List Int)×(List Int)))) :=
 bif (decide (n ≥ (0:Int))) then
 some ((decide (n < (List.length t_l:Int))),t_l)
 else
 some (false,t_l)
def C84 : Con where
 X := (List (Int×Int×Int×Int×(List Int)×(List Int)))×Int
 Y := Bool×(List (Int×Int×Int×Int×(List Int)×(List Int)))
 e := 2
 args x := [P0 0 0,.dat T0 x.2]
 hin x := [(0,.cells [(.osl 1)]),(1,.arr 132 T6 x.1)]
 F x := f84 x.1 x.2
 ret y := [.dat .bool y.1]
 hout y := [(0,.cells [(.osl 1)]),(1,.arr 132 T6 y.2)]
 nout := 2
theorem C84_vc (t_l : List (Int×Int×Int×Int×(List Int)×(List Int))) (n:Int) (y : Bool×(List (Int×Int×Int×Int×(List Int)×(List Int)))) (hF : f84 t_l n = some y) : vc Tryz.prog tab Tryz.f84.ntmps 2 (match Tryz.f84.body with | some c=>c | none=>.skip) (retK tab C84 Tryz.f84.results.toList y) (C84.shIn (t_l,n)).st := by
 unfold f84 at hF
 refine OL (OL (condI hF (fun hF=>?_) (fun hF=>?_)))
 ·refine gdYT (gdYT (gdYT (gdYT (gdYT (gdYT (condT ?_))))))
  have hy := someE hF
  subst hy
  refine AI rfl (E4 [(0,some 0),(1,some 1)] (R2 (AI TV (R2 TV))))
 refine gdNT (gdNT (gdNT (gdNT (gdNT (gdNT (condF ?_))))))
 have hy := someE hF
 subst hy
 refine AI rfl (E4 [(0,some 0),(1,some 1)] (R2 (AI TV (R2 TV))))
theorem C84_holds : C84.Holds Tryz.prog 84 := holds_of_vc tab_ok mixed (fn := Tryz.f84) (by kernel_rfl) rfl C84 (fun x y hF=>C84_vc x.1 x.2 y hF)
theorem f84_in : InP 84 := ⟨Tryz.f84,by kernel_rfl,by kernel_rfl,by kernel_rfl⟩
def f136 (op:Int) : Option Bool :=
 bif (op == (2:Int)) then
 some true
 else
 bif (op == (3:Int)) then
 some true
 else
 bif (op == (4:Int)) then
 some true
 else
 bif (op == (6:Int)) then
 some true
 else
 some (op == (12:Int))
def C136 : Con where
 X := Int
 Y := Bool
 e := 0
 args x := [.dat T0 x]
 hin x := []
 F x := f136 x
 ret y := [.dat .bool y]
 hout y := []
 nout := 0
theorem C136_vc (op:Int) (y : Bool) (hF : f136 op = some y) : VC Tryz.f136 C136 op y := by
 unfold f136 at hF
 refine OL (OL (condN hF (fun hF=>?_) (fun hF=>?_)))
 ·refine gdYF (condF (condN hF (fun hF=>?_) (fun hF=>?_)))
  ·refine gdYF (condF (condN hF (fun hF=>?_) (fun hF=>?_)))
   ·refine gdYF (condF (condN hF (fun hF=>?_) (fun hF=>?_)))
    ·refine gdYF (condF ?_)
     have hy := someE hF
     subst hy
     refine AI rfl (E4 [] (R2 (AI TV TV)))
    refine gdNF (condT ?_)
    have hy := someE hF
    subst hy
    refine AI rfl (E4 [] (R2 (AI TV TV)))
   refine gdNF (condT (gdNF (gdNF (condT ?_))))
   have hy := someE hF
   subst hy
   refine AI rfl (E4 [] (R2 (AI TV TV)))
  refine gdNF (condT (gdNF (gdNF (condT (gdNF (gdNF (condT ?_)))))))
  have hy := someE hF
  subst hy
  refine AI rfl (E4 [] (R2 (AI TV TV)))
 refine gdNF (condT (gdNF (gdNF (condT (gdNF (gdNF (condT (gdNF (gdNF (condT ?_))))))))))
 have hy := someE hF
 subst hy
 refine AI rfl (E4 [] (R2 (AI TV TV)))
theorem C136_holds : C136.Holds Tryz.prog 136 := holds_of_vc tab_ok mixed (fn := Tryz.f136) (by kernel_rfl) rfl C136 (fun x y hF=>C136_vc x y hF)
theorem f136_in : InP 136 := ⟨Tryz.f136,by kernel_rfl,by kernel_rfl,by kernel_rfl⟩
def f137 (op:Int) : Option Bool :=
 bif (op == (5:Int)) then
 some true
 else
 bif (op == (8:Int)) then
 some true
 else
 bif (op == (11:Int)) then
 some true
 else
 bif (op == (12:Int)) then
 some true
 else
 some (op == (13:Int))
def C137 : Con where
 X := Int
 Y := Bool
 e := 0
 args x := [.dat T0 x]
 hin x := []
 F x := f137 x
 ret y := [.dat .bool y]
 hout y := []
 nout := 0
theorem C137_vc (op:Int) (y : Bool) (hF : f137 op = some y) : VC Tryz.f137 C137 op y := by
 unfold f137 at hF
 refine OL (OL (condN hF (fun hF=>?_) (fun hF=>?_)))
 ·refine gdYF (condF (condN hF (fun hF=>?_) (fun hF=>?_)))
  ·refine gdYF (condF (condN hF (fun hF=>?_) (fun hF=>?_)))
   ·refine gdYF (condF (condN hF (fun hF=>?_) (fun hF=>?_)))
    ·refine gdYF (condF ?_)
     have hy := someE hF
     subst hy
     refine AI rfl (E4 [] (R2 (AI TV TV)))
    refine gdNF (condT ?_)
    have hy := someE hF
    subst hy
    refine AI rfl (E4 [] (R2 (AI TV TV)))
   refine gdNF (condT (gdNF (gdNF (condT ?_))))
   have hy := someE hF
   subst hy
   refine AI rfl (E4 [] (R2 (AI TV TV)))
  refine gdNF (condT (gdNF (gdNF (condT (gdNF (gdNF (condT ?_)))))))
  have hy := someE hF
  subst hy
  refine AI rfl (E4 [] (R2 (AI TV TV)))
 refine gdNF (condT (gdNF (gdNF (condT (gdNF (gdNF (condT (gdNF (gdNF (condT ?_))))))))))
 have hy := someE hF
 subst hy
 refine AI rfl (E4 [] (R2 (AI TV TV)))
theorem C137_holds : C137.Holds Tryz.prog 137 := holds_of_vc tab_ok mixed (fn := Tryz.f137) (by kernel_rfl) rfl C137 (fun x y hF=>C137_vc x y hF)
theorem f137_in : InP 137 := ⟨Tryz.f137,by kernel_rfl,by kernel_rfl,by kernel_rfl⟩
def f180 (d : List Int) (i:Int) : Option Int :=
 bif (decide (i ≥ (List.length d:Int))) then
 some (1:Int)
 else
 guardF (0 ≤ (i64.wrap ((i64.wrap ((List.length d:Int) - (1:Int))) - i)) ∧ (i64.wrap ((i64.wrap ((List.length d:Int) - (1:Int))) - i)) < (List.length d:Int)) <|
 some (rd (0:Int) d (i64.wrap ((i64.wrap ((List.length d:Int) - (1:Int))) - i)))
def C180 : Con where
 X := (List Int)×Int
 Y := Int
 e := 0
 args x := [.dat T4 x.1,.dat T0 x.2]
 hin x := []
 F x := f180 x.1 x.2
 ret y := [.dat T0 y]
 hout y := []
 nout := 0
theorem C180_vc (d : List Int) (i:Int) (y:Int) (hF : f180 d i = some y) : VC Tryz.f180 C180 (d,i) y := by
 unfold f180 at hF
 refine OL (OL (OL (condI hF (fun hF=>?_) (fun hF=>?_))))
 ·refine OL ?_
  have hy := someE hF
  subst hy
  refine AI rfl (E4 [] (R2 (AI TV TV)))
 refine OL (guardI hF (fun hF=>?_))
 have hy := someE hF
 subst hy
 refine AI rfl (E4 [] (R2 (AI TV TV)))
theorem C180_holds : C180.Holds Tryz.prog 180 := holds_of_vc tab_ok mixed (fn := Tryz.f180) (by kernel_rfl) rfl C180 (fun x y hF=>C180_vc x.1 x.2 y hF)
theorem f180_in : InP 180 := ⟨Tryz.f180,by kernel_rfl,by kernel_rfl,by kernel_rfl⟩
def f141_j1 (a : List Int) (b : List Int) : Option (Sum Unit Unit) :=
 bindF (f72 a) fun r4 =>
 bif (!r4) then
 some (Sum.inr ())
 else
 bindF (f72 b) fun r5 =>
 bif (!r5) then
 some (Sum.inr ())
 else
 some (Sum.inl ())
def f141_j5 (r13:Int) (r14:Int) : Option (Sum Unit Unit) :=
 bif (r13 != r14) then
 bif (r13 != (1:Int)) then
 bif (r14 != (1:Int)) then
 some (Sum.inr ())
 else
 some (Sum.inl ())
 else
 some (Sum.inl ())
 else
 some (Sum.inl ())
def f141_l4 (a : List Int) (b : List Int) (go : (Int×(List Int)) → Option (Sum Unit (List Int))) (v26:Int) (l0 : List Int) : Option (Sum Unit (List Int)) :=
 bif (decide (v26 < (List.length (List.replicate (Int.toNat (if (List.length b:Int) > (List.length a:Int) then (List.length b:Int) else (List.length a:Int))) (0:Int)):Int))) then
 bindF (f180 a v26) fun r13 =>
 bindF (f180 b v26) fun r14 =>
 bindF (f141_j5 r13 r14) fun z15 =>
 sumF z15 (fun z15a =>
 guardF (0 ≤ (i64.wrap ((i64.wrap ((List.length l0:Int) - (1:Int))) - v26)) ∧ (i64.wrap ((i64.wrap ((List.length l0:Int) - (1:Int))) - v26)) < (List.length l0:Int)) <|
 go ((i64.wrap (v26 + (1:Int))),(List.set l0 (Int.toNat (i64.wrap ((i64.wrap ((List.length l0:Int) - (1:Int))) - v26))) (if r14 > r13 then r14 else r13)))) (fun z15b =>
 some (Sum.inl ()))
 else
 some (Sum.inr l0)
def f141 (a : List Int) (b : List Int) : Option (Int×(List Int)) :=
 bindF (f141_j1 a b) fun z3 =>
 sumF z3 (fun z3a =>
 guardF (0 ≤ (if (List.length b:Int) > (List.length a:Int) then (List.length b:Int) else (List.length a:Int)) ∧ (if (List.length b:Int) > (List.length a:Int) then (List.length b:Int) else (List.length a:Int)) ≤ (if (List.length b:Int) > (List.length a:Int) then (List.length b:Int) else (List.length a:Int)) ∧ Int.toNat (if (List.length b:Int) > (List.length a:Int) then (List.length b:Int) else (List.length a:Int)) * 8 ≤ 140737488355328) <|
 bindF (loopF (fun go x=>f141_l4 a b go x.1 x.2) fuelN ((0:Int),(List.replicate (Int.toNat (if (List.length b:Int) > (List.length a:Int) then (List.length b:Int) else (List.length a:Int))) (0:Int)))) fun z12 =>
 sumF z12 (fun z12a =>
 some ((4:Int),[])) (fun z12b =>
 bindF (f72 z12b) fun r16 =>
 bif (!r16) then
 some ((2:Int),[])
 else
 some ((0:Int),z12b))) (fun z3b =>
 some ((1:Int),[]))
def C141 : Con where
 X := (List Int)×(List Int)
 Y := Int×(List Int)
 e := 0
 args x := [.dat T4 x.1,.dat T4 x.2]
 hin x := []
 F x := f141 x.1 x.2
 ret y := [O0 0,.dat T0 y.1]
 hout y := [(0,.arr 3 T0 y.2)]
 nout := 1
theorem C141_vc (a : List Int) (b : List Int) (y : Int×(List Int)) (hF : f141 a b = some y) : VC Tryz.f141 C141 (a,b) y := by
 unfold f141 at hF
 refine OL ?_
 obtain ⟨z3,hz3,hF⟩ := bindE hF
 refine OQ ⟨Sum.elim (fun z3a=>[(0,⟨[(0,.dat T4 a),(1,.dat T4 b)],[],0⟩)]) (fun z3b=>[(1,⟨[(4,.raw false [N0]),(5,D0 1)],[],0⟩)]) z3,?_,?_⟩
 ·have hF := hz3
  clear hz3
  unfold f141_j1 at hF
  refine OL ?_
  obtain ⟨r4,hr4,hF⟩ := bindE hF
  refine OL (AI f72_in (callV0 (callI C72 a r4 [] false C72_holds hr4 rfl rfl (AI rfl (AI (fun h=>nomatch h) (R2 (AI TV (AI TV (condN hF (fun hF=>?_) (fun hF=>?_))))))))))
  ·refine gdYF ?_
   obtain ⟨r5,hr5,hF⟩ := bindE hF
   refine OL (AI f72_in (callV0 (callI C72 b r5 [] false C72_holds hr5 rfl rfl (AI rfl (AI (fun h=>nomatch h) (R2 (AI TV (AI TV (gdYF (condF (condI hF (fun hF=>?_) (fun hF=>?_))))))))))))
   ·refine OL ?_
    have hz := someE hF
    subst hz
    refine E4 [] (R2 (AI (AI rfl TV) TV))
   have hz := someE hF
   subst hz
   refine E4 [] (R3 (AI TV TV))
  refine gdNF (gdNF (condT (condT (OL ?_))))
  have hz := someE hF
  subst hz
  refine E4 [] (R2 (AI (AI rfl TV) TV))
 rcases z3 with z3a | z3b
 ·dsimp only [sumF] at hF
  refine AI (OL (guardI hF (fun hF=>?_))) TV
  refine OL (OL ?_)
  obtain ⟨z12,hz12,hF⟩ := bindE hF
  refine loopI (Int×(List Int)) (Sum Unit (List Int)) (fun x=>⟨[(0,.dat T4 a),(1,.dat T4 b),(6,O0 0),(25,.dat T0 (List.length (List.replicate (Int.toNat (if (List.length b:Int) > (List.length a:Int) then (List.length b:Int) else (List.length a:Int))) (0:Int)):Int)),(26,.dat T0 x.1)],[(0,.arr 3 T0 x.2)],1⟩) (fun z=>Sum.elim (fun za=>[(1,⟨[(4,.raw false [N0]),(5,D0 4)],[],0⟩)]) (fun zb=>[(2,⟨[(6,O0 0)],[(0,.arr 3 T0 zb)],1⟩)]) z) (loopF (fun go x=>f141_l4 a b go x.1 x.2)) fuelN ((0:Int),(List.replicate (Int.toNat (if (List.length b:Int) > (List.length a:Int) then (List.length b:Int) else (List.length a:Int))) (0:Int))) z12 (AI hz12 (AI (E4 [(0,some 0)] (R5 (AI (AI rfl TV) (AI rfl TV)))) (AI (fun _ _ h=>loopZ h) (AI (fun m=>curI (fun v26=>fun l0 z hF=>?_)) ?_))))
  ·have hF : f141_l4 a b (loopF (fun go x=>f141_l4 a b go x.1 x.2) m) v26 l0 = some z := hF
   unfold f141_l4 at hF
   refine OL (OL (condI hF (fun hF=>?_) (fun hF=>?_)))
   ·refine OL (OL (OL ?_))
    obtain ⟨r13,hr13,hF⟩ := bindE hF
    refine OL (AI f180_in (callV0 (callI C180 (a,v26) r13 [] false C180_holds hr13 rfl rfl (R2 (AI (fun h=>nomatch h) (R2 (AI TV (AI TV ?_))))))))
    obtain ⟨r14,hr14,hF⟩ := bindE hF
    refine OL (AI f180_in (callV0 (callI C180 (b,v26) r14 [] false C180_holds hr14 rfl rfl (R2 (AI (fun h=>nomatch h) (R2 (AI TV (AI TV ?_))))))))
    obtain ⟨z15,hz15,hF⟩ := bindE hF
    refine OQ ⟨Sum.elim (fun z15a=>[(0,⟨[(0,.dat T4 a),(1,.dat T4 b),(6,O0 0),(7,.dat T0 v26),(8,.dat T0 r13),(9,.dat T0 r14),(25,.dat T0 (List.length (List.replicate (Int.toNat (if (List.length b:Int) > (List.length a:Int) then (List.length b:Int) else (List.length a:Int))) (0:Int)):Int)),(26,.dat T0 v26)],[(0,.arr 3 T0 l0)],1⟩)]) (fun z15b=>[(1,⟨[(4,.raw false [N0]),(5,D0 4)],[],0⟩)]) z15,?_,?_⟩
    ·have hF := hz15
     clear hz15
     unfold f141_j5 at hF
     refine OL (condI hF (fun hF=>?_) (fun hF=>?_))
     ·refine gdYT (condT (condI hF (fun hF=>?_) (fun hF=>?_)))
      ·refine gdYT (condT (condI hF (fun hF=>?_) (fun hF=>?_)))
       ·refine OL ?_
        have hz := someE hF
        subst hz
        refine E4 [] (R2 (AI (AI rfl TV) TV))
       have hz := someE hF
       subst hz
       refine E4 [(0,some 0)] (R8 (AI (AI rfl TV) (AI rfl TV)))
      refine gdNT (condF (condF ?_))
      have hz := someE hF
      subst hz
      refine E4 [(0,some 0)] (R8 (AI (AI rfl TV) (AI rfl TV)))
     refine gdNT (condF (gdNT (gdNT (condF (condF ?_)))))
     have hz := someE hF
     subst hz
     refine E4 [(0,some 0)] (R8 (AI (AI rfl TV) (AI rfl TV)))
    rcases z15 with z15a | z15b
    ·dsimp only [sumF] at hF
     refine AI (guardI hF (fun hF=>?_)) TV
     refine OL (EI ((i64.wrap (v26 + (1:Int))),(List.set l0 (Int.toNat (i64.wrap ((i64.wrap ((List.length l0:Int) - (1:Int))) - v26))) (if r14 > r13 then r14 else r13))) (AI hF (E4 [(0,some 0)] (R5 (AI (AI rfl TV) (AI rfl TV))))))
    dsimp only [sumF] at hF
    refine AI ?_ TV
    have hz := someE hF
    subst hz
    refine E4 [] (R2 (AI (AI rfl TV) TV))
   have hz := someE hF
   subst hz
   refine E4 [(0,some 0)] (AI rfl (AI (AI rfl TV) (AI rfl TV)))
  rcases z12 with z12a | z12b
  ·dsimp only [sumF] at hF
   refine AI ?_ TV
   have hy := someE hF
   subst hy
   refine AI rfl (E4 [(0,none)] (R2 (AI (AI rfl TV) (AI rfl TV))))
  dsimp only [sumF] at hF
  refine AI (OL (OL ?_)) TV
  obtain ⟨r16,hr16,hF⟩ := bindE hF
  refine OL (AI f72_in (callV0 (callI C72 z12b r16 [] true C72_holds hr16 rfl rfl (AI rfl (AI (fun _=>rfl) (R2 (AI TV (AI TV (condI hF (fun hF=>?_) (fun hF=>?_))))))))))
  ·refine OL ?_
   have hy := someE hF
   subst hy
   refine AI rfl (E4 [(0,none)] (R2 (AI (AI rfl TV) (AI rfl TV))))
  refine OL ?_
  have hy := someE hF
  subst hy
  refine AI rfl (E4 [(0,some 0)] (R2 (AI (AI rfl TV) (AI rfl TV))))
 dsimp only [sumF] at hF
 refine AI ?_ TV
 have hy := someE hF
 subst hy
 refine AI rfl (E4 [(0,none)] (R2 (AI (AI rfl TV) (AI rfl TV))))
theorem C141_holds : C141.Holds Tryz.prog 141 := holds_of_vc tab_ok mixed (fn := Tryz.f141) (by kernel_rfl) rfl C141 (fun x y hF=>C141_vc x.1 x.2 y hF)
theorem f141_in : InP 141 := ⟨Tryz.f141,by kernel_rfl,by kernel_rfl,by kernel_rfl⟩
def f95 (x_:Int) (y_:Int) : Option (Int×Int) :=
 some ((u64.wrap ((u64.wrap ((u64.wrap ((Int.fdiv x_ (2 ^ min (Int.toNat (32:Int)) (IntKind.bits IntKind.u64))) * (Int.fdiv y_ (2 ^ min (Int.toNat (32:Int)) (IntKind.bits IntKind.u64))))) + (Int.fdiv (u64.wrap ((u64.wrap ((Int.fdiv x_ (2 ^ min (Int.toNat (32:Int)) (IntKind.bits IntKind.u64))) * (bitsOf IntKind.u64 (fun p q=>p &&& q) y_ (4294967295:Int)))) + (Int.fdiv (u64.wrap ((bitsOf IntKind.u64 (fun p q=>p &&& q) x_ (4294967295:Int)) * (bitsOf IntKind.u64 (fun p q=>p &&& q) y_ (4294967295:Int)))) (2 ^ min (Int.toNat (32:Int)) (IntKind.bits IntKind.u64))))) (2 ^ min (Int.toNat (32:Int)) (IntKind.bits IntKind.u64))))) + (Int.fdiv (u64.wrap ((bitsOf IntKind.u64 (fun p q=>p &&& q) (u64.wrap ((u64.wrap ((Int.fdiv x_ (2 ^ min (Int.toNat (32:Int)) (IntKind.bits IntKind.u64))) * (bitsOf IntKind.u64 (fun p q=>p &&& q) y_ (4294967295:Int)))) + (Int.fdiv (u64.wrap ((bitsOf IntKind.u64 (fun p q=>p &&& q) x_ (4294967295:Int)) * (bitsOf IntKind.u64 (fun p q=>p &&& q) y_ (4294967295:Int)))) (2 ^ min (Int.toNat (32:Int)) (IntKind.bits IntKind.u64))))) (4294967295:Int)) + (u64.wrap ((bitsOf IntKind.u64 (fun p q=>p &&& q) x_ (4294967295:Int)) * (Int.fdiv y_ (2 ^ min (Int.toNat (32:Int)) (IntKind.bits IntKind.u64))))))) (2 ^ min (Int.toNat (32:Int)) (IntKind.bits IntKind.u64))))),(u64.wrap (x_ * y_)))
def C95 : Con where
 X := Int×Int
 Y := Int×Int
 e := 0
 args x := [.dat T8 x.1,.dat T8 x.2]
 hin x := []
 F x := f95 x.1 x.2
 ret y := [.dat T8 y.1,.dat T8 y.2]
 hout y := []
 nout := 0
theorem C95_vc (x_:Int) (y_:Int) (y : Int×Int) (hF : f95 x_ y_ = some y) : VC Tryz.f95 C95 (x_,y_) y := by
 unfold f95 at hF
 refine OL (OL (OL (AI (by decide) (OL (OL (AI (by decide) (OL (OL (AI (by decide) (OL (OL (AI (by decide) (OL (OL (AI (by decide) (OL ?_))))))))))))))))
 have hy := someE hF
 subst hy
 refine AI rfl (E4 [] (R3 (AI TV TV)))
theorem C95_holds : C95.Holds Tryz.prog 95 := holds_of_vc tab_ok mixed (fn := Tryz.f95) (by kernel_rfl) rfl C95 (fun x y hF=>C95_vc x.1 x.2 y hF)
theorem f95_in : InP 95 := ⟨Tryz.f95,by kernel_rfl,by kernel_rfl,by kernel_rfl⟩
def f106 (x_:Int) (y_:Int) : Option (Int×Int) :=
 bindF (f95 x_ y_) fun r1 =>
 some (r1.1,r1.2)
def C106 : Con where
 X := Int×Int
 Y := Int×Int
 e := 0
 args x := [.dat T8 x.1,.dat T8 x.2]
 hin x := []
 F x := f106 x.1 x.2
 ret y := [.dat T8 y.1,.dat T8 y.2]
 hout y := []
 nout := 0
theorem C106_vc (x_:Int) (y_:Int) (y : Int×Int) (hF : f106 x_ y_ = some y) : VC Tryz.f106 C106 (x_,y_) y := by
 unfold f106 at hF
 refine OL (OL (condF (OL ?_)))
 obtain ⟨r1,hr1,hF⟩ := bindE hF
 refine OL (AI f95_in (callV0 (callI C95 (x_,y_) r1 [] false C95_holds hr1 rfl rfl (R2 (AI (fun h=>nomatch h) (R2 (AI TV (AI TV (OL ?_)))))))))
 have hy := someE hF
 subst hy
 refine AI rfl (E4 [] (R3 (AI TV TV)))
theorem C106_holds : C106.Holds Tryz.prog 106 := holds_of_vc tab_ok mixed (fn := Tryz.f106) (by kernel_rfl) rfl C106 (fun x y hF=>C106_vc x.1 x.2 y hF)
theorem f106_in : InP 106 := ⟨Tryz.f106,by kernel_rfl,by kernel_rfl,by kernel_rfl⟩
def f81_j1 (r1 : Int×Int) : Option Unit :=
 bif (decide (r1.1 > (0:Int))) then
 none
 else
 bif (decide (r1.2 > (9223372036854775807:Int))) then
 none
 else
 some ()
def f81_l2 (go : (Int×(List Int)) → Option (List Int)) (n:Int) (l0 : List Int) : Option (List Int) :=
 bif (decide (n < (List.length l0:Int))) then
 guardF (0 ≤ n ∧ n ≤ (List.length l0:Int)) <|
 guardF (0 ≤ n ∧ n ≤ (List.length l0:Int)) <|
 go ((i64.wrap (n + (List.length (List.take (Int.toNat (List.length l0:Int) - Int.toNat n) (List.drop (Int.toNat (0:Int)) (List.take (Int.toNat n) l0))):Int))),(over l0 n (List.take (Int.toNat (List.length l0:Int) - Int.toNat n) (List.drop (Int.toNat (0:Int)) (List.take (Int.toNat n) l0)))))
 else
 some l0
def f81 (x_ : List Int) (count:Int) : Option (List Int) :=
 bif (decide (count < (0:Int))) then
 none
 else
 bindF (f106 (u64.wrap (List.length x_:Int)) (u64.wrap count)) fun r1 =>
 bindF (f81_j1 r1) fun z2 =>
 guardF (0 ≤ (i64.wrap r1.2) ∧ (i64.wrap r1.2) ≤ (i64.wrap r1.2) ∧ Int.toNat (i64.wrap r1.2) * 8 ≤ 140737488355328) <|
 bindF (loopF (fun go x=>f81_l2 go x.1 x.2) fuelN ((List.length (List.take (Int.toNat (List.length (List.replicate (Int.toNat (i64.wrap r1.2)) (0:Int)):Int) - Int.toNat (0:Int)) x_):Int),(over (List.replicate (Int.toNat (i64.wrap r1.2)) (0:Int)) (0:Int) (List.take (Int.toNat (List.length (List.replicate (Int.toNat (i64.wrap r1.2)) (0:Int)):Int) - Int.toNat (0:Int)) x_)))) fun z3 =>
 some z3
def C81 : Con where
 X := (List Int)×Int
 Y := List Int
 e := 0
 args x := [.dat T4 x.1,.dat T0 x.2]
 hin x := []
 F x := f81 x.1 x.2
 ret y := [O0 0]
 hout y := [(0,.arr 23 T0 y)]
 nout := 1
theorem C81_vc (x_ : List Int) (count:Int) (y : List Int) (hF : f81 x_ count = some y) : VC Tryz.f81 C81 (x_,count) y := by
 unfold f81 at hF
 refine OL (OL (OL (condI hF (fun hF=>?_) (fun hF=>?_))))
 ·exact nomatch hF
 refine OL ?_
 obtain ⟨r1,hr1,hF⟩ := bindE hF
 refine OL (AI f106_in (callV0 (callI C106 ((u64.wrap (List.length x_:Int)),(u64.wrap count)) r1 [] false C106_holds hr1 rfl rfl (R2 (AI (fun h=>nomatch h) (R2 (AI TV (AI TV ?_))))))))
 obtain ⟨z2,hz2,hF⟩ := bindE hF
 refine OQ ⟨[(0,⟨[(0,.dat T4 x_),(6,.dat T8 r1.2)],[],0⟩)],?_,?_⟩
 ·have hF := hz2
  clear hz2
  unfold f81_j1 at hF
  refine OL (condN hF (fun hF=>?_) (fun hF=>?_))
  ·refine gdYF (condF (condI hF (fun hF=>?_) (fun hF=>?_)))
   ·exact nomatch hF
   have hz := someE hF
   subst hz
   refine E4 [] (R3 (AI TV TV))
  refine gdNF (condT (condT ?_))
  exact nomatch hF
 refine AI (OL (guardI hF (fun hF=>?_))) TV
 refine OL (OL ?_)
 obtain ⟨z3,hz3,hF⟩ := bindE hF
 refine loopI (Int×(List Int)) (List Int) (fun x=>⟨[(7,O0 0),(8,.dat T0 x.1)],[(0,.arr 23 T0 x.2)],1⟩) (fun z=>[(2,⟨[(7,O0 0)],[(0,.arr 23 T0 z)],1⟩)]) (loopF (fun go x=>f81_l2 go x.1 x.2)) fuelN ((List.length (List.take (Int.toNat (List.length (List.replicate (Int.toNat (i64.wrap r1.2)) (0:Int)):Int) - Int.toNat (0:Int)) x_):Int),(over (List.replicate (Int.toNat (i64.wrap r1.2)) (0:Int)) (0:Int) (List.take (Int.toNat (List.length (List.replicate (Int.toNat (i64.wrap r1.2)) (0:Int)):Int) - Int.toNat (0:Int)) x_))) z3 (AI hz3 (AI (E4 [(0,some 0)] (R2 (AI (AI rfl TV) (AI rfl TV)))) (AI (fun _ _ h=>loopZ h) (AI (fun m=>curI (fun n=>fun l0 z hF=>?_)) ?_))))
 ·have hF : f81_l2 (loopF (fun go x=>f81_l2 go x.1 x.2) m) n l0 = some z := hF
  unfold f81_l2 at hF
  refine OL (OL (condI hF (fun hF=>?_) (fun hF=>?_)))
  ·refine EI (.take 0 (.take 1 (.take 2 (.take 3 (.take 4 (.take 5 (.take 6 (.alt 7 (.take 8 (.take 9 .done)) .done)))))))) (EI [] (EI [] (AI rfl (guardI hF (fun hF=>?_)))))
   refine guardI hF (fun hF=>?_)
   refine AI TV (EI ((i64.wrap (n + (List.length (List.take (Int.toNat (List.length l0:Int) - Int.toNat n) (List.drop (Int.toNat (0:Int)) (List.take (Int.toNat n) l0))):Int))),(over l0 n (List.take (Int.toNat (List.length l0:Int) - Int.toNat n) (List.drop (Int.toNat (0:Int)) (List.take (Int.toNat n) l0))))) (AI hF (E4 [(0,some 0)] (R2 (AI (AI rfl TV) (AI rfl TV))))))
  have hz := someE hF
  subst hz
  refine E4 [(0,some 0)] (AI rfl (AI (AI rfl TV) (AI rfl TV)))
 refine AI (OL ?_) TV
 have hy := someE hF
 subst hy
 refine AI rfl (E4 [(0,some 0)] (AI rfl (AI (AI rfl TV) (AI rfl TV))))
theorem C81_holds : C81.Holds Tryz.prog 81 := holds_of_vc tab_ok mixed (fn := Tryz.f81) (by kernel_rfl) rfl C81 (fun x y hF=>C81_vc x.1 x.2 y hF)
theorem f81_in : InP 81 := ⟨Tryz.f81,by kernel_rfl,by kernel_rfl,by kernel_rfl⟩
def f52 (d : List Int) (v:Int) : Option (Int×(List Int)×(List Int)) :=
 bindF (f72 d) fun r1 =>
 bif (!r1) then
 some ((1:Int),[],[])
 else
 bindF (f82 d) fun r2 =>
 bindF (f83 d) fun r3 =>
 bindF (f81 ([v]) r3) fun r4 =>
 some ((0:Int),r2,r4)
def C52 : Con where
 X := (List Int)×Int
 Y := Int×(List Int)×(List Int)
 e := 0
 args x := [.dat T4 x.1,.dat T0 x.2]
 hin x := []
 F x := f52 x.1 x.2
 ret y := [.raw true [(.osl 0),(.osl 1)],.dat T0 y.1]
 hout y := [(0,.arr 3 T0 y.2.1),(1,.arr 23 T0 y.2.2)]
 nout := 2
theorem C52_vc (d : List Int) (v:Int) (y : Int×(List Int)×(List Int)) (hF : f52 d v = some y) : VC Tryz.f52 C52 (d,v) y := by
 unfold f52 at hF
 refine OL (OL (OL ?_))
 obtain ⟨r1,hr1,hF⟩ := bindE hF
 refine OL (AI f72_in (callV0 (callI C72 d r1 [] false C72_holds hr1 rfl rfl (AI rfl (AI (fun h=>nomatch h) (R2 (AI TV (AI TV (condI hF (fun hF=>?_) (fun hF=>?_))))))))))
 ·refine OL (OL ?_)
  have hy := someE hF
  subst hy
  refine AI rfl (E4 [(0,none),(1,none)] (R2 (AI (AI rfl TV) (R2 TV))))
 refine OL ?_
 obtain ⟨r2,hr2,hF⟩ := bindE hF
 refine OL (AI f82_in (callV0 (callI C82 d r2 [] false C82_holds hr2 rfl rfl (AI rfl (AI (fun h=>nomatch h) (R2 (AI TV (AI TV (OL ?_)))))))))
 obtain ⟨r3,hr3,hF⟩ := bindE hF
 refine OL (AI f83_in (callV0 (callI C83 d r3 [] false C83_holds hr3 rfl rfl (AI rfl (AI (fun h=>nomatch h) (R2 (AI TV (AI TV ?_))))))))
 obtain ⟨r4,hr4,hF⟩ := bindE hF
 refine OL (AI f81_in (callV0 (callI C81 ([v],r3) r4 [] true C81_holds hr4 rfl rfl (R2 (AI (fun _=>rfl) (R2 (AI TV (AI TV (OL ?_)))))))))
 have hy := someE hF
 subst hy
 refine AI rfl (E4 [(0,some 1),(1,some 3)] (R2 (AI (AI rfl TV) (R2 TV))))
theorem C52_holds : C52.Holds Tryz.prog 52 := holds_of_vc tab_ok mixed (fn := Tryz.f52) (by kernel_rfl) rfl C52 (fun x y hF=>C52_vc x.1 x.2 y hF)
theorem f52_in : InP 52 := ⟨Tryz.f52,by kernel_rfl,by kernel_rfl,by kernel_rfl⟩
def f181_l1 (d : List Int) (go : (Int×Int×(List Int)) → Option (List Int)) (n:Int) (i:Int) (l0 : List Int) : Option (List Int) :=
 bif (decide (i ≥ (0:Int))) then
 guardF (0 ≤ i ∧ i < (List.length l0:Int)) <|
 guardF (0 ≤ i ∧ i < (List.length d:Int)) <|
 go ((i64.wrap (n * (rd (0:Int) d i))),(i64.wrap (i - (1:Int))),(List.set l0 (Int.toNat i) n))
 else
 some l0
def f181 (d : List Int) : Option (List Int) :=
 bindF (f72 d) fun r1 =>
 bif (!r1) then
 some ([])
 else
 guardF (0 ≤ (List.length d:Int) ∧ (List.length d:Int) ≤ (List.length d:Int) ∧ Int.toNat (List.length d:Int) * 8 ≤ 140737488355328) <|
 bindF (loopF (fun go x=>f181_l1 d go x.1 x.2.1 x.2.2) fuelN ((1:Int),(i64.wrap ((List.length d:Int) - (1:Int))),(List.replicate (Int.toNat (List.length d:Int)) (0:Int)))) fun z2 =>
 some z2
def C181 : Con where
 X := List Int
 Y := List Int
 e := 0
 args x := [.dat T4 x]
 hin x := []
 F x := f181 x
 ret y := [O0 0]
 hout y := [(0,.arr 3 T0 y)]
 nout := 1
theorem C181_vc (d : List Int) (y : List Int) (hF : f181 d = some y) : VC Tryz.f181 C181 d y := by
 unfold f181 at hF
 refine OL (OL (OL ?_))
 obtain ⟨r1,hr1,hF⟩ := bindE hF
 refine OL (AI f72_in (callV0 (callI C72 d r1 [] false C72_holds hr1 rfl rfl (AI rfl (AI (fun h=>nomatch h) (R2 (AI TV (AI TV (condI hF (fun hF=>?_) (fun hF=>?_))))))))))
 ·refine OL ?_
  have hy := someE hF
  subst hy
  refine AI rfl (E4 [(0,none)] (AI rfl (AI (AI rfl TV) (AI rfl TV))))
 refine OL (guardI hF (fun hF=>?_))
 refine OL (OL (OL ?_))
 obtain ⟨z2,hz2,hF⟩ := bindE hF
 refine loopI (Int×Int×(List Int)) (List Int) (fun x=>⟨[(0,.dat T4 d),(3,O0 0),(4,.dat T0 x.1),(5,.dat T0 x.2.1)],[(0,.arr 3 T0 x.2.2)],1⟩) (fun z=>[(2,⟨[(3,O0 0)],[(0,.arr 3 T0 z)],1⟩)]) (loopF (fun go x=>f181_l1 d go x.1 x.2.1 x.2.2)) fuelN ((1:Int),(i64.wrap ((List.length d:Int) - (1:Int))),(List.replicate (Int.toNat (List.length d:Int)) (0:Int))) z2 (AI hz2 (AI (E4 [(0,some 0)] (R4 (AI (AI rfl TV) (AI rfl TV)))) (AI (fun _ _ h=>loopZ h) (AI (fun m=>curI (fun n=>curI (fun i=>fun l0 z hF=>?_))) ?_))))
 ·have hF : f181_l1 d (loopF (fun go x=>f181_l1 d go x.1 x.2.1 x.2.2) m) n i l0 = some z := hF
  unfold f181_l1 at hF
  refine OL (OL (condI hF (fun hF=>?_) (fun hF=>?_)))
  ·refine OL (OL (guardI hF (fun hF=>?_)))
   refine OL (guardI hF (fun hF=>?_))
   refine EI ((i64.wrap (n * (rd (0:Int) d i))),(i64.wrap (i - (1:Int))),(List.set l0 (Int.toNat i) n)) (AI hF (E4 [(0,some 0)] (R4 (AI (AI rfl TV) (AI rfl TV)))))
  have hz := someE hF
  subst hz
  refine E4 [(0,some 0)] (AI rfl (AI (AI rfl TV) (AI rfl TV)))
 refine AI (OL ?_) TV
 have hy := someE hF
 subst hy
 refine AI rfl (E4 [(0,some 0)] (AI rfl (AI (AI rfl TV) (AI rfl TV))))
theorem C181_holds : C181.Holds Tryz.prog 181 := holds_of_vc tab_ok mixed (fn := Tryz.f181) (by kernel_rfl) rfl C181 (fun x y hF=>C181_vc x y hF)
theorem f181_in : InP 181 := ⟨Tryz.f181,by kernel_rfl,by kernel_rfl,by kernel_rfl⟩
def f142_j13 (d : List Int) (big : List Int) (q11_19 : List Int) (v23:Int) (rest:Int) (i:Int) (l1_2 : List Int) : Option (List Int) :=
 guardF (0 ≤ (i64.wrap (i - (i64.wrap ((List.length big:Int) - (List.length d:Int))))) ∧ (i64.wrap (i - (i64.wrap ((List.length big:Int) - (List.length d:Int))))) < (List.length d:Int)) <|
 bif (decide ((rd (0:Int) d (i64.wrap (i - (i64.wrap ((List.length big:Int) - (List.length d:Int)))))) > (1:Int))) then
 guardF (0 ≤ v23 ∧ v23 < (List.length l1_2:Int)) <|
 guardF (0 ≤ i ∧ i < (List.length big:Int)) <|
 guardF ((rd (0:Int) big i) ≠ 0) <|
 guardF (0 ≤ (i64.wrap (i - (i64.wrap ((List.length big:Int) - (List.length d:Int))))) ∧ (i64.wrap (i - (i64.wrap ((List.length big:Int) - (List.length d:Int))))) < (List.length q11_19:Int)) <|
 guardF (0 ≤ v23 ∧ v23 < (List.length l1_2:Int)) <|
 some (List.set l1_2 (Int.toNat v23) (i64.wrap ((rd (0:Int) l1_2 v23) + (i64.wrap ((Int.tmod rest (rd (0:Int) big i)) * (rd (0:Int) q11_19 (i64.wrap (i - (i64.wrap ((List.length big:Int) - (List.length d:Int)))))))))))
 else
 some l1_2
def f142_l12 (d : List Int) (big : List Int) (q11_19 : List Int) (v23:Int) (go : (Int×Int×(List Int)) → Option (List Int)) (rest:Int) (i:Int) (l1_2 : List Int) : Option (List Int) :=
 bif (decide (i ≥ (i64.wrap ((List.length big:Int) - (List.length d:Int))))) then
 bindF (f142_j13 d big q11_19 v23 rest i l1_2) fun z14 =>
 guardF (0 ≤ i ∧ i < (List.length big:Int)) <|
 guardF ((rd (0:Int) big i) ≠ 0) <|
 go ((i64.wrap (Int.tdiv rest (rd (0:Int) big i))),(i64.wrap (i - (1:Int))),z14)
 else
 some l1_2
def f142_l9 (d : List Int) (big : List Int) (q11_19 : List Int) (r1:Int) (go : (Int×(List Int)) → Option (List Int)) (v23:Int) (l1 : List Int) : Option (List Int) :=
 bif (decide (v23 < (List.length (List.replicate (Int.toNat r1) (0:Int)):Int))) then
 bindF (loopF (fun go x=>f142_l12 d big q11_19 v23 go x.1 x.2.1 x.2.2) fuelN (v23,(i64.wrap ((List.length big:Int) - (1:Int))),l1)) fun z13 =>
 go ((i64.wrap (v23 + (1:Int))),z13)
 else
 some l1
def f142 (d : List Int) (big : List Int) : Option (List Int) :=
 bindF (f181 d) fun q11_19 =>
 bindF (f83 big) fun r1 =>
 guardF (0 ≤ r1 ∧ r1 ≤ r1 ∧ Int.toNat r1 * 8 ≤ 140737488355328) <|
 bindF (loopF (fun go x=>f142_l9 d big q11_19 r1 go x.1 x.2) fuelN ((0:Int),(List.replicate (Int.toNat r1) (0:Int)))) fun z10 =>
 some z10
def C142 : Con where
 X := (List Int)×(List Int)
 Y := List Int
 e := 0
 args x := [.dat T4 x.1,.dat T4 x.2]
 hin x := []
 F x := f142 x.1 x.2
 ret y := [O0 0]
 hout y := [(0,.arr 3 T0 y)]
 nout := 1
theorem C142_vc (d : List Int) (big : List Int) (y : List Int) (hF : f142 d big = some y) : VC Tryz.f142 C142 (d,big) y := by
 unfold f142 at hF
 refine OL (OL ?_)
 obtain ⟨q11_19,hq11_19,hF⟩ := bindE hF
 refine OL (AI f181_in (callV0 (callI C181 d q11_19 [] false C181_holds hq11_19 rfl rfl (AI rfl (AI (fun h=>nomatch h) (R2 (AI TV (AI TV (OL ?_)))))))))
 obtain ⟨r1,hr1,hF⟩ := bindE hF
 refine OL (AI f83_in (callV0 (callI C83 big r1 [] false C83_holds hr1 rfl rfl (AI rfl (AI (fun h=>nomatch h) (R2 (AI TV (AI TV (guardI hF (fun hF=>?_))))))))))
 refine OL (OL ?_)
 obtain ⟨z10,hz10,hF⟩ := bindE hF
 refine loopI (Int×(List Int)) (List Int) (fun x=>⟨[(0,.dat T4 d),(1,.dat T4 big),(5,O0 0),(6,.dat T0 (i64.wrap ((List.length big:Int) - (List.length d:Int)))),(7,O0 1),(22,.dat T0 (List.length (List.replicate (Int.toNat r1) (0:Int)):Int)),(23,.dat T0 x.1)],[(0,.arr 3 T0 q11_19),(1,.arr 3 T0 x.2)],2⟩) (fun z=>[(2,⟨[(7,O0 0)],[(0,.arr 3 T0 z)],1⟩)]) (loopF (fun go x=>f142_l9 d big q11_19 r1 go x.1 x.2)) fuelN ((0:Int),(List.replicate (Int.toNat r1) (0:Int))) z10 (AI hz10 (AI (E4 [(0,some 0),(1,some 1)] (R6 (AI (R2 TV) (R2 TV)))) (AI (fun _ _ h=>loopZ h) (AI (fun m=>curI (fun v23=>fun l1 z hF=>?_)) ?_))))
 ·have hF : f142_l9 d big q11_19 r1 (loopF (fun go x=>f142_l9 d big q11_19 r1 go x.1 x.2) m) v23 l1 = some z := hF
  unfold f142_l9 at hF
  refine OL (OL (condI hF (fun hF=>?_) (fun hF=>?_)))
  ·refine OL (OL (OL (OL ?_)))
   obtain ⟨z13,hz13,hF⟩ := bindE hF
   refine loopI (Int×Int×(List Int)) (List Int) (fun x=>⟨[(0,.dat T4 d),(1,.dat T4 big),(5,O0 0),(6,.dat T0 (i64.wrap ((List.length big:Int) - (List.length d:Int)))),(7,O0 1),(8,.dat T0 v23),(9,.dat T0 x.1),(10,.dat T0 x.2.1),(22,.dat T0 (List.length (List.replicate (Int.toNat r1) (0:Int)):Int)),(23,.dat T0 v23)],[(0,.arr 3 T0 q11_19),(1,.arr 3 T0 x.2.2)],2⟩) (fun z=>[(4,⟨[(0,.dat T4 d),(1,.dat T4 big),(5,O0 0),(6,.dat T0 (i64.wrap ((List.length big:Int) - (List.length d:Int)))),(7,O0 1),(22,.dat T0 (List.length (List.replicate (Int.toNat r1) (0:Int)):Int)),(23,.dat T0 v23)],[(0,.arr 3 T0 q11_19),(1,.arr 3 T0 z)],2⟩)]) (loopF (fun go x=>f142_l12 d big q11_19 v23 go x.1 x.2.1 x.2.2)) fuelN (v23,(i64.wrap ((List.length big:Int) - (1:Int))),l1) z13 (AI hz13 (AI (E4 [(0,some 0),(1,some 1)] (R9 (AI (R2 TV) (R2 TV)))) (AI (fun _ _ h=>loopZ h) (AI (fun m=>curI (fun rest=>curI (fun i=>fun l1_2 z hF=>?_))) ?_))))
   ·have hF : f142_l12 d big q11_19 v23 (loopF (fun go x=>f142_l12 d big q11_19 v23 go x.1 x.2.1 x.2.2) m) rest i l1_2 = some z := hF
    unfold f142_l12 at hF
    refine OL (OL (condI hF (fun hF=>?_) (fun hF=>?_)))
    ·refine OL ?_
     obtain ⟨z14,hz14,hF⟩ := bindE hF
     refine OQ ⟨[(0,⟨[(0,.dat T4 d),(1,.dat T4 big),(5,O0 0),(6,.dat T0 (i64.wrap ((List.length big:Int) - (List.length d:Int)))),(7,O0 1),(8,.dat T0 v23),(9,.dat T0 rest),(10,.dat T0 i),(22,.dat T0 (List.length (List.replicate (Int.toNat r1) (0:Int)):Int)),(23,.dat T0 v23)],[(0,.arr 3 T0 q11_19),(1,.arr 3 T0 z14)],2⟩)],?_,?_⟩
     ·have hF := hz14
      clear hz14
      unfold f142_j13 at hF
      refine OL (guardI hF (fun hF=>?_))
      refine condI hF (fun hF=>?_) (fun hF=>?_)
      ·refine EI (.take 0 (.take 1 (.take 2 (.take 3 (.take 4 (.take 5 (.take 6 (.take 7 (.take 8 (.take 9 (.take 10 (.take 11 (.take 12 (.take 13 (.take 14 (.take 15 (.take 16 (.take 17 (.take 18 (.alt 19 .done .done)))))))))))))))))))) (EI [(19,[1])] (EI [] (AI rfl (guardI hF (fun hF=>?_)))))
       refine guardI hF (fun hF=>?_)
       refine guardI hF (fun hF=>?_)
       refine guardI hF (fun hF=>?_)
       refine guardI hF (fun hF=>?_)
       refine AI TV (OL ?_)
       have hz := someE hF
       subst hz
       refine E4 [(0,some 0),(1,some 1)] (R9 (AI (R2 TV) (R2 TV)))
      have hz := someE hF
      subst hz
      refine E4 [(0,some 0),(1,some 1)] (R9 (AI (R2 TV) (R2 TV)))
     refine AI (guardI hF (fun hF=>?_)) TV
     refine guardI hF (fun hF=>?_)
     refine EI ((i64.wrap (Int.tdiv rest (rd (0:Int) big i))),(i64.wrap (i - (1:Int))),z14) (AI hF (E4 [(0,some 0),(1,some 1)] (R9 (AI (R2 TV) (R2 TV)))))
    have hz := someE hF
    subst hz
    refine E4 [(0,some 0),(1,some 1)] (R6 (AI (R2 TV) (R2 TV)))
   refine AI (EI ((i64.wrap (v23 + (1:Int))),z13) (AI hF (E4 [(0,some 0),(1,some 1)] (R6 (AI (R2 TV) (R2 TV)))))) TV
  have hz := someE hF
  subst hz
  refine E4 [(0,some 1)] (AI rfl (AI (AI rfl TV) (AI rfl TV)))
 refine AI (OL ?_) TV
 have hy := someE hF
 subst hy
 refine AI rfl (E4 [(0,some 0)] (AI rfl (AI (AI rfl TV) (AI rfl TV))))
theorem C142_holds : C142.Holds Tryz.prog 142 := holds_of_vc tab_ok mixed (fn := Tryz.f142) (by kernel_rfl) rfl C142 (fun x y hF=>C142_vc x.1 x.2 y hF)
theorem f142_in : InP 142 := ⟨Tryz.f142,by kernel_rfl,by kernel_rfl,by kernel_rfl⟩
end Go.Proofs
