import Derived.Test.YtnmfbobdffnblaaGreatFc
set_option linter.unusedVariables false
set_option maxRecDepth 100000
set_option maxHeartbeats 8000000
namespace Go.Proofs
open Go.AM
open IntKind (i64 u64 i32 u32 i16 u16 i8 u8)
def f12_l1 (go:(Int×D5)→Option D5) (i:Int) (l4:D5):Option D5:=
 bif (decide (i<4)) then
 Ad ((l4.length+List.length ([([(i64.wrap (i*4294967296))],[(i64.wrap ((i64.wrap ((i64.wrap ((2:Int)*i))+1))*4294967296))],(0:Int))]))*56≤140737488355328)<|
 go ((i64.wrap (i+1)),(l4++([([(i64.wrap (i*4294967296))],[(i64.wrap ((i64.wrap ((i64.wrap ((2:Int)*i))+1))*4294967296))],(0:Int))])))
 else
 some l4
def f12:Option D5:=
 Ac (Ag (fun go x=>f12_l1 go x.1 x.2) Ah ((0:Int),[])) fun z1=>
 some z1
def C12:Con:=⟨Unit,List (LI×LI×Int),0,fun x=>[],NX,fun x=>f12,fun y=>[.raw true [(.osl 0),(.osl 1),(.d T0 (1:Int)),(.d T0 (2:Int)),(.d T0 (1073741824:Int)),(.d T0 (2147483648:Int)),(.d T0 (0:Int)),(.osl 2),(.osl 3)]],fun y=>[(0,.arr 3 T0 ([(1:Int)])),(1,.arr 79 T1 ([((ByteArray.mk #[100,101,110,115,101]),(1:Int),(0:Int))])),(2,.arr 46 T2 y),(3,.arr 26 T0 ([(0:Int),(0:Int)]))],4⟩
theorem V12 y (q:f12=some y):VC Tryz.f12 C12 () y:=by
 unfold f12 at q
 refine OL (OL (OL (OL (OL (OL (OL (OL ?_)))))))
 obtain ⟨z1,hz1,q⟩:=bE q
 let h0:LH:=fun zz=>(0,.cells [N0,N0,(.d T0 (0:Int)),(.d T0 (0:Int)),(.d T0 (0:Int)),(.d T0 (0:Int)),(.d T0 (0:Int)),N0,N0])::(1,.cells [(.osl 2),(.osl 3),(.d T0 (1:Int)),(.d T0 (2:Int)),(.d T0 (1073741824:Int)),(.d T0 (2147483648:Int)),(.d T0 (0:Int)),(.osl 4),(.osl 5)])::(2,.arr 3 T0 ([(1:Int)]))::(3,.arr 79 T1 ([((ByteArray.mk #[100,101,110,115,101]),(1:Int),(0:Int))]))::zz
 refine lJ hz1 (fun x=>⟨[(0,P0 0 0),(1,P0 1 0),(2,.dat T0 x.1)],h0 [(4,.arr 46 T2 x.2),(5,.arr 26 T0 ([(0:Int),(0:Int)]))],6⟩) (fun z=>[(2,⟨[(0,P0 0 0),(1,P0 1 0)],h0 [(4,.arr 46 T2 z),(5,.arr 26 T0 ([(0:Int),(0:Int)]))],6⟩)]) (E4 (iuR [1,5,2,3,0,4]) (R2 (AI (R2 TV) (R6 TV)))) (fun m=>An (fun i=>fun l4 z q=>?_)) ?_
 ·have q:f12_l1 _ i l4=some z:=q
  unfold f12_l1 at q
  refine OL (OL (cI q (fun q=>?_) (fun q=>?_)))
  ·refine OL (OL (OL (OL (OL (gI q (fun q=>?_))))))
   refine OL (EI ((i64.wrap (i+1)),(l4++([([(i64.wrap (i*4294967296))],[(i64.wrap ((i64.wrap ((i64.wrap ((2:Int)*i))+1))*4294967296))],(0:Int))]))) (AI q (E4 (iuR [1,2,3,4,10,6]) (R2 (AI (R2 TV) (R6 TV))))))
  cases sE q
  refine E4 I6 (AI rfl (AI (R2 TV) (R6 TV)))
 refine AI (OL (OL ?_)) TV
 cases sE q
 refine AI rfl (E4 (iuR [3,4,5,6]) (AI rfl (AJ (R4 TV))))
theorem H12:HI C12 12:=hI Tryz.f12 rfl fun x=>V12
def f136_j1 (kind:ByteArray):Option Bool:=
 bif (ByteArray.toList kind==ByteArray.toList (ByteArray.mk #[100,101,110,115,101])) then
 some (ByteArray.toList kind==ByteArray.toList (ByteArray.mk #[100,101,110,115,101]))
 else
 bif (ByteArray.toList kind==ByteArray.toList (ByteArray.mk #[112,111,111,108])) then
 some (ByteArray.toList kind==ByteArray.toList (ByteArray.mk #[112,111,111,108]))
 else
 some (ByteArray.toList kind==ByteArray.toList (ByteArray.mk #[98,101,110,100]))
def f136 (kind:ByteArray):Option Int:=
 Ac (f136_j1 kind) fun z1=>
 bif z1 then
 some (1:Int)
 else
 bif (ByteArray.toList kind==ByteArray.toList (ByteArray.mk #[99,111,110,118])) then
 some (2:Int)
 else
 bif (ByteArray.toList kind==ByteArray.toList (ByteArray.mk #[115,107,105,112])) then
 some (0:Int)
 else
 some (-1:Int)
def C136:Con:=⟨ByteArray,Int,0,fun x=>[.dat .str x],NX,fun x=>f136 x,fun y=>[.dat T0 y],NX,0⟩
theorem V136 kind y (q:f136 kind=some y):VC Tryz.f136 C136 kind y:=by
 unfold f136 at q
 refine OL (OL (OL ?_))
 obtain ⟨z1,hz1,q⟩:=bE q
 refine OQ ⟨[(0,⟨[(3,.dat .str kind),(4,.dat .bool z1)],[],0⟩)],?_,?_⟩
 ·have q:=hz1
  clear hz1
  unfold f136_j1 at q
  refine OL (cI q (fun q=>?_) (fun q=>?_))
  ·cases sE q
   refine E4 [] (R3 (AI TV TV))
  refine OL (cI q (fun q=>?_) (fun q=>?_))
  ·cases sE q
   refine E4 [] (R3 (AI TV TV))
  cases sE q
  refine E4 [] (R3 (AI TV TV))
 refine AI (cI q (fun q=>?_) (fun q=>?_)) TV
 ·cases sE q
  refine OL (AI rfl (E4 [] (R2 (AI TV TV))))
 refine OL (cI q (fun q=>?_) (fun q=>?_))
 ·cases sE q
  refine OL (AI rfl (E4 [] (R2 (AI TV TV))))
 refine OL (cI q (fun q=>?_) (fun q=>?_))
 ·cases sE q
  refine OL (AI rfl (E4 [] (R2 (AI TV TV))))
 cases sE q
 refine OL (AI rfl (E4 [] (R2 (AI TV TV))))
theorem H136:HI C136 136:=hI Tryz.f136 rfl fun x=>V136 x
def f103 (v most:Int):Option Bool:=
 bif (decide (v≥1)) then
 some (decide (v≤most))
 else
 some false
def C103:Con:=⟨Ax,Bool,0,fun x=>[.dat T0 x.1,.dat T0 x.2],NX,fun x=>f103 x.1 x.2,fun y=>[.dat .bool y],NX,0⟩
theorem V103 v most y (q:f103 v most=some y):VC Tryz.f103 C103 (v,most) y:=by
 unfold f103 at q
 refine OL (OL (cI q (fun q=>?_) (fun q=>?_)))
 ·refine gX (gX (cT ?_))
  cases sE q
  refine AI rfl (E4 [] (R2 (AI TV TV)))
 refine gM (gM (cF ?_))
 cases sE q
 refine AI rfl (E4 [] (R2 (AI TV TV)))
theorem H103:HI C103 103:=hI Tryz.f103 rfl fun x=>V103 x.1 x.2
def f102_j1 (l:PTz16):Option (Sum Unit Unit):=
 Ac (f136 l.1) fun r3=>
 bif (decide (r3<2)) then
 bif (l.2.2 != 0) then
 some (Sum.inr ())
 else
 some (Sum.inl ())
 else
 some (Sum.inl ())
def f102 (l:PTz16):Option Bool:=
 Ac (f102_j1 l) fun z2=>
 Ak z2 (fun z2a=>
 bif (ByteArray.toList l.1==ByteArray.toList (ByteArray.mk #[100,101,110,115,101])) then
 Ac (f103 l.2.1 (256:Int)) fun r4=>
 some r4
 else
 bif (ByteArray.toList l.1==ByteArray.toList (ByteArray.mk #[99,111,110,118])) then
 Ac (f103 l.2.1 (16:Int)) fun r5=>
 bif r5 then
 Ac (f103 l.2.2 (16:Int)) fun r6=>
 some r6
 else
 some false
 else
 bif (ByteArray.toList l.1==ByteArray.toList (ByteArray.mk #[112,111,111,108])) then
 Ac (f103 l.2.1 (16:Int)) fun r7=>
 some r7
 else
 bif (ByteArray.toList l.1==ByteArray.toList (ByteArray.mk #[98,101,110,100])) then
 Ac (f103 l.2.1 (5:Int)) fun r8=>
 some r8
 else
 bif (ByteArray.toList l.1==ByteArray.toList (ByteArray.mk #[115,107,105,112])) then
 some (l.2.1==0)
 else
 some false) (fun z2b=>
 some false)
def C102:Con:=⟨PTz16,Bool,0,fun x=>[.dat T1 x],NX,fun x=>f102 x,fun y=>[.dat .bool y],NX,0⟩
theorem V102 l y (q:f102 l=some y):VC Tryz.f102 C102 l y:=by
 unfold f102 at q
 refine OL ?_
 obtain ⟨z2,hz2,q⟩:=bE q
 refine OQ ⟨Sum.elim (fun z2a=>[(0,⟨[(1,P0 0 0)],[(0,.cells [(.d .str l.1),(.d T0 l.2.1),(.d T0 l.2.2)])],1⟩)]) (fun z2b=>[(1,⟨[(2,.dat .bool false)],[],0⟩)]) z2,?_,?_⟩
 ·have q:=hz2
  clear hz2
  unfold f102_j1 at q
  refine OL ?_
  obtain ⟨r3,h,q⟩:=bE q
  refine OL (cA H136 l.1 h rfl (AI rfl (K0 (cI q (fun q=>?_) (fun q=>?_)))))
  ·refine gX (gX (cT (cI q (fun q=>?_) (fun q=>?_))))
   ·cases sE q
    refine OL (E4 [] (R2 (AI TV TV)))
   cases sE q
   refine E4 (iuR [1]) (AI rfl (AJ (AI rfl TV)))
  refine gM (gM (cF (cF ?_)))
  cases sE q
  refine E4 (iuR [1]) (AI rfl (AJ (AI rfl TV)))
 rcases z2 with z2a | z2b
 ·dsimp only [Ak] at q
  refine AI (OL (OL (OL (cI q (fun q=>?_) (fun q=>?_))))) TV
  ·refine OL ?_
   obtain ⟨r4,h,q⟩:=bE q
   refine OL (cA H103 (l.2.1,(256:Int)) h rfl (R2 (K0 ?_)))
   cases sE q
   refine AI rfl (E4 [] (R2 (AI TV TV)))
  refine OL (cI q (fun q=>?_) (fun q=>?_))
  ·refine OL ?_
   obtain ⟨r5,h,q⟩:=bE q
   refine OL (cA H103 (l.2.1,(16:Int)) h rfl (R2 (K0 (cI q (fun q=>?_) (fun q=>?_)))))
   ·refine gX (gX ?_)
    obtain ⟨r6,h,q⟩:=bE q
    refine OL (cA H103 (l.2.2,(16:Int)) h rfl (R2 (K0 (cT ?_))))
    cases sE q
    refine AI rfl (E4 [] (R2 (AI TV TV)))
   refine gM (gM (cF ?_))
   cases sE q
   refine AI rfl (E4 [] (R2 (AI TV TV)))
  refine OL (cI q (fun q=>?_) (fun q=>?_))
  ·refine OL ?_
   obtain ⟨r7,h,q⟩:=bE q
   refine OL (cA H103 (l.2.1,(16:Int)) h rfl (R2 (K0 ?_)))
   cases sE q
   refine AI rfl (E4 [] (R2 (AI TV TV)))
  refine OL (cI q (fun q=>?_) (fun q=>?_))
  ·refine OL ?_
   obtain ⟨r8,h,q⟩:=bE q
   refine OL (cA H103 (l.2.1,(5:Int)) h rfl (R2 (K0 ?_)))
   cases sE q
   refine AI rfl (E4 [] (R2 (AI TV TV)))
  refine OL (cI q (fun q=>?_) (fun q=>?_))
  ·refine gX (gX (cT ?_))
   cases sE q
   refine AI rfl (E4 [] (R2 (AI TV TV)))
  refine gM (gM (cF ?_))
  cases sE q
  refine AI rfl (E4 [] (R2 (AI TV TV)))
 dsimp only [Ak] at q
 refine AI ?_ TV
 cases sE q
 refine AI rfl (E4 [] (R2 (AI TV TV)))
theorem H102:HI C102 102:=hI Tryz.f102 rfl fun x=>V102 x
def f63_l1 (n:Az) (go:Int→Option (Sum Unit Unit)) (v8:Int):Option (Sum Unit Unit):=
 bif (decide (v8<n.2.length)) then
 Ad (0≤v8∧v8<n.2.length)<|
 Ac (f102 ((rd (Ty.z T1) n.2 v8).1,((rd (Ty.z T1) n.2 v8).2).1,((rd (Ty.z T1) n.2 v8).2).2)) fun r4=>
 bif (!r4) then
 some (Sum.inl ())
 else
 go (i64.wrap (v8+1))
 else
 some (Sum.inr ())
def f63 (n:Az):Option Bool:=
 Ac (Ag (fun go x=>f63_l1 n go x) Ah (0:Int)) fun z3=>
 Ak z3 (fun z3a=>
 some false) (fun z3b=>
 bif ((n.1.length:Int)==1) then
 Ad (0≤(0:Int)∧0<(n.1.length:Int))<|
 Ac (f103 (rd 0 n.1 0) (1024:Int)) fun r5=>
 some r5
 else
 bif ((n.1.length:Int)==2) then
 Ad (0≤(0:Int)∧0<(n.1.length:Int))<|
 Ac (f103 (rd 0 n.1 0) (64:Int)) fun r6=>
 bif r6 then
 Ad (0≤(1:Int)∧1<(n.1.length:Int))<|
 Ac (f103 (rd 0 n.1 1) (64:Int)) fun r7=>
 some r7
 else
 some false
 else
 some false)
def C63:Con:=⟨Az,Bool,0,fun x=>[.dat T3 x],NX,fun x=>f63 x,fun y=>[.dat .bool y],NX,0⟩
theorem V63 n y (q:f63 n=some y):VC Tryz.f63 C63 n y:=by
 unfold f63 at q
 refine OL (OL (OL ?_))
 obtain ⟨z3,h,q⟩:=bE q
 refine lJ h (fun x=>⟨[(1,P0 0 0),(6,.dat T4 n.2),(7,.dat T0 (n.2.length:Int)),(8,.dat T0 x)],[(0,.cells [(.d T5 n.1),(.d T4 n.2)])],1⟩) (fun z=>Sum.elim (fun za=>[(1,⟨[(2,.dat .bool false)],[],0⟩)]) (fun zb=>[(2,⟨[(1,P0 0 0)],[(0,.cells [(.d T5 n.1),(.d T4 n.2)])],1⟩)]) z) (E4 (iuR [1]) (R4 (AJ (AI rfl TV)))) (fun m=>fun v8 z q=>?_) ?_
 ·have q:f63_l1 n _ v8=some z:=q
  unfold f63_l1 at q
  refine OL (OL (cI q (fun q=>?_) (fun q=>?_)))
  ·refine OL (OL (gI q (fun q=>?_)))
   refine OL (OL ?_)
   obtain ⟨r4,h,q⟩:=bE q
   refine OL (cA H102 ((rd (Ty.z T1) n.2 v8).1,((rd (Ty.z T1) n.2 v8).2).1,((rd (Ty.z T1) n.2 v8).2).2) h rfl (R2 (K0 (cI q (fun q=>?_) (fun q=>?_)))))
   ·cases sE q
    refine OL (E4 [] (R2 (AI TV TV)))
   refine EI (i64.wrap (v8+1)) (AI q (E4 (iuR [1]) (R4 (AJ (AI rfl TV)))))
  cases sE q
  refine E4 (iuR [1]) (AI rfl (AJ (AI rfl TV)))
 rcases z3 with z3a | z3b
 ·dsimp only [Ak] at q
  refine AI ?_ TV
  cases sE q
  refine AI rfl (E4 [] (R2 (AI TV TV)))
 dsimp only [Ak] at q
 refine AI (OL (OL (OL (cI q (fun q=>?_) (fun q=>?_))))) TV
 ·refine OL (gI q (fun q=>?_))
  obtain ⟨r5,h,q⟩:=bE q
  refine OL (cA H103 ((rd 0 n.1 0),(1024:Int)) h rfl (R2 (K0 ?_)))
  cases sE q
  refine AI rfl (E4 [] (R2 (AI TV TV)))
 refine OL (cI q (fun q=>?_) (fun q=>?_))
 ·refine OL (gI q (fun q=>?_))
  obtain ⟨r6,h,q⟩:=bE q
  refine OL (cA H103 ((rd 0 n.1 0),(64:Int)) h rfl (R2 (K0 (cI q (fun q=>?_) (fun q=>?_)))))
  ·refine gX (gX (gI q (fun q=>?_)))
   refine gX (gX ?_)
   obtain ⟨r7,h,q⟩:=bE q
   refine OL (cA H103 ((rd 0 n.1 1),(64:Int)) h rfl (R2 (K0 (cT ?_))))
   cases sE q
   refine AI rfl (E4 [] (R2 (AI TV TV)))
  refine gM (gM (gM (gM (cF ?_))))
  cases sE q
  refine AI rfl (E4 [] (R2 (AI TV TV)))
 cases sE q
 refine OL (AI rfl (E4 [] (R2 (AI TV TV))))
theorem H63:HI C63 63:=hI Tryz.f63 rfl fun x=>V63 x
def f47 (s:LI):Option LI:=
 nilF s
 (some ([]))
 (Ad ((List.length ([]:LI)+s.length)*8≤140737488355328)<|
 some (([]:LI)++s))
def C47:Con:=⟨LI,LI,0,fun x=>[.dat T5 x],NX,fun x=>f47 x,fun y=>[O0 0],fun y=>[(0,.arr 3 T0 y)],1⟩
theorem V47 s y (q:f47 s=some y):VC Tryz.f47 C47 s y:=by
 unfold f47 at q
 refine OL (OL (OL (nilI q (fun q=>?_) (fun q=>?_))))
 ·refine cT (OL ?_)
  cases sE q
  refine AI rfl (E4 (iuR [0]) (AI rfl (AJ (AI rfl TV))))
 refine cF (OL (OL (OL (gI q (fun q=>?_)))))
 cases sE q
 refine AI rfl (E4 (iuR [2]) (AI rfl (AJ (AI rfl TV))))
theorem H47:HI C47 47:=hI Tryz.f47 rfl fun x=>V47 x
def f104_j1 (l:PTz16) (in_:LI):Option (Sum Unit Unit):=
 bif ((in_.length:Int) != 2) then
 some (Sum.inr ())
 else
 Ad (0≤(1:Int)∧1<(in_.length:Int))<|
 bif (decide (l.2.2>(rd 0 in_ 1))) then
 some (Sum.inr ())
 else
 some (Sum.inl ())
def f104_j2 (l:PTz16) (in_:LI):Option (Sum Unit Unit):=
 bif ((in_.length:Int) != 2) then
 some (Sum.inr ())
 else
 Ad (0≤(1:Int)∧1<(in_.length:Int))<|
 bif (decide (l.2.1>(rd 0 in_ 1))) then
 some (Sum.inr ())
 else
 some (Sum.inl ())
def f104 (l:PTz16) (in_:LI):Option (Bool×LI):=
 bif (ByteArray.toList l.1==ByteArray.toList (ByteArray.mk #[100,101,110,115,101])) then
 some (true,[l.2.1])
 else
 bif (ByteArray.toList l.1==ByteArray.toList (ByteArray.mk #[99,111,110,118])) then
 Ac (f104_j1 l in_) fun z1=>
 Ak z1 (fun z1a=>
 Ad (0≤(1:Int)∧1<(in_.length:Int))<|
 some (true,[l.2.1,(i64.wrap ((i64.wrap ((rd 0 in_ 1)-l.2.2))+1))])) (fun z1b=>
 some (false,[]))
 else
 bif (ByteArray.toList l.1==ByteArray.toList (ByteArray.mk #[112,111,111,108])) then
 Ac (f104_j2 l in_) fun z2=>
 Ak z2 (fun z2a=>
 Ad (0≤(0:Int)∧0<(in_.length:Int))<|
 Ad (0≤(1:Int)∧1<(in_.length:Int))<|
 Ad (l.2.1≠0)<|
 some (true,[(rd 0 in_ 0),(i64.wrap (Int.tdiv (rd 0 in_ 1) l.2.1))])) (fun z2b=>
 some (false,[]))
 else
 Ac (f47 in_) fun q11_11=>
 some (true,q11_11)
def C104:Con:=⟨PTz16×LI,Bool×LI,0,fun x=>[.dat T1 x.1,.dat T5 x.2],NX,fun x=>f104 x.1 x.2,fun y=>[O0 0,.dat .bool y.1],fun y=>[(0,.arr 3 T0 y.2)],1⟩
theorem V104 l in_ y (q:f104 l in_=some y):VC Tryz.f104 C104 (l,in_) y:=by
 unfold f104 at q
 refine OL (OL (OL (OL (cI q (fun q=>?_) (fun q=>?_)))))
 ·refine OL (OL ?_)
  cases sE q
  refine AI rfl (E4 (iuR [2]) (R2 (AJ (AI rfl TV))))
 refine OL (cI q (fun q=>?_) (fun q=>?_))
 ·obtain ⟨z1,hz1,q⟩:=bE q
  refine OQ ⟨Sum.elim (fun z1a=>[(0,⟨[(1,.dat T5 in_),(2,P0 0 0)],[(0,.cells [(.d .str l.1),(.d T0 l.2.1),(.d T0 l.2.2)])],1⟩)]) (fun z1b=>[(1,⟨[(4,.raw false [N0]),(5,.dat .bool false)],[],0⟩)]) z1,?_,?_⟩
  ·have q:=hz1
   clear hz1
   unfold f104_j1 at q
   refine OL (EI (tU 0 11 .done) (EI [] (EI [] (AI rfl (cN q (fun q=>?_) (fun q=>?_))))))
   ·refine gY (gY (gY (gI q (fun q=>?_))))
    refine gY (gY (cF (cI q (fun q=>?_) (fun q=>?_))))
    ·cases sE q
     refine OL (E4 [] (R2 (AJ TV)))
    cases sE q
    refine E4 (iuR [1]) (R2 (AJ (AI rfl TV)))
   refine gN (gN (gN (gN (gN (cT (cT (OL ?_)))))))
   cases sE q
   refine E4 [] (R2 (AJ TV))
  rcases z1 with z1a | z1b
  ·dsimp only [Ak] at q
   refine AI (OL (EI (tU 0 9 (.alt 9 (.take 10 (.take 11 .done)) .done)) (EI [] (EI [] (AI rfl (gI q (fun q=>?_))))))) TV
   refine AI TV (OL ?_)
   cases sE q
   refine AI rfl (E4 (iuR [2]) (R2 (AJ (AI rfl TV))))
  dsimp only [Ak] at q
  refine AI ?_ TV
  cases sE q
  refine AI rfl (E4 (iuR [0]) (R2 (AJ (AI rfl TV))))
 refine OL (cI q (fun q=>?_) (fun q=>?_))
 ·obtain ⟨z2,hz2,q⟩:=bE q
  refine OQ ⟨Sum.elim (fun z2a=>[(0,⟨[(1,.dat T5 in_),(2,P0 0 0)],[(0,.cells [(.d .str l.1),(.d T0 l.2.1),(.d T0 l.2.2)])],1⟩)]) (fun z2b=>[(1,⟨[(4,.raw false [N0]),(5,.dat .bool false)],[],0⟩)]) z2,?_,?_⟩
  ·have q:=hz2
   clear hz2
   unfold f104_j2 at q
   refine OL (EI (tU 0 11 .done) (EI [] (EI [] (AI rfl (cN q (fun q=>?_) (fun q=>?_))))))
   ·refine gY (gY (gY (gI q (fun q=>?_))))
    refine gY (gY (cF (cI q (fun q=>?_) (fun q=>?_))))
    ·cases sE q
     refine OL (E4 [] (R2 (AJ TV)))
    cases sE q
    refine E4 (iuR [1]) (R2 (AJ (AI rfl TV)))
   refine gN (gN (gN (gN (gN (cT (cT (OL ?_)))))))
   cases sE q
   refine E4 [] (R2 (AJ TV))
  rcases z2 with z2a | z2b
  ·dsimp only [Ak] at q
   refine AI (OL (EI (tU 0 9 (.alt 9 (.take 10 (.take 11 .done)) .done)) (EI [] (EI [] (AI rfl (gI q (fun q=>?_))))))) TV
   refine gI q (fun q=>?_)
   refine gI q (fun q=>?_)
   refine AI TV (OL ?_)
   cases sE q
   refine AI rfl (E4 (iuR [2]) (R2 (AJ (AI rfl TV))))
  dsimp only [Ak] at q
  refine AI ?_ TV
  cases sE q
  refine AI rfl (E4 (iuR [0]) (R2 (AJ (AI rfl TV))))
 refine OL ?_
 obtain ⟨q11_11,h,q⟩:=bE q
 refine OL (cA H47 in_ h rfl (AI rfl (K0 ?_)))
 cases sE q
 refine AI rfl (E4 (iuR [2]) (R2 (AJ (AI rfl TV))))
theorem H104:HI C104 104:=hI Tryz.f104 rfl fun x=>V104 x.1 x.2
def f140_l1 (s1 s2:LI) (go:Int→Option (Sum Unit Unit)) (v13:Int):Option (Sum Unit Unit):=
 bif (decide (v13<s1.length)) then
 Ad (0≤v13∧v13<s1.length)<|
 Ad (0≤v13∧v13<s2.length)<|
 bif ((rd 0 s1 v13) != (rd 0 s2 v13)) then
 some (Sum.inl ())
 else
 go (i64.wrap (v13+1))
 else
 some (Sum.inr ())
def f140 (s1 s2:LI):Option Bool:=
 bif ((s1.length:Int) != s2.length) then
 some false
 else
 Ac (Ag (fun go x=>f140_l1 s1 s2 go x) Ah (0:Int)) fun z1=>
 Ak z1 (fun z1a=>
 some false) (fun z1b=>
 some true)
def C140:Con:=⟨Al,Bool,0,fun x=>[.dat T5 x.1,.dat T5 x.2],NX,fun x=>f140 x.1 x.2,fun y=>[.dat .bool y],NX,0⟩
theorem V140 s1 s2 y (q:f140 s1 s2=some y):VC Tryz.f140 C140 (s1,s2) y:=by
 unfold f140 at q
 refine OL (OL (OL (cI q (fun q=>?_) (fun q=>?_))))
 ·cases sE q
  refine OL (AI rfl (E4 [] (R2 (AI TV TV))))
 refine OL (OL ?_)
 obtain ⟨z1,h,q⟩:=bE q
 refine lJ h (fun x=>⟨[(0,.dat T5 s1),(1,.dat T5 s2),(12,.dat T0 (s1.length:Int)),(13,.dat T0 x)],[],0⟩) (fun z=>Sum.elim (fun za=>[(1,⟨[(4,.dat .bool false)],[],0⟩)]) (fun zb=>[(2,⟨[],[],0⟩)]) z) (E4 [] (R5 (AI TV TV))) (fun m=>fun v13 z q=>?_) ?_
 ·have q:f140_l1 s1 s2 _ v13=some z:=q
  unfold f140_l1 at q
  refine OL (OL (cI q (fun q=>?_) (fun q=>?_)))
  ·refine OL (OL (OL (EI (tU 0 9 .done) (EI [] (EI [] (AI rfl (gI q (fun q=>?_))))))))
   refine gI q (fun q=>?_)
   refine cI q (fun q=>?_) (fun q=>?_)
   ·cases sE q
    refine OL (E4 [] (R2 (AI TV TV)))
   refine EI (i64.wrap (v13+1)) (AI q (E4 [] (R5 (AI TV TV))))
  cases sE q
  refine E4 [] (AI rfl (AI TV TV))
 rcases z1 with z1a | z1b
 ·dsimp only [Ak] at q
  refine AI ?_ TV
  cases sE q
  refine AI rfl (E4 [] (R2 (AI TV TV)))
 dsimp only [Ak] at q
 refine AI (OL ?_) TV
 cases sE q
 refine AI rfl (E4 [] (R2 (AI TV TV)))
theorem H140:HI C140 140:=hI Tryz.f140 rfl fun x=>V140 x.1 x.2
def f120 (a b:LI):Option Bool:=
 Ac (f140 a b) fun r1=>
 some r1
def C120:Con:=⟨Al,Bool,0,fun x=>[.dat T5 x.1,.dat T5 x.2],NX,fun x=>f120 x.1 x.2,fun y=>[.dat .bool y],NX,0⟩
theorem V120 a b y (q:f120 a b=some y):VC Tryz.f120 C120 (a,b) y:=by
 unfold f120 at q
 refine OL (OL ?_)
 obtain ⟨r1,h,q⟩:=bE q
 refine OL (cA H140 (a,b) h rfl (R2 (K0 ?_)))
 cases sE q
 refine AI rfl (E4 [] (R2 (AI TV TV)))
theorem H120:HI C120 120:=hI Tryz.f120 rfl fun x=>V120 x.1 x.2
def f105 (n:Az) (i:Int) (d:List LI):Option Bool:=
 bif (decide (i>0)) then
 Ad (0≤(i64.wrap (i-1))∧(i64.wrap (i-1))<n.2.length)<|
 bif (!(ByteArray.toList ((rd (Ty.z T1) n.2 (i64.wrap (i-1))).1)==ByteArray.toList (ByteArray.mk #[115,107,105,112]))) then
 Ad (0≤(i64.wrap (i-1))∧(i64.wrap (i-1))<d.length)<|
 Ad (0≤i∧i<d.length)<|
 Ac (f120 (rd (Ty.z T5) d (i64.wrap (i-1))) (rd (Ty.z T5) d i)) fun q1_22=>
 some q1_22
 else
 some false
 else
 some false
def C105:Con:=⟨Az×PTz17,Bool,0,fun x=>[.dat T3 x.1,.dat T0 x.2.1,.dat T6 x.2.2],NX,fun x=>f105 x.1 x.2.1 x.2.2,fun y=>[.dat .bool y],NX,0⟩
theorem V105 n i d y (q:f105 n i d=some y):VC Tryz.f105 C105 (n,i,d) y:=by
 unfold f105 at q
 refine OL (OL (EI (tU 0 22 (.alt 22 (.take 23 (.take 24 .done)) .done)) (EI [] (EI [] (AI rfl (cI q (fun q=>?_) (fun q=>?_)))))))
 ·refine gX (gX (gX (gX (gI q (fun q=>?_)))))
  refine gX (gX (gX (cT (cI q (fun q=>?_) (fun q=>?_)))))
  ·refine gX (gX (gX (gI q (fun q=>?_))))
   refine gX (gX (gX (gX (gI q (fun q=>?_)))))
   refine gX (AI TV (gX ?_))
   obtain ⟨q1_22,h,q⟩:=bE q
   refine OL (cA H120 ((rd (Ty.z T5) d (i64.wrap (i-1))),(rd (Ty.z T5) d i)) h rfl (R2 (K0 (cT ?_))))
   cases sE q
   refine AI rfl (E4 [] (R2 (AI TV TV)))
  refine gM (gM (gM (gM (gM (gM (gM (gM (AI TV (gM (cF ?_))))))))))
  cases sE q
  refine AI rfl (E4 [] (R2 (AI TV TV)))
 refine gM (gM (gM (gM (gM (gM (gM (cF (gM (gM (gM (gM (gM (gM (gM (gM (gM (AI TV (gM (cF ?_)))))))))))))))))))
 cases sE q
 refine AI rfl (E4 [] (R2 (AI TV TV)))
theorem H105:HI C105 105:=hI Tryz.f105 rfl fun x=>V105 x.1 x.2.1 x.2.2
def f64_j4 (n:Az) (v16:Int) (l1:List LI) (q5_5:Bool×LI):Option (Sum Unit Unit):=
 bif (!q5_5.1) then
 some (Sum.inr ())
 else
 bif (ByteArray.toList ((rd (Ty.z T1) n.2 v16).1)==ByteArray.toList (ByteArray.mk #[115,107,105,112])) then
 Ac (f105 (n.1,n.2) v16 l1) fun r8=>
 bif (!r8) then
 some (Sum.inr ())
 else
 some (Sum.inl ())
 else
 some (Sum.inl ())
def f64_l3 (n:Az) (go:PTz17→Option (Sum Unit (List LI))) (v16:Int) (l1:List LI):Option (Sum Unit (List LI)):=
 bif (decide (v16<n.2.length)) then
 Ad (0≤v16∧v16<n.2.length)<|
 Ad (0≤v16∧v16<l1.length)<|
 Ac (f104 ((rd (Ty.z T1) n.2 v16).1,((rd (Ty.z T1) n.2 v16).2).1,((rd (Ty.z T1) n.2 v16).2).2) (rd (Ty.z T5) l1 v16)) fun q5_5=>
 Ac (f64_j4 n v16 l1 q5_5) fun z7=>
 Ak z7 (fun z7a=>
 Ad ((l1.length+List.length ([q5_5.2]))*24≤140737488355328)<|
 go ((i64.wrap (v16+1)),(l1++([q5_5.2])))) (fun z7b=>
 some (Sum.inl ()))
 else
 some (Sum.inr l1)
def f64 (n:Az):Option (Bool×(List LI)):=
 Ac (f47 n.1) fun r1=>
 Ac (Ag (fun go x=>f64_l3 n go x.1 x.2) Ah ((0:Int),[r1])) fun z6=>
 Ak z6 (fun z6a=>
 some (false,[])) (fun z6b=>
 some (true,z6b))
def C64:Con:=⟨Az,Bool×(List LI),0,fun x=>[.dat T3 x],NX,fun x=>f64 x,fun y=>[O0 0,.dat .bool y.1],fun y=>[(0,.arr 22 T5 y.2)],1⟩
theorem V64 n y (q:f64 n=some y):VC Tryz.f64 C64 n y:=by
 unfold f64 at q
 refine OL (OL ?_)
 obtain ⟨r1,h,q⟩:=bE q
 refine OL (cA H47 n.1 h rfl (AI rfl (K0 (OL (OL (OL ?_))))))
 obtain ⟨z6,h,q⟩:=bE q
 refine lJ h (fun x=>⟨[(1,P0 0 0),(4,O0 1),(14,.dat T4 n.2),(15,.dat T0 (n.2.length:Int)),(16,.dat T0 x.1)],[(0,.cells [(.d T5 n.1),(.d T4 n.2)]),(1,.arr 22 T5 x.2)],2⟩) (fun z=>Sum.elim (fun za=>[(1,⟨[(2,.raw false [N0]),(3,.dat .bool false)],[],0⟩)]) (fun zb=>[(2,⟨[(4,O0 0)],[(0,.arr 22 T5 zb)],1⟩)]) z) (E4 (iuR [1,3]) (R4 (AI (R2 TV) (R2 TV)))) (fun m=>An (fun v16=>fun l1 z q=>?_)) ?_
 ·have q:f64_l3 n _ v16 l1=some z:=q
  unfold f64_l3 at q
  refine OL (OL (cI q (fun q=>?_) (fun q=>?_)))
  ·refine OL (OL (gI q (fun q=>?_)))
   refine OL (OL (EI (tU 0 5 (.alt 5 (tU 6 5 .done) .done)) (EI [] (EI [] (AI rfl (gI q (fun q=>?_)))))))
   refine AI TV ?_
   obtain ⟨q5_5,h,q⟩:=bE q
   refine OL (cA H104 (((rd (Ty.z T1) n.2 v16).1,((rd (Ty.z T1) n.2 v16).2).1,((rd (Ty.z T1) n.2 v16).2).2),(rd (Ty.z T5) l1 v16)) h rfl (R3 (K0 ?_)))
   obtain ⟨z7,hz7,q⟩:=bE q
   refine OQ ⟨Sum.elim (fun z7a=>[(0,⟨[(1,P0 0 0),(4,O0 1),(7,O0 2),(14,.dat T4 n.2),(15,.dat T0 (n.2.length:Int)),(16,.dat T0 v16)],[(0,.cells [(.d T5 n.1),(.d T4 n.2)]),(1,.arr 22 T5 l1),(2,.arr 3 T0 q5_5.2)],3⟩)]) (fun z7b=>[(1,⟨[(2,.raw false [N0]),(3,.dat .bool false)],[],0⟩)]) z7,?_,?_⟩
   ·have q:=hz7
    clear hz7
    unfold f64_j4 at q
    refine OL (cN q (fun q=>?_) (fun q=>?_))
    ·refine gY (gY (gY (cI q (fun q=>?_) (fun q=>?_))))
     ·refine gX (gX (gX ?_))
      obtain ⟨r8,h,q⟩:=bE q
      refine OL (cD H105 ((n.1,n.2),v16,l1) h rfl (R4 (AI (fun _=>rfl) (R2 (AI TV (AI TV (gX (gY (cT (cF (cI q (fun q=>?_) (fun q=>?_))))))))))))
      ·cases sE q
       refine OL (E4 [] (R2 (AJ TV)))
      cases sE q
      refine E4 (iuR [1,2,4]) (R4 (AI (R3 TV) (R3 TV)))
     refine gM (gM (gM (gM (gY (cF (cF (cF ?_)))))))
     cases sE q
     refine E4 (iuR [1,2,4]) (R4 (AI (R3 TV) (R3 TV)))
    refine gN (gN (gN (gN (cT (cT (OL ?_))))))
    cases sE q
    refine E4 [] (R2 (AJ TV))
   rcases z7 with z7a | z7b
   ·dsimp only [Ak] at q
    refine AI (OL (OL (gI q (fun q=>?_)))) TV
    refine EI ((i64.wrap (v16+1)),(l1++([q5_5.2]))) (AI q (E4 (iuR [1,5]) (R4 (AI (R2 TV) (R2 TV)))))
   dsimp only [Ak] at q
   refine AI ?_ TV
   cases sE q
   refine E4 [] (R2 (AJ TV))
  cases sE q
  refine E4 (iuR [2]) (AI rfl (AJ (AI rfl TV)))
 rcases z6 with z6a | z6b
 ·dsimp only [Ak] at q
  refine AI ?_ TV
  cases sE q
  refine AI rfl (E4 (iuR [0]) (R2 (AJ (AI rfl TV))))
 dsimp only [Ak] at q
 refine AI (OL ?_) TV
 cases sE q
 refine AI rfl (E4 (iuR [1]) (R2 (AJ (AI rfl TV))))
theorem H64:HI C64 64:=hI Tryz.f64 rfl fun x=>V64 x
def f66_l1 (d:LI) (go:Ax→Option Int) (n v8:Int):Option Int:=
 bif (decide (v8<d.length)) then
 Ad (0≤v8∧v8<d.length)<|
 go ((i64.wrap (n*(rd 0 d v8))),(i64.wrap (v8+1)))
 else
 some n
def f66 (d:LI):Option Int:=
 Ac (Ag (fun go x=>f66_l1 d go x.1 x.2) Ah ((1:Int),(0:Int))) fun z1=>
 some z1
def C66:Con:=⟨LI,Int,0,fun x=>[.dat T5 x],NX,fun x=>f66 x,fun y=>[.dat T0 y],NX,0⟩
theorem V66 d y (q:f66 d=some y):VC Tryz.f66 C66 d y:=by
 unfold f66 at q
 refine OL (OL (OL (OL ?_)))
 obtain ⟨z1,h,q⟩:=bE q
 refine lJ h (fun x=>⟨[(3,.dat T0 x.1),(6,.dat T5 d),(7,.dat T0 (d.length:Int)),(8,.dat T0 x.2)],[],0⟩) (fun z=>[(2,⟨[(3,.dat T0 z)],[],0⟩)]) (E4 [] (R5 (AI TV TV))) (fun m=>An (fun n=>fun v8 z q=>?_)) ?_
 ·have q:f66_l1 d _ n v8=some z:=q
  unfold f66_l1 at q
  refine OL (OL (cI q (fun q=>?_) (fun q=>?_)))
  ·refine OL (OL (gI q (fun q=>?_)))
   refine EI ((i64.wrap (n*(rd 0 d v8))),(i64.wrap (v8+1))) (AI q (E4 [] (R5 (AI TV TV))))
  cases sE q
  refine E4 [] (R2 (AI TV TV))
 refine AI (OL ?_) TV
 cases sE q
 refine AI rfl (E4 [] (R2 (AI TV TV)))
theorem H66:HI C66 66:=hI Tryz.f66 rfl fun x=>V66 x
def f65 (l:PTz16) (in_:LI):Option (List LI):=
 bif (ByteArray.toList l.1==ByteArray.toList (ByteArray.mk #[100,101,110,115,101])) then
 Ac (f66 in_) fun q3_3=>
 some ([[l.2.1,q3_3],[l.2.1]])
 else
 bif (ByteArray.toList l.1==ByteArray.toList (ByteArray.mk #[99,111,110,118])) then
 Ad (0≤(0:Int)∧0<(in_.length:Int))<|
 some ([[l.2.1,(rd 0 in_ 0),l.2.2]])
 else
 some ([])
def C65:Con:=⟨PTz16×LI,List LI,0,fun x=>[.dat T1 x.1,.dat T5 x.2],NX,fun x=>f65 x.1 x.2,fun y=>[O0 0],fun y=>[(0,.arr 22 T5 y)],1⟩
theorem V65 l in_ y (q:f65 l in_=some y):VC Tryz.f65 C65 (l,in_) y:=by
 unfold f65 at q
 refine OL (OL (OL (OL (cI q (fun q=>?_) (fun q=>?_)))))
 ·refine OL ?_
  obtain ⟨q3_3,hq3_3,q⟩:=bE q
  refine EI (tU 0 3 (.take 5 (.take 6 (.alt 3 (.alt 4 (.alt 7 (.alt 8 (.take 9 .done) .done) .done) (.alt 7 (.alt 4 (.alt 8 (.take 9 .done) .done) .done) .done)) (.alt 7 (.alt 3 (.alt 4 (.alt 8 (.take 9 .done) .done) .done) .done) .done))))) (EI [] (EI [] (AI rfl (AI (AI TV ?_) ?_))))
  ·refine OL (AI TV (OL (cA H66 in_ hq3_3 rfl (AI rfl (K0 (AI TV (OL (AI TV (OL ?_)))))))))
   cases sE q
   refine AI rfl (E4 (iuR [4]) (AI rfl (AJ (AI rfl TV))))
  refine OL (cA H66 in_ hq3_3 rfl (AI rfl (K0 (AI (AI TV ?_) ?_))))
  ·refine OL (AI TV (OL (AI TV (OL ?_))))
   cases sE q
   refine AI rfl (E4 (iuR [4]) (AI rfl (AJ (AI rfl TV))))
  refine OL (AI TV (OL (AI TV (OL ?_))))
  cases sE q
  refine AI rfl (E4 (iuR [4]) (AI rfl (AJ (AI rfl TV))))
 refine OL (cI q (fun q=>?_) (fun q=>?_))
 ·refine OL (EI (tU 0 7 (.alt 7 (.alt 8 (.take 9 .done) .done) .done)) (EI [] (EI [] (AI rfl (gI q (fun q=>?_))))))
  refine AI TV (OL (AI TV (OL ?_)))
  cases sE q
  refine AI rfl (E4 (iuR [3]) (AI rfl (AJ (AI rfl TV))))
 cases sE q
 refine OL (AI rfl (E4 (iuR [0]) (AI rfl (AJ (AI rfl TV)))))
theorem H65:HI C65 65:=hI Tryz.f65 rfl fun x=>V65 x.1 x.2
def f106_j4 (d:LI) (v11:Int):Option (Sum Unit Unit):=
 bif (decide ((rd 0 d v11)<1)) then
 some (Sum.inr ())
 else
 bif (decide ((rd 0 d v11)>4096)) then
 some (Sum.inr ())
 else
 some (Sum.inl ())
def f106_l3 (d:LI) (go:Ax→Option (Sum Unit Int)) (n v11:Int):Option (Sum Unit Int):=
 bif (decide (v11<d.length)) then
 Ad (0≤v11∧v11<d.length)<|
 Ac (f106_j4 d v11) fun z4=>
 Ak z4 (fun z4a=>
 bif (decide ((i64.wrap (n*(rd 0 d v11)))>4096)) then
 some (Sum.inl ())
 else
 go ((i64.wrap (n*(rd 0 d v11))),(i64.wrap (v11+1)))) (fun z4b=>
 some (Sum.inl ()))
 else
 some (Sum.inr n)
def f106 (d:LI):Option Int:=
 bif (decide ((d.length:Int)>4)) then
 some (0:Int)
 else
 Ac (Ag (fun go x=>f106_l3 d go x.1 x.2) Ah ((1:Int),(0:Int))) fun z3=>
 Ak z3 (fun z3a=>
 some (0:Int)) (fun z3b=>
 some z3b)
def C106:Con:=⟨LI,Int,0,fun x=>[.dat T5 x],NX,fun x=>f106 x,fun y=>[.dat T0 y],NX,0⟩
theorem V106 d y (q:f106 d=some y):VC Tryz.f106 C106 d y:=by
 unfold f106 at q
 refine OL (OL (OL (cI q (fun q=>?_) (fun q=>?_))))
 ·cases sE q
  refine OL (AI rfl (E4 [] (R2 (AI TV TV))))
 refine OL (OL (OL ?_))
 obtain ⟨z3,h,q⟩:=bE q
 refine lJ h (fun x=>⟨[(3,.dat T0 x.1),(9,.dat T5 d),(10,.dat T0 (d.length:Int)),(11,.dat T0 x.2)],[],0⟩) (fun z=>Sum.elim (fun za=>[(1,⟨[(2,D0 0)],[],0⟩)]) (fun zb=>[(2,⟨[(3,.dat T0 zb)],[],0⟩)]) z) (E4 [] (R5 (AI TV TV))) (fun m=>An (fun n=>fun v11 z q=>?_)) ?_
 ·have q:f106_l3 d _ n v11=some z:=q
  unfold f106_l3 at q
  refine OL (OL (cI q (fun q=>?_) (fun q=>?_)))
  ·refine OL (OL (gI q (fun q=>?_)))
   obtain ⟨z4,hz4,q⟩:=bE q
   refine OQ ⟨Sum.elim (fun z4a=>[(0,⟨[(3,.dat T0 n),(5,.dat T0 (rd 0 d v11)),(9,.dat T5 d),(10,.dat T0 (d.length:Int)),(11,.dat T0 v11)],[],0⟩)]) (fun z4b=>[(1,⟨[(2,D0 0)],[],0⟩)]) z4,?_,?_⟩
   ·have q:=hz4
    clear hz4
    unfold f106_j4 at q
    refine OL (cN q (fun q=>?_) (fun q=>?_))
    ·refine gY (cF (cI q (fun q=>?_) (fun q=>?_)))
     ·cases sE q
      refine OL (E4 [] (R2 (AI TV TV)))
     cases sE q
     refine E4 [] (R6 (AI TV TV))
    refine gN (cT (cT (OL ?_)))
    cases sE q
    refine E4 [] (R2 (AI TV TV))
   rcases z4 with z4a | z4b
   ·dsimp only [Ak] at q
    refine AI (OL (OL (cI q (fun q=>?_) (fun q=>?_)))) TV
    ·cases sE q
     refine OL (E4 [] (R2 (AI TV TV)))
    refine EI ((i64.wrap (n*(rd 0 d v11))),(i64.wrap (v11+1))) (AI q (E4 [] (R5 (AI TV TV))))
   dsimp only [Ak] at q
   refine AI ?_ TV
   cases sE q
   refine E4 [] (R2 (AI TV TV))
  cases sE q
  refine E4 [] (R2 (AI TV TV))
 rcases z3 with z3a | z3b
 ·dsimp only [Ak] at q
  refine AI ?_ TV
  cases sE q
  refine AI rfl (E4 [] (R2 (AI TV TV)))
 dsimp only [Ak] at q
 refine AI (OL ?_) TV
 cases sE q
 refine AI rfl (E4 [] (R2 (AI TV TV)))
theorem H106:HI C106 106:=hI Tryz.f106 rfl fun x=>V106 x
def f67 (d:LI):Option Bool:=
 Ac (f106 d) fun r1=>
 some (decide (r1>0))
def C67:Con:=⟨LI,Bool,0,fun x=>[.dat T5 x],NX,fun x=>f67 x,fun y=>[.dat .bool y],NX,0⟩
theorem V67 d y (q:f67 d=some y):VC Tryz.f67 C67 d y:=by
 unfold f67 at q
 refine OL (OL ?_)
 obtain ⟨r1,h,q⟩:=bE q
 refine OL (cA H106 d h rfl (AI rfl (K0 ?_)))
 cases sE q
 refine AI rfl (E4 [] (R2 (AI TV TV)))
theorem H67:HI C67 67:=hI Tryz.f67 rfl fun x=>V67 x
def f41_l4 (q5_5:List LI) (go:(Int×Bool×Int)→Option Ea) (many_2:Int) (ok_2:Bool) (v31:Int):Option Ea:=
 bif (decide (v31<q5_5.length)) then
 Ad (0≤v31∧v31<q5_5.length)<|
 Ac (f66 (rd (Ty.z T5) q5_5 v31)) fun r25=>
 bif ok_2 then
 Ac (f67 (rd (Ty.z T5) q5_5 v31)) fun r26=>
 go ((i64.wrap (many_2+r25)),r26,(i64.wrap (v31+1)))
 else
 go ((i64.wrap (many_2+r25)),false,(i64.wrap (v31+1)))
 else
 some (many_2,ok_2)
def f41_l3 (n:Az) (d:List LI) (go:(Int×Bool×Int)→Option Ea) (Ar:Int) (ok:Bool) (v19:Int):Option Ea:=
 bif (decide (v19<n.2.length)) then
 Ad (0≤v19∧v19<n.2.length)<|
 Ad (0≤v19∧v19<d.length)<|
 Ac (f65 ((rd (Ty.z T1) n.2 v19).1,((rd (Ty.z T1) n.2 v19).2).1,((rd (Ty.z T1) n.2 v19).2).2) (rd (Ty.z T5) d v19)) fun q5_5=>
 Ac (Ag (fun go x=>f41_l4 q5_5 go x.1 x.2.1 x.2.2) Ah (Ar,ok,(0:Int))) fun z24=>
 bif z24.2 then
 Ad (0≤v19∧v19<d.length)<|
 Ac (f67 (rd (Ty.z T5) d v19)) fun r27=>
 bif r27 then
 Ad (0≤(i64.wrap (v19+1))∧(i64.wrap (v19+1))<d.length)<|
 Ac (f67 (rd (Ty.z T5) d (i64.wrap (v19+1)))) fun r28=>
 go (z24.1,r28,(i64.wrap (v19+1)))
 else
 go (z24.1,false,(i64.wrap (v19+1)))
 else
 go (z24.1,false,(i64.wrap (v19+1)))
 else
 some (Ar,ok)
def f41 (n:Az) (d:List LI):Option Ea:=
 Ac (Ag (fun go x=>f41_l3 n d go x.1 x.2.1 x.2.2) Ah ((0:Int),(decide ((n.2.length:Int)≤16)),(0:Int))) fun z19=>
 bif z19.2 then
 Ac (f67 n.1) fun r29=>
 bif r29 then
 some (z19.1,(decide (z19.1≤4096)))
 else
 some (z19.1,false)
 else
 some (z19.1,false)
def C41:Con:=⟨Az×(List LI),Ea,0,fun x=>[.dat T3 x.1,.dat T6 x.2],NX,fun x=>f41 x.1 x.2,fun y=>[.dat T0 y.1,.dat .bool y.2],NX,0⟩
theorem V41 n d y (q:f41 n d=some y):VC Tryz.f41 C41 (n,d) y:=by
 unfold f41 at q
 refine OL (OL (EI (tU 0 6 .done) (EI [] (EI [] (AI rfl (OL (OL ?_)))))))
 obtain ⟨z19,hz19,q⟩:=bE q
 let h0:LH:=fun zz=>(0,.cells [(.d T5 n.1),(.d T4 n.2)])::zz
 refine lJ hz19 (fun x=>⟨[(1,.dat T6 d),(2,P0 0 0),(6,.dat T0 x.1),(7,.dat .bool x.2.1),(17,.dat T4 n.2),(18,.dat T0 (n.2.length:Int)),(19,.dat T0 x.2.2)],h0 [],1⟩) (fun z=>[(2,⟨[(2,P0 0 0),(6,.dat T0 z.1),(7,.dat .bool z.2)],h0 [],1⟩)]) (E4 (iuR [1]) (R7 (AJ (AI rfl TV)))) (fun m=>An (fun Ar=>An (fun ok=>fun v19 z q=>?_))) ?_
 ·have q:f41_l3 n d _ Ar ok v19=some z:=q
  unfold f41_l3 at q
  refine OL (OL (cI q (fun q=>?_) (fun q=>?_)))
  ·refine OL (OL (gI q (fun q=>?_)))
   refine OL (OL (OL (EI (tU 0 5 (.take 7 (.alt 5 (.take 6 .done) .done))) (EI [] (EI [] (AI rfl (gI q (fun q=>?_))))))))
   refine AI TV ?_
   obtain ⟨q5_5,h,q⟩:=bE q
   refine OL (cA H65 (((rd (Ty.z T1) n.2 v19).1,((rd (Ty.z T1) n.2 v19).2).1,((rd (Ty.z T1) n.2 v19).2).2),(rd (Ty.z T5) d v19)) h rfl (R3 (K0 ?_)))
   obtain ⟨z24,h,q⟩:=bE q
   refine lJ h (fun x=>⟨[(1,.dat T6 d),(2,P0 0 0),(6,.dat T0 x.1),(7,.dat .bool x.2.1),(8,.dat T0 v19),(17,.dat T4 n.2),(18,.dat T0 (n.2.length:Int)),(19,.dat T0 v19),(29,O0 1),(30,.dat T0 (q5_5.length:Int)),(31,.dat T0 x.2.2)],h0 [(1,.arr 22 T5 q5_5)],2⟩) (fun z=>[(4,⟨[(1,.dat T6 d),(2,P0 0 0),(6,.dat T0 z.1),(7,.dat .bool z.2),(8,.dat T0 v19),(17,.dat T4 n.2),(18,.dat T0 (n.2.length:Int)),(19,.dat T0 v19)],h0 [],1⟩)]) (E4 (iuR [1,3]) (R10 (AI (R2 TV) (R2 TV)))) (fun m=>An (fun many_2=>An (fun ok_2=>fun v31 z q=>?_))) ?_
   ·have q:f41_l4 q5_5 _ many_2 ok_2 v31=some z:=q
    unfold f41_l4 at q
    refine OL (OL (cI q (fun q=>?_) (fun q=>?_)))
    ·refine OL (OL (gI q (fun q=>?_)))
     refine OL ?_
     obtain ⟨r25,h,q⟩:=bE q
     refine OL (cA H66 (rd (Ty.z T5) q5_5 v31) h rfl (AI rfl (K0 (cI q (fun q=>?_) (fun q=>?_)))))
     ·refine gX ?_
      obtain ⟨r26,h,q⟩:=bE q
      refine OL (cA H67 (rd (Ty.z T5) q5_5 v31) h rfl (AI rfl (K0 (cT (EI ((i64.wrap (many_2+r25)),r26,(i64.wrap (v31+1))) (AI q (E4 I2 (R10 (AI (R2 TV) (R2 TV))))))))))
     refine gM (cF (EI ((i64.wrap (many_2+r25)),false,(i64.wrap (v31+1))) (AI q (E4 I2 (R10 (AI (R2 TV) (R2 TV)))))))
    cases sE q
    refine E4 (iuR [1]) (R8 (AJ (AI rfl TV)))
   refine AI (cI q (fun q=>?_) (fun q=>?_)) TV
   ·refine gX (gX (gI q (fun q=>?_)))
    refine gX (gX ?_)
    obtain ⟨r27,h,q⟩:=bE q
    refine OL (cA H67 (rd (Ty.z T5) d v19) h rfl (AI rfl (K0 (cT (cI q (fun q=>?_) (fun q=>?_))))))
    ·refine gX (gX (gX (gI q (fun q=>?_))))
     refine gX (gX ?_)
     obtain ⟨r28,h,q⟩:=bE q
     refine OL (cA H67 (rd (Ty.z T5) d (i64.wrap (v19+1))) h rfl (AI rfl (K0 (cT (EI (z24.1,r28,(i64.wrap (v19+1))) (AI q (E4 (iuR [1]) (R7 (AJ (AI rfl TV))))))))))
    refine gM (gM (gM (gM (gM (cF (EI (z24.1,false,(i64.wrap (v19+1))) (AI q (E4 (iuR [1]) (R7 (AJ (AI rfl TV)))))))))))
   refine gM (gM (gM (gM (cF (gM (gM (gM (gM (gM (gM (cF (EI (z24.1,false,(i64.wrap (v19+1))) (AI q (E4 (iuR [1]) (R7 (AJ (AI rfl TV)))))))))))))))))
  cases sE q
  refine E4 (iuR [1]) (R3 (AJ (AI rfl TV)))
 refine AI (OL (cI q (fun q=>?_) (fun q=>?_))) TV
 ·refine gX (gX ?_)
  obtain ⟨r29,h,q⟩:=bE q
  refine OL (cA H67 n.1 h rfl (AI rfl (K0 (cT (cI q (fun q=>?_) (fun q=>?_))))))
  ·refine gX (cT ?_)
   cases sE q
   refine AI rfl (E4 [] (R3 (AI TV TV)))
  refine gM (cF ?_)
  cases sE q
  refine AI rfl (E4 [] (R3 (AI TV TV)))
 refine gM (gM (cF (gM (gM (cF ?_)))))
 cases sE q
 refine AI rfl (E4 [] (R3 (AI TV TV)))
theorem H41:HI C41 41:=hI Tryz.f41 rfl fun x=>V41 x.1 x.2
def f40 (n:Az):Option PTz17:=
 Ac (f63 (n.1,n.2)) fun r1=>
 bif (!r1) then
 some ((1:Int),[])
 else
 Ac (f64 (n.1,n.2)) fun r2=>
 bif (!r2.1) then
 some ((4:Int),[])
 else
 Ac (f41 (n.1,n.2) r2.2) fun r3=>
 bif (!r3.2) then
 some ((2:Int),[])
 else
 some ((0:Int),r2.2)
def C40:Con:=⟨Az,PTz17,0,fun x=>[.dat T3 x],NX,fun x=>f40 x,fun y=>[O0 0,.dat T0 y.1],fun y=>[(0,.arr 22 T5 y.2)],1⟩
theorem V40 n y (q:f40 n=some y):VC Tryz.f40 C40 n y:=by
 unfold f40 at q
 refine OL (OL (OL ?_))
 obtain ⟨r1,h,q⟩:=bE q
 refine OL (cA H63 (n.1,n.2) h rfl (R2 (K0 (cI q (fun q=>?_) (fun q=>?_)))))
 ·cases sE q
  refine OL (AI rfl (E4 (iuR [0]) (R2 (AJ (AI rfl TV)))))
 refine OL ?_
 obtain ⟨r2,h,q⟩:=bE q
 refine OL (cA H64 (n.1,n.2) h rfl (R2 (K0 (OL (OL (cI q (fun q=>?_) (fun q=>?_)))))))
 ·cases sE q
  refine OL (AI rfl (E4 (iuR [0]) (R2 (AJ (AI rfl TV)))))
 refine OL (OL ?_)
 obtain ⟨r3,h,q⟩:=bE q
 refine OL (cD H41 ((n.1,n.2),r2.2) h rfl (R3 (AI (fun _=>rfl) (R2 (AI TV (AI TV (OL (cI q (fun q=>?_) (fun q=>?_)))))))))
 ·cases sE q
  refine OL (AI rfl (E4 (iuR [0]) (R2 (AJ (AI rfl TV)))))
 cases sE q
 refine OL (AI rfl (E4 (iuR [2]) (R2 (AJ (AI rfl TV)))))
theorem H40:HI C40 40:=hI Tryz.f40 rfl fun x=>V40 x
def f28 (n:Az):Option Ax:=
 Ac (f40 (n.1,n.2)) fun r1=>
 bif (r1.1 != 0) then
 some ((0:Int),r1.1)
 else
 Ac (f41 (n.1,n.2) r1.2) fun r2=>
 some (r2.1,(0:Int))
def C28:Con:=⟨Az,Ax,0,fun x=>[.dat T3 x],NX,fun x=>f28 x,fun y=>[.dat T0 y.1,.dat T0 y.2],NX,0⟩
theorem V28 n y (q:f28 n=some y):VC Tryz.f28 C28 n y:=by
 unfold f28 at q
 refine OL (OL ?_)
 obtain ⟨r1,h,q⟩:=bE q
 refine OL (cA H40 (n.1,n.2) h rfl (R2 (K0 (OL (OL (cI q (fun q=>?_) (fun q=>?_)))))))
 ·cases sE q
  refine OL (AI rfl (E4 [] (R3 (AI TV TV))))
 refine OL ?_
 obtain ⟨r2,h,q⟩:=bE q
 refine OL (cD H41 ((n.1,n.2),r1.2) h rfl (R3 (AI (fun _=>rfl) (R2 (AI TV (AI TV (OL ?_)))))))
 cases sE q
 refine AI rfl (E4 [] (R3 (AI TV TV)))
theorem H28:HI C28 28:=hI Tryz.f28 rfl fun x=>V28 x
def f42:Option Unit:=
 some ()
def C42:Con:=⟨Unit,Unit,0,fun x=>[],NX,fun x=>f42,fun y=>[P0 0 0],fun y=>[(0,.cells [(.osl 1)]),(1,.arr 156 T7 ([]))],2⟩
theorem V42 y (q:f42=some y):VC Tryz.f42 C42 () y:=by
 unfold f42 at q
 refine OL (OL ?_)
 cases sE q
 refine AI rfl (E4 (iuR [1,0]) (AI rfl (AJ (R2 TV))))
theorem H42:HI C42 42:=hI Tryz.f42 rfl fun x=>V42
def f68 (t_l:NL):Option (Int×NL):=
 some ((t_l.length:Int),t_l)
def C68:Con:=⟨NL,Int×NL,2,fun x=>[P0 0 0],fun x=>[(0,.cells [(.osl 1)]),(1,.arr 156 T7 x)],fun x=>f68 x,fun y=>[.dat T0 y.1],fun y=>[(0,.cells [(.osl 1)]),(1,.arr 156 T7 y.2)],2⟩
theorem V68 t_l y (q:f68 t_l=some y):VE Tryz.f68 2 C68 t_l y:=by
 unfold f68 at q
 refine OL (OL ?_)
 cases sE q
 refine AI rfl (E4 I2 (R2 (AI TV (R2 TV))))
theorem H68:HI C68 68:=hI Tryz.f68 rfl fun x=>V68 x
def f116 (d:LI):Option Int:=
 Ac (f106 d) fun r1=>
 some r1
def C116:Con:=⟨LI,Int,0,fun x=>[.dat T5 x],NX,fun x=>f116 x,fun y=>[.dat T0 y],NX,0⟩
theorem V116 d y (q:f116 d=some y):VC Tryz.f116 C116 d y:=by
 unfold f116 at q
 refine OL (OL ?_)
 obtain ⟨r1,h,q⟩:=bE q
 refine OL (cA H106 d h rfl (AI rfl (K0 ?_)))
 cases sE q
 refine AI rfl (E4 [] (R2 (AI TV TV)))
theorem H116:HI C116 116:=hI Tryz.f116 rfl fun x=>V116 x
def f119 (t:Al):Option Bool:=
 Ac (f67 t.1) fun q1_2=>
 bif q1_2 then
 Ac (f116 t.1) fun q1_9=>
 some ((t.2.length:Int)==q1_9)
 else
 some false
def C119:Con:=⟨Al,Bool,0,fun x=>[.dat T8 x],NX,fun x=>f119 x,fun y=>[.dat .bool y],NX,0⟩
theorem V119 t y (q:f119 t=some y):VC Tryz.f119 C119 t y:=by
 unfold f119 at q
 refine OL (OL (EI (.take 0 (.take 1 (.alt 2 (tU 3 6 (.alt 9 (tU 10 3 .done) .done)) .done))) (EI [] (EI [] (AI rfl (AI TV ?_))))))
 obtain ⟨q1_2,h,q⟩:=bE q
 refine OL (cA H67 t.1 h rfl (AI rfl (K0 (cI q (fun q=>?_) (fun q=>?_)))))
 ·refine gX (gX (gX (gX (AI TV (gX ?_)))))
  obtain ⟨q1_9,h,q⟩:=bE q
  refine OL (cA H116 t.1 h rfl (AI rfl (K0 (gX (cT ?_)))))
  cases sE q
  refine AI rfl (E4 [] (R2 (AI TV TV)))
 refine gM (gM (gM (gM (AI TV (gM (gM (cF ?_)))))))
 cases sE q
 refine AI rfl (E4 [] (R2 (AI TV TV)))
theorem H119:HI C119 119:=hI Tryz.f119 rfl fun x=>V119 x
def f24 (s:LI):Option LI:=
 nilF s
 (some ([]))
 (Ad ((List.length ([]:LI)+s.length)*8≤140737488355328)<|
 some (([]:LI)++s))
def C24:Con:=⟨LI,LI,0,fun x=>[.dat T5 x],NX,fun x=>f24 x,fun y=>[O0 0],fun y=>[(0,.arr 26 T0 y)],1⟩
theorem V24 s y (q:f24 s=some y):VC Tryz.f24 C24 s y:=by
 unfold f24 at q
 refine OL (OL (OL (nilI q (fun q=>?_) (fun q=>?_))))
 ·refine cT (OL ?_)
  cases sE q
  refine AI rfl (E4 (iuR [0]) (AI rfl (AJ (AI rfl TV))))
 refine cF (OL (OL (OL (gI q (fun q=>?_)))))
 cases sE q
 refine AI rfl (E4 (iuR [2]) (AI rfl (AJ (AI rfl TV))))
theorem H24:HI C24 24:=hI Tryz.f24 rfl fun x=>V24 x
def f118 (t:Al):Option Al:=
 Ac (f47 t.1) fun q1_2=>
 Ac (f24 t.2) fun q1_5=>
 some (q1_2,q1_5)
def C118:Con:=⟨Al,Al,0,fun x=>[.dat T8 x],NX,fun x=>f118 x,fun y=>[.raw true [(.osl 0),(.osl 1)]],fun y=>[(0,.arr 3 T0 y.1),(1,.arr 26 T0 y.2)],2⟩
theorem V118 t y (q:f118 t=some y):VC Tryz.f118 C118 t y:=by
 unfold f118 at q
 refine OL (OL (EI (.take 0 (.take 1 (.take 3 (.take 4 (.alt 2 (.alt 5 (.take 6 (.alt 7 .done .done)) .done) .done))))) (EI [] (EI [] (AI rfl (AI TV ?_))))))
 obtain ⟨q1_2,h,q⟩:=bE q
 refine OL (cA H47 t.1 h rfl (AI rfl (K0 (AI TV ?_))))
 obtain ⟨q1_5,h,q⟩:=bE q
 refine OL (cA H24 t.2 h rfl (AI rfl (K0 (AI TV (OL ?_)))))
 cases sE q
 refine AI rfl (E4 (iuR [3,4]) (AI rfl (AJ (R2 TV))))
theorem H118:HI C118 118:=hI Tryz.f118 rfl fun x=>V118 x
def f137 (t_l:NL) (n:ND):Option (Int×NL):=
 Ad ((t_l.length+List.length ([(n.1,n.2.1,n.2.2.1,n.2.2.2.1,n.2.2.2.2.1,n.2.2.2.2.2)]))*80≤140737488355328)<|
 some ((i64.wrap ((List.length (t_l++([(n.1,n.2.1,n.2.2.1,n.2.2.2.1,n.2.2.2.2.1,n.2.2.2.2.2)])):Int)-1)),(t_l++([(n.1,n.2.1,n.2.2.1,n.2.2.2.1,n.2.2.2.2.1,n.2.2.2.2.2)])))
def C137:Con:=⟨NL×(ND),Int×NL,2,fun x=>[P0 0 0,.dat T7 x.2],fun x=>[(0,.cells [(.osl 1)]),(1,.arr 156 T7 x.1)],fun x=>f137 x.1 x.2,fun y=>[.dat T0 y.1,D0 0],fun y=>[(0,.cells [(.osl 2)]),(2,.arr 156 T7 y.2)],3⟩
theorem V137 t_l n y (q:f137 t_l n=some y):VE Tryz.f137 2 C137 (t_l,n) y:=by
 unfold f137 at q
 refine OL (OL (EI (tU 0 6 (.alt 6 (.alt 7 (.take 8 (.take 9 (.alt 10 .done .done))) .done) .done)) (EI [(10,[0])] (EI [] (AI rfl (AI TV (OL (AI TV (OL (gI q (fun q=>?_)))))))))))
 refine AI TV (OL (OL ?_))
 cases sE q
 refine AI rfl (E4 [(0,some 0),(2,some 4)] (R3 (AI TV (R2 TV))))
theorem H137:HI C137 137:=hI Tryz.f137 rfl fun x=>V137 x.1 x.2
def f107 (t_l:NL) (x_:Al):Option Bu:=
 bif (decide ((t_l.length:Int)≥512)) then
 some ((0:Int),(2:Int),t_l)
 else
 Ac (f119 (x_.1,x_.2)) fun r1=>
 bif (!r1) then
 some ((0:Int),(1:Int),t_l)
 else
 Ac (f118 (x_.1,x_.2)) fun r2=>
 Ac (f137 t_l ((1:Int),(-1:Int),(-1:Int),(0:Int),r2.1,r2.2)) fun r3=>
 some (r3.1,(0:Int),r3.2)
def C107:Con:=⟨NL×Al,Bu,2,fun x=>[P0 0 0,.dat T8 x.2],fun x=>[(0,.cells [(.osl 1)]),(1,.arr 156 T7 x.1)],fun x=>f107 x.1 x.2,fun y=>[.dat T0 y.1,.dat T0 y.2.1],fun y=>[(0,.cells [(.osl 2)]),(2,.arr 156 T7 y.2.2)],3⟩
theorem V107 t_l x_ y (q:f107 t_l x_=some y):VE Tryz.f107 2 C107 (t_l,x_) y:=by
 unfold f107 at q
 refine OL (OL (OL (cI q (fun q=>?_) (fun q=>?_))))
 ·cases sE q
  refine OL (AI rfl (E4 [(0,some 0),(2,some 1)] (R3 (AI TV (R2 TV)))))
 refine OL ?_
 obtain ⟨r1,h,q⟩:=bE q
 refine OL (cA H119 (x_.1,x_.2) h rfl (R2 (K0 (cI q (fun q=>?_) (fun q=>?_)))))
 ·cases sE q
  refine OL (AI rfl (E4 [(0,some 0),(2,some 1)] (R3 (AI TV (R2 TV)))))
 refine OL ?_
 obtain ⟨r2,h,q⟩:=bE q
 refine OL (cA H118 (x_.1,x_.2) h rfl (R2 (K0 ?_)))
 obtain ⟨r3,hr3,q⟩:=bE q
 have hr3:C137.F (t_l,((1:Int),(-1:Int),(-1:Int),(0:Int),r2.1,r2.2))=some r3:=hr3
 refine OL (cB H137 _ I2 false hr3 rfl (R2 (AI NH (R2 (AJ (AI (R2 TV) ?_))))))
 cases sE q
 refine AI rfl (E4 [(0,some 0),(2,some 7)] (R3 (AI TV (R2 TV))))
theorem H107:HI C107 107:=hI Tryz.f107 rfl fun x=>V107 x.1 x.2
def f69 (r_t_l:NL) (r_e:Int) (r_p r_leafs d v:LI):Option PTz13:=
 bif (r_e != 0) then
 some ((0:Int),r_e,r_p,r_leafs,r_t_l)
 else
 Ac (f107 r_t_l (d,v)) fun r1=>
 some (r1.1,r1.2.1,r_p,r_leafs,r1.2.2)
def C69:Con:=⟨NL×Int×LI×LI×Al,PTz13,4,fun x=>[P0 0 0,.dat T5 x.2.2.2.2.1,.dat T5 x.2.2.2.2.2],fun x=>[(0,.cells [(.ptr 1 0),(.d T0 x.2.1),(.d T5 x.2.2.1),(.osl 3)]),(1,.cells [(.osl 2)]),(2,.arr 156 T7 x.1),(3,.arr 3 T0 x.2.2.2.1)],fun x=>f69 x.1 x.2.1 x.2.2.1 x.2.2.2.1 x.2.2.2.2.1 x.2.2.2.2.2,fun y=>[.dat T0 y.1],fun y=>[(0,.cells [(.ptr 1 0),(.d T0 y.2.1),(.d T5 y.2.2.1),(.osl 3)]),(1,.cells [(.osl 4)]),(3,.arr 3 T0 y.2.2.2.1),(4,.arr 156 T7 y.2.2.2.2)],5⟩
theorem V69 r_t_l r_e r_p r_leafs d v y (q:f69 r_t_l r_e r_p r_leafs d v=some y):VE Tryz.f69 4 C69 (r_t_l,r_e,r_p,r_leafs,d,v) y:=by
 unfold f69 at q
 refine OL (OL (OL (cI q (fun q=>?_) (fun q=>?_))))
 ·cases sE q
  refine OL (AI rfl (E4 [(0,some 0),(1,some 1),(3,some 3),(4,some 2)] (R2 (AI TV (R4 TV)))))
 refine OL ?_
 obtain ⟨r1,h,q⟩:=bE q
 refine OL (cB H107 (r_t_l,(d,v)) (iuR [2,3]) false h rfl (R2 (AI NH (R2 (AJ (AI (R2 TV) (OL (OL (OL ?_)))))))))
 cases sE q
 refine AI rfl (E4 [(0,some 0),(1,some 1),(3,some 3),(4,some 6)] (R2 (AI TV (R4 TV))))
theorem H69:HI C69 69:=hI Tryz.f69 rfl fun x=>V69 x.1 x.2.1 x.2.2.1 x.2.2.2.1 x.2.2.2.2.1 x.2.2.2.2.2
def f108_j4 (l:List LI) (v12 c0_1:Int) (c0_2 l4:LI) (l5:NL):Option PTz13:=
 Ac (f66 (rd (Ty.z T5) l v12)) fun q5_7=>
 Ad (0≤q5_7∧q5_7≤c0_2.length)<|
 Ac (f69 l5 c0_1 c0_2 l4 (rd (Ty.z T5) l v12) (List.take (Int.toNat q5_7) c0_2)) fun q5_9=>
 some (q5_9.1,q5_9.2.1,q5_9.2.2.1,q5_9.2.2.2.1,q5_9.2.2.2.2)
def f108_l3 (l:List LI) (go:(Int×Int×PTz13)→Option (Int×PTz13)) (first last v12 c0_1:Int) (c0_2 l4:LI) (l5:NL):Option (Int×PTz13):=
 bif (decide (v12<l.length)) then
 Ad (0≤v12∧v12<l.length)<|
 Ac (f108_j4 l v12 c0_1 c0_2 l4 l5) fun z4=>
 Ac (f66 (rd (Ty.z T5) l v12)) fun q6_6=>
 Ad (0≤q6_6∧q6_6≤z4.2.2.1.length)<|
 Ad ((z4.2.2.2.1.length+List.length ([z4.1]))*8≤140737488355328)<|
 bif (v12==0) then
 go (z4.1,z4.1,(i64.wrap (v12+1)),z4.2.1,(List.drop (Int.toNat q6_6) z4.2.2.1),(z4.2.2.2.1++([z4.1])),z4.2.2.2.2)
 else
 go (first,z4.1,(i64.wrap (v12+1)),z4.2.1,(List.drop (Int.toNat q6_6) z4.2.2.1),(z4.2.2.2.1++([z4.1])),z4.2.2.2.2)
 else
 some (first,last,c0_1,c0_2,l4,l5)
def f108 (r_t_l:NL) (r_e:Int) (r_p r_leafs:LI) (l:List LI):Option (Int×PTz13):=
 Ac (Ag (fun go x=>f108_l3 l go x.1 x.2.1 x.2.2.1 x.2.2.2.1 x.2.2.2.2.1 x.2.2.2.2.2.1 x.2.2.2.2.2.2) Ah ((0:Int),(0:Int),(0:Int),r_e,r_p,r_leafs,r_t_l)) fun z3=>
 some (z3.1,z3.2.1,z3.2.2.1,z3.2.2.2.1,z3.2.2.2.2.1,z3.2.2.2.2.2)
def C108:Con:=⟨NL×Int×LI×LI×(List LI),Int×PTz13,4,fun x=>[P0 0 0,.dat T6 x.2.2.2.2],fun x=>[(0,.cells [(.ptr 1 0),(.d T0 x.2.1),(.d T5 x.2.2.1),(.osl 3)]),(1,.cells [(.osl 2)]),(2,.arr 156 T7 x.1),(3,.arr 3 T0 x.2.2.2.1)],fun x=>f108 x.1 x.2.1 x.2.2.1 x.2.2.2.1 x.2.2.2.2,fun y=>[.dat T0 y.1,.dat T0 y.2.1],fun y=>[(0,.cells [(.ptr 1 0),(.d T0 y.2.2.1),(.d T5 y.2.2.2.1),(.osl 4)]),(1,.cells [(.osl 5)]),(4,.arr 3 T0 y.2.2.2.2.1),(5,.arr 156 T7 y.2.2.2.2.2)],6⟩
theorem V108 r_t_l r_e r_p r_leafs l y (q:f108 r_t_l r_e r_p r_leafs l=some y):VE Tryz.f108 4 C108 (r_t_l,r_e,r_p,r_leafs,l) y:=by
 unfold f108 at q
 refine OL (OL (OL (OL ?_)))
 obtain ⟨z3,h,q⟩:=bE q
 refine lJ h (fun x=>⟨[(0,P0 0 0),(6,.dat T0 x.1),(7,.dat T0 x.2.1),(10,.dat T6 l),(11,.dat T0 (l.length:Int)),(12,.dat T0 x.2.2.1)],[(0,.cells [(.ptr 1 0),(.d T0 x.2.2.2.1),(.d T5 x.2.2.2.2.1),(.osl 4)]),(1,.cells [(.osl 5)]),(4,.arr 3 T0 x.2.2.2.2.2.1),(5,.arr 156 T7 x.2.2.2.2.2.2)],6⟩) (fun z=>[(2,⟨[(6,.dat T0 z.1),(7,.dat T0 z.2.1)],[(0,.cells [(.ptr 1 0),(.d T0 z.2.2.1),(.d T5 z.2.2.2.1),(.osl 4)]),(1,.cells [(.osl 5)]),(4,.arr 3 T0 z.2.2.2.2.1),(5,.arr 156 T7 z.2.2.2.2.2)],6⟩)]) (E4 [(0,some 0),(1,some 1),(4,some 3),(5,some 2)] (R6 (AJ (R4 TV)))) (fun m=>An (fun first=>An (fun last=>An (fun v12=>An (fun c0_1=>An (fun c0_2=>An (fun l4=>fun l5 z q=>?_))))))) ?_
 ·have q:f108_l3 l _ first last v12 c0_1 c0_2 l4 l5=some z:=q
  unfold f108_l3 at q
  refine OL (OL (cI q (fun q=>?_) (fun q=>?_)))
  ·refine OL (OL (gI q (fun q=>?_)))
   obtain ⟨z4,hz4,q⟩:=bE q
   refine OQ ⟨[(0,⟨[(0,P0 0 0),(6,.dat T0 first),(7,.dat T0 z4.1),(8,.dat T0 v12),(9,.dat T5 (rd (Ty.z T5) l v12)),(10,.dat T6 l),(11,.dat T0 (l.length:Int)),(12,.dat T0 v12)],[(0,.cells [(.ptr 1 0),(.d T0 z4.2.1),(.d T5 z4.2.2.1),(.osl 4)]),(1,.cells [(.osl 5)]),(4,.arr 3 T0 z4.2.2.2.1),(5,.arr 156 T7 z4.2.2.2.2)],6⟩)],?_,?_⟩
   ·have q:=hz4
    clear hz4
    unfold f108_j4 at q
    obtain ⟨q5_7,hq5_7,q⟩:=bE q
    obtain ⟨g5_1,q⟩:=gE q
    obtain ⟨q5_9,hq5_9,q⟩:=bE q
    refine EI (tU 0 5 (.take 6 (.alt 5 (.alt 7 (.take 8 (.alt 9 (.take 10 .done) .done)) .done) (.alt 7 (.alt 5 (.take 8 (.alt 9 (.take 10 .done) .done)) .done) .done)))) (EI [(9,[0])] (EI [] (AI rfl (AI (AI TV ?_) ?_))))
    ·refine OL (cA H66 (rd (Ty.z T5) l v12) hq5_7 rfl (AI rfl (K0 (AI TV (AI g5_1 (AI TV (OL (cB H69 (l5,c0_1,c0_2,l4,(rd (Ty.z T5) l v12),(List.take (Int.toNat q5_7) c0_2)) (iuR [1,2,6,5]) false hq5_9 rfl (R2 (AI NH (R2 (AJ (AI (R4 TV) ?_)))))))))))))
     cases sE q
     refine E4 [(0,some 0),(1,some 1),(4,some 4),(5,some 10)] (R8 (AJ (R4 TV)))
    refine AI TV (OL (cA H66 (rd (Ty.z T5) l v12) hq5_7 rfl (AI rfl (K0 (AI g5_1 (AI TV (OL (cB H69 (l5,c0_1,c0_2,l4,(rd (Ty.z T5) l v12),(List.take (Int.toNat q5_7) c0_2)) (iuR [1,2,6,5]) false hq5_9 rfl (R2 (AI NH (R2 (AJ (AI (R4 TV) ?_)))))))))))))
    cases sE q
    refine E4 [(0,some 0),(1,some 1),(4,some 4),(5,some 10)] (R8 (AJ (R4 TV)))
   refine AI (OL (EI (tU 0 6 (.alt 6 (tU 7 3 (.alt 10 .done .done)) .done)) (EI [(10,[0])] (EI [] (AI rfl (AI TV ?_)))))) TV
   obtain ⟨q6_6,h,q⟩:=bE q
   refine OL (cA H66 (rd (Ty.z T5) l v12) h rfl (AI rfl (K0 (gI q (fun q=>?_)))))
   refine AI TV (OL (OL (OL (OL (gI q (fun q=>?_))))))
   refine OL (OL (cI q (fun q=>?_) (fun q=>?_)))
   ·refine EI (z4.1,z4.1,(i64.wrap (v12+1)),z4.2.1,(List.drop (Int.toNat q6_6) z4.2.2.1),(z4.2.2.2.1++([z4.1])),z4.2.2.2.2) (AI q (E4 [(0,some 0),(1,some 1),(4,some 7),(5,some 5)] (R6 (AJ (R4 TV)))))
   refine EI (first,z4.1,(i64.wrap (v12+1)),z4.2.1,(List.drop (Int.toNat q6_6) z4.2.2.1),(z4.2.2.2.1++([z4.1])),z4.2.2.2.2) (AI q (E4 [(0,some 0),(1,some 1),(4,some 7),(5,some 5)] (R6 (AJ (R4 TV)))))
  cases sE q
  refine E4 [(0,some 0),(1,some 1),(4,some 4),(5,some 5)] (R3 (AI TV (R4 TV)))
 refine AI (OL ?_) TV
 cases sE q
 refine AI rfl (E4 [(0,some 0),(1,some 1),(4,some 4),(5,some 5)] (R3 (AI TV (R4 TV))))
theorem H108:HI C108 108:=hI Tryz.f108 rfl fun x=>V108 x.1 x.2.1 x.2.2.1 x.2.2.2.1 x.2.2.2.2
def f117 (t_l:NL) (n:Int):Option (Bool×NL):=
 bif (decide (n≥0)) then
 some ((decide (n<t_l.length)),t_l)
 else
 some (false,t_l)
def C117:Con:=⟨NL×Int,Bool×NL,2,fun x=>[P0 0 0,.dat T0 x.2],fun x=>[(0,.cells [(.osl 1)]),(1,.arr 156 T7 x.1)],fun x=>f117 x.1 x.2,fun y=>[.dat .bool y.1],fun y=>[(0,.cells [(.osl 1)]),(1,.arr 156 T7 y.2)],2⟩
theorem V117 t_l n y (q:f117 t_l n=some y):VE Tryz.f117 2 C117 (t_l,n) y:=by
 unfold f117 at q
 refine OL (OL (cI q (fun q=>?_) (fun q=>?_)))
 ·refine gX (gX (gX (gX (gX (gX (cT ?_))))))
  cases sE q
  refine AI rfl (E4 I2 (R2 (AI TV (R2 TV))))
 refine gM (gM (gM (gM (gM (gM (cF ?_))))))
 cases sE q
 refine AI rfl (E4 I2 (R2 (AI TV (R2 TV))))
theorem H117:HI C117 117:=hI Tryz.f117 rfl fun x=>V117 x.1 x.2
def f174 (op:Int):Option Bool:=
 bif (op==2) then
 some true
 else
 bif (op==3) then
 some true
 else
 bif (op==4) then
 some true
 else
 bif (op==6) then
 some true
 else
 some (op==12)
def C174:Con:=⟨Int,Bool,0,fun x=>[.dat T0 x],NX,fun x=>f174 x,fun y=>[.dat .bool y],NX,0⟩
theorem V174 op y (q:f174 op=some y):VC Tryz.f174 C174 op y:=by
 unfold f174 at q
 refine OL (OL (cN q (fun q=>?_) (fun q=>?_)))
 ·refine gY (cF (cN q (fun q=>?_) (fun q=>?_)))
  ·refine gY (cF (cN q (fun q=>?_) (fun q=>?_)))
   ·refine gY (cF (cN q (fun q=>?_) (fun q=>?_)))
    ·refine gY (cF ?_)
     cases sE q
     refine AI rfl (E4 [] (R2 (AI TV TV)))
    refine gN (cT ?_)
    cases sE q
    refine AI rfl (E4 [] (R2 (AI TV TV)))
   refine gN (cT (gN (gN (cT ?_))))
   cases sE q
   refine AI rfl (E4 [] (R2 (AI TV TV)))
  refine gN (cT (gN (gN (cT (gN (gN (cT ?_)))))))
  cases sE q
  refine AI rfl (E4 [] (R2 (AI TV TV)))
 refine gN (cT (gN (gN (cT (gN (gN (cT (gN (gN (cT ?_))))))))))
 cases sE q
 refine AI rfl (E4 [] (R2 (AI TV TV)))
theorem H174:HI C174 174:=hI Tryz.f174 rfl fun x=>V174 x
def f175 (op:Int):Option Bool:=
 bif (op==5) then
 some true
 else
 bif (op==8) then
 some true
 else
 bif (op==11) then
 some true
 else
 bif (op==12) then
 some true
 else
 some (op==13)
def C175:Con:=⟨Int,Bool,0,fun x=>[.dat T0 x],NX,fun x=>f175 x,fun y=>[.dat .bool y],NX,0⟩
theorem V175 op y (q:f175 op=some y):VC Tryz.f175 C175 op y:=by
 unfold f175 at q
 refine OL (OL (cN q (fun q=>?_) (fun q=>?_)))
 ·refine gY (cF (cN q (fun q=>?_) (fun q=>?_)))
  ·refine gY (cF (cN q (fun q=>?_) (fun q=>?_)))
   ·refine gY (cF (cN q (fun q=>?_) (fun q=>?_)))
    ·refine gY (cF ?_)
     cases sE q
     refine AI rfl (E4 [] (R2 (AI TV TV)))
    refine gN (cT ?_)
    cases sE q
    refine AI rfl (E4 [] (R2 (AI TV TV)))
   refine gN (cT (gN (gN (cT ?_))))
   cases sE q
   refine AI rfl (E4 [] (R2 (AI TV TV)))
  refine gN (cT (gN (gN (cT (gN (gN (cT ?_)))))))
  cases sE q
  refine AI rfl (E4 [] (R2 (AI TV TV)))
 refine gN (cT (gN (gN (cT (gN (gN (cT (gN (gN (cT ?_))))))))))
 cases sE q
 refine AI rfl (E4 [] (R2 (AI TV TV)))
theorem H175:HI C175 175:=hI Tryz.f175 rfl fun x=>V175 x
def f213 (d:LI) (i:Int):Option Int:=
 bif (decide (i≥d.length)) then
 some (1:Int)
 else
 Ad (0≤(i64.wrap ((i64.wrap ((d.length:Int)-1))-i))∧(i64.wrap ((i64.wrap ((d.length:Int)-1))-i))<d.length)<|
 some (rd 0 d (i64.wrap ((i64.wrap ((d.length:Int)-1))-i)))
def C213:Con:=⟨LI×Int,Int,0,fun x=>[.dat T5 x.1,.dat T0 x.2],NX,fun x=>f213 x.1 x.2,fun y=>[.dat T0 y],NX,0⟩
theorem V213 d i y (q:f213 d i=some y):VC Tryz.f213 C213 (d,i) y:=by
 unfold f213 at q
 refine OL (OL (OL (cI q (fun q=>?_) (fun q=>?_))))
 ·cases sE q
  refine OL (AI rfl (E4 [] (R2 (AI TV TV))))
 refine OL (gI q (fun q=>?_))
 cases sE q
 refine AI rfl (E4 [] (R2 (AI TV TV)))
theorem H213:HI C213 213:=hI Tryz.f213 rfl fun x=>V213 x.1 x.2
def f179_j1 (a b:LI):Option (Sum Unit Unit):=
 Ac (f67 a) fun r4=>
 bif (!r4) then
 some (Sum.inr ())
 else
 Ac (f67 b) fun r5=>
 bif (!r5) then
 some (Sum.inr ())
 else
 some (Sum.inl ())
def f179_j5 (r13 r14:Int):Option (Sum Unit Unit):=
 bif (r13 != r14) then
 bif (r13 != 1) then
 bif (r14 != 1) then
 some (Sum.inr ())
 else
 some (Sum.inl ())
 else
 some (Sum.inl ())
 else
 some (Sum.inl ())
def f179_l4 (a b:LI) (go:Bc→Option (Sum Unit LI)) (v26:Int) (l0:LI):Option (Sum Unit LI):=
 bif (decide (v26<(List.length (List.replicate (Int.toNat (if (b.length:Int)>a.length then (b.length:Int) else (a.length:Int))) (0:Int)):Int))) then
 Ac (f213 a v26) fun r13=>
 Ac (f213 b v26) fun r14=>
 Ac (f179_j5 r13 r14) fun z15=>
 Ak z15 (fun z15a=>
 Ad (0≤(i64.wrap ((i64.wrap ((l0.length:Int)-1))-v26))∧(i64.wrap ((i64.wrap ((l0.length:Int)-1))-v26))<l0.length)<|
 go ((i64.wrap (v26+1)),(List.set l0 (Int.toNat (i64.wrap ((i64.wrap ((l0.length:Int)-1))-v26))) (if r14>r13 then r14 else r13)))) (fun z15b=>
 some (Sum.inl ()))
 else
 some (Sum.inr l0)
def f179 (a b:LI):Option Bc:=
 Ac (f179_j1 a b) fun z3=>
 Ak z3 (fun z3a=>
 Ad (0≤(if (b.length:Int)>a.length then (b.length:Int) else (a.length:Int))∧(if (b.length:Int)>a.length then (b.length:Int) else (a.length:Int))≤(if (b.length:Int)>a.length then (b.length:Int) else (a.length:Int))∧Int.toNat (if (b.length:Int)>a.length then (b.length:Int) else (a.length:Int))*8≤140737488355328)<|
 Ac (Ag (fun go x=>f179_l4 a b go x.1 x.2) Ah ((0:Int),(List.replicate (Int.toNat (if (b.length:Int)>a.length then (b.length:Int) else (a.length:Int))) (0:Int)))) fun z12=>
 Ak z12 (fun z12a=>
 some ((4:Int),[])) (fun z12b=>
 Ac (f67 z12b) fun r16=>
 bif (!r16) then
 some ((2:Int),[])
 else
 some ((0:Int),z12b))) (fun z3b=>
 some ((1:Int),[]))
def C179:Con:=⟨Al,Bc,0,fun x=>[.dat T5 x.1,.dat T5 x.2],NX,fun x=>f179 x.1 x.2,fun y=>[O0 0,.dat T0 y.1],fun y=>[(0,.arr 3 T0 y.2)],1⟩
theorem V179 a b y (q:f179 a b=some y):VC Tryz.f179 C179 (a,b) y:=by
 unfold f179 at q
 refine OL ?_
 obtain ⟨z3,hz3,q⟩:=bE q
 refine OQ ⟨Sum.elim (fun z3a=>[(0,⟨[(0,.dat T5 a),(1,.dat T5 b)],[],0⟩)]) (fun z3b=>[(1,⟨[(4,.raw false [N0]),(5,D0 1)],[],0⟩)]) z3,?_,?_⟩
 ·have q:=hz3
  clear hz3
  unfold f179_j1 at q
  refine OL ?_
  obtain ⟨r4,h,q⟩:=bE q
  refine OL (cA H67 a h rfl (AI rfl (K0 (cN q (fun q=>?_) (fun q=>?_)))))
  ·refine gY ?_
   obtain ⟨r5,h,q⟩:=bE q
   refine OL (cA H67 b h rfl (AI rfl (K0 (gY (cF (cI q (fun q=>?_) (fun q=>?_)))))))
   ·cases sE q
    refine OL (E4 [] (R2 (AJ TV)))
   cases sE q
   refine E4 [] (R3 (AI TV TV))
  refine gN (gN (cT (cT (OL ?_))))
  cases sE q
  refine E4 [] (R2 (AJ TV))
 rcases z3 with z3a | z3b
 ·dsimp only [Ak] at q
  refine AI (OL (gI q (fun q=>?_))) TV
  refine OL (OL ?_)
  obtain ⟨z12,h,q⟩:=bE q
  refine lJ h (fun x=>⟨[(0,.dat T5 a),(1,.dat T5 b),(6,O0 0),(25,.dat T0 (List.length (List.replicate (Int.toNat (if (b.length:Int)>a.length then (b.length:Int) else (a.length:Int))) (0:Int)):Int)),(26,.dat T0 x.1)],[(0,.arr 3 T0 x.2)],1⟩) (fun z=>Sum.elim (fun za=>[(1,⟨[(4,.raw false [N0]),(5,D0 4)],[],0⟩)]) (fun zb=>[(2,⟨[(6,O0 0)],[(0,.arr 3 T0 zb)],1⟩)]) z) (E4 (iuR [1]) (R5 (AJ (AI rfl TV)))) (fun m=>An (fun v26=>fun l0 z q=>?_)) ?_
  ·have q:f179_l4 a b _ v26 l0=some z:=q
   unfold f179_l4 at q
   refine OL (OL (cI q (fun q=>?_) (fun q=>?_)))
   ·refine OL (OL (OL ?_))
    obtain ⟨r13,h,q⟩:=bE q
    refine OL (cA H213 (a,v26) h rfl (R2 (K0 ?_)))
    obtain ⟨r14,h,q⟩:=bE q
    refine OL (cA H213 (b,v26) h rfl (R2 (K0 ?_)))
    obtain ⟨z15,hz15,q⟩:=bE q
    refine OQ ⟨Sum.elim (fun z15a=>[(0,⟨[(0,.dat T5 a),(1,.dat T5 b),(6,O0 0),(7,.dat T0 v26),(8,.dat T0 r13),(9,.dat T0 r14),(25,.dat T0 (List.length (List.replicate (Int.toNat (if (b.length:Int)>a.length then (b.length:Int) else (a.length:Int))) (0:Int)):Int)),(26,.dat T0 v26)],[(0,.arr 3 T0 l0)],1⟩)]) (fun z15b=>[(1,⟨[(4,.raw false [N0]),(5,D0 4)],[],0⟩)]) z15,?_,?_⟩
    ·have q:=hz15
     clear hz15
     unfold f179_j5 at q
     refine OL (cI q (fun q=>?_) (fun q=>?_))
     ·refine gX (cT (cI q (fun q=>?_) (fun q=>?_)))
      ·refine gX (cT (cI q (fun q=>?_) (fun q=>?_)))
       ·cases sE q
        refine OL (E4 [] (R2 (AJ TV)))
       cases sE q
       refine E4 (iuR [1]) (R8 (AJ (AI rfl TV)))
      refine gM (cF (cF ?_))
      cases sE q
      refine E4 (iuR [1]) (R8 (AJ (AI rfl TV)))
     refine gM (cF (gM (gM (cF (cF ?_)))))
     cases sE q
     refine E4 (iuR [1]) (R8 (AJ (AI rfl TV)))
    rcases z15 with z15a | z15b
    ·dsimp only [Ak] at q
     refine AI (gI q (fun q=>?_)) TV
     refine OL (EI ((i64.wrap (v26+1)),(List.set l0 (Int.toNat (i64.wrap ((i64.wrap ((l0.length:Int)-1))-v26))) (if r14>r13 then r14 else r13))) (AI q (E4 (iuR [1]) (R5 (AJ (AI rfl TV))))))
    dsimp only [Ak] at q
    refine AI ?_ TV
    cases sE q
    refine E4 [] (R2 (AJ TV))
   cases sE q
   refine E4 (iuR [1]) (AI rfl (AJ (AI rfl TV)))
  rcases z12 with z12a | z12b
  ·dsimp only [Ak] at q
   refine AI ?_ TV
   cases sE q
   refine AI rfl (E4 (iuR [0]) (R2 (AJ (AI rfl TV))))
  dsimp only [Ak] at q
  refine AI (OL (OL ?_)) TV
  obtain ⟨r16,h,q⟩:=bE q
  refine OL (cD H67 z12b h rfl (AI rfl (AI (fun _=>rfl) (R2 (AI TV (AI TV (cI q (fun q=>?_) (fun q=>?_))))))))
  ·cases sE q
   refine OL (AI rfl (E4 (iuR [0]) (R2 (AJ (AI rfl TV)))))
  cases sE q
  refine OL (AI rfl (E4 (iuR [1]) (R2 (AJ (AI rfl TV)))))
 dsimp only [Ak] at q
 refine AI ?_ TV
 cases sE q
 refine AI rfl (E4 (iuR [0]) (R2 (AJ (AI rfl TV))))
theorem H179:HI C179 179:=hI Tryz.f179 rfl fun x=>V179 x.1 x.2
def f50 (x_ y_:Int):Option Ax:=
 some ((u64.wrap ((u64.wrap ((u64.wrap ((Int.fdiv x_ (2 ^ min (Int.toNat (32:Int)) u64.bits))*(Int.fdiv y_ (2 ^ min (Int.toNat (32:Int)) u64.bits))))+(Int.fdiv (u64.wrap ((u64.wrap ((Int.fdiv x_ (2 ^ min (Int.toNat (32:Int)) u64.bits))*(Af IntKind.u64 (fun p q=>p&&& q) y_ (4294967295:Int))))+(Int.fdiv (u64.wrap ((Af IntKind.u64 (fun p q=>p&&& q) x_ (4294967295:Int))*(Af IntKind.u64 (fun p q=>p&&& q) y_ (4294967295:Int)))) (2 ^ min (Int.toNat (32:Int)) u64.bits)))) (2 ^ min (Int.toNat (32:Int)) u64.bits))))+(Int.fdiv (u64.wrap ((Af IntKind.u64 (fun p q=>p&&& q) (u64.wrap ((u64.wrap ((Int.fdiv x_ (2 ^ min (Int.toNat (32:Int)) u64.bits))*(Af IntKind.u64 (fun p q=>p&&& q) y_ (4294967295:Int))))+(Int.fdiv (u64.wrap ((Af IntKind.u64 (fun p q=>p&&& q) x_ (4294967295:Int))*(Af IntKind.u64 (fun p q=>p&&& q) y_ (4294967295:Int)))) (2 ^ min (Int.toNat (32:Int)) u64.bits)))) (4294967295:Int))+(u64.wrap ((Af IntKind.u64 (fun p q=>p&&& q) x_ (4294967295:Int))*(Int.fdiv y_ (2 ^ min (Int.toNat (32:Int)) u64.bits)))))) (2 ^ min (Int.toNat (32:Int)) u64.bits)))),(u64.wrap (x_*y_)))
def C50:Con:=⟨Ax,Ax,0,fun x=>[.dat T9 x.1,.dat T9 x.2],NX,fun x=>f50 x.1 x.2,fun y=>[.dat T9 y.1,.dat T9 y.2],NX,0⟩
theorem V50 x_ y_ y (q:f50 x_ y_=some y):VC Tryz.f50 C50 (x_,y_) y:=by
 unfold f50 at q
 refine OL (OL (OL (AI (by decide) (OL (OL (AI (by decide) (OL (OL (AI (by decide) (OL (OL (AI (by decide) (OL (OL (AI (by decide) (OL ?_))))))))))))))))
 cases sE q
 refine AI rfl (E4 [] (R3 (AI TV TV)))
theorem H50:HI C50 50:=hI Tryz.f50 rfl fun x=>V50 x.1 x.2
def f139 (x_ y_:Int):Option Ax:=
 Ac (f50 x_ y_) fun r1=>
 some (r1.1,r1.2)
def C139:Con:=⟨Ax,Ax,0,fun x=>[.dat T9 x.1,.dat T9 x.2],NX,fun x=>f139 x.1 x.2,fun y=>[.dat T9 y.1,.dat T9 y.2],NX,0⟩
theorem V139 x_ y_ y (q:f139 x_ y_=some y):VC Tryz.f139 C139 (x_,y_) y:=by
 unfold f139 at q
 refine OL (OL (cF (OL ?_)))
 obtain ⟨r1,h,q⟩:=bE q
 refine OL (cA H50 (x_,y_) h rfl (R2 (K0 (OL ?_))))
 cases sE q
 refine AI rfl (E4 [] (R3 (AI TV TV)))
theorem H139:HI C139 139:=hI Tryz.f139 rfl fun x=>V139 x.1 x.2
def f115_j1 (r1:Ax):Option Unit:=
 bif (decide (r1.1>0)) then
 none
 else
 bif (decide (r1.2>9223372036854775807)) then
 none
 else
 some ()
def f115_l2 (go:Bc→Option LI) (n:Int) (l0:LI):Option LI:=
 bif (decide (n<l0.length)) then
 Ad (0≤n∧n≤l0.length)<|
 Ad (0≤n∧n≤l0.length)<|
 go ((i64.wrap (n+(List.length (List.take (Int.toNat (l0.length:Int)-Int.toNat n) (List.drop (Int.toNat (0:Int)) (List.take (Int.toNat n) l0))):Int))),(over l0 n (List.take (Int.toNat (l0.length:Int)-Int.toNat n) (List.drop (Int.toNat (0:Int)) (List.take (Int.toNat n) l0)))))
 else
 some l0
def f115 (x_:LI) (count:Int):Option LI:=
 bif (decide (count<0)) then
 none
 else
 Ac (f139 (u64.wrap (x_.length:Int)) (u64.wrap count)) fun r1=>
 Ac (f115_j1 r1) fun z2=>
 Ad (0≤(i64.wrap r1.2)∧(i64.wrap r1.2)≤(i64.wrap r1.2)∧Int.toNat (i64.wrap r1.2)*8≤140737488355328)<|
 Ac (Ag (fun go x=>f115_l2 go x.1 x.2) Ah ((List.length (List.take (Int.toNat (List.length (List.replicate (Int.toNat (i64.wrap r1.2)) (0:Int)):Int)-Int.toNat (0:Int)) x_):Int),(over (List.replicate (Int.toNat (i64.wrap r1.2)) (0:Int)) (0:Int) (List.take (Int.toNat (List.length (List.replicate (Int.toNat (i64.wrap r1.2)) (0:Int)):Int)-Int.toNat (0:Int)) x_)))) fun z3=>
 some z3
def C115:Con:=⟨LI×Int,LI,0,fun x=>[.dat T5 x.1,.dat T0 x.2],NX,fun x=>f115 x.1 x.2,fun y=>[O0 0],fun y=>[(0,.arr 26 T0 y)],1⟩
theorem V115 x_ count y (q:f115 x_ count=some y):VC Tryz.f115 C115 (x_,count) y:=by
 unfold f115 at q
 refine OL (OL (OL (cI q (fun q=>?_) (fun q=>?_))))
 ·exact nomatch q
 refine OL ?_
 obtain ⟨r1,h,q⟩:=bE q
 refine OL (cA H139 ((u64.wrap (x_.length:Int)),(u64.wrap count)) h rfl (R2 (K0 ?_)))
 obtain ⟨z2,hz2,q⟩:=bE q
 refine OQ ⟨[(0,⟨[(0,.dat T5 x_),(6,.dat T9 r1.2)],[],0⟩)],?_,?_⟩
 ·have q:=hz2
  clear hz2
  unfold f115_j1 at q
  refine OL (cN q (fun q=>?_) (fun q=>?_))
  ·refine gY (cF (cI q (fun q=>?_) (fun q=>?_)))
   ·exact nomatch q
   cases sE q
   refine E4 [] (R3 (AI TV TV))
  refine gN (cT (cT ?_))
  exact nomatch q
 refine AI (OL (gI q (fun q=>?_))) TV
 refine OL (OL ?_)
 obtain ⟨z3,h,q⟩:=bE q
 refine lJ h (fun x=>⟨[(7,O0 0),(8,.dat T0 x.1)],[(0,.arr 26 T0 x.2)],1⟩) (fun z=>[(2,⟨[(7,O0 0)],[(0,.arr 26 T0 z)],1⟩)]) (E4 (iuR [1]) (R2 (AJ (AI rfl TV)))) (fun m=>An (fun n=>fun l0 z q=>?_)) ?_
 ·have q:f115_l2 _ n l0=some z:=q
  unfold f115_l2 at q
  refine OL (OL (cI q (fun q=>?_) (fun q=>?_)))
  ·refine EI (tU 0 7 (.alt 7 (.take 8 (.take 9 .done)) .done)) (EI [] (EI [] (AI rfl (gI q (fun q=>?_)))))
   refine gI q (fun q=>?_)
   refine AI TV (EI ((i64.wrap (n+(List.length (List.take (Int.toNat (l0.length:Int)-Int.toNat n) (List.drop (Int.toNat (0:Int)) (List.take (Int.toNat n) l0))):Int))),(over l0 n (List.take (Int.toNat (l0.length:Int)-Int.toNat n) (List.drop (Int.toNat (0:Int)) (List.take (Int.toNat n) l0))))) (AI q (E4 (iuR [1]) (R2 (AJ (AI rfl TV))))))
  cases sE q
  refine E4 (iuR [1]) (AI rfl (AJ (AI rfl TV)))
 refine AI (OL ?_) TV
 cases sE q
 refine AI rfl (E4 (iuR [1]) (AI rfl (AJ (AI rfl TV))))
theorem H115:HI C115 115:=hI Tryz.f115 rfl fun x=>V115 x.1 x.2
def f75 (d:LI) (v:Int):Option Bl:=
 Ac (f67 d) fun r1=>
 bif (!r1) then
 some ((1:Int),[],[])
 else
 Ac (f47 d) fun r2=>
 Ac (f116 d) fun r3=>
 Ac (f115 ([v]) r3) fun r4=>
 some ((0:Int),r2,r4)
def C75:Con:=⟨LI×Int,Bl,0,fun x=>[.dat T5 x.1,.dat T0 x.2],NX,fun x=>f75 x.1 x.2,fun y=>[.raw true [(.osl 0),(.osl 1)],.dat T0 y.1],fun y=>[(0,.arr 3 T0 y.2.1),(1,.arr 26 T0 y.2.2)],2⟩
theorem V75 d v y (q:f75 d v=some y):VC Tryz.f75 C75 (d,v) y:=by
 unfold f75 at q
 refine OL (OL (OL ?_))
 obtain ⟨r1,h,q⟩:=bE q
 refine OL (cA H67 d h rfl (AI rfl (K0 (cI q (fun q=>?_) (fun q=>?_)))))
 ·refine OL (OL ?_)
  cases sE q
  refine AI rfl (E4 (iuR [0,0]) (R2 (AJ (R2 TV))))
 refine OL ?_
 obtain ⟨r2,h,q⟩:=bE q
 refine OL (cA H47 d h rfl (AI rfl (K0 (OL ?_))))
 obtain ⟨r3,h,q⟩:=bE q
 refine OL (cA H116 d h rfl (AI rfl (K0 ?_)))
 obtain ⟨r4,h,q⟩:=bE q
 refine OL (cD H115 ([v],r3) h rfl (R2 (AI (fun _=>rfl) (R2 (AI TV (AI TV (OL ?_)))))))
 cases sE q
 refine AI rfl (E4 (iuR [2,4]) (R2 (AJ (R2 TV))))
theorem H75:HI C75 75:=hI Tryz.f75 rfl fun x=>V75 x.1 x.2
def f214_l1 (d:LI) (go:(Int×Bc)→Option LI) (n i:Int) (l0:LI):Option LI:=
 bif (decide (i≥0)) then
 Ad (0≤i∧i<l0.length)<|
 Ad (0≤i∧i<d.length)<|
 go ((i64.wrap (n*(rd 0 d i))),(i64.wrap (i-1)),(List.set l0 (Int.toNat i) n))
 else
 some l0
def f214 (d:LI):Option LI:=
 Ac (f67 d) fun r1=>
 bif (!r1) then
 some ([])
 else
 Ad (0≤(d.length:Int)∧(d.length:Int)≤d.length∧Int.toNat (d.length:Int)*8≤140737488355328)<|
 Ac (Ag (fun go x=>f214_l1 d go x.1 x.2.1 x.2.2) Ah ((1:Int),(i64.wrap ((d.length:Int)-1)),(List.replicate (Int.toNat (d.length:Int)) (0:Int)))) fun z2=>
 some z2
def C214:Con:=⟨LI,LI,0,fun x=>[.dat T5 x],NX,fun x=>f214 x,fun y=>[O0 0],fun y=>[(0,.arr 3 T0 y)],1⟩
theorem V214 d y (q:f214 d=some y):VC Tryz.f214 C214 d y:=by
 unfold f214 at q
 refine OL (OL (OL ?_))
 obtain ⟨r1,h,q⟩:=bE q
 refine OL (cA H67 d h rfl (AI rfl (K0 (cI q (fun q=>?_) (fun q=>?_)))))
 ·cases sE q
  refine OL (AI rfl (E4 (iuR [0]) (AI rfl (AJ (AI rfl TV)))))
 refine OL (gI q (fun q=>?_))
 refine OL (OL (OL ?_))
 obtain ⟨z2,h,q⟩:=bE q
 refine lJ h (fun x=>⟨[(0,.dat T5 d),(3,O0 0),(4,.dat T0 x.1),(5,.dat T0 x.2.1)],[(0,.arr 3 T0 x.2.2)],1⟩) (fun z=>[(2,⟨[(3,O0 0)],[(0,.arr 3 T0 z)],1⟩)]) (E4 (iuR [1]) (R4 (AJ (AI rfl TV)))) (fun m=>An (fun n=>An (fun i=>fun l0 z q=>?_))) ?_
 ·have q:f214_l1 d _ n i l0=some z:=q
  unfold f214_l1 at q
  refine OL (OL (cI q (fun q=>?_) (fun q=>?_)))
  ·refine OL (OL (gI q (fun q=>?_)))
   refine OL (gI q (fun q=>?_))
   refine EI ((i64.wrap (n*(rd 0 d i))),(i64.wrap (i-1)),(List.set l0 (Int.toNat i) n)) (AI q (E4 (iuR [1]) (R4 (AJ (AI rfl TV)))))
  cases sE q
  refine E4 (iuR [1]) (AI rfl (AJ (AI rfl TV)))
 refine AI (OL ?_) TV
 cases sE q
 refine AI rfl (E4 (iuR [1]) (AI rfl (AJ (AI rfl TV))))
theorem H214:HI C214 214:=hI Tryz.f214 rfl fun x=>V214 x
end Go.Proofs
