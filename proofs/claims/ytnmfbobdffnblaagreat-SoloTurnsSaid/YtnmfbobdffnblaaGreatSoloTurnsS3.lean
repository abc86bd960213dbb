import Derived.Test.YtnmfbobdffnblaaGreatSoloTurnsS2
set_option linter.unusedVariables false
set_option maxRecDepth 100000
set_option maxHeartbeats 8000000
namespace Go.Proofs
open Go.AM
open IntKind (i64 u64 i32 u32 i16 u16 i8 u8)
def f109 (r_t_l:NL) (r_e:Int) (r_p r_leafs:LI) (op a b k:Int):Option PTz13:=
 bif (r_e != 0) then
 some ((0:Int),r_e,r_p,r_leafs,r_t_l)
 else
 Ac (f138 r_t_l op a b k) fun r1=>
 some (r1.1,r1.2.1,r_p,r_leafs,r1.2.2)
def C109:Con:=⟨NL×Int×LI×LI×PTz7,PTz13,4,fun x=>[P0 0 0,.dat T0 x.2.2.2.2.1,.dat T0 x.2.2.2.2.2.1,.dat T0 x.2.2.2.2.2.2.1,.dat T0 x.2.2.2.2.2.2.2],fun x=>[(0,.cells [(.ptr 1 0),(.d T0 x.2.1),(.d T5 x.2.2.1),(.osl 3)]),(1,.cells [(.osl 2)]),(2,.arr 156 T7 x.1),(3,.arr 3 T0 x.2.2.2.1)],fun x=>f109 x.1 x.2.1 x.2.2.1 x.2.2.2.1 x.2.2.2.2.1 x.2.2.2.2.2.1 x.2.2.2.2.2.2.1 x.2.2.2.2.2.2.2,fun y=>[.dat T0 y.1],fun y=>[(0,.cells [(.ptr 1 0),(.d T0 y.2.1),(.d T5 y.2.2.1),(.osl 3)]),(1,.cells [(.osl 4)]),(3,.arr 3 T0 y.2.2.2.1),(4,.arr 156 T7 y.2.2.2.2)],5⟩
theorem V109 r_t_l r_e r_p r_leafs op a b k y (q:f109 r_t_l r_e r_p r_leafs op a b k=some y):VE Tryz.f109 4 C109 (r_t_l,r_e,r_p,r_leafs,op,a,b,k) y:=by
 unfold f109 at q
 refine OL (OL (OL (cI q (fun q=>?_) (fun q=>?_))))
 ·cases sE q
  refine OL (AI rfl (E4 [(0,some 0),(1,some 1),(3,some 3),(4,some 2)] (R2 (AI TV (R4 TV)))))
 refine OL ?_
 obtain ⟨r1,h,q⟩:=bE q
 refine OL (cB H138 (r_t_l,op,a,b,k) (iuR [2,3]) false h rfl (R4 (AI NH (R2 (AJ (AI (R2 TV) (OL (OL (OL ?_)))))))))
 cases sE q
 refine AI rfl (E4 [(0,some 0),(1,some 1),(3,some 3),(4,some 6)] (R2 (AI TV (R4 TV))))
theorem H109:HI C109 109:=hI Tryz.f109 rfl fun x=>V109 x.1 x.2.1 x.2.2.1 x.2.2.2.1 x.2.2.2.2.1 x.2.2.2.2.2.1 x.2.2.2.2.2.2.1 x.2.2.2.2.2.2.2
def f70_j1 (in_:LI) (x_:Int) (r2:Int×PTz13):Option PTz13:=
 bif ((in_.length:Int)==2) then
 Ac (f109 r2.2.2.2.2.2 r2.2.2.1 r2.2.2.2.1 r2.2.2.2.2.1 (14:Int) x_ (0:Int) (0:Int)) fun r5=>
 some (r5.1,r5.2.1,r5.2.2.1,r5.2.2.2.1,r5.2.2.2.2)
 else
 some (x_,r2.2.2.1,r2.2.2.2.1,r2.2.2.2.2.1,r2.2.2.2.2.2)
def f70 (r_t_l:NL) (r_e:Int) (r_p r_leafs:LI) (l:PTz16) (in_:LI) (x_ ahead:Int):Option PTz13:=
 Ac (f65 (l.1,l.2.1,l.2.2) in_) fun r1=>
 Ac (f108 r_t_l r_e r_p r_leafs r1) fun r2=>
 bif (ByteArray.toList l.1==ByteArray.toList (ByteArray.mk #[100,101,110,115,101])) then
 Ac (f70_j1 in_ x_ r2) fun z4=>
 Ac (f109 z4.2.2.2.2 z4.2.1 z4.2.2.1 z4.2.2.2.1 (4:Int) r2.1 z4.1 (0:Int)) fun r6=>
 Ac (f109 r6.2.2.2.2 r6.2.1 r6.2.2.1 r6.2.2.2.1 (8:Int) r6.1 (0:Int) (1:Int)) fun r7=>
 Ac (f109 r7.2.2.2.2 r7.2.1 r7.2.2.1 r7.2.2.2.1 (2:Int) r7.1 r2.2.1 (0:Int)) fun r8=>
 some (r8.1,r8.2.1,r8.2.2.1,r8.2.2.2.1,r8.2.2.2.2)
 else
 bif (ByteArray.toList l.1==ByteArray.toList (ByteArray.mk #[99,111,110,118])) then
 Ac (f109 r2.2.2.2.2.2 r2.2.2.1 r2.2.2.2.1 r2.2.2.2.2.1 (12:Int) x_ r2.1 (1:Int)) fun r9=>
 some (r9.1,r9.2.1,r9.2.2.1,r9.2.2.2.1,r9.2.2.2.2)
 else
 bif (ByteArray.toList l.1==ByteArray.toList (ByteArray.mk #[112,111,111,108])) then
 Ac (f109 r2.2.2.2.2.2 r2.2.2.1 r2.2.2.2.1 r2.2.2.2.2.1 (13:Int) x_ (0:Int) l.2.1) fun r10=>
 some (r10.1,r10.2.1,r10.2.2.1,r10.2.2.2.1,r10.2.2.2.2)
 else
 bif (ByteArray.toList l.1==ByteArray.toList (ByteArray.mk #[98,101,110,100])) then
 Ac (f109 r2.2.2.2.2.2 r2.2.2.1 r2.2.2.2.1 r2.2.2.2.2.1 (11:Int) x_ (0:Int) l.2.1) fun r11=>
 some (r11.1,r11.2.1,r11.2.2.1,r11.2.2.2.1,r11.2.2.2.2)
 else
 Ac (f109 r2.2.2.2.2.2 r2.2.2.1 r2.2.2.2.1 r2.2.2.2.2.1 (2:Int) ahead x_ (0:Int)) fun r12=>
 some (r12.1,r12.2.1,r12.2.2.1,r12.2.2.2.1,r12.2.2.2.2)
def C70:Con:=⟨NL×Int×LI×LI×PTz16×LI×Ax,PTz13,4,fun x=>[P0 0 0,.dat T1 x.2.2.2.2.1,.dat T5 x.2.2.2.2.2.1,.dat T0 x.2.2.2.2.2.2.1,.dat T0 x.2.2.2.2.2.2.2],fun x=>[(0,.cells [(.ptr 1 0),(.d T0 x.2.1),(.d T5 x.2.2.1),(.osl 3)]),(1,.cells [(.osl 2)]),(2,.arr 156 T7 x.1),(3,.arr 3 T0 x.2.2.2.1)],fun x=>f70 x.1 x.2.1 x.2.2.1 x.2.2.2.1 x.2.2.2.2.1 x.2.2.2.2.2.1 x.2.2.2.2.2.2.1 x.2.2.2.2.2.2.2,fun y=>[.dat T0 y.1],fun y=>[(0,.cells [(.ptr 1 0),(.d T0 y.2.1),(.d T5 y.2.2.1),(.osl 4)]),(1,.cells [(.osl 5)]),(4,.arr 3 T0 y.2.2.2.1),(5,.arr 156 T7 y.2.2.2.2)],6⟩
theorem V70 r_t_l r_e r_p r_leafs l in_ x_ ahead y (q:f70 r_t_l r_e r_p r_leafs l in_ x_ ahead=some y):VE Tryz.f70 4 C70 (r_t_l,r_e,r_p,r_leafs,l,in_,x_,ahead) y:=by
 unfold f70 at q
 refine OL (OL ?_)
 obtain ⟨r1,h,q⟩:=bE q
 refine OL (cA H65 ((l.1,l.2.1,l.2.2),in_) h rfl (R3 (K0 ?_)))
 obtain ⟨r2,h,q⟩:=bE q
 refine OL (cB H108 (r_t_l,r_e,r_p,r_leafs,r1) I4 false h rfl (AI rfl (AI NH (R2 (AJ (AI (R4 TV) (OL (OL (OL (cI q (fun q=>?_) (fun q=>?_)))))))))))
 ·obtain ⟨z4,hz4,q⟩:=bE q
  refine OQ ⟨[(0,⟨[(0,P0 0 0),(3,.dat T0 z4.1),(11,.dat T0 r2.1),(12,.dat T0 r2.2.1)],[(0,.cells [(.ptr 1 0),(.d T0 z4.2.1),(.d T5 z4.2.2.1),(.osl 4)]),(1,.cells [(.osl 5)]),(4,.arr 3 T0 z4.2.2.2.1),(5,.arr 156 T7 z4.2.2.2.2)],6⟩)],?_,?_⟩
  ·have q:=hz4
   clear hz4
   unfold f70_j1 at q
   refine OL (cI q (fun q=>?_) (fun q=>?_))
   ·obtain ⟨r5,h,q⟩:=bE q
    refine OL (cB H109 (r2.2.2.2.2.2,r2.2.2.1,r2.2.2.2.1,r2.2.2.2.2.1,(14:Int),x_,(0:Int),(0:Int)) (iuR [1,2,12,11]) false h rfl (R4 (AI NH (R2 (AJ (AI (R4 TV) ?_))))))
    cases sE q
    refine E4 [(0,some 0),(1,some 1),(4,some 10),(5,some 16)] (R4 (AJ (R4 TV)))
   cases sE q
   refine E4 [(0,some 0),(1,some 1),(4,some 10),(5,some 11)] (R4 (AJ (R4 TV)))
  refine AI (OL ?_) TV
  obtain ⟨r6,h,q⟩:=bE q
  refine OL (cB H109 (z4.2.2.2.2,z4.2.1,z4.2.2.1,z4.2.2.2.1,(4:Int),r2.1,z4.1,(0:Int)) (iuR [1,2,6,5]) false h rfl (R4 (AI NH (R2 (AJ (AI (R4 TV) ?_))))))
  obtain ⟨r7,h,q⟩:=bE q
  refine OL (cB H109 (r6.2.2.2.2,r6.2.1,r6.2.2.1,r6.2.2.2.1,(8:Int),r6.1,(0:Int),(1:Int)) (iuR [1,2,11,5]) false h rfl (R4 (AI NH (R2 (AJ (AI (R4 TV) (OL ?_)))))))
  obtain ⟨r8,h,q⟩:=bE q
  refine OL (cB H109 (r7.2.2.2.2,r7.2.1,r7.2.2.1,r7.2.2.2.1,(2:Int),r7.1,r2.2.1,(0:Int)) (iuR [1,2,16,5]) false h rfl (R4 (AI NH (R2 (AJ (AI (R4 TV) ?_))))))
  cases sE q
  refine AI rfl (E4 [(0,some 0),(1,some 1),(4,some 4),(5,some 20)] (R2 (AI TV (R4 TV))))
 refine OL (cI q (fun q=>?_) (fun q=>?_))
 ·refine OL ?_
  obtain ⟨r9,h,q⟩:=bE q
  refine OL (cB H109 (r2.2.2.2.2.2,r2.2.2.1,r2.2.2.2.1,r2.2.2.2.2.1,(12:Int),x_,r2.1,(1:Int)) (iuR [1,2,12,11]) false h rfl (R4 (AI NH (R2 (AJ (AI (R4 TV) ?_))))))
  cases sE q
  refine AI rfl (E4 [(0,some 0),(1,some 1),(4,some 10),(5,some 16)] (R2 (AI TV (R4 TV))))
 refine OL (cI q (fun q=>?_) (fun q=>?_))
 ·refine OL ?_
  obtain ⟨r10,h,q⟩:=bE q
  refine OL (cB H109 (r2.2.2.2.2.2,r2.2.2.1,r2.2.2.2.1,r2.2.2.2.2.1,(13:Int),x_,(0:Int),l.2.1) (iuR [1,2,12,11]) false h rfl (R4 (AI NH (R2 (AJ (AI (R4 TV) ?_))))))
  cases sE q
  refine AI rfl (E4 [(0,some 0),(1,some 1),(4,some 10),(5,some 16)] (R2 (AI TV (R4 TV))))
 refine OL (cI q (fun q=>?_) (fun q=>?_))
 ·refine OL ?_
  obtain ⟨r11,h,q⟩:=bE q
  refine OL (cB H109 (r2.2.2.2.2.2,r2.2.2.1,r2.2.2.2.1,r2.2.2.2.2.1,(11:Int),x_,(0:Int),l.2.1) (iuR [1,2,12,11]) false h rfl (R4 (AI NH (R2 (AJ (AI (R4 TV) ?_))))))
  cases sE q
  refine AI rfl (E4 [(0,some 0),(1,some 1),(4,some 10),(5,some 16)] (R2 (AI TV (R4 TV))))
 refine OL ?_
 obtain ⟨r12,h,q⟩:=bE q
 refine OL (cB H109 (r2.2.2.2.2.2,r2.2.2.1,r2.2.2.2.1,r2.2.2.2.2.1,(2:Int),ahead,x_,(0:Int)) (iuR [1,2,12,11]) false h rfl (R4 (AI NH (R2 (AJ (AI (R4 TV) ?_))))))
 cases sE q
 refine AI rfl (E4 [(0,some 0),(1,some 1),(4,some 10),(5,some 16)] (R2 (AI TV (R4 TV))))
theorem H70:HI C70 70:=hI Tryz.f70 rfl fun x=>V70 x.1 x.2.1 x.2.2.1 x.2.2.2.1 x.2.2.2.2.1 x.2.2.2.2.2.1 x.2.2.2.2.2.2.1 x.2.2.2.2.2.2.2
def f71 (t_l:NL) (n:Int):Option NL:=
 Ad (0≤(if (t_l.length:Int)<(if (0:Int)>n then (0:Int) else n) then (t_l.length:Int) else (if (0:Int)>n then (0:Int) else n))∧(if (t_l.length:Int)<(if (0:Int)>n then (0:Int) else n) then (t_l.length:Int) else (if (0:Int)>n then (0:Int) else n))≤t_l.length)<|
 some (List.take (Int.toNat (if (t_l.length:Int)<(if (0:Int)>n then (0:Int) else n) then (t_l.length:Int) else (if (0:Int)>n then (0:Int) else n))) t_l)
def C71:Con:=⟨NL×Int,NL,2,fun x=>[P0 0 0,.dat T0 x.2],fun x=>[(0,.cells [(.osl 1)]),(1,.arr 156 T7 x.1)],fun x=>f71 x.1 x.2,fun y=>[],fun y=>[(0,.cells [(.osl 2)]),(2,.arr 156 T7 y)],3⟩
theorem V71 t_l n y (q:f71 t_l n=some y):VE Tryz.f71 2 C71 (t_l,n) y:=by
 unfold f71 at q
 refine EI (tU 0 13 (.alt 13 (.take 14 (.take 15 (.alt 16 .done .done))) .done)) (EI [(16,[0])] (EI [] (AI rfl (AI TV (OQ (OQ (gI q (fun q=>?_))))))))
 refine AI TV (OL ?_)
 cases sE q
 refine AI rfl (E4 [(0,some 0),(2,some 2)] (AI rfl (AI TV (R2 TV))))
theorem H71:HI C71 71:=hI Tryz.f71 rfl fun x=>V71 x.1 x.2
def f43_j3 (n:Az) (p_ x_:LI) (r1:Ea):Option Bool:=
 bif ((p_.length:Int) != r1.1) then
 some true
 else
 Ac (f66 n.1) fun r8=>
 some ((x_.length:Int) != r8)
def f43_j2 (n:Az) (p_ x_:LI) (r1:Ea):Option (Sum Unit Unit):=
 Ac (f43_j3 n p_ x_ r1) fun z7=>
 bif z7 then
 some (Sum.inr ())
 else
 some (Sum.inl ())
def f43_l4 (n:Az) (q18_7:PTz17) (go:(Int×Int×Int×Int×LI×NL×LI)→Option (Int×Int×LI×NL×LI)) (at_ ahead v62 c3_1:Int) (c3_2:LI) (l4:NL) (l5:LI):Option (Int×Int×LI×NL×LI):=
 bif (decide (v62<n.2.length)) then
 Ad (0≤v62∧v62<n.2.length)<|
 Ad (0≤v62∧v62<q18_7.2.length)<|
 Ac (f70 l4 c3_1 c3_2 l5 ((rd (Ty.z T1) n.2 v62).1,((rd (Ty.z T1) n.2 v62).2).1,((rd (Ty.z T1) n.2 v62).2).2) (rd (Ty.z T5) q18_7.2 v62) at_ ahead) fun q12_8=>
 go (q12_8.1,at_,(i64.wrap (v62+1)),q12_8.2.1,q12_8.2.2.1,q12_8.2.2.2.2,q12_8.2.2.2.1)
 else
 some (at_,c3_1,c3_2,l4,l5)
def f43 (t_l:NL) (n:Az) (p_ x_:LI):Option PTz21:=
 Ac (f40 (n.1,n.2)) fun q18_7=>
 bif (q18_7.1 != 0) then
 some ((0:Int),q18_7.1,[],t_l)
 else
 Ac (f41 (n.1,n.2) q18_7.2) fun r1=>
 Ac (f43_j2 n p_ x_ r1) fun z5=>
 Ak z5 (fun z5a=>
 Ac (f68 t_l) fun r9=>
 Ac (f69 r9.2 (0:Int) p_ ([]) n.1 x_) fun r10=>
 Ac (Ag (fun go x=>f43_l4 n q18_7 go x.1 x.2.1 x.2.2.1 x.2.2.2.1 x.2.2.2.2.1 x.2.2.2.2.2.1 x.2.2.2.2.2.2) Ah (r10.1,(0:Int),(0:Int),r10.2.1,r10.2.2.1,r10.2.2.2.2,r10.2.2.2.1)) fun z11=>
 bif (z11.2.1 != 0) then
 Ac (f71 z11.2.2.2.1 r9.1) fun q12_9=>
 some ((0:Int),z11.2.1,[],q12_9)
 else
 some (z11.1,(0:Int),z11.2.2.2.2,z11.2.2.2.1)) (fun z5b=>
 some ((0:Int),(1:Int),[],t_l))
def C43:Con:=⟨NL×Az×Al,PTz21,2,fun x=>[P0 0 0,.dat T3 x.2.1,.dat T5 x.2.2.1,.dat T5 x.2.2.2],fun x=>[(0,.cells [(.osl 1)]),(1,.arr 156 T7 x.1)],fun x=>f43 x.1 x.2.1 x.2.2.1 x.2.2.2,fun y=>[.dat T0 y.1,O0 2,.dat T0 y.2.1],fun y=>[(0,.cells [(.osl 3)]),(2,.arr 3 T0 y.2.2.1),(3,.arr 156 T7 y.2.2.2)],4⟩
theorem V43 t_l n p_ x_ y (q:f43 t_l n p_ x_=some y):VE Tryz.f43 2 C43 (t_l,n,p_,x_) y:=by
 unfold f43 at q
 refine OL (OL ?_)
 obtain ⟨q18_7,h,q⟩:=bE q
 refine OL (cA H40 (n.1,n.2) h rfl (R2 (K0 (OL (OL (cI q (fun q=>?_) (fun q=>?_)))))))
 ·cases sE q
  refine OL (AI rfl (E4 [(0,some 0),(2,none),(3,some 1)] (R3 (AJ (R3 TV)))))
 refine OL ?_
 obtain ⟨r1,h,q⟩:=bE q
 refine OL (cD H41 ((n.1,n.2),q18_7.2) h rfl (R3 (AI (fun _=>rfl) (R2 (AI TV (AI TV ?_))))))
 obtain ⟨z5,hz5,q⟩:=bE q
 let h0:LH:=fun zz=>(0,.cells [(.osl 1)])::(1,.arr 156 T7 t_l)::zz
 let h1:LH:=fun zz=>h0 ((2,.cells [(.d T5 n.1),(.d T4 n.2)])::(3,.arr 22 T5 q18_7.2)::zz)
 refine OQ ⟨Sum.elim (fun z5a=>[(0,⟨[(0,P0 0 0),(2,.dat T5 p_),(3,.dat T5 x_),(5,P0 2 0),(11,O0 3)],h1 [],4⟩)]) (fun z5b=>[(1,⟨[(8,D0 0),(9,.raw false [N0]),(10,D0 1)],h0 [],2⟩)]) z5,?_,?_⟩
 ·have q:=hz5
  clear hz5
  unfold f43_j2 at q
  obtain ⟨z7,hz7,q⟩:=bE q
  refine OQ ⟨[(0,⟨[(0,P0 0 0),(2,.dat T5 p_),(3,.dat T5 x_),(5,P0 2 0),(11,O0 3),(47,.dat .bool z7)],h1 [],4⟩)],?_,?_⟩
  ·have q:=hz7
   clear hz7
   unfold f43_j3 at q
   refine cN q (fun q=>?_) (fun q=>?_)
   ·refine gY (gY (gY (gY ?_)))
    obtain ⟨r8,h,q⟩:=bE q
    refine OL (cA H66 n.1 h rfl (AI rfl (K0 (gY (cF ?_)))))
    cases sE q
    refine E4 I4 (R4 (AI (R3 TV) (R4 TV)))
   refine gN (gN (gN (gN (gN (cT ?_)))))
   cases sE q
   refine E4 I4 (R4 (AI (R3 TV) (R4 TV)))
  refine AI (cI q (fun q=>?_) (fun q=>?_)) TV
  ·cases sE q
   refine OL (E4 I2 (R3 (AJ (R2 TV))))
  cases sE q
  refine E4 I4 (R3 (AI (R3 TV) (R4 TV)))
 rcases z5 with z5a | z5b
 ·dsimp only [Ak] at q
  refine AI (OL ?_) TV
  obtain ⟨r9,h,q⟩:=bE q
  refine OL (cB H68 t_l I2 false h rfl (AI NH (R2 (AJ (AI (R2 TV) (OL ?_))))))
  obtain ⟨r10,h,q⟩:=bE q
  refine OL (AI H69.1 (callVn [(4,3,3,T0)] (virtI rfl rfl (virt0 (cQ C69 (r9.2,(0:Int),p_,[],n.1,x_) r10 (iuR [5,1,2,8]) false H69.2 h rfl rfl (R2 (AI NH (R2 (AJ (AI (R4 TV) (OL (OL ?_))))))))))))
  obtain ⟨z11,h,q⟩:=bE q
  refine lJ h (fun x=>⟨[(0,P0 0 0),(11,O0 2),(15,P0 3 0),(16,.dat T0 r9.1),(17,.dat T0 x.1),(18,.dat T0 x.2.1),(60,.dat T4 n.2),(61,.dat T0 (n.2.length:Int)),(62,.dat T0 x.2.2.1)],[(0,.cells [(.osl 4)]),(2,.arr 22 T5 q18_7.2),(3,.cells [(.ptr 0 0),(.d T0 x.2.2.2.1),(.d T5 x.2.2.2.2.1),(.osl 5)]),(4,.arr 156 T7 x.2.2.2.2.2.1),(5,.arr 3 T0 x.2.2.2.2.2.2)],6⟩) (fun z=>[(2,⟨[(0,P0 0 0),(15,P0 2 0),(16,.dat T0 r9.1),(17,.dat T0 z.1)],[(0,.cells [(.osl 3)]),(2,.cells [(.ptr 0 0),(.d T0 z.2.1),(.d T5 z.2.2.1),(.osl 4)]),(3,.arr 156 T7 z.2.2.2.1),(4,.arr 3 T0 z.2.2.2.2)],5⟩)]) (E4 [(0,some 0),(2,some 3),(3,some 4),(4,some 12),(5,some 7)] (R7 (AI (R3 TV) (R5 TV)))) (fun m=>An (fun at_=>An (fun ahead=>An (fun v62=>An (fun c3_1=>An (fun c3_2=>An (fun l4=>fun l5 z q=>?_))))))) ?_
  ·have q:f43_l4 n q18_7 _ at_ ahead v62 c3_1 c3_2 l4 l5=some z:=q
   unfold f43_l4 at q
   refine OL (OL (cI q (fun q=>?_) (fun q=>?_)))
   ·refine OL (OL (gI q (fun q=>?_)))
    refine OL (OL (EI (tU 0 8 (.alt 8 (.take 9 .done) .done)) (EI [] (EI [] (AI rfl (gI q (fun q=>?_)))))))
    refine AI TV ?_
    obtain ⟨q12_8,h,q⟩:=bE q
    refine OL (cB H70 (l4,c3_1,c3_2,l5,((rd (Ty.z T1) n.2 v62).1,((rd (Ty.z T1) n.2 v62).2).1,((rd (Ty.z T1) n.2 v62).2).2),(rd (Ty.z T5) q18_7.2 v62),at_,ahead) (iuR [4,1,5,6]) false h rfl (R5 (AI NH (R2 (AJ (AI (R4 TV) (EI (q12_8.1,at_,(i64.wrap (v62+1)),q12_8.2.1,q12_8.2.2.1,q12_8.2.2.2.2,q12_8.2.2.2.1) (AI q (E4 [(0,some 0),(2,some 2),(3,some 3),(4,some 12),(5,some 11)] (R7 (AI (R3 TV) (R5 TV))))))))))))
   cases sE q
   refine E4 [(0,some 0),(2,some 3),(3,some 4),(4,some 5)] (R3 (AI (R2 TV) (R4 TV)))
  refine AI (OL (OL (cI q (fun q=>?_) (fun q=>?_)))) TV
  ·refine OL ?_
   obtain ⟨q12_9,h,q⟩:=bE q
   refine OL (cB H71 (z11.2.2.2.1,r9.1) (iuR [1,4]) false h rfl (AI rfl (AI NH (R2 (AJ (AI (R2 TV) (OL (EI (tU 0 7 .done) (EI [] (EI [] (AI rfl ?_)))))))))))
   cases sE q
   refine AI rfl (E4 [(0,some 0),(2,none),(3,some 7)] (R3 (AJ (R3 TV))))
  refine OL (EI (tU 0 8 .done) (EI [] (EI [] (AI rfl ?_))))
  cases sE q
  refine AI rfl (E4 [(0,some 0),(2,some 4),(3,some 3)] (R3 (AJ (R3 TV))))
 dsimp only [Ak] at q
 refine AI ?_ TV
 cases sE q
 refine AI rfl (E4 [(0,some 0),(2,none),(3,some 1)] (R3 (AJ (R3 TV))))
theorem H43:HI C43 43:=hI Tryz.f43 rfl fun x=>V43 x.1 x.2.1 x.2.2.1 x.2.2.2
def f76 (t_l:NL) (n:Int):Option PTz20:=
 Ac (f117 t_l n) fun r1=>
 bif (!r1.1) then
 some ((0:Int),(0:Int),(0:Int),(0:Int),false,[],[],r1.2)
 else
 Ad (0≤n∧n<r1.2.length)<|
 Ac (f118 ((((((rd (Ty.z T7) r1.2 n).2).2).2).2).1,(((((rd (Ty.z T7) r1.2 n).2).2).2).2).2)) fun r2=>
 some ((rd (Ty.z T7) r1.2 n).1,((rd (Ty.z T7) r1.2 n).2).1,(((rd (Ty.z T7) r1.2 n).2).2).1,((((rd (Ty.z T7) r1.2 n).2).2).2).1,true,r2.1,r2.2,r1.2)
def C76:Con:=⟨NL×Int,PTz20,2,fun x=>[P0 0 0,.dat T0 x.2],fun x=>[(0,.cells [(.osl 1)]),(1,.arr 156 T7 x.1)],fun x=>f76 x.1 x.2,fun y=>[.raw true [(.d T0 y.1),(.d T0 y.2.1),(.d T0 y.2.2.1),(.d T0 y.2.2.2.1),(.osl 2),(.osl 3)],.dat .bool y.2.2.2.2.1],fun y=>[(0,.cells [(.osl 1)]),(1,.arr 156 T7 y.2.2.2.2.2.2.2),(2,.arr 3 T0 y.2.2.2.2.2.1),(3,.arr 26 T0 y.2.2.2.2.2.2.1)],4⟩
theorem V76 t_l n y (q:f76 t_l n=some y):VE Tryz.f76 2 C76 (t_l,n) y:=by
 unfold f76 at q
 refine OL (OL (OL ?_))
 obtain ⟨r1,h,q⟩:=bE q
 refine OL (cB H117 (t_l,n) I2 false h rfl (AI rfl (AI NH (R2 (AJ (AI (R2 TV) (cI q (fun q=>?_) (fun q=>?_))))))))
 ·refine OL (OL ?_)
  cases sE q
  refine AI rfl (E4 (iuR [1,2,0,0]) (R2 (AJ (R4 TV))))
 refine OL (gI q (fun q=>?_))
 refine OL (OL ?_)
 obtain ⟨r2,h,q⟩:=bE q
 refine OL (cA H118 ((((((rd (Ty.z T7) r1.2 n).2).2).2).2).1,(((((rd (Ty.z T7) r1.2 n).2).2).2).2).2) h rfl (R2 (K0 (OL (OL (OL ?_))))))
 cases sE q
 refine AI rfl (E4 (iuR [1,2,7,8]) (R2 (AJ (R4 TV))))
theorem H76:HI C76 76:=hI Tryz.f76 rfl fun x=>V76 x.1 x.2
def f46 (t_l:NL) (n:Int):Option (Bool×LI×LI×NL):=
 Ac (f76 t_l n) fun r1=>
 some (r1.2.2.2.2.1,r1.2.2.2.2.2.1,r1.2.2.2.2.2.2.1,r1.2.2.2.2.2.2.2)
def C46:Con:=⟨NL×Int,Bool×LI×LI×NL,2,fun x=>[P0 0 0,.dat T0 x.2],fun x=>[(0,.cells [(.osl 1)]),(1,.arr 156 T7 x.1)],fun x=>f46 x.1 x.2,fun y=>[.raw true [(.osl 2),(.osl 3)],.dat .bool y.1],fun y=>[(0,.cells [(.osl 1)]),(1,.arr 156 T7 y.2.2.2),(2,.arr 3 T0 y.2.1),(3,.arr 26 T0 y.2.2.1)],4⟩
theorem V46 t_l n y (q:f46 t_l n=some y):VE Tryz.f46 2 C46 (t_l,n) y:=by
 unfold f46 at q
 refine OL (OL ?_)
 obtain ⟨r1,h,q⟩:=bE q
 refine OL (cB H76 (t_l,n) I2 false h rfl (AI rfl (AI NH (R2 (AJ (AI (R2 TV) (OL (OL (OL ?_)))))))))
 cases sE q
 refine AI rfl (E4 (iuR [1,2,6,7]) (R2 (AJ (R4 TV))))
theorem H46:HI C46 46:=hI Tryz.f46 rfl fun x=>V46 x.1 x.2
def f110_j1 (want:LI) (r1:Bool×LI×LI×NL):Option Bool:=
 bif (!r1.1) then
 some true
 else
 some ((want.length:Int) != r1.2.2.1.length)
def f110 (t_l:NL) (out:Int) (want:LI):Option (Int×NL):=
 Ac (f46 t_l out) fun r1=>
 Ac (f110_j1 want r1) fun z2=>
 bif z2 then
 some ((1:Int),r1.2.2.2)
 else
 bif ((r1.2.1.length:Int) != 1) then
 some ((4:Int),r1.2.2.2)
 else
 some ((0:Int),r1.2.2.2)
def C110:Con:=⟨NL×Bc,Int×NL,2,fun x=>[P0 0 0,.dat T0 x.2.1,.dat T5 x.2.2],fun x=>[(0,.cells [(.osl 1)]),(1,.arr 156 T7 x.1)],fun x=>f110 x.1 x.2.1 x.2.2,fun y=>[.dat T0 y.1],fun y=>[(0,.cells [(.osl 1)]),(1,.arr 156 T7 y.2)],2⟩
theorem V110 t_l out want y (q:f110 t_l out want=some y):VE Tryz.f110 2 C110 (t_l,out,want) y:=by
 unfold f110 at q
 refine OL (OL ?_)
 obtain ⟨r1,h,q⟩:=bE q
 refine OL (cB H46 (t_l,out) I2 false h rfl (AI rfl (AI NH (R2 (AJ (AI (R2 TV) (OL (OL ?_))))))))
 obtain ⟨z2,hz2,q⟩:=bE q
 refine OQ ⟨[(0,⟨[(7,P0 2 0),(15,.dat .bool z2)],[(0,.cells [(.osl 1)]),(1,.arr 156 T7 r1.2.2.2),(2,.cells [(.osl 3),(.osl 4)]),(3,.arr 3 T0 r1.2.1),(4,.arr 26 T0 r1.2.2.1)],5⟩)],?_,?_⟩
 ·have q:=hz2
  clear hz2
  unfold f110_j1 at q
  refine cN q (fun q=>?_) (fun q=>?_)
  ·refine gY (gY (gY (gY (gY (cF ?_)))))
   cases sE q
   refine E4 (iuR [1,2,7,5,6]) (R2 (AJ (R5 TV)))
  refine gN (gN (gN (gN (gN (cT ?_)))))
  cases sE q
  refine E4 (iuR [1,2,7,5,6]) (R2 (AJ (R5 TV)))
 refine AI (cI q (fun q=>?_) (fun q=>?_)) TV
 ·cases sE q
  refine OL (AI rfl (E4 I2 (R2 (AI TV (R2 TV)))))
 refine OL (cI q (fun q=>?_) (fun q=>?_))
 ·cases sE q
  refine OL (AI rfl (E4 I2 (R2 (AI TV (R2 TV)))))
 cases sE q
 refine OL (AI rfl (E4 I2 (R2 (AI TV (R2 TV)))))
theorem H110:HI C110 110:=hI Tryz.f110 rfl fun x=>V110 x.1 x.2.1 x.2.2
def f111 (t_l:NL):Option (Int×NL):=
 Ac (f68 t_l) fun r1=>
 some (r1.1,r1.2)
def C111:Con:=⟨NL,Int×NL,2,fun x=>[P0 0 0],fun x=>[(0,.cells [(.osl 1)]),(1,.arr 156 T7 x)],fun x=>f111 x,fun y=>[P0 2 0],fun y=>[(0,.cells [(.osl 1)]),(1,.arr 156 T7 y.2),(2,.cells [(.ptr 0 0),(.d T0 y.1),(.d T0 (0:Int))])],3⟩
theorem V111 t_l y (q:f111 t_l=some y):VE Tryz.f111 2 C111 t_l y:=by
 unfold f111 at q
 refine OL (OL ?_)
 obtain ⟨r1,h,q⟩:=bE q
 refine OL (cB H68 t_l I2 false h rfl (AI NH (R2 (AJ (AI (R2 TV) ?_)))))
 cases sE q
 refine AI rfl (E4 (iuR [1,2,5]) (AI rfl (AJ (R3 TV))))
theorem H111:HI C111 111:=hI Tryz.f111 rfl fun x=>V111 x
def f113 (s_t_l:NL) (s_was s_e:Int) (v:LI):Option (Int×Bu):=
 bif (s_e != 0) then
 some ((0:Int),s_was,s_e,s_t_l)
 else
 Ac (f107 s_t_l ([(v.length:Int)],v)) fun r1=>
 some (r1.1,s_was,r1.2.1,r1.2.2)
def C113:Con:=⟨NL×Int×Bc,Int×Bu,3,fun x=>[P0 0 0,.dat T5 x.2.2.2],fun x=>[(0,.cells [(.ptr 1 0),(.d T0 x.2.1),(.d T0 x.2.2.1)]),(1,.cells [(.osl 2)]),(2,.arr 156 T7 x.1)],fun x=>f113 x.1 x.2.1 x.2.2.1 x.2.2.2,fun y=>[.dat T0 y.1],fun y=>[(0,.cells [(.ptr 1 0),(.d T0 y.2.1),(.d T0 y.2.2.1)]),(1,.cells [(.osl 3)]),(3,.arr 156 T7 y.2.2.2)],4⟩
theorem V113 s_t_l s_was s_e v y (q:f113 s_t_l s_was s_e v=some y):VE Tryz.f113 3 C113 (s_t_l,s_was,s_e,v) y:=by
 unfold f113 at q
 refine OL (OL (OL (cI q (fun q=>?_) (fun q=>?_))))
 ·cases sE q
  refine OL (AI rfl (E4 [(0,some 0),(1,some 1),(3,some 2)] (R2 (AI TV (R3 TV)))))
 refine OL (OL ?_)
 obtain ⟨r1,h,q⟩:=bE q
 refine OL (cB H107 (s_t_l,([(v.length:Int)],v)) (iuR [2,3]) false h rfl (R2 (AI NH (R2 (AJ (AI (R2 TV) (OL (OL (OL ?_)))))))))
 cases sE q
 refine AI rfl (E4 [(0,some 0),(1,some 1),(3,some 6)] (R2 (AI TV (R3 TV))))
theorem H113:HI C113 113:=hI Tryz.f113 rfl fun x=>V113 x.1 x.2.1 x.2.2.1 x.2.2.2
def f112 (s_t_l:NL) (s_was s_e op a b k:Int):Option (Int×Bu):=
 bif (s_e != 0) then
 some ((0:Int),s_was,s_e,s_t_l)
 else
 Ac (f138 s_t_l op a b k) fun r1=>
 some (r1.1,s_was,r1.2.1,r1.2.2)
def C112:Con:=⟨NL×Int×PTz22,Int×Bu,3,fun x=>[P0 0 0,.dat T0 x.2.2.2.1,.dat T0 x.2.2.2.2.1,.dat T0 x.2.2.2.2.2.1,.dat T0 x.2.2.2.2.2.2],fun x=>[(0,.cells [(.ptr 1 0),(.d T0 x.2.1),(.d T0 x.2.2.1)]),(1,.cells [(.osl 2)]),(2,.arr 156 T7 x.1)],fun x=>f112 x.1 x.2.1 x.2.2.1 x.2.2.2.1 x.2.2.2.2.1 x.2.2.2.2.2.1 x.2.2.2.2.2.2,fun y=>[.dat T0 y.1],fun y=>[(0,.cells [(.ptr 1 0),(.d T0 y.2.1),(.d T0 y.2.2.1)]),(1,.cells [(.osl 3)]),(3,.arr 156 T7 y.2.2.2)],4⟩
theorem V112 s_t_l s_was s_e op a b k y (q:f112 s_t_l s_was s_e op a b k=some y):VE Tryz.f112 3 C112 (s_t_l,s_was,s_e,op,a,b,k) y:=by
 unfold f112 at q
 refine OL (OL (OL (cI q (fun q=>?_) (fun q=>?_))))
 ·cases sE q
  refine OL (AI rfl (E4 [(0,some 0),(1,some 1),(3,some 2)] (R2 (AI TV (R3 TV)))))
 refine OL ?_
 obtain ⟨r1,h,q⟩:=bE q
 refine OL (cB H138 (s_t_l,op,a,b,k) (iuR [2,3]) false h rfl (R4 (AI NH (R2 (AJ (AI (R2 TV) (OL (OL (OL ?_)))))))))
 cases sE q
 refine AI rfl (E4 [(0,some 0),(1,some 1),(3,some 5)] (R2 (AI TV (R3 TV))))
theorem H112:HI C112 112:=hI Tryz.f112 rfl fun x=>V112 x.1 x.2.1 x.2.2.1 x.2.2.2.1 x.2.2.2.2.1 x.2.2.2.2.2.1 x.2.2.2.2.2.2
def f114 (s_t_l:NL) (s_was s_e n:Int):Option (Int×Int×Bu):=
 bif (s_e != 0) then
 Ac (f71 s_t_l s_was) fun q2_8=>
 some ((0:Int),s_e,s_was,s_e,q2_8)
 else
 some (n,(0:Int),s_was,s_e,s_t_l)
def C114:Con:=⟨NL×Bw,Int×Int×Bu,3,fun x=>[P0 0 0,.dat T0 x.2.2.2],fun x=>[(0,.cells [(.ptr 1 0),(.d T0 x.2.1),(.d T0 x.2.2.1)]),(1,.cells [(.osl 2)]),(2,.arr 156 T7 x.1)],fun x=>f114 x.1 x.2.1 x.2.2.1 x.2.2.2,fun y=>[.dat T0 y.1,.dat T0 y.2.1],fun y=>[(0,.cells [(.ptr 1 0),(.d T0 y.2.2.1),(.d T0 y.2.2.2.1)]),(1,.cells [(.osl 3)]),(3,.arr 156 T7 y.2.2.2.2)],4⟩
theorem V114 s_t_l s_was s_e n y (q:f114 s_t_l s_was s_e n=some y):VE Tryz.f114 3 C114 (s_t_l,s_was,s_e,n) y:=by
 unfold f114 at q
 refine OL (OL (OL (cI q (fun q=>?_) (fun q=>?_))))
 ·refine OL (EI (tU 0 8 (.alt 8 .done .done)) (EI [] (EI [] (AI rfl (AI TV ?_)))))
  obtain ⟨q2_8,h,q⟩:=bE q
  refine OL (cB H71 (s_t_l,s_was) (iuR [2,3]) false h rfl (AI rfl (AI NH (R2 (AJ (AI (R2 TV) (OL (EI (tU 0 6 .done) (EI [] (EI [] (AI rfl ?_)))))))))))
  cases sE q
  refine AI rfl (E4 [(0,some 0),(1,some 1),(3,some 5)] (R3 (AI TV (R3 TV))))
 cases sE q
 refine OL (AI rfl (E4 [(0,some 0),(1,some 1),(3,some 2)] (R3 (AI TV (R3 TV)))))
theorem H114:HI C114 114:=hI Tryz.f114 rfl fun x=>V114 x.1 x.2.1 x.2.2.1 x.2.2.2
def f72 (t_l:NL) (out:Int) (want:LI):Option Bu:=
 Ac (f110 t_l out want) fun r1=>
 bif (r1.1 != 0) then
 some ((0:Int),r1.1,r1.2)
 else
 Ac (f111 r1.2) fun r2=>
 Ac (f113 r2.2 r2.1 (0:Int) want) fun r3=>
 Ac (f112 r3.2.2.2 r3.2.1 r3.2.2.1 (3:Int) out r3.1 (0:Int)) fun r4=>
 Ac (f112 r4.2.2.2 r4.2.1 r4.2.2.1 (4:Int) r4.1 r4.1 (0:Int)) fun r5=>
 Ac (f112 r5.2.2.2 r5.2.1 r5.2.2.1 (10:Int) r5.1 (0:Int) (0:Int)) fun r6=>
 Ac (f114 r6.2.2.2 r6.2.1 r6.2.2.1 r6.1) fun r7=>
 some (r7.1,r7.2.1,r7.2.2.2.2)
def C72:Con:=⟨NL×Bc,Bu,2,fun x=>[P0 0 0,.dat T0 x.2.1,.dat T5 x.2.2],fun x=>[(0,.cells [(.osl 1)]),(1,.arr 156 T7 x.1)],fun x=>f72 x.1 x.2.1 x.2.2,fun y=>[.dat T0 y.1,.dat T0 y.2.1],fun y=>[(0,.cells [(.osl 2)]),(2,.arr 156 T7 y.2.2)],3⟩
theorem V72 t_l out want y (q:f72 t_l out want=some y):VE Tryz.f72 2 C72 (t_l,out,want) y:=by
 unfold f72 at q
 refine OL (OL (OL ?_))
 obtain ⟨r1,h,q⟩:=bE q
 refine OL (cB H110 (t_l,out,want) I2 false h rfl (R2 (AI NH (R2 (AJ (AI (R2 TV) (OL (cI q (fun q=>?_) (fun q=>?_)))))))))
 ·cases sE q
  refine OL (AI rfl (E4 [(0,some 0),(2,some 1)] (R3 (AI TV (R2 TV)))))
 refine OL ?_
 obtain ⟨r2,h,q⟩:=bE q
 refine OL (cB H111 r1.2 I2 false h rfl (AI NH (R2 (AJ (AI (R2 TV) (OL ?_))))))
 obtain ⟨r3,h,q⟩:=bE q
 refine OL (cB H113 (r2.2,r2.1,(0:Int),want) (iuR [7,1,2]) false h rfl (AI rfl (AI NH (R2 (AJ (AI (R3 TV) ?_))))))
 obtain ⟨r4,h,q⟩:=bE q
 refine OL (cB H112 (r3.2.2.2,r3.2.1,r3.2.2.1,(3:Int),out,r3.1,(0:Int)) (iuR [7,1,11]) false h rfl (R4 (AI NH (R2 (AJ (AI (R3 TV) (OL ?_)))))))
 obtain ⟨r5,h,q⟩:=bE q
 refine OL (cB H112 (r4.2.2.2,r4.2.1,r4.2.2.1,(4:Int),r4.1,r4.1,(0:Int)) (iuR [7,1,15]) false h rfl (R4 (AI NH (R2 (AJ (AI (R3 TV) ?_))))))
 obtain ⟨r6,h,q⟩:=bE q
 refine OL (cB H112 (r5.2.2.2,r5.2.1,r5.2.2.1,(10:Int),r5.1,(0:Int),(0:Int)) (iuR [7,1,19]) false h rfl (R4 (AI NH (R2 (AJ (AI (R3 TV) ?_))))))
 obtain ⟨r7,h,q⟩:=bE q
 refine OL (cB H114 (r6.2.2.2,r6.2.1,r6.2.2.1,r6.1) (iuR [7,1,23]) false h rfl (AI rfl (AI NH (R2 (AJ (AI (R3 TV) ?_))))))
 cases sE q
 refine AI rfl (E4 [(0,some 0),(2,some 26)] (R3 (AI TV (R2 TV))))
theorem H72:HI C72 72:=hI Tryz.f72 rfl fun x=>V72 x.1 x.2.1 x.2.2
def f73 (t_l:NL) (out:Int) (want:LI):Option Bu:=
 Ac (f110 t_l out want) fun r1=>
 bif (r1.1 != 0) then
 some ((0:Int),r1.1,r1.2)
 else
 Ac (f111 r1.2) fun r2=>
 Ac (f113 r2.2 r2.1 (0:Int) want) fun r3=>
 Ac (f112 r3.2.2.2 r3.2.1 r3.2.2.1 (3:Int) out r3.1 (0:Int)) fun r4=>
 Ac (f112 r4.2.2.2 r4.2.1 r4.2.2.1 (11:Int) r4.1 (0:Int) (4:Int)) fun r5=>
 Ac (f112 r5.2.2.2 r5.2.1 r5.2.2.1 (10:Int) r5.1 (0:Int) (0:Int)) fun r6=>
 Ac (f114 r6.2.2.2 r6.2.1 r6.2.2.1 r6.1) fun r7=>
 some (r7.1,r7.2.1,r7.2.2.2.2)
def C73:Con:=⟨NL×Bc,Bu,2,fun x=>[P0 0 0,.dat T0 x.2.1,.dat T5 x.2.2],fun x=>[(0,.cells [(.osl 1)]),(1,.arr 156 T7 x.1)],fun x=>f73 x.1 x.2.1 x.2.2,fun y=>[.dat T0 y.1,.dat T0 y.2.1],fun y=>[(0,.cells [(.osl 2)]),(2,.arr 156 T7 y.2.2)],3⟩
theorem V73 t_l out want y (q:f73 t_l out want=some y):VE Tryz.f73 2 C73 (t_l,out,want) y:=by
 unfold f73 at q
 refine OL (OL (OL ?_))
 obtain ⟨r1,h,q⟩:=bE q
 refine OL (cB H110 (t_l,out,want) I2 false h rfl (R2 (AI NH (R2 (AJ (AI (R2 TV) (OL (cI q (fun q=>?_) (fun q=>?_)))))))))
 ·cases sE q
  refine OL (AI rfl (E4 [(0,some 0),(2,some 1)] (R3 (AI TV (R2 TV)))))
 refine OL ?_
 obtain ⟨r2,h,q⟩:=bE q
 refine OL (cB H111 r1.2 I2 false h rfl (AI NH (R2 (AJ (AI (R2 TV) (OL ?_))))))
 obtain ⟨r3,h,q⟩:=bE q
 refine OL (cB H113 (r2.2,r2.1,(0:Int),want) (iuR [7,1,2]) false h rfl (AI rfl (AI NH (R2 (AJ (AI (R3 TV) ?_))))))
 obtain ⟨r4,h,q⟩:=bE q
 refine OL (cB H112 (r3.2.2.2,r3.2.1,r3.2.2.1,(3:Int),out,r3.1,(0:Int)) (iuR [7,1,11]) false h rfl (R4 (AI NH (R2 (AJ (AI (R3 TV) (OL ?_)))))))
 obtain ⟨r5,h,q⟩:=bE q
 refine OL (cB H112 (r4.2.2.2,r4.2.1,r4.2.2.1,(11:Int),r4.1,(0:Int),(4:Int)) (iuR [7,1,15]) false h rfl (R4 (AI NH (R2 (AJ (AI (R3 TV) ?_))))))
 obtain ⟨r6,h,q⟩:=bE q
 refine OL (cB H112 (r5.2.2.2,r5.2.1,r5.2.2.1,(10:Int),r5.1,(0:Int),(0:Int)) (iuR [7,1,19]) false h rfl (R4 (AI NH (R2 (AJ (AI (R3 TV) ?_))))))
 obtain ⟨r7,h,q⟩:=bE q
 refine OL (cB H114 (r6.2.2.2,r6.2.1,r6.2.2.1,r6.1) (iuR [7,1,23]) false h rfl (AI rfl (AI NH (R2 (AJ (AI (R3 TV) ?_))))))
 cases sE q
 refine AI rfl (E4 [(0,some 0),(2,some 26)] (R3 (AI TV (R2 TV))))
theorem H73:HI C73 73:=hI Tryz.f73 rfl fun x=>V73 x.1 x.2.1 x.2.2
def f74_j1 (class_:Int) (r1:Bool×LI×LI×NL):Option (Sum Unit Int):=
 bif (!r1.1) then
 some (Sum.inr (1:Int))
 else
 bif ((r1.2.1.length:Int) != 1) then
 some (Sum.inr (4:Int))
 else
 bif (decide (class_<0)) then
 some (Sum.inr (4:Int))
 else
 bif (decide (class_≥r1.2.2.1.length)) then
 some (Sum.inr (4:Int))
 else
 some (Sum.inl ())
def f74 (t_l:NL) (out class_:Int):Option Bu:=
 Ac (f46 t_l out) fun r1=>
 Ac (f74_j1 class_ r1) fun z2=>
 Ak z2 (fun z2a=>
 Ac (f75 r1.2.1 (0:Int)) fun r3=>
 Ac (f115 ([(4294967296:Int)]) (r1.2.2.1.length:Int)) fun r4=>
 Ad (0≤class_∧class_<r3.2.2.length)<|
 Ad (0≤class_∧class_<r4.length)<|
 Ac (f111 r1.2.2.2) fun r5=>
 Ac (f113 r5.2 r5.1 (0:Int) (List.set r3.2.2 (Int.toNat class_) (-4294967296:Int))) fun r6=>
 Ac (f113 r6.2.2.2 r6.2.1 r6.2.2.1 (List.set r4 (Int.toNat class_) (0:Int))) fun r7=>
 Ac (f112 r7.2.2.2 r7.2.1 r7.2.2.1 (4:Int) out r6.1 (0:Int)) fun r8=>
 Ac (f112 r8.2.2.2 r8.2.1 r8.2.2.1 (9:Int) r8.1 (0:Int) (0:Int)) fun r9=>
 Ac (f112 r9.2.2.2 r9.2.1 r9.2.2.1 (2:Int) out r9.1 (0:Int)) fun r10=>
 Ac (f112 r10.2.2.2 r10.2.1 r10.2.2.1 (2:Int) r10.1 r7.1 (0:Int)) fun r11=>
 Ac (f112 r11.2.2.2 r11.2.1 r11.2.2.1 (11:Int) r11.1 (0:Int) (1:Int)) fun r12=>
 Ac (f112 r12.2.2.2 r12.2.1 r12.2.2.1 (4:Int) r12.1 r7.1 (0:Int)) fun r13=>
 Ac (f112 r13.2.2.2 r13.2.1 r13.2.2.1 (9:Int) r13.1 (0:Int) (0:Int)) fun r14=>
 Ac (f114 r14.2.2.2 r14.2.1 r14.2.2.1 r14.1) fun r15=>
 some (r15.1,r15.2.1,r15.2.2.2.2)) (fun z2b=>
 some ((0:Int),z2b,r1.2.2.2))
def C74:Con:=⟨NL×Ax,Bu,2,fun x=>[P0 0 0,.dat T0 x.2.1,.dat T0 x.2.2],fun x=>[(0,.cells [(.osl 1)]),(1,.arr 156 T7 x.1)],fun x=>f74 x.1 x.2.1 x.2.2,fun y=>[.dat T0 y.1,.dat T0 y.2.1],fun y=>[(0,.cells [(.osl 2)]),(2,.arr 156 T7 y.2.2)],3⟩
theorem V74 t_l out class_ y (q:f74 t_l out class_=some y):VE Tryz.f74 2 C74 (t_l,out,class_) y:=by
 unfold f74 at q
 refine OL (OL ?_)
 obtain ⟨r1,h,q⟩:=bE q
 refine OL (cB H46 (t_l,out) I2 false h rfl (AI rfl (AI NH (R2 (AJ (AI (R2 TV) (OL ?_)))))))
 obtain ⟨z2,hz2,q⟩:=bE q
 refine OQ ⟨Sum.elim (fun z2a=>[(0,⟨[(0,P0 0 0),(1,.dat T0 out),(2,.dat T0 class_),(8,P0 2 0)],[(0,.cells [(.osl 1)]),(1,.arr 156 T7 r1.2.2.2),(2,.cells [(.osl 3),(.osl 4)]),(3,.arr 3 T0 r1.2.1),(4,.arr 26 T0 r1.2.2.1)],5⟩)]) (fun z2b=>[(1,⟨[(6,D0 0),(7,.dat T0 z2b)],[(0,.cells [(.osl 1)]),(1,.arr 156 T7 r1.2.2.2)],2⟩)]) z2,?_,?_⟩
 ·have q:=hz2
  clear hz2
  unfold f74_j1 at q
  refine OL (cI q (fun q=>?_) (fun q=>?_))
  ·cases sE q
   refine OL (E4 I2 (R3 (AI TV (R2 TV))))
  refine OL (cN q (fun q=>?_) (fun q=>?_))
  ·refine gY (cF (cN q (fun q=>?_) (fun q=>?_)))
   ·refine gY (gY (gY (gY (cF (cI q (fun q=>?_) (fun q=>?_))))))
    ·cases sE q
     refine OL (E4 I2 (R3 (AI TV (R2 TV))))
    cases sE q
    refine E4 (iuR [1,2,7,5,6]) (R3 (AI (R2 TV) (R5 TV)))
   refine gN (gN (gN (gN (cT (cT (OL ?_))))))
   cases sE q
   refine E4 I2 (R3 (AI TV (R2 TV)))
  refine gN (cT (gN (gN (gN (gN (gN (cT (cT (OL ?_)))))))))
  cases sE q
  refine E4 I2 (R3 (AI TV (R2 TV)))
 rcases z2 with z2a | z2b
 ·dsimp only [Ak] at q
  refine AI (OL ?_) TV
  obtain ⟨r3,h,q⟩:=bE q
  refine OL (cD H75 (r1.2.1,(0:Int)) h rfl (R2 (AI (fun _=>rfl) (R2 (AI TV (AI TV (OL (OL (OL ?_)))))))))
  obtain ⟨r4,h,q⟩:=bE q
  refine OL (cD H115 ([(4294967296:Int)],(r1.2.2.1.length:Int)) h rfl (R2 (AI (fun _=>rfl) (R2 (AI TV (AI TV (OL (gI q (fun q=>?_)))))))))
  refine OL (gI q (fun q=>?_))
  refine OL (OL ?_)
  obtain ⟨r5,h,q⟩:=bE q
  refine OL (cB H111 r1.2.2.2 I2 false h rfl (AI NH (R2 (AJ (AI (R2 TV) (OL ?_))))))
  obtain ⟨r6,hr6,q⟩:=bE q
  have hr6:C113.F (r5.2,r5.1,(0:Int),(List.set r3.2.2 (Int.toNat class_) (-4294967296:Int)))=some r6:=hr6
  refine OL (cB H113 _ (iuR [13,1,2]) false hr6 rfl (AI rfl (AI NH (R2 (AJ (AI (R3 TV) (OL ?_)))))))
  obtain ⟨r7,h,q⟩:=bE q
  refine OL (cB H113 (r6.2.2.2,r6.2.1,r6.2.2.1,(List.set r4 (Int.toNat class_) (0:Int))) (iuR [13,1,17]) false h rfl (AI rfl (AI NH (R2 (AJ (AI (R3 TV) (OL ?_)))))))
  obtain ⟨r8,h,q⟩:=bE q
  refine OL (cB H112 (r7.2.2.2,r7.2.1,r7.2.2.1,(4:Int),out,r6.1,(0:Int)) (iuR [13,1,21]) false h rfl (R4 (AI NH (R2 (AJ (AI (R3 TV) ?_))))))
  obtain ⟨r9,h,q⟩:=bE q
  refine OL (cB H112 (r8.2.2.2,r8.2.1,r8.2.2.1,(9:Int),r8.1,(0:Int),(0:Int)) (iuR [13,1,25]) false h rfl (R4 (AI NH (R2 (AJ (AI (R3 TV) (OL ?_)))))))
  obtain ⟨r10,h,q⟩:=bE q
  refine OL (cB H112 (r9.2.2.2,r9.2.1,r9.2.2.1,(2:Int),out,r9.1,(0:Int)) (iuR [13,1,29]) false h rfl (R4 (AI NH (R2 (AJ (AI (R3 TV) ?_))))))
  obtain ⟨r11,h,q⟩:=bE q
  refine OL (cB H112 (r10.2.2.2,r10.2.1,r10.2.2.1,(2:Int),r10.1,r7.1,(0:Int)) (iuR [13,1,33]) false h rfl (R4 (AI NH (R2 (AJ (AI (R3 TV) (OL ?_)))))))
  obtain ⟨r12,h,q⟩:=bE q
  refine OL (cB H112 (r11.2.2.2,r11.2.1,r11.2.2.1,(11:Int),r11.1,(0:Int),(1:Int)) (iuR [13,1,37]) false h rfl (R4 (AI NH (R2 (AJ (AI (R3 TV) ?_))))))
  obtain ⟨r13,h,q⟩:=bE q
  refine OL (cB H112 (r12.2.2.2,r12.2.1,r12.2.2.1,(4:Int),r12.1,r7.1,(0:Int)) (iuR [13,1,41]) false h rfl (R4 (AI NH (R2 (AJ (AI (R3 TV) ?_))))))
  obtain ⟨r14,h,q⟩:=bE q
  refine OL (cB H112 (r13.2.2.2,r13.2.1,r13.2.2.1,(9:Int),r13.1,(0:Int),(0:Int)) (iuR [13,1,45]) false h rfl (R4 (AI NH (R2 (AJ (AI (R3 TV) ?_))))))
  obtain ⟨r15,h,q⟩:=bE q
  refine OL (cB H114 (r14.2.2.2,r14.2.1,r14.2.2.1,r14.1) (iuR [13,1,49]) false h rfl (AI rfl (AI NH (R2 (AJ (AI (R3 TV) ?_))))))
  cases sE q
  refine AI rfl (E4 [(0,some 0),(2,some 52)] (R3 (AI TV (R2 TV))))
 dsimp only [Ak] at q
 refine AI ?_ TV
 cases sE q
 refine AI rfl (E4 [(0,some 0),(2,some 1)] (R3 (AI TV (R2 TV))))
theorem H74:HI C74 74:=hI Tryz.f74 rfl fun x=>V74 x.1 x.2.1 x.2.2
def f44 (t_l:NL) (kind out:Int) (e:LI×LI×Int):Option Bu:=
 bif (kind==1) then
 Ac (f72 t_l out e.2.1) fun r1=>
 some (r1.1,r1.2.1,r1.2.2)
 else
 bif (kind==2) then
 Ac (f73 t_l out e.2.1) fun r2=>
 some (r2.1,r2.2.1,r2.2.2)
 else
 Ac (f74 t_l out e.2.2) fun r3=>
 some (r3.1,r3.2.1,r3.2.2)
def C44:Con:=⟨NL×Int×Int×(LI×LI×Int),Bu,2,fun x=>[P0 0 0,.dat T0 x.2.1,.dat T0 x.2.2.1,.dat T2 x.2.2.2],fun x=>[(0,.cells [(.osl 1)]),(1,.arr 156 T7 x.1)],fun x=>f44 x.1 x.2.1 x.2.2.1 x.2.2.2,fun y=>[.dat T0 y.1,.dat T0 y.2.1],fun y=>[(0,.cells [(.osl 2)]),(2,.arr 156 T7 y.2.2)],3⟩
theorem V44 t_l kind out e y (q:f44 t_l kind out e=some y):VE Tryz.f44 2 C44 (t_l,kind,out,e) y:=by
 unfold f44 at q
 refine OL (OL (OL (OL (cI q (fun q=>?_) (fun q=>?_)))))
 ·refine OL ?_
  obtain ⟨r1,h,q⟩:=bE q
  refine OL (cB H72 (t_l,out,e.2.1) I2 false h rfl (R2 (AI NH (R2 (AJ (AI (R2 TV) ?_))))))
  cases sE q
  refine AI rfl (E4 [(0,some 0),(2,some 5)] (R3 (AI TV (R2 TV))))
 refine OL (cI q (fun q=>?_) (fun q=>?_))
 ·refine OL ?_
  obtain ⟨r2,h,q⟩:=bE q
  refine OL (cB H73 (t_l,out,e.2.1) I2 false h rfl (R2 (AI NH (R2 (AJ (AI (R2 TV) ?_))))))
  cases sE q
  refine AI rfl (E4 [(0,some 0),(2,some 5)] (R3 (AI TV (R2 TV))))
 refine OL ?_
 obtain ⟨r3,h,q⟩:=bE q
 refine OL (cB H74 (t_l,out,e.2.2) I2 false h rfl (R2 (AI NH (R2 (AJ (AI (R2 TV) ?_))))))
 cases sE q
 refine AI rfl (E4 [(0,some 0),(2,some 5)] (R3 (AI TV (R2 TV))))
theorem H44:HI C44 44:=hI Tryz.f44 rfl fun x=>V44 x.1 x.2.1 x.2.2.1 x.2.2.2
def f141_j3 (a:Al) (d:LI):Option Bool:=
 Ac (f119 (a.1,a.2)) fun r9=>
 bif (!r9) then
 some true
 else
 Ac (f67 d) fun r10=>
 some (!r10)
def f141_j2 (a:Al) (d:LI):Option (Sum Unit Unit):=
 Ac (f141_j3 a d) fun z8=>
 bif z8 then
 some (Sum.inr ())
 else
 some (Sum.inl ())
def f141_j6 (a:Al) (r11:Bc):Option Bool:=
 bif (r11.1 != 0) then
 some true
 else
 Ac (f120 r11.2 a.1) fun r18=>
 some (!r18)
def f141_j5 (a:Al) (r11:Bc):Option (Sum Unit Unit):=
 Ac (f141_j6 a r11) fun z17=>
 bif z17 then
 some (Sum.inr ())
 else
 some (Sum.inl ())
def f141_l7 (a:Al) (r20:LI) (go:Bc→Option LI) (v51:Int) (l4:LI):Option LI:=
 bif (decide (v51<a.2.length)) then
 Ad (0≤v51∧v51<a.2.length)<|
 Ad (0≤v51∧v51<r20.length)<|
 Ad (0≤v51∧v51<r20.length)<|
 Ad (0≤(rd 0 r20 v51)∧(rd 0 r20 v51)<l4.length)<|
 Ac (f33 (rd 0 l4 (rd 0 r20 v51)) (rd 0 a.2 v51)) fun q11_15=>
 Ad (0≤(rd 0 r20 v51)∧(rd 0 r20 v51)<l4.length)<|
 go ((i64.wrap (v51+1)),(List.set l4 (Int.toNat (rd 0 r20 v51)) q11_15))
 else
 some l4
def f141 (a:Al) (d:LI):Option Bl:=
 Ac (f141_j2 a d) fun z5=>
 Ak z5 (fun z5a=>
 Ac (f179 d a.1) fun r11=>
 Ac (f141_j5 a r11) fun z15=>
 Ak z15 (fun z15a=>
 Ac (f75 d (0:Int)) fun r19=>
 Ac (f180 d a.1) fun r20=>
 Ac (Ag (fun go x=>f141_l7 a r20 go x.1 x.2) Ah ((0:Int),r19.2.2)) fun z21=>
 some ((0:Int),r19.2.1,z21)) (fun z15b=>
 some ((4:Int),[],[]))) (fun z5b=>
 some ((1:Int),[],[]))
def C141:Con:=⟨Al×LI,Bl,0,fun x=>[.dat T8 x.1,.dat T5 x.2],NX,fun x=>f141 x.1 x.2,fun y=>[.raw true [(.osl 0),(.osl 1)],.dat T0 y.1],fun y=>[(0,.arr 3 T0 y.2.1),(1,.arr 26 T0 y.2.2)],2⟩
theorem V141 a d y (q:f141 a d=some y):VC Tryz.f141 C141 (a,d) y:=by
 unfold f141 at q
 refine OL ?_
 obtain ⟨z5,hz5,q⟩:=bE q
 let e0:LE:=fun zz=>(1,.dat T5 d)::(2,P0 0 0)::(4,P0 1 0)::zz
 let h1:LH:=fun zz=>(0,.cells [(.d T5 a.1),(.d T5 a.2)])::(1,.cells [N0,N0])::zz
 refine OQ ⟨Sum.elim (fun z5a=>[(0,⟨e0 [],h1 [],2⟩)]) (fun z5b=>[(1,⟨[(4,P0 0 0),(5,D0 1)],[(0,.cells [N0,N0])],1⟩)]) z5,?_,?_⟩
 ·have q:=hz5
  clear hz5
  unfold f141_j2 at q
  obtain ⟨z8,hz8,q⟩:=bE q
  refine OQ ⟨[(0,⟨e0 [(20,.dat .bool z8)],h1 [],2⟩)],?_,?_⟩
  ·have q:=hz8
   clear hz8
   unfold f141_j3 at q
   obtain ⟨r9,h,q⟩:=bE q
   refine OL (cA H119 (a.1,a.2) h rfl (R2 (K0 (cN q (fun q=>?_) (fun q=>?_)))))
   ·refine gY ?_
    obtain ⟨r10,h,q⟩:=bE q
    refine OL (cA H67 d h rfl (AI rfl (K0 (gY (cF ?_)))))
    cases sE q
    refine E4 I2 (R3 (AI (R2 TV) (R2 TV)))
   refine gN (gN (cT ?_))
   cases sE q
   refine E4 I2 (R3 (AI (R2 TV) (R2 TV)))
  refine AI (cI q (fun q=>?_) (fun q=>?_)) TV
  ·refine OL (OL ?_)
   cases sE q
   refine E4 (iuR [2]) (R2 (AJ (AI rfl TV)))
  cases sE q
  refine E4 I2 (R2 (AI (R2 TV) (R2 TV)))
 rcases z5 with z5a | z5b
 ·dsimp only [Ak] at q
  refine AI (OL ?_) TV
  obtain ⟨r11,h,q⟩:=bE q
  refine OL (cA H179 (d,a.1) h rfl (R2 (K0 ?_)))
  obtain ⟨z15,hz15,q⟩:=bE q
  refine OQ ⟨Sum.elim (fun z15a=>[(0,⟨e0 [],h1 [],2⟩)]) (fun z15b=>[(1,⟨[(4,P0 0 0),(5,D0 4)],[(0,.cells [N0,N0])],1⟩)]) z15,?_,?_⟩
  ·have q:=hz15
   clear hz15
   unfold f141_j5 at q
   obtain ⟨z17,hz17,q⟩:=bE q
   refine OQ ⟨[(0,⟨e0 [(37,.dat .bool z17)],h1 [],2⟩)],?_,?_⟩
   ·have q:=hz17
    clear hz17
    unfold f141_j6 at q
    refine cN q (fun q=>?_) (fun q=>?_)
    ·refine gY (gY (gY ?_))
     obtain ⟨r18,h,q⟩:=bE q
     refine OL (cD H120 (r11.2,a.1) h rfl (R2 (AI (fun _=>rfl) (R2 (AI TV (AI TV (gY (cF ?_))))))))
     cases sE q
     refine E4 I2 (R3 (AI (R2 TV) (R2 TV)))
    refine gN (gN (gN (gN (cT ?_))))
    cases sE q
    refine E4 I2 (R3 (AI (R2 TV) (R2 TV)))
   refine AI (cI q (fun q=>?_) (fun q=>?_)) TV
   ·refine OL (OL ?_)
    cases sE q
    refine E4 (iuR [2]) (R2 (AJ (AI rfl TV)))
   cases sE q
   refine E4 I2 (R2 (AI (R2 TV) (R2 TV)))
  rcases z15 with z15a | z15b
  ·dsimp only [Ak] at q
   refine AI (OL ?_) TV
   obtain ⟨r19,h,q⟩:=bE q
   refine OL (cA H75 (d,(0:Int)) h rfl (R2 (K0 (OL (OL ?_)))))
   obtain ⟨r20,h,q⟩:=bE q
   refine OL (cA H180 (d,a.1) h rfl (R2 (K0 (OL (OL ?_)))))
   obtain ⟨z21,h,q⟩:=bE q
   refine lJ h (fun x=>⟨[(4,P0 0 0),(8,P0 1 0),(10,O0 2),(49,.dat T5 a.2),(50,.dat T0 (a.2.length:Int)),(51,.dat T0 x.1)],[(0,.cells [N0,N0]),(1,.cells [(.osl 3),(.osl 4)]),(2,.arr 3 T0 r20),(3,.arr 3 T0 r19.2.1),(4,.arr 26 T0 x.2)],5⟩) (fun z=>[(2,⟨[(4,P0 0 0),(8,P0 1 0)],[(0,.cells [N0,N0]),(1,.cells [(.osl 2),(.osl 3)]),(2,.arr 3 T0 r19.2.1),(3,.arr 26 T0 z)],4⟩)]) (E4 (iuR [2,5,6,3,4]) (R4 (AI (R3 TV) (R5 TV)))) (fun m=>An (fun v51=>fun l4 z q=>?_)) ?_
   ·have q:f141_l7 a r20 _ v51 l4=some z:=q
    unfold f141_l7 at q
    refine OL (OL (cI q (fun q=>?_) (fun q=>?_)))
    ·refine OL (OL (gI q (fun q=>?_)))
     refine EI (tU 0 15 (.alt 15 (.take 16 (.alt 17 .done .done)) .done)) (EI [(17,[4])] (EI [] (AI rfl (gI q (fun q=>?_)))))
     refine gI q (fun q=>?_)
     refine gI q (fun q=>?_)
     refine AI TV ?_
     obtain ⟨q11_15,h,q⟩:=bE q
     refine OL (cA H33 ((rd 0 l4 (rd 0 r20 v51)),(rd 0 a.2 v51)) h rfl (R2 (K0 (gI q (fun q=>?_)))))
     refine AI TV (OL (EI ((i64.wrap (v51+1)),(List.set l4 (Int.toNat (rd 0 r20 v51)) q11_15)) (AI q (E4 I5 (R4 (AI (R3 TV) (R5 TV)))))))
    cases sE q
    refine E4 (iuR [1,2,4,5]) (AI rfl (AI (R2 TV) (R4 TV)))
   refine AI (OL (OL ?_)) TV
   cases sE q
   refine AI rfl (E4 (iuR [3,4]) (R2 (AJ (R2 TV))))
  dsimp only [Ak] at q
  refine AI ?_ TV
  cases sE q
  refine AI rfl (E4 (iuR [0,0]) (R2 (AJ (R2 TV))))
 dsimp only [Ak] at q
 refine AI ?_ TV
 cases sE q
 refine AI rfl (E4 (iuR [0,0]) (R2 (AJ (R2 TV))))
theorem H141:HI C141 141:=hI Tryz.f141 rfl fun x=>V141 x.1 x.2
def f143 (t:Al) (e:Int) (d:LI):Option Bl:=
 bif (e != 0) then
 some (e,[],[])
 else
 Ac (f141 (t.1,t.2) d) fun r1=>
 some (r1.1,r1.2.1,r1.2.2)
def C143:Con:=⟨Al×Bc,Bl,0,fun x=>[.dat T8 x.1,.dat T0 x.2.1,.dat T5 x.2.2],NX,fun x=>f143 x.1 x.2.1 x.2.2,fun y=>[.raw true [(.osl 0),(.osl 1)],.dat T0 y.1],fun y=>[(0,.arr 3 T0 y.2.1),(1,.arr 26 T0 y.2.2)],2⟩
theorem V143 t e d y (q:f143 t e d=some y):VC Tryz.f143 C143 (t,e,d) y:=by
 unfold f143 at q
 refine OL (OL (OL (cI q (fun q=>?_) (fun q=>?_))))
 ·refine OL (OL ?_)
  cases sE q
  refine AI rfl (E4 (iuR [0,0]) (R2 (AJ (R2 TV))))
 refine OL ?_
 obtain ⟨r1,h,q⟩:=bE q
 refine OL (cA H141 ((t.1,t.2),d) h rfl (R3 (K0 (OL ?_))))
 cases sE q
 refine AI rfl (E4 (iuR [3,4]) (R2 (AJ (R2 TV))))
theorem H143:HI C143 143:=hI Tryz.f143 rfl fun x=>V143 x.1 x.2.1 x.2.2
def f145 (a b:Al) (first:Bool):Option Bl:=
 none
def C145:Con:=⟨Al×Al×Bool,Bl,0,fun x=>[.dat T8 x.1,.dat T8 x.2.1,.dat .bool x.2.2],NX,fun x=>f145 x.1 x.2.1 x.2.2,fun y=>[.raw true [(.osl 0),(.osl 1)],.dat T0 y.1],fun y=>[(0,.arr 3 T0 y.2.1),(1,.arr 26 T0 y.2.2)],2⟩
theorem V145 a b first y (q:f145 a b first=some y):VC Tryz.f145 C145 (a,b,first) y:=by
 unfold f145 at q
 exact nomatch q
theorem H145:HI C145 145:=hI Tryz.f145 rfl fun x=>V145 x.1 x.2.1 x.2.2
def f147_l1 (g:Al) (d:LI) (Aj:Int) (q8_9:Bl) (go:Bc→Option LI) (v23:Int) (l4:LI):Option LI:=
 bif (decide (v23<q8_9.2.2.length)) then
 Ac (f184 d v23) fun q8_9=>
 Ad (0≤Aj∧Aj≤q8_9.2.length)<|
 Ad (0≤(i64.wrap (Aj+1))∧(i64.wrap (Aj+1))≤q8_9.2.length)<|
 Ad ((List.length ([]:LI)+List.length (List.take (Int.toNat Aj) q8_9.2))*8≤140737488355328)<|
 Ad ((List.length (([]:LI)++(List.take (Int.toNat Aj) q8_9.2))+List.length (List.drop (Int.toNat (i64.wrap (Aj+1))) q8_9.2))*8≤140737488355328)<|
 Ac (f185 g.1 ((([]:LI)++(List.take (Int.toNat Aj) q8_9.2))++(List.drop (Int.toNat (i64.wrap (Aj+1))) q8_9.2))) fun q6_10=>
 Ad (0≤q6_10.1∧q6_10.1<g.2.length)<|
 Ad (0≤v23∧v23<l4.length)<|
 go ((i64.wrap (v23+1)),(List.set l4 (Int.toNat v23) (rd 0 g.2 q6_10.1)))
 else
 some l4
def f147 (g:Al) (d:LI) (Aj:Int):Option Al:=
 Ac (f75 d (0:Int)) fun q8_9=>
 Ac (Ag (fun go x=>f147_l1 g d Aj q8_9 go x.1 x.2) Ah ((0:Int),q8_9.2.2)) fun z2=>
 some (q8_9.2.1,z2)
def C147:Con:=⟨Al×LI×Int,Al,0,fun x=>[.dat T8 x.1,.dat T5 x.2.1,.dat T0 x.2.2],NX,fun x=>f147 x.1 x.2.1 x.2.2,fun y=>[.raw true [(.osl 0),(.osl 1)]],fun y=>[(0,.arr 3 T0 y.1),(1,.arr 26 T0 y.2)],2⟩
theorem V147 g d Aj y (q:f147 g d Aj=some y):VC Tryz.f147 C147 (g,d,Aj) y:=by
 unfold f147 at q
 refine OL (OL ?_)
 obtain ⟨q8_9,hq8_9,q⟩:=bE q
 refine OL (cA H75 (d,(0:Int)) hq8_9 rfl (R2 (K0 (OL (OL (OL ?_))))))
 obtain ⟨z2,h,q⟩:=bE q
 refine lJ h (fun x=>⟨[(1,.dat T5 d),(2,.dat T0 Aj),(3,P0 0 0),(6,P0 1 0),(7,P0 2 0),(22,.dat T0 (q8_9.2.2.length:Int)),(23,.dat T0 x.1)],[(0,.cells [(.d T5 g.1),(.d T5 g.2)]),(1,.cells [N0,N0]),(2,.cells [(.osl 3),(.osl 4)]),(3,.arr 3 T0 q8_9.2.1),(4,.arr 26 T0 x.2)],5⟩) (fun z=>[(2,⟨[(6,P0 0 0),(7,P0 1 0)],[(0,.cells [N0,N0]),(1,.cells [(.osl 2),(.osl 3)]),(2,.arr 3 T0 q8_9.2.1),(3,.arr 26 T0 z)],4⟩)]) (E4 (iuR [1,2,5,3,4]) (R5 (AI (R3 TV) (R5 TV)))) (fun m=>An (fun v23=>fun l4 z q=>?_)) ?_
 ·have q:f147_l1 g d Aj q8_9 _ v23 l4=some z:=q
  unfold f147_l1 at q
  refine OL (OL (cI q (fun q=>?_) (fun q=>?_)))
  ·refine OL (OL (OL ?_))
   obtain ⟨q8_9,h,q⟩:=bE q
   refine OL (cA H184 (d,v23) h rfl (R2 (K0 (OL (EI (tU 1 3 (tU 5 4 (.alt 0 (.alt 4 (.alt 9 (.take 10 .done) .done) .done) .done))) (EI [] (EI [5] (AI rfl (gI q (fun q=>?_))))))))))
   refine gI q (fun q=>?_)
   refine AI TV (OL (AI TV (OL (gI q (fun q=>?_)))))
   refine AI TV (OL (gI q (fun q=>?_)))
   refine OL ?_
   obtain ⟨q6_10,h,q⟩:=bE q
   refine OL (cD H185 (g.1,((([]:LI)++(List.take (Int.toNat Aj) q8_9.2))++(List.drop (Int.toNat (i64.wrap (Aj+1))) q8_9.2))) h rfl (R2 (AI (fun _=>rfl) (R2 (AI TV (AI TV (EI (tU 0 9 (.alt 9 .done .done)) (EI [] (EI [] (AI rfl (gI q (fun q=>?_))))))))))))
   refine gI q (fun q=>?_)
   refine AI TV (OL (EI ((i64.wrap (v23+1)),(List.set l4 (Int.toNat v23) (rd 0 g.2 q6_10.1))) (AI q (E4 I5 (R5 (AI (R3 TV) (R5 TV)))))))
  cases sE q
  refine E4 (iuR [2,3,4,5]) (AI rfl (AI (R2 TV) (R4 TV)))
 refine AI (OL (OL ?_)) TV
 cases sE q
 refine AI rfl (E4 (iuR [3,4]) (AI rfl (AJ (R2 TV))))
theorem H147:HI C147 147:=hI Tryz.f147 rfl fun x=>V147 x.1 x.2.1 x.2.2
def f217 (is:Bool) (yes no:Int):Option Int:=
 bif is then
 some yes
 else
 some no
def C217:Con:=⟨Bool×Ax,Int,0,fun x=>[.dat .bool x.1,.dat T0 x.2.1,.dat T0 x.2.2],NX,fun x=>f217 x.1 x.2.1 x.2.2,fun y=>[.dat T0 y],NX,0⟩
theorem V217 is yes no y (q:f217 is yes no=some y):VC Tryz.f217 C217 (is,yes,no) y:=by
 unfold f217 at q
 refine OL (OL (OL (cI q (fun q=>?_) (fun q=>?_))))
 ·cases sE q
  refine OL (AI rfl (E4 [] (R2 (AI TV TV))))
 cases sE q
 refine OL (AI rfl (E4 [] (R2 (AI TV TV))))
theorem H217:HI C217 217:=hI Tryz.f217 rfl fun x=>V217 x.1 x.2.1 x.2.2
def f218 (a b:Int):Option Int:=
 bif (decide (a<b)) then
 some (-1:Int)
 else
 bif (decide (a>b)) then
 some (1:Int)
 else
 some (0:Int)
def C218:Con:=⟨Ax,Int,0,fun x=>[.dat T0 x.1,.dat T0 x.2],NX,fun x=>f218 x.1 x.2,fun y=>[.dat T0 y],NX,0⟩
theorem V218 a b y (q:f218 a b=some y):VC Tryz.f218 C218 (a,b) y:=by
 unfold f218 at q
 refine OL (OL (OL (cI q (fun q=>?_) (fun q=>?_))))
 ·cases sE q
  refine OL (AI rfl (E4 [] (R2 (AI TV TV))))
 refine OL (cI q (fun q=>?_) (fun q=>?_))
 ·cases sE q
  refine OL (AI rfl (E4 [] (R2 (AI TV TV))))
 cases sE q
 refine OL (AI rfl (E4 [] (R2 (AI TV TV))))
theorem H218:HI C218 218:=hI Tryz.f218 rfl fun x=>V218 x.1 x.2
def f187_j1 (x_:Int):Option Bool:=
 bif (decide (x_>(-4294967296:Int))) then
 some (decide (x_<4294967296))
 else
 some false
def f187 (kind x_:Int):Option Ax:=
 Ac (f187_j1 x_) fun z1=>
 bif (kind==1) then
 Ac (f217 (decide (x_>0)) (4294967296:Int) (0:Int)) fun r2=>
 some (r2,(0:Int))
 else
 bif (kind==2) then
 Ac (f217 (decide (x_>0)) (4294967296:Int) (536870912:Int)) fun r3=>
 some (r3,(0:Int))
 else
 bif (kind==3) then
 Ac (f217 z1 (4294967296:Int) (0:Int)) fun r4=>
 some (r4,(0:Int))
 else
 bif (kind==4) then
 Ac (f218 x_ (0:Int)) fun r5=>
 some ((i64.wrap (r5*4294967296)),(0:Int))
 else
 bif (kind==5) then
 Ac (f217 z1 (2147483648:Int) (0:Int)) fun r6=>
 some (r6,(0:Int))
 else
 some ((0:Int),(1:Int))
def C187:Con:=⟨Ax,Ax,0,fun x=>[.dat T0 x.1,.dat T0 x.2],NX,fun x=>f187 x.1 x.2,fun y=>[.dat T0 y.1,.dat T0 y.2],NX,0⟩
theorem V187 kind x_ y (q:f187 kind x_=some y):VC Tryz.f187 C187 (kind,x_) y:=by
 unfold f187 at q
 refine OL ?_
 obtain ⟨z1,hz1,q⟩:=bE q
 refine OQ ⟨[(0,⟨[(0,.dat T0 kind),(1,.dat T0 x_),(6,.dat .bool z1)],[],0⟩)],?_,?_⟩
 ·have q:=hz1
  clear hz1
  unfold f187_j1 at q
  refine cI q (fun q=>?_) (fun q=>?_)
  ·refine gX (cT ?_)
   cases sE q
   refine E4 [] (R4 (AI TV TV))
  refine gM (cF ?_)
  cases sE q
  refine E4 [] (R4 (AI TV TV))
 refine AI (OL (OL (OL (cI q (fun q=>?_) (fun q=>?_))))) TV
 ·refine OL ?_
  obtain ⟨r2,h,q⟩:=bE q
  refine OL (cA H217 ((decide (x_>0)),(4294967296:Int),(0:Int)) h rfl (R3 (K0 ?_)))
  cases sE q
  refine AI rfl (E4 [] (R3 (AI TV TV)))
 refine OL (cI q (fun q=>?_) (fun q=>?_))
 ·refine OL ?_
  obtain ⟨r3,h,q⟩:=bE q
  refine OL (cA H217 ((decide (x_>0)),(4294967296:Int),(536870912:Int)) h rfl (R3 (K0 ?_)))
  cases sE q
  refine AI rfl (E4 [] (R3 (AI TV TV)))
 refine OL (cI q (fun q=>?_) (fun q=>?_))
 ·refine OL ?_
  obtain ⟨r4,h,q⟩:=bE q
  refine OL (cA H217 (z1,(4294967296:Int),(0:Int)) h rfl (R3 (K0 ?_)))
  cases sE q
  refine AI rfl (E4 [] (R3 (AI TV TV)))
 refine OL (cI q (fun q=>?_) (fun q=>?_))
 ·refine OL ?_
  obtain ⟨r5,h,q⟩:=bE q
  refine OL (cA H218 (x_,(0:Int)) h rfl (R2 (K0 ?_)))
  cases sE q
  refine AI rfl (E4 [] (R3 (AI TV TV)))
 refine OL (cI q (fun q=>?_) (fun q=>?_))
 ·refine OL ?_
  obtain ⟨r6,h,q⟩:=bE q
  refine OL (cA H217 (z1,(2147483648:Int),(0:Int)) h rfl (R3 (K0 ?_)))
  cases sE q
  refine AI rfl (E4 [] (R3 (AI TV TV)))
 cases sE q
 refine OL (AI rfl (E4 [] (R3 (AI TV TV))))
theorem H187:HI C187 187:=hI Tryz.f187 rfl fun x=>V187 x.1 x.2
def f148_j3 (kind:Int) (t g:Al):Option Bool:=
 Ac (f186 kind) fun r13=>
 bif (!r13) then
 some true
 else
 Ac (f119 (t.1,t.2)) fun r14=>
 bif (!r14) then
 some true
 else
 Ac (f119 (g.1,g.2)) fun r15=>
 some (!r15)
def f148_j2 (kind:Int) (t g:Al):Option (Sum Unit Int):=
 Ac (f148_j3 kind t g) fun z12=>
 bif z12 then
 some (Sum.inr (1:Int))
 else
 Ac (f120 t.1 g.1) fun r16=>
 bif (!r16) then
 some (Sum.inr (4:Int))
 else
 some (Sum.inl ())
def f148_l4 (kind:Int) (t g:Al) (go:Bc→Option LI) (v41:Int) (l4:LI):Option LI:=
 bif (decide (v41<t.2.length)) then
 Ad (0≤v41∧v41<t.2.length)<|
 Ac (f187 kind (rd 0 t.2 v41)) fun q10_11=>
 Ad (0≤v41∧v41<g.2.length)<|
 Ac (f34 (rd 0 g.2 v41) q10_11.1) fun q10_9=>
 Ad (0≤v41∧v41<l4.length)<|
 go ((i64.wrap (v41+1)),(List.set l4 (Int.toNat v41) q10_9))
 else
 some l4
def f148 (kind:Int) (t g:Al):Option Bl:=
 Ac (f148_j2 kind t g) fun z8=>
 Ak z8 (fun z8a=>
 Ac (f118 (g.1,g.2)) fun r17=>
 Ac (Ag (fun go x=>f148_l4 kind t g go x.1 x.2) Ah ((0:Int),r17.2)) fun z19=>
 some ((0:Int),r17.1,z19)) (fun z8b=>
 some (z8b,[],[]))
def C148:Con:=⟨Int×Al×Al,Bl,0,fun x=>[.dat T0 x.1,.dat T8 x.2.1,.dat T8 x.2.2],NX,fun x=>f148 x.1 x.2.1 x.2.2,fun y=>[.raw true [(.osl 0),(.osl 1)],.dat T0 y.1],fun y=>[(0,.arr 3 T0 y.2.1),(1,.arr 26 T0 y.2.2)],2⟩
theorem V148 kind t g y (q:f148 kind t g=some y):VC Tryz.f148 C148 (kind,t,g) y:=by
 unfold f148 at q
 refine OL ?_
 obtain ⟨z8,hz8,q⟩:=bE q
 let h0:LH:=fun zz=>(0,.cells [(.d T5 t.1),(.d T5 t.2)])::(1,.cells [(.d T5 g.1),(.d T5 g.2)])::(2,.cells [N0,N0])::zz
 refine OQ ⟨Sum.elim (fun z8a=>[(0,⟨[(0,.dat T0 kind),(4,P0 0 0),(5,P0 1 0),(6,P0 2 0)],h0 [],3⟩)]) (fun z8b=>[(1,⟨[(6,P0 0 0),(7,.dat T0 z8b)],[(0,.cells [N0,N0])],1⟩)]) z8,?_,?_⟩
 ·have q:=hz8
  clear hz8
  unfold f148_j2 at q
  obtain ⟨z12,hz12,q⟩:=bE q
  refine OQ ⟨[(0,⟨[(0,.dat T0 kind),(4,P0 0 0),(5,P0 1 0),(6,P0 2 0),(13,.dat .bool z12)],h0 [],3⟩)],?_,?_⟩
  ·have q:=hz12
   clear hz12
   unfold f148_j3 at q
   obtain ⟨r13,h,q⟩:=bE q
   refine OL (cA H186 kind h rfl (AI rfl (K0 (cN q (fun q=>?_) (fun q=>?_)))))
   ·refine gY ?_
    obtain ⟨r14,h,q⟩:=bE q
    refine OL (cA H119 (t.1,t.2) h rfl (R2 (K0 (gY (cF (cN q (fun q=>?_) (fun q=>?_)))))))
    ·refine gY ?_
     obtain ⟨r15,h,q⟩:=bE q
     refine OL (cA H119 (g.1,g.2) h rfl (R2 (K0 (gY (cF ?_)))))
     cases sE q
     refine E4 I3 (R3 (AI (R3 TV) (R3 TV)))
    refine gN (gN (cT ?_))
    cases sE q
    refine E4 I3 (R3 (AI (R3 TV) (R3 TV)))
   refine gN (gN (cT (gN (gN (gN (cT ?_))))))
   cases sE q
   refine E4 I3 (R3 (AI (R3 TV) (R3 TV)))
  refine AI (cI q (fun q=>?_) (fun q=>?_)) TV
  ·refine OL (OL ?_)
   cases sE q
   refine E4 (iuR [3]) (R2 (AJ (AI rfl TV)))
  refine OL ?_
  obtain ⟨r16,h,q⟩:=bE q
  refine OL (cA H120 (t.1,g.1) h rfl (R2 (K0 (cI q (fun q=>?_) (fun q=>?_)))))
  ·refine OL (OL ?_)
   cases sE q
   refine E4 (iuR [3]) (R2 (AJ (AI rfl TV)))
  cases sE q
  refine E4 I3 (R2 (AI (R3 TV) (R3 TV)))
 rcases z8 with z8a | z8b
 ·dsimp only [Ak] at q
  refine AI (OL ?_) TV
  obtain ⟨r17,h,q⟩:=bE q
  refine OL (cA H118 (g.1,g.2) h rfl (R2 (K0 (OL (OL (OL ?_))))))
  obtain ⟨z19,h,q⟩:=bE q
  refine lJ h (fun x=>⟨[(0,.dat T0 kind),(5,P0 0 0),(6,P0 1 0),(8,P0 2 0),(39,.dat T5 t.2),(40,.dat T0 (t.2.length:Int)),(41,.dat T0 x.1)],[(0,.cells [(.d T5 g.1),(.d T5 g.2)]),(1,.cells [N0,N0]),(2,.cells [(.osl 3),(.osl 4)]),(3,.arr 3 T0 r17.1),(4,.arr 26 T0 x.2)],5⟩) (fun z=>[(3,⟨[(6,P0 0 0),(8,P0 1 0)],[(0,.cells [N0,N0]),(1,.cells [(.osl 2),(.osl 3)]),(2,.arr 3 T0 r17.1),(3,.arr 26 T0 z)],4⟩)]) (E4 (iuR [2,3,6,4,5]) (R5 (AI (R3 TV) (R5 TV)))) (fun m=>An (fun v41=>fun l4 z q=>?_)) ?_
  ·have q:f148_l4 kind t g _ v41 l4=some z:=q
   unfold f148_l4 at q
   refine OL (OL (cI q (fun q=>?_) (fun q=>?_)))
   ·refine OL (OL (gI q (fun q=>?_)))
    refine OL ?_
    obtain ⟨q10_11,h,q⟩:=bE q
    refine OL (cA H187 (kind,(rd 0 t.2 v41)) h rfl (R2 (K0 (EI (tU 0 9 (.alt 9 (.take 10 (.alt 11 .done .done)) .done)) (EI [] (EI [] (AI rfl (gI q (fun q=>?_)))))))))
    refine AI TV ?_
    obtain ⟨q10_9,h,q⟩:=bE q
    refine OL (cA H34 ((rd 0 g.2 v41),q10_11.1) h rfl (R2 (K0 (gI q (fun q=>?_)))))
    refine AI TV (OL (EI ((i64.wrap (v41+1)),(List.set l4 (Int.toNat v41) q10_9)) (AI q (E4 I5 (R5 (AI (R3 TV) (R5 TV)))))))
   cases sE q
   refine E4 (iuR [2,3,4,5]) (AI rfl (AI (R2 TV) (R4 TV)))
  refine AI (OL (OL ?_)) TV
  cases sE q
  refine AI rfl (E4 (iuR [3,4]) (R2 (AJ (R2 TV))))
 dsimp only [Ak] at q
 refine AI ?_ TV
 cases sE q
 refine AI rfl (E4 (iuR [0,0]) (R2 (AJ (R2 TV))))
theorem H148:HI C148 148:=hI Tryz.f148 rfl fun x=>V148 x.1 x.2.1 x.2.2
def f189 (n:Int):Option Bool:=
 bif (decide (n≥1)) then
 some (decide (n≤4096))
 else
 some false
def C189:Con:=⟨Int,Bool,0,fun x=>[.dat T0 x],NX,fun x=>f189 x,fun y=>[.dat .bool y],NX,0⟩
theorem V189 n y (q:f189 n=some y):VC Tryz.f189 C189 n y:=by
 unfold f189 at q
 refine OL (OL (cI q (fun q=>?_) (fun q=>?_)))
 ·refine gX (cT ?_)
  cases sE q
  refine AI rfl (E4 [] (R2 (AI TV TV)))
 refine gM (cF ?_)
 cases sE q
 refine AI rfl (E4 [] (R2 (AI TV TV)))
theorem H189:HI C189 189:=hI Tryz.f189 rfl fun x=>V189 x
def f149_j4 (g k:Al) (step long:Int):Option Bool:=
 Ac (f119 (g.1,g.2)) fun r15=>
 bif (!r15) then
 some true
 else
 Ac (f119 (k.1,k.2)) fun r16=>
 bif (!r16) then
 some true
 else
 Ac (f188 step) fun r17=>
 bif (!r17) then
 some true
 else
 Ac (f189 long) fun r18=>
 some (!r18)
def f149_j5 (g k:Al) (step long:Int):Option Bool:=
 bif ((g.1.length:Int) != 2) then
 some true
 else
 bif ((k.1.length:Int) != 3) then
 some true
 else
 Ad (0≤(0:Int)∧0<(k.1.length:Int))<|
 Ad (0≤(0:Int)∧0<(g.1.length:Int))<|
 bif ((rd 0 k.1 0) != (rd 0 g.1 0)) then
 some true
 else
 Ad (0≤(2:Int)∧2<(k.1.length:Int))<|
 Ad (0≤(1:Int)∧1<(g.1.length:Int))<|
 Ac (f190 long (rd 0 k.1 2) step) fun q3_28=>
 some (q3_28 != (rd 0 g.1 1))
def f149_j3 (g k:Al) (step long:Int):Option (Sum Unit Int):=
 Ac (f149_j4 g k step long) fun z14=>
 bif z14 then
 some (Sum.inr (1:Int))
 else
 Ac (f149_j5 g k step long) fun z19=>
 bif z19 then
 some (Sum.inr (4:Int))
 else
 some (Sum.inl ())
def f149_j45 (g:Al) (step long v110 v127:Int):Option Bool:=
 Ad (step≠0)<|
 bif ((Int.tmod (i64.wrap ((Int.tmod v110 long)-v127)) step)==0) then
 some (decide ((i64.wrap (Int.tdiv (i64.wrap ((Int.tmod v110 long)-v127)) step))<(rd 0 g.1 1)))
 else
 some false
def f149_l44 (g k:Al) (step long v110 v120:Int) (go:PTz7→Option Bw) (v127 c4_0_2 c4_1_2 c4_2_2:Int):Option Bw:=
 bif (decide (v127<(if (i64.wrap ((Int.tmod v110 long)+1))<(rd 0 k.1 2) then (i64.wrap ((Int.tmod v110 long)+1)) else (rd 0 k.1 2)))) then
 Ad (step≠0)<|
 Ac (f149_j45 g step long v110 v127) fun z59=>
 bif z59 then
 Ad (0≤(i64.wrap ((i64.wrap (v120*(rd 0 g.1 1)))+(i64.wrap (Int.tdiv (i64.wrap ((Int.tmod v110 long)-v127)) step))))∧(i64.wrap ((i64.wrap (v120*(rd 0 g.1 1)))+(i64.wrap (Int.tdiv (i64.wrap ((Int.tmod v110 long)-v127)) step))))<g.2.length)<|
 Ad (0≤(i64.wrap ((i64.wrap ((i64.wrap ((i64.wrap (v120*(rd 0 k.1 1)))+(i64.wrap (Int.tdiv v110 long))))*(rd 0 k.1 2)))+v127))∧(i64.wrap ((i64.wrap ((i64.wrap ((i64.wrap (v120*(rd 0 k.1 1)))+(i64.wrap (Int.tdiv v110 long))))*(rd 0 k.1 2)))+v127))<k.2.length)<|
 Ac (f192 c4_0_2 c4_1_2 c4_2_2 (rd 0 g.2 (i64.wrap ((i64.wrap (v120*(rd 0 g.1 1)))+(i64.wrap (Int.tdiv (i64.wrap ((Int.tmod v110 long)-v127)) step))))) (rd 0 k.2 (i64.wrap ((i64.wrap ((i64.wrap ((i64.wrap (v120*(rd 0 k.1 1)))+(i64.wrap (Int.tdiv v110 long))))*(rd 0 k.1 2)))+v127)))) fun q22_22=>
 go ((i64.wrap (v127+1)),q22_22.1,q22_22.2.1,q22_22.2.2)
 else
 go ((i64.wrap (v127+1)),c4_0_2,c4_1_2,c4_2_2)
 else
 some (c4_0_2,c4_1_2,c4_2_2)
def f149_l41 (g k:Al) (step long v110:Int) (go:PTz7→Option Bw) (v120 c4_0 c4_1 c4_2:Int):Option Bw:=
 bif (decide (v120<(rd 0 k.1 0))) then
 Ac (Ag (fun go x=>f149_l44 g k step long v110 v120 go x.1 x.2.1 x.2.2.1 x.2.2.2) Ah ((0:Int),c4_0,c4_1,c4_2)) fun z58=>
 go ((i64.wrap (v120+1)),z58.1,z58.2.1,z58.2.2)
 else
 some (c4_0,c4_1,c4_2)
def f149_l32 (g k:Al) (step long:Int) (q5_19:Bl) (go:Bc→Option LI) (v110:Int) (l5:LI):Option LI:=
 bif (decide (v110<q5_19.2.2.length)) then
 Ad (long≠0)<|
 Ad (long≠0)<|
 Ac (Ag (fun go x=>f149_l41 g k step long v110 go x.1 x.2.1 x.2.2.1 x.2.2.2) Ah ((0:Int),(0:Int),(0:Int),(0:Int))) fun z55=>
 Ac (f193 z55.1 z55.2.1 z55.2.2 (32:Int)) fun q25_3=>
 Ad (0≤v110∧v110<l5.length)<|
 go ((i64.wrap (v110+1)),(List.set l5 (Int.toNat v110) q25_3.1))
 else
 some l5
def f149 (g k:Al) (step long:Int):Option Bl:=
 Ac (f149_j3 g k step long) fun z10=>
 Ak z10 (fun z10a=>
 Ad (0≤(0:Int)∧0<(k.1.length:Int))<|
 Ad (0≤(1:Int)∧1<(k.1.length:Int))<|
 Ad (0≤(2:Int)∧2<(k.1.length:Int))<|
 Ad (0≤(1:Int)∧1<(g.1.length:Int))<|
 Ac (f191 ([(rd 0 k.1 1),long])) fun q5_19=>
 bif (q5_19.1 != 0) then
 some (q5_19.1,[],[])
 else
 Ac (Ag (fun go x=>f149_l32 g k step long q5_19 go x.1 x.2) Ah ((0:Int),q5_19.2.2)) fun z46=>
 some ((0:Int),q5_19.2.1,z46)) (fun z10b=>
 some (z10b,[],[]))
def C149:Con:=⟨Al×Al×Ax,Bl,0,fun x=>[.dat T8 x.1,.dat T8 x.2.1,.dat T0 x.2.2.1,.dat T0 x.2.2.2],NX,fun x=>f149 x.1 x.2.1 x.2.2.1 x.2.2.2,fun y=>[.raw true [(.osl 0),(.osl 1)],.dat T0 y.1],fun y=>[(0,.arr 3 T0 y.2.1),(1,.arr 26 T0 y.2.2)],2⟩
theorem V149 g k step long y (q:f149 g k step long=some y):VC Tryz.f149 C149 (g,k,step,long) y:=by
 unfold f149 at q
 refine OL ?_
 obtain ⟨z10,hz10,q⟩:=bE q
 let e0:LE:=fun zz=>(2,.dat T0 step)::(3,.dat T0 long)::(4,P0 0 0)::(5,P0 1 0)::(8,P0 2 0)::zz
 let h1:LH:=fun zz=>(0,.cells [(.d T5 g.1),(.d T5 g.2)])::(1,.cells [(.d T5 k.1),(.d T5 k.2)])::(2,.cells [N0,N0])::zz
 refine OQ ⟨Sum.elim (fun z10a=>[(0,⟨e0 [],h1 [],3⟩)]) (fun z10b=>[(1,⟨[(8,P0 0 0),(9,.dat T0 z10b)],[(0,.cells [N0,N0])],1⟩)]) z10,?_,?_⟩
 ·have q:=hz10
  clear hz10
  unfold f149_j3 at q
  obtain ⟨z14,hz14,q⟩:=bE q
  refine OQ ⟨[(0,⟨e0 [(23,.dat .bool z14)],h1 [],3⟩)],?_,?_⟩
  ·have q:=hz14
   clear hz14
   unfold f149_j4 at q
   obtain ⟨r15,h,q⟩:=bE q
   refine OL (cA H119 (g.1,g.2) h rfl (R2 (K0 (cN q (fun q=>?_) (fun q=>?_)))))
   ·refine gY ?_
    obtain ⟨r16,h,q⟩:=bE q
    refine OL (cA H119 (k.1,k.2) h rfl (R2 (K0 (gY (cF (cN q (fun q=>?_) (fun q=>?_)))))))
    ·refine gY ?_
     obtain ⟨r17,h,q⟩:=bE q
     refine OL (cA H188 step h rfl (AI rfl (K0 (gY (cF (cN q (fun q=>?_) (fun q=>?_)))))))
     ·refine gY ?_
      obtain ⟨r18,h,q⟩:=bE q
      refine OL (cA H189 long h rfl (AI rfl (K0 (gY (cF ?_)))))
      cases sE q
      refine E4 I3 (R4 (AI (R3 TV) (R3 TV)))
     refine gN (gN (cT ?_))
     cases sE q
     refine E4 I3 (R4 (AI (R3 TV) (R3 TV)))
    refine gN (gN (cT (gN (gN (gN (cT ?_))))))
    cases sE q
    refine E4 I3 (R4 (AI (R3 TV) (R3 TV)))
   refine gN (gN (cT (gN (gN (gN (cT (gN (gN (gN (cT ?_))))))))))
   cases sE q
   refine E4 I3 (R4 (AI (R3 TV) (R3 TV)))
  refine AI (cI q (fun q=>?_) (fun q=>?_)) TV
  ·refine OL (OL ?_)
   cases sE q
   refine E4 (iuR [3]) (R2 (AJ (AI rfl TV)))
  obtain ⟨z19,hz19,q⟩:=bE q
  refine OQ ⟨[(0,⟨e0 [(43,.dat .bool z19)],h1 [],3⟩)],?_,?_⟩
  ·have q:=hz19
   clear hz19
   unfold f149_j5 at q
   refine EI (tU 0 28 (tU 29 4 (.alt 28 (tU 33 3 .done) .done))) (EI [] (EI [] (AI rfl (cN q (fun q=>?_) (fun q=>?_)))))
   ·refine gY (gY (gY (cF (cN q (fun q=>?_) (fun q=>?_)))))
    ·refine gY (gY (gI q (fun q=>?_)))
     refine gY (gY (gY (gY (gI q (fun q=>?_)))))
     refine gY (gY (cF (cN q (fun q=>?_) (fun q=>?_))))
     ·refine gY (gY (gY (gI q (fun q=>?_))))
      refine gY (gY (gY (gY (gY (gI q (fun q=>?_))))))
      refine gY (AI TV (gY ?_))
      obtain ⟨q3_28,h,q⟩:=bE q
      refine OL (cA H190 (long,(rd 0 k.1 2),step) h rfl (R3 (K0 (gY (cF ?_)))))
      cases sE q
      refine E4 I3 (R4 (AI (R3 TV) (R3 TV)))
     refine gN (gN (gN (gN (gN (gN (gN (gN (gN (AI TV (gN (gN (cT ?_))))))))))))
     cases sE q
     refine E4 I3 (R4 (AI (R3 TV) (R3 TV)))
    refine gN (gN (gN (gN (gN (gN (gN (gN (cT (gN (gN (gN (gN (gN (gN (gN (gN (gN (gN (AI TV (gN (gN (cT ?_))))))))))))))))))))))
    cases sE q
    refine E4 I3 (R4 (AI (R3 TV) (R3 TV)))
   refine gN (gN (gN (cT (gN (gN (gN (gN (gN (gN (gN (gN (gN (cT (gN (gN (gN (gN (gN (gN (gN (gN (gN (gN (AI TV (gN (gN (cT ?_)))))))))))))))))))))))))))
   cases sE q
   refine E4 I3 (R4 (AI (R3 TV) (R3 TV)))
  refine AI (cI q (fun q=>?_) (fun q=>?_)) TV
  ·refine OL (OL ?_)
   cases sE q
   refine E4 (iuR [3]) (R2 (AJ (AI rfl TV)))
  cases sE q
  refine E4 I3 (R3 (AI (R3 TV) (R3 TV)))
 rcases z10 with z10a | z10b
 ·dsimp only [Ak] at q
  refine AI (OL (EI (tU 0 20 .done) (EI [] (EI [] (AI rfl (gI q (fun q=>?_))))))) TV
  refine gI q (fun q=>?_)
  refine gI q (fun q=>?_)
  refine gI q (fun q=>?_)
  refine OL (OL ?_)
  obtain ⟨q5_19,h,q⟩:=bE q
  refine OL (cD H191 [(rd 0 k.1 1),long] h rfl (AI rfl (AI (fun _=>rfl) (R2 (AI TV (AI TV (OL (OL (OL (cI q (fun q=>?_) (fun q=>?_)))))))))))
  ·refine OL (OL ?_)
   cases sE q
   refine AI rfl (E4 (iuR [0,0]) (R2 (AJ (R2 TV))))
  refine OL (OL ?_)
  obtain ⟨z46,hz46,q⟩:=bE q
  let e2:LE:=fun zz=>e0 ((10,.dat T0 (rd 0 k.1 0))::(11,.dat T0 (rd 0 k.1 1))::(12,.dat T0 (rd 0 k.1 2))::(13,.dat T0 (rd 0 g.1 1))::(14,P0 3 0)::zz)
  refine lJ hz46 (fun x=>⟨e2 [(109,.dat T0 (q5_19.2.2.length:Int)),(110,.dat T0 x.1)],h1 [(3,.cells [(.osl 4),(.osl 5)]),(4,.arr 3 T0 q5_19.2.1),(5,.arr 26 T0 x.2)],6⟩) (fun z=>[(3,⟨[(8,P0 0 0),(14,P0 1 0)],[(0,.cells [N0,N0]),(1,.cells [(.osl 2),(.osl 3)]),(2,.arr 3 T0 q5_19.2.1),(3,.arr 26 T0 z)],4⟩)]) (E4 (iuR [1,2,3,7,5,6]) (R9 (AI (R4 TV) (R6 TV)))) (fun m=>An (fun v110=>fun l5 z q=>?_)) ?_
  ·have q:f149_l32 g k step long q5_19 _ v110 l5=some z:=q
   unfold f149_l32 at q
   refine OL (OL (cI q (fun q=>?_) (fun q=>?_)))
   ·refine OL (OL (OL (EI (tU 0 8 .done) (EI [] (EI [] (AI rfl (gI q (fun q=>?_))))))))
    refine gI q (fun q=>?_)
    refine OL (OL (OL ?_))
    obtain ⟨z55,hz55,q⟩:=bE q
    let e3:LE:=fun zz=>e2 ((16,.dat T0 v110)::zz)
    let e4:LE:=fun zz=>e3 ((17,.dat T0 (i64.wrap (Int.tdiv v110 long)))::(18,.dat T0 (Int.tmod v110 long))::(19,P0 4 0)::zz)
    let e5:LE:=fun zz=>e4 ((109,.dat T0 (q5_19.2.2.length:Int))::(110,.dat T0 v110)::(119,.dat T0 (rd 0 k.1 0))::zz)
    let h6:LH:=fun zz=>h1 ((3,.cells [(.osl 5),(.osl 6)])::zz)
    refine lJ hz55 (fun x=>⟨e5 [(120,.dat T0 x.1)],h6 [(4,.cells [(.d T0 x.2.1),(.d T0 x.2.2.1),(.d T9 x.2.2.2)]),(5,.arr 3 T0 q5_19.2.1),(6,.arr 26 T0 l5)],7⟩) (fun z=>[(5,⟨e3 [(19,P0 4 0),(109,.dat T0 (q5_19.2.2.length:Int)),(110,.dat T0 v110)],h6 [(4,.cells [(.d T0 z.1),(.d T0 z.2.1),(.d T9 z.2.2)]),(5,.arr 3 T0 q5_19.2.1),(6,.arr 26 T0 l5)],7⟩)]) (E4 (iuR [1,2,3,4,7,5,6]) (R14 (AI (R5 TV) (R7 TV)))) (fun m=>An (fun v120=>An (fun c4_0=>An (fun c4_1=>fun c4_2 z q=>?_)))) ?_
    ·have q:f149_l41 g k step long v110 _ v120 c4_0 c4_1 c4_2=some z:=q
     unfold f149_l41 at q
     refine OL (OL (cI q (fun q=>?_) (fun q=>?_)))
     ·refine OL (OL (OL ?_))
      obtain ⟨z58,h,q⟩:=bE q
      refine lJ h (fun x=>⟨e4 [(20,.dat T0 v120),(109,.dat T0 (q5_19.2.2.length:Int)),(110,.dat T0 v110),(119,.dat T0 (rd 0 k.1 0)),(120,.dat T0 v120),(126,.dat T0 (if (i64.wrap ((Int.tmod v110 long)+1))<(rd 0 k.1 2) then (i64.wrap ((Int.tmod v110 long)+1)) else (rd 0 k.1 2))),(127,.dat T0 x.1)],h6 [(4,.cells [(.d T0 x.2.1),(.d T0 x.2.2.1),(.d T9 x.2.2.2)]),(5,.arr 3 T0 q5_19.2.1),(6,.arr 26 T0 l5)],7⟩) (fun z=>[(7,⟨e5 [(120,.dat T0 v120)],h6 [(4,.cells [(.d T0 z.1),(.d T0 z.2.1),(.d T9 z.2.2)]),(5,.arr 3 T0 q5_19.2.1),(6,.arr 26 T0 l5)],7⟩)]) (E4 I7 (R17 (AI (R5 TV) (R7 TV)))) (fun m=>An (fun v127=>An (fun c4_0_2=>An (fun c4_1_2=>fun c4_2_2 z q=>?_)))) ?_
      ·have q:f149_l44 g k step long v110 v120 _ v127 c4_0_2 c4_1_2 c4_2_2=some z:=q
       unfold f149_l44 at q
       refine OL (OL (cI q (fun q=>?_) (fun q=>?_)))
       ·refine OL (OL (OL (gI q (fun q=>?_))))
        obtain ⟨z59,hz59,q⟩:=bE q
        refine OQ ⟨[(0,⟨e4 [(20,.dat T0 v120),(21,.dat T0 v127),(22,.dat T0 (i64.wrap (Int.tdiv (i64.wrap ((Int.tmod v110 long)-v127)) step))),(109,.dat T0 (q5_19.2.2.length:Int)),(110,.dat T0 v110),(119,.dat T0 (rd 0 k.1 0)),(120,.dat T0 v120),(126,.dat T0 (if (i64.wrap ((Int.tmod v110 long)+1))<(rd 0 k.1 2) then (i64.wrap ((Int.tmod v110 long)+1)) else (rd 0 k.1 2))),(127,.dat T0 v127),(145,.dat .bool z59)],h6 [(4,.cells [(.d T0 c4_0_2),(.d T0 c4_1_2),(.d T9 c4_2_2)]),(5,.arr 3 T0 q5_19.2.1),(6,.arr 26 T0 l5)],7⟩)],?_,?_⟩
        ·have q:=hz59
         clear hz59
         unfold f149_j45 at q
         refine gI q (fun q=>?_)
         refine cI q (fun q=>?_) (fun q=>?_)
         ·refine gX (gX (cT ?_))
          cases sE q
          refine E4 I7 (R20 (AI (R5 TV) (R7 TV)))
         refine gM (gM (cF ?_))
         cases sE q
         refine E4 I7 (R20 (AI (R5 TV) (R7 TV)))
        refine AI (cI q (fun q=>?_) (fun q=>?_)) TV
        ·refine EI (tU 0 22 (.alt 22 .done .done)) (EI [] (EI [] (AI rfl (gI q (fun q=>?_)))))
         refine gI q (fun q=>?_)
         refine AI TV ?_
         obtain ⟨q22_22,h,q⟩:=bE q
         refine OL (cB H192 (c4_0_2,c4_1_2,c4_2_2,(rd 0 g.2 (i64.wrap ((i64.wrap (v120*(rd 0 g.1 1)))+(i64.wrap (Int.tdiv (i64.wrap ((Int.tmod v110 long)-v127)) step))))),(rd 0 k.2 (i64.wrap ((i64.wrap ((i64.wrap ((i64.wrap (v120*(rd 0 k.1 1)))+(i64.wrap (Int.tdiv v110 long))))*(rd 0 k.1 2)))+v127)))) (iuR [5]) false h rfl (R2 (AI NH (R2 (AJ (AJ (EI ((i64.wrap (v127+1)),q22_22.1,q22_22.2.1,q22_22.2.2) (AI q (E4 I7 (R17 (AI (R5 TV) (R7 TV))))))))))))
        refine EI ((i64.wrap (v127+1)),c4_0_2,c4_1_2,c4_2_2) (AI q (E4 I7 (R17 (AI (R5 TV) (R7 TV)))))
       cases sE q
       refine E4 I7 (R14 (AI (R5 TV) (R7 TV)))
      refine AI (EI ((i64.wrap (v120+1)),z58.1,z58.2.1,z58.2.2) (AI q (E4 I7 (R14 (AI (R5 TV) (R7 TV)))))) TV
     cases sE q
     refine E4 I7 (R10 (AI (R5 TV) (R7 TV)))
    refine AI (EI (tU 0 3 (.alt 3 (.take 4 (.alt 5 .done .done)) .done)) (EI [] (EI [] (AI rfl (AI TV ?_))))) TV
    obtain ⟨q25_3,h,q⟩:=bE q
    refine OL (cB H193 (z55.1,z55.2.1,z55.2.2,(32:Int)) (iuR [5]) false h rfl (AI rfl (AI NH (R2 (AJ (AJ (gI q (fun q=>?_))))))))
    refine AI TV (OL (EI ((i64.wrap (v110+1)),(List.set l5 (Int.toNat v110) q25_3.1)) (AI q (E4 (iuR [1,2,3,4,6,7]) (R9 (AI (R4 TV) (R6 TV)))))))
   cases sE q
   refine E4 (iuR [3,4,5,6]) (AI rfl (AI (R2 TV) (R4 TV)))
  refine AI (OL (OL ?_)) TV
  cases sE q
  refine AI rfl (E4 (iuR [3,4]) (R2 (AJ (R2 TV))))
 dsimp only [Ak] at q
 refine AI ?_ TV
 cases sE q
 refine AI rfl (E4 (iuR [0,0]) (R2 (AJ (R2 TV))))
theorem H149:HI C149 149:=hI Tryz.f149 rfl fun x=>V149 x.1 x.2.1 x.2.2.1 x.2.2.2
end Go.Proofs
