import Derived.Test.YtdnlicefpmiljaaGreatDoorLay
set_option linter.unusedVariables false
set_option maxRecDepth 100000
set_option maxHeartbeats 8000000
namespace Go.Proofs
open Go.AM
open IntKind (i64 u64 i32 u32 i16 u16 i8 u8)
def f32 (c:Int):Option Bool:=
 bif (c==32) then
 some true
 else
 bif (c==9) then
 some true
 else
 some (c==10)
def C32:Con:=⟨Int,Bool,0,fun x=>[.dat T0 x],NX,fun x=>f32 x,fun y=>[.dat .bool y],NX,0⟩
theorem V32 c y (q:f32 c=some y):VC Tryz.f32 C32 c y:=by
 unfold f32 at q
 refine OL (OL (cN q (fun q=>?_) (fun q=>?_)))
 ·refine gY (cF (cN q (fun q=>?_) (fun q=>?_)))
  ·refine gY (cF ?_)
   cases sE q
   refine AI rfl (E4 [] (R2 (AI TV TV)))
  refine gN (cT ?_)
  cases sE q
  refine AI rfl (E4 [] (R2 (AI TV TV)))
 refine gN (cT (gN (gN (cT ?_))))
 cases sE q
 refine AI rfl (E4 [] (R2 (AI TV TV)))
theorem H32:HI C32 32:=hI Tryz.f32 rfl fun x=>V32 x
def f31_32 (s:ByteArray):Option (List ByteArray):=
 fieldsF (fun x=>(f32 x).getD false) s
def C31_32:Con:=⟨ByteArray,List ByteArray,0,fun x=>[.dat .str x,.raw false [.c (.func (.func 32) #[] #[])]],NX,fun x=>f31_32 x,fun y=>[.raw false [.osl 0]],fun y=>[(0,.arr 9 .str y)],1⟩
theorem C31_32_holds:C31_32.Holds Tryz.prog 31:=fields_holds Tryz.lays229 (fun x=>(f32 x).getD false) (enters_in H32.1) H32.2 (by intro x;show f32 (x:Int)=some ((f32 (x:Int)).getD false);unfold f32;generalize (x:Int)=c;cases c==32 <;> cases c==9 <;> cases c==10 <;> rfl) (by kernel_rfl) (by kernel_rfl)
theorem f31_32_in : ∃ fn,Tryz.prog.funcs[31]? = some fn ∧ fn.body.isSome = true ∧ (fn.name == "runtime.NumGoroutine") = false := ⟨Tryz.f31,by kernel_rfl,by kernel_rfl,by kernel_rfl⟩
def f113 (s c:ByteArray):Option ByteArray:=
 trimF s c
def C113:Con:=⟨ByteArray×ByteArray,ByteArray,0,fun x=>[.dat .str x.1,.dat .str x.2],NX,fun x=>f113 x.1 x.2,fun y=>[.dat .str y],NX,0⟩
theorem C113_holds:C113.Holds Tryz.prog 113:=trim_holds Tryz.lays160 (by kernel_rfl)
theorem f113_in:InP 113:=inP (by kernel_rfl)
def f114 (s:ByteArray):Option Int:=
 atoiF s
def C114:Con:=⟨ByteArray,Int,0,fun x=>[.dat .str x],NX,fun x=>f114 x,fun y=>[.dat T1 y,.raw false [.c .nilIface]],NX,0⟩
theorem C114_holds:C114.Holds Tryz.prog 114:=atoi_holds Tryz.lays172
theorem f114_in:InP 114:=inP (by kernel_rfl)
def f87_j1 (s:ByteArray):Option (Sum Unit Unit):=
 bif (decide ((ByteArray.size s:Int)<1)) then
 some (Sum.inr ())
 else
 bif (decide ((ByteArray.size s:Int)>4)) then
 some (Sum.inr ())
 else
 Ey (f113 s (ByteArray.mk #[48,49,50,51,52,53,54,55,56,57])) fun r3=>
 bif (!(ByteArray.toList r3==ByteArray.toList (ByteArray.mk #[]))) then
 some (Sum.inr ())
 else
 bif (decide ((ByteArray.size s:Int)>1)) then
 E9 (0≤(0:Int)∧(0:Int)<(ByteArray.size s:Int))<|
 bif ((bt s (0:Int))==48) then
 some (Sum.inr ())
 else
 some (Sum.inl ())
 else
 some (Sum.inl ())
def f87 (s:ByteArray):Option Ki:=
 Ey (f87_j1 s) fun z2=>
 Fx z2 (fun z2a=>
 Ey (f114 s) fun r4=>
 some (r4,true)) (fun z2b=>
 some ((0:Int),false))
def C87:Con:=⟨ByteArray,Ki,0,fun x=>[.dat .str x],NX,fun x=>f87 x,fun y=>[.dat T1 y.1,.dat .bool y.2],NX,0⟩
theorem V87 s y (q:f87 s=some y):VC Tryz.f87 C87 s y:=by
 unfold f87 at q
 refine OL ?_
 obtain ⟨z2,hz2,q⟩:=bE q
 refine OQ ⟨Sum.elim (fun z2a=>[(0,⟨[(0,.dat .str s)],[],0⟩)]) (fun z2b=>[(1,⟨[(2,D0 0),(3,.dat .bool false)],[],0⟩)]) z2,?_,?_⟩
 ·have q:=hz2
  clear hz2
  unfold f87_j1 at q
  refine OL (cN q (fun q=>?_) (fun q=>?_))
  ·refine gY (gY (cF (cN q (fun q=>?_) (fun q=>?_))))
   ·refine gY ?_
    obtain ⟨r3,h,q⟩:=bE q
    refine OL (AI f113_in (cV (cQ C113 (s,(ByteArray.mk #[48,49,50,51,52,53,54,55,56,57])) r3 [] false C113_holds h rfl rfl (R2 (K0 (gY (cF (cN q (fun q=>?_) (fun q=>?_)))))))))
    ·refine gY (gY (gY (cI q (fun q=>?_) (fun q=>?_))))
     ·refine gX (gI q (fun q=>?_))
      refine gX (gY (cT (cF (cI q (fun q=>?_) (fun q=>?_)))))
      ·cases sE q
       refine OL (E4 [] (R3 (AI TV TV)))
      cases sE q
      refine E4 [] (R2 (AI TV TV))
     refine gM (gM (gY (cF (cF (cF ?_)))))
     cases sE q
     refine E4 [] (R2 (AI TV TV))
    refine gN (gN (gN (gN (cT (cT (OL ?_))))))
    cases sE q
    refine E4 [] (R3 (AI TV TV))
   refine gN (gN (cT (gN (gN (gN (gN (gN (cT (cT (OL ?_))))))))))
   cases sE q
   refine E4 [] (R3 (AI TV TV))
  refine gN (gN (cT (gN (gN (gN (cT (gN (gN (gN (gN (gN (cT (cT (OL ?_))))))))))))))
  cases sE q
  refine E4 [] (R3 (AI TV TV))
 rcases z2 with z2a | z2b
 ·dsimp only [Fx] at q
  refine AI (OL ?_) TV
  obtain ⟨r4,h,q⟩:=bE q
  refine OL (AI f114_in (cV (cQ C114 s r4 [] false C114_holds h rfl rfl (AI rfl (K0 (OL (EI (tU 0 5 .done) (EI [] (EI [] (AI rfl ?_))))))))))
  cases sE q
  refine AI rfl (E4 [] (R3 (AI TV TV)))
 dsimp only [Fx] at q
 refine AI ?_ TV
 cases sE q
 refine AI rfl (E4 [] (R3 (AI TV TV)))
theorem H87:HI C87 87:=hI Tryz.f87 rfl fun x=>V87 x
def f58_l1 (go:PTz14→Option PTz14) (w_2:List ByteArray) (l0:LI):Option PTz14:=
 bif (decide ((w_2.length:Int)>0)) then
 E9 (0≤(0:Int)∧0<(w_2.length:Int))<|
 Ey (f87 (rd (Ty.z .str) w_2 (0:Int))) fun r4=>
 bif (!r4.2) then
 some (w_2,l0)
 else
 E9 ((l0.length+List.length ([r4.1]))*8≤140737488355328)<|
 E9 (0≤(1:Int)∧(1:Int)≤w_2.length)<|
 go ((List.drop (Int.toNat (1:Int)) w_2),(l0++([r4.1])))
 else
 some (w_2,l0)
def f58 (w:List ByteArray):Option PTz14:=
 Ey (Fq (fun go x=>f58_l1 go x.1 x.2) Fv (w,[])) fun z3=>
 some (z3.1,z3.2)
def C58:Con:=⟨List ByteArray,PTz14,0,fun x=>[.dat T2 x],NX,fun x=>f58 x,fun y=>[O0 0,.dat T2 y.1],fun y=>[(0,.arr 3 T1 y.2)],1⟩
theorem V58 w y (q:f58 w=some y):VC Tryz.f58 C58 w y:=by
 unfold f58 at q
 refine OL (OL (OL ?_))
 obtain ⟨z3,h,q⟩:=bE q
 refine lJ h (fun x=>⟨[(0,.dat T2 x.1),(4,O0 0)],[(0,.arr 3 T1 x.2)],1⟩) (fun z=>[(2,⟨[(0,.dat T2 z.1),(4,O0 0)],[(0,.arr 3 T1 z.2)],1⟩)]) (E4 (iuR [0]) (R2 (AJ (AI rfl TV)))) (fun m=>F3 (fun w_2=>fun l0 z q=>?_)) ?_
 ·have q:f58_l1 _ w_2 l0=some z:=q
  unfold f58_l1 at q
  refine OL (OL (cI q (fun q=>?_) (fun q=>?_)))
  ·refine OL (gI q (fun q=>?_))
   obtain ⟨r4,h,q⟩:=bE q
   refine OL (cA H87 (rd (Ty.z .str) w_2 (0:Int)) h rfl (AI rfl (K0 (OL (OL (cI q (fun q=>?_) (fun q=>?_)))))))
   ·cases sE q
    refine E4 (iuR [1]) (R2 (AJ (AI rfl TV)))
   refine OL (OL (OL (gI q (fun q=>?_))))
   refine gI q (fun q=>?_)
   refine EI ((List.drop (Int.toNat (1:Int)) w_2),(l0++([r4.1]))) (AI q (E4 (iuR [3]) (R2 (AJ (AI rfl TV)))))
  cases sE q
  refine E4 (iuR [1]) (R2 (AJ (AI rfl TV)))
 refine AI (OL ?_) TV
 cases sE q
 refine AI rfl (E4 (iuR [1]) (R2 (AJ (AI rfl TV))))
theorem H58:HI C58 58:=hI Tryz.f58 rfl fun x=>V58 x
def f38_j1 (kind:ByteArray):Option Bool:=
 bif (ByteArray.toList kind==ByteArray.toList (ByteArray.mk #[100,101,110,115,101])) then
 some (ByteArray.toList kind==ByteArray.toList (ByteArray.mk #[100,101,110,115,101]))
 else
 bif (ByteArray.toList kind==ByteArray.toList (ByteArray.mk #[112,111,111,108])) then
 some (ByteArray.toList kind==ByteArray.toList (ByteArray.mk #[112,111,111,108]))
 else
 some (ByteArray.toList kind==ByteArray.toList (ByteArray.mk #[98,101,110,100]))
def f38 (kind:ByteArray):Option Int:=
 Ey (f38_j1 kind) fun z1=>
 bif z1 then
 some (1:Int)
 else
 bif (ByteArray.toList kind==ByteArray.toList (ByteArray.mk #[99,111,110,118])) then
 some (2:Int)
 else
 bif (ByteArray.toList kind==ByteArray.toList (ByteArray.mk #[115,107,105,112])) then
 some (0:Int)
 else
 some (-1:Int)
def C38:Con:=⟨ByteArray,Int,0,fun x=>[.dat .str x],NX,fun x=>f38 x,fun y=>[.dat T1 y],NX,0⟩
theorem V38 kind y (q:f38 kind=some y):VC Tryz.f38 C38 kind y:=by
 unfold f38 at q
 refine OL (OL (OL ?_))
 obtain ⟨z1,hz1,q⟩:=bE q
 refine OQ ⟨[(0,⟨[(3,.dat .str kind),(4,.dat .bool z1)],[],0⟩)],?_,?_⟩
 ·have q:=hz1
  clear hz1
  unfold f38_j1 at q
  refine OL (cI q (fun q=>?_) (fun q=>?_))
  ·cases sE q
   refine E4 [] (R3 (AI TV TV))
  refine OL (cI q (fun q=>?_) (fun q=>?_))
  ·cases sE q
   refine E4 [] (R3 (AI TV TV))
  cases sE q
  refine E4 [] (R3 (AI TV TV))
 refine AI (cI q (fun q=>?_) (fun q=>?_)) TV
 ·cases sE q
  refine OL (AI rfl (E4 [] (R2 (AI TV TV))))
 refine OL (cI q (fun q=>?_) (fun q=>?_))
 ·cases sE q
  refine OL (AI rfl (E4 [] (R2 (AI TV TV))))
 refine OL (cI q (fun q=>?_) (fun q=>?_))
 ·cases sE q
  refine OL (AI rfl (E4 [] (R2 (AI TV TV))))
 cases sE q
 refine OL (AI rfl (E4 [] (R2 (AI TV TV))))
theorem H38:HI C38 38:=hI Tryz.f38 rfl fun x=>V38 x
def f33_j3 (w:List ByteArray):Option Bool:=
 bif ((w.length:Int)==0) then
 some true
 else
 E9 (0≤(0:Int)∧0<(w.length:Int))<|
 some (!(ByteArray.toList (rd (Ty.z .str) w (0:Int))==ByteArray.toList (ByteArray.mk #[105,110])))
def f33_j2 (w:List ByteArray):Option (Sum Unit Unit):=
 Ey (f33_j3 w) fun z3=>
 bif z3 then
 some (Sum.inr ())
 else
 some (Sum.inl ())
def f33_j6 (r4:PTz14):Option Bool:=
 bif (decide ((r4.2.length:Int)<1)) then
 some true
 else
 some (decide ((r4.2.length:Int)>2))
def f33_j5 (r4:PTz14):Option (Sum Unit Unit):=
 Ey (f33_j6 r4) fun z7=>
 bif z7 then
 some (Sum.inr ())
 else
 some (Sum.inl ())
def f33_l7 (go:((List ByteArray)×LTz0)→Option (Sum Unit LTz0)) (w_2:List ByteArray) (l3:LTz0):Option (Sum Unit LTz0):=
 bif (decide ((w_2.length:Int)>0)) then
 E9 (0≤(0:Int)∧0<(w_2.length:Int))<|
 E9 (0≤(1:Int)∧(1:Int)≤w_2.length)<|
 Ey (f58 (List.drop (Int.toNat (1:Int)) w_2)) fun r13=>
 Ey (f38 (rd (Ty.z .str) w_2 (0:Int))) fun r14=>
 bif ((r13.2.length:Int) != r14) then
 some (Sum.inl ())
 else
 E9 ((r13.2.length+List.length ([(0:Int),(0:Int)]))*8≤140737488355328)<|
 E9 (0≤(0:Int)∧(0:Int)<(List.length (r13.2++([(0:Int),(0:Int)])):Int))<|
 E9 (0≤(1:Int)∧(1:Int)<(List.length (r13.2++([(0:Int),(0:Int)])):Int))<|
 E9 ((l3.length+List.length ([((rd (Ty.z .str) w_2 (0:Int)),(rd 0 (r13.2++([(0:Int),(0:Int)])) (0:Int)),(rd 0 (r13.2++([(0:Int),(0:Int)])) (1:Int)))]))*32≤140737488355328)<|
 go (r13.1,(l3++([((rd (Ty.z .str) w_2 (0:Int)),(rd 0 (r13.2++([(0:Int),(0:Int)])) (0:Int)),(rd 0 (r13.2++([(0:Int),(0:Int)])) (1:Int)))])))
 else
 some (Sum.inr l3)
def f33 (w:List ByteArray):Option (Bool×Jd):=
 Ey (f33_j2 w) fun z2=>
 Fx z2 (fun z2a=>
 E9 (0≤(1:Int)∧(1:Int)≤w.length)<|
 Ey (f58 (List.drop (Int.toNat (1:Int)) w)) fun r4=>
 Ey (f33_j5 r4) fun z6=>
 Fx z6 (fun z6a=>
 Ey (Fq (fun go x=>f33_l7 go x.1 x.2) Fv (r4.1,[])) fun z12=>
 Fx z12 (fun z12a=>
 some (false,[],[])) (fun z12b=>
 some (true,r4.2,z12b))) (fun z6b=>
 some (false,[],[]))) (fun z2b=>
 some (false,[],[]))
def C33:Con:=⟨List ByteArray,Bool×Jd,0,fun x=>[.dat T2 x],NX,fun x=>f33 x,fun y=>[.raw true [(.osl 0),(.osl 1)],.dat .bool y.1],fun y=>[(0,.arr 3 T1 y.2.1),(1,.arr 70 T3 y.2.2)],2⟩
theorem V33 w y (q:f33 w=some y):VC Tryz.f33 C33 w y:=by
 unfold f33 at q
 refine OL ?_
 obtain ⟨z2,hz2,q⟩:=bE q
 let h0:LH:=fun zz=>(0,.cells [N0,N0])::zz
 let e1:LE:=fun zz=>(2,P0 0 0)::(3,.dat .bool false)::zz
 refine OQ ⟨Sum.elim (fun z2a=>[(0,⟨[(0,.dat T2 w),(2,P0 0 0)],h0 [],1⟩)]) (fun z2b=>[(1,⟨e1 [],h0 [],1⟩)]) z2,?_,?_⟩
 ·have q:=hz2
  clear hz2
  unfold f33_j2 at q
  obtain ⟨z3,hz3,q⟩:=bE q
  refine OQ ⟨[(0,⟨[(0,.dat T2 w),(2,P0 0 0),(16,.dat .bool z3)],h0 [],1⟩)],?_,?_⟩
  ·have q:=hz3
   clear hz3
   unfold f33_j3 at q
   refine cN q (fun q=>?_) (fun q=>?_)
   ·refine gY (gI q (fun q=>?_))
    refine gY (gY (cF ?_))
    cases sE q
    refine E4 (iuR [1]) (R3 (AJ (AI rfl TV)))
   refine gN (gN (gN (cT ?_)))
   cases sE q
   refine E4 (iuR [1]) (R3 (AJ (AI rfl TV)))
  refine AI (cI q (fun q=>?_) (fun q=>?_)) TV
  ·refine OL (OL ?_)
   cases sE q
   refine E4 (iuR [1]) (R2 (AJ (AI rfl TV)))
  cases sE q
  refine E4 (iuR [1]) (R2 (AJ (AI rfl TV)))
 rcases z2 with z2a | z2b
 ·dsimp only [Fx] at q
  refine AI (OL (gI q (fun q=>?_))) TV
  obtain ⟨r4,h,q⟩:=bE q
  refine OL (cA H58 (List.drop (Int.toNat (1:Int)) w) h rfl (AI rfl (K0 (OL (OL ?_)))))
  obtain ⟨z6,hz6,q⟩:=bE q
  refine OQ ⟨Sum.elim (fun z6a=>[(0,⟨[(0,.dat T2 r4.1),(2,P0 0 0),(5,P0 1 0)],h0 [(1,.cells [(.osl 2),N0]),(2,.arr 3 T1 r4.2)],3⟩)]) (fun z6b=>[(1,⟨e1 [],h0 [],1⟩)]) z6,?_,?_⟩
  ·have q:=hz6
   clear hz6
   unfold f33_j5 at q
   obtain ⟨z7,hz7,q⟩:=bE q
   refine OQ ⟨[(0,⟨[(0,.dat T2 r4.1),(2,P0 0 0),(5,P0 1 0),(33,.dat .bool z7)],h0 [(1,.cells [(.osl 2),N0]),(2,.arr 3 T1 r4.2)],3⟩)],?_,?_⟩
   ·have q:=hz7
    clear hz7
    unfold f33_j6 at q
    refine cN q (fun q=>?_) (fun q=>?_)
    ·refine gY (gY (cF ?_))
     cases sE q
     refine E4 (iuR [1,3,2]) (R3 (AI (R2 TV) (R3 TV)))
    refine gN (gN (cT ?_))
    cases sE q
    refine E4 (iuR [1,3,2]) (R3 (AI (R2 TV) (R3 TV)))
   refine AI (cI q (fun q=>?_) (fun q=>?_)) TV
   ·refine OL (OL ?_)
    cases sE q
    refine E4 (iuR [1]) (R2 (AJ (AI rfl TV)))
   cases sE q
   refine E4 I3 (R2 (AI (R2 TV) (R3 TV)))
  rcases z6 with z6a | z6b
  ·dsimp only [Fx] at q
   refine AI (OL ?_) TV
   obtain ⟨z12,hz12,q⟩:=bE q
   let h2:LH:=fun zz=>h0 ((1,.cells [(.osl 2),(.osl 3)])::(2,.arr 3 T1 r4.2)::zz)
   refine lJ hz12 (fun x=>⟨[(0,.dat T2 x.1),(2,P0 0 0),(5,P0 1 0)],h2 [(3,.arr 70 T3 x.2)],4⟩) (fun z=>Sum.elim (fun za=>[(1,⟨e1 [],h0 [],1⟩)]) (fun zb=>[(2,⟨[(2,P0 0 0),(5,P0 1 0)],h2 [(3,.arr 70 T3 zb)],4⟩)]) z) (E4 (iuR [1,2,3,0]) (R2 (AI (R2 TV) (R4 TV)))) (fun m=>F3 (fun w_2=>fun l3 z q=>?_)) ?_
   ·have q:f33_l7 _ w_2 l3=some z:=q
    unfold f33_l7 at q
    refine OL (OL (cI q (fun q=>?_) (fun q=>?_)))
    ·refine OL (gI q (fun q=>?_))
     refine OL (OL (gI q (fun q=>?_)))
     obtain ⟨r13,h,q⟩:=bE q
     refine OL (cA H58 (List.drop (Int.toNat (1:Int)) w_2) h rfl (AI rfl (K0 (OL (OL ?_)))))
     obtain ⟨r14,h,q⟩:=bE q
     refine OL (cA H38 (rd (Ty.z .str) w_2 (0:Int)) h rfl (AI rfl (K0 (cI q (fun q=>?_) (fun q=>?_)))))
     ·refine OL (OL ?_)
      cases sE q
      refine E4 (iuR [1]) (R2 (AJ (AI rfl TV)))
     refine OL (OL (OL (gI q (fun q=>?_))))
     refine EI (tU 0 10 (.alt 10 (.alt 11 (.take 12 (.alt 13 .done .done)) .done) .done)) (EI [(13,[1])] (EI [] (AI rfl (gI q (fun q=>?_)))))
     refine gI q (fun q=>?_)
     refine AI TV (OL (AI TV (OL (gI q (fun q=>?_)))))
     refine AI TV (OL (EI (r13.1,(l3++([((rd (Ty.z .str) w_2 (0:Int)),(rd 0 (r13.2++([(0:Int),(0:Int)])) (0:Int)),(rd 0 (r13.2++([(0:Int),(0:Int)])) (1:Int)))]))) (AI q (E4 (iuR [1,2,3,9]) (R2 (AI (R2 TV) (R4 TV)))))))
    cases sE q
    refine E4 I4 (AI rfl (AI (R2 TV) (R4 TV)))
   rcases z12 with z12a | z12b
   ·dsimp only [Fx] at q
    refine AI ?_ TV
    cases sE q
    refine AI rfl (E4 (iuR [0,0]) (R2 (AJ (R2 TV))))
   dsimp only [Fx] at q
   refine AI (OL (OL ?_)) TV
   cases sE q
   refine AI rfl (E4 (iuR [3,4]) (R2 (AJ (R2 TV))))
  dsimp only [Fx] at q
  refine AI ?_ TV
  cases sE q
  refine AI rfl (E4 (iuR [0,0]) (R2 (AJ (R2 TV))))
 dsimp only [Fx] at q
 refine AI ?_ TV
 cases sE q
 refine AI rfl (E4 (iuR [0,0]) (R2 (AJ (R2 TV))))
theorem H33:HI C33 33:=hI Tryz.f33 rfl fun x=>V33 x
def f60 (v most:Int):Option Bool:=
 bif (decide (v≥1)) then
 some (decide (v≤most))
 else
 some false
def C60:Con:=⟨F9,Bool,0,fun x=>[.dat T1 x.1,.dat T1 x.2],NX,fun x=>f60 x.1 x.2,fun y=>[.dat .bool y],NX,0⟩
theorem V60 v most y (q:f60 v most=some y):VC Tryz.f60 C60 (v,most) y:=by
 unfold f60 at q
 refine OL (OL (cI q (fun q=>?_) (fun q=>?_)))
 ·refine gX (gX (cT ?_))
  cases sE q
  refine AI rfl (E4 [] (R2 (AI TV TV)))
 refine gM (gM (cF ?_))
 cases sE q
 refine AI rfl (E4 [] (R2 (AI TV TV)))
theorem H60:HI C60 60:=hI Tryz.f60 rfl fun x=>V60 x.1 x.2
def f59_j1 (l:PTz12):Option (Sum Unit Unit):=
 Ey (f38 l.1) fun r3=>
 bif (decide (r3<2)) then
 bif (l.2.2 != 0) then
 some (Sum.inr ())
 else
 some (Sum.inl ())
 else
 some (Sum.inl ())
def f59 (l:PTz12):Option Bool:=
 Ey (f59_j1 l) fun z2=>
 Fx z2 (fun z2a=>
 bif (ByteArray.toList l.1==ByteArray.toList (ByteArray.mk #[100,101,110,115,101])) then
 Ey (f60 l.2.1 (256:Int)) fun r4=>
 some r4
 else
 bif (ByteArray.toList l.1==ByteArray.toList (ByteArray.mk #[99,111,110,118])) then
 Ey (f60 l.2.1 (16:Int)) fun r5=>
 bif r5 then
 Ey (f60 l.2.2 (16:Int)) fun r6=>
 some r6
 else
 some false
 else
 bif (ByteArray.toList l.1==ByteArray.toList (ByteArray.mk #[112,111,111,108])) then
 Ey (f60 l.2.1 (16:Int)) fun r7=>
 some r7
 else
 bif (ByteArray.toList l.1==ByteArray.toList (ByteArray.mk #[98,101,110,100])) then
 Ey (f60 l.2.1 (5:Int)) fun r8=>
 some r8
 else
 bif (ByteArray.toList l.1==ByteArray.toList (ByteArray.mk #[115,107,105,112])) then
 some (l.2.1==0)
 else
 some false) (fun z2b=>
 some false)
def C59:Con:=⟨PTz12,Bool,0,fun x=>[.dat T3 x],NX,fun x=>f59 x,fun y=>[.dat .bool y],NX,0⟩
theorem V59 l y (q:f59 l=some y):VC Tryz.f59 C59 l y:=by
 unfold f59 at q
 refine OL ?_
 obtain ⟨z2,hz2,q⟩:=bE q
 refine OQ ⟨Sum.elim (fun z2a=>[(0,⟨[(1,P0 0 0)],[(0,.cells [(.d .str l.1),(.d T1 l.2.1),(.d T1 l.2.2)])],1⟩)]) (fun z2b=>[(1,⟨[(2,.dat .bool false)],[],0⟩)]) z2,?_,?_⟩
 ·have q:=hz2
  clear hz2
  unfold f59_j1 at q
  refine OL ?_
  obtain ⟨r3,h,q⟩:=bE q
  refine OL (cA H38 l.1 h rfl (AI rfl (K0 (cI q (fun q=>?_) (fun q=>?_)))))
  ·refine gX (gX (cT (cI q (fun q=>?_) (fun q=>?_))))
   ·cases sE q
    refine OL (E4 [] (R2 (AI TV TV)))
   cases sE q
   refine E4 (iuR [1]) (AI rfl (AJ (AI rfl TV)))
  refine gM (gM (cF (cF ?_)))
  cases sE q
  refine E4 (iuR [1]) (AI rfl (AJ (AI rfl TV)))
 rcases z2 with z2a | z2b
 ·dsimp only [Fx] at q
  refine AI (OL (OL (OL (cI q (fun q=>?_) (fun q=>?_))))) TV
  ·refine OL ?_
   obtain ⟨r4,h,q⟩:=bE q
   refine OL (cA H60 (l.2.1,(256:Int)) h rfl (R2 (K0 ?_)))
   cases sE q
   refine AI rfl (E4 [] (R2 (AI TV TV)))
  refine OL (cI q (fun q=>?_) (fun q=>?_))
  ·refine OL ?_
   obtain ⟨r5,h,q⟩:=bE q
   refine OL (cA H60 (l.2.1,(16:Int)) h rfl (R2 (K0 (cI q (fun q=>?_) (fun q=>?_)))))
   ·refine gX (gX ?_)
    obtain ⟨r6,h,q⟩:=bE q
    refine OL (cA H60 (l.2.2,(16:Int)) h rfl (R2 (K0 (cT ?_))))
    cases sE q
    refine AI rfl (E4 [] (R2 (AI TV TV)))
   refine gM (gM (cF ?_))
   cases sE q
   refine AI rfl (E4 [] (R2 (AI TV TV)))
  refine OL (cI q (fun q=>?_) (fun q=>?_))
  ·refine OL ?_
   obtain ⟨r7,h,q⟩:=bE q
   refine OL (cA H60 (l.2.1,(16:Int)) h rfl (R2 (K0 ?_)))
   cases sE q
   refine AI rfl (E4 [] (R2 (AI TV TV)))
  refine OL (cI q (fun q=>?_) (fun q=>?_))
  ·refine OL ?_
   obtain ⟨r8,h,q⟩:=bE q
   refine OL (cA H60 (l.2.1,(5:Int)) h rfl (R2 (K0 ?_)))
   cases sE q
   refine AI rfl (E4 [] (R2 (AI TV TV)))
  refine OL (cI q (fun q=>?_) (fun q=>?_))
  ·refine gX (gX (cT ?_))
   cases sE q
   refine AI rfl (E4 [] (R2 (AI TV TV)))
  refine gM (gM (cF ?_))
  cases sE q
  refine AI rfl (E4 [] (R2 (AI TV TV)))
 dsimp only [Fx] at q
 refine AI ?_ TV
 cases sE q
 refine AI rfl (E4 [] (R2 (AI TV TV)))
theorem H59:HI C59 59:=hI Tryz.f59 rfl fun x=>V59 x
def f34_l1 (n:Jd) (go:Int→Option (Sum Unit Unit)) (v8:Int):Option (Sum Unit Unit):=
 bif (decide (v8<n.2.length)) then
 E9 (0≤v8∧v8<n.2.length)<|
 Ey (f59 ((rd (Ty.z T3) n.2 v8).1,((rd (Ty.z T3) n.2 v8).2).1,((rd (Ty.z T3) n.2 v8).2).2)) fun r4=>
 bif (!r4) then
 some (Sum.inl ())
 else
 go (i64.wrap (v8+1))
 else
 some (Sum.inr ())
def f34 (n:Jd):Option Bool:=
 Ey (Fq (fun go x=>f34_l1 n go x) Fv (0:Int)) fun z3=>
 Fx z3 (fun z3a=>
 some false) (fun z3b=>
 bif ((n.1.length:Int)==1) then
 E9 (0≤(0:Int)∧0<(n.1.length:Int))<|
 Ey (f60 (rd 0 n.1 0) (1024:Int)) fun r5=>
 some r5
 else
 bif ((n.1.length:Int)==2) then
 E9 (0≤(0:Int)∧0<(n.1.length:Int))<|
 Ey (f60 (rd 0 n.1 0) (64:Int)) fun r6=>
 bif r6 then
 E9 (0≤(1:Int)∧1<(n.1.length:Int))<|
 Ey (f60 (rd 0 n.1 1) (64:Int)) fun r7=>
 some r7
 else
 some false
 else
 some false)
def C34:Con:=⟨Jd,Bool,0,fun x=>[.dat T4 x],NX,fun x=>f34 x,fun y=>[.dat .bool y],NX,0⟩
theorem V34 n y (q:f34 n=some y):VC Tryz.f34 C34 n y:=by
 unfold f34 at q
 refine OL (OL (OL ?_))
 obtain ⟨z3,h,q⟩:=bE q
 refine lJ h (fun x=>⟨[(1,P0 0 0),(6,.dat T5 n.2),(7,.dat T1 (n.2.length:Int)),(8,.dat T1 x)],[(0,.cells [(.d T6 n.1),(.d T5 n.2)])],1⟩) (fun z=>Sum.elim (fun za=>[(1,⟨[(2,.dat .bool false)],[],0⟩)]) (fun zb=>[(2,⟨[(1,P0 0 0)],[(0,.cells [(.d T6 n.1),(.d T5 n.2)])],1⟩)]) z) (E4 (iuR [1]) (R4 (AJ (AI rfl TV)))) (fun m=>fun v8 z q=>?_) ?_
 ·have q:f34_l1 n _ v8=some z:=q
  unfold f34_l1 at q
  refine OL (OL (cI q (fun q=>?_) (fun q=>?_)))
  ·refine OL (OL (gI q (fun q=>?_)))
   refine OL (OL ?_)
   obtain ⟨r4,h,q⟩:=bE q
   refine OL (cA H59 ((rd (Ty.z T3) n.2 v8).1,((rd (Ty.z T3) n.2 v8).2).1,((rd (Ty.z T3) n.2 v8).2).2) h rfl (R2 (K0 (cI q (fun q=>?_) (fun q=>?_)))))
   ·cases sE q
    refine OL (E4 [] (R2 (AI TV TV)))
   refine EI (i64.wrap (v8+1)) (AI q (E4 (iuR [1]) (R4 (AJ (AI rfl TV)))))
  cases sE q
  refine E4 (iuR [1]) (AI rfl (AJ (AI rfl TV)))
 rcases z3 with z3a | z3b
 ·dsimp only [Fx] at q
  refine AI ?_ TV
  cases sE q
  refine AI rfl (E4 [] (R2 (AI TV TV)))
 dsimp only [Fx] at q
 refine AI (OL (OL (OL (cI q (fun q=>?_) (fun q=>?_))))) TV
 ·refine OL (gI q (fun q=>?_))
  obtain ⟨r5,h,q⟩:=bE q
  refine OL (cA H60 ((rd 0 n.1 0),(1024:Int)) h rfl (R2 (K0 ?_)))
  cases sE q
  refine AI rfl (E4 [] (R2 (AI TV TV)))
 refine OL (cI q (fun q=>?_) (fun q=>?_))
 ·refine OL (gI q (fun q=>?_))
  obtain ⟨r6,h,q⟩:=bE q
  refine OL (cA H60 ((rd 0 n.1 0),(64:Int)) h rfl (R2 (K0 (cI q (fun q=>?_) (fun q=>?_)))))
  ·refine gX (gX (gI q (fun q=>?_)))
   refine gX (gX ?_)
   obtain ⟨r7,h,q⟩:=bE q
   refine OL (cA H60 ((rd 0 n.1 1),(64:Int)) h rfl (R2 (K0 (cT ?_))))
   cases sE q
   refine AI rfl (E4 [] (R2 (AI TV TV)))
  refine gM (gM (gM (gM (cF ?_))))
  cases sE q
  refine AI rfl (E4 [] (R2 (AI TV TV)))
 cases sE q
 refine OL (AI rfl (E4 [] (R2 (AI TV TV))))
theorem H34:HI C34 34:=hI Tryz.f34 rfl fun x=>V34 x
def f61 (s:LI):Option LI:=
 nilF s
 (some ([]))
 (E9 ((List.length ([]:LI)+s.length)*8≤140737488355328)<|
 some (([]:LI)++s))
def C61:Con:=⟨LI,LI,0,fun x=>[.dat T6 x],NX,fun x=>f61 x,fun y=>[O0 0],fun y=>[(0,.arr 3 T1 y)],1⟩
theorem V61 s y (q:f61 s=some y):VC Tryz.f61 C61 s y:=by
 unfold f61 at q
 refine OL (OL (OL (nilI q (fun q=>?_) (fun q=>?_))))
 ·refine cT (OL ?_)
  cases sE q
  refine AI rfl (E4 (iuR [0]) (AI rfl (AJ (AI rfl TV))))
 refine cF (OL (OL (OL (gI q (fun q=>?_)))))
 cases sE q
 refine AI rfl (E4 (iuR [2]) (AI rfl (AJ (AI rfl TV))))
theorem H61:HI C61 61:=hI Tryz.f61 rfl fun x=>V61 x
def f62_j1 (l:PTz12) (in_:LI):Option (Sum Unit Unit):=
 bif ((in_.length:Int) != 2) then
 some (Sum.inr ())
 else
 E9 (0≤(1:Int)∧1<(in_.length:Int))<|
 bif (decide (l.2.2>(rd 0 in_ 1))) then
 some (Sum.inr ())
 else
 some (Sum.inl ())
def f62_j2 (l:PTz12) (in_:LI):Option (Sum Unit Unit):=
 bif ((in_.length:Int) != 2) then
 some (Sum.inr ())
 else
 E9 (0≤(1:Int)∧1<(in_.length:Int))<|
 bif (decide (l.2.1>(rd 0 in_ 1))) then
 some (Sum.inr ())
 else
 some (Sum.inl ())
def f62 (l:PTz12) (in_:LI):Option (Bool×LI):=
 bif (ByteArray.toList l.1==ByteArray.toList (ByteArray.mk #[100,101,110,115,101])) then
 some (true,[l.2.1])
 else
 bif (ByteArray.toList l.1==ByteArray.toList (ByteArray.mk #[99,111,110,118])) then
 Ey (f62_j1 l in_) fun z1=>
 Fx z1 (fun z1a=>
 E9 (0≤(1:Int)∧1<(in_.length:Int))<|
 some (true,[l.2.1,(i64.wrap ((i64.wrap ((rd 0 in_ 1)-l.2.2))+1))])) (fun z1b=>
 some (false,[]))
 else
 bif (ByteArray.toList l.1==ByteArray.toList (ByteArray.mk #[112,111,111,108])) then
 Ey (f62_j2 l in_) fun z2=>
 Fx z2 (fun z2a=>
 E9 (0≤(0:Int)∧0<(in_.length:Int))<|
 E9 (0≤(1:Int)∧1<(in_.length:Int))<|
 E9 (l.2.1≠0)<|
 some (true,[(rd 0 in_ 0),(i64.wrap (Int.tdiv (rd 0 in_ 1) l.2.1))])) (fun z2b=>
 some (false,[]))
 else
 Ey (f61 in_) fun q11_11=>
 some (true,q11_11)
def C62:Con:=⟨PTz12×LI,Bool×LI,0,fun x=>[.dat T3 x.1,.dat T6 x.2],NX,fun x=>f62 x.1 x.2,fun y=>[O0 0,.dat .bool y.1],fun y=>[(0,.arr 3 T1 y.2)],1⟩
theorem V62 l in_ y (q:f62 l in_=some y):VC Tryz.f62 C62 (l,in_) y:=by
 unfold f62 at q
 refine OL (OL (OL (OL (cI q (fun q=>?_) (fun q=>?_)))))
 ·refine OL (OL ?_)
  cases sE q
  refine AI rfl (E4 (iuR [2]) (R2 (AJ (AI rfl TV))))
 refine OL (cI q (fun q=>?_) (fun q=>?_))
 ·obtain ⟨z1,hz1,q⟩:=bE q
  refine OQ ⟨Sum.elim (fun z1a=>[(0,⟨[(1,.dat T6 in_),(2,P0 0 0)],[(0,.cells [(.d .str l.1),(.d T1 l.2.1),(.d T1 l.2.2)])],1⟩)]) (fun z1b=>[(1,⟨[(4,.raw false [N0]),(5,.dat .bool false)],[],0⟩)]) z1,?_,?_⟩
  ·have q:=hz1
   clear hz1
   unfold f62_j1 at q
   refine OL (EI (tU 0 11 .done) (EI [] (EI [] (AI rfl (cN q (fun q=>?_) (fun q=>?_))))))
   ·refine gY (gY (gY (gI q (fun q=>?_))))
    refine gY (gY (cF (cI q (fun q=>?_) (fun q=>?_))))
    ·cases sE q
     refine OL (E4 [] (R2 (AJ TV)))
    cases sE q
    refine E4 (iuR [1]) (R2 (AJ (AI rfl TV)))
   refine gN (gN (gN (gN (gN (cT (cT (OL ?_)))))))
   cases sE q
   refine E4 [] (R2 (AJ TV))
  rcases z1 with z1a | z1b
  ·dsimp only [Fx] at q
   refine AI (OL (EI (tU 0 9 (.alt 9 (.take 10 (.take 11 .done)) .done)) (EI [] (EI [] (AI rfl (gI q (fun q=>?_))))))) TV
   refine AI TV (OL ?_)
   cases sE q
   refine AI rfl (E4 (iuR [2]) (R2 (AJ (AI rfl TV))))
  dsimp only [Fx] at q
  refine AI ?_ TV
  cases sE q
  refine AI rfl (E4 (iuR [0]) (R2 (AJ (AI rfl TV))))
 refine OL (cI q (fun q=>?_) (fun q=>?_))
 ·obtain ⟨z2,hz2,q⟩:=bE q
  refine OQ ⟨Sum.elim (fun z2a=>[(0,⟨[(1,.dat T6 in_),(2,P0 0 0)],[(0,.cells [(.d .str l.1),(.d T1 l.2.1),(.d T1 l.2.2)])],1⟩)]) (fun z2b=>[(1,⟨[(4,.raw false [N0]),(5,.dat .bool false)],[],0⟩)]) z2,?_,?_⟩
  ·have q:=hz2
   clear hz2
   unfold f62_j2 at q
   refine OL (EI (tU 0 11 .done) (EI [] (EI [] (AI rfl (cN q (fun q=>?_) (fun q=>?_))))))
   ·refine gY (gY (gY (gI q (fun q=>?_))))
    refine gY (gY (cF (cI q (fun q=>?_) (fun q=>?_))))
    ·cases sE q
     refine OL (E4 [] (R2 (AJ TV)))
    cases sE q
    refine E4 (iuR [1]) (R2 (AJ (AI rfl TV)))
   refine gN (gN (gN (gN (gN (cT (cT (OL ?_)))))))
   cases sE q
   refine E4 [] (R2 (AJ TV))
  rcases z2 with z2a | z2b
  ·dsimp only [Fx] at q
   refine AI (OL (EI (tU 0 9 (.alt 9 (.take 10 (.take 11 .done)) .done)) (EI [] (EI [] (AI rfl (gI q (fun q=>?_))))))) TV
   refine gI q (fun q=>?_)
   refine gI q (fun q=>?_)
   refine AI TV (OL ?_)
   cases sE q
   refine AI rfl (E4 (iuR [2]) (R2 (AJ (AI rfl TV))))
  dsimp only [Fx] at q
  refine AI ?_ TV
  cases sE q
  refine AI rfl (E4 (iuR [0]) (R2 (AJ (AI rfl TV))))
 refine OL ?_
 obtain ⟨q11_11,h,q⟩:=bE q
 refine OL (cA H61 in_ h rfl (AI rfl (K0 ?_)))
 cases sE q
 refine AI rfl (E4 (iuR [2]) (R2 (AJ (AI rfl TV))))
theorem H62:HI C62 62:=hI Tryz.f62 rfl fun x=>V62 x.1 x.2
def f115_l1 (s1 s2:LI) (go:Int→Option (Sum Unit Unit)) (v13:Int):Option (Sum Unit Unit):=
 bif (decide (v13<s1.length)) then
 E9 (0≤v13∧v13<s1.length)<|
 E9 (0≤v13∧v13<s2.length)<|
 bif ((rd 0 s1 v13) != (rd 0 s2 v13)) then
 some (Sum.inl ())
 else
 go (i64.wrap (v13+1))
 else
 some (Sum.inr ())
def f115 (s1 s2:LI):Option Bool:=
 bif ((s1.length:Int) != s2.length) then
 some false
 else
 Ey (Fq (fun go x=>f115_l1 s1 s2 go x) Fv (0:Int)) fun z1=>
 Fx z1 (fun z1a=>
 some false) (fun z1b=>
 some true)
def C115:Con:=⟨Fy,Bool,0,fun x=>[.dat T6 x.1,.dat T6 x.2],NX,fun x=>f115 x.1 x.2,fun y=>[.dat .bool y],NX,0⟩
theorem V115 s1 s2 y (q:f115 s1 s2=some y):VC Tryz.f115 C115 (s1,s2) y:=by
 unfold f115 at q
 refine OL (OL (OL (cI q (fun q=>?_) (fun q=>?_))))
 ·cases sE q
  refine OL (AI rfl (E4 [] (R2 (AI TV TV))))
 refine OL (OL ?_)
 obtain ⟨z1,h,q⟩:=bE q
 refine lJ h (fun x=>⟨[(0,.dat T6 s1),(1,.dat T6 s2),(12,.dat T1 (s1.length:Int)),(13,.dat T1 x)],[],0⟩) (fun z=>Sum.elim (fun za=>[(1,⟨[(4,.dat .bool false)],[],0⟩)]) (fun zb=>[(2,⟨[],[],0⟩)]) z) (E4 [] (R5 (AI TV TV))) (fun m=>fun v13 z q=>?_) ?_
 ·have q:f115_l1 s1 s2 _ v13=some z:=q
  unfold f115_l1 at q
  refine OL (OL (cI q (fun q=>?_) (fun q=>?_)))
  ·refine OL (OL (OL (EI (tU 0 9 .done) (EI [] (EI [] (AI rfl (gI q (fun q=>?_))))))))
   refine gI q (fun q=>?_)
   refine cI q (fun q=>?_) (fun q=>?_)
   ·cases sE q
    refine OL (E4 [] (R2 (AI TV TV)))
   refine EI (i64.wrap (v13+1)) (AI q (E4 [] (R5 (AI TV TV))))
  cases sE q
  refine E4 [] (AI rfl (AI TV TV))
 rcases z1 with z1a | z1b
 ·dsimp only [Fx] at q
  refine AI ?_ TV
  cases sE q
  refine AI rfl (E4 [] (R2 (AI TV TV)))
 dsimp only [Fx] at q
 refine AI (OL ?_) TV
 cases sE q
 refine AI rfl (E4 [] (R2 (AI TV TV)))
theorem H115:HI C115 115:=hI Tryz.f115 rfl fun x=>V115 x.1 x.2
def f88 (a b:LI):Option Bool:=
 Ey (f115 a b) fun r1=>
 some r1
def C88:Con:=⟨Fy,Bool,0,fun x=>[.dat T6 x.1,.dat T6 x.2],NX,fun x=>f88 x.1 x.2,fun y=>[.dat .bool y],NX,0⟩
theorem V88 a b y (q:f88 a b=some y):VC Tryz.f88 C88 (a,b) y:=by
 unfold f88 at q
 refine OL (OL ?_)
 obtain ⟨r1,h,q⟩:=bE q
 refine OL (cA H115 (a,b) h rfl (R2 (K0 ?_)))
 cases sE q
 refine AI rfl (E4 [] (R2 (AI TV TV)))
theorem H88:HI C88 88:=hI Tryz.f88 rfl fun x=>V88 x.1 x.2
def f63 (n:Jd) (i:Int) (d:List LI):Option Bool:=
 bif (decide (i>0)) then
 E9 (0≤(i64.wrap (i-1))∧(i64.wrap (i-1))<n.2.length)<|
 bif (!(ByteArray.toList ((rd (Ty.z T3) n.2 (i64.wrap (i-1))).1)==ByteArray.toList (ByteArray.mk #[115,107,105,112]))) then
 E9 (0≤(i64.wrap (i-1))∧(i64.wrap (i-1))<d.length)<|
 E9 (0≤i∧i<d.length)<|
 Ey (f88 (rd (Ty.z T6) d (i64.wrap (i-1))) (rd (Ty.z T6) d i)) fun q1_22=>
 some q1_22
 else
 some false
 else
 some false
def C63:Con:=⟨Jd×PTz10,Bool,0,fun x=>[.dat T4 x.1,.dat T1 x.2.1,.dat T7 x.2.2],NX,fun x=>f63 x.1 x.2.1 x.2.2,fun y=>[.dat .bool y],NX,0⟩
theorem V63 n i d y (q:f63 n i d=some y):VC Tryz.f63 C63 (n,i,d) y:=by
 unfold f63 at q
 refine OL (OL (EI (tU 0 22 (.alt 22 (.take 23 (.take 24 .done)) .done)) (EI [] (EI [] (AI rfl (cI q (fun q=>?_) (fun q=>?_)))))))
 ·refine gX (gX (gX (gX (gI q (fun q=>?_)))))
  refine gX (gX (gX (cT (cI q (fun q=>?_) (fun q=>?_)))))
  ·refine gX (gX (gX (gI q (fun q=>?_))))
   refine gX (gX (gX (gX (gI q (fun q=>?_)))))
   refine gX (AI TV (gX ?_))
   obtain ⟨q1_22,h,q⟩:=bE q
   refine OL (cA H88 ((rd (Ty.z T6) d (i64.wrap (i-1))),(rd (Ty.z T6) d i)) h rfl (R2 (K0 (cT ?_))))
   cases sE q
   refine AI rfl (E4 [] (R2 (AI TV TV)))
  refine gM (gM (gM (gM (gM (gM (gM (gM (AI TV (gM (cF ?_))))))))))
  cases sE q
  refine AI rfl (E4 [] (R2 (AI TV TV)))
 refine gM (gM (gM (gM (gM (gM (gM (cF (gM (gM (gM (gM (gM (gM (gM (gM (gM (AI TV (gM (cF ?_)))))))))))))))))))
 cases sE q
 refine AI rfl (E4 [] (R2 (AI TV TV)))
theorem H63:HI C63 63:=hI Tryz.f63 rfl fun x=>V63 x.1 x.2.1 x.2.2
def f35_j4 (n:Jd) (v16:Int) (l1:List LI) (q5_5:Bool×LI):Option (Sum Unit Unit):=
 bif (!q5_5.1) then
 some (Sum.inr ())
 else
 bif (ByteArray.toList ((rd (Ty.z T3) n.2 v16).1)==ByteArray.toList (ByteArray.mk #[115,107,105,112])) then
 Ey (f63 (n.1,n.2) v16 l1) fun r8=>
 bif (!r8) then
 some (Sum.inr ())
 else
 some (Sum.inl ())
 else
 some (Sum.inl ())
def f35_l3 (n:Jd) (go:PTz10→Option (Sum Unit (List LI))) (v16:Int) (l1:List LI):Option (Sum Unit (List LI)):=
 bif (decide (v16<n.2.length)) then
 E9 (0≤v16∧v16<n.2.length)<|
 E9 (0≤v16∧v16<l1.length)<|
 Ey (f62 ((rd (Ty.z T3) n.2 v16).1,((rd (Ty.z T3) n.2 v16).2).1,((rd (Ty.z T3) n.2 v16).2).2) (rd (Ty.z T6) l1 v16)) fun q5_5=>
 Ey (f35_j4 n v16 l1 q5_5) fun z7=>
 Fx z7 (fun z7a=>
 E9 ((l1.length+List.length ([q5_5.2]))*24≤140737488355328)<|
 go ((i64.wrap (v16+1)),(l1++([q5_5.2])))) (fun z7b=>
 some (Sum.inl ()))
 else
 some (Sum.inr l1)
def f35 (n:Jd):Option (Bool×(List LI)):=
 Ey (f61 n.1) fun r1=>
 Ey (Fq (fun go x=>f35_l3 n go x.1 x.2) Fv ((0:Int),[r1])) fun z6=>
 Fx z6 (fun z6a=>
 some (false,[])) (fun z6b=>
 some (true,z6b))
def C35:Con:=⟨Jd,Bool×(List LI),0,fun x=>[.dat T4 x],NX,fun x=>f35 x,fun y=>[O0 0,.dat .bool y.1],fun y=>[(0,.arr 23 T6 y.2)],1⟩
theorem V35 n y (q:f35 n=some y):VC Tryz.f35 C35 n y:=by
 unfold f35 at q
 refine OL (OL ?_)
 obtain ⟨r1,h,q⟩:=bE q
 refine OL (cA H61 n.1 h rfl (AI rfl (K0 (OL (OL (OL ?_))))))
 obtain ⟨z6,h,q⟩:=bE q
 refine lJ h (fun x=>⟨[(1,P0 0 0),(4,O0 1),(14,.dat T5 n.2),(15,.dat T1 (n.2.length:Int)),(16,.dat T1 x.1)],[(0,.cells [(.d T6 n.1),(.d T5 n.2)]),(1,.arr 23 T6 x.2)],2⟩) (fun z=>Sum.elim (fun za=>[(1,⟨[(2,.raw false [N0]),(3,.dat .bool false)],[],0⟩)]) (fun zb=>[(2,⟨[(4,O0 0)],[(0,.arr 23 T6 zb)],1⟩)]) z) (E4 (iuR [1,3]) (R4 (AI (R2 TV) (R2 TV)))) (fun m=>F3 (fun v16=>fun l1 z q=>?_)) ?_
 ·have q:f35_l3 n _ v16 l1=some z:=q
  unfold f35_l3 at q
  refine OL (OL (cI q (fun q=>?_) (fun q=>?_)))
  ·refine OL (OL (gI q (fun q=>?_)))
   refine OL (OL (EI (tU 0 5 (.alt 5 (tU 6 5 .done) .done)) (EI [] (EI [] (AI rfl (gI q (fun q=>?_)))))))
   refine AI TV ?_
   obtain ⟨q5_5,h,q⟩:=bE q
   refine OL (cA H62 (((rd (Ty.z T3) n.2 v16).1,((rd (Ty.z T3) n.2 v16).2).1,((rd (Ty.z T3) n.2 v16).2).2),(rd (Ty.z T6) l1 v16)) h rfl (R3 (K0 ?_)))
   obtain ⟨z7,hz7,q⟩:=bE q
   refine OQ ⟨Sum.elim (fun z7a=>[(0,⟨[(1,P0 0 0),(4,O0 1),(7,O0 2),(14,.dat T5 n.2),(15,.dat T1 (n.2.length:Int)),(16,.dat T1 v16)],[(0,.cells [(.d T6 n.1),(.d T5 n.2)]),(1,.arr 23 T6 l1),(2,.arr 3 T1 q5_5.2)],3⟩)]) (fun z7b=>[(1,⟨[(2,.raw false [N0]),(3,.dat .bool false)],[],0⟩)]) z7,?_,?_⟩
   ·have q:=hz7
    clear hz7
    unfold f35_j4 at q
    refine OL (cN q (fun q=>?_) (fun q=>?_))
    ·refine gY (gY (gY (cI q (fun q=>?_) (fun q=>?_))))
     ·refine gX (gX (gX ?_))
      obtain ⟨r8,h,q⟩:=bE q
      refine OL (cD H63 ((n.1,n.2),v16,l1) h rfl (R4 (AI (fun _=>rfl) (R2 (AI TV (AI TV (gX (gY (cT (cF (cI q (fun q=>?_) (fun q=>?_))))))))))))
      ·cases sE q
       refine OL (E4 [] (R2 (AJ TV)))
      cases sE q
      refine E4 (iuR [1,2,4]) (R4 (AI (R3 TV) (R3 TV)))
     refine gM (gM (gM (gM (gY (cF (cF (cF ?_)))))))
     cases sE q
     refine E4 (iuR [1,2,4]) (R4 (AI (R3 TV) (R3 TV)))
    refine gN (gN (gN (gN (cT (cT (OL ?_))))))
    cases sE q
    refine E4 [] (R2 (AJ TV))
   rcases z7 with z7a | z7b
   ·dsimp only [Fx] at q
    refine AI (OL (OL (gI q (fun q=>?_)))) TV
    refine EI ((i64.wrap (v16+1)),(l1++([q5_5.2]))) (AI q (E4 (iuR [1,5]) (R4 (AI (R2 TV) (R2 TV)))))
   dsimp only [Fx] at q
   refine AI ?_ TV
   cases sE q
   refine E4 [] (R2 (AJ TV))
  cases sE q
  refine E4 (iuR [2]) (AI rfl (AJ (AI rfl TV)))
 rcases z6 with z6a | z6b
 ·dsimp only [Fx] at q
  refine AI ?_ TV
  cases sE q
  refine AI rfl (E4 (iuR [0]) (R2 (AJ (AI rfl TV))))
 dsimp only [Fx] at q
 refine AI (OL ?_) TV
 cases sE q
 refine AI rfl (E4 (iuR [1]) (R2 (AJ (AI rfl TV))))
theorem H35:HI C35 35:=hI Tryz.f35 rfl fun x=>V35 x
def f42_l1 (d:LI) (go:F9→Option Int) (n v8:Int):Option Int:=
 bif (decide (v8<d.length)) then
 E9 (0≤v8∧v8<d.length)<|
 go ((i64.wrap (n*(rd 0 d v8))),(i64.wrap (v8+1)))
 else
 some n
def f42 (d:LI):Option Int:=
 Ey (Fq (fun go x=>f42_l1 d go x.1 x.2) Fv ((1:Int),(0:Int))) fun z1=>
 some z1
def C42:Con:=⟨LI,Int,0,fun x=>[.dat T6 x],NX,fun x=>f42 x,fun y=>[.dat T1 y],NX,0⟩
theorem V42 d y (q:f42 d=some y):VC Tryz.f42 C42 d y:=by
 unfold f42 at q
 refine OL (OL (OL (OL ?_)))
 obtain ⟨z1,h,q⟩:=bE q
 refine lJ h (fun x=>⟨[(3,.dat T1 x.1),(6,.dat T6 d),(7,.dat T1 (d.length:Int)),(8,.dat T1 x.2)],[],0⟩) (fun z=>[(2,⟨[(3,.dat T1 z)],[],0⟩)]) (E4 [] (R5 (AI TV TV))) (fun m=>F3 (fun n=>fun v8 z q=>?_)) ?_
 ·have q:f42_l1 d _ n v8=some z:=q
  unfold f42_l1 at q
  refine OL (OL (cI q (fun q=>?_) (fun q=>?_)))
  ·refine OL (OL (gI q (fun q=>?_)))
   refine EI ((i64.wrap (n*(rd 0 d v8))),(i64.wrap (v8+1))) (AI q (E4 [] (R5 (AI TV TV))))
  cases sE q
  refine E4 [] (R2 (AI TV TV))
 refine AI (OL ?_) TV
 cases sE q
 refine AI rfl (E4 [] (R2 (AI TV TV)))
theorem H42:HI C42 42:=hI Tryz.f42 rfl fun x=>V42 x
def f64 (l:PTz12) (in_:LI):Option (List LI):=
 bif (ByteArray.toList l.1==ByteArray.toList (ByteArray.mk #[100,101,110,115,101])) then
 Ey (f42 in_) fun q3_3=>
 some ([[l.2.1,q3_3],[l.2.1]])
 else
 bif (ByteArray.toList l.1==ByteArray.toList (ByteArray.mk #[99,111,110,118])) then
 E9 (0≤(0:Int)∧0<(in_.length:Int))<|
 some ([[l.2.1,(rd 0 in_ 0),l.2.2]])
 else
 some ([])
def C64:Con:=⟨PTz12×LI,List LI,0,fun x=>[.dat T3 x.1,.dat T6 x.2],NX,fun x=>f64 x.1 x.2,fun y=>[O0 0],fun y=>[(0,.arr 23 T6 y)],1⟩
theorem V64 l in_ y (q:f64 l in_=some y):VC Tryz.f64 C64 (l,in_) y:=by
 unfold f64 at q
 refine OL (OL (OL (OL (cI q (fun q=>?_) (fun q=>?_)))))
 ·refine OL ?_
  obtain ⟨q3_3,hq3_3,q⟩:=bE q
  refine EI (tU 0 3 (.take 5 (.take 6 (.alt 3 (.alt 4 (.alt 7 (.alt 8 (.take 9 .done) .done) .done) (.alt 7 (.alt 4 (.alt 8 (.take 9 .done) .done) .done) .done)) (.alt 7 (.alt 3 (.alt 4 (.alt 8 (.take 9 .done) .done) .done) .done) .done))))) (EI [] (EI [] (AI rfl (AI (AI TV ?_) ?_))))
  ·refine OL (AI TV (OL (cA H42 in_ hq3_3 rfl (AI rfl (K0 (AI TV (OL (AI TV (OL ?_)))))))))
   cases sE q
   refine AI rfl (E4 (iuR [4]) (AI rfl (AJ (AI rfl TV))))
  refine OL (cA H42 in_ hq3_3 rfl (AI rfl (K0 (AI (AI TV ?_) ?_))))
  ·refine OL (AI TV (OL (AI TV (OL ?_))))
   cases sE q
   refine AI rfl (E4 (iuR [4]) (AI rfl (AJ (AI rfl TV))))
  refine OL (AI TV (OL (AI TV (OL ?_))))
  cases sE q
  refine AI rfl (E4 (iuR [4]) (AI rfl (AJ (AI rfl TV))))
 refine OL (cI q (fun q=>?_) (fun q=>?_))
 ·refine OL (EI (tU 0 7 (.alt 7 (.alt 8 (.take 9 .done) .done) .done)) (EI [] (EI [] (AI rfl (gI q (fun q=>?_))))))
  refine AI TV (OL (AI TV (OL ?_)))
  cases sE q
  refine AI rfl (E4 (iuR [3]) (AI rfl (AJ (AI rfl TV))))
 cases sE q
 refine OL (AI rfl (E4 (iuR [0]) (AI rfl (AJ (AI rfl TV)))))
theorem H64:HI C64 64:=hI Tryz.f64 rfl fun x=>V64 x.1 x.2
def f89_j4 (d:LI) (v11:Int):Option (Sum Unit Unit):=
 bif (decide ((rd 0 d v11)<1)) then
 some (Sum.inr ())
 else
 bif (decide ((rd 0 d v11)>4096)) then
 some (Sum.inr ())
 else
 some (Sum.inl ())
def f89_l3 (d:LI) (go:F9→Option (Sum Unit Int)) (n v11:Int):Option (Sum Unit Int):=
 bif (decide (v11<d.length)) then
 E9 (0≤v11∧v11<d.length)<|
 Ey (f89_j4 d v11) fun z4=>
 Fx z4 (fun z4a=>
 bif (decide ((i64.wrap (n*(rd 0 d v11)))>4096)) then
 some (Sum.inl ())
 else
 go ((i64.wrap (n*(rd 0 d v11))),(i64.wrap (v11+1)))) (fun z4b=>
 some (Sum.inl ()))
 else
 some (Sum.inr n)
def f89 (d:LI):Option Int:=
 bif (decide ((d.length:Int)>4)) then
 some (0:Int)
 else
 Ey (Fq (fun go x=>f89_l3 d go x.1 x.2) Fv ((1:Int),(0:Int))) fun z3=>
 Fx z3 (fun z3a=>
 some (0:Int)) (fun z3b=>
 some z3b)
def C89:Con:=⟨LI,Int,0,fun x=>[.dat T6 x],NX,fun x=>f89 x,fun y=>[.dat T1 y],NX,0⟩
theorem V89 d y (q:f89 d=some y):VC Tryz.f89 C89 d y:=by
 unfold f89 at q
 refine OL (OL (OL (cI q (fun q=>?_) (fun q=>?_))))
 ·cases sE q
  refine OL (AI rfl (E4 [] (R2 (AI TV TV))))
 refine OL (OL (OL ?_))
 obtain ⟨z3,h,q⟩:=bE q
 refine lJ h (fun x=>⟨[(3,.dat T1 x.1),(9,.dat T6 d),(10,.dat T1 (d.length:Int)),(11,.dat T1 x.2)],[],0⟩) (fun z=>Sum.elim (fun za=>[(1,⟨[(2,D0 0)],[],0⟩)]) (fun zb=>[(2,⟨[(3,.dat T1 zb)],[],0⟩)]) z) (E4 [] (R5 (AI TV TV))) (fun m=>F3 (fun n=>fun v11 z q=>?_)) ?_
 ·have q:f89_l3 d _ n v11=some z:=q
  unfold f89_l3 at q
  refine OL (OL (cI q (fun q=>?_) (fun q=>?_)))
  ·refine OL (OL (gI q (fun q=>?_)))
   obtain ⟨z4,hz4,q⟩:=bE q
   refine OQ ⟨Sum.elim (fun z4a=>[(0,⟨[(3,.dat T1 n),(5,.dat T1 (rd 0 d v11)),(9,.dat T6 d),(10,.dat T1 (d.length:Int)),(11,.dat T1 v11)],[],0⟩)]) (fun z4b=>[(1,⟨[(2,D0 0)],[],0⟩)]) z4,?_,?_⟩
   ·have q:=hz4
    clear hz4
    unfold f89_j4 at q
    refine OL (cN q (fun q=>?_) (fun q=>?_))
    ·refine gY (cF (cI q (fun q=>?_) (fun q=>?_)))
     ·cases sE q
      refine OL (E4 [] (R2 (AI TV TV)))
     cases sE q
     refine E4 [] (R6 (AI TV TV))
    refine gN (cT (cT (OL ?_)))
    cases sE q
    refine E4 [] (R2 (AI TV TV))
   rcases z4 with z4a | z4b
   ·dsimp only [Fx] at q
    refine AI (OL (OL (cI q (fun q=>?_) (fun q=>?_)))) TV
    ·cases sE q
     refine OL (E4 [] (R2 (AI TV TV)))
    refine EI ((i64.wrap (n*(rd 0 d v11))),(i64.wrap (v11+1))) (AI q (E4 [] (R5 (AI TV TV))))
   dsimp only [Fx] at q
   refine AI ?_ TV
   cases sE q
   refine E4 [] (R2 (AI TV TV))
  cases sE q
  refine E4 [] (R2 (AI TV TV))
 rcases z3 with z3a | z3b
 ·dsimp only [Fx] at q
  refine AI ?_ TV
  cases sE q
  refine AI rfl (E4 [] (R2 (AI TV TV)))
 dsimp only [Fx] at q
 refine AI (OL ?_) TV
 cases sE q
 refine AI rfl (E4 [] (R2 (AI TV TV)))
theorem H89:HI C89 89:=hI Tryz.f89 rfl fun x=>V89 x
def f65 (d:LI):Option Bool:=
 Ey (f89 d) fun r1=>
 some (decide (r1>0))
def C65:Con:=⟨LI,Bool,0,fun x=>[.dat T6 x],NX,fun x=>f65 x,fun y=>[.dat .bool y],NX,0⟩
theorem V65 d y (q:f65 d=some y):VC Tryz.f65 C65 d y:=by
 unfold f65 at q
 refine OL (OL ?_)
 obtain ⟨r1,h,q⟩:=bE q
 refine OL (cA H89 d h rfl (AI rfl (K0 ?_)))
 cases sE q
 refine AI rfl (E4 [] (R2 (AI TV TV)))
theorem H65:HI C65 65:=hI Tryz.f65 rfl fun x=>V65 x
def f36_l4 (q5_5:List LI) (go:(Int×Bool×Int)→Option Ki) (many_2:Int) (ok_2:Bool) (v31:Int):Option Ki:=
 bif (decide (v31<q5_5.length)) then
 E9 (0≤v31∧v31<q5_5.length)<|
 Ey (f42 (rd (Ty.z T6) q5_5 v31)) fun r25=>
 bif ok_2 then
 Ey (f65 (rd (Ty.z T6) q5_5 v31)) fun r26=>
 go ((i64.wrap (many_2+r25)),r26,(i64.wrap (v31+1)))
 else
 go ((i64.wrap (many_2+r25)),false,(i64.wrap (v31+1)))
 else
 some (many_2,ok_2)
def f36_l3 (n:Jd) (d:List LI) (go:(Int×Bool×Int)→Option Ki) (Gf:Int) (ok:Bool) (v19:Int):Option Ki:=
 bif (decide (v19<n.2.length)) then
 E9 (0≤v19∧v19<n.2.length)<|
 E9 (0≤v19∧v19<d.length)<|
 Ey (f64 ((rd (Ty.z T3) n.2 v19).1,((rd (Ty.z T3) n.2 v19).2).1,((rd (Ty.z T3) n.2 v19).2).2) (rd (Ty.z T6) d v19)) fun q5_5=>
 Ey (Fq (fun go x=>f36_l4 q5_5 go x.1 x.2.1 x.2.2) Fv (Gf,ok,(0:Int))) fun z24=>
 bif z24.2 then
 E9 (0≤v19∧v19<d.length)<|
 Ey (f65 (rd (Ty.z T6) d v19)) fun r27=>
 bif r27 then
 E9 (0≤(i64.wrap (v19+1))∧(i64.wrap (v19+1))<d.length)<|
 Ey (f65 (rd (Ty.z T6) d (i64.wrap (v19+1)))) fun r28=>
 go (z24.1,r28,(i64.wrap (v19+1)))
 else
 go (z24.1,false,(i64.wrap (v19+1)))
 else
 go (z24.1,false,(i64.wrap (v19+1)))
 else
 some (Gf,ok)
def f36 (n:Jd) (d:List LI):Option Ki:=
 Ey (Fq (fun go x=>f36_l3 n d go x.1 x.2.1 x.2.2) Fv ((0:Int),(decide ((n.2.length:Int)≤16)),(0:Int))) fun z19=>
 bif z19.2 then
 Ey (f65 n.1) fun r29=>
 bif r29 then
 some (z19.1,(decide (z19.1≤4096)))
 else
 some (z19.1,false)
 else
 some (z19.1,false)
def C36:Con:=⟨Jd×(List LI),Ki,0,fun x=>[.dat T4 x.1,.dat T7 x.2],NX,fun x=>f36 x.1 x.2,fun y=>[.dat T1 y.1,.dat .bool y.2],NX,0⟩
theorem V36 n d y (q:f36 n d=some y):VC Tryz.f36 C36 (n,d) y:=by
 unfold f36 at q
 refine OL (OL (EI (tU 0 6 .done) (EI [] (EI [] (AI rfl (OL (OL ?_)))))))
 obtain ⟨z19,hz19,q⟩:=bE q
 let h0:LH:=fun zz=>(0,.cells [(.d T6 n.1),(.d T5 n.2)])::zz
 refine lJ hz19 (fun x=>⟨[(1,.dat T7 d),(2,P0 0 0),(6,.dat T1 x.1),(7,.dat .bool x.2.1),(17,.dat T5 n.2),(18,.dat T1 (n.2.length:Int)),(19,.dat T1 x.2.2)],h0 [],1⟩) (fun z=>[(2,⟨[(2,P0 0 0),(6,.dat T1 z.1),(7,.dat .bool z.2)],h0 [],1⟩)]) (E4 (iuR [1]) (R7 (AJ (AI rfl TV)))) (fun m=>F3 (fun Gf=>F3 (fun ok=>fun v19 z q=>?_))) ?_
 ·have q:f36_l3 n d _ Gf ok v19=some z:=q
  unfold f36_l3 at q
  refine OL (OL (cI q (fun q=>?_) (fun q=>?_)))
  ·refine OL (OL (gI q (fun q=>?_)))
   refine OL (OL (OL (EI (tU 0 5 (.take 7 (.alt 5 (.take 6 .done) .done))) (EI [] (EI [] (AI rfl (gI q (fun q=>?_))))))))
   refine AI TV ?_
   obtain ⟨q5_5,h,q⟩:=bE q
   refine OL (cA H64 (((rd (Ty.z T3) n.2 v19).1,((rd (Ty.z T3) n.2 v19).2).1,((rd (Ty.z T3) n.2 v19).2).2),(rd (Ty.z T6) d v19)) h rfl (R3 (K0 ?_)))
   obtain ⟨z24,h,q⟩:=bE q
   refine lJ h (fun x=>⟨[(1,.dat T7 d),(2,P0 0 0),(6,.dat T1 x.1),(7,.dat .bool x.2.1),(8,.dat T1 v19),(17,.dat T5 n.2),(18,.dat T1 (n.2.length:Int)),(19,.dat T1 v19),(29,O0 1),(30,.dat T1 (q5_5.length:Int)),(31,.dat T1 x.2.2)],h0 [(1,.arr 23 T6 q5_5)],2⟩) (fun z=>[(4,⟨[(1,.dat T7 d),(2,P0 0 0),(6,.dat T1 z.1),(7,.dat .bool z.2),(8,.dat T1 v19),(17,.dat T5 n.2),(18,.dat T1 (n.2.length:Int)),(19,.dat T1 v19)],h0 [],1⟩)]) (E4 (iuR [1,3]) (R10 (AI (R2 TV) (R2 TV)))) (fun m=>F3 (fun many_2=>F3 (fun ok_2=>fun v31 z q=>?_))) ?_
   ·have q:f36_l4 q5_5 _ many_2 ok_2 v31=some z:=q
    unfold f36_l4 at q
    refine OL (OL (cI q (fun q=>?_) (fun q=>?_)))
    ·refine OL (OL (gI q (fun q=>?_)))
     refine OL ?_
     obtain ⟨r25,h,q⟩:=bE q
     refine OL (cA H42 (rd (Ty.z T6) q5_5 v31) h rfl (AI rfl (K0 (cI q (fun q=>?_) (fun q=>?_)))))
     ·refine gX ?_
      obtain ⟨r26,h,q⟩:=bE q
      refine OL (cA H65 (rd (Ty.z T6) q5_5 v31) h rfl (AI rfl (K0 (cT (EI ((i64.wrap (many_2+r25)),r26,(i64.wrap (v31+1))) (AI q (E4 I2 (R10 (AI (R2 TV) (R2 TV))))))))))
     refine gM (cF (EI ((i64.wrap (many_2+r25)),false,(i64.wrap (v31+1))) (AI q (E4 I2 (R10 (AI (R2 TV) (R2 TV)))))))
    cases sE q
    refine E4 (iuR [1]) (R8 (AJ (AI rfl TV)))
   refine AI (cI q (fun q=>?_) (fun q=>?_)) TV
   ·refine gX (gX (gI q (fun q=>?_)))
    refine gX (gX ?_)
    obtain ⟨r27,h,q⟩:=bE q
    refine OL (cA H65 (rd (Ty.z T6) d v19) h rfl (AI rfl (K0 (cT (cI q (fun q=>?_) (fun q=>?_))))))
    ·refine gX (gX (gX (gI q (fun q=>?_))))
     refine gX (gX ?_)
     obtain ⟨r28,h,q⟩:=bE q
     refine OL (cA H65 (rd (Ty.z T6) d (i64.wrap (v19+1))) h rfl (AI rfl (K0 (cT (EI (z24.1,r28,(i64.wrap (v19+1))) (AI q (E4 (iuR [1]) (R7 (AJ (AI rfl TV))))))))))
    refine gM (gM (gM (gM (gM (cF (EI (z24.1,false,(i64.wrap (v19+1))) (AI q (E4 (iuR [1]) (R7 (AJ (AI rfl TV)))))))))))
   refine gM (gM (gM (gM (cF (gM (gM (gM (gM (gM (gM (cF (EI (z24.1,false,(i64.wrap (v19+1))) (AI q (E4 (iuR [1]) (R7 (AJ (AI rfl TV)))))))))))))))))
  cases sE q
  refine E4 (iuR [1]) (R3 (AJ (AI rfl TV)))
 refine AI (OL (cI q (fun q=>?_) (fun q=>?_))) TV
 ·refine gX (gX ?_)
  obtain ⟨r29,h,q⟩:=bE q
  refine OL (cA H65 n.1 h rfl (AI rfl (K0 (cT (cI q (fun q=>?_) (fun q=>?_))))))
  ·refine gX (cT ?_)
   cases sE q
   refine AI rfl (E4 [] (R3 (AI TV TV)))
  refine gM (cF ?_)
  cases sE q
  refine AI rfl (E4 [] (R3 (AI TV TV)))
 refine gM (gM (cF (gM (gM (cF ?_)))))
 cases sE q
 refine AI rfl (E4 [] (R3 (AI TV TV)))
theorem H36:HI C36 36:=hI Tryz.f36 rfl fun x=>V36 x.1 x.2
def f11 (n:Jd):Option PTz10:=
 Ey (f34 (n.1,n.2)) fun r1=>
 bif (!r1) then
 some ((1:Int),[])
 else
 Ey (f35 (n.1,n.2)) fun r2=>
 bif (!r2.1) then
 some ((4:Int),[])
 else
 Ey (f36 (n.1,n.2) r2.2) fun r3=>
 bif (!r3.2) then
 some ((2:Int),[])
 else
 some ((0:Int),r2.2)
def C11:Con:=⟨Jd,PTz10,0,fun x=>[.dat T4 x],NX,fun x=>f11 x,fun y=>[O0 0,.dat T1 y.1],fun y=>[(0,.arr 23 T6 y.2)],1⟩
theorem V11 n y (q:f11 n=some y):VC Tryz.f11 C11 n y:=by
 unfold f11 at q
 refine OL (OL (OL ?_))
 obtain ⟨r1,h,q⟩:=bE q
 refine OL (cA H34 (n.1,n.2) h rfl (R2 (K0 (cI q (fun q=>?_) (fun q=>?_)))))
 ·cases sE q
  refine OL (AI rfl (E4 (iuR [0]) (R2 (AJ (AI rfl TV)))))
 refine OL ?_
 obtain ⟨r2,h,q⟩:=bE q
 refine OL (cA H35 (n.1,n.2) h rfl (R2 (K0 (OL (OL (cI q (fun q=>?_) (fun q=>?_)))))))
 ·cases sE q
  refine OL (AI rfl (E4 (iuR [0]) (R2 (AJ (AI rfl TV)))))
 refine OL (OL ?_)
 obtain ⟨r3,h,q⟩:=bE q
 refine OL (cD H36 ((n.1,n.2),r2.2) h rfl (R3 (AI (fun _=>rfl) (R2 (AI TV (AI TV (OL (cI q (fun q=>?_) (fun q=>?_)))))))))
 ·cases sE q
  refine OL (AI rfl (E4 (iuR [0]) (R2 (AJ (AI rfl TV)))))
 cases sE q
 refine OL (AI rfl (E4 (iuR [2]) (R2 (AJ (AI rfl TV)))))
theorem H11:HI C11 11:=hI Tryz.f11 rfl fun x=>V11 x
def f10 (text:ByteArray):Option (Jd×Int):=
 bif (decide ((ByteArray.size text:Int)>16384)) then
 some (([],[]),(2:Int))
 else
 Ey (f31_32 text) fun r1=>
 Ey (f33 r1) fun r2=>
 bif (!r2.1) then
 some (([],[]),(7:Int))
 else
 Ey (f11 (r2.2.1,r2.2.2)) fun r3=>
 bif (r3.1 != 0) then
 some (([],[]),r3.1)
 else
 some ((r2.2.1,r2.2.2),(0:Int))
def C10:Con:=⟨ByteArray,Jd×Int,0,fun x=>[.dat .str x],NX,fun x=>f10 x,fun y=>[.dat T4 y.1,.dat T1 y.2],NX,0⟩
theorem V10 text y (q:f10 text=some y):VC Tryz.f10 C10 text y:=by
 unfold f10 at q
 refine OL (OL (OL (cI q (fun q=>?_) (fun q=>?_))))
 ·refine OL (OL ?_)
  cases sE q
  refine AI rfl (E4 [] (R4 (AI TV TV)))
 refine OL ?_
 obtain ⟨r1,h,q⟩:=bE q
 refine OL (AI f31_32_in (cV (cQ C31_32 text r1 [] false C31_32_holds h rfl rfl (AI rfl (AI NH (R2 (AJ (AI TV (OL ?_)))))))))
 obtain ⟨r2,h,q⟩:=bE q
 refine OL (cD H33 r1 h rfl (AI rfl (AI (fun _=>rfl) (R2 (AI TV (AI TV (OL (OL (OL (cI q (fun q=>?_) (fun q=>?_)))))))))))
 ·refine OL (OL ?_)
  cases sE q
  refine AI rfl (E4 [] (R4 (AI TV TV)))
 refine OL (OL ?_)
 obtain ⟨r3,h,q⟩:=bE q
 refine OL (cA H11 (r2.2.1,r2.2.2) h rfl (R2 (K0 (OL (cI q (fun q=>?_) (fun q=>?_))))))
 ·refine OL (OL ?_)
  cases sE q
  refine AI rfl (E4 [] (R4 (AI TV TV)))
 refine OL (OL ?_)
 cases sE q
 refine AI rfl (E4 [] (R4 (AI TV TV)))
theorem H10:HI C10 10:=hI Tryz.f10 rfl fun x=>V10 x
def f12 (n:Jd):Option F9:=
 Ey (f11 (n.1,n.2)) fun r1=>
 bif (r1.1 != 0) then
 some ((0:Int),r1.1)
 else
 Ey (f36 (n.1,n.2) r1.2) fun r2=>
 some (r2.1,(0:Int))
def C12:Con:=⟨Jd,F9,0,fun x=>[.dat T4 x],NX,fun x=>f12 x,fun y=>[.dat T1 y.1,.dat T1 y.2],NX,0⟩
theorem V12 n y (q:f12 n=some y):VC Tryz.f12 C12 n y:=by
 unfold f12 at q
 refine OL (OL ?_)
 obtain ⟨r1,h,q⟩:=bE q
 refine OL (cA H11 (n.1,n.2) h rfl (R2 (K0 (OL (OL (cI q (fun q=>?_) (fun q=>?_)))))))
 ·cases sE q
  refine OL (AI rfl (E4 [] (R3 (AI TV TV))))
 refine OL ?_
 obtain ⟨r2,h,q⟩:=bE q
 refine OL (cD H36 ((n.1,n.2),r1.2) h rfl (R3 (AI (fun _=>rfl) (R2 (AI TV (AI TV (OL ?_)))))))
 cases sE q
 refine AI rfl (E4 [] (R3 (AI TV TV)))
theorem H12:HI C12 12:=hI Tryz.f12 rfl fun x=>V12 x
def f20:Option Unit:=
 some ()
def C20:Con:=⟨Unit,Unit,0,fun x=>[],NX,fun x=>f20,fun y=>[P0 0 0],fun y=>[(0,.cells [(.osl 1)]),(1,.arr 61 T8 ([]))],2⟩
theorem V20 y (q:f20=some y):VC Tryz.f20 C20 () y:=by
 unfold f20 at q
 refine OL (OL ?_)
 cases sE q
 refine AI rfl (E4 (iuR [1,0]) (AI rfl (AJ (R2 TV))))
theorem H20:HI C20 20:=hI Tryz.f20 rfl fun x=>V20
def f25 (t_l:NL):Option (Int×NL):=
 some ((t_l.length:Int),t_l)
def C25:Con:=⟨NL,Int×NL,2,fun x=>[P0 0 0],fun x=>[(0,.cells [(.osl 1)]),(1,.arr 61 T8 x)],fun x=>f25 x,fun y=>[.dat T1 y.1],fun y=>[(0,.cells [(.osl 1)]),(1,.arr 61 T8 y.2)],2⟩
theorem V25 t_l y (q:f25 t_l=some y):VE Tryz.f25 2 C25 t_l y:=by
 unfold f25 at q
 refine OL (OL ?_)
 cases sE q
 refine AI rfl (E4 I2 (R2 (AI TV (R2 TV))))
theorem H25:HI C25 25:=hI Tryz.f25 rfl fun x=>V25 x
def f117 (d:LI):Option Int:=
 Ey (f89 d) fun r1=>
 some r1
def C117:Con:=⟨LI,Int,0,fun x=>[.dat T6 x],NX,fun x=>f117 x,fun y=>[.dat T1 y],NX,0⟩
theorem V117 d y (q:f117 d=some y):VC Tryz.f117 C117 d y:=by
 unfold f117 at q
 refine OL (OL ?_)
 obtain ⟨r1,h,q⟩:=bE q
 refine OL (cA H89 d h rfl (AI rfl (K0 ?_)))
 cases sE q
 refine AI rfl (E4 [] (R2 (AI TV TV)))
theorem H117:HI C117 117:=hI Tryz.f117 rfl fun x=>V117 x
def f91 (t:Fy):Option Bool:=
 Ey (f65 t.1) fun q1_2=>
 bif q1_2 then
 Ey (f117 t.1) fun q1_9=>
 some ((t.2.length:Int)==q1_9)
 else
 some false
def C91:Con:=⟨Fy,Bool,0,fun x=>[.dat T9 x],NX,fun x=>f91 x,fun y=>[.dat .bool y],NX,0⟩
theorem V91 t y (q:f91 t=some y):VC Tryz.f91 C91 t y:=by
 unfold f91 at q
 refine OL (OL (EI (.take 0 (.take 1 (.alt 2 (tU 3 6 (.alt 9 (tU 10 3 .done) .done)) .done))) (EI [] (EI [] (AI rfl (AI TV ?_))))))
 obtain ⟨q1_2,h,q⟩:=bE q
 refine OL (cA H65 t.1 h rfl (AI rfl (K0 (cI q (fun q=>?_) (fun q=>?_)))))
 ·refine gX (gX (gX (gX (AI TV (gX ?_)))))
  obtain ⟨q1_9,h,q⟩:=bE q
  refine OL (cA H117 t.1 h rfl (AI rfl (K0 (gX (cT ?_)))))
  cases sE q
  refine AI rfl (E4 [] (R2 (AI TV TV)))
 refine gM (gM (gM (gM (AI TV (gM (gM (cF ?_)))))))
 cases sE q
 refine AI rfl (E4 [] (R2 (AI TV TV)))
theorem H91:HI C91 91:=hI Tryz.f91 rfl fun x=>V91 x
def f75 (s:LI):Option LI:=
 nilF s
 (some ([]))
 (E9 ((List.length ([]:LI)+s.length)*8≤140737488355328)<|
 some (([]:LI)++s))
def C75:Con:=⟨LI,LI,0,fun x=>[.dat T6 x],NX,fun x=>f75 x,fun y=>[O0 0],fun y=>[(0,.arr 57 T1 y)],1⟩
theorem V75 s y (q:f75 s=some y):VC Tryz.f75 C75 s y:=by
 unfold f75 at q
 refine OL (OL (OL (nilI q (fun q=>?_) (fun q=>?_))))
 ·refine cT (OL ?_)
  cases sE q
  refine AI rfl (E4 (iuR [0]) (AI rfl (AJ (AI rfl TV))))
 refine cF (OL (OL (OL (gI q (fun q=>?_)))))
 cases sE q
 refine AI rfl (E4 (iuR [2]) (AI rfl (AJ (AI rfl TV))))
theorem H75:HI C75 75:=hI Tryz.f75 rfl fun x=>V75 x
def f49 (t:Fy):Option Fy:=
 Ey (f61 t.1) fun q1_2=>
 Ey (f75 t.2) fun q1_5=>
 some (q1_2,q1_5)
def C49:Con:=⟨Fy,Fy,0,fun x=>[.dat T9 x],NX,fun x=>f49 x,fun y=>[.raw true [(.osl 0),(.osl 1)]],fun y=>[(0,.arr 3 T1 y.1),(1,.arr 57 T1 y.2)],2⟩
theorem V49 t y (q:f49 t=some y):VC Tryz.f49 C49 t y:=by
 unfold f49 at q
 refine OL (OL (EI (.take 0 (.take 1 (.take 3 (.take 4 (.alt 2 (.alt 5 (.take 6 (.alt 7 .done .done)) .done) .done))))) (EI [] (EI [] (AI rfl (AI TV ?_))))))
 obtain ⟨q1_2,h,q⟩:=bE q
 refine OL (cA H61 t.1 h rfl (AI rfl (K0 (AI TV ?_))))
 obtain ⟨q1_5,h,q⟩:=bE q
 refine OL (cA H75 t.2 h rfl (AI rfl (K0 (AI TV (OL ?_)))))
 cases sE q
 refine AI rfl (E4 (iuR [3,4]) (AI rfl (AJ (R2 TV))))
theorem H49:HI C49 49:=hI Tryz.f49 rfl fun x=>V49 x
def f92 (t_l:NL) (n:ND):Option (Int×NL):=
 E9 ((t_l.length+List.length ([(n.1,n.2.1,n.2.2.1,n.2.2.2.1,n.2.2.2.2.1,n.2.2.2.2.2)]))*80≤140737488355328)<|
 some ((i64.wrap ((List.length (t_l++([(n.1,n.2.1,n.2.2.1,n.2.2.2.1,n.2.2.2.2.1,n.2.2.2.2.2)])):Int)-1)),(t_l++([(n.1,n.2.1,n.2.2.1,n.2.2.2.1,n.2.2.2.2.1,n.2.2.2.2.2)])))
def C92:Con:=⟨NL×(ND),Int×NL,2,fun x=>[P0 0 0,.dat T8 x.2],fun x=>[(0,.cells [(.osl 1)]),(1,.arr 61 T8 x.1)],fun x=>f92 x.1 x.2,fun y=>[.dat T1 y.1,D0 0],fun y=>[(0,.cells [(.osl 2)]),(2,.arr 61 T8 y.2)],3⟩
theorem V92 t_l n y (q:f92 t_l n=some y):VE Tryz.f92 2 C92 (t_l,n) y:=by
 unfold f92 at q
 refine OL (OL (EI (tU 0 6 (.alt 6 (.alt 7 (.take 8 (.take 9 (.alt 10 .done .done))) .done) .done)) (EI [(10,[0])] (EI [] (AI rfl (AI TV (OL (AI TV (OL (gI q (fun q=>?_)))))))))))
 refine AI TV (OL (OL ?_))
 cases sE q
 refine AI rfl (E4 [(0,some 0),(2,some 4)] (R3 (AI TV (R2 TV))))
theorem H92:HI C92 92:=hI Tryz.f92 rfl fun x=>V92 x.1 x.2
def f69 (t_l:NL) (x_:Fy):Option PTz8:=
 bif (decide ((t_l.length:Int)≥512)) then
 some ((0:Int),(2:Int),t_l)
 else
 Ey (f91 (x_.1,x_.2)) fun r1=>
 bif (!r1) then
 some ((0:Int),(1:Int),t_l)
 else
 Ey (f49 (x_.1,x_.2)) fun r2=>
 Ey (f92 t_l ((1:Int),(-1:Int),(-1:Int),(0:Int),r2.1,r2.2)) fun r3=>
 some (r3.1,(0:Int),r3.2)
def C69:Con:=⟨NL×Fy,PTz8,2,fun x=>[P0 0 0,.dat T9 x.2],fun x=>[(0,.cells [(.osl 1)]),(1,.arr 61 T8 x.1)],fun x=>f69 x.1 x.2,fun y=>[.dat T1 y.1,.dat T1 y.2.1],fun y=>[(0,.cells [(.osl 2)]),(2,.arr 61 T8 y.2.2)],3⟩
theorem V69 t_l x_ y (q:f69 t_l x_=some y):VE Tryz.f69 2 C69 (t_l,x_) y:=by
 unfold f69 at q
 refine OL (OL (OL (cI q (fun q=>?_) (fun q=>?_))))
 ·cases sE q
  refine OL (AI rfl (E4 [(0,some 0),(2,some 1)] (R3 (AI TV (R2 TV)))))
 refine OL ?_
 obtain ⟨r1,h,q⟩:=bE q
 refine OL (cA H91 (x_.1,x_.2) h rfl (R2 (K0 (cI q (fun q=>?_) (fun q=>?_)))))
 ·cases sE q
  refine OL (AI rfl (E4 [(0,some 0),(2,some 1)] (R3 (AI TV (R2 TV)))))
 refine OL ?_
 obtain ⟨r2,h,q⟩:=bE q
 refine OL (cA H49 (x_.1,x_.2) h rfl (R2 (K0 ?_)))
 obtain ⟨r3,hr3,q⟩:=bE q
 have hr3:C92.F (t_l,((1:Int),(-1:Int),(-1:Int),(0:Int),r2.1,r2.2))=some r3:=hr3
 refine OL (cB H92 _ I2 false hr3 rfl (R2 (AI NH (R2 (AJ (AI (R2 TV) ?_))))))
 cases sE q
 refine AI rfl (E4 [(0,some 0),(2,some 7)] (R3 (AI TV (R2 TV))))
theorem H69:HI C69 69:=hI Tryz.f69 rfl fun x=>V69 x.1 x.2
def f43 (r_t_l:NL) (r_e:Int) (r_p r_leafs d v:LI):Option PTz6:=
 bif (r_e != 0) then
 some ((0:Int),r_e,r_p,r_leafs,r_t_l)
 else
 Ey (f69 r_t_l (d,v)) fun r1=>
 some (r1.1,r1.2.1,r_p,r_leafs,r1.2.2)
def C43:Con:=⟨NL×Int×LI×LI×Fy,PTz6,4,fun x=>[P0 0 0,.dat T6 x.2.2.2.2.1,.dat T6 x.2.2.2.2.2],fun x=>[(0,.cells [(.ptr 1 0),(.d T1 x.2.1),(.d T6 x.2.2.1),(.osl 3)]),(1,.cells [(.osl 2)]),(2,.arr 61 T8 x.1),(3,.arr 3 T1 x.2.2.2.1)],fun x=>f43 x.1 x.2.1 x.2.2.1 x.2.2.2.1 x.2.2.2.2.1 x.2.2.2.2.2,fun y=>[.dat T1 y.1],fun y=>[(0,.cells [(.ptr 1 0),(.d T1 y.2.1),(.d T6 y.2.2.1),(.osl 3)]),(1,.cells [(.osl 4)]),(3,.arr 3 T1 y.2.2.2.1),(4,.arr 61 T8 y.2.2.2.2)],5⟩
theorem V43 r_t_l r_e r_p r_leafs d v y (q:f43 r_t_l r_e r_p r_leafs d v=some y):VE Tryz.f43 4 C43 (r_t_l,r_e,r_p,r_leafs,d,v) y:=by
 unfold f43 at q
 refine OL (OL (OL (cI q (fun q=>?_) (fun q=>?_))))
 ·cases sE q
  refine OL (AI rfl (E4 [(0,some 0),(1,some 1),(3,some 3),(4,some 2)] (R2 (AI TV (R4 TV)))))
 refine OL ?_
 obtain ⟨r1,h,q⟩:=bE q
 refine OL (cB H69 (r_t_l,(d,v)) (iuR [2,3]) false h rfl (R2 (AI NH (R2 (AJ (AI (R2 TV) (OL (OL (OL ?_)))))))))
 cases sE q
 refine AI rfl (E4 [(0,some 0),(1,some 1),(3,some 3),(4,some 6)] (R2 (AI TV (R4 TV))))
theorem H43:HI C43 43:=hI Tryz.f43 rfl fun x=>V43 x.1 x.2.1 x.2.2.1 x.2.2.2.1 x.2.2.2.2.1 x.2.2.2.2.2
def f70_j4 (l:List LI) (v12 c0_1:Int) (c0_2 l4:LI) (l5:NL):Option PTz6:=
 Ey (f42 (rd (Ty.z T6) l v12)) fun q5_7=>
 E9 (0≤q5_7∧q5_7≤c0_2.length)<|
 Ey (f43 l5 c0_1 c0_2 l4 (rd (Ty.z T6) l v12) (List.take (Int.toNat q5_7) c0_2)) fun q5_9=>
 some (q5_9.1,q5_9.2.1,q5_9.2.2.1,q5_9.2.2.2.1,q5_9.2.2.2.2)
def f70_l3 (l:List LI) (go:(Int×Int×PTz6)→Option (Int×PTz6)) (first last v12 c0_1:Int) (c0_2 l4:LI) (l5:NL):Option (Int×PTz6):=
 bif (decide (v12<l.length)) then
 E9 (0≤v12∧v12<l.length)<|
 Ey (f70_j4 l v12 c0_1 c0_2 l4 l5) fun z4=>
 Ey (f42 (rd (Ty.z T6) l v12)) fun q6_6=>
 E9 (0≤q6_6∧q6_6≤z4.2.2.1.length)<|
 E9 ((z4.2.2.2.1.length+List.length ([z4.1]))*8≤140737488355328)<|
 bif (v12==0) then
 go (z4.1,z4.1,(i64.wrap (v12+1)),z4.2.1,(List.drop (Int.toNat q6_6) z4.2.2.1),(z4.2.2.2.1++([z4.1])),z4.2.2.2.2)
 else
 go (first,z4.1,(i64.wrap (v12+1)),z4.2.1,(List.drop (Int.toNat q6_6) z4.2.2.1),(z4.2.2.2.1++([z4.1])),z4.2.2.2.2)
 else
 some (first,last,c0_1,c0_2,l4,l5)
def f70 (r_t_l:NL) (r_e:Int) (r_p r_leafs:LI) (l:List LI):Option (Int×PTz6):=
 Ey (Fq (fun go x=>f70_l3 l go x.1 x.2.1 x.2.2.1 x.2.2.2.1 x.2.2.2.2.1 x.2.2.2.2.2.1 x.2.2.2.2.2.2) Fv ((0:Int),(0:Int),(0:Int),r_e,r_p,r_leafs,r_t_l)) fun z3=>
 some (z3.1,z3.2.1,z3.2.2.1,z3.2.2.2.1,z3.2.2.2.2.1,z3.2.2.2.2.2)
def C70:Con:=⟨NL×Int×LI×LI×(List LI),Int×PTz6,4,fun x=>[P0 0 0,.dat T7 x.2.2.2.2],fun x=>[(0,.cells [(.ptr 1 0),(.d T1 x.2.1),(.d T6 x.2.2.1),(.osl 3)]),(1,.cells [(.osl 2)]),(2,.arr 61 T8 x.1),(3,.arr 3 T1 x.2.2.2.1)],fun x=>f70 x.1 x.2.1 x.2.2.1 x.2.2.2.1 x.2.2.2.2,fun y=>[.dat T1 y.1,.dat T1 y.2.1],fun y=>[(0,.cells [(.ptr 1 0),(.d T1 y.2.2.1),(.d T6 y.2.2.2.1),(.osl 4)]),(1,.cells [(.osl 5)]),(4,.arr 3 T1 y.2.2.2.2.1),(5,.arr 61 T8 y.2.2.2.2.2)],6⟩
theorem V70 r_t_l r_e r_p r_leafs l y (q:f70 r_t_l r_e r_p r_leafs l=some y):VE Tryz.f70 4 C70 (r_t_l,r_e,r_p,r_leafs,l) y:=by
 unfold f70 at q
 refine OL (OL (OL (OL ?_)))
 obtain ⟨z3,h,q⟩:=bE q
 refine lJ h (fun x=>⟨[(0,P0 0 0),(6,.dat T1 x.1),(7,.dat T1 x.2.1),(10,.dat T7 l),(11,.dat T1 (l.length:Int)),(12,.dat T1 x.2.2.1)],[(0,.cells [(.ptr 1 0),(.d T1 x.2.2.2.1),(.d T6 x.2.2.2.2.1),(.osl 4)]),(1,.cells [(.osl 5)]),(4,.arr 3 T1 x.2.2.2.2.2.1),(5,.arr 61 T8 x.2.2.2.2.2.2)],6⟩) (fun z=>[(2,⟨[(6,.dat T1 z.1),(7,.dat T1 z.2.1)],[(0,.cells [(.ptr 1 0),(.d T1 z.2.2.1),(.d T6 z.2.2.2.1),(.osl 4)]),(1,.cells [(.osl 5)]),(4,.arr 3 T1 z.2.2.2.2.1),(5,.arr 61 T8 z.2.2.2.2.2)],6⟩)]) (E4 [(0,some 0),(1,some 1),(4,some 3),(5,some 2)] (R6 (AJ (R4 TV)))) (fun m=>F3 (fun first=>F3 (fun last=>F3 (fun v12=>F3 (fun c0_1=>F3 (fun c0_2=>F3 (fun l4=>fun l5 z q=>?_))))))) ?_
 ·have q:f70_l3 l _ first last v12 c0_1 c0_2 l4 l5=some z:=q
  unfold f70_l3 at q
  refine OL (OL (cI q (fun q=>?_) (fun q=>?_)))
  ·refine OL (OL (gI q (fun q=>?_)))
   obtain ⟨z4,hz4,q⟩:=bE q
   refine OQ ⟨[(0,⟨[(0,P0 0 0),(6,.dat T1 first),(7,.dat T1 z4.1),(8,.dat T1 v12),(9,.dat T6 (rd (Ty.z T6) l v12)),(10,.dat T7 l),(11,.dat T1 (l.length:Int)),(12,.dat T1 v12)],[(0,.cells [(.ptr 1 0),(.d T1 z4.2.1),(.d T6 z4.2.2.1),(.osl 4)]),(1,.cells [(.osl 5)]),(4,.arr 3 T1 z4.2.2.2.1),(5,.arr 61 T8 z4.2.2.2.2)],6⟩)],?_,?_⟩
   ·have q:=hz4
    clear hz4
    unfold f70_j4 at q
    obtain ⟨q5_7,hq5_7,q⟩:=bE q
    obtain ⟨g5_1,q⟩:=gE q
    obtain ⟨q5_9,hq5_9,q⟩:=bE q
    refine EI (tU 0 5 (.take 6 (.alt 5 (.alt 7 (.take 8 (.alt 9 (.take 10 .done) .done)) .done) (.alt 7 (.alt 5 (.take 8 (.alt 9 (.take 10 .done) .done)) .done) .done)))) (EI [(9,[0])] (EI [] (AI rfl (AI (AI TV ?_) ?_))))
    ·refine OL (cA H42 (rd (Ty.z T6) l v12) hq5_7 rfl (AI rfl (K0 (AI TV (AI g5_1 (AI TV (OL (cB H43 (l5,c0_1,c0_2,l4,(rd (Ty.z T6) l v12),(List.take (Int.toNat q5_7) c0_2)) (iuR [1,2,6,5]) false hq5_9 rfl (R2 (AI NH (R2 (AJ (AI (R4 TV) ?_)))))))))))))
     cases sE q
     refine E4 [(0,some 0),(1,some 1),(4,some 4),(5,some 10)] (R8 (AJ (R4 TV)))
    refine AI TV (OL (cA H42 (rd (Ty.z T6) l v12) hq5_7 rfl (AI rfl (K0 (AI g5_1 (AI TV (OL (cB H43 (l5,c0_1,c0_2,l4,(rd (Ty.z T6) l v12),(List.take (Int.toNat q5_7) c0_2)) (iuR [1,2,6,5]) false hq5_9 rfl (R2 (AI NH (R2 (AJ (AI (R4 TV) ?_)))))))))))))
    cases sE q
    refine E4 [(0,some 0),(1,some 1),(4,some 4),(5,some 10)] (R8 (AJ (R4 TV)))
   refine AI (OL (EI (tU 0 6 (.alt 6 (tU 7 3 (.alt 10 .done .done)) .done)) (EI [(10,[0])] (EI [] (AI rfl (AI TV ?_)))))) TV
   obtain ⟨q6_6,h,q⟩:=bE q
   refine OL (cA H42 (rd (Ty.z T6) l v12) h rfl (AI rfl (K0 (gI q (fun q=>?_)))))
   refine AI TV (OL (OL (OL (OL (gI q (fun q=>?_))))))
   refine OL (OL (cI q (fun q=>?_) (fun q=>?_)))
   ·refine EI (z4.1,z4.1,(i64.wrap (v12+1)),z4.2.1,(List.drop (Int.toNat q6_6) z4.2.2.1),(z4.2.2.2.1++([z4.1])),z4.2.2.2.2) (AI q (E4 [(0,some 0),(1,some 1),(4,some 7),(5,some 5)] (R6 (AJ (R4 TV)))))
   refine EI (first,z4.1,(i64.wrap (v12+1)),z4.2.1,(List.drop (Int.toNat q6_6) z4.2.2.1),(z4.2.2.2.1++([z4.1])),z4.2.2.2.2) (AI q (E4 [(0,some 0),(1,some 1),(4,some 7),(5,some 5)] (R6 (AJ (R4 TV)))))
  cases sE q
  refine E4 [(0,some 0),(1,some 1),(4,some 4),(5,some 5)] (R3 (AI TV (R4 TV)))
 refine AI (OL ?_) TV
 cases sE q
 refine AI rfl (E4 [(0,some 0),(1,some 1),(4,some 4),(5,some 5)] (R3 (AI TV (R4 TV))))
theorem H70:HI C70 70:=hI Tryz.f70 rfl fun x=>V70 x.1 x.2.1 x.2.2.1 x.2.2.2.1 x.2.2.2.2
def f48 (t_l:NL) (n:Int):Option (Bool×NL):=
 bif (decide (n≥0)) then
 some ((decide (n<t_l.length)),t_l)
 else
 some (false,t_l)
def C48:Con:=⟨NL×Int,Bool×NL,2,fun x=>[P0 0 0,.dat T1 x.2],fun x=>[(0,.cells [(.osl 1)]),(1,.arr 61 T8 x.1)],fun x=>f48 x.1 x.2,fun y=>[.dat .bool y.1],fun y=>[(0,.cells [(.osl 1)]),(1,.arr 61 T8 y.2)],2⟩
theorem V48 t_l n y (q:f48 t_l n=some y):VE Tryz.f48 2 C48 (t_l,n) y:=by
 unfold f48 at q
 refine OL (OL (cI q (fun q=>?_) (fun q=>?_)))
 ·refine gX (gX (gX (gX (gX (gX (cT ?_))))))
  cases sE q
  refine AI rfl (E4 I2 (R2 (AI TV (R2 TV))))
 refine gM (gM (gM (gM (gM (gM (cF ?_))))))
 cases sE q
 refine AI rfl (E4 I2 (R2 (AI TV (R2 TV))))
theorem H48:HI C48 48:=hI Tryz.f48 rfl fun x=>V48 x.1 x.2
def f118 (op:Int):Option Bool:=
 bif (op==2) then
 some true
 else
 bif (op==3) then
 some true
 else
 bif (op==4) then
 some true
 else
 bif (op==6) then
 some true
 else
 some (op==12)
def C118:Con:=⟨Int,Bool,0,fun x=>[.dat T1 x],NX,fun x=>f118 x,fun y=>[.dat .bool y],NX,0⟩
theorem V118 op y (q:f118 op=some y):VC Tryz.f118 C118 op y:=by
 unfold f118 at q
 refine OL (OL (cN q (fun q=>?_) (fun q=>?_)))
 ·refine gY (cF (cN q (fun q=>?_) (fun q=>?_)))
  ·refine gY (cF (cN q (fun q=>?_) (fun q=>?_)))
   ·refine gY (cF (cN q (fun q=>?_) (fun q=>?_)))
    ·refine gY (cF ?_)
     cases sE q
     refine AI rfl (E4 [] (R2 (AI TV TV)))
    refine gN (cT ?_)
    cases sE q
    refine AI rfl (E4 [] (R2 (AI TV TV)))
   refine gN (cT (gN (gN (cT ?_))))
   cases sE q
   refine AI rfl (E4 [] (R2 (AI TV TV)))
  refine gN (cT (gN (gN (cT (gN (gN (cT ?_)))))))
  cases sE q
  refine AI rfl (E4 [] (R2 (AI TV TV)))
 refine gN (cT (gN (gN (cT (gN (gN (cT (gN (gN (cT ?_))))))))))
 cases sE q
 refine AI rfl (E4 [] (R2 (AI TV TV)))
theorem H118:HI C118 118:=hI Tryz.f118 rfl fun x=>V118 x
def f119 (op:Int):Option Bool:=
 bif (op==5) then
 some true
 else
 bif (op==8) then
 some true
 else
 bif (op==11) then
 some true
 else
 bif (op==12) then
 some true
 else
 some (op==13)
def C119:Con:=⟨Int,Bool,0,fun x=>[.dat T1 x],NX,fun x=>f119 x,fun y=>[.dat .bool y],NX,0⟩
theorem V119 op y (q:f119 op=some y):VC Tryz.f119 C119 op y:=by
 unfold f119 at q
 refine OL (OL (cN q (fun q=>?_) (fun q=>?_)))
 ·refine gY (cF (cN q (fun q=>?_) (fun q=>?_)))
  ·refine gY (cF (cN q (fun q=>?_) (fun q=>?_)))
   ·refine gY (cF (cN q (fun q=>?_) (fun q=>?_)))
    ·refine gY (cF ?_)
     cases sE q
     refine AI rfl (E4 [] (R2 (AI TV TV)))
    refine gN (cT ?_)
    cases sE q
    refine AI rfl (E4 [] (R2 (AI TV TV)))
   refine gN (cT (gN (gN (cT ?_))))
   cases sE q
   refine AI rfl (E4 [] (R2 (AI TV TV)))
  refine gN (cT (gN (gN (cT (gN (gN (cT ?_)))))))
  cases sE q
  refine AI rfl (E4 [] (R2 (AI TV TV)))
 refine gN (cT (gN (gN (cT (gN (gN (cT (gN (gN (cT ?_))))))))))
 cases sE q
 refine AI rfl (E4 [] (R2 (AI TV TV)))
theorem H119:HI C119 119:=hI Tryz.f119 rfl fun x=>V119 x
def f222 (d:LI) (i:Int):Option Int:=
 bif (decide (i≥d.length)) then
 some (1:Int)
 else
 E9 (0≤(i64.wrap ((i64.wrap ((d.length:Int)-1))-i))∧(i64.wrap ((i64.wrap ((d.length:Int)-1))-i))<d.length)<|
 some (rd 0 d (i64.wrap ((i64.wrap ((d.length:Int)-1))-i)))
def C222:Con:=⟨LI×Int,Int,0,fun x=>[.dat T6 x.1,.dat T1 x.2],NX,fun x=>f222 x.1 x.2,fun y=>[.dat T1 y],NX,0⟩
theorem V222 d i y (q:f222 d i=some y):VC Tryz.f222 C222 (d,i) y:=by
 unfold f222 at q
 refine OL (OL (OL (cI q (fun q=>?_) (fun q=>?_))))
 ·cases sE q
  refine OL (AI rfl (E4 [] (R2 (AI TV TV))))
 refine OL (gI q (fun q=>?_))
 cases sE q
 refine AI rfl (E4 [] (R2 (AI TV TV)))
theorem H222:HI C222 222:=hI Tryz.f222 rfl fun x=>V222 x.1 x.2
def f195_j1 (a b:LI):Option (Sum Unit Unit):=
 Ey (f65 a) fun r4=>
 bif (!r4) then
 some (Sum.inr ())
 else
 Ey (f65 b) fun r5=>
 bif (!r5) then
 some (Sum.inr ())
 else
 some (Sum.inl ())
def f195_j5 (r13 r14:Int):Option (Sum Unit Unit):=
 bif (r13 != r14) then
 bif (r13 != 1) then
 bif (r14 != 1) then
 some (Sum.inr ())
 else
 some (Sum.inl ())
 else
 some (Sum.inl ())
 else
 some (Sum.inl ())
def f195_l4 (a b:LI) (go:K4→Option (Sum Unit LI)) (v26:Int) (l0:LI):Option (Sum Unit LI):=
 bif (decide (v26<(List.length (List.replicate (Int.toNat (if (b.length:Int)>a.length then (b.length:Int) else (a.length:Int))) (0:Int)):Int))) then
 Ey (f222 a v26) fun r13=>
 Ey (f222 b v26) fun r14=>
 Ey (f195_j5 r13 r14) fun z15=>
 Fx z15 (fun z15a=>
 E9 (0≤(i64.wrap ((i64.wrap ((l0.length:Int)-1))-v26))∧(i64.wrap ((i64.wrap ((l0.length:Int)-1))-v26))<l0.length)<|
 go ((i64.wrap (v26+1)),(List.set l0 (Int.toNat (i64.wrap ((i64.wrap ((l0.length:Int)-1))-v26))) (if r14>r13 then r14 else r13)))) (fun z15b=>
 some (Sum.inl ()))
 else
 some (Sum.inr l0)
def f195 (a b:LI):Option K4:=
 Ey (f195_j1 a b) fun z3=>
 Fx z3 (fun z3a=>
 E9 (0≤(if (b.length:Int)>a.length then (b.length:Int) else (a.length:Int))∧(if (b.length:Int)>a.length then (b.length:Int) else (a.length:Int))≤(if (b.length:Int)>a.length then (b.length:Int) else (a.length:Int))∧Int.toNat (if (b.length:Int)>a.length then (b.length:Int) else (a.length:Int))*8≤140737488355328)<|
 Ey (Fq (fun go x=>f195_l4 a b go x.1 x.2) Fv ((0:Int),(List.replicate (Int.toNat (if (b.length:Int)>a.length then (b.length:Int) else (a.length:Int))) (0:Int)))) fun z12=>
 Fx z12 (fun z12a=>
 some ((4:Int),[])) (fun z12b=>
 Ey (f65 z12b) fun r16=>
 bif (!r16) then
 some ((2:Int),[])
 else
 some ((0:Int),z12b))) (fun z3b=>
 some ((1:Int),[]))
def C195:Con:=⟨Fy,K4,0,fun x=>[.dat T6 x.1,.dat T6 x.2],NX,fun x=>f195 x.1 x.2,fun y=>[O0 0,.dat T1 y.1],fun y=>[(0,.arr 3 T1 y.2)],1⟩
theorem V195 a b y (q:f195 a b=some y):VC Tryz.f195 C195 (a,b) y:=by
 unfold f195 at q
 refine OL ?_
 obtain ⟨z3,hz3,q⟩:=bE q
 refine OQ ⟨Sum.elim (fun z3a=>[(0,⟨[(0,.dat T6 a),(1,.dat T6 b)],[],0⟩)]) (fun z3b=>[(1,⟨[(4,.raw false [N0]),(5,D0 1)],[],0⟩)]) z3,?_,?_⟩
 ·have q:=hz3
  clear hz3
  unfold f195_j1 at q
  refine OL ?_
  obtain ⟨r4,h,q⟩:=bE q
  refine OL (cA H65 a h rfl (AI rfl (K0 (cN q (fun q=>?_) (fun q=>?_)))))
  ·refine gY ?_
   obtain ⟨r5,h,q⟩:=bE q
   refine OL (cA H65 b h rfl (AI rfl (K0 (gY (cF (cI q (fun q=>?_) (fun q=>?_)))))))
   ·cases sE q
    refine OL (E4 [] (R2 (AJ TV)))
   cases sE q
   refine E4 [] (R3 (AI TV TV))
  refine gN (gN (cT (cT (OL ?_))))
  cases sE q
  refine E4 [] (R2 (AJ TV))
 rcases z3 with z3a | z3b
 ·dsimp only [Fx] at q
  refine AI (OL (gI q (fun q=>?_))) TV
  refine OL (OL ?_)
  obtain ⟨z12,h,q⟩:=bE q
  refine lJ h (fun x=>⟨[(0,.dat T6 a),(1,.dat T6 b),(6,O0 0),(25,.dat T1 (List.length (List.replicate (Int.toNat (if (b.length:Int)>a.length then (b.length:Int) else (a.length:Int))) (0:Int)):Int)),(26,.dat T1 x.1)],[(0,.arr 3 T1 x.2)],1⟩) (fun z=>Sum.elim (fun za=>[(1,⟨[(4,.raw false [N0]),(5,D0 4)],[],0⟩)]) (fun zb=>[(2,⟨[(6,O0 0)],[(0,.arr 3 T1 zb)],1⟩)]) z) (E4 (iuR [1]) (R5 (AJ (AI rfl TV)))) (fun m=>F3 (fun v26=>fun l0 z q=>?_)) ?_
  ·have q:f195_l4 a b _ v26 l0=some z:=q
   unfold f195_l4 at q
   refine OL (OL (cI q (fun q=>?_) (fun q=>?_)))
   ·refine OL (OL (OL ?_))
    obtain ⟨r13,h,q⟩:=bE q
    refine OL (cA H222 (a,v26) h rfl (R2 (K0 ?_)))
    obtain ⟨r14,h,q⟩:=bE q
    refine OL (cA H222 (b,v26) h rfl (R2 (K0 ?_)))
    obtain ⟨z15,hz15,q⟩:=bE q
    refine OQ ⟨Sum.elim (fun z15a=>[(0,⟨[(0,.dat T6 a),(1,.dat T6 b),(6,O0 0),(7,.dat T1 v26),(8,.dat T1 r13),(9,.dat T1 r14),(25,.dat T1 (List.length (List.replicate (Int.toNat (if (b.length:Int)>a.length then (b.length:Int) else (a.length:Int))) (0:Int)):Int)),(26,.dat T1 v26)],[(0,.arr 3 T1 l0)],1⟩)]) (fun z15b=>[(1,⟨[(4,.raw false [N0]),(5,D0 4)],[],0⟩)]) z15,?_,?_⟩
    ·have q:=hz15
     clear hz15
     unfold f195_j5 at q
     refine OL (cI q (fun q=>?_) (fun q=>?_))
     ·refine gX (cT (cI q (fun q=>?_) (fun q=>?_)))
      ·refine gX (cT (cI q (fun q=>?_) (fun q=>?_)))
       ·cases sE q
        refine OL (E4 [] (R2 (AJ TV)))
       cases sE q
       refine E4 (iuR [1]) (R8 (AJ (AI rfl TV)))
      refine gM (cF (cF ?_))
      cases sE q
      refine E4 (iuR [1]) (R8 (AJ (AI rfl TV)))
     refine gM (cF (gM (gM (cF (cF ?_)))))
     cases sE q
     refine E4 (iuR [1]) (R8 (AJ (AI rfl TV)))
    rcases z15 with z15a | z15b
    ·dsimp only [Fx] at q
     refine AI (gI q (fun q=>?_)) TV
     refine OL (EI ((i64.wrap (v26+1)),(List.set l0 (Int.toNat (i64.wrap ((i64.wrap ((l0.length:Int)-1))-v26))) (if r14>r13 then r14 else r13))) (AI q (E4 (iuR [1]) (R5 (AJ (AI rfl TV))))))
    dsimp only [Fx] at q
    refine AI ?_ TV
    cases sE q
    refine E4 [] (R2 (AJ TV))
   cases sE q
   refine E4 (iuR [1]) (AI rfl (AJ (AI rfl TV)))
  rcases z12 with z12a | z12b
  ·dsimp only [Fx] at q
   refine AI ?_ TV
   cases sE q
   refine AI rfl (E4 (iuR [0]) (R2 (AJ (AI rfl TV))))
  dsimp only [Fx] at q
  refine AI (OL (OL ?_)) TV
  obtain ⟨r16,h,q⟩:=bE q
  refine OL (cD H65 z12b h rfl (AI rfl (AI (fun _=>rfl) (R2 (AI TV (AI TV (cI q (fun q=>?_) (fun q=>?_))))))))
  ·cases sE q
   refine OL (AI rfl (E4 (iuR [0]) (R2 (AJ (AI rfl TV)))))
  cases sE q
  refine OL (AI rfl (E4 (iuR [1]) (R2 (AJ (AI rfl TV)))))
 dsimp only [Fx] at q
 refine AI ?_ TV
 cases sE q
 refine AI rfl (E4 (iuR [0]) (R2 (AJ (AI rfl TV))))
theorem H195:HI C195 195:=hI Tryz.f195 rfl fun x=>V195 x.1 x.2
end Go.Proofs
