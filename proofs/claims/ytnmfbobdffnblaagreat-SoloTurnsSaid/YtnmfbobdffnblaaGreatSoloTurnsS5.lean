import Derived.Test.YtnmfbobdffnblaaGreatSoloTurnsS4
set_option linter.unusedVariables false
set_option maxRecDepth 100000
set_option maxHeartbeats 8000000
namespace Go.Proofs
open Go.AM
open IntKind (i64 u64 i32 u32 i16 u16 i8 u8)
def f35 (g:Ax) (Ar bound:Int):Option Int:=
 Ac (f53 (g.1,g.2) Ar) fun r1=>
 bif (bound==0) then
 some r1
 else
 some (if bound<(if (i64.wrap (0-bound))>r1 then (i64.wrap (0-bound)) else r1) then bound else (if (i64.wrap (0-bound))>r1 then (i64.wrap (0-bound)) else r1))
def C35:Con:=⟨Ax×Ax,Int,0,fun x=>[.dat T10 x.1,.dat T0 x.2.1,.dat T0 x.2.2],NX,fun x=>f35 x.1 x.2.1 x.2.2,fun y=>[.dat T0 y],NX,0⟩
theorem V35 g Ar bound y (q:f35 g Ar bound=some y):VC Tryz.f35 C35 (g,Ar,bound) y:=by
 unfold f35 at q
 refine OL (OL ?_)
 obtain ⟨r1,h,q⟩:=bE q
 refine OL (cA H53 ((g.1,g.2),Ar) h rfl (R3 (K0 (OL (OL (cI q (fun q=>?_) (fun q=>?_)))))))
 ·cases sE q
  refine OL (AI rfl (E4 [] (R2 (AI TV TV))))
 cases sE q
 refine OL (AI rfl (E4 [] (R2 (AI TV TV))))
theorem H35:HI C35 35:=hI Tryz.f35 rfl fun x=>V35 x.1 x.2.1 x.2.2
def f23_j4 (s:Al) (g:LTz2):Option Bool:=
 bif ((s.1.length:Int) != s.2.length) then
 some true
 else
 some ((s.1.length:Int) != g.length)
def f23_j5 (Ar:Int) (r:Bw):Option Bool:=
 bif (decide (Ar<1)) then
 some true
 else
 some (decide (r.2.2<0))
def f23_j3 (s:Al) (g:LTz2) (Ar:Int) (r:Bw):Option (Sum Unit Int):=
 Ac (f23_j4 s g) fun z4=>
 bif z4 then
 some (Sum.inr (4:Int))
 else
 Ac (f23_j5 Ar r) fun z5=>
 bif z5 then
 some (Sum.inr (1:Int))
 else
 some (Sum.inl ())
def f23_j6 (s:Al):Option Al:=
 Ac (f24 s.1) fun q5_2=>
 Ac (f24 s.2) fun q5_5=>
 some (q5_2,q5_5)
def f23_l7 (s:Al) (g:LTz2) (Ar:Int) (r:Bw) (go:Bl→Option Al) (v47:Int) (l4 l5:LI):Option Al:=
 bif (decide (v47<g.length)) then
 Ad (0≤v47∧v47<s.2.length)<|
 Ad (0≤v47∧v47<g.length)<|
 Ac (f34 r.2.1 (rd 0 s.2 v47)) fun q9_10=>
 Ac (f35 ((rd (Ty.z T10) g v47).1,(rd (Ty.z T10) g v47).2) Ar r.2.2) fun q9_18=>
 Ac (f33 q9_10 q9_18) fun q9_19=>
 Ad (0≤v47∧v47<l5.length)<|
 Ad (0≤v47∧v47<s.1.length)<|
 Ad (0≤v47∧v47<(List.length (List.set l5 (Int.toNat v47) q9_19):Int))<|
 Ac (f34 r.1 (rd 0 (List.set l5 (Int.toNat v47) q9_19) v47)) fun q10_15=>
 Ac (f36 (rd 0 s.1 v47) q10_15) fun q10_16=>
 Ad (0≤v47∧v47<l4.length)<|
 go ((i64.wrap (v47+1)),(List.set l4 (Int.toNat v47) q10_16),(List.set l5 (Int.toNat v47) q9_19))
 else
 some (l4,l5)
def f23 (s:Al) (g:LTz2) (Ar:Int) (r:Bw):Option Bl:=
 Ac (f23_j3 s g Ar r) fun z3=>
 Ak z3 (fun z3a=>
 Ac (f23_j6 s) fun z6=>
 Ac (Ag (fun go x=>f23_l7 s g Ar r go x.1 x.2.1 x.2.2) Ah ((0:Int),z6.1,z6.2)) fun z7=>
 some ((0:Int),z7.1,z7.2)) (fun z3b=>
 some (z3b,[],[]))
def C23:Con:=⟨Al×LTz2×Int×Bw,Bl,0,fun x=>[.dat T8 x.1,.dat T13 x.2.1,.dat T0 x.2.2.1,.dat T14 x.2.2.2],NX,fun x=>f23 x.1 x.2.1 x.2.2.1 x.2.2.2,fun y=>[.raw true [(.osl 0),(.osl 1)],.dat T0 y.1],fun y=>[(0,.arr 26 T0 y.2.1),(1,.arr 26 T0 y.2.2)],2⟩
theorem V23 s g Ar r y (q:f23 s g Ar r=some y):VC Tryz.f23 C23 (s,g,Ar,r) y:=by
 unfold f23 at q
 refine OL ?_
 obtain ⟨z3,hz3,q⟩:=bE q
 let e0:LE:=fun zz=>(1,.dat T13 g)::(2,.dat T0 Ar)::(4,P0 0 0)::(7,P0 1 0)::(8,P0 2 0)::zz
 let h1:LH:=fun zz=>(0,.cells [(.d T5 s.1),(.d T5 s.2)])::(1,.cells [(.d T0 r.1),(.d T0 r.2.1),(.d T0 r.2.2)])::(2,.cells [N0,N0])::zz
 refine OQ ⟨Sum.elim (fun z3a=>[(0,⟨e0 [],h1 [],3⟩)]) (fun z3b=>[(1,⟨[(8,P0 0 0),(9,.dat T0 z3b)],[(0,.cells [N0,N0])],1⟩)]) z3,?_,?_⟩
 ·have q:=hz3
  clear hz3
  unfold f23_j3 at q
  obtain ⟨z4,hz4,q⟩:=bE q
  refine OQ ⟨[(0,⟨e0 [(12,.dat .bool z4)],h1 [],3⟩)],?_,?_⟩
  ·have q:=hz4
   clear hz4
   unfold f23_j4 at q
   refine cN q (fun q=>?_) (fun q=>?_)
   ·refine gY (gY (gY (gY (gY (cF ?_)))))
    cases sE q
    refine E4 I3 (R4 (AI (R3 TV) (R3 TV)))
   refine gN (gN (gN (gN (gN (cT ?_)))))
   cases sE q
   refine E4 I3 (R4 (AI (R3 TV) (R3 TV)))
  refine AI (cI q (fun q=>?_) (fun q=>?_)) TV
  ·refine OL (OL ?_)
   cases sE q
   refine E4 (iuR [3]) (R2 (AJ (AI rfl TV)))
  obtain ⟨z5,hz5,q⟩:=bE q
  refine OQ ⟨[(0,⟨e0 [(29,.dat .bool z5)],h1 [],3⟩)],?_,?_⟩
  ·have q:=hz5
   clear hz5
   unfold f23_j5 at q
   refine cN q (fun q=>?_) (fun q=>?_)
   ·refine gY (gY (cF ?_))
    cases sE q
    refine E4 I3 (R4 (AI (R3 TV) (R3 TV)))
   refine gN (gN (cT ?_))
   cases sE q
   refine E4 I3 (R4 (AI (R3 TV) (R3 TV)))
  refine AI (cI q (fun q=>?_) (fun q=>?_)) TV
  ·refine OL (OL ?_)
   cases sE q
   refine E4 (iuR [3]) (R2 (AJ (AI rfl TV)))
  cases sE q
  refine E4 I3 (R3 (AI (R3 TV) (R3 TV)))
 rcases z3 with z3a | z3b
 ·dsimp only [Ak] at q
  refine AI ?_ TV
  obtain ⟨z6,hz6,q⟩:=bE q
  refine OQ ⟨[(0,⟨e0 [(10,P0 3 0)],h1 [(3,.cells [(.osl 4),(.osl 5)]),(4,.arr 26 T0 z6.1),(5,.arr 26 T0 z6.2)],6⟩)],?_,?_⟩
  ·have q:=hz6
   clear hz6
   unfold f23_j6 at q
   obtain ⟨q5_2,hq5_2,q⟩:=bE q
   obtain ⟨q5_5,hq5_5,q⟩:=bE q
   refine EI (.take 0 (.take 1 (.take 3 (.take 4 (.alt 2 (.alt 5 (.take 6 (.alt 7 (.alt 8 .done .done) .done)) (.alt 7 (.alt 5 (.take 6 (.alt 8 .done .done)) .done) .done)) (.alt 7 (.alt 2 (.alt 5 (.take 6 (.alt 8 .done .done)) .done) .done) .done)))))) (EI [] (EI [] (AI rfl (AI (AI TV ?_) ?_))))
   ·refine AI TV (OL (cA H24 s.1 hq5_2 rfl (AI rfl (K0 (AI TV (OL (cA H24 s.2 hq5_5 rfl (AI rfl (K0 (AI TV (OL ?_)))))))))))
    cases sE q
    refine E4 I6 (R3 (AI (R4 TV) (R6 TV)))
   refine OL (cA H24 s.1 hq5_2 rfl (AI rfl (K0 (AI (AI TV ?_) ?_))))
   ·refine AI TV (OL (cA H24 s.2 hq5_5 rfl (AI rfl (K0 (AI TV (OL ?_))))))
    cases sE q
    refine E4 (iuR [1,2,3,5,4,6]) (R3 (AI (R4 TV) (R6 TV)))
   refine OL (cA H24 s.2 hq5_5 rfl (AI rfl (K0 (AI TV (AI TV (OL ?_))))))
   cases sE q
   refine E4 (iuR [1,2,3,6,4,5]) (R3 (AI (R4 TV) (R6 TV)))
  refine AI (OL (OL ?_)) TV
  obtain ⟨z7,h,q⟩:=bE q
  refine lJ h (fun x=>⟨e0 [(10,P0 3 0),(46,.dat T0 (g.length:Int)),(47,.dat T0 x.1)],h1 [(3,.cells [(.osl 4),(.osl 5)]),(4,.arr 26 T0 x.2.1),(5,.arr 26 T0 x.2.2)],6⟩) (fun z=>[(3,⟨[(8,P0 0 0),(10,P0 1 0)],[(0,.cells [N0,N0]),(1,.cells [(.osl 2),(.osl 3)]),(2,.arr 26 T0 z.1),(3,.arr 26 T0 z.2)],4⟩)]) (E4 I6 (R5 (AI (R4 TV) (R6 TV)))) (fun m=>An (fun v47=>An (fun l4=>fun l5 z q=>?_))) ?_
  ·have q:f23_l7 s g Ar r _ v47 l4 l5=some z:=q
   unfold f23_l7 at q
   refine OL (OL (cI q (fun q=>?_) (fun q=>?_)))
   ·refine OL (OL (OL (EI (tU 0 10 (tU 11 7 (.alt 10 (.alt 18 (.alt 19 (.take 20 (.alt 21 .done .done)) .done) .done) .done))) (EI [] (EI [] (AI rfl (gI q (fun q=>?_))))))))
    refine gI q (fun q=>?_)
    refine AI TV ?_
    obtain ⟨q9_10,h,q⟩:=bE q
    refine OL (cA H34 (r.2.1,(rd 0 s.2 v47)) h rfl (R2 (K0 (AI TV ?_))))
    obtain ⟨q9_18,h,q⟩:=bE q
    refine OL (cA H35 (((rd (Ty.z T10) g v47).1,(rd (Ty.z T10) g v47).2),Ar,r.2.2) h rfl (R4 (K0 (AI TV ?_))))
    obtain ⟨q9_19,h,q⟩:=bE q
    refine OL (cA H33 (q9_10,q9_18) h rfl (R2 (K0 (gI q (fun q=>?_)))))
    refine AI TV (OL (EI (tU 0 15 (.alt 15 (.alt 16 (.take 17 (.alt 18 .done .done)) .done) .done)) (EI [] (EI [] (AI rfl (gI q (fun q=>?_)))))))
    refine gI q (fun q=>?_)
    refine AI TV ?_
    obtain ⟨q10_15,h,q⟩:=bE q
    refine OL (cA H34 (r.1,(rd 0 (List.set l5 (Int.toNat v47) q9_19) v47)) h rfl (R2 (K0 (AI TV ?_))))
    obtain ⟨q10_16,h,q⟩:=bE q
    refine OL (cA H36 ((rd 0 s.1 v47),q10_15) h rfl (R2 (K0 (gI q (fun q=>?_)))))
    refine AI TV (OL (EI ((i64.wrap (v47+1)),(List.set l4 (Int.toNat v47) q10_16),(List.set l5 (Int.toNat v47) q9_19)) (AI q (E4 I6 (R5 (AI (R4 TV) (R6 TV)))))))
   cases sE q
   refine E4 (iuR [3,4,5,6]) (AI rfl (AI (R2 TV) (R4 TV)))
  refine AI (OL (OL ?_)) TV
  cases sE q
  refine AI rfl (E4 (iuR [3,4]) (R2 (AJ (R2 TV))))
 dsimp only [Ak] at q
 refine AI ?_ TV
 cases sE q
 refine AI rfl (E4 (iuR [0,0]) (R2 (AJ (R2 TV))))
theorem H23:HI C23 23:=hI Tryz.f23 rfl fun x=>V23 x.1 x.2.1 x.2.2.1 x.2.2.2
def f8_j1 (t_j_Net_In:LI) (t_j_Net_Layers:LTz0) (t_j_Kind t_j_Batch t_j_Rate_Step t_j_Rate_Keep t_j_Rate_Bound:Int) (t_j_Data:D5) (t_j_P t_s_P:LI) (q1_15:Bc):Option (Int×LTz2×Ax):=
 Ac (f22 ((t_j_Net_In,t_j_Net_Layers),t_j_Kind,t_j_Batch,(t_j_Rate_Step,t_j_Rate_Keep,t_j_Rate_Bound),t_j_Data,t_j_P) q1_15.2) fun q4_20=>
 Ac (f21 (t_j_Net_In,t_j_Net_Layers) t_j_Kind t_s_P q4_20) fun q4_21=>
 some (q4_21.2.2.1,q4_21.2.2.2,q4_21.1,q4_21.2.1)
def f8_j2 (t_j_Rate_Step t_j_Rate_Keep t_j_Rate_Bound:Int) (t_s_P t_s_M:LI) (q1_15:Bc) (z1:Int×LTz2×Ax):Option Bl:=
 Ac (f23 (t_s_P,t_s_M) z1.2.1 (q1_15.2.length:Int) (t_j_Rate_Step,t_j_Rate_Keep,t_j_Rate_Bound)) fun q7_12=>
 some (q7_12.1,q7_12.2.1,q7_12.2.2)
def f8 (t_j_Net_In:LI) (t_j_Net_Layers:LTz0) (t_j_Kind t_j_Batch t_j_Rate_Step t_j_Rate_Keep t_j_Rate_Bound:Int) (t_j_Data:D5) (t_j_P t_s_P t_s_M:LI) (t_steps t_loss_Hi t_loss_Lo:Int):Option (Int×PTz9):=
 Ac (f20 (t_j_Data.length:Int) t_j_Batch t_steps) fun q1_15=>
 bif (q1_15.1 != 0) then
 some (q1_15.1,t_j_Net_In,t_j_Net_Layers,t_j_Kind,t_j_Batch,t_j_Rate_Step,t_j_Rate_Keep,t_j_Rate_Bound,t_j_Data,t_j_P,t_steps,t_loss_Hi,t_loss_Lo,t_s_P,t_s_M)
 else
 Ac (f8_j1 t_j_Net_In t_j_Net_Layers t_j_Kind t_j_Batch t_j_Rate_Step t_j_Rate_Keep t_j_Rate_Bound t_j_Data t_j_P t_s_P q1_15) fun z1=>
 bif (z1.1 != 0) then
 some (z1.1,t_j_Net_In,t_j_Net_Layers,t_j_Kind,t_j_Batch,t_j_Rate_Step,t_j_Rate_Keep,t_j_Rate_Bound,t_j_Data,t_j_P,t_steps,t_loss_Hi,t_loss_Lo,t_s_P,t_s_M)
 else
 Ac (f8_j2 t_j_Rate_Step t_j_Rate_Keep t_j_Rate_Bound t_s_P t_s_M q1_15 z1) fun z2=>
 bif (z2.1 != 0) then
 some (z2.1,t_j_Net_In,t_j_Net_Layers,t_j_Kind,t_j_Batch,t_j_Rate_Step,t_j_Rate_Keep,t_j_Rate_Bound,t_j_Data,t_j_P,t_steps,t_loss_Hi,t_loss_Lo,t_s_P,t_s_M)
 else
 some ((0:Int),t_j_Net_In,t_j_Net_Layers,t_j_Kind,t_j_Batch,t_j_Rate_Step,t_j_Rate_Keep,t_j_Rate_Bound,t_j_Data,t_j_P,(i64.wrap (t_steps+1)),z1.2.2.1,z1.2.2.2,z2.2.1,z2.2.2)
def C8:Con:=⟨PTz19,Int×PTz9,3,fun x=>[P0 0 0],fun x=>[(0,.cells [(.d T5 x.1),(.d T4 x.2.1),(.d T0 x.2.2.1),(.d T0 x.2.2.2.1),(.d T0 x.2.2.2.2.1),(.d T0 x.2.2.2.2.2.1),(.d T0 x.2.2.2.2.2.2.1),(.d T12 x.2.2.2.2.2.2.2.1),(.d T5 x.2.2.2.2.2.2.2.2.1),(.osl 1),(.osl 2),(.d T0 x.2.2.2.2.2.2.2.2.2.2.2.1),(.d T0 x.2.2.2.2.2.2.2.2.2.2.2.2.1),(.d T9 x.2.2.2.2.2.2.2.2.2.2.2.2.2)]),(1,.arr 26 T0 x.2.2.2.2.2.2.2.2.2.1),(2,.arr 26 T0 x.2.2.2.2.2.2.2.2.2.2.1)],fun x=>f8 x.1 x.2.1 x.2.2.1 x.2.2.2.1 x.2.2.2.2.1 x.2.2.2.2.2.1 x.2.2.2.2.2.2.1 x.2.2.2.2.2.2.2.1 x.2.2.2.2.2.2.2.2.1 x.2.2.2.2.2.2.2.2.2.1 x.2.2.2.2.2.2.2.2.2.2.1 x.2.2.2.2.2.2.2.2.2.2.2.1 x.2.2.2.2.2.2.2.2.2.2.2.2.1 x.2.2.2.2.2.2.2.2.2.2.2.2.2,fun y=>[.dat T0 y.1],fun y=>[(0,.cells [(.d T5 y.2.1),(.d T4 y.2.2.1),(.d T0 y.2.2.2.1),(.d T0 y.2.2.2.2.1),(.d T0 y.2.2.2.2.2.1),(.d T0 y.2.2.2.2.2.2.1),(.d T0 y.2.2.2.2.2.2.2.1),(.d T12 y.2.2.2.2.2.2.2.2.1),(.d T5 y.2.2.2.2.2.2.2.2.2.1),(.osl 3),(.osl 4),(.d T0 y.2.2.2.2.2.2.2.2.2.2.1),(.d T0 y.2.2.2.2.2.2.2.2.2.2.2.1),(.d T9 y.2.2.2.2.2.2.2.2.2.2.2.2.1)]),(3,.arr 26 T0 y.2.2.2.2.2.2.2.2.2.2.2.2.2.1),(4,.arr 26 T0 y.2.2.2.2.2.2.2.2.2.2.2.2.2.2)],5⟩
theorem V8 t_j_Net_In t_j_Net_Layers t_j_Kind t_j_Batch t_j_Rate_Step t_j_Rate_Keep t_j_Rate_Bound t_j_Data t_j_P t_s_P t_s_M t_steps t_loss_Hi t_loss_Lo y (q:f8 t_j_Net_In t_j_Net_Layers t_j_Kind t_j_Batch t_j_Rate_Step t_j_Rate_Keep t_j_Rate_Bound t_j_Data t_j_P t_s_P t_s_M t_steps t_loss_Hi t_loss_Lo=some y):VE Tryz.f8 3 C8 (t_j_Net_In,t_j_Net_Layers,t_j_Kind,t_j_Batch,t_j_Rate_Step,t_j_Rate_Keep,t_j_Rate_Bound,t_j_Data,t_j_P,t_s_P,t_s_M,t_steps,t_loss_Hi,t_loss_Lo) y:=by
 unfold f8 at q
 refine OL (OL (EI (tU 0 15 (.alt 15 (tU 16 5 .done) .done)) (EI [] (EI [] (AI rfl (AI TV ?_))))))
 obtain ⟨q1_15,h,q⟩:=bE q
 refine OL (cA H20 ((t_j_Data.length:Int),t_j_Batch,t_steps) h rfl (R3 (K0 (OL (OL (cI q (fun q=>?_) (fun q=>?_)))))))
 ·cases sE q
  refine OL (AI rfl (E4 [(0,some 0),(3,some 1),(4,some 2)] (R2 (AI TV (R3 TV)))))
 obtain ⟨z1,hz1,q⟩:=bE q
 let h0:LH:=fun zz=>(0,.cells [(.d T5 t_j_Net_In),(.d T4 t_j_Net_Layers),(.d T0 t_j_Kind),(.d T0 t_j_Batch),(.d T0 t_j_Rate_Step),(.d T0 t_j_Rate_Keep),(.d T0 t_j_Rate_Bound),(.d T12 t_j_Data),(.d T5 t_j_P),(.osl 1),(.osl 2),(.d T0 t_steps),(.d T0 t_loss_Hi),(.d T9 t_loss_Lo)])::(1,.arr 26 T0 t_s_P)::(2,.arr 26 T0 t_s_M)::zz
 refine OQ ⟨[(0,⟨[(0,P0 0 0),(3,.dat T5 q1_15.2),(4,.dat T0 z1.1),(5,O0 3),(6,P0 4 0)],h0 [(3,.arr 67 T10 z1.2.1),(4,.cells [(.d T0 z1.2.2.1),(.d T9 z1.2.2.2)])],5⟩)],?_,?_⟩
 ·have q:=hz1
  clear hz1
  unfold f8_j1 at q
  obtain ⟨q4_20,hq4_20,q⟩:=bE q
  obtain ⟨q4_21,hq4_21,q⟩:=bE q
  refine EI (tU 0 20 (.alt 20 (.alt 21 (tU 22 4 (.alt 26 (.take 27 (.alt 28 (.take 29 .done) .done)) .done)) (.alt 26 (.alt 21 (tU 22 4 (.take 27 (.alt 28 (.take 29 .done) .done))) .done) .done)) (.alt 26 (.alt 20 (.alt 21 (tU 22 4 (.take 27 (.alt 28 (.take 29 .done) .done))) .done) .done) .done))) (EI [] (EI [] (AI rfl (AI (AI TV ?_) ?_))))
  ·refine AI TV (OL (cA H22 (((t_j_Net_In,t_j_Net_Layers),t_j_Kind,t_j_Batch,(t_j_Rate_Step,t_j_Rate_Keep,t_j_Rate_Bound),t_j_Data,t_j_P),q1_15.2) hq4_20 rfl (R3 (K0 (AI TV (OL (cD H21 ((t_j_Net_In,t_j_Net_Layers),t_j_Kind,t_s_P,q4_20) hq4_21 rfl (R5 (AI (fun _=>rfl) (R2 (AI TV (AI TV (AI TV (OL ?_))))))))))))))
   cases sE q
   refine E4 (iuR [1,2,3,7,5]) (R3 (AI (R3 TV) (R5 TV)))
  refine OL (cA H22 (((t_j_Net_In,t_j_Net_Layers),t_j_Kind,t_j_Batch,(t_j_Rate_Step,t_j_Rate_Keep,t_j_Rate_Bound),t_j_Data,t_j_P),q1_15.2) hq4_20 rfl (R3 (K0 (AI (AI TV ?_) ?_))))
  ·refine AI TV (OL (cD H21 ((t_j_Net_In,t_j_Net_Layers),t_j_Kind,t_s_P,q4_20) hq4_21 rfl (R5 (AI (fun _=>rfl) (R2 (AI TV (AI TV (AI TV (OL ?_)))))))))
   cases sE q
   refine E4 (iuR [1,2,3,7,6]) (R3 (AI (R3 TV) (R5 TV)))
  refine OL (cD H21 ((t_j_Net_In,t_j_Net_Layers),t_j_Kind,t_s_P,q4_20) hq4_21 rfl (R5 (AI (fun _=>rfl) (R2 (AI TV (AI TV (AI TV (AI TV (OL ?_)))))))))
  cases sE q
  refine E4 (iuR [1,2,3,6,7]) (R3 (AI (R3 TV) (R5 TV)))
 refine AI (OL (OL (cI q (fun q=>?_) (fun q=>?_)))) TV
 ·cases sE q
  refine OL (AI rfl (E4 [(0,some 0),(3,some 1),(4,some 2)] (R2 (AI TV (R3 TV)))))
 obtain ⟨z2,hz2,q⟩:=bE q
 refine OQ ⟨[(0,⟨[(0,P0 0 0),(4,.dat T0 z2.1),(6,P0 3 0),(7,P0 4 0)],h0 [(3,.cells [(.d T0 z1.2.2.1),(.d T9 z1.2.2.2)]),(4,.cells [(.osl 5),(.osl 6)]),(5,.arr 26 T0 z2.2.1),(6,.arr 26 T0 z2.2.2)],7⟩)],?_,?_⟩
 ·have q:=hz2
  clear hz2
  unfold f8_j2 at q
  obtain ⟨q7_12,hq7_12,q⟩:=bE q
  refine EI (tU 0 12 (.alt 12 (tU 13 3 (.alt 16 (.alt 17 (.take 18 .done) .done) .done)) (.alt 16 (.alt 12 (tU 13 3 (.alt 17 (.take 18 .done) .done)) .done) .done))) (EI [] (EI [] (AI rfl (AI (AI TV ?_) ?_))))
  ·refine AI TV (OL (cD H23 ((t_s_P,t_s_M),z1.2.1,(q1_15.2.length:Int),(t_j_Rate_Step,t_j_Rate_Keep,t_j_Rate_Bound)) hq7_12 rfl (R6 (AI (fun _=>rfl) (R2 (AI TV (AI TV (AI TV (OL ?_)))))))))
   cases sE q
   refine E4 (iuR [1,2,3,5,6,7,8]) (R2 (AI (R3 TV) (R7 TV)))
  refine OL (cD H23 ((t_s_P,t_s_M),z1.2.1,(q1_15.2.length:Int),(t_j_Rate_Step,t_j_Rate_Keep,t_j_Rate_Bound)) hq7_12 rfl (R6 (AI (fun _=>rfl) (R2 (AI TV (AI TV (AI TV (AI TV (OL ?_)))))))))
  cases sE q
  refine E4 (iuR [1,2,3,5,8,6,7]) (R2 (AI (R3 TV) (R7 TV)))
 refine AI (OL (OL (cI q (fun q=>?_) (fun q=>?_)))) TV
 ·cases sE q
  refine OL (AI rfl (E4 [(0,some 0),(3,some 1),(4,some 2)] (R2 (AI TV (R3 TV)))))
 refine OL (EI (tU 0 6 (.alt 6 (.take 7 (.take 8 (.alt 9 .done .done))) .done)) (EI [] (EI [] (AI rfl (AI TV (OL (AI TV (OL (OL (OL (OL ?_)))))))))))
 cases sE q
 refine AI rfl (E4 [(0,some 0),(3,some 5),(4,some 6)] (R2 (AI TV (R3 TV))))
theorem H8:HI C8 8:=hI Tryz.f8 rfl fun x=>V8 x.1 x.2.1 x.2.2.1 x.2.2.2.1 x.2.2.2.2.1 x.2.2.2.2.2.1 x.2.2.2.2.2.2.1 x.2.2.2.2.2.2.2.1 x.2.2.2.2.2.2.2.2.1 x.2.2.2.2.2.2.2.2.2.1 x.2.2.2.2.2.2.2.2.2.2.1 x.2.2.2.2.2.2.2.2.2.2.2.1 x.2.2.2.2.2.2.2.2.2.2.2.2.1 x.2.2.2.2.2.2.2.2.2.2.2.2.2
def f9 (t_j_Net_In:LI) (t_j_Net_Layers:LTz0) (t_j_Kind t_j_Batch t_j_Rate_Step t_j_Rate_Keep t_j_Rate_Bound:Int) (t_j_Data:D5) (t_j_P t_s_P t_s_M:LI) (t_steps t_loss_Hi t_loss_Lo:Int):Option (LI×LI×PTz9):=
 Ac (f24 t_s_P) fun q1_5=>
 Ac (f24 t_s_M) fun q1_11=>
 some (q1_5,q1_11,t_j_Net_In,t_j_Net_Layers,t_j_Kind,t_j_Batch,t_j_Rate_Step,t_j_Rate_Keep,t_j_Rate_Bound,t_j_Data,t_j_P,t_steps,t_loss_Hi,t_loss_Lo,t_s_P,t_s_M)
def C9:Con:=⟨PTz19,LI×LI×PTz9,3,fun x=>[P0 0 0],fun x=>[(0,.cells [(.d T5 x.1),(.d T4 x.2.1),(.d T0 x.2.2.1),(.d T0 x.2.2.2.1),(.d T0 x.2.2.2.2.1),(.d T0 x.2.2.2.2.2.1),(.d T0 x.2.2.2.2.2.2.1),(.d T12 x.2.2.2.2.2.2.2.1),(.d T5 x.2.2.2.2.2.2.2.2.1),(.osl 1),(.osl 2),(.d T0 x.2.2.2.2.2.2.2.2.2.2.2.1),(.d T0 x.2.2.2.2.2.2.2.2.2.2.2.2.1),(.d T9 x.2.2.2.2.2.2.2.2.2.2.2.2.2)]),(1,.arr 26 T0 x.2.2.2.2.2.2.2.2.2.1),(2,.arr 26 T0 x.2.2.2.2.2.2.2.2.2.2.1)],fun x=>f9 x.1 x.2.1 x.2.2.1 x.2.2.2.1 x.2.2.2.2.1 x.2.2.2.2.2.1 x.2.2.2.2.2.2.1 x.2.2.2.2.2.2.2.1 x.2.2.2.2.2.2.2.2.1 x.2.2.2.2.2.2.2.2.2.1 x.2.2.2.2.2.2.2.2.2.2.1 x.2.2.2.2.2.2.2.2.2.2.2.1 x.2.2.2.2.2.2.2.2.2.2.2.2.1 x.2.2.2.2.2.2.2.2.2.2.2.2.2,fun y=>[.raw true [(.osl 3),(.osl 4)]],fun y=>[(0,.cells [(.d T5 y.2.2.1),(.d T4 y.2.2.2.1),(.d T0 y.2.2.2.2.1),(.d T0 y.2.2.2.2.2.1),(.d T0 y.2.2.2.2.2.2.1),(.d T0 y.2.2.2.2.2.2.2.1),(.d T0 y.2.2.2.2.2.2.2.2.1),(.d T12 y.2.2.2.2.2.2.2.2.2.1),(.d T5 y.2.2.2.2.2.2.2.2.2.2.1),(.osl 1),(.osl 2),(.d T0 y.2.2.2.2.2.2.2.2.2.2.2.1),(.d T0 y.2.2.2.2.2.2.2.2.2.2.2.2.1),(.d T9 y.2.2.2.2.2.2.2.2.2.2.2.2.2.1)]),(1,.arr 26 T0 y.2.2.2.2.2.2.2.2.2.2.2.2.2.2.1),(2,.arr 26 T0 y.2.2.2.2.2.2.2.2.2.2.2.2.2.2.2),(3,.arr 26 T0 y.1),(4,.arr 26 T0 y.2.1)],5⟩
theorem V9 t_j_Net_In t_j_Net_Layers t_j_Kind t_j_Batch t_j_Rate_Step t_j_Rate_Keep t_j_Rate_Bound t_j_Data t_j_P t_s_P t_s_M t_steps t_loss_Hi t_loss_Lo y (q:f9 t_j_Net_In t_j_Net_Layers t_j_Kind t_j_Batch t_j_Rate_Step t_j_Rate_Keep t_j_Rate_Bound t_j_Data t_j_P t_s_P t_s_M t_steps t_loss_Hi t_loss_Lo=some y):VE Tryz.f9 3 C9 (t_j_Net_In,t_j_Net_Layers,t_j_Kind,t_j_Batch,t_j_Rate_Step,t_j_Rate_Keep,t_j_Rate_Bound,t_j_Data,t_j_P,t_s_P,t_s_M,t_steps,t_loss_Hi,t_loss_Lo) y:=by
 unfold f9 at q
 refine OL (OL (EI (tU 0 5 (tU 6 5 (.alt 5 (.alt 11 (.take 12 (.alt 13 .done .done)) .done) .done))) (EI [] (EI [] (AI rfl (AI TV ?_))))))
 obtain ⟨q1_5,h,q⟩:=bE q
 refine OL (cD H24 t_s_P h rfl (AI rfl (AI (fun _=>rfl) (R2 (AI TV (AI TV (AI TV ?_)))))))
 obtain ⟨q1_11,h,q⟩:=bE q
 refine OL (cD H24 t_s_M h rfl (AI rfl (AI (fun _=>rfl) (R2 (AI TV (AI TV (AI TV (OL ?_))))))))
 cases sE q
 refine AI rfl (E4 (iuR [1,2,3,5,6]) (AI rfl (AJ (R5 TV))))
theorem H9:HI C9 9:=hI Tryz.f9 rfl fun x=>V9 x.1 x.2.1 x.2.2.1 x.2.2.2.1 x.2.2.2.2.1 x.2.2.2.2.2.1 x.2.2.2.2.2.2.1 x.2.2.2.2.2.2.2.1 x.2.2.2.2.2.2.2.2.1 x.2.2.2.2.2.2.2.2.2.1 x.2.2.2.2.2.2.2.2.2.2.1 x.2.2.2.2.2.2.2.2.2.2.2.1 x.2.2.2.2.2.2.2.2.2.2.2.2.1 x.2.2.2.2.2.2.2.2.2.2.2.2.2
def f11_j3 (k:Int):Option Bool:=
 bif (decide (k<0)) then
 some true
 else
 some (decide (k>10000))
def f11_j2 (k r1a:Int):Option (Sum Unit Int):=
 bif (r1a != 0) then
 some (Sum.inr r1a)
 else
 Ac (f11_j3 k) fun z4=>
 bif z4 then
 some (Sum.inr (1:Int))
 else
 some (Sum.inl ())
def f11_l4 (k:Int) (go:Unit→Option Unit):Option Unit:=
 bif (decide ((0:Int)<k)) then
 none
 else
 some ()
def f11_j7 (k:Int):Option Bool:=
 bif (decide (k<0)) then
 some true
 else
 some (decide (k>10000))
def f11_j6 (k:Int):Option (Sum Unit Int):=
 bif ((0:Int) != 0) then
 some (Sum.inr (0:Int))
 else
 Ac (f11_j7 k) fun z8=>
 bif z8 then
 some (Sum.inr (1:Int))
 else
 some (Sum.inl ())
def f11_l8 (k:Int) (go:(Int×PTz9)→Option (Sum Int PTz9)) (v28:Int) (c1_0:LI) (c1_1:LTz0) (c1_2 c1_3 c1_4 c1_5 c1_6:Int) (c1_7:D5) (c1_8:LI) (c1_11 c1_12 c1_13:Int) (l2 l3:LI):Option (Sum Int PTz9):=
 bif (decide (v28<k)) then
 Ac (f8 c1_0 c1_1 c1_2 c1_3 c1_4 c1_5 c1_6 c1_7 c1_8 l2 l3 c1_11 c1_12 c1_13) fun r12=>
 bif (r12.1 != 0) then
 some (Sum.inl r12.1)
 else
 go ((i64.wrap (v28+1)),r12.2.1,r12.2.2.1,r12.2.2.2.1,r12.2.2.2.2.1,r12.2.2.2.2.2.1,r12.2.2.2.2.2.2.1,r12.2.2.2.2.2.2.2.1,r12.2.2.2.2.2.2.2.2.1,r12.2.2.2.2.2.2.2.2.2.1,r12.2.2.2.2.2.2.2.2.2.2.1,r12.2.2.2.2.2.2.2.2.2.2.2.1,r12.2.2.2.2.2.2.2.2.2.2.2.2.1,r12.2.2.2.2.2.2.2.2.2.2.2.2.2.1,r12.2.2.2.2.2.2.2.2.2.2.2.2.2.2)
 else
 some (Sum.inr (c1_0,c1_1,c1_2,c1_3,c1_4,c1_5,c1_6,c1_7,c1_8,c1_11,c1_12,c1_13,l2,l3))
def f11 (j:PTz5) (k:Int):Option Bl:=
 Ac (f7 ((j.1.1,j.1.2),j.2.1,j.2.2.1,(j.2.2.2.1.1,j.2.2.2.1.2.1,j.2.2.2.1.2.2),j.2.2.2.2.1,j.2.2.2.2.2)) fun r1=>
 Ak r1 (fun r1a=>
 Ac (f11_j2 k r1a) fun z3=>
 Ak z3 (fun z3a=>
 Ac (Ag (fun go x=>f11_l4 k go) Ah ()) fun z5=>
 none) (fun z3b=>
 some (z3b,[],[]))) (fun r1b=>
 Ac (f11_j6 k) fun z7=>
 Ak z7 (fun z7a=>
 Ac (Ag (fun go x=>f11_l8 k go x.1 x.2.1 x.2.2.1 x.2.2.2.1 x.2.2.2.2.1 x.2.2.2.2.2.1 x.2.2.2.2.2.2.1 x.2.2.2.2.2.2.2.1 x.2.2.2.2.2.2.2.2.1 x.2.2.2.2.2.2.2.2.2.1 x.2.2.2.2.2.2.2.2.2.2.1 x.2.2.2.2.2.2.2.2.2.2.2.1 x.2.2.2.2.2.2.2.2.2.2.2.2.1 x.2.2.2.2.2.2.2.2.2.2.2.2.2.1 x.2.2.2.2.2.2.2.2.2.2.2.2.2.2) Ah ((0:Int),r1b.1,r1b.2.1,r1b.2.2.1,r1b.2.2.2.1,r1b.2.2.2.2.1,r1b.2.2.2.2.2.1,r1b.2.2.2.2.2.2.1,r1b.2.2.2.2.2.2.2.1,r1b.2.2.2.2.2.2.2.2.1,(0:Int),(0:Int),(0:Int),r1b.2.2.2.2.2.2.2.2.2.1,r1b.2.2.2.2.2.2.2.2.2.2)) fun z11=>
 Ak z11 (fun z11a=>
 some (z11a,[],[])) (fun z11b=>
 Ac (f9 z11b.1 z11b.2.1 z11b.2.2.1 z11b.2.2.2.1 z11b.2.2.2.2.1 z11b.2.2.2.2.2.1 z11b.2.2.2.2.2.2.1 z11b.2.2.2.2.2.2.2.1 z11b.2.2.2.2.2.2.2.2.1 z11b.2.2.2.2.2.2.2.2.2.2.2.2.1 z11b.2.2.2.2.2.2.2.2.2.2.2.2.2 z11b.2.2.2.2.2.2.2.2.2.1 z11b.2.2.2.2.2.2.2.2.2.2.1 z11b.2.2.2.2.2.2.2.2.2.2.2.1) fun r13=>
 some ((0:Int),r13.1,r13.2.1))) (fun z7b=>
 some (z7b,[],[])))
def C11:Con:=⟨PTz5×Int,Bl,0,fun x=>[.dat T11 x.1,.dat T0 x.2],NX,fun x=>f11 x.1 x.2,fun y=>[.raw true [(.osl 0),(.osl 1)],.dat T0 y.1],fun y=>[(0,.arr 26 T0 y.2.1),(1,.arr 26 T0 y.2.2)],2⟩
theorem V11 j k y (q:f11 j k=some y):VC Tryz.f11 C11 (j,k) y:=by
 unfold f11 at q
 refine OL (OL ?_)
 obtain ⟨r1,hr1,q⟩:=bE q
 rcases r1 with r1a | r1b
 ·dsimp only [Ak] at q
  refine OL (cA H7 ((j.1.1,j.1.2),j.2.1,j.2.2.1,(j.2.2.2.1.1,j.2.2.2.1.2.1,j.2.2.2.1.2.2),j.2.2.2.2.1,j.2.2.2.2.2) hr1 rfl (R2 (K0 ?_)))
  obtain ⟨z3,hz3,q⟩:=bE q
  let e0:LE:=fun zz=>(1,.dat T0 k)::(4,P0 0 0)::(6,.raw false [(.c (.pointer none))])::zz
  let h1:LH:=fun zz=>(0,.cells [N0,N0])::zz
  refine OQ ⟨Sum.elim (fun z3a=>[(0,⟨e0 [],h1 [],1⟩)]) (fun z3b=>[(1,⟨[(4,P0 0 0),(5,.dat T0 z3b)],h1 [],1⟩)]) z3,?_,?_⟩
  ·have q:=hz3
   clear hz3
   unfold f11_j2 at q
   refine OL (cI q (fun q=>?_) (fun q=>?_))
   ·refine OL (OL ?_)
    cases sE q
    refine E4 (iuR [2]) (R2 (AJ (AI rfl TV)))
   obtain ⟨z4,hz4,q⟩:=bE q
   refine OQ ⟨[(0,⟨e0 [(19,.dat .bool z4)],h1 [],1⟩)],?_,?_⟩
   ·have q:=hz4
    clear hz4
    unfold f11_j3 at q
    refine cN q (fun q=>?_) (fun q=>?_)
    ·refine gY (cF ?_)
     cases sE q
     refine E4 (iuR [2]) (R3 (AI (R2 TV) (AI rfl TV)))
    refine gN (cT ?_)
    cases sE q
    refine E4 (iuR [2]) (R3 (AI (R2 TV) (AI rfl TV)))
   refine AI (cI q (fun q=>?_) (fun q=>?_)) TV
   ·refine OL (OL ?_)
    cases sE q
    refine E4 (iuR [1]) (R2 (AJ (AI rfl TV)))
   cases sE q
   refine E4 (iuR [1]) (R2 (AI (R2 TV) (AI rfl TV)))
  rcases z3 with z3a | z3b
  ·dsimp only [Ak] at q
   refine AI (OL (OL ?_)) TV
   obtain ⟨z5,h,q⟩:=bE q
   refine lJ h (fun x=>⟨[(4,P0 0 0),(6,.raw false [(.c (.pointer none))]),(27,.dat T0 k),(28,D0 0)],h1 [],1⟩) (fun z=>[(3,⟨[(4,P0 0 0),(6,.raw false [(.c (.pointer none))])],h1 [],1⟩)]) (E4 (iuR [1]) (R3 (AI (R2 TV) (AI rfl TV)))) (fun m=>fun x z q=>?_) ?_
   ·have q:f11_l4 k (Ag (fun go x=>f11_l4 k go) m)=some z:=q
    unfold f11_l4 at q
    refine OL (OL (cI q (fun q=>?_) (fun q=>?_)))
    ·refine OL (OL ?_)
     exact nomatch q
    cases sE q
    refine E4 (iuR [1]) (AI rfl (AI (R2 TV) (AI rfl TV)))
   refine AI (OL ?_) TV
   exact nomatch q
  dsimp only [Ak] at q
  refine AI ?_ TV
  cases sE q
  refine AI rfl (E4 (iuR [0,0]) (R2 (AJ (R2 TV))))
 dsimp only [Ak] at q
 refine OL (cA H7 ((j.1.1,j.1.2),j.2.1,j.2.2.1,(j.2.2.2.1.1,j.2.2.2.1.2.1,j.2.2.2.1.2.2),j.2.2.2.2.1,j.2.2.2.2.2) hr1 rfl (R2 (K0 ?_)))
 obtain ⟨z7,hz7,q⟩:=bE q
 let h2:LH:=fun zz=>(0,.cells [N0,N0])::zz
 let h3:LH:=fun zz=>h2 ((1,.cells [(.d T5 r1b.1),(.d T4 r1b.2.1),(.d T0 r1b.2.2.1),(.d T0 r1b.2.2.2.1),(.d T0 r1b.2.2.2.2.1),(.d T0 r1b.2.2.2.2.2.1),(.d T0 r1b.2.2.2.2.2.2.1),(.d T12 r1b.2.2.2.2.2.2.2.1),(.d T5 r1b.2.2.2.2.2.2.2.2.1),(.osl 2),(.osl 3),(.d T0 (0:Int)),(.d T0 (0:Int)),(.d T9 (0:Int))])::(2,.arr 26 T0 r1b.2.2.2.2.2.2.2.2.2.1)::(3,.arr 26 T0 r1b.2.2.2.2.2.2.2.2.2.2)::zz)
 refine OQ ⟨Sum.elim (fun z7a=>[(0,⟨[(1,.dat T0 k),(4,P0 0 0),(6,P0 1 0)],h3 [],4⟩)]) (fun z7b=>[(1,⟨[(4,P0 0 0),(5,.dat T0 z7b)],h2 [],1⟩)]) z7,?_,?_⟩
 ·have q:=hz7
  clear hz7
  unfold f11_j6 at q
  refine OL (cI q (fun q=>?_) (fun q=>?_))
  ·refine OL (OL ?_)
   cases sE q
   refine E4 (iuR [2]) (R2 (AJ (AI rfl TV)))
  obtain ⟨z8,hz8,q⟩:=bE q
  refine OQ ⟨[(0,⟨[(1,.dat T0 k),(4,P0 0 0),(6,P0 1 0),(19,.dat .bool z8)],h3 [],4⟩)],?_,?_⟩
  ·have q:=hz8
   clear hz8
   unfold f11_j7 at q
   refine cN q (fun q=>?_) (fun q=>?_)
   ·refine gY (cF ?_)
    cases sE q
    refine E4 (iuR [2,3,4,5]) (R3 (AI (R2 TV) (R4 TV)))
   refine gN (cT ?_)
   cases sE q
   refine E4 (iuR [2,3,4,5]) (R3 (AI (R2 TV) (R4 TV)))
  refine AI (cI q (fun q=>?_) (fun q=>?_)) TV
  ·refine OL (OL ?_)
   cases sE q
   refine E4 (iuR [1]) (R2 (AJ (AI rfl TV)))
  cases sE q
  refine E4 I4 (R2 (AI (R2 TV) (R4 TV)))
 rcases z7 with z7a | z7b
 ·dsimp only [Ak] at q
  refine AI (OL (OL ?_)) TV
  obtain ⟨z11,h,q⟩:=bE q
  refine lJ h (fun x=>⟨[(4,P0 0 0),(6,P0 1 0),(27,.dat T0 k),(28,.dat T0 x.1)],h2 [(1,.cells [(.d T5 x.2.1),(.d T4 x.2.2.1),(.d T0 x.2.2.2.1),(.d T0 x.2.2.2.2.1),(.d T0 x.2.2.2.2.2.1),(.d T0 x.2.2.2.2.2.2.1),(.d T0 x.2.2.2.2.2.2.2.1),(.d T12 x.2.2.2.2.2.2.2.2.1),(.d T5 x.2.2.2.2.2.2.2.2.2.1),(.osl 2),(.osl 3),(.d T0 x.2.2.2.2.2.2.2.2.2.2.1),(.d T0 x.2.2.2.2.2.2.2.2.2.2.2.1),(.d T9 x.2.2.2.2.2.2.2.2.2.2.2.2.1)]),(2,.arr 26 T0 x.2.2.2.2.2.2.2.2.2.2.2.2.2.1),(3,.arr 26 T0 x.2.2.2.2.2.2.2.2.2.2.2.2.2.2)],4⟩) (fun z=>Sum.elim (fun za=>[(1,⟨[(4,P0 0 0),(5,.dat T0 za)],h2 [],1⟩)]) (fun zb=>[(3,⟨[(4,P0 0 0),(6,P0 1 0)],h2 [(1,.cells [(.d T5 zb.1),(.d T4 zb.2.1),(.d T0 zb.2.2.1),(.d T0 zb.2.2.2.1),(.d T0 zb.2.2.2.2.1),(.d T0 zb.2.2.2.2.2.1),(.d T0 zb.2.2.2.2.2.2.1),(.d T12 zb.2.2.2.2.2.2.2.1),(.d T5 zb.2.2.2.2.2.2.2.2.1),(.osl 2),(.osl 3),(.d T0 zb.2.2.2.2.2.2.2.2.2.1),(.d T0 zb.2.2.2.2.2.2.2.2.2.2.1),(.d T9 zb.2.2.2.2.2.2.2.2.2.2.2.1)]),(2,.arr 26 T0 zb.2.2.2.2.2.2.2.2.2.2.2.2.1),(3,.arr 26 T0 zb.2.2.2.2.2.2.2.2.2.2.2.2.2)],4⟩)]) z) (E4 I4 (R3 (AI (R2 TV) (R4 TV)))) (fun m=>An (fun v28=>An (fun c1_0=>An (fun c1_1=>An (fun c1_2=>An (fun c1_3=>An (fun c1_4=>An (fun c1_5=>An (fun c1_6=>An (fun c1_7=>An (fun c1_8=>An (fun c1_11=>An (fun c1_12=>An (fun c1_13=>An (fun l2=>fun l3 z q=>?_))))))))))))))) ?_
  ·have q:f11_l8 k _ v28 c1_0 c1_1 c1_2 c1_3 c1_4 c1_5 c1_6 c1_7 c1_8 c1_11 c1_12 c1_13 l2 l3=some z:=q
   unfold f11_l8 at q
   refine OL (OL (cI q (fun q=>?_) (fun q=>?_)))
   ·refine OL (OL ?_)
    obtain ⟨r12,h,q⟩:=bE q
    refine OL (cB H8 (c1_0,c1_1,c1_2,c1_3,c1_4,c1_5,c1_6,c1_7,c1_8,l2,l3,c1_11,c1_12,c1_13) (iuR [2,3,4]) false h rfl (AI NH (R2 (AJ (AI (R3 TV) (OL (cI q (fun q=>?_) (fun q=>?_))))))))
    ·refine OL (OL ?_)
     cases sE q
     refine E4 (iuR [1]) (R2 (AJ (AI rfl TV)))
    refine EI ((i64.wrap (v28+1)),r12.2.1,r12.2.2.1,r12.2.2.2.1,r12.2.2.2.2.1,r12.2.2.2.2.2.1,r12.2.2.2.2.2.2.1,r12.2.2.2.2.2.2.2.1,r12.2.2.2.2.2.2.2.2.1,r12.2.2.2.2.2.2.2.2.2.1,r12.2.2.2.2.2.2.2.2.2.2.1,r12.2.2.2.2.2.2.2.2.2.2.2.1,r12.2.2.2.2.2.2.2.2.2.2.2.2.1,r12.2.2.2.2.2.2.2.2.2.2.2.2.2.1,r12.2.2.2.2.2.2.2.2.2.2.2.2.2.2) (AI q (E4 (iuR [1,2,8,9]) (R3 (AI (R2 TV) (R4 TV)))))
   cases sE q
   refine E4 I4 (AI rfl (AI (R2 TV) (R4 TV)))
  rcases z11 with z11a | z11b
  ·dsimp only [Ak] at q
   refine AI ?_ TV
   cases sE q
   refine AI rfl (E4 (iuR [0,0]) (R2 (AJ (R2 TV))))
  dsimp only [Ak] at q
  refine AI (OL ?_) TV
  obtain ⟨r13,h,q⟩:=bE q
  refine OL (cB H9 (z11b.1,z11b.2.1,z11b.2.2.1,z11b.2.2.2.1,z11b.2.2.2.2.1,z11b.2.2.2.2.2.1,z11b.2.2.2.2.2.2.1,z11b.2.2.2.2.2.2.2.1,z11b.2.2.2.2.2.2.2.2.1,z11b.2.2.2.2.2.2.2.2.2.2.2.2.1,z11b.2.2.2.2.2.2.2.2.2.2.2.2.2,z11b.2.2.2.2.2.2.2.2.2.1,z11b.2.2.2.2.2.2.2.2.2.2.1,z11b.2.2.2.2.2.2.2.2.2.2.2.1) (iuR [2,3,4]) false h rfl (AI NH (R2 (AJ (AI (R3 TV) (OL ?_))))))
  cases sE q
  refine AI rfl (E4 (iuR [8,9]) (R2 (AJ (R2 TV))))
 dsimp only [Ak] at q
 refine AI ?_ TV
 cases sE q
 refine AI rfl (E4 (iuR [0,0]) (R2 (AJ (R2 TV))))
theorem H11:HI C11 11:=hI Tryz.f11 rfl fun x=>V11 x.1 x.2
def f13 (t_j_Net_In:LI) (t_j_Net_Layers:LTz0) (t_j_Kind t_j_Batch t_j_Rate_Step t_j_Rate_Keep t_j_Rate_Bound:Int) (t_j_Data:D5) (t_j_P t_s_P t_s_M:LI) (t_steps t_loss_Hi t_loss_Lo:Int):Option (Int×PTz9):=
 some (t_steps,t_j_Net_In,t_j_Net_Layers,t_j_Kind,t_j_Batch,t_j_Rate_Step,t_j_Rate_Keep,t_j_Rate_Bound,t_j_Data,t_j_P,t_steps,t_loss_Hi,t_loss_Lo,t_s_P,t_s_M)
def C13:Con:=⟨PTz19,Int×PTz9,3,fun x=>[P0 0 0],fun x=>[(0,.cells [(.d T5 x.1),(.d T4 x.2.1),(.d T0 x.2.2.1),(.d T0 x.2.2.2.1),(.d T0 x.2.2.2.2.1),(.d T0 x.2.2.2.2.2.1),(.d T0 x.2.2.2.2.2.2.1),(.d T12 x.2.2.2.2.2.2.2.1),(.d T5 x.2.2.2.2.2.2.2.2.1),(.osl 1),(.osl 2),(.d T0 x.2.2.2.2.2.2.2.2.2.2.2.1),(.d T0 x.2.2.2.2.2.2.2.2.2.2.2.2.1),(.d T9 x.2.2.2.2.2.2.2.2.2.2.2.2.2)]),(1,.arr 26 T0 x.2.2.2.2.2.2.2.2.2.1),(2,.arr 26 T0 x.2.2.2.2.2.2.2.2.2.2.1)],fun x=>f13 x.1 x.2.1 x.2.2.1 x.2.2.2.1 x.2.2.2.2.1 x.2.2.2.2.2.1 x.2.2.2.2.2.2.1 x.2.2.2.2.2.2.2.1 x.2.2.2.2.2.2.2.2.1 x.2.2.2.2.2.2.2.2.2.1 x.2.2.2.2.2.2.2.2.2.2.1 x.2.2.2.2.2.2.2.2.2.2.2.1 x.2.2.2.2.2.2.2.2.2.2.2.2.1 x.2.2.2.2.2.2.2.2.2.2.2.2.2,fun y=>[.dat T0 y.1],fun y=>[(0,.cells [(.d T5 y.2.1),(.d T4 y.2.2.1),(.d T0 y.2.2.2.1),(.d T0 y.2.2.2.2.1),(.d T0 y.2.2.2.2.2.1),(.d T0 y.2.2.2.2.2.2.1),(.d T0 y.2.2.2.2.2.2.2.1),(.d T12 y.2.2.2.2.2.2.2.2.1),(.d T5 y.2.2.2.2.2.2.2.2.2.1),(.osl 1),(.osl 2),(.d T0 y.2.2.2.2.2.2.2.2.2.2.1),(.d T0 y.2.2.2.2.2.2.2.2.2.2.2.1),(.d T9 y.2.2.2.2.2.2.2.2.2.2.2.2.1)]),(1,.arr 26 T0 y.2.2.2.2.2.2.2.2.2.2.2.2.2.1),(2,.arr 26 T0 y.2.2.2.2.2.2.2.2.2.2.2.2.2.2)],3⟩
theorem V13 t_j_Net_In t_j_Net_Layers t_j_Kind t_j_Batch t_j_Rate_Step t_j_Rate_Keep t_j_Rate_Bound t_j_Data t_j_P t_s_P t_s_M t_steps t_loss_Hi t_loss_Lo y (q:f13 t_j_Net_In t_j_Net_Layers t_j_Kind t_j_Batch t_j_Rate_Step t_j_Rate_Keep t_j_Rate_Bound t_j_Data t_j_P t_s_P t_s_M t_steps t_loss_Hi t_loss_Lo=some y):VE Tryz.f13 3 C13 (t_j_Net_In,t_j_Net_Layers,t_j_Kind,t_j_Batch,t_j_Rate_Step,t_j_Rate_Keep,t_j_Rate_Bound,t_j_Data,t_j_P,t_s_P,t_s_M,t_steps,t_loss_Hi,t_loss_Lo) y:=by
 unfold f13 at q
 refine OL (OL ?_)
 cases sE q
 refine AI rfl (E4 I3 (R2 (AI TV (R3 TV))))
theorem H13:HI C13 13:=hI Tryz.f13 rfl fun x=>V13 x.1 x.2.1 x.2.2.1 x.2.2.2.1 x.2.2.2.2.1 x.2.2.2.2.2.1 x.2.2.2.2.2.2.1 x.2.2.2.2.2.2.2.1 x.2.2.2.2.2.2.2.2.1 x.2.2.2.2.2.2.2.2.2.1 x.2.2.2.2.2.2.2.2.2.2.1 x.2.2.2.2.2.2.2.2.2.2.2.1 x.2.2.2.2.2.2.2.2.2.2.2.2.1 x.2.2.2.2.2.2.2.2.2.2.2.2.2
def f27_l1 (n:Az) (go:(Int×LTz0)→Option LTz0) (i:Int) (l3:LTz0):Option LTz0:=
 bif (decide (i<n.2.length)) then
 Ad (0≤i∧i<n.2.length)<|
 Ad (0≤i∧i<n.2.length)<|
 Ad (0≤i∧i<n.2.length)<|
 Ad ((l3.length+List.length ([((rd (Ty.z T1) n.2 i).1,((rd (Ty.z T1) n.2 i).2).1,((rd (Ty.z T1) n.2 i).2).2)]))*32≤140737488355328)<|
 go ((i64.wrap (i+1)),(l3++([((rd (Ty.z T1) n.2 i).1,((rd (Ty.z T1) n.2 i).2).1,((rd (Ty.z T1) n.2 i).2).2)])))
 else
 some l3
def f27 (n:Az):Option Az:=
 Ac (Ag (fun go x=>f27_l1 n go x.1 x.2) Ah ((0:Int),[])) fun z1=>
 some (n.1,z1)
def C27:Con:=⟨Az,Az,0,fun x=>[.dat T3 x],NX,fun x=>f27 x,fun y=>[.raw true [(.d T5 y.1),(.osl 0)]],fun y=>[(0,.arr 97 T1 y.2)],1⟩
theorem V27 n y (q:f27 n=some y):VC Tryz.f27 C27 n y:=by
 unfold f27 at q
 refine OL (OL (OL (OL (OL ?_))))
 obtain ⟨z1,h,q⟩:=bE q
 refine lJ h (fun x=>⟨[(1,P0 0 0),(2,P0 1 0),(3,P0 2 0),(4,.dat T0 x.1)],[(0,.cells [(.d T5 n.1),(.d T4 n.2)]),(1,.cells [N0,N0]),(2,.cells [(.d T5 n.1),(.osl 3)]),(3,.arr 97 T1 x.2)],4⟩) (fun z=>[(2,⟨[(2,P0 0 0),(3,P0 1 0)],[(0,.cells [N0,N0]),(1,.cells [(.d T5 n.1),(.osl 2)]),(2,.arr 97 T1 z)],3⟩)]) (E4 (iuR [1,2,3,0]) (R2 (AI (R3 TV) (R4 TV)))) (fun m=>An (fun i=>fun l3 z q=>?_)) ?_
 ·have q:f27_l1 n _ i l3=some z:=q
  unfold f27_l1 at q
  refine OL (OL (cI q (fun q=>?_) (fun q=>?_)))
  ·refine OL (EI (tU 0 21 (.alt 21 (.alt 22 (.take 23 (.alt 24 .done .done)) .done) .done)) (EI [(24,[2])] (EI [] (AI rfl (gI q (fun q=>?_))))))
   refine gI q (fun q=>?_)
   refine gI q (fun q=>?_)
   refine AI TV (OL (AI TV (OL (gI q (fun q=>?_)))))
   refine AI TV (OL (EI ((i64.wrap (i+1)),(l3++([((rd (Ty.z T1) n.2 i).1,((rd (Ty.z T1) n.2 i).2).1,((rd (Ty.z T1) n.2 i).2).2)]))) (AI q (E4 (iuR [1,2,3,6]) (R2 (AI (R3 TV) (R4 TV)))))))
  cases sE q
  refine E4 (iuR [2,3,4]) (AI rfl (AI (R2 TV) (R3 TV)))
 refine AI (OL (OL ?_)) TV
 cases sE q
 refine AI rfl (E4 (iuR [3]) (AI rfl (AJ (AI rfl TV))))
theorem H27:HI C27 27:=hI Tryz.f27 rfl fun x=>V27 x
def f16_j1 (j:PTz5):Option Az:=
 Ac (f27 (j.1.1,j.1.2)) fun q1_2=>
 some (q1_2.1,q1_2.2)
def f16_l2 (j:PTz5) (go:(Int×D5)→Option D5) (i:Int) (l4:D5):Option D5:=
 bif (decide (i<j.2.2.2.2.1.length)) then
 Ad (0≤i∧i<j.2.2.2.2.1.length)<|
 Ad (0≤i∧i<j.2.2.2.2.1.length)<|
 Ad (0≤i∧i<j.2.2.2.2.1.length)<|
 Ad ((l4.length+List.length ([((rd (Ty.z T2) j.2.2.2.2.1 i).1,((rd (Ty.z T2) j.2.2.2.2.1 i).2).1,((rd (Ty.z T2) j.2.2.2.2.1 i).2).2)]))*56≤140737488355328)<|
 go ((i64.wrap (i+1)),(l4++([((rd (Ty.z T2) j.2.2.2.2.1 i).1,((rd (Ty.z T2) j.2.2.2.2.1 i).2).1,((rd (Ty.z T2) j.2.2.2.2.1 i).2).2)])))
 else
 some l4
def f16 (j:PTz5):Option (LI×Int×Int×Int×Int×Int×LI×LTz0×D5):=
 Ac (f16_j1 j) fun z1=>
 Ac (Ag (fun go x=>f16_l2 j go x.1 x.2) Ah ((0:Int),[])) fun z2=>
 some (z1.1,j.2.1,j.2.2.1,j.2.2.2.1.1,j.2.2.2.1.2.1,j.2.2.2.1.2.2,j.2.2.2.2.2,z1.2,z2)
def C16:Con:=⟨PTz5,LI×Int×Int×Int×Int×Int×LI×LTz0×D5,0,fun x=>[.dat T11 x],NX,fun x=>f16 x,fun y=>[.raw true [(.d T5 y.1),(.osl 0),(.d T0 y.2.1),(.d T0 y.2.2.1),(.d T0 y.2.2.2.1),(.d T0 y.2.2.2.2.1),(.d T0 y.2.2.2.2.2.1),(.osl 1),(.d T5 y.2.2.2.2.2.2.1)]],fun y=>[(0,.arr 97 T1 y.2.2.2.2.2.2.2.1),(1,.arr 84 T2 y.2.2.2.2.2.2.2.2)],2⟩
theorem V16 j y (q:f16 j=some y):VC Tryz.f16 C16 j y:=by
 unfold f16 at q
 refine OL ?_
 obtain ⟨z1,hz1,q⟩:=bE q
 let h0:LH:=fun zz=>(0,.cells [(.d T5 j.1.1),(.d T4 j.1.2),(.d T0 j.2.1),(.d T0 j.2.2.1),(.d T0 j.2.2.2.1.1),(.d T0 j.2.2.2.1.2.1),(.d T0 j.2.2.2.1.2.2),(.d T12 j.2.2.2.2.1),(.d T5 j.2.2.2.2.2)])::(1,.cells [N0,N0,(.d T0 (0:Int)),(.d T0 (0:Int)),(.d T0 (0:Int)),(.d T0 (0:Int)),(.d T0 (0:Int)),N0,N0])::zz
 refine OQ ⟨[(0,⟨[(1,P0 0 0),(2,P0 1 0),(3,P0 2 0)],h0 [(2,.cells [(.d T5 z1.1),(.osl 3),(.d T0 j.2.1),(.d T0 j.2.2.1),(.d T0 j.2.2.2.1.1),(.d T0 j.2.2.2.1.2.1),(.d T0 j.2.2.2.1.2.2),N0,(.d T5 j.2.2.2.2.2)]),(3,.arr 97 T1 z1.2)],4⟩)],?_,?_⟩
 ·have q:=hz1
  clear hz1
  unfold f16_j1 at q
  obtain ⟨q1_2,hq1_2,q⟩:=bE q
  refine EI (.take 0 (.take 1 (tU 3 16 (.alt 2 (.take 19 (.alt 20 (.alt 21 .done .done) .done)) (.alt 20 (.alt 2 (.take 19 (.alt 21 .done .done)) .done) .done))))) (EI [] (EI [] (AI rfl (AI (AI TV ?_) ?_))))
  ·refine AI TV (OL (cA H27 (j.1.1,j.1.2) hq1_2 rfl (R2 (K0 (AI TV (OL ?_))))))
   cases sE q
   refine E4 I4 (AI rfl (AI (R3 TV) (R4 TV)))
  refine OL (cA H27 (j.1.1,j.1.2) hq1_2 rfl (R2 (K0 (AI TV (AI TV (OL ?_))))))
  cases sE q
  refine E4 (iuR [1,2,4,3]) (AI rfl (AI (R3 TV) (R4 TV)))
 refine AI (OL (OL ?_)) TV
 obtain ⟨z2,h,q⟩:=bE q
 refine lJ h (fun x=>⟨[(1,P0 0 0),(2,P0 1 0),(3,P0 2 0),(4,.dat T0 x.1)],h0 [(2,.cells [(.d T5 z1.1),(.osl 3),(.d T0 j.2.1),(.d T0 j.2.2.1),(.d T0 j.2.2.2.1.1),(.d T0 j.2.2.2.1.2.1),(.d T0 j.2.2.2.1.2.2),(.osl 4),(.d T5 j.2.2.2.2.2)]),(3,.arr 97 T1 z1.2),(4,.arr 84 T2 x.2)],5⟩) (fun z=>[(2,⟨[(2,P0 0 0),(3,P0 1 0)],[(0,.cells [N0,N0,(.d T0 (0:Int)),(.d T0 (0:Int)),(.d T0 (0:Int)),(.d T0 (0:Int)),(.d T0 (0:Int)),N0,N0]),(1,.cells [(.d T5 z1.1),(.osl 2),(.d T0 j.2.1),(.d T0 j.2.2.1),(.d T0 j.2.2.2.1.1),(.d T0 j.2.2.2.1.2.1),(.d T0 j.2.2.2.1.2.2),(.osl 3),(.d T5 j.2.2.2.2.2)]),(2,.arr 97 T1 z1.2),(3,.arr 84 T2 z)],4⟩)]) (E4 (iuR [1,2,3,4,0]) (R2 (AI (R3 TV) (R5 TV)))) (fun m=>An (fun i=>fun l4 z q=>?_)) ?_
 ·have q:f16_l2 j _ i l4=some z:=q
  unfold f16_l2 at q
  refine OL (OL (cI q (fun q=>?_) (fun q=>?_)))
  ·refine OL (EI (tU 0 21 (.alt 21 (.alt 22 (.take 23 (.alt 24 .done .done)) .done) .done)) (EI [(24,[2])] (EI [] (AI rfl (gI q (fun q=>?_))))))
   refine gI q (fun q=>?_)
   refine gI q (fun q=>?_)
   refine AI TV (OL (AI TV (OL (gI q (fun q=>?_)))))
   refine AI TV (OL (EI ((i64.wrap (i+1)),(l4++([((rd (Ty.z T2) j.2.2.2.2.1 i).1,((rd (Ty.z T2) j.2.2.2.2.1 i).2).1,((rd (Ty.z T2) j.2.2.2.2.1 i).2).2)]))) (AI q (E4 (iuR [1,2,3,4,7]) (R2 (AI (R3 TV) (R5 TV)))))))
  cases sE q
  refine E4 (iuR [2,3,4,5]) (AI rfl (AI (R2 TV) (R4 TV)))
 refine AI (OL (OL ?_)) TV
 cases sE q
 refine AI rfl (E4 (iuR [3,4]) (AI rfl (AJ (R2 TV))))
theorem H16:HI C16 16:=hI Tryz.f16 rfl fun x=>V16 x
def f25 (p_:LI):Option Al:=
 Ad ((List.length ([]:LI)+p_.length)*8≤140737488355328)<|
 Ad (0≤(p_.length:Int)∧(p_.length:Int)≤p_.length∧Int.toNat (p_.length:Int)*8≤140737488355328)<|
 some ((([]:LI)++p_),(List.replicate (Int.toNat (p_.length:Int)) (0:Int)))
def C25:Con:=⟨LI,Al,0,fun x=>[.dat T5 x],NX,fun x=>f25 x,fun y=>[.raw true [(.osl 0),(.osl 1)]],fun y=>[(0,.arr 26 T0 y.1),(1,.arr 26 T0 y.2)],2⟩
theorem V25 p_ y (q:f25 p_=some y):VC Tryz.f25 C25 p_ y:=by
 unfold f25 at q
 refine OL (OL ?_)
 obtain ⟨g1_0,q⟩:=gE q
 obtain ⟨g1_1,q⟩:=gE q
 refine EI (.take 1 (.take 3 (.take 4 (.alt 0 (.alt 2 (.alt 5 (.take 6 (.alt 7 .done .done)) .done) (.alt 5 (.alt 2 (.take 6 (.alt 7 .done .done)) .done) .done)) (.alt 5 (.alt 0 (.alt 2 (.take 6 (.alt 7 .done .done)) .done) .done) .done))))) (EI [] (EI [] (AI rfl (AI (AI TV ?_) ?_))))
 ·refine AI g1_1 (AI TV (OL (AI TV (OL (AI g1_0 (AI TV (OL ?_)))))))
  cases sE q
  refine AI rfl (E4 (iuR [4,2]) (AI rfl (AJ (R2 TV))))
 refine OL (AI (AI TV ?_) ?_)
 ·refine AI g1_1 (AI TV (OL (AI g1_0 (AI TV (OL ?_)))))
  cases sE q
  refine AI rfl (E4 (iuR [4,3]) (AI rfl (AJ (R2 TV))))
 refine OL (AI g1_0 (AI TV (AI g1_1 (AI TV (OL ?_)))))
 cases sE q
 refine AI rfl (E4 (iuR [3,4]) (AI rfl (AJ (R2 TV))))
theorem H25:HI C25 25:=hI Tryz.f25 rfl fun x=>V25 x
def f37_j1 (total size step:Int):Option (Sum Unit Unit):=
 bif (decide (total<1)) then
 some (Sum.inr ())
 else
 bif (decide (total>256)) then
 some (Sum.inr ())
 else
 bif (decide (size<1)) then
 some (Sum.inr ())
 else
 bif (decide (size>total)) then
 some (Sum.inr ())
 else
 bif (decide (step<0)) then
 some (Sum.inr ())
 else
 some (Sum.inl ())
def f37_l2 (total size step:Int) (go:Bc→Option LI) (i:Int) (l0:LI):Option LI:=
 bif (decide (i<size)) then
 Ad (total≠0)<|
 Ad ((l0.length+List.length ([(Int.tmod (i64.wrap ((Int.tmod (i64.wrap ((Int.tmod step total)*size)) total)+i)) total)]))*8≤140737488355328)<|
 go ((i64.wrap (i+1)),(l0++([(Int.tmod (i64.wrap ((Int.tmod (i64.wrap ((Int.tmod step total)*size)) total)+i)) total)])))
 else
 some l0
def f37 (total size step:Int):Option Bc:=
 Ac (f37_j1 total size step) fun z1=>
 Ak z1 (fun z1a=>
 Ad (total≠0)<|
 Ad (total≠0)<|
 Ac (Ag (fun go x=>f37_l2 total size step go x.1 x.2) Ah ((0:Int),[])) fun z2=>
 some ((0:Int),z2)) (fun z1b=>
 some ((1:Int),[]))
def C37:Con:=⟨Bw,Bc,0,fun x=>[.dat T0 x.1,.dat T0 x.2.1,.dat T0 x.2.2],NX,fun x=>f37 x.1 x.2.1 x.2.2,fun y=>[O0 0,.dat T0 y.1],fun y=>[(0,.arr 3 T0 y.2)],1⟩
theorem V37 total size step y (q:f37 total size step=some y):VC Tryz.f37 C37 (total,size,step) y:=by
 unfold f37 at q
 refine OL ?_
 obtain ⟨z1,hz1,q⟩:=bE q
 refine OQ ⟨Sum.elim (fun z1a=>[(0,⟨[(0,.dat T0 total),(1,.dat T0 size),(2,.dat T0 step)],[],0⟩)]) (fun z1b=>[(1,⟨[(6,.raw false [N0]),(7,D0 1)],[],0⟩)]) z1,?_,?_⟩
 ·have q:=hz1
  clear hz1
  unfold f37_j1 at q
  refine OL (cN q (fun q=>?_) (fun q=>?_))
  ·refine gY (cF (cN q (fun q=>?_) (fun q=>?_)))
   ·refine gY (cF (cN q (fun q=>?_) (fun q=>?_)))
    ·refine gY (gY (cF (cN q (fun q=>?_) (fun q=>?_))))
     ·refine gY (cF (cI q (fun q=>?_) (fun q=>?_)))
      ·cases sE q
       refine OL (E4 [] (R2 (AJ TV)))
      cases sE q
      refine E4 [] (R4 (AI TV TV))
     refine gN (cT (cT (OL ?_)))
     cases sE q
     refine E4 [] (R2 (AJ TV))
    refine gN (gN (cT (gN (gN (cT (cT (OL ?_)))))))
    cases sE q
    refine E4 [] (R2 (AJ TV))
   refine gN (cT (gN (gN (gN (cT (gN (gN (cT (cT (OL ?_))))))))))
   cases sE q
   refine E4 [] (R2 (AJ TV))
  refine gN (cT (gN (gN (cT (gN (gN (gN (cT (gN (gN (cT (cT (OL ?_)))))))))))))
  cases sE q
  refine E4 [] (R2 (AJ TV))
 rcases z1 with z1a | z1b
 ·dsimp only [Ak] at q
  refine AI (OL (gI q (fun q=>?_))) TV
  refine gI q (fun q=>?_)
  refine OL (OL (OL ?_))
  obtain ⟨z2,h,q⟩:=bE q
  refine lJ h (fun x=>⟨[(0,.dat T0 total),(1,.dat T0 size),(8,.dat T0 (Int.tmod (i64.wrap ((Int.tmod step total)*size)) total)),(9,O0 0),(10,.dat T0 x.1)],[(0,.arr 3 T0 x.2)],1⟩) (fun z=>[(2,⟨[(9,O0 0)],[(0,.arr 3 T0 z)],1⟩)]) (E4 (iuR [0]) (R5 (AJ (AI rfl TV)))) (fun m=>An (fun i=>fun l0 z q=>?_)) ?_
  ·have q:f37_l2 total size step _ i l0=some z:=q
   unfold f37_l2 at q
   refine OL (OL (cI q (fun q=>?_) (fun q=>?_)))
   ·refine OL (gI q (fun q=>?_))
    refine OL (OL (gI q (fun q=>?_)))
    refine EI ((i64.wrap (i+1)),(l0++([(Int.tmod (i64.wrap ((Int.tmod (i64.wrap ((Int.tmod step total)*size)) total)+i)) total)]))) (AI q (E4 (iuR [3]) (R5 (AJ (AI rfl TV)))))
   cases sE q
   refine E4 (iuR [1]) (AI rfl (AJ (AI rfl TV)))
  refine AI (OL ?_) TV
  cases sE q
  refine AI rfl (E4 (iuR [1]) (R2 (AJ (AI rfl TV))))
 dsimp only [Ak] at q
 refine AI ?_ TV
 cases sE q
 refine AI rfl (E4 (iuR [0]) (R2 (AJ (AI rfl TV))))
theorem H37:HI C37 37:=hI Tryz.f37 rfl fun x=>V37 x.1 x.2.1 x.2.2
def f126 (v lo hi:Int):Option Bool:=
 bif (decide (v≥lo)) then
 some (decide (v≤hi))
 else
 some false
def C126:Con:=⟨Bw,Bool,0,fun x=>[.dat T0 x.1,.dat T0 x.2.1,.dat T0 x.2.2],NX,fun x=>f126 x.1 x.2.1 x.2.2,fun y=>[.dat .bool y],NX,0⟩
theorem V126 v lo hi y (q:f126 v lo hi=some y):VC Tryz.f126 C126 (v,lo,hi) y:=by
 unfold f126 at q
 refine OL (OL (cI q (fun q=>?_) (fun q=>?_)))
 ·refine gX (gX (cT ?_))
  cases sE q
  refine AI rfl (E4 [] (R2 (AI TV TV)))
 refine gM (gM (cF ?_))
 cases sE q
 refine AI rfl (E4 [] (R2 (AI TV TV)))
theorem H126:HI C126 126:=hI Tryz.f126 rfl fun x=>V126 x.1 x.2.1 x.2.2
def f86_j1 (n:Az):Option Unit:=
 bif ((n.1.length:Int)==1) then
 Ad (0≤(0:Int)∧0<(n.1.length:Int))<|
 Ac (f126 (rd 0 n.1 0) (1:Int) (1024:Int)) fun r3=>
 bif (!r3) then
 none
 else
 some ()
 else
 none
def f86_j5 (n:Az) (i:Int):Option Bool:=
 bif (ByteArray.toList ((rd (Ty.z T1) n.2 i).1)==ByteArray.toList (ByteArray.mk #[100,101,110,115,101])) then
 Ac (f126 (((rd (Ty.z T1) n.2 i).2).1) (1:Int) (256:Int)) fun r13=>
 bif r13 then
 some ((((rd (Ty.z T1) n.2 i).2).2)==0)
 else
 some false
 else
 none
def f86_l4 (n:Az) (go:Int→Option Unit) (i:Int):Option Unit:=
 bif (decide (i<n.2.length)) then
 Ad (0≤i∧i<n.2.length)<|
 Ac (f86_j5 n i) fun z12=>
 bif (!z12) then
 none
 else
 go (i64.wrap (i+1))
 else
 some ()
def f86 (n:Az):Option Unit:=
 Ac (f86_j1 n) fun z2=>
 Ac (Ag (fun go x=>f86_l4 n go x) Ah (0:Int)) fun z10=>
 some ()
def C86:Con:=⟨Az,Unit,0,fun x=>[.dat T3 x],NX,fun x=>f86 x,fun y=>[.dat .bool true],NX,0⟩
theorem V86 n y (q:f86 n=some y):VC Tryz.f86 C86 n y:=by
 unfold f86 at q
 refine OL ?_
 obtain ⟨z2,hz2,q⟩:=bE q
 let h0:LH:=fun zz=>(0,.cells [(.d T5 n.1),(.d T4 n.2)])::zz
 refine OQ ⟨[(0,⟨[(1,P0 0 0)],h0 [],1⟩)],?_,?_⟩
 ·have q:=hz2
  clear hz2
  unfold f86_j1 at q
  refine OL (OL (cI q (fun q=>?_) (fun q=>?_)))
  ·refine OL (gI q (fun q=>?_))
   obtain ⟨r3,h,q⟩:=bE q
   refine OL (cA H126 ((rd 0 n.1 0),(1:Int),(1024:Int)) h rfl (R3 (K0 (cI q (fun q=>?_) (fun q=>?_)))))
   ·exact nomatch q
   cases sE q
   refine E4 (iuR [1]) (AI rfl (AJ (AI rfl TV)))
  exact nomatch q
 refine AI (OL (OL ?_)) TV
 obtain ⟨z10,h,q⟩:=bE q
 refine lJ h (fun x=>⟨[(1,P0 0 0),(3,.dat T0 x)],h0 [],1⟩) (fun z=>[(3,⟨[],[],0⟩)]) (E4 (iuR [1]) (R2 (AJ (AI rfl TV)))) (fun m=>fun i z q=>?_) ?_
 ·have q:f86_l4 n _ i=some z:=q
  unfold f86_l4 at q
  refine OL (OL (cI q (fun q=>?_) (fun q=>?_)))
  ·refine OL (OL (gI q (fun q=>?_)))
   refine OL (OL ?_)
   obtain ⟨z12,hz12,q⟩:=bE q
   refine OQ ⟨[(0,⟨[(1,P0 0 0),(3,.dat T0 i),(5,.dat .bool z12)],h0 [],1⟩)],?_,?_⟩
   ·have q:=hz12
    clear hz12
    unfold f86_j5 at q
    refine OL (OL (cI q (fun q=>?_) (fun q=>?_)))
    ·obtain ⟨r13,h,q⟩:=bE q
     refine OL (cA H126 (((rd (Ty.z T1) n.2 i).2).1,(1:Int),(256:Int)) h rfl (R3 (K0 (cI q (fun q=>?_) (fun q=>?_)))))
     ·refine gX (gX (cT ?_))
      cases sE q
      refine E4 (iuR [1]) (R3 (AJ (AI rfl TV)))
     refine gM (gM (cF ?_))
     cases sE q
     refine E4 (iuR [1]) (R3 (AJ (AI rfl TV)))
    exact nomatch q
   refine AI (OL (cI q (fun q=>?_) (fun q=>?_))) TV
   ·exact nomatch q
   refine EI (i64.wrap (i+1)) (AI q (E4 (iuR [1]) (R2 (AJ (AI rfl TV)))))
  cases sE q
  refine E4 [] (AI rfl (AI TV TV))
 refine AI (OL ?_) TV
 cases sE q
 refine AI rfl (E4 [] (R2 (AI TV TV)))
theorem H86:HI C86 86:=hI Tryz.f86 rfl fun x=>V86 x
def f87_l1 (d:LI) (go:Ax→Option Int) (n i:Int):Option Int:=
 bif (decide (i<d.length)) then
 Ad (0≤i∧i<d.length)<|
 go ((i64.wrap (n*(rd 0 d i))),(i64.wrap (i+1)))
 else
 some n
def f87 (d:LI):Option Int:=
 Ac (Ag (fun go x=>f87_l1 d go x.1 x.2) Ah ((1:Int),(0:Int))) fun z1=>
 some z1
def C87:Con:=⟨LI,Int,0,fun x=>[.dat T5 x],NX,fun x=>f87 x,fun y=>[.dat T0 y],NX,0⟩
theorem V87 d y (q:f87 d=some y):VC Tryz.f87 C87 d y:=by
 unfold f87 at q
 refine OL (OL (OL (OL ?_)))
 obtain ⟨z1,h,q⟩:=bE q
 refine lJ h (fun x=>⟨[(0,.dat T5 d),(3,.dat T0 x.1),(4,.dat T0 x.2)],[],0⟩) (fun z=>[(2,⟨[(3,.dat T0 z)],[],0⟩)]) (E4 [] (R4 (AI TV TV))) (fun m=>An (fun n=>fun i z q=>?_)) ?_
 ·have q:f87_l1 d _ n i=some z:=q
  unfold f87_l1 at q
  refine OL (OL (cI q (fun q=>?_) (fun q=>?_)))
  ·refine OL (gI q (fun q=>?_))
   refine EI ((i64.wrap (n*(rd 0 d i))),(i64.wrap (i+1))) (AI q (E4 [] (R4 (AI TV TV))))
  cases sE q
  refine E4 [] (R2 (AI TV TV))
 refine AI (OL ?_) TV
 cases sE q
 refine AI rfl (E4 [] (R2 (AI TV TV)))
theorem H87:HI C87 87:=hI Tryz.f87 rfl fun x=>V87 x
def f54_j14 (n:Az) (great:Bool) (i r24:Int):Option Bool:=
 bif great then
 some true
 else
 some (decide ((i64.wrap ((((rd (Ty.z T1) n.2 i).2).1)*r24))>4096))
def f54_j13 (n:Az) (all:Int) (great:Bool) (i:Int) (l1:List LI):Option Ea:=
 bif (ByteArray.toList ((rd (Ty.z T1) n.2 i).1)==ByteArray.toList (ByteArray.mk #[100,101,110,115,101])) then
 Ac (f87 (rd (Ty.z T5) l1 (i64.wrap ((l1.length:Int)-1)))) fun r24=>
 Ac (f54_j14 n great i r24) fun z25=>
 some ((i64.wrap ((i64.wrap (all+(i64.wrap ((((rd (Ty.z T1) n.2 i).2).1)*r24))))+(((rd (Ty.z T1) n.2 i).2).1))),z25)
 else
 none
def f54_j15 (n:Az) (i:Int) (z23:Ea):Option Bool:=
 bif z23.2 then
 some true
 else
 Ac (f87 ([((rd (Ty.z T1) n.2 i).2).1])) fun r28=>
 some (decide (r28>4096))
def f54_j16 (z23:Ea):Option Unit:=
 bif (decide (z23.1>4096)) then
 none
 else
 some ()
def f54_l11 (n:Az) (go:(Int×Bool×PTz17)→Option (Int×Bool×(List LI))) (all:Int) (great:Bool) (i:Int) (l1:List LI):Option (Int×Bool×(List LI)):=
 bif (decide (i<n.2.length)) then
 Ad (0≤(i64.wrap ((l1.length:Int)-1))∧(i64.wrap ((l1.length:Int)-1))<l1.length)<|
 Ad (0≤i∧i<n.2.length)<|
 Ac (f54_j13 n all great i l1) fun z23=>
 Ac (f54_j15 n i z23) fun z27=>
 Ac (f54_j16 z23) fun z29=>
 Ad ((List.length ([]:LI)+List.length ([((rd (Ty.z T1) n.2 i).2).1]))*8≤140737488355328)<|
 Ad ((l1.length+List.length ([(([]:LI)++([((rd (Ty.z T1) n.2 i).2).1]))]))*24≤140737488355328)<|
 go (z23.1,z27,(i64.wrap (i+1)),(l1++([(([]:LI)++([((rd (Ty.z T1) n.2 i).2).1]))])))
 else
 some (all,great,l1)
def f54_j19 (n:Az) (z20:Int×Bool×(List LI)):Option Bool:=
 bif z20.2.1 then
 some true
 else
 Ac (f87 n.1) fun r36=>
 some (decide (r36>4096))
def f54_j18 (n:Az) (z20:Int×Bool×(List LI)):Option (Sum Unit Unit):=
 Ac (f54_j19 n z20) fun z35=>
 bif z35 then
 some (Sum.inr ())
 else
 some (Sum.inl ())
def f54 (n:Az):Option (Int×PTz17):=
 Ac (f86 (n.1,n.2)) fun r1=>
 Ad ((List.length ([]:LI)+n.1.length)*8≤140737488355328)<|
 Ac (Ag (fun go x=>f54_l11 n go x.1 x.2.1 x.2.2.1 x.2.2.2) Ah ((0:Int),(decide ((n.2.length:Int)>16)),(0:Int),[(([]:LI)++n.1)])) fun z20=>
 Ac (f54_j18 n z20) fun z33=>
 Ak z33 (fun z33a=>
 some (z20.1,(0:Int),z20.2.2)) (fun z33b=>
 some ((0:Int),(2:Int),[]))
def C54:Con:=⟨Az,Int×PTz17,0,fun x=>[.dat T3 x],NX,fun x=>f54 x,fun y=>[O0 0,.dat T0 y.1,.dat T0 y.2.1],fun y=>[(0,.arr 22 T5 y.2.2)],1⟩
theorem V54 n y (q:f54 n=some y):VC Tryz.f54 C54 n y:=by
 unfold f54 at q
 refine OL (OL (OL ?_))
 obtain ⟨r1,h,q⟩:=bE q
 refine OL (cA H86 (n.1,n.2) h rfl (R2 (K0 (cF (OL (OL (OL (gI q (fun q=>?_)))))))))
 refine OL (OL (EI (tU 0 6 .done) (EI [] (EI [] (AI rfl (OL (OL ?_)))))))
 obtain ⟨z20,hz20,q⟩:=bE q
 let e0:LE:=fun zz=>(1,P0 0 0)::(5,O0 1)::zz
 let h1:LH:=fun zz=>(0,.cells [(.d T5 n.1),(.d T4 n.2)])::zz
 refine lJ hz20 (fun x=>⟨e0 [(6,.dat T0 x.1),(7,.dat .bool x.2.1),(8,.dat T0 x.2.2.1)],h1 [(1,.arr 22 T5 x.2.2.2)],2⟩) (fun z=>[(2,⟨e0 [(6,.dat T0 z.1),(7,.dat .bool z.2.1)],h1 [(1,.arr 22 T5 z.2.2)],2⟩)]) (E4 (iuR [1,4]) (R4 (AI (R2 TV) (R2 TV)))) (fun m=>An (fun all=>An (fun great=>An (fun i=>fun l1 z q=>?_)))) ?_
 ·have q:f54_l11 n _ all great i l1=some z:=q
  unfold f54_l11 at q
  refine OL (OL (cI q (fun q=>?_) (fun q=>?_)))
  ·refine OL (OL (gI q (fun q=>?_)))
   refine OL (gI q (fun q=>?_))
   refine OL ?_
   obtain ⟨z23,hz23,q⟩:=bE q
   let h2:LH:=fun zz=>h1 ((1,.arr 22 T5 l1)::zz)
   let h3:LH:=fun zz=>h2 ((2,.arr 3 T0 ([((rd (Ty.z T1) n.2 i).2).1]))::zz)
   refine OQ ⟨[(0,⟨e0 [(6,.dat T0 z23.1),(7,.dat .bool z23.2),(8,.dat T0 i),(9,O0 2)],h3 [],3⟩)],?_,?_⟩
   ·have q:=hz23
    clear hz23
    unfold f54_j13 at q
    refine OL (OL (cI q (fun q=>?_) (fun q=>?_)))
    ·refine OL ?_
     obtain ⟨r24,h,q⟩:=bE q
     refine OL (cA H87 (rd (Ty.z T5) l1 (i64.wrap ((l1.length:Int)-1))) h rfl (AI rfl (K0 ?_)))
     obtain ⟨z25,hz25,q⟩:=bE q
     refine OQ ⟨[(0,⟨e0 [(6,.dat T0 all),(7,.dat .bool z25),(8,.dat T0 i),(10,P0 2 0),(11,.dat T0 r24)],h2 [(2,.cells [(.d .str ((rd (Ty.z T1) n.2 i).1)),(.d T0 (((rd (Ty.z T1) n.2 i).2).1)),(.d T0 (((rd (Ty.z T1) n.2 i).2).2))])],3⟩)],?_,?_⟩
     ·have q:=hz25
      clear hz25
      unfold f54_j14 at q
      refine cN q (fun q=>?_) (fun q=>?_)
      ·refine gY (gY (gY (gY (cF ?_))))
       cases sE q
       refine E4 I3 (R5 (AI (R3 TV) (R3 TV)))
      refine gN (gN (gN (gN (cT ?_))))
      cases sE q
      refine E4 I3 (R5 (AI (R3 TV) (R3 TV)))
     refine AI (OL (OL ?_)) TV
     cases sE q
     refine E4 (iuR [1,2,4]) (R4 (AI (R3 TV) (R3 TV)))
    exact nomatch q
   refine AI ?_ TV
   obtain ⟨z27,hz27,q⟩:=bE q
   let e4:LE:=fun zz=>e0 ((6,.dat T0 z23.1)::(7,.dat .bool z27)::(8,.dat T0 i)::(9,O0 2)::zz)
   refine OQ ⟨[(0,⟨e4 [],h3 [],3⟩)],?_,?_⟩
   ·have q:=hz27
    clear hz27
    unfold f54_j15 at q
    refine cN q (fun q=>?_) (fun q=>?_)
    ·refine gY ?_
     obtain ⟨r28,h,q⟩:=bE q
     refine OL (cD H87 [((rd (Ty.z T1) n.2 i).2).1] h rfl (AI rfl (AI (fun _=>rfl) (R2 (AI TV (AI TV (gY (cF ?_))))))))
     cases sE q
     refine E4 I3 (R4 (AI (R3 TV) (R3 TV)))
    refine gN (gN (cT ?_))
    cases sE q
    refine E4 I3 (R4 (AI (R3 TV) (R3 TV)))
   refine AI ?_ TV
   obtain ⟨z29,hz29,q⟩:=bE q
   refine OQ ⟨[(0,⟨e4 [],h3 [],3⟩)],?_,?_⟩
   ·have q:=hz29
    clear hz29
    unfold f54_j16 at q
    refine OL (cI q (fun q=>?_) (fun q=>?_))
    ·exact nomatch q
    cases sE q
    refine E4 I3 (R4 (AI (R3 TV) (R3 TV)))
   refine AI (OL (OL (gI q (fun q=>?_)))) TV
   refine OL (OL (gI q (fun q=>?_)))
   refine EI (z23.1,z27,(i64.wrap (i+1)),(l1++([(([]:LI)++([((rd (Ty.z T1) n.2 i).2).1]))]))) (AI q (E4 (iuR [1,7]) (R4 (AI (R2 TV) (R2 TV)))))
  cases sE q
  refine E4 I2 (R3 (AI (R2 TV) (R2 TV)))
 refine AI ?_ TV
 obtain ⟨z33,hz33,q⟩:=bE q
 refine OQ ⟨Sum.elim (fun z33a=>[(0,⟨[(5,O0 0),(6,.dat T0 z20.1)],[(0,.arr 22 T5 z20.2.2)],1⟩)]) (fun z33b=>[(1,⟨[(2,.raw false [N0]),(3,D0 0),(4,D0 2)],[],0⟩)]) z33,?_,?_⟩
 ·have q:=hz33
  clear hz33
  unfold f54_j18 at q
  obtain ⟨z35,hz35,q⟩:=bE q
  refine OQ ⟨[(0,⟨[(5,O0 0),(6,.dat T0 z20.1),(183,.dat .bool z35)],[(0,.arr 22 T5 z20.2.2)],1⟩)],?_,?_⟩
  ·have q:=hz35
   clear hz35
   unfold f54_j19 at q
   refine cN q (fun q=>?_) (fun q=>?_)
   ·refine gY (gY ?_)
    obtain ⟨r36,h,q⟩:=bE q
    refine OL (cA H87 n.1 h rfl (AI rfl (K0 (gY (cF ?_)))))
    cases sE q
    refine E4 (iuR [2]) (R3 (AJ (AI rfl TV)))
   refine gN (gN (gN (cT ?_)))
   cases sE q
   refine E4 (iuR [2]) (R3 (AJ (AI rfl TV)))
  refine AI (cI q (fun q=>?_) (fun q=>?_)) TV
  ·cases sE q
   refine OL (E4 [] (R3 (AJ TV)))
  cases sE q
  refine E4 (iuR [1]) (R2 (AJ (AI rfl TV)))
 rcases z33 with z33a | z33b
 ·dsimp only [Ak] at q
  refine AI (OL ?_) TV
  cases sE q
  refine AI rfl (E4 (iuR [1]) (R3 (AJ (AI rfl TV))))
 dsimp only [Ak] at q
 refine AI ?_ TV
 cases sE q
 refine AI rfl (E4 (iuR [0]) (R3 (AJ (AI rfl TV))))
theorem H54:HI C54 54:=hI Tryz.f54 rfl fun x=>V54 x
def f195_j4 (d:LI) (i:Int):Option (Sum Unit Unit):=
 Ad (0≤i∧i<d.length)<|
 bif (decide ((rd 0 d i)<1)) then
 some (Sum.inr ())
 else
 Ad (0≤i∧i<d.length)<|
 bif (decide ((rd 0 d i)>4096)) then
 some (Sum.inr ())
 else
 some (Sum.inl ())
def f195_l3 (d:LI) (go:Ax→Option (Sum Unit Unit)) (n i:Int):Option (Sum Unit Unit):=
 bif (decide (i<d.length)) then
 Ac (f195_j4 d i) fun z4=>
 Ak z4 (fun z4a=>
 Ad (0≤i∧i<d.length)<|
 bif (decide ((i64.wrap (n*(rd 0 d i)))>4096)) then
 some (Sum.inl ())
 else
 go ((i64.wrap (n*(rd 0 d i))),(i64.wrap (i+1)))) (fun z4b=>
 some (Sum.inl ()))
 else
 some (Sum.inr ())
def f195 (d:LI):Option Bool:=
 bif (decide ((d.length:Int)>4)) then
 some false
 else
 Ac (Ag (fun go x=>f195_l3 d go x.1 x.2) Ah ((1:Int),(0:Int))) fun z3=>
 Ak z3 (fun z3a=>
 some false) (fun z3b=>
 some true)
def C195:Con:=⟨LI,Bool,0,fun x=>[.dat T5 x],NX,fun x=>f195 x,fun y=>[.dat .bool y],NX,0⟩
theorem V195 d y (q:f195 d=some y):VC Tryz.f195 C195 d y:=by
 unfold f195 at q
 refine OL (OL (OL (cI q (fun q=>?_) (fun q=>?_))))
 ·cases sE q
  refine OL (AI rfl (E4 [] (R2 (AI TV TV))))
 refine OL (OL (OL ?_))
 obtain ⟨z3,h,q⟩:=bE q
 refine lJ h (fun x=>⟨[(0,.dat T5 d),(3,.dat T0 x.1),(4,.dat T0 x.2)],[],0⟩) (fun z=>Sum.elim (fun za=>[(1,⟨[(2,.dat .bool false)],[],0⟩)]) (fun zb=>[(2,⟨[],[],0⟩)]) z) (E4 [] (R4 (AI TV TV))) (fun m=>An (fun n=>fun i z q=>?_)) ?_
 ·have q:f195_l3 d _ n i=some z:=q
  unfold f195_l3 at q
  refine OL (OL (cI q (fun q=>?_) (fun q=>?_)))
  ·refine OL ?_
   obtain ⟨z4,hz4,q⟩:=bE q
   refine OQ ⟨Sum.elim (fun z4a=>[(0,⟨[(0,.dat T5 d),(3,.dat T0 n),(4,.dat T0 i)],[],0⟩)]) (fun z4b=>[(1,⟨[(2,.dat .bool false)],[],0⟩)]) z4,?_,?_⟩
   ·have q:=hz4
    clear hz4
    unfold f195_j4 at q
    refine OL (gI q (fun q=>?_))
    refine cN q (fun q=>?_) (fun q=>?_)
    ·refine gY (gY (gI q (fun q=>?_)))
     refine gY (gY (cF (cI q (fun q=>?_) (fun q=>?_))))
     ·cases sE q
      refine OL (E4 [] (R2 (AI TV TV)))
     cases sE q
     refine E4 [] (R4 (AI TV TV))
    refine gN (gN (gN (gN (cT (cT (OL ?_))))))
    cases sE q
    refine E4 [] (R2 (AI TV TV))
   rcases z4 with z4a | z4b
   ·dsimp only [Ak] at q
    refine AI (OL (gI q (fun q=>?_))) TV
    refine OL (cI q (fun q=>?_) (fun q=>?_))
    ·cases sE q
     refine OL (E4 [] (R2 (AI TV TV)))
    refine EI ((i64.wrap (n*(rd 0 d i))),(i64.wrap (i+1))) (AI q (E4 [] (R4 (AI TV TV))))
   dsimp only [Ak] at q
   refine AI ?_ TV
   cases sE q
   refine E4 [] (R2 (AI TV TV))
  cases sE q
  refine E4 [] (AI rfl (AI TV TV))
 rcases z3 with z3a | z3b
 ·dsimp only [Ak] at q
  refine AI ?_ TV
  cases sE q
  refine AI rfl (E4 [] (R2 (AI TV TV)))
 dsimp only [Ak] at q
 refine AI (OL ?_) TV
 cases sE q
 refine AI rfl (E4 [] (R2 (AI TV TV)))
theorem H195:HI C195 195:=hI Tryz.f195 rfl fun x=>V195 x
def f160_l1 (d:LI) (go:Ax→Option Int) (n i:Int):Option Int:=
 bif (decide (i<d.length)) then
 Ad (0≤i∧i<d.length)<|
 go ((i64.wrap (n*(rd 0 d i))),(i64.wrap (i+1)))
 else
 some n
def f160 (d:LI):Option Int:=
 Ac (f195 d) fun r1=>
 bif (!r1) then
 none
 else
 Ac (Ag (fun go x=>f160_l1 d go x.1 x.2) Ah ((1:Int),(0:Int))) fun z2=>
 some z2
def C160:Con:=⟨LI,Int,0,fun x=>[.dat T5 x],NX,fun x=>f160 x,fun y=>[.dat T0 y],NX,0⟩
theorem V160 d y (q:f160 d=some y):VC Tryz.f160 C160 d y:=by
 unfold f160 at q
 refine OL (OL (OL ?_))
 obtain ⟨r1,h,q⟩:=bE q
 refine OL (cA H195 d h rfl (AI rfl (K0 (cI q (fun q=>?_) (fun q=>?_)))))
 ·exact nomatch q
 refine OL (OL (OL ?_))
 obtain ⟨z2,h,q⟩:=bE q
 refine lJ h (fun x=>⟨[(0,.dat T5 d),(3,.dat T0 x.1),(4,.dat T0 x.2)],[],0⟩) (fun z=>[(2,⟨[(3,.dat T0 z)],[],0⟩)]) (E4 [] (R4 (AI TV TV))) (fun m=>An (fun n=>fun i z q=>?_)) ?_
 ·have q:f160_l1 d _ n i=some z:=q
  unfold f160_l1 at q
  refine OL (OL (cI q (fun q=>?_) (fun q=>?_)))
  ·refine OL (gI q (fun q=>?_))
   refine EI ((i64.wrap (n*(rd 0 d i))),(i64.wrap (i+1))) (AI q (E4 [] (R4 (AI TV TV))))
  cases sE q
  refine E4 [] (R2 (AI TV TV))
 refine AI (OL ?_) TV
 cases sE q
 refine AI rfl (E4 [] (R2 (AI TV TV)))
theorem H160:HI C160 160:=hI Tryz.f160 rfl fun x=>V160 x
def f156 (t:Al):Option Bool:=
 Ac (f195 t.1) fun q1_2=>
 bif q1_2 then
 Ac (f160 t.1) fun q1_9=>
 some ((t.2.length:Int)==q1_9)
 else
 some false
def C156:Con:=⟨Al,Bool,0,fun x=>[.dat T8 x],NX,fun x=>f156 x,fun y=>[.dat .bool y],NX,0⟩
theorem V156 t y (q:f156 t=some y):VC Tryz.f156 C156 t y:=by
 unfold f156 at q
 refine OL (OL (EI (.take 0 (.take 1 (.alt 2 (tU 3 6 (.alt 9 (tU 10 3 .done) .done)) .done))) (EI [] (EI [] (AI rfl (AI TV ?_))))))
 obtain ⟨q1_2,h,q⟩:=bE q
 refine OL (cA H195 t.1 h rfl (AI rfl (K0 (cI q (fun q=>?_) (fun q=>?_)))))
 ·refine gX (gX (gX (gX (AI TV (gX ?_)))))
  obtain ⟨q1_9,h,q⟩:=bE q
  refine OL (cA H160 t.1 h rfl (AI rfl (K0 (gX (cT ?_)))))
  cases sE q
  refine AI rfl (E4 [] (R2 (AI TV TV)))
 refine gM (gM (gM (gM (AI TV (gM (gM (cF ?_)))))))
 cases sE q
 refine AI rfl (E4 [] (R2 (AI TV TV)))
theorem H156:HI C156 156:=hI Tryz.f156 rfl fun x=>V156 x
def f127_j1 (x_:Al):Option Unit:=
 Ad ((List.length ([]:LI)+x_.1.length)*8≤140737488355328)<|
 Ad ((List.length ([]:LI)+x_.2.length)*8≤140737488355328)<|
 some ()
def f127 (t_L:NL) (x_:Al):Option (Int×NL):=
 bif (decide ((t_L.length:Int)≥512)) then
 none
 else
 Ac (f156 (x_.1,x_.2)) fun r1=>
 bif (!r1) then
 none
 else
 Ac (f127_j1 x_) fun z2=>
 Ad ((t_L.length+List.length ([((1:Int),(-1:Int),(-1:Int),(0:Int),(([]:LI)++x_.1),(([]:LI)++x_.2))]))*80≤140737488355328)<|
 some ((i64.wrap ((List.length (t_L++([((1:Int),(-1:Int),(-1:Int),(0:Int),(([]:LI)++x_.1),(([]:LI)++x_.2))])):Int)-1)),(t_L++([((1:Int),(-1:Int),(-1:Int),(0:Int),(([]:LI)++x_.1),(([]:LI)++x_.2))])))
def C127:Con:=⟨NL×Al,Int×NL,2,fun x=>[P0 0 0,.dat T8 x.2],fun x=>[(0,.cells [(.osl 1)]),(1,.arr 176 T7 x.1)],fun x=>f127 x.1 x.2,fun y=>[.dat T0 y.1,D0 0],fun y=>[(0,.cells [(.osl 2)]),(2,.arr 176 T7 y.2)],3⟩
theorem V127 t_L x_ y (q:f127 t_L x_=some y):VE Tryz.f127 2 C127 (t_L,x_) y:=by
 unfold f127 at q
 refine OL (OL (OL (cI q (fun q=>?_) (fun q=>?_))))
 ·exact nomatch q
 refine OL (OL ?_)
 obtain ⟨r1,h,q⟩:=bE q
 refine OL (cA H156 (x_.1,x_.2) h rfl (R2 (K0 (cI q (fun q=>?_) (fun q=>?_)))))
 ·exact nomatch q
 obtain ⟨z2,hz2,q⟩:=bE q
 refine OQ ⟨[(0,⟨[(0,P0 0 0),(6,P0 2 0)],[(0,.cells [(.osl 1)]),(1,.arr 176 T7 t_L),(2,.cells [(.osl 3),(.osl 4)]),(3,.arr 3 T0 (([]:LI)++x_.1)),(4,.arr 26 T0 (([]:LI)++x_.2))],5⟩)],?_,?_⟩
 ·have q:=hz2
  clear hz2
  unfold f127_j1 at q
  obtain ⟨g5_0,q⟩:=gE q
  obtain ⟨g5_1,q⟩:=gE q
  refine EI (.take 1 (.take 2 (.take 5 (.take 6 (.alt 0 (.alt 3 (.alt 4 (.alt 7 (.take 8 (.alt 9 (.alt 10 .done .done) .done)) (.alt 9 (.alt 7 (.take 8 (.alt 10 .done .done)) .done) .done)) (.alt 9 (.alt 4 (.alt 7 (.take 8 (.alt 10 .done .done)) .done) .done) .done)) (.alt 4 (.alt 3 (.alt 7 (.take 8 (.alt 9 (.alt 10 .done .done) .done)) (.alt 9 (.alt 7 (.take 8 (.alt 10 .done .done)) .done) .done)) (.alt 9 (.alt 3 (.alt 7 (.take 8 (.alt 10 .done .done)) .done) .done) .done)) (.alt 9 (.alt 3 (.alt 4 (.alt 7 (.take 8 (.alt 10 .done .done)) .done) .done) (.alt 4 (.alt 3 (.alt 7 (.take 8 (.alt 10 .done .done)) .done) .done) .done)) .done))) (.alt 4 (.alt 0 (.alt 3 (.alt 7 (.take 8 (.alt 9 (.alt 10 .done .done) .done)) (.alt 9 (.alt 7 (.take 8 (.alt 10 .done .done)) .done) .done)) (.alt 9 (.alt 3 (.alt 7 (.take 8 (.alt 10 .done .done)) .done) .done) .done)) (.alt 9 (.alt 0 (.alt 3 (.alt 7 (.take 8 (.alt 10 .done .done)) .done) .done) .done) .done)) (.alt 9 (.alt 0 (.alt 3 (.alt 4 (.alt 7 (.take 8 (.alt 10 .done .done)) .done) .done) (.alt 4 (.alt 3 (.alt 7 (.take 8 (.alt 10 .done .done)) .done) .done) .done)) (.alt 4 (.alt 0 (.alt 3 (.alt 7 (.take 8 (.alt 10 .done .done)) .done) .done) .done) .done)) .done))))))) (EI [] (EI [] (AI rfl ?_)))
  refine AI (AI (AI TV ?_) ?_) ?_
  ·refine AI (AI TV ?_) ?_
   ·refine OL (AI TV (OL (AI TV (OL (AI g5_0 (AI TV (OL (AI g5_1 (AI TV (OL ?_))))))))))
    cases sE q
    refine E4 (iuR [1,2,4,7,8]) (AI rfl (AI (R2 TV) (R5 TV)))
   refine OL (AI (AI TV ?_) ?_)
   ·refine OL (AI TV (OL (AI g5_0 (AI TV (OL (AI g5_1 (AI TV (OL ?_))))))))
    cases sE q
    refine E4 (iuR [1,2,4,7,8]) (AI rfl (AI (R2 TV) (R5 TV)))
   refine OL (AI g5_0 (AI TV (OL (AI TV (OL (AI g5_1 (AI TV (OL ?_))))))))
   cases sE q
   refine E4 (iuR [1,2,4,6,8]) (AI rfl (AI (R2 TV) (R5 TV)))
  ·refine OL (AI (AI TV ?_) ?_)
   ·refine AI TV (OL (AI TV (OL (AI g5_0 (AI TV (OL (AI g5_1 (AI TV (OL ?_)))))))))
    cases sE q
    refine E4 (iuR [1,2,5,7,8]) (AI rfl (AI (R2 TV) (R5 TV)))
   refine OL (AI (AI TV ?_) ?_)
   ·refine AI TV (OL (AI g5_0 (AI TV (OL (AI g5_1 (AI TV (OL ?_)))))))
    cases sE q
    refine E4 (iuR [1,2,6,7,8]) (AI rfl (AI (R2 TV) (R5 TV)))
   refine OL (AI g5_0 (AI (AI TV ?_) ?_))
   ·refine AI TV (OL (AI g5_1 (AI TV (OL ?_))))
    cases sE q
    refine E4 (iuR [1,2,7,6,8]) (AI rfl (AI (R2 TV) (R5 TV)))
   refine OL (AI g5_1 (AI TV (AI TV (OL ?_))))
   cases sE q
   refine E4 (iuR [1,2,8,6,7]) (AI rfl (AI (R2 TV) (R5 TV)))
  refine OL (AI (AI (AI TV ?_) ?_) ?_)
  ·refine AI (AI TV ?_) ?_
   ·refine OL (AI TV (OL (AI g5_0 (AI TV (OL (AI g5_1 (AI TV (OL ?_))))))))
    cases sE q
    refine E4 (iuR [1,2,5,7,8]) (AI rfl (AI (R2 TV) (R5 TV)))
   refine OL (AI g5_0 (AI TV (OL (AI TV (OL (AI g5_1 (AI TV (OL ?_))))))))
   cases sE q
   refine E4 (iuR [1,2,5,6,8]) (AI rfl (AI (R2 TV) (R5 TV)))
  ·refine OL (AI (AI TV ?_) ?_)
   ·refine AI TV (OL (AI g5_0 (AI TV (OL (AI g5_1 (AI TV (OL ?_)))))))
    cases sE q
    refine E4 (iuR [1,2,6,7,8]) (AI rfl (AI (R2 TV) (R5 TV)))
   refine OL (AI g5_0 (AI (AI TV ?_) ?_))
   ·refine AI TV (OL (AI g5_1 (AI TV (OL ?_))))
    cases sE q
    refine E4 (iuR [1,2,7,6,8]) (AI rfl (AI (R2 TV) (R5 TV)))
   refine OL (AI g5_1 (AI TV (AI TV (OL ?_))))
   cases sE q
   refine E4 (iuR [1,2,8,6,7]) (AI rfl (AI (R2 TV) (R5 TV)))
  refine OL (AI g5_0 (AI (AI TV ?_) ?_))
  ·refine AI TV (OL (AI TV (OL (AI g5_1 (AI TV (OL ?_))))))
   cases sE q
   refine E4 (iuR [1,2,6,5,8]) (AI rfl (AI (R2 TV) (R5 TV)))
  refine OL (AI (AI TV ?_) ?_)
  ·refine AI TV (OL (AI g5_1 (AI TV (OL ?_))))
   cases sE q
   refine E4 (iuR [1,2,7,5,8]) (AI rfl (AI (R2 TV) (R5 TV)))
  refine OL (AI g5_1 (AI TV (AI TV (OL ?_))))
  cases sE q
  refine E4 (iuR [1,2,8,5,7]) (AI rfl (AI (R2 TV) (R5 TV)))
 refine AI (OL (EI (tU 0 7 (.alt 7 (.alt 8 (.take 9 (.take 10 (.alt 11 .done .done))) .done) .done)) (EI [(11,[0])] (EI [] (AI rfl (AI TV (OL (AI TV (OL (gI q (fun q=>?_))))))))))) TV
 refine AI TV (OL (OL ?_))
 cases sE q
 refine AI rfl (E4 [(0,some 0),(2,some 6)] (R3 (AI TV (R2 TV))))
theorem H127:HI C127 127:=hI Tryz.f127 rfl fun x=>V127 x.1 x.2
def f157 (op:Int):Option Bool:=
 bif (op==2) then
 some true
 else
 bif (op==3) then
 some true
 else
 bif (op==4) then
 some true
 else
 bif (op==6) then
 some true
 else
 some (op==12)
def C157:Con:=⟨Int,Bool,0,fun x=>[.dat T0 x],NX,fun x=>f157 x,fun y=>[.dat .bool y],NX,0⟩
theorem V157 op y (q:f157 op=some y):VC Tryz.f157 C157 op y:=by
 unfold f157 at q
 refine OL (OL (cN q (fun q=>?_) (fun q=>?_)))
 ·refine gY (cF (cN q (fun q=>?_) (fun q=>?_)))
  ·refine gY (cF (cN q (fun q=>?_) (fun q=>?_)))
   ·refine gY (cF (cN q (fun q=>?_) (fun q=>?_)))
    ·refine gY (cF ?_)
     cases sE q
     refine AI rfl (E4 [] (R2 (AI TV TV)))
    refine gN (cT ?_)
    cases sE q
    refine AI rfl (E4 [] (R2 (AI TV TV)))
   refine gN (cT (gN (gN (cT ?_))))
   cases sE q
   refine AI rfl (E4 [] (R2 (AI TV TV)))
  refine gN (cT (gN (gN (cT (gN (gN (cT ?_)))))))
  cases sE q
  refine AI rfl (E4 [] (R2 (AI TV TV)))
 refine gN (cT (gN (gN (cT (gN (gN (cT (gN (gN (cT ?_))))))))))
 cases sE q
 refine AI rfl (E4 [] (R2 (AI TV TV)))
theorem H157:HI C157 157:=hI Tryz.f157 rfl fun x=>V157 x
def f158 (op:Int):Option Bool:=
 bif (op==5) then
 some true
 else
 bif (op==8) then
 some true
 else
 bif (op==11) then
 some true
 else
 bif (op==12) then
 some true
 else
 some (op==13)
def C158:Con:=⟨Int,Bool,0,fun x=>[.dat T0 x],NX,fun x=>f158 x,fun y=>[.dat .bool y],NX,0⟩
theorem V158 op y (q:f158 op=some y):VC Tryz.f158 C158 op y:=by
 unfold f158 at q
 refine OL (OL (cN q (fun q=>?_) (fun q=>?_)))
 ·refine gY (cF (cN q (fun q=>?_) (fun q=>?_)))
  ·refine gY (cF (cN q (fun q=>?_) (fun q=>?_)))
   ·refine gY (cF (cN q (fun q=>?_) (fun q=>?_)))
    ·refine gY (cF ?_)
     cases sE q
     refine AI rfl (E4 [] (R2 (AI TV TV)))
    refine gN (cT ?_)
    cases sE q
    refine AI rfl (E4 [] (R2 (AI TV TV)))
   refine gN (cT (gN (gN (cT ?_))))
   cases sE q
   refine AI rfl (E4 [] (R2 (AI TV TV)))
  refine gN (cT (gN (gN (cT (gN (gN (cT ?_)))))))
  cases sE q
  refine AI rfl (E4 [] (R2 (AI TV TV)))
 refine gN (cT (gN (gN (cT (gN (gN (cT (gN (gN (cT ?_))))))))))
 cases sE q
 refine AI rfl (E4 [] (R2 (AI TV TV)))
theorem H158:HI C158 158:=hI Tryz.f158 rfl fun x=>V158 x
def f172_j1 (a b:LI):Option (Sum Unit Unit):=
 Ac (f195 a) fun r4=>
 bif (!r4) then
 some (Sum.inr ())
 else
 Ac (f195 b) fun r5=>
 bif (!r5) then
 none
 else
 some (Sum.inl ())
def f172_j2 (a b:LI):Option Int:=
 bif (decide ((b.length:Int)>a.length)) then
 some (b.length:Int)
 else
 some (a.length:Int)
def f172_j12 (a:LI) (i:Int):Option Int:=
 bif (decide (i≤a.length)) then
 Ad (0≤(i64.wrap ((a.length:Int)-i))∧(i64.wrap ((a.length:Int)-i))<a.length)<|
 some (rd 0 a (i64.wrap ((a.length:Int)-i)))
 else
 some (1:Int)
def f172_j13 (b:LI) (i:Int):Option Int:=
 bif (decide (i≤b.length)) then
 Ad (0≤(i64.wrap ((b.length:Int)-i))∧(i64.wrap ((b.length:Int)-i))<b.length)<|
 some (rd 0 b (i64.wrap ((b.length:Int)-i)))
 else
 some (1:Int)
def f172_j14 (z16 z17:Int):Option (Sum Unit Unit):=
 bif (z16 != z17) then
 bif (z16 != 1) then
 bif (z17 != 1) then
 some (Sum.inr ())
 else
 some (Sum.inl ())
 else
 some (Sum.inl ())
 else
 some (Sum.inl ())
def f172_j15 (z16 z17:Int):Option Int:=
 bif (decide (z17>z16)) then
 some z17
 else
 some z16
def f172_l11 (a b:LI) (z6:Int) (go:Bc→Option (Sum Unit LI)) (i:Int) (l0:LI):Option (Sum Unit LI):=
 bif (decide (i≤z6)) then
 Ac (f172_j12 a i) fun z16=>
 Ac (f172_j13 b i) fun z17=>
 Ac (f172_j14 z16 z17) fun z18=>
 Ak z18 (fun z18a=>
 Ac (f172_j15 z16 z17) fun z19=>
 Ad (0≤(i64.wrap (z6-i))∧(i64.wrap (z6-i))<l0.length)<|
 go ((i64.wrap (i+1)),(List.set l0 (Int.toNat (i64.wrap (z6-i))) z19))) (fun z18b=>
 some (Sum.inl ()))
 else
 some (Sum.inr l0)
def f172 (a b:LI):Option Bc:=
 Ac (f172_j1 a b) fun z3=>
 Ak z3 (fun z3a=>
 Ac (f172_j2 a b) fun z6=>
 Ad (0≤z6∧z6≤z6∧Int.toNat z6*8≤140737488355328)<|
 Ac (Ag (fun go x=>f172_l11 a b z6 go x.1 x.2) Ah ((1:Int),(List.replicate (Int.toNat z6) (0:Int)))) fun z15=>
 Ak z15 (fun z15a=>
 some ((4:Int),[])) (fun z15b=>
 Ac (f195 z15b) fun r20=>
 bif (!r20) then
 none
 else
 some ((0:Int),z15b))) (fun z3b=>
 some ((1:Int),[]))
def C172:Con:=⟨Al,Bc,0,fun x=>[.dat T5 x.1,.dat T5 x.2],NX,fun x=>f172 x.1 x.2,fun y=>[O0 0,.dat T0 y.1],fun y=>[(0,.arr 3 T0 y.2)],1⟩
theorem V172 a b y (q:f172 a b=some y):VC Tryz.f172 C172 (a,b) y:=by
 unfold f172 at q
 refine OL ?_
 obtain ⟨z3,hz3,q⟩:=bE q
 let e0:LE:=fun zz=>(0,.dat T5 a)::(1,.dat T5 b)::zz
 refine OQ ⟨Sum.elim (fun z3a=>[(0,⟨e0 [],[],0⟩)]) (fun z3b=>[(1,⟨[(4,.raw false [N0]),(5,D0 1)],[],0⟩)]) z3,?_,?_⟩
 ·have q:=hz3
  clear hz3
  unfold f172_j1 at q
  refine OL ?_
  obtain ⟨r4,h,q⟩:=bE q
  refine OL (cA H195 a h rfl (AI rfl (K0 (cN q (fun q=>?_) (fun q=>?_)))))
  ·refine gY ?_
   obtain ⟨r5,h,q⟩:=bE q
   refine OL (cA H195 b h rfl (AI rfl (K0 (gY (cF (cI q (fun q=>?_) (fun q=>?_)))))))
   ·exact nomatch q
   cases sE q
   refine E4 [] (R3 (AI TV TV))
  refine gN (gN (cT (cT (OL ?_))))
  cases sE q
  refine E4 [] (R2 (AJ TV))
 rcases z3 with z3a | z3b
 ·dsimp only [Ak] at q
  refine AI (OL ?_) TV
  obtain ⟨z6,hz6,q⟩:=bE q
  let e1:LE:=fun zz=>e0 ((6,.dat T0 z6)::zz)
  refine OQ ⟨[(0,⟨e1 [],[],0⟩)],?_,?_⟩
  ·have q:=hz6
   clear hz6
   unfold f172_j2 at q
   refine OL (cI q (fun q=>?_) (fun q=>?_))
   ·cases sE q
    refine E4 [] (R4 (AI TV TV))
   cases sE q
   refine E4 [] (R4 (AI TV TV))
  refine AI (OL (gI q (fun q=>?_))) TV
  refine OL (OL ?_)
  obtain ⟨z15,h,q⟩:=bE q
  refine lJ h (fun x=>⟨e1 [(7,O0 0),(8,.dat T0 x.1)],[(0,.arr 3 T0 x.2)],1⟩) (fun z=>Sum.elim (fun za=>[(1,⟨[(4,.raw false [N0]),(5,D0 4)],[],0⟩)]) (fun zb=>[(2,⟨[(7,O0 0)],[(0,.arr 3 T0 zb)],1⟩)]) z) (E4 (iuR [1]) (R5 (AJ (AI rfl TV)))) (fun m=>An (fun i=>fun l0 z q=>?_)) ?_
  ·have q:f172_l11 a b z6 _ i l0=some z:=q
   unfold f172_l11 at q
   refine OL (OL (cI q (fun q=>?_) (fun q=>?_)))
   ·refine OL (OL ?_)
    obtain ⟨z16,hz16,q⟩:=bE q
    let e2:LE:=fun zz=>e1 ((7,O0 0)::(8,.dat T0 i)::zz)
    refine OQ ⟨[(0,⟨e2 [(9,.dat T0 z16),(10,D0 1)],[(0,.arr 3 T0 l0)],1⟩)],?_,?_⟩
    ·have q:=hz16
     clear hz16
     unfold f172_j12 at q
     refine OL (cI q (fun q=>?_) (fun q=>?_))
     ·refine gI q (fun q=>?_)
      cases sE q
      refine E4 (iuR [1]) (R7 (AJ (AI rfl TV)))
     cases sE q
     refine E4 (iuR [1]) (R7 (AJ (AI rfl TV)))
    refine AI ?_ TV
    obtain ⟨z17,hz17,q⟩:=bE q
    refine OQ ⟨[(0,⟨e2 [(9,.dat T0 z16),(10,.dat T0 z17)],[(0,.arr 3 T0 l0)],1⟩)],?_,?_⟩
    ·have q:=hz17
     clear hz17
     unfold f172_j13 at q
     refine OL (cI q (fun q=>?_) (fun q=>?_))
     ·refine gI q (fun q=>?_)
      cases sE q
      refine E4 (iuR [1]) (R7 (AJ (AI rfl TV)))
     cases sE q
     refine E4 (iuR [1]) (R7 (AJ (AI rfl TV)))
    refine AI ?_ TV
    obtain ⟨z18,hz18,q⟩:=bE q
    refine OQ ⟨Sum.elim (fun z18a=>[(0,⟨e2 [(9,.dat T0 z16),(10,.dat T0 z17)],[(0,.arr 3 T0 l0)],1⟩)]) (fun z18b=>[(1,⟨[(4,.raw false [N0]),(5,D0 4)],[],0⟩)]) z18,?_,?_⟩
    ·have q:=hz18
     clear hz18
     unfold f172_j14 at q
     refine OL (cI q (fun q=>?_) (fun q=>?_))
     ·refine gX (cT (cI q (fun q=>?_) (fun q=>?_)))
      ·refine gX (cT (cI q (fun q=>?_) (fun q=>?_)))
       ·cases sE q
        refine OL (E4 [] (R2 (AJ TV)))
       cases sE q
       refine E4 (iuR [1]) (R7 (AJ (AI rfl TV)))
      refine gM (cF (cF ?_))
      cases sE q
      refine E4 (iuR [1]) (R7 (AJ (AI rfl TV)))
     refine gM (cF (gM (gM (cF (cF ?_)))))
     cases sE q
     refine E4 (iuR [1]) (R7 (AJ (AI rfl TV)))
    rcases z18 with z18a | z18b
    ·dsimp only [Ak] at q
     refine AI ?_ TV
     obtain ⟨z19,hz19,q⟩:=bE q
     refine OQ ⟨[(0,⟨e2 [(9,.dat T0 z19)],[(0,.arr 3 T0 l0)],1⟩)],?_,?_⟩
     ·have q:=hz19
      clear hz19
      unfold f172_j15 at q
      refine OL (cI q (fun q=>?_) (fun q=>?_))
      ·cases sE q
       refine E4 (iuR [1]) (R6 (AJ (AI rfl TV)))
      cases sE q
      refine E4 (iuR [1]) (R6 (AJ (AI rfl TV)))
     refine AI (gI q (fun q=>?_)) TV
     refine OL (EI ((i64.wrap (i+1)),(List.set l0 (Int.toNat (i64.wrap (z6-i))) z19)) (AI q (E4 (iuR [1]) (R5 (AJ (AI rfl TV))))))
    dsimp only [Ak] at q
    refine AI ?_ TV
    cases sE q
    refine E4 [] (R2 (AJ TV))
   cases sE q
   refine E4 (iuR [1]) (AI rfl (AJ (AI rfl TV)))
  rcases z15 with z15a | z15b
  ·dsimp only [Ak] at q
   refine AI ?_ TV
   cases sE q
   refine AI rfl (E4 (iuR [0]) (R2 (AJ (AI rfl TV))))
  dsimp only [Ak] at q
  refine AI (OL (OL ?_)) TV
  obtain ⟨r20,h,q⟩:=bE q
  refine OL (cD H195 z15b h rfl (AI rfl (AI (fun _=>rfl) (R2 (AI TV (AI TV (cI q (fun q=>?_) (fun q=>?_))))))))
  ·exact nomatch q
  cases sE q
  refine OL (AI rfl (E4 (iuR [1]) (R2 (AJ (AI rfl TV)))))
 dsimp only [Ak] at q
 refine AI ?_ TV
 cases sE q
 refine AI rfl (E4 (iuR [0]) (R2 (AJ (AI rfl TV))))
theorem H172:HI C172 172:=hI Tryz.f172 rfl fun x=>V172 x.1 x.2
end Go.Proofs
