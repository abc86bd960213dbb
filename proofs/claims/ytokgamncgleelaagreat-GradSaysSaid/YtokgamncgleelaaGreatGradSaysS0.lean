import Derived.Test.YtokgamncgleelaaGreatFc
set_option linter.unusedVariables false
set_option maxRecDepth 100000
set_option maxHeartbeats 8000000
namespace Go.Proofs
open Go.AM
open IntKind (i64 u64 i32 u32 i16 u16 i8 u8)
def f33:Option Unit:=
 some ()
instance H33:HF 33 [] [] 0 (f33) (fun _=>[.raw true [(.osl 0),(.osl 1)]]) (fun _=>[(0,.arr 3 T0 ([(1:Int)])),(1,.arr 114 T1 ([((ByteArray.mk #[100,101,110,115,101]),(1:Int),(0:Int))]))]) 2:=hd Tryz.f33 rfl fun y q=>by
 unfold f33 at q
 exact gV
def f192_j1 (a:ByteArray):Option Bool:=
 bif (ByteArray.toList a==ByteArray.toList (ByteArray.mk #[100,101,110,115,101])) then
 some (ByteArray.toList a==ByteArray.toList (ByteArray.mk #[100,101,110,115,101]))
 else
 bif (ByteArray.toList a==ByteArray.toList (ByteArray.mk #[112,111,111,108])) then
 some (ByteArray.toList a==ByteArray.toList (ByteArray.mk #[112,111,111,108]))
 else
 some (ByteArray.toList a==ByteArray.toList (ByteArray.mk #[98,101,110,100]))
def f192 (a:ByteArray):Option Int:=
 D4 (f192_j1 a) fun b=>
 bif b then
 some (1:Int)
 else
 bif (ByteArray.toList a==ByteArray.toList (ByteArray.mk #[99,111,110,118])) then
 some (2:Int)
 else
 bif (ByteArray.toList a==ByteArray.toList (ByteArray.mk #[115,107,105,112])) then
 some (0:Int)
 else
 some (-1:Int)
instance H192 (b:ByteArray): HE 192 [.dat .str b] (f192 b) (fun y=>[.dat T0 y]):=hd Tryz.f192 rfl fun y q=>by
 unfold f192 at q
 refine OL (OL (OL ?_))
 obtain ⟨d,c,q⟩:=bE q
 refine OQ ⟨[(0,⟨[(3,.dat .str b),(4,.dat .bool d)],[],0⟩)],?_,?_⟩
 ·have q:=c
  unfold f192_j1 at q
  exact gV
 exact gV
def f152 (v a:Int):Option Bool:=
 bif (decide (v≥1)) then
 some (decide (v≤a))
 else
 some false
instance H152 (v b:Int): HE 152 [.dat T0 v,.dat T0 b] (f152 v b) (fun y=>[.dat .bool y]):=hd Tryz.f152 rfl fun y q=>by
 unfold f152 at q
 exact gV
def f151_j1 (l:PTz13):Option (Sum Unit Unit):=
 D4 (f192 l.1) fun a=>
 bif (decide (a<2)) then
 bif (l.2.2 != 0) then
 some (Sum.inr ())
 else
 some (Sum.inl ())
 else
 some (Sum.inl ())
def f151 (l:PTz13):Option Bool:=
 D4 (f151_j1 l) fun i=>
 F5 i (fun a=>
 bif (ByteArray.toList l.1==ByteArray.toList (ByteArray.mk #[100,101,110,115,101])) then
 D4 (f152 l.2.1 (256:Int)) fun b=>
 some b
 else
 bif (ByteArray.toList l.1==ByteArray.toList (ByteArray.mk #[99,111,110,118])) then
 D4 (f152 l.2.1 (16:Int)) fun g=>
 bif g then
 D4 (f152 l.2.2 (16:Int)) fun e=>
 some e
 else
 some false
 else
 bif (ByteArray.toList l.1==ByteArray.toList (ByteArray.mk #[112,111,111,108])) then
 D4 (f152 l.2.1 (16:Int)) fun h=>
 some h
 else
 bif (ByteArray.toList l.1==ByteArray.toList (ByteArray.mk #[98,101,110,100])) then
 D4 (f152 l.2.1 (5:Int)) fun c=>
 some c
 else
 bif (ByteArray.toList l.1==ByteArray.toList (ByteArray.mk #[115,107,105,112])) then
 some (l.2.1==0)
 else
 some false) (fun d=>
 some false)
instance H151 (l:PTz13): HE 151 [.dat T1 l] (f151 l) (fun y=>[.dat .bool y]):=hd Tryz.f151 rfl fun y q=>by
 unfold f151 at q
 refine OL ?_
 obtain ⟨i,c,q⟩:=bE q
 refine OQ ⟨Sum.elim (fun b=>[(0,⟨[(1,P0 0 0)],[(0,.cells [(.d .str l.1),(.d T0 l.2.1),(.d T0 l.2.2)])],1⟩)]) (fun d=>[(1,⟨[(2,.dat .bool false)],[],0⟩)]) i,?_,?_⟩
 ·have q:=c
  unfold f151_j1 at q
  exact gV
 rcases i with b | d
 ·exact gV
 exact gV
def f96_l1 (n:Js) (b:Int→Option (Sum Unit Unit)) (a:Int):Option (Sum Unit Unit):=
 bif (decide (a<n.2.length)) then
 Ey (0≤a∧a<n.2.length)<|
 D4 (f151 ((rd (Ty.z T1) n.2 a).1,((rd (Ty.z T1) n.2 a).2).1,((rd (Ty.z T1) n.2 a).2).2)) fun c=>
 bif (!c) then
 some (Sum.inl ())
 else
 b (i64.wrap (a+1))
 else
 some (Sum.inr ())
def f96 (n:Js):Option Bool:=
 D4 (Fp (fun d x=>f96_l1 n d x) Fq (0:Int)) fun b=>
 F5 b (fun c=>
 some false) (fun a=>
 bif ((n.1.length:Int)==1) then
 Ey (0≤(0:Int)∧0<(n.1.length:Int))<|
 D4 (f152 (rd 0 n.1 0) (1024:Int)) fun g=>
 some g
 else
 bif ((n.1.length:Int)==2) then
 Ey (0≤(0:Int)∧0<(n.1.length:Int))<|
 D4 (f152 (rd 0 n.1 0) (64:Int)) fun e=>
 bif e then
 Ey (0≤(1:Int)∧1<(n.1.length:Int))<|
 D4 (f152 (rd 0 n.1 1) (64:Int)) fun h=>
 some h
 else
 some false
 else
 some false)
instance H96 (n:Js): HE 96 [.dat T2 n] (f96 n) (fun y=>[.dat .bool y]):=hd Tryz.f96 rfl fun y q=>by
 unfold f96 at q
 refine OL (OL (OL ?_))
 obtain ⟨c,h,q⟩:=bE q
 refine lJ h (fun x=>⟨[(1,P0 0 0),(6,.dat T3 n.2),(7,.dat T0 (n.2.length:Int)),(8,.dat T0 x)],[(0,.cells [(.d T4 n.1),(.d T3 n.2)])],1⟩) (fun z=>Sum.elim (fun j=>[(1,⟨[(2,.dat .bool false)],[],0⟩)]) (fun k=>[(2,⟨[(1,P0 0 0)],[(0,.cells [(.d T4 n.1),(.d T3 n.2)])],1⟩)]) z) gV (fun m=>fun i z q=>?_) ?_
 ·have q:f96_l1 n _ i=some z:=q
  unfold f96_l1 at q
  exact gV
 rcases c with d | b
 ·exact gV
 exact gV
def f109 (s:LI):Option LI:=
 nilF s
 (some ([]))
 (Ey ((List.length ([]:LI)+s.length)*8≤140737488355328)<|
 some (([]:LI)++s))
instance H109 (s:LI): HF 109 [.dat T4 s] [] 0 (f109 s) (fun _=>[O0 0]) (fun y=>[(0,.arr 3 T0 y)]) 1:=hd Tryz.f109 rfl fun y q=>by
 unfold f109 at q
 refine OL (OL (OL (nilI q (fun q=>?_) (fun q=>?_))))
 ·exact gV
 exact gV
def f153_j1 (l:PTz13) (a:LI):Option (Sum Unit Unit):=
 bif ((a.length:Int) != 2) then
 some (Sum.inr ())
 else
 Ey (0≤(1:Int)∧1<(a.length:Int))<|
 bif (decide (l.2.2>(rd 0 a 1))) then
 some (Sum.inr ())
 else
 some (Sum.inl ())
def f153_j2 (l:PTz13) (a:LI):Option (Sum Unit Unit):=
 bif ((a.length:Int) != 2) then
 some (Sum.inr ())
 else
 Ey (0≤(1:Int)∧1<(a.length:Int))<|
 bif (decide (l.2.1>(rd 0 a 1))) then
 some (Sum.inr ())
 else
 some (Sum.inl ())
def f153 (l:PTz13) (a:LI):Option (Bool×LI):=
 bif (ByteArray.toList l.1==ByteArray.toList (ByteArray.mk #[100,101,110,115,101])) then
 some (true,[l.2.1])
 else
 bif (ByteArray.toList l.1==ByteArray.toList (ByteArray.mk #[99,111,110,118])) then
 D4 (f153_j1 l a) fun h=>
 F5 h (fun e=>
 Ey (0≤(1:Int)∧1<(a.length:Int))<|
 some (true,[l.2.1,(i64.wrap ((i64.wrap ((rd 0 a 1)-l.2.2))+1))])) (fun d=>
 some (false,[]))
 else
 bif (ByteArray.toList l.1==ByteArray.toList (ByteArray.mk #[112,111,111,108])) then
 D4 (f153_j2 l a) fun i=>
 F5 i (fun c=>
 Ey (0≤(0:Int)∧0<(a.length:Int))<|
 Ey (0≤(1:Int)∧1<(a.length:Int))<|
 Ey (l.2.1≠0)<|
 some (true,[(rd 0 a 0),(i64.wrap (Int.tdiv (rd 0 a 1) l.2.1))])) (fun g=>
 some (false,[]))
 else
 D4 (f109 a) fun b=>
 some (true,b)
instance H153 (l:PTz13) (b:LI): HF 153 [.dat T1 l,.dat T4 b] [] 0 (f153 l b) (fun y=>[O0 0,.dat .bool y.1]) (fun y=>[(0,.arr 3 T0 y.2)]) 1:=hd Tryz.f153 rfl fun y q=>by
 unfold f153 at q
 refine OL (OL (OL (OL (cI q (fun q=>?_) (fun q=>?_)))))
 ·exact gV
 refine OL (cI q (fun q=>?_) (fun q=>?_))
 ·obtain ⟨n,m,q⟩:=bE q
  refine OQ ⟨Sum.elim (fun j=>[(0,⟨[(1,.dat T4 b),(2,P0 0 0)],[(0,.cells [(.d .str l.1),(.d T0 l.2.1),(.d T0 l.2.2)])],1⟩)]) (fun i=>[(1,⟨[(4,.raw false [N0]),(5,.dat .bool false)],[],0⟩)]) n,?_,?_⟩
  ·have q:=m
   unfold f153_j1 at q
   exact gV
  rcases n with j | i
  ·exact gV
  exact gV
 refine OL (cI q (fun q=>?_) (fun q=>?_))
 ·obtain ⟨o,d,q⟩:=bE q
  refine OQ ⟨Sum.elim (fun c=>[(0,⟨[(1,.dat T4 b),(2,P0 0 0)],[(0,.cells [(.d .str l.1),(.d T0 l.2.1),(.d T0 l.2.2)])],1⟩)]) (fun k=>[(1,⟨[(4,.raw false [N0]),(5,.dat .bool false)],[],0⟩)]) o,?_,?_⟩
  ·have q:=d
   unfold f153_j2 at q
   exact gV
  rcases o with c | k
  ·exact gV
  exact gV
 exact gV
def f159_l1 (b c:LI) (d:Int→Option (Sum Unit Unit)) (a:Int):Option (Sum Unit Unit):=
 bif (decide (a<b.length)) then
 Ey (0≤a∧a<b.length)<|
 Ey (0≤a∧a<c.length)<|
 bif ((rd 0 b a) != (rd 0 c a)) then
 some (Sum.inl ())
 else
 d (i64.wrap (a+1))
 else
 some (Sum.inr ())
def f159 (a b:LI):Option Bool:=
 bif ((a.length:Int) != b.length) then
 some false
 else
 D4 (Fp (fun e x=>f159_l1 a b e x) Fq (0:Int)) fun g=>
 F5 g (fun d=>
 some false) (fun c=>
 some true)
instance H159 (b c:LI): HE 159 [.dat T4 b,.dat T4 c] (f159 b c) (fun y=>[.dat .bool y]):=hd Tryz.f159 rfl fun y q=>by
 unfold f159 at q
 refine OL (OL (OL (cI q (fun q=>?_) (fun q=>?_))))
 ·exact gV
 refine OL (OL ?_)
 obtain ⟨k,h,q⟩:=bE q
 refine lJ h (fun x=>⟨[(0,.dat T4 b),(1,.dat T4 c),(12,.dat T0 (b.length:Int)),(13,.dat T0 x)],[],0⟩) (fun z=>Sum.elim (fun l=>[(1,⟨[(4,.dat .bool false)],[],0⟩)]) (fun n=>[(2,⟨[],[],0⟩)]) z) gV (fun m=>fun d z q=>?_) ?_
 ·have q:f159_l1 b c _ d=some z:=q
  unfold f159_l1 at q
  exact gV
 rcases k with j | i
 ·exact gV
 exact gV
def f114 (a b:LI):Option Bool:=
 D4 (f159 a b) fun c=>
 some c
instance H114 (a b:LI): HE 114 [.dat T4 a,.dat T4 b] (f114 a b) (fun y=>[.dat .bool y]):=hd Tryz.f114 rfl fun y q=>by
 unfold f114 at q
 exact gV
def f154 (n:Js) (i:Int) (d:List LI):Option Bool:=
 bif (decide (i>0)) then
 Ey (0≤(i64.wrap (i-1))∧(i64.wrap (i-1))<n.2.length)<|
 bif (!(ByteArray.toList ((rd (Ty.z T1) n.2 (i64.wrap (i-1))).1)==ByteArray.toList (ByteArray.mk #[115,107,105,112]))) then
 Ey (0≤(i64.wrap (i-1))∧(i64.wrap (i-1))<d.length)<|
 Ey (0≤i∧i<d.length)<|
 D4 (f114 (rd (Ty.z T4) d (i64.wrap (i-1))) (rd (Ty.z T4) d i)) fun a=>
 some a
 else
 some false
 else
 some false
instance H154 (n:Js) (i:Int) (d:List LI): HE 154 [.dat T2 n,.dat T0 i,.dat T5 d] (f154 n i d) (fun y=>[.dat .bool y]):=hd Tryz.f154 rfl fun y q=>by
 unfold f154 at q
 exact gV
def f97_j4 (n:Js) (a:Int) (d:List LI) (b:Bool×LI):Option (Sum Unit Unit):=
 bif (!b.1) then
 some (Sum.inr ())
 else
 bif (ByteArray.toList ((rd (Ty.z T1) n.2 a).1)==ByteArray.toList (ByteArray.mk #[115,107,105,112])) then
 D4 (f154 (n.1,n.2) a d) fun c=>
 bif (!c) then
 some (Sum.inr ())
 else
 some (Sum.inl ())
 else
 some (Sum.inl ())
def f97_l3 (n:Js) (g:(Int×(List LI))→Option (Sum Unit (List LI))) (a:Int) (c:List LI):Option (Sum Unit (List LI)):=
 bif (decide (a<n.2.length)) then
 Ey (0≤a∧a<n.2.length)<|
 Ey (0≤a∧a<c.length)<|
 D4 (f153 ((rd (Ty.z T1) n.2 a).1,((rd (Ty.z T1) n.2 a).2).1,((rd (Ty.z T1) n.2 a).2).2) (rd (Ty.z T4) c a)) fun b=>
 D4 (f97_j4 n a c b) fun d=>
 F5 d (fun e=>
 Ey ((c.length+List.length ([b.2]))*24≤140737488355328)<|
 g ((i64.wrap (a+1)),(c++([b.2])))) (fun h=>
 some (Sum.inl ()))
 else
 some (Sum.inr c)
def f97 (n:Js):Option (Bool×(List LI)):=
 D4 (f109 n.1) fun b=>
 D4 (Fp (fun c x=>f97_l3 n c x.1 x.2) Fq ((0:Int),[b])) fun e=>
 F5 e (fun d=>
 some (false,[])) (fun a=>
 some (true,a))
instance H97 (n:Js): HF 97 [.dat T2 n] [] 0 (f97 n) (fun y=>[O0 0,.dat .bool y.1]) (fun y=>[(0,.arr 22 T4 y.2)]) 1:=hd Tryz.f97 rfl fun y q=>by
 unfold f97 at q
 refine OL (OL ?_)
 obtain ⟨u,h,q⟩:=bE q
 refine cL h gW ?_
 refine R2 (AI (lQ rfl) (R2 (AI TV (AI TV (OL (OL (OL ?_)))))))
 obtain ⟨t,h,q⟩:=bE q
 refine lJ h (fun x=>⟨[(1,P0 0 0),(4,O0 1),(14,.dat T3 n.2),(15,.dat T0 (n.2.length:Int)),(16,.dat T0 x.1)],[(0,.cells [(.d T4 n.1),(.d T3 n.2)]),(1,.arr 22 T4 x.2)],2⟩) (fun z=>Sum.elim (fun v=>[(1,⟨[(2,.raw false [N0]),(3,.dat .bool false)],[],0⟩)]) (fun s=>[(2,⟨[(4,O0 0)],[(0,.arr 22 T4 s)],1⟩)]) z) gV (fun m=>F3 (fun b=>fun l z q=>?_)) ?_
 ·have q:f97_l3 n _ b l=some z:=q
  unfold f97_l3 at q
  refine OL (OL (cI q (fun q=>?_) (fun q=>?_)))
  ·refine OL (OL (gI q (fun q=>?_)))
   refine OL (OL (EI (tU 0 5 (.alt 5 (tU 6 5 .done) .done)) (EI [] (EI [] (AI rfl (gI q (fun q=>?_)))))))
   refine AI TV ?_
   obtain ⟨c,h,q⟩:=bE q
   refine cL h gW ?_
   refine R4 (AI (lQ rfl) (R2 (AI TV (AI TV ?_))))
   obtain ⟨k,j,q⟩:=bE q
   refine OQ ⟨Sum.elim (fun d=>[(0,⟨[(1,P0 0 0),(4,O0 1),(7,O0 2),(14,.dat T3 n.2),(15,.dat T0 (n.2.length:Int)),(16,.dat T0 b)],[(0,.cells [(.d T4 n.1),(.d T3 n.2)]),(1,.arr 22 T4 l),(2,.arr 3 T0 c.2)],3⟩)]) (fun i=>[(1,⟨[(2,.raw false [N0]),(3,.dat .bool false)],[],0⟩)]) k,?_,?_⟩
   ·have q:=j
    unfold f97_j4 at q
    exact gV
   rcases k with d | i
   ·exact gV
   exact gV
  exact gV
 rcases t with o | p
 ·exact gV
 exact gV
def f65_l1 (d:LI) (b:Ji→Option Int) (n a:Int):Option Int:=
 bif (decide (a<d.length)) then
 Ey (0≤a∧a<d.length)<|
 b ((i64.wrap (n*(rd 0 d a))),(i64.wrap (a+1)))
 else
 some n
def f65 (d:LI):Option Int:=
 D4 (Fp (fun a x=>f65_l1 d a x.1 x.2) Fq ((1:Int),(0:Int))) fun b=>
 some b
instance H65 (d:LI): HE 65 [.dat T4 d] (f65 d) (fun y=>[.dat T0 y]):=hd Tryz.f65 rfl fun y q=>by
 unfold f65 at q
 refine OL (OL (OL (OL ?_)))
 obtain ⟨c,h,q⟩:=bE q
 refine lJ h (fun x=>⟨[(3,.dat T0 x.1),(6,.dat T4 d),(7,.dat T0 (d.length:Int)),(8,.dat T0 x.2)],[],0⟩) (fun z=>[(2,⟨[(3,.dat T0 z)],[],0⟩)]) gV (fun m=>F3 (fun n=>fun b z q=>?_)) ?_
 ·have q:f65_l1 d _ n b=some z:=q
  unfold f65_l1 at q
  exact gV
 exact gV
def f98 (l:PTz13) (a:LI):Option (List LI):=
 bif (ByteArray.toList l.1==ByteArray.toList (ByteArray.mk #[100,101,110,115,101])) then
 D4 (f65 a) fun b=>
 some ([[l.2.1,b],[l.2.1]])
 else
 bif (ByteArray.toList l.1==ByteArray.toList (ByteArray.mk #[99,111,110,118])) then
 Ey (0≤(0:Int)∧0<(a.length:Int))<|
 some ([[l.2.1,(rd 0 a 0),l.2.2]])
 else
 some ([])
instance H98 (l:PTz13) (c:LI): HF 98 [.dat T1 l,.dat T4 c] [] 0 (f98 l c) (fun _=>[O0 0]) (fun y=>[(0,.arr 22 T4 y)]) 1:=hd Tryz.f98 rfl fun y q=>by
 unfold f98 at q
 refine OL (OL (OL (OL (cI q (fun q=>?_) (fun q=>?_)))))
 ·refine OL ?_
  obtain ⟨d,b,q⟩:=bE q
  refine EI (tU 0 3 (.take 5 (.take 6 (.alt 3 (.alt 4 (.alt 7 (.alt 8 (.take 9 .done) .done) .done) (.alt 7 (.alt 4 (.alt 8 (.take 9 .done) .done) .done) .done)) (.alt 7 (.alt 3 (.alt 4 (.alt 8 (.take 9 .done) .done) .done) .done) .done))))) (EI [] (EI [] (AI rfl (AI (AI TV ?_) ?_))))
  ·refine OL (AI TV (cL b gW ?_))
   refine R2 (AI (lQ rfl) (R2 (AI TV (AI TV ?_))))
   exact gV
  refine cL b gW ?_
  refine R2 (AI (lQ rfl) (R2 (AI TV (AI TV ?_))))
  exact gV
 exact gV
def f155_j4 (d:LI) (a:Int):Option (Sum Unit Unit):=
 bif (decide ((rd 0 d a)<1)) then
 some (Sum.inr ())
 else
 bif (decide ((rd 0 d a)>4096)) then
 some (Sum.inr ())
 else
 some (Sum.inl ())
def f155_l3 (d:LI) (c:Ji→Option (Sum Unit Int)) (n a:Int):Option (Sum Unit Int):=
 bif (decide (a<d.length)) then
 Ey (0≤a∧a<d.length)<|
 D4 (f155_j4 d a) fun g=>
 F5 g (fun e=>
 bif (decide ((i64.wrap (n*(rd 0 d a)))>4096)) then
 some (Sum.inl ())
 else
 c ((i64.wrap (n*(rd 0 d a))),(i64.wrap (a+1)))) (fun b=>
 some (Sum.inl ()))
 else
 some (Sum.inr n)
def f155 (d:LI):Option Int:=
 bif (decide ((d.length:Int)>4)) then
 some (0:Int)
 else
 D4 (Fp (fun e x=>f155_l3 d e x.1 x.2) Fq ((1:Int),(0:Int))) fun b=>
 F5 b (fun c=>
 some (0:Int)) (fun a=>
 some a)
instance H155 (d:LI): HE 155 [.dat T4 d] (f155 d) (fun y=>[.dat T0 y]):=hd Tryz.f155 rfl fun y q=>by
 unfold f155 at q
 refine OL (OL (OL (cI q (fun q=>?_) (fun q=>?_))))
 ·exact gV
 refine OL (OL (OL ?_))
 obtain ⟨p,h,q⟩:=bE q
 refine lJ h (fun x=>⟨[(3,.dat T0 x.1),(9,.dat T4 d),(10,.dat T0 (d.length:Int)),(11,.dat T0 x.2)],[],0⟩) (fun z=>Sum.elim (fun t=>[(1,⟨[(2,D0 0)],[],0⟩)]) (fun l=>[(2,⟨[(3,.dat T0 l)],[],0⟩)]) z) gV (fun m=>F3 (fun n=>fun b z q=>?_)) ?_
 ·have q:f155_l3 d _ n b=some z:=q
  unfold f155_l3 at q
  refine OL (OL (cI q (fun q=>?_) (fun q=>?_)))
  ·refine OL (OL (gI q (fun q=>?_)))
   obtain ⟨k,j,q⟩:=bE q
   refine OQ ⟨Sum.elim (fun i=>[(0,⟨[(3,.dat T0 n),(5,.dat T0 (rd 0 d b)),(9,.dat T4 d),(10,.dat T0 (d.length:Int)),(11,.dat T0 b)],[],0⟩)]) (fun c=>[(1,⟨[(2,D0 0)],[],0⟩)]) k,?_,?_⟩
   ·have q:=j
    unfold f155_j4 at q
    exact gV
   rcases k with i | c
   ·exact gV
   exact gV
  exact gV
 rcases p with s | o
 ·exact gV
 exact gV
def f99 (d:LI):Option Bool:=
 D4 (f155 d) fun a=>
 some (decide (a>0))
instance H99 (d:LI): HE 99 [.dat T4 d] (f99 d) (fun y=>[.dat .bool y]):=hd Tryz.f99 rfl fun y q=>by
 unfold f99 at q
 exact gV
def f64_l4 (c:List LI) (h:(Int×Bool×Int)→Option PTz14) (a:Int) (d:Bool) (b:Int):Option PTz14:=
 bif (decide (b<c.length)) then
 Ey (0≤b∧b<c.length)<|
 D4 (f65 (rd (Ty.z T4) c b)) fun e=>
 bif d then
 D4 (f99 (rd (Ty.z T4) c b)) fun g=>
 h ((i64.wrap (a+e)),g,(i64.wrap (b+1)))
 else
 h ((i64.wrap (a+e)),false,(i64.wrap (b+1)))
 else
 some (a,d)
def f64_l3 (n:Js) (d:List LI) (c:(Int×Bool×Int)→Option PTz14) (j:Int) (i:Bool) (a:Int):Option PTz14:=
 bif (decide (a<n.2.length)) then
 Ey (0≤a∧a<n.2.length)<|
 Ey (0≤a∧a<d.length)<|
 D4 (f98 ((rd (Ty.z T1) n.2 a).1,((rd (Ty.z T1) n.2 a).2).1,((rd (Ty.z T1) n.2 a).2).2) (rd (Ty.z T4) d a)) fun e=>
 D4 (Fp (fun c x=>f64_l4 e c x.1 x.2.1 x.2.2) Fq (j,i,(0:Int))) fun b=>
 bif b.2 then
 Ey (0≤a∧a<d.length)<|
 D4 (f99 (rd (Ty.z T4) d a)) fun h=>
 bif h then
 Ey (0≤(i64.wrap (a+1))∧(i64.wrap (a+1))<d.length)<|
 D4 (f99 (rd (Ty.z T4) d (i64.wrap (a+1)))) fun g=>
 c (b.1,g,(i64.wrap (a+1)))
 else
 c (b.1,false,(i64.wrap (a+1)))
 else
 c (b.1,false,(i64.wrap (a+1)))
 else
 some (j,i)
def f64 (n:Js) (d:List LI):Option PTz14:=
 D4 (Fp (fun c x=>f64_l3 n d c x.1 x.2.1 x.2.2) Fq ((0:Int),(decide ((n.2.length:Int)≤16)),(0:Int))) fun a=>
 bif a.2 then
 D4 (f99 n.1) fun b=>
 bif b then
 some (a.1,(decide (a.1≤4096)))
 else
 some (a.1,false)
 else
 some (a.1,false)
instance H64 (n:Js) (d:List LI): HE 64 [.dat T2 n,.dat T5 d] (f64 n d) (fun y=>[.dat T0 y.1,.dat .bool y.2]):=hd Tryz.f64 rfl fun y q=>by
 unfold f64 at q
 refine OL (OL (EI (tU 0 6 .done) (EI [] (EI [] (AI rfl (OL (OL ?_)))))))
 obtain ⟨u,j,q⟩:=bE q
 let l:LH:=fun s=>(0,.cells [(.d T4 n.1),(.d T3 n.2)])::s
 refine lJ j (fun x=>⟨[(1,.dat T5 d),(2,P0 0 0),(6,.dat T0 x.1),(7,.dat .bool x.2.1),(17,.dat T3 n.2),(18,.dat T0 (n.2.length:Int)),(19,.dat T0 x.2.2)],l [],1⟩) (fun z=>[(2,⟨[(2,P0 0 0),(6,.dat T0 z.1),(7,.dat .bool z.2)],l [],1⟩)]) gV (fun m=>F3 (fun t=>F3 (fun p=>fun b z q=>?_))) ?_
 ·have q:f64_l3 n d _ t p b=some z:=q
  unfold f64_l3 at q
  refine OL (OL (cI q (fun q=>?_) (fun q=>?_)))
  ·refine OL (OL (gI q (fun q=>?_)))
   refine OL (OL (OL (EI (tU 0 5 (.take 7 (.alt 5 (.take 6 .done) .done))) (EI [] (EI [] (AI rfl (gI q (fun q=>?_))))))))
   refine AI TV ?_
   obtain ⟨c,h,q⟩:=bE q
   refine cL h gW ?_
   refine R4 (AI (lQ rfl) (R2 (AI TV (AI TV ?_))))
   obtain ⟨v,h,q⟩:=bE q
   refine lJ h (fun x=>⟨[(1,.dat T5 d),(2,P0 0 0),(6,.dat T0 x.1),(7,.dat .bool x.2.1),(8,.dat T0 b),(17,.dat T3 n.2),(18,.dat T0 (n.2.length:Int)),(19,.dat T0 b),(29,O0 1),(30,.dat T0 (c.length:Int)),(31,.dat T0 x.2.2)],l [(1,.arr 22 T4 c)],2⟩) (fun z=>[(4,⟨[(1,.dat T5 d),(2,P0 0 0),(6,.dat T0 z.1),(7,.dat .bool z.2),(8,.dat T0 b),(17,.dat T3 n.2),(18,.dat T0 (n.2.length:Int)),(19,.dat T0 b)],l [],1⟩)]) gV (fun m=>F3 (fun i=>F3 (fun k=>fun o z q=>?_))) ?_
   ·have q:f64_l4 c _ i k o=some z:=q
    unfold f64_l4 at q
    exact gV
   exact gV
  exact gV
 exact gV
def f63 (n:Js):Option (Int×(List LI)):=
 D4 (f96 (n.1,n.2)) fun c=>
 bif (!c) then
 some ((1:Int),[])
 else
 D4 (f97 (n.1,n.2)) fun a=>
 bif (!a.1) then
 some ((4:Int),[])
 else
 D4 (f64 (n.1,n.2) a.2) fun b=>
 bif (!b.2) then
 some ((2:Int),[])
 else
 some ((0:Int),a.2)
instance H63 (n:Js): HF 63 [.dat T2 n] [] 0 (f63 n) (fun y=>[O0 0,.dat T0 y.1]) (fun y=>[(0,.arr 22 T4 y.2)]) 1:=hd Tryz.f63 rfl fun y q=>by
 unfold f63 at q
 exact gV
def f43 (n:Js):Option Ji:=
 D4 (f63 (n.1,n.2)) fun a=>
 bif (a.1 != 0) then
 some ((0:Int),a.1)
 else
 D4 (f64 (n.1,n.2) a.2) fun b=>
 some (b.1,(0:Int))
instance H43 (n:Js): HE 43 [.dat T2 n] (f43 n) (fun y=>[.dat T0 y.1,.dat T0 y.2]):=hd Tryz.f43 rfl fun y q=>by
 unfold f43 at q
 exact gV
def f35:Option Unit:=
 some ()
instance H35:HF 35 [] [] 0 (f35) (fun _=>[P0 0 0]) (fun _=>[(0,.cells [(.osl 1)]),(1,.arr 161 T6 ([]))]) 2:=hd Tryz.f35 rfl fun y q=>by
 unfold f35 at q
 exact gV
def f66 (a:NL):Option (Int×NL):=
 some ((a.length:Int),a)
instance H66 (b:NL): HF 66 [P0 0 0] [(0,.cells [(.osl 1)]),(1,.arr 161 T6 b)] 2 (f66 b) (fun y=>[.dat T0 y.1]) (fun y=>[(0,.cells [(.osl 1)]),(1,.arr 161 T6 y.2)]) 2:=hd Tryz.f66 rfl fun y q=>by
 unfold f66 at q
 exact gV
def f110 (d:LI):Option Int:=
 D4 (f155 d) fun a=>
 some a
instance H110 (d:LI): HE 110 [.dat T4 d] (f110 d) (fun y=>[.dat T0 y]):=hd Tryz.f110 rfl fun y q=>by
 unfold f110 at q
 exact gV
def f113 (t:Fz):Option Bool:=
 D4 (f99 t.1) fun a=>
 bif a then
 D4 (f110 t.1) fun b=>
 some ((t.2.length:Int)==b)
 else
 some false
instance H113 (t:Fz): HE 113 [.dat T7 t] (f113 t) (fun y=>[.dat .bool y]):=hd Tryz.f113 rfl fun y q=>by
 unfold f113 at q
 exact gV
def f54 (s:LI):Option LI:=
 nilF s
 (some ([]))
 (Ey ((List.length ([]:LI)+s.length)*8≤140737488355328)<|
 some (([]:LI)++s))
instance H54 (s:LI): HF 54 [.dat T4 s] [] 0 (f54 s) (fun _=>[O0 0]) (fun y=>[(0,.arr 35 T0 y)]) 1:=hd Tryz.f54 rfl fun y q=>by
 unfold f54 at q
 refine OL (OL (OL (nilI q (fun q=>?_) (fun q=>?_))))
 ·exact gV
 exact gV
def f112 (t:Fz):Option Fz:=
 D4 (f109 t.1) fun a=>
 D4 (f54 t.2) fun b=>
 some (a,b)
instance H112 (t:Fz): HF 112 [.dat T7 t] [] 0 (f112 t) (fun _=>[.raw true [(.osl 0),(.osl 1)]]) (fun y=>[(0,.arr 3 T0 y.1),(1,.arr 35 T0 y.2)]) 2:=hd Tryz.f112 rfl fun y q=>by
 unfold f112 at q
 exact gV
def f156 (a:NL) (n:ND):Option (Int×NL):=
 Ey ((a.length+List.length ([(n.1,n.2.1,n.2.2.1,n.2.2.2.1,n.2.2.2.2.1,n.2.2.2.2.2)]))*80≤140737488355328)<|
 some ((i64.wrap ((List.length (a++([(n.1,n.2.1,n.2.2.1,n.2.2.2.1,n.2.2.2.2.1,n.2.2.2.2.2)])):Int)-1)),(a++([(n.1,n.2.1,n.2.2.1,n.2.2.2.1,n.2.2.2.2.1,n.2.2.2.2.2)])))
instance H156 (b:NL) (n:ND): HF 156 [P0 0 0,.dat T6 n] [(0,.cells [(.osl 1)]),(1,.arr 161 T6 b)] 2 (f156 b n) (fun y=>[.dat T0 y.1,D0 0]) (fun y=>[(0,.cells [(.osl 2)]),(2,.arr 161 T6 y.2)]) 3:=hd Tryz.f156 rfl fun y q=>by
 unfold f156 at q
 refine OL (OL (EI (tU 0 6 (.alt 6 (.alt 7 (.take 8 (.take 9 (.alt 10 .done .done))) .done) .done)) (EI [(10,[0])] (EI [] (AI rfl ?_)))))
 exact gV
def f100 (a:NL) (b:Fz):Option Ki:=
 bif (decide ((a.length:Int)≥512)) then
 some ((0:Int),(2:Int),a)
 else
 D4 (f113 (b.1,b.2)) fun e=>
 bif (!e) then
 some ((0:Int),(1:Int),a)
 else
 D4 (f112 (b.1,b.2)) fun c=>
 D4 (f156 a ((1:Int),(-1:Int),(-1:Int),(0:Int),c.1,c.2)) fun d=>
 some (d.1,(0:Int),d.2)
instance H100 (b:NL) (c:Fz): HF 100 [P0 0 0,.dat T7 c] [(0,.cells [(.osl 1)]),(1,.arr 161 T6 b)] 2 (f100 b c) (fun y=>[.dat T0 y.1,.dat T0 y.2.1]) (fun y=>[(0,.cells [(.osl 2)]),(2,.arr 161 T6 y.2.2)]) 3:=hd Tryz.f100 rfl fun y q=>by
 unfold f100 at q
 exact gV
def f67 (b:NL) (c:Int) (e a d v:LI):Option PTz11:=
 bif (c != 0) then
 some ((0:Int),c,e,a,b)
 else
 D4 (f100 b (d,v)) fun g=>
 some (g.1,g.2.1,e,a,g.2.2)
instance H67 (c:NL) (i:Int) (j b d v:LI): HF 67 [P0 0 0,.dat T4 d,.dat T4 v] [(0,.cells [(.ptr 1 0),(.d T0 i),(.d T4 j),(.osl 3)]),(1,.cells [(.osl 2)]),(2,.arr 161 T6 c),(3,.arr 3 T0 b)] 4 (f67 c i j b d v) (fun y=>[.dat T0 y.1]) (fun y=>[(0,.cells [(.ptr 1 0),(.d T0 y.2.1),(.d T4 y.2.2.1),(.osl 3)]),(1,.cells [(.osl 4)]),(3,.arr 3 T0 y.2.2.2.1),(4,.arr 161 T6 y.2.2.2.2)]) 5:=hd Tryz.f67 rfl fun y q=>by
 unfold f67 at q
 exact gV
def f101_j4 (l:List LI) (d e:Int) (b g:LI) (h:NL):Option PTz11:=
 D4 (f65 (rd (Ty.z T4) l d)) fun c=>
 Ey (0≤c∧c≤b.length)<|
 D4 (f67 h e b g (rd (Ty.z T4) l d) (List.take (Int.toNat c) b)) fun a=>
 some (a.1,a.2.1,a.2.2.1,a.2.2.2.1,a.2.2.2.2)
def f101_l3 (l:List LI) (j:(Int×Int×PTz11)→Option (Int×PTz11)) (d h a g:Int) (e i:LI) (k:NL):Option (Int×PTz11):=
 bif (decide (a<l.length)) then
 Ey (0≤a∧a<l.length)<|
 D4 (f101_j4 l a g e i k) fun b=>
 D4 (f65 (rd (Ty.z T4) l a)) fun c=>
 Ey (0≤c∧c≤b.2.2.1.length)<|
 Ey ((b.2.2.2.1.length+List.length ([b.1]))*8≤140737488355328)<|
 bif (a==0) then
 j (b.1,b.1,(i64.wrap (a+1)),b.2.1,(List.drop (Int.toNat c) b.2.2.1),(b.2.2.2.1++([b.1])),b.2.2.2.2)
 else
 j (d,b.1,(i64.wrap (a+1)),b.2.1,(List.drop (Int.toNat c) b.2.2.1),(b.2.2.2.1++([b.1])),b.2.2.2.2)
 else
 some (d,h,g,e,i,k)
def f101 (b:NL) (d:Int) (e a:LI) (l:List LI):Option (Int×PTz11):=
 D4 (Fp (fun g x=>f101_l3 l g x.1 x.2.1 x.2.2.1 x.2.2.2.1 x.2.2.2.2.1 x.2.2.2.2.2.1 x.2.2.2.2.2.2) Fq ((0:Int),(0:Int),(0:Int),d,e,a,b)) fun c=>
 some (c.1,c.2.1,c.2.2.1,c.2.2.2.1,c.2.2.2.2.1,c.2.2.2.2.2)
instance H101 (j:NL) (o:Int) (v b:LI) (l:List LI): HF 101 [P0 0 0,.dat T5 l] [(0,.cells [(.ptr 1 0),(.d T0 o),(.d T4 v),(.osl 3)]),(1,.cells [(.osl 2)]),(2,.arr 161 T6 j),(3,.arr 3 T0 b)] 4 (f101 j o v b l) (fun y=>[.dat T0 y.1,.dat T0 y.2.1]) (fun y=>[(0,.cells [(.ptr 1 0),(.d T0 y.2.2.1),(.d T4 y.2.2.2.1),(.osl 4)]),(1,.cells [(.osl 5)]),(4,.arr 3 T0 y.2.2.2.2.1),(5,.arr 161 T6 y.2.2.2.2.2)]) 6:=hd Tryz.f101 rfl fun y q=>by
 unfold f101 at q
 refine OL (OL (OL (OL ?_)))
 obtain ⟨z3,h,q⟩:=bE q
 refine lJ h (fun x=>⟨[(0,P0 0 0),(6,.dat T0 x.1),(7,.dat T0 x.2.1),(10,.dat T5 l),(11,.dat T0 (l.length:Int)),(12,.dat T0 x.2.2.1)],[(0,.cells [(.ptr 1 0),(.d T0 x.2.2.2.1),(.d T4 x.2.2.2.2.1),(.osl 4)]),(1,.cells [(.osl 5)]),(4,.arr 3 T0 x.2.2.2.2.2.1),(5,.arr 161 T6 x.2.2.2.2.2.2)],6⟩) (fun z=>[(2,⟨[(6,.dat T0 z.1),(7,.dat T0 z.2.1)],[(0,.cells [(.ptr 1 0),(.d T0 z.2.2.1),(.d T4 z.2.2.2.1),(.osl 4)]),(1,.cells [(.osl 5)]),(4,.arr 3 T0 z.2.2.2.2.1),(5,.arr 161 T6 z.2.2.2.2.2)],6⟩)]) gV (fun m=>F3 (fun d=>F3 (fun s=>F3 (fun k=>F3 (fun u=>F3 (fun p=>F3 (fun l4=>fun l5 z q=>?_))))))) ?_
 ·have q:f101_l3 l _ d s k u p l4 l5=some z:=q
  unfold f101_l3 at q
  refine OL (OL (cI q (fun q=>?_) (fun q=>?_)))
  ·refine OL (OL (gI q (fun q=>?_)))
   obtain ⟨t,w,q⟩:=bE q
   refine OQ ⟨[(0,⟨[(0,P0 0 0),(6,.dat T0 d),(7,.dat T0 t.1),(8,.dat T0 k),(9,.dat T4 (rd (Ty.z T4) l k)),(10,.dat T5 l),(11,.dat T0 (l.length:Int)),(12,.dat T0 k)],[(0,.cells [(.ptr 1 0),(.d T0 t.2.1),(.d T4 t.2.2.1),(.osl 4)]),(1,.cells [(.osl 5)]),(4,.arr 3 T0 t.2.2.2.1),(5,.arr 161 T6 t.2.2.2.2)],6⟩)],?_,?_⟩
   ·have q:=w
    clear w
    unfold f101_j4 at q
    obtain ⟨b0,i,q⟩:=bE q
    obtain ⟨n,q⟩:=gE q
    obtain ⟨b1,c,q⟩:=bE q
    refine EI (tU 0 5 (.take 6 (.alt 5 (.alt 7 (.take 8 (.alt 9 (.take 10 .done) .done)) .done) (.alt 7 (.alt 5 (.take 8 (.alt 9 (.take 10 .done) .done)) .done) .done)))) (EI [(9,[0])] (EI [] (AI rfl (AI (AI TV ?_) ?_))))
    ·refine cL i gW ?_
     refine R2 (AI (lQ rfl) (R2 (AI TV (AI TV (AI TV (AI n (AI TV (cL c gW ?_))))))))
     refine R3 (AI (lQ rfl) (R2 (AJ (AI (R4 TV) ?_))))
     exact gV
    refine AI TV (cL i gW ?_)
    refine R2 (AI (lQ rfl) (R2 (AI TV (AI TV (AI n (AI TV (cL c gW ?_)))))))
    refine R3 (AI (lQ rfl) (R2 (AJ (AI (R4 TV) ?_))))
    exact gV
   refine AI (OL (EI (tU 0 6 (.alt 6 (tU 7 3 (.alt 10 .done .done)) .done)) (EI [(10,[0])] (EI [] (AI rfl ?_))))) TV
   exact gV
  exact gV
 exact gV
def f111 (a:NL) (n:Int):Option (Bool×NL):=
 bif (decide (n≥0)) then
 some ((decide (n<a.length)),a)
 else
 some (false,a)
instance H111 (b:NL) (n:Int): HF 111 [P0 0 0,.dat T0 n] [(0,.cells [(.osl 1)]),(1,.arr 161 T6 b)] 2 (f111 b n) (fun y=>[.dat .bool y.1]) (fun y=>[(0,.cells [(.osl 1)]),(1,.arr 161 T6 y.2)]) 2:=hd Tryz.f111 rfl fun y q=>by
 unfold f111 at q
 exact gV
def f193 (a:Int):Option Bool:=
 bif (a==2) then
 some true
 else
 bif (a==3) then
 some true
 else
 bif (a==4) then
 some true
 else
 bif (a==6) then
 some true
 else
 some (a==12)
instance H193 (b:Int): HE 193 [.dat T0 b] (f193 b) (fun y=>[.dat .bool y]):=hd Tryz.f193 rfl fun y q=>by
 unfold f193 at q
 exact gV
def f194 (a:Int):Option Bool:=
 bif (a==5) then
 some true
 else
 bif (a==8) then
 some true
 else
 bif (a==11) then
 some true
 else
 bif (a==12) then
 some true
 else
 some (a==13)
instance H194 (b:Int): HE 194 [.dat T0 b] (f194 b) (fun y=>[.dat .bool y]):=hd Tryz.f194 rfl fun y q=>by
 unfold f194 at q
 exact gV
def f225 (d:LI) (i:Int):Option Int:=
 bif (decide (i≥d.length)) then
 some (1:Int)
 else
 Ey (0≤(i64.wrap ((i64.wrap ((d.length:Int)-1))-i))∧(i64.wrap ((i64.wrap ((d.length:Int)-1))-i))<d.length)<|
 some (rd 0 d (i64.wrap ((i64.wrap ((d.length:Int)-1))-i)))
instance H225 (d:LI) (i:Int): HE 225 [.dat T4 d,.dat T0 i] (f225 d i) (fun y=>[.dat T0 y]):=hd Tryz.f225 rfl fun y q=>by
 unfold f225 at q
 exact gV
def f198_j1 (a b:LI):Option (Sum Unit Unit):=
 D4 (f99 a) fun c=>
 bif (!c) then
 some (Sum.inr ())
 else
 D4 (f99 b) fun d=>
 bif (!d) then
 some (Sum.inr ())
 else
 some (Sum.inl ())
def f198_j5 (b a:Int):Option (Sum Unit Unit):=
 bif (b != a) then
 bif (b != 1) then
 bif (a != 1) then
 some (Sum.inr ())
 else
 some (Sum.inl ())
 else
 some (Sum.inl ())
 else
 some (Sum.inl ())
def f198_l4 (a b:LI) (k:Jy→Option (Sum Unit LI)) (c:Int) (g:LI):Option (Sum Unit LI):=
 bif (decide (c<(List.length (List.replicate (Int.toNat (if (b.length:Int)>a.length then (b.length:Int) else (a.length:Int))) (0:Int)):Int))) then
 D4 (f225 a c) fun d=>
 D4 (f225 b c) fun e=>
 D4 (f198_j5 d e) fun h=>
 F5 h (fun j=>
 Ey (0≤(i64.wrap ((i64.wrap ((g.length:Int)-1))-c))∧(i64.wrap ((i64.wrap ((g.length:Int)-1))-c))<g.length)<|
 k ((i64.wrap (c+1)),(List.set g (Int.toNat (i64.wrap ((i64.wrap ((g.length:Int)-1))-c))) (if e>d then e else d)))) (fun i=>
 some (Sum.inl ()))
 else
 some (Sum.inr g)
def f198 (a b:LI):Option Jy:=
 D4 (f198_j1 a b) fun i=>
 F5 i (fun j=>
 Ey (0≤(if (b.length:Int)>a.length then (b.length:Int) else (a.length:Int))∧(if (b.length:Int)>a.length then (b.length:Int) else (a.length:Int))≤(if (b.length:Int)>a.length then (b.length:Int) else (a.length:Int))∧Int.toNat (if (b.length:Int)>a.length then (b.length:Int) else (a.length:Int))*8≤140737488355328)<|
 D4 (Fp (fun k x=>f198_l4 a b k x.1 x.2) Fq ((0:Int),(List.replicate (Int.toNat (if (b.length:Int)>a.length then (b.length:Int) else (a.length:Int))) (0:Int)))) fun d=>
 F5 d (fun g=>
 some ((4:Int),[])) (fun c=>
 D4 (f99 c) fun e=>
 bif (!e) then
 some ((2:Int),[])
 else
 some ((0:Int),c))) (fun h=>
 some ((1:Int),[]))
instance H198 (a b:LI): HF 198 [.dat T4 a,.dat T4 b] [] 0 (f198 a b) (fun y=>[O0 0,.dat T0 y.1]) (fun y=>[(0,.arr 3 T0 y.2)]) 1:=hd Tryz.f198 rfl fun y q=>by
 unfold f198 at q
 refine OL ?_
 obtain ⟨w,o,q⟩:=bE q
 refine OQ ⟨Sum.elim (fun t=>[(0,⟨[(0,.dat T4 a),(1,.dat T4 b)],[],0⟩)]) (fun n=>[(1,⟨[(4,.raw false [N0]),(5,D0 1)],[],0⟩)]) w,?_,?_⟩
 ·have q:=o
  unfold f198_j1 at q
  exact gV
 rcases w with t | n
 ·dsimp only [F5] at q
  refine AI (OL (gI q (fun q=>?_))) TV
  refine OL (OL ?_)
  obtain ⟨l,h,q⟩:=bE q
  refine lJ h (fun x=>⟨[(0,.dat T4 a),(1,.dat T4 b),(6,O0 0),(25,.dat T0 (List.length (List.replicate (Int.toNat (if (b.length:Int)>a.length then (b.length:Int) else (a.length:Int))) (0:Int)):Int)),(26,.dat T0 x.1)],[(0,.arr 3 T0 x.2)],1⟩) (fun z=>Sum.elim (fun za=>[(1,⟨[(4,.raw false [N0]),(5,D0 4)],[],0⟩)]) (fun zb=>[(2,⟨[(6,O0 0)],[(0,.arr 3 T0 zb)],1⟩)]) z) gV (fun m=>F3 (fun c=>fun v z q=>?_)) ?_
  ·have q:f198_l4 a b _ c v=some z:=q
   unfold f198_l4 at q
   refine OL (OL (cI q (fun q=>?_) (fun q=>?_)))
   ·refine OL (OL (OL ?_))
    obtain ⟨p,h,q⟩:=bE q
    refine cL h gW ?_
    refine R3 (AI (lQ rfl) (R2 (AI TV (AI TV ?_))))
    obtain ⟨s,h,q⟩:=bE q
    refine cL h gW ?_
    refine R3 (AI (lQ rfl) (R2 (AI TV (AI TV ?_))))
    obtain ⟨j,k,q⟩:=bE q
    refine OQ ⟨Sum.elim (fun i=>[(0,⟨[(0,.dat T4 a),(1,.dat T4 b),(6,O0 0),(7,.dat T0 c),(8,.dat T0 p),(9,.dat T0 s),(25,.dat T0 (List.length (List.replicate (Int.toNat (if (b.length:Int)>a.length then (b.length:Int) else (a.length:Int))) (0:Int)):Int)),(26,.dat T0 c)],[(0,.arr 3 T0 v)],1⟩)]) (fun d=>[(1,⟨[(4,.raw false [N0]),(5,D0 4)],[],0⟩)]) j,?_,?_⟩
    ·have q:=k
     unfold f198_j5 at q
     exact gV
    rcases j with i | d
    ·exact gV
    exact gV
   exact gV
  rcases l with b0 | u
  ·exact gV
  exact gV
 exact gV
def f142 (b a:Int):Option Ji:=
 some ((u64.wrap ((u64.wrap ((u64.wrap ((Int.fdiv b (2 ^ min (Int.toNat (32:Int)) u64.bits))*(Int.fdiv a (2 ^ min (Int.toNat (32:Int)) u64.bits))))+(Int.fdiv (u64.wrap ((u64.wrap ((Int.fdiv b (2 ^ min (Int.toNat (32:Int)) u64.bits))*(Fv IntKind.u64 (fun p q=>p&&& q) a (4294967295:Int))))+(Int.fdiv (u64.wrap ((Fv IntKind.u64 (fun p q=>p&&& q) b (4294967295:Int))*(Fv IntKind.u64 (fun p q=>p&&& q) a (4294967295:Int)))) (2 ^ min (Int.toNat (32:Int)) u64.bits)))) (2 ^ min (Int.toNat (32:Int)) u64.bits))))+(Int.fdiv (u64.wrap ((Fv IntKind.u64 (fun p q=>p&&& q) (u64.wrap ((u64.wrap ((Int.fdiv b (2 ^ min (Int.toNat (32:Int)) u64.bits))*(Fv IntKind.u64 (fun p q=>p&&& q) a (4294967295:Int))))+(Int.fdiv (u64.wrap ((Fv IntKind.u64 (fun p q=>p&&& q) b (4294967295:Int))*(Fv IntKind.u64 (fun p q=>p&&& q) a (4294967295:Int)))) (2 ^ min (Int.toNat (32:Int)) u64.bits)))) (4294967295:Int))+(u64.wrap ((Fv IntKind.u64 (fun p q=>p&&& q) b (4294967295:Int))*(Int.fdiv a (2 ^ min (Int.toNat (32:Int)) u64.bits)))))) (2 ^ min (Int.toNat (32:Int)) u64.bits)))),(u64.wrap (b*a)))
instance H142 (b c:Int): HE 142 [.dat T8 b,.dat T8 c] (f142 b c) (fun y=>[.dat T8 y.1,.dat T8 y.2]):=hd Tryz.f142 rfl fun y q=>by
 unfold f142 at q
 refine OL (OL (OL (AI (by decide) (OL (OL (AI (by decide) (OL (OL (AI (by decide) (OL (OL (AI (by decide) (OL (OL (AI (by decide) ?_)))))))))))))))
 exact gV
def f158 (c b:Int):Option Ji:=
 D4 (f142 c b) fun a=>
 some (a.1,a.2)
instance H158 (b c:Int): HE 158 [.dat T8 b,.dat T8 c] (f158 b c) (fun y=>[.dat T8 y.1,.dat T8 y.2]):=hd Tryz.f158 rfl fun y q=>by
 unfold f158 at q
 exact gV
def f108_j1 (a:Ji):Option Unit:=
 bif (decide (a.1>0)) then
 none
 else
 bif (decide (a.2>9223372036854775807)) then
 none
 else
 some ()
def f108_l2 (b:Jy→Option LI) (n:Int) (a:LI):Option LI:=
 bif (decide (n<a.length)) then
 Ey (0≤n∧n≤a.length)<|
 Ey (0≤n∧n≤a.length)<|
 b ((i64.wrap (n+(List.length (List.take (Int.toNat (a.length:Int)-Int.toNat n) (List.drop (Int.toNat (0:Int)) (List.take (Int.toNat n) a))):Int))),(over a n (List.take (Int.toNat (a.length:Int)-Int.toNat n) (List.drop (Int.toNat (0:Int)) (List.take (Int.toNat n) a)))))
 else
 some a
def f108 (c:LI) (a:Int):Option LI:=
 bif (decide (a<0)) then
 none
 else
 D4 (f158 (u64.wrap (c.length:Int)) (u64.wrap a)) fun b=>
 D4 (f108_j1 b) fun g=>
 Ey (0≤(i64.wrap b.2)∧(i64.wrap b.2)≤(i64.wrap b.2)∧Int.toNat (i64.wrap b.2)*8≤140737488355328)<|
 D4 (Fp (fun e x=>f108_l2 e x.1 x.2) Fq ((List.length (List.take (Int.toNat (List.length (List.replicate (Int.toNat (i64.wrap b.2)) (0:Int)):Int)-Int.toNat (0:Int)) c):Int),(over (List.replicate (Int.toNat (i64.wrap b.2)) (0:Int)) (0:Int) (List.take (Int.toNat (List.length (List.replicate (Int.toNat (i64.wrap b.2)) (0:Int)):Int)-Int.toNat (0:Int)) c)))) fun d=>
 some d
instance H108 (c:LI) (b:Int): HF 108 [.dat T4 c,.dat T0 b] [] 0 (f108 c b) (fun _=>[O0 0]) (fun y=>[(0,.arr 35 T0 y)]) 1:=hd Tryz.f108 rfl fun y q=>by
 unfold f108 at q
 refine OL (OL (OL (cI q (fun q=>?_) (fun q=>?_))))
 ·exact gV
 refine OL ?_
 obtain ⟨i,h,q⟩:=bE q
 refine cL h gW ?_
 refine R3 (AI (lQ rfl) (R2 (AI TV (AI TV ?_))))
 obtain ⟨l,d,q⟩:=bE q
 refine OQ ⟨[(0,⟨[(0,.dat T4 c),(6,.dat T8 i.2)],[],0⟩)],?_,?_⟩
 ·have q:=d
  unfold f108_j1 at q
  exact gV
 refine AI (OL (gI q (fun q=>?_))) TV
 refine OL (OL ?_)
 obtain ⟨k,h,q⟩:=bE q
 refine lJ h (fun x=>⟨[(7,O0 0),(8,.dat T0 x.1)],[(0,.arr 35 T0 x.2)],1⟩) (fun z=>[(2,⟨[(7,O0 0)],[(0,.arr 35 T0 z)],1⟩)]) gV (fun m=>F3 (fun n=>fun j z q=>?_)) ?_
 ·have q:f108_l2 _ n j=some z:=q
  unfold f108_l2 at q
  exact gV
 exact gV
def f73 (d:LI) (v:Int):Option Jn:=
 D4 (f99 d) fun c=>
 bif (!c) then
 some ((1:Int),[],[])
 else
 D4 (f109 d) fun a=>
 D4 (f110 d) fun e=>
 D4 (f108 ([v]) e) fun b=>
 some ((0:Int),a,b)
instance H73 (d:LI) (v:Int): HF 73 [.dat T4 d,.dat T0 v] [] 0 (f73 d v) (fun y=>[.raw true [(.osl 0),(.osl 1)],.dat T0 y.1]) (fun y=>[(0,.arr 3 T0 y.2.1),(1,.arr 35 T0 y.2.2)]) 2:=hd Tryz.f73 rfl fun y q=>by
 unfold f73 at q
 exact gV
def f226_l1 (d:LI) (b:(Int×Jy)→Option LI) (n i:Int) (a:LI):Option LI:=
 bif (decide (i≥0)) then
 Ey (0≤i∧i<a.length)<|
 Ey (0≤i∧i<d.length)<|
 b ((i64.wrap (n*(rd 0 d i))),(i64.wrap (i-1)),(List.set a (Int.toNat i) n))
 else
 some a
def f226 (d:LI):Option LI:=
 D4 (f99 d) fun a=>
 bif (!a) then
 some ([])
 else
 Ey (0≤(d.length:Int)∧(d.length:Int)≤d.length∧Int.toNat (d.length:Int)*8≤140737488355328)<|
 D4 (Fp (fun b x=>f226_l1 d b x.1 x.2.1 x.2.2) Fq ((1:Int),(i64.wrap ((d.length:Int)-1)),(List.replicate (Int.toNat (d.length:Int)) (0:Int)))) fun c=>
 some c
instance H226 (d:LI): HF 226 [.dat T4 d] [] 0 (f226 d) (fun _=>[O0 0]) (fun y=>[(0,.arr 3 T0 y)]) 1:=hd Tryz.f226 rfl fun y q=>by
 unfold f226 at q
 refine OL (OL (OL ?_))
 obtain ⟨c,h,q⟩:=bE q
 refine cL h gW ?_
 refine R2 (AI (lQ rfl) (R2 (AI TV (AI TV (cI q (fun q=>?_) (fun q=>?_))))))
 ·exact gV
 refine OL (gI q (fun q=>?_))
 refine OL (OL (OL ?_))
 obtain ⟨j,h,q⟩:=bE q
 refine lJ h (fun x=>⟨[(0,.dat T4 d),(3,O0 0),(4,.dat T0 x.1),(5,.dat T0 x.2.1)],[(0,.arr 3 T0 x.2.2)],1⟩) (fun z=>[(2,⟨[(3,O0 0)],[(0,.arr 3 T0 z)],1⟩)]) gV (fun m=>F3 (fun n=>F3 (fun i=>fun b z q=>?_))) ?_
 ·have q:f226_l1 d _ n i b=some z:=q
  unfold f226_l1 at q
  exact gV
 exact gV
def f199_j13 (d a c:LI) (e g i:Int) (b:LI):Option LI:=
 Ey (0≤(i64.wrap (i-(i64.wrap ((a.length:Int)-d.length))))∧(i64.wrap (i-(i64.wrap ((a.length:Int)-d.length))))<d.length)<|
 bif (decide ((rd 0 d (i64.wrap (i-(i64.wrap ((a.length:Int)-d.length)))))>1)) then
 Ey (0≤e∧e<b.length)<|
 Ey (0≤i∧i<a.length)<|
 Ey ((rd 0 a i)≠0)<|
 Ey (0≤(i64.wrap (i-(i64.wrap ((a.length:Int)-d.length))))∧(i64.wrap (i-(i64.wrap ((a.length:Int)-d.length))))<c.length)<|
 Ey (0≤e∧e<b.length)<|
 some (List.set b (Int.toNat e) (i64.wrap ((rd 0 b e)+(i64.wrap ((Int.tmod g (rd 0 a i))*(rd 0 c (i64.wrap (i-(i64.wrap ((a.length:Int)-d.length))))))))))
 else
 some b
def f199_l12 (d a b:LI) (g:Int) (j:(Int×Jy)→Option LI) (c i:Int) (e:LI):Option LI:=
 bif (decide (i≥(i64.wrap ((a.length:Int)-d.length)))) then
 D4 (f199_j13 d a b g c i e) fun h=>
 Ey (0≤i∧i<a.length)<|
 Ey ((rd 0 a i)≠0)<|
 j ((i64.wrap (Int.tdiv c (rd 0 a i))),(i64.wrap (i-1)),h)
 else
 some e
def f199_l9 (d c a:LI) (i:Int) (g:Jy→Option LI) (b:Int) (h:LI):Option LI:=
 bif (decide (b<(List.length (List.replicate (Int.toNat i) (0:Int)):Int))) then
 D4 (Fp (fun g x=>f199_l12 d c a b g x.1 x.2.1 x.2.2) Fq (b,(i64.wrap ((c.length:Int)-1)),h)) fun e=>
 g ((i64.wrap (b+1)),e)
 else
 some h
def f199 (d c:LI):Option LI:=
 D4 (f226 d) fun a=>
 D4 (f110 c) fun b=>
 Ey (0≤b∧b≤b∧Int.toNat b*8≤140737488355328)<|
 D4 (Fp (fun g x=>f199_l9 d c a b g x.1 x.2) Fq ((0:Int),(List.replicate (Int.toNat b) (0:Int)))) fun e=>
 some e
instance H199 (d j:LI): HF 199 [.dat T4 d,.dat T4 j] [] 0 (f199 d j) (fun _=>[O0 0]) (fun y=>[(0,.arr 3 T0 y)]) 1:=hd Tryz.f199 rfl fun y q=>by
 unfold f199 at q
 refine OL (OL ?_)
 obtain ⟨b,h,q⟩:=bE q
 refine cL h gW ?_
 refine R2 (AI (lQ rfl) (R2 (AI TV (AI TV (OL ?_)))))
 obtain ⟨p,h,q⟩:=bE q
 refine cL h gW ?_
 refine R2 (AI (lQ rfl) (R2 (AI TV (AI TV (gI q (fun q=>?_))))))
 refine OL (OL ?_)
 obtain ⟨w,n,q⟩:=bE q
 let s:LE:=fun t=>(0,.dat T4 d)::(1,.dat T4 j)::(5,O0 0)::(6,.dat T0 (i64.wrap ((j.length:Int)-d.length)))::(7,O0 1)::t
 let v:LE:=fun t=>s ((22,.dat T0 (List.length (List.replicate (Int.toNat p) (0:Int)):Int))::t)
 refine lJ n (fun x=>⟨v [(23,.dat T0 x.1)],[(0,.arr 3 T0 b),(1,.arr 3 T0 x.2)],2⟩) (fun z=>[(2,⟨[(7,O0 0)],[(0,.arr 3 T0 z)],1⟩)]) gV (fun m=>F3 (fun c=>fun l1 z q=>?_)) ?_
 ·have q:f199_l9 d j b p _ c l1=some z:=q
  unfold f199_l9 at q
  refine OL (OL (cI q (fun q=>?_) (fun q=>?_)))
  ·refine OL (OL (OL (OL ?_)))
   obtain ⟨b0,h,q⟩:=bE q
   refine lJ h (fun x=>⟨s [(8,.dat T0 c),(9,.dat T0 x.1),(10,.dat T0 x.2.1),(22,.dat T0 (List.length (List.replicate (Int.toNat p) (0:Int)):Int)),(23,.dat T0 c)],[(0,.arr 3 T0 b),(1,.arr 3 T0 x.2.2)],2⟩) (fun z=>[(4,⟨v [(23,.dat T0 c)],[(0,.arr 3 T0 b),(1,.arr 3 T0 z)],2⟩)]) gV (fun m=>F3 (fun l=>F3 (fun i=>fun o z q=>?_))) ?_
   ·have q:f199_l12 d j b c _ l i o=some z:=q
    unfold f199_l12 at q
    refine OL (OL (cI q (fun q=>?_) (fun q=>?_)))
    ·refine OL ?_
     obtain ⟨u,k,q⟩:=bE q
     refine OQ ⟨[(0,⟨s [(8,.dat T0 c),(9,.dat T0 l),(10,.dat T0 i),(22,.dat T0 (List.length (List.replicate (Int.toNat p) (0:Int)):Int)),(23,.dat T0 c)],[(0,.arr 3 T0 b),(1,.arr 3 T0 u)],2⟩)],?_,?_⟩
     ·have q:=k
      clear k
      unfold f199_j13 at q
      refine OL (gI q (fun q=>?_))
      refine cI q (fun q=>?_) (fun q=>?_)
      ·refine EI (tU 0 19 (.alt 19 .done .done)) (EI [(19,[1])] (EI [] (AI rfl ?_)))
       exact gV
      exact gV
     exact gV
    exact gV
   exact gV
  exact gV
 exact gV
def f87_j1 (a b:Int):Option (Sum Unit Unit):=
 bif (!((decide (a<0))==(decide (b<0)))) then
 some (Sum.inr ())
 else
 bif ((decide ((i64.wrap (a+b))<0))==(decide (a<0))) then
 some (Sum.inr ())
 else
 some (Sum.inl ())
def f87 (a b:Int):Option Int:=
 D4 (f87_j1 a b) fun e=>
 F5 e (fun d=>
 bif (decide (a<0)) then
 some (-9223372036854775808:Int)
 else
 some (9223372036854775807:Int)) (fun c=>
 some (i64.wrap (a+b)))
instance H87 (a b:Int): HE 87 [.dat T0 a,.dat T0 b] (f87 a b) (fun y=>[.dat T0 y]):=hd Tryz.f87 rfl fun y q=>by
 unfold f87 at q
 refine OL (OL ?_)
 obtain ⟨j,i,q⟩:=bE q
 refine OQ ⟨Sum.elim (fun d=>[(0,⟨[(0,.dat T0 a)],[],0⟩)]) (fun c=>[(1,⟨[(4,.dat T0 (i64.wrap (a+b)))],[],0⟩)]) j,?_,?_⟩
 ·have q:=i
  unfold f87_j1 at q
  exact gV
 rcases j with d | c
 ·exact gV
 exact gV
def f172_87_j3 (a b:Fz):Option Bool:=
 D4 (f113 (a.1,a.2)) fun d=>
 bif (!d) then
 some true
 else
 D4 (f113 (b.1,b.2)) fun c=>
 some (!c)
def f172_87_j2 (a b:Fz):Option (Sum Unit Unit):=
 D4 (f172_87_j3 a b) fun c=>
 bif c then
 some (Sum.inr ())
 else
 some (Sum.inl ())
def f172_87_l4 (a b:Fz) (h:Jn) (e d:LI) (j:Jy→Option LI) (c:Int) (i:LI):Option LI:=
 bif (decide (c<h.2.2.length)) then
 Ey (0≤c∧c<e.length)<|
 Ey (0≤(rd 0 e c)∧(rd 0 e c)<a.2.length)<|
 Ey (0≤c∧c<d.length)<|
 Ey (0≤(rd 0 d c)∧(rd 0 d c)<b.2.length)<|
 D4 (f87 (rd 0 a.2 (rd 0 e c)) (rd 0 b.2 (rd 0 d c))) fun g=>
 Ey (0≤c∧c<i.length)<|
 j ((i64.wrap (c+1)),(List.set i (Int.toNat c) g))
 else
 some i
def f172_87 (a b:Fz):Option Jn:=
 D4 (f172_87_j2 a b) fun l=>
 F5 l (fun i=>
 D4 (f198 a.1 b.1) fun c=>
 bif (c.1 != 0) then
 some (c.1,[],[])
 else
 D4 (f73 c.2 (0:Int)) fun d=>
 D4 (f199 a.1 c.2) fun g=>
 D4 (f199 b.1 c.2) fun e=>
 D4 (Fp (fun k x=>f172_87_l4 a b d g e k x.1 x.2) Fq ((0:Int),d.2.2)) fun h=>
 some ((0:Int),d.2.1,h)) (fun j=>
 some ((1:Int),[],[]))
instance H172_87 (a b:Fz): HF 172 [.dat T7 a,.dat T7 b,.raw false [(.c (.func (.func 87) #[] #[]))]] [] 0 (f172_87 a b) (fun y=>[.raw true [(.osl 0),(.osl 1)],.dat T0 y.1]) (fun y=>[(0,.arr 3 T0 y.2.1),(1,.arr 35 T0 y.2.2)]) 2:=hd Tryz.f172 rfl fun y q=>by
 unfold f172_87 at q
 refine OL ?_
 obtain ⟨u,j,q⟩:=bE q
 let l:LE:=fun n=>(2,.raw false [(.c (.func (.func 87) #[] #[]))])::(3,P0 0 0)::(4,P0 1 0)::(6,P0 2 0)::n
 let s:LH:=fun n=>(0,.cells [(.d T4 a.1),(.d T4 a.2)])::(1,.cells [(.d T4 b.1),(.d T4 b.2)])::(2,.cells [N0,N0])::n
 refine OQ ⟨Sum.elim (fun o=>[(0,⟨l [],s [],3⟩)]) (fun p=>[(1,⟨[(6,P0 0 0),(7,D0 1)],[(0,.cells [N0,N0])],1⟩)]) u,?_,?_⟩
 ·have q:=j
  clear j
  unfold f172_87_j2 at q
  obtain ⟨v,k,q⟩:=bE q
  refine OQ ⟨[(0,⟨l [(22,.dat .bool v)],s [],3⟩)],?_,?_⟩
  ·have q:=k
   unfold f172_87_j3 at q
   exact gV
  exact gV
 rcases u with o | p
 ·dsimp only [F5] at q
  refine AI (OL ?_) TV
  obtain ⟨b1,h,q⟩:=bE q
  refine cL h gW ?_
  refine R3 (AI (lQ rfl) (R2 (AI TV (AI TV (OL (OL (cI q (fun q=>?_) (fun q=>?_))))))))
  ·exact gV
  refine OL ?_
  obtain ⟨c,h,q⟩:=bE q
  refine cL h gW ?_
  refine R3 (AI (lQ rfl) (R2 (AI TV (AI TV (OL (OL (EI (tU 0 3 (tU 4 3 (.alt 3 (.alt 7 (.take 8 (.take 9 .done)) .done) .done))) (EI [] (EI [] (AI rfl (AI TV ?_)))))))))))
  obtain ⟨i,h,q⟩:=bE q
  refine cL h gW ?_
  refine R3 (AI (lQ rfl) (R2 (AI TV (AI TV (AI TV ?_)))))
  obtain ⟨d,h,q⟩:=bE q
  refine cL h gW ?_
  refine R3 (AI (lQ rfl) (R2 (AI TV (AI TV (OL (OL ?_))))))
  obtain ⟨b0,h,q⟩:=bE q
  refine lJ h (fun x=>⟨l [(10,P0 3 0),(12,O0 4),(13,O0 5),(51,.dat T0 (c.2.2.length:Int)),(52,.dat T0 x.1)],s [(3,.cells [(.osl 6),(.osl 7)]),(4,.arr 3 T0 i),(5,.arr 3 T0 d),(6,.arr 3 T0 c.2.1),(7,.arr 35 T0 x.2)],8⟩) (fun z=>[(2,⟨[(6,P0 0 0),(10,P0 1 0)],[(0,.cells [N0,N0]),(1,.cells [(.osl 2),(.osl 3)]),(2,.arr 3 T0 c.2.1),(3,.arr 35 T0 z)],4⟩)]) gV (fun m=>F3 (fun t=>fun w z q=>?_)) ?_
  ·have q:f172_87_l4 a b c i d _ t w=some z:=q
   unfold f172_87_l4 at q
   exact gV
  exact gV
 exact gV
def f117 (a b:Fz):Option Jn:=
 D4 (f172_87 (a.1,a.2) (b.1,b.2)) fun c=>
 some (c.1,c.2.1,c.2.2)
instance H117 (a b:Fz): HF 117 [.dat T7 a,.dat T7 b] [] 0 (f117 a b) (fun y=>[.raw true [(.osl 0),(.osl 1)],.dat T0 y.1]) (fun y=>[(0,.arr 3 T0 y.2.1),(1,.arr 35 T0 y.2.2)]) 2:=hd Tryz.f117 rfl fun y q=>by
 unfold f117 at q
 exact gV
def f90_j1 (a b:Int):Option (Sum Unit Unit):=
 bif ((decide (a<0))==(decide (b<0))) then
 some (Sum.inr ())
 else
 bif ((decide ((i64.wrap (a-b))<0))==(decide (a<0))) then
 some (Sum.inr ())
 else
 some (Sum.inl ())
def f90 (a b:Int):Option Int:=
 D4 (f90_j1 a b) fun e=>
 F5 e (fun d=>
 bif (decide (a<0)) then
 some (-9223372036854775808:Int)
 else
 some (9223372036854775807:Int)) (fun c=>
 some (i64.wrap (a-b)))
instance H90 (a b:Int): HE 90 [.dat T0 a,.dat T0 b] (f90 a b) (fun y=>[.dat T0 y]):=hd Tryz.f90 rfl fun y q=>by
 unfold f90 at q
 refine OL (OL ?_)
 obtain ⟨j,i,q⟩:=bE q
 refine OQ ⟨Sum.elim (fun d=>[(0,⟨[(0,.dat T0 a)],[],0⟩)]) (fun c=>[(1,⟨[(4,.dat T0 (i64.wrap (a-b)))],[],0⟩)]) j,?_,?_⟩
 ·have q:=i
  unfold f90_j1 at q
  exact gV
 rcases j with d | c
 ·exact gV
 exact gV
def f172_90_j3 (a b:Fz):Option Bool:=
 D4 (f113 (a.1,a.2)) fun d=>
 bif (!d) then
 some true
 else
 D4 (f113 (b.1,b.2)) fun c=>
 some (!c)
def f172_90_j2 (a b:Fz):Option (Sum Unit Unit):=
 D4 (f172_90_j3 a b) fun c=>
 bif c then
 some (Sum.inr ())
 else
 some (Sum.inl ())
def f172_90_l4 (a b:Fz) (h:Jn) (e d:LI) (j:Jy→Option LI) (c:Int) (i:LI):Option LI:=
 bif (decide (c<h.2.2.length)) then
 Ey (0≤c∧c<e.length)<|
 Ey (0≤(rd 0 e c)∧(rd 0 e c)<a.2.length)<|
 Ey (0≤c∧c<d.length)<|
 Ey (0≤(rd 0 d c)∧(rd 0 d c)<b.2.length)<|
 D4 (f90 (rd 0 a.2 (rd 0 e c)) (rd 0 b.2 (rd 0 d c))) fun g=>
 Ey (0≤c∧c<i.length)<|
 j ((i64.wrap (c+1)),(List.set i (Int.toNat c) g))
 else
 some i
def f172_90 (a b:Fz):Option Jn:=
 D4 (f172_90_j2 a b) fun l=>
 F5 l (fun i=>
 D4 (f198 a.1 b.1) fun c=>
 bif (c.1 != 0) then
 some (c.1,[],[])
 else
 D4 (f73 c.2 (0:Int)) fun d=>
 D4 (f199 a.1 c.2) fun g=>
 D4 (f199 b.1 c.2) fun e=>
 D4 (Fp (fun k x=>f172_90_l4 a b d g e k x.1 x.2) Fq ((0:Int),d.2.2)) fun h=>
 some ((0:Int),d.2.1,h)) (fun j=>
 some ((1:Int),[],[]))
instance H172_90 (a b:Fz): HF 172 [.dat T7 a,.dat T7 b,.raw false [(.c (.func (.func 90) #[] #[]))]] [] 0 (f172_90 a b) (fun y=>[.raw true [(.osl 0),(.osl 1)],.dat T0 y.1]) (fun y=>[(0,.arr 3 T0 y.2.1),(1,.arr 35 T0 y.2.2)]) 2:=hd Tryz.f172 rfl fun y q=>by
 unfold f172_90 at q
 refine OL ?_
 obtain ⟨u,j,q⟩:=bE q
 let l:LE:=fun n=>(2,.raw false [(.c (.func (.func 90) #[] #[]))])::(3,P0 0 0)::(4,P0 1 0)::(6,P0 2 0)::n
 let s:LH:=fun n=>(0,.cells [(.d T4 a.1),(.d T4 a.2)])::(1,.cells [(.d T4 b.1),(.d T4 b.2)])::(2,.cells [N0,N0])::n
 refine OQ ⟨Sum.elim (fun o=>[(0,⟨l [],s [],3⟩)]) (fun p=>[(1,⟨[(6,P0 0 0),(7,D0 1)],[(0,.cells [N0,N0])],1⟩)]) u,?_,?_⟩
 ·have q:=j
  clear j
  unfold f172_90_j2 at q
  obtain ⟨v,k,q⟩:=bE q
  refine OQ ⟨[(0,⟨l [(22,.dat .bool v)],s [],3⟩)],?_,?_⟩
  ·have q:=k
   unfold f172_90_j3 at q
   exact gV
  exact gV
 rcases u with o | p
 ·dsimp only [F5] at q
  refine AI (OL ?_) TV
  obtain ⟨b1,h,q⟩:=bE q
  refine cL h gW ?_
  refine R3 (AI (lQ rfl) (R2 (AI TV (AI TV (OL (OL (cI q (fun q=>?_) (fun q=>?_))))))))
  ·exact gV
  refine OL ?_
  obtain ⟨c,h,q⟩:=bE q
  refine cL h gW ?_
  refine R3 (AI (lQ rfl) (R2 (AI TV (AI TV (OL (OL (EI (tU 0 3 (tU 4 3 (.alt 3 (.alt 7 (.take 8 (.take 9 .done)) .done) .done))) (EI [] (EI [] (AI rfl (AI TV ?_)))))))))))
  obtain ⟨i,h,q⟩:=bE q
  refine cL h gW ?_
  refine R3 (AI (lQ rfl) (R2 (AI TV (AI TV (AI TV ?_)))))
  obtain ⟨d,h,q⟩:=bE q
  refine cL h gW ?_
  refine R3 (AI (lQ rfl) (R2 (AI TV (AI TV (OL (OL ?_))))))
  obtain ⟨b0,h,q⟩:=bE q
  refine lJ h (fun x=>⟨l [(10,P0 3 0),(12,O0 4),(13,O0 5),(51,.dat T0 (c.2.2.length:Int)),(52,.dat T0 x.1)],s [(3,.cells [(.osl 6),(.osl 7)]),(4,.arr 3 T0 i),(5,.arr 3 T0 d),(6,.arr 3 T0 c.2.1),(7,.arr 35 T0 x.2)],8⟩) (fun z=>[(2,⟨[(6,P0 0 0),(10,P0 1 0)],[(0,.cells [N0,N0]),(1,.cells [(.osl 2),(.osl 3)]),(2,.arr 3 T0 c.2.1),(3,.arr 35 T0 z)],4⟩)]) gV (fun m=>F3 (fun t=>fun w z q=>?_)) ?_
  ·have q:f172_90_l4 a b c i d _ t w=some z:=q
   unfold f172_90_l4 at q
   exact gV
  exact gV
 exact gV
def f218 (a b:Fz):Option Jn:=
 D4 (f172_90 (a.1,a.2) (b.1,b.2)) fun c=>
 some (c.1,c.2.1,c.2.2)
instance H218 (a b:Fz): HF 218 [.dat T7 a,.dat T7 b] [] 0 (f218 a b) (fun y=>[.raw true [(.osl 0),(.osl 1)],.dat T0 y.1]) (fun y=>[(0,.arr 3 T0 y.2.1),(1,.arr 35 T0 y.2.2)]) 2:=hd Tryz.f218 rfl fun y q=>by
 unfold f218 at q
 exact gV
def f143 (v:Int):Option Int:=
 bif (decide (v<0)) then
 some (u64.wrap (0-(u64.wrap v)))
 else
 some (u64.wrap v)
instance H143 (v:Int): HE 143 [.dat T0 v] (f143 v) (fun y=>[.dat T8 y]):=hd Tryz.f143 rfl fun y q=>by
 unfold f143 at q
 exact gV
def f144_j1 (b c:Int) (a:Bool):Option Bool:=
 bif a then
 bif (decide (b>0)) then
 some true
 else
 some (decide (c≥9223372036854775808))
 else
 some false
def f144 (c b:Int) (a:Bool):Option Int:=
 D4 (f144_j1 c b a) fun d=>
 bif d then
 some (-9223372036854775808:Int)
 else
 bif a then
 some (i64.wrap (0-(i64.wrap b)))
 else
 bif (decide (c>0)) then
 some (9223372036854775807:Int)
 else
 bif (decide (b≥9223372036854775808)) then
 some (9223372036854775807:Int)
 else
 some (i64.wrap b)
instance H144 (c d:Int) (b:Bool): HE 144 [.dat T8 c,.dat T8 d,.dat .bool b] (f144 c d b) (fun y=>[.dat T0 y]):=hd Tryz.f144 rfl fun y q=>by
 unfold f144 at q
 refine OL (OL ?_)
 obtain ⟨j,i,q⟩:=bE q
 refine OQ ⟨[(0,⟨[(0,.dat T8 c),(1,.dat T8 d),(2,.dat .bool b),(7,.dat .bool j)],[],0⟩)],?_,?_⟩
 ·have q:=i
  unfold f144_j1 at q
  exact gV
 exact gV
def f88_j3 (a:Ji):Option Bool:=
 bif (decide ((Fv IntKind.u64 (fun p q=>p&&& q) a.2 (4294967295:Int))>2147483648)) then
 some true
 else
 bif ((Fv IntKind.u64 (fun p q=>p&&& q) a.2 (4294967295:Int))==2147483648) then
 some ((Fv IntKind.u64 (fun p q=>p&&& q) (Fv IntKind.u64 (fun p q=>p||| q) (u64.wrap (a.1*2 ^ min (Int.toNat (32:Int)) u64.bits)) (Int.fdiv a.2 (2 ^ min (Int.toNat (32:Int)) u64.bits))) (1:Int))==1)
 else
 some false
def f88_j2 (a:Ji):Option Ji:=
 D4 (f88_j3 a) fun c=>
 bif c then
 D4 (add64 (Fv IntKind.u64 (fun p q=>p||| q) (u64.wrap (a.1*2 ^ min (Int.toNat (32:Int)) u64.bits)) (Int.fdiv a.2 (2 ^ min (Int.toNat (32:Int)) u64.bits))) (1:Int) (0:Int)) fun b=>
 some (b.1,(u64.wrap ((Int.fdiv a.1 (2 ^ min (Int.toNat (32:Int)) u64.bits))+b.2)))
 else
 some ((Fv IntKind.u64 (fun p q=>p||| q) (u64.wrap (a.1*2 ^ min (Int.toNat (32:Int)) u64.bits)) (Int.fdiv a.2 (2 ^ min (Int.toNat (32:Int)) u64.bits))),(Int.fdiv a.1 (2 ^ min (Int.toNat (32:Int)) u64.bits)))
def f88 (a b:Int):Option Int:=
 D4 (f143 a) fun g=>
 D4 (f143 b) fun d=>
 D4 (f142 g d) fun h=>
 D4 (f88_j2 h) fun c=>
 D4 (f144 c.2 c.1 (!((decide (a<0))==(decide (b<0))))) fun e=>
 some e
instance H88 (a b:Int): HE 88 [.dat T0 a,.dat T0 b] (f88 a b) (fun y=>[.dat T0 y]):=hd Tryz.f88 rfl fun y q=>by
 unfold f88 at q
 refine OL (OL ?_)
 obtain ⟨m,h,q⟩:=bE q
 refine cL h gW ?_
 refine R2 (AI (lQ rfl) (R2 (AI TV (AI TV ?_))))
 obtain ⟨l,h,q⟩:=bE q
 refine cL h gW ?_
 refine R2 (AI (lQ rfl) (R2 (AI TV (AI TV ?_))))
 obtain ⟨d,h,q⟩:=bE q
 refine cL h gW ?_
 refine R3 (AI (lQ rfl) (R2 (AI TV (AI TV (OL (OL (AI (by decide) (AI (by decide) (OL (AI (by decide) ?_))))))))))
 obtain ⟨j,c,q⟩:=bE q
 refine OQ ⟨[(0,⟨[(0,.dat T0 a),(1,.dat T0 b),(8,.dat T8 j.1),(9,.dat T8 j.2)],[],0⟩)],?_,?_⟩
 ·have q:=c
  clear c
  unfold f88_j2 at q
  obtain ⟨k,i,q⟩:=bE q
  refine OQ ⟨[(0,⟨[(0,.dat T0 a),(1,.dat T0 b),(8,.dat T8 (Fv IntKind.u64 (fun p q=>p||| q) (u64.wrap (d.1*2 ^ min (Int.toNat (32:Int)) u64.bits)) (Int.fdiv d.2 (2 ^ min (Int.toNat (32:Int)) u64.bits)))),(9,.dat T8 (Int.fdiv d.1 (2 ^ min (Int.toNat (32:Int)) u64.bits))),(38,.dat .bool k)],[],0⟩)],?_,?_⟩
  ·have q:=i
   unfold f88_j3 at q
   exact gV
  exact gV
 exact gV
def f172_88_j3 (a b:Fz):Option Bool:=
 D4 (f113 (a.1,a.2)) fun d=>
 bif (!d) then
 some true
 else
 D4 (f113 (b.1,b.2)) fun c=>
 some (!c)
def f172_88_j2 (a b:Fz):Option (Sum Unit Unit):=
 D4 (f172_88_j3 a b) fun c=>
 bif c then
 some (Sum.inr ())
 else
 some (Sum.inl ())
def f172_88_l4 (a b:Fz) (h:Jn) (e d:LI) (j:Jy→Option LI) (c:Int) (i:LI):Option LI:=
 bif (decide (c<h.2.2.length)) then
 Ey (0≤c∧c<e.length)<|
 Ey (0≤(rd 0 e c)∧(rd 0 e c)<a.2.length)<|
 Ey (0≤c∧c<d.length)<|
 Ey (0≤(rd 0 d c)∧(rd 0 d c)<b.2.length)<|
 D4 (f88 (rd 0 a.2 (rd 0 e c)) (rd 0 b.2 (rd 0 d c))) fun g=>
 Ey (0≤c∧c<i.length)<|
 j ((i64.wrap (c+1)),(List.set i (Int.toNat c) g))
 else
 some i
def f172_88 (a b:Fz):Option Jn:=
 D4 (f172_88_j2 a b) fun l=>
 F5 l (fun i=>
 D4 (f198 a.1 b.1) fun c=>
 bif (c.1 != 0) then
 some (c.1,[],[])
 else
 D4 (f73 c.2 (0:Int)) fun d=>
 D4 (f199 a.1 c.2) fun g=>
 D4 (f199 b.1 c.2) fun e=>
 D4 (Fp (fun k x=>f172_88_l4 a b d g e k x.1 x.2) Fq ((0:Int),d.2.2)) fun h=>
 some ((0:Int),d.2.1,h)) (fun j=>
 some ((1:Int),[],[]))
instance H172_88 (a b:Fz): HF 172 [.dat T7 a,.dat T7 b,.raw false [(.c (.func (.func 88) #[] #[]))]] [] 0 (f172_88 a b) (fun y=>[.raw true [(.osl 0),(.osl 1)],.dat T0 y.1]) (fun y=>[(0,.arr 3 T0 y.2.1),(1,.arr 35 T0 y.2.2)]) 2:=hd Tryz.f172 rfl fun y q=>by
 unfold f172_88 at q
 refine OL ?_
 obtain ⟨u,j,q⟩:=bE q
 let l:LE:=fun n=>(2,.raw false [(.c (.func (.func 88) #[] #[]))])::(3,P0 0 0)::(4,P0 1 0)::(6,P0 2 0)::n
 let s:LH:=fun n=>(0,.cells [(.d T4 a.1),(.d T4 a.2)])::(1,.cells [(.d T4 b.1),(.d T4 b.2)])::(2,.cells [N0,N0])::n
 refine OQ ⟨Sum.elim (fun o=>[(0,⟨l [],s [],3⟩)]) (fun p=>[(1,⟨[(6,P0 0 0),(7,D0 1)],[(0,.cells [N0,N0])],1⟩)]) u,?_,?_⟩
 ·have q:=j
  clear j
  unfold f172_88_j2 at q
  obtain ⟨v,k,q⟩:=bE q
  refine OQ ⟨[(0,⟨l [(22,.dat .bool v)],s [],3⟩)],?_,?_⟩
  ·have q:=k
   unfold f172_88_j3 at q
   exact gV
  exact gV
 rcases u with o | p
 ·dsimp only [F5] at q
  refine AI (OL ?_) TV
  obtain ⟨b1,h,q⟩:=bE q
  refine cL h gW ?_
  refine R3 (AI (lQ rfl) (R2 (AI TV (AI TV (OL (OL (cI q (fun q=>?_) (fun q=>?_))))))))
  ·exact gV
  refine OL ?_
  obtain ⟨c,h,q⟩:=bE q
  refine cL h gW ?_
  refine R3 (AI (lQ rfl) (R2 (AI TV (AI TV (OL (OL (EI (tU 0 3 (tU 4 3 (.alt 3 (.alt 7 (.take 8 (.take 9 .done)) .done) .done))) (EI [] (EI [] (AI rfl (AI TV ?_)))))))))))
  obtain ⟨i,h,q⟩:=bE q
  refine cL h gW ?_
  refine R3 (AI (lQ rfl) (R2 (AI TV (AI TV (AI TV ?_)))))
  obtain ⟨d,h,q⟩:=bE q
  refine cL h gW ?_
  refine R3 (AI (lQ rfl) (R2 (AI TV (AI TV (OL (OL ?_))))))
  obtain ⟨b0,h,q⟩:=bE q
  refine lJ h (fun x=>⟨l [(10,P0 3 0),(12,O0 4),(13,O0 5),(51,.dat T0 (c.2.2.length:Int)),(52,.dat T0 x.1)],s [(3,.cells [(.osl 6),(.osl 7)]),(4,.arr 3 T0 i),(5,.arr 3 T0 d),(6,.arr 3 T0 c.2.1),(7,.arr 35 T0 x.2)],8⟩) (fun z=>[(2,⟨[(6,P0 0 0),(10,P0 1 0)],[(0,.cells [N0,N0]),(1,.cells [(.osl 2),(.osl 3)]),(2,.arr 3 T0 c.2.1),(3,.arr 35 T0 z)],4⟩)]) gV (fun m=>F3 (fun t=>fun w z q=>?_)) ?_
  ·have q:f172_88_l4 a b c i d _ t w=some z:=q
   unfold f172_88_l4 at q
   exact gV
  exact gV
 exact gV
def f161 (a b:Fz):Option Jn:=
 D4 (f172_88 (a.1,a.2) (b.1,b.2)) fun c=>
 some (c.1,c.2.1,c.2.2)
instance H161 (a b:Fz): HF 161 [.dat T7 a,.dat T7 b] [] 0 (f161 a b) (fun y=>[.raw true [(.osl 0),(.osl 1)],.dat T0 y.1]) (fun y=>[(0,.arr 3 T0 y.2.1),(1,.arr 35 T0 y.2.2)]) 2:=hd Tryz.f161 rfl fun y q=>by
 unfold f161 at q
 exact gV
def f201 (t:Fz):Option Bool:=
 some ((t.1.length:Int)==2)
instance H201 (t:Fz): HE 201 [.dat T7 t] (f201 t) (fun y=>[.dat .bool y]):=hd Tryz.f201 rfl fun y q=>by
 unfold f201 at q
 exact gV
def f246_l1 (s:LI) (v:Int) (b:Int→Option (Sum Int Unit)) (a:Int):Option (Sum Int Unit):=
 bif (decide (a<s.length)) then
 Ey (0≤a∧a<s.length)<|
 bif (v==(rd 0 s a)) then
 some (Sum.inl a)
 else
 b (i64.wrap (a+1))
 else
 some (Sum.inr ())
def f246 (s:LI) (v:Int):Option Int:=
 D4 (Fp (fun c x=>f246_l1 s v c x) Fq (0:Int)) fun d=>
 F5 d (fun a=>
 some a) (fun b=>
 some (-1:Int))
instance H246 (s:LI) (v:Int): HE 246 [.dat T4 s,.dat T0 v] (f246 s v) (fun y=>[.dat T0 y]):=hd Tryz.f246 rfl fun y q=>by
 unfold f246 at q
 refine OL (OL (OL ?_))
 obtain ⟨i,h,q⟩:=bE q
 refine lJ h (fun x=>⟨[(0,.dat T4 s),(1,.dat T0 v),(7,.dat T0 (s.length:Int)),(8,.dat T0 x)],[],0⟩) (fun z=>Sum.elim (fun b=>[(1,⟨[(4,.dat T0 b)],[],0⟩)]) (fun k=>[(2,⟨[],[],0⟩)]) z) gV (fun m=>fun j z q=>?_) ?_
 ·have q:f246_l1 s v _ j=some z:=q
  unfold f246_l1 at q
  exact gV
 rcases i with d | c
 ·exact gV
 exact gV
def f240 (s:LI) (v:Int):Option Bool:=
 D4 (f246 s v) fun a=>
 some (decide (a≥0))
instance H240 (s:LI) (v:Int): HE 240 [.dat T4 s,.dat T0 v] (f240 s v) (fun y=>[.dat .bool y]):=hd Tryz.f240 rfl fun y q=>by
 unfold f240 at q
 exact gV
def f228_l1 (a:LI) (n:Int) (d:Int→Option (Sum Unit Unit)) (b:Int):Option (Sum Unit Unit):=
 bif (decide (b<n)) then
 D4 (f240 a b) fun c=>
 bif (!c) then
 some (Sum.inl ())
 else
 d (i64.wrap (b+1))
 else
 some (Sum.inr ())
def f228 (a:LI) (n:Int):Option Bool:=
 bif ((a.length:Int) != n) then
 some false
 else
 D4 (Fp (fun e x=>f228_l1 a n e x) Fq (0:Int)) fun c=>
 F5 c (fun d=>
 some false) (fun b=>
 some true)
instance H228 (b:LI) (n:Int): HE 228 [.dat T4 b,.dat T0 n] (f228 b n) (fun y=>[.dat .bool y]):=hd Tryz.f228 rfl fun y q=>by
 unfold f228 at q
 refine OL (OL (OL (cI q (fun q=>?_) (fun q=>?_))))
 ·exact gV
 refine OL (OL ?_)
 obtain ⟨i,h,q⟩:=bE q
 refine lJ h (fun x=>⟨[(0,.dat T4 b),(10,.dat T0 n),(11,.dat T0 x)],[],0⟩) (fun z=>Sum.elim (fun k=>[(1,⟨[(4,.dat .bool false)],[],0⟩)]) (fun l=>[(2,⟨[],[],0⟩)]) z) gV (fun m=>fun c z q=>?_) ?_
 ·have q:f228_l1 b n _ c=some z:=q
  unfold f228_l1 at q
  exact gV
 rcases i with j | d
 ·exact gV
 exact gV
def f203_j1 (d:LI) (a:Int):Option (Sum Unit Unit):=
 bif (decide (a<0)) then
 some (Sum.inr ())
 else
 D4 (f110 d) fun b=>
 bif (decide (a≥b)) then
 some (Sum.inr ())
 else
 some (Sum.inl ())
def f203_l2 (d:LI) (c:(Int×Jy)→Option LI) (a i:Int) (b:LI):Option LI:=
 bif (decide (i≥0)) then
 Ey (0≤i∧i<d.length)<|
 Ey ((rd 0 d i)≠0)<|
 Ey (0≤i∧i<b.length)<|
 Ey (0≤i∧i<d.length)<|
 Ey ((rd 0 d i)≠0)<|
 c ((i64.wrap (Int.tdiv a (rd 0 d i))),(i64.wrap (i-1)),(List.set b (Int.toNat i) (Int.tmod a (rd 0 d i))))
 else
 some b
def f203 (d:LI) (a:Int):Option (Bool×LI):=
 D4 (f203_j1 d a) fun h=>
 F5 h (fun b=>
 Ey (0≤(d.length:Int)∧(d.length:Int)≤d.length∧Int.toNat (d.length:Int)*8≤140737488355328)<|
 D4 (Fp (fun e x=>f203_l2 d e x.1 x.2.1 x.2.2) Fq (a,(i64.wrap ((d.length:Int)-1)),(List.replicate (Int.toNat (d.length:Int)) (0:Int)))) fun g=>
 some (true,g)) (fun c=>
 some (false,[]))
instance H203 (d:LI) (b:Int): HF 203 [.dat T4 d,.dat T0 b] [] 0 (f203 d b) (fun y=>[O0 0,.dat .bool y.1]) (fun y=>[(0,.arr 3 T0 y.2)]) 1:=hd Tryz.f203 rfl fun y q=>by
 unfold f203 at q
 refine OL ?_
 obtain ⟨n,k,q⟩:=bE q
 refine OQ ⟨Sum.elim (fun j=>[(0,⟨[(0,.dat T4 d),(1,.dat T0 b)],[],0⟩)]) (fun l=>[(1,⟨[(4,.raw false [N0]),(5,.dat .bool false)],[],0⟩)]) n,?_,?_⟩
 ·have q:=k
  unfold f203_j1 at q
  exact gV
 rcases n with j | l
 ·dsimp only [F5] at q
  refine AI (OL (gI q (fun q=>?_))) TV
  refine OL (OL ?_)
  obtain ⟨p,h,q⟩:=bE q
  refine lJ h (fun x=>⟨[(0,.dat T4 d),(1,.dat T0 x.1),(6,O0 0),(7,.dat T0 x.2.1)],[(0,.arr 3 T0 x.2.2)],1⟩) (fun z=>[(2,⟨[(6,O0 0)],[(0,.arr 3 T0 z)],1⟩)]) gV (fun m=>F3 (fun c=>F3 (fun i=>fun o z q=>?_))) ?_
  ·have q:f203_l2 d _ c i o=some z:=q
   unfold f203_l2 at q
   exact gV
  exact gV
 exact gV
def f204_j1 (d a:LI):Option (Sum Unit Unit):=
 D4 (f99 d) fun b=>
 bif (!b) then
 some (Sum.inr ())
 else
 bif ((a.length:Int) != d.length) then
 some (Sum.inr ())
 else
 some (Sum.inl ())
def f204_j5 (d a:LI) (b:Int):Option (Sum Unit Unit):=
 bif (decide ((rd 0 a b)<0)) then
 some (Sum.inr ())
 else
 Ey (0≤b∧b<d.length)<|
 bif (decide ((rd 0 a b)≥(rd 0 d b))) then
 some (Sum.inr ())
 else
 some (Sum.inl ())
def f204_l4 (d a:LI) (h:Ji→Option (Sum Unit Int)) (c b:Int):Option (Sum Unit Int):=
 bif (decide (b<a.length)) then
 Ey (0≤b∧b<a.length)<|
 D4 (f204_j5 d a b) fun e=>
 F5 e (fun g=>
 Ey (0≤b∧b<d.length)<|
 h ((i64.wrap ((i64.wrap (c*(rd 0 d b)))+(rd 0 a b))),(i64.wrap (b+1)))) (fun i=>
 some (Sum.inl ()))
 else
 some (Sum.inr c)
def f204 (d a:LI):Option PTz14:=
 D4 (f204_j1 d a) fun j=>
 F5 j (fun c=>
 D4 (Fp (fun h x=>f204_l4 d a h x.1 x.2) Fq ((0:Int),(0:Int))) fun e=>
 F5 e (fun i=>
 some ((0:Int),false)) (fun b=>
 some (b,true))) (fun g=>
 some ((0:Int),false))
instance H204 (d b:LI): HE 204 [.dat T4 d,.dat T4 b] (f204 d b) (fun y=>[.dat T0 y.1,.dat .bool y.2]):=hd Tryz.f204 rfl fun y q=>by
 unfold f204 at q
 refine OL ?_
 obtain ⟨t,o,q⟩:=bE q
 refine OQ ⟨Sum.elim (fun n=>[(0,⟨[(0,.dat T4 d),(1,.dat T4 b)],[],0⟩)]) (fun p=>[(1,⟨[(4,D0 0),(5,.dat .bool false)],[],0⟩)]) t,?_,?_⟩
 ·have q:=o
  unfold f204_j1 at q
  exact gV
 rcases t with n | p
 ·dsimp only [F5] at q
  refine AI (OL (OL (OL ?_))) TV
  obtain ⟨z6,h,q⟩:=bE q
  refine lJ h (fun x=>⟨[(0,.dat T4 d),(6,.dat T0 x.1),(19,.dat T4 b),(20,.dat T0 (b.length:Int)),(21,.dat T0 x.2)],[],0⟩) (fun z=>Sum.elim (fun za=>[(1,⟨[(4,D0 0),(5,.dat .bool false)],[],0⟩)]) (fun w=>[(2,⟨[(6,.dat T0 w)],[],0⟩)]) z) gV (fun m=>F3 (fun i=>fun c z q=>?_)) ?_
  ·have q:f204_l4 d b _ i c=some z:=q
   unfold f204_l4 at q
   refine OL (OL (cI q (fun q=>?_) (fun q=>?_)))
   ·refine OL (OL (gI q (fun q=>?_)))
    obtain ⟨s,l,q⟩:=bE q
    refine OQ ⟨Sum.elim (fun j=>[(0,⟨[(0,.dat T4 d),(6,.dat T0 i),(7,.dat T0 c),(8,.dat T0 (rd 0 b c)),(19,.dat T4 b),(20,.dat T0 (b.length:Int)),(21,.dat T0 c)],[],0⟩)]) (fun k=>[(1,⟨[(4,D0 0),(5,.dat .bool false)],[],0⟩)]) s,?_,?_⟩
    ·have q:=l
     unfold f204_j5 at q
     exact gV
    rcases s with j | k
    ·exact gV
    exact gV
   exact gV
  rcases z6 with u | v
  ·exact gV
  exact gV
 exact gV
def f202_j3 (a:Fz) (b:LI):Option Bool:=
 D4 (f113 (a.1,a.2)) fun d=>
 bif (!d) then
 some true
 else
 D4 (f228 b (a.1.length:Int)) fun c=>
 some (!c)
def f202_j2 (a:Fz) (b:LI):Option (Sum Unit Unit):=
 D4 (f202_j3 a b) fun c=>
 bif c then
 some (Sum.inr ())
 else
 some (Sum.inl ())
def f202_l4 (a:Fz) (b:LI) (e:Jy→Option LI) (c:Int) (d:LI):Option LI:=
 bif (decide (c<b.length)) then
 Ey (0≤c∧c<b.length)<|
 Ey (0≤(rd 0 b c)∧(rd 0 b c)<a.1.length)<|
 Ey (0≤c∧c<d.length)<|
 e ((i64.wrap (c+1)),(List.set d (Int.toNat c) (rd 0 a.1 (rd 0 b c))))
 else
 some d
def f202_l8 (a:LI) (c:Bool×LI) (e:Jy→Option LI) (b:Int) (d:LI):Option LI:=
 bif (decide (b<a.length)) then
 Ey (0≤b∧b<a.length)<|
 Ey (0≤b∧b<c.2.length)<|
 Ey (0≤(rd 0 a b)∧(rd 0 a b)<d.length)<|
 e ((i64.wrap (b+1)),(List.set d (Int.toNat (rd 0 a b)) (rd 0 c.2 b)))
 else
 some d
def f202_l7 (a:Fz) (b j:LI) (g:Jn) (i:Jy→Option LI) (c:Int) (h:LI):Option LI:=
 bif (decide (c<g.2.2.length)) then
 D4 (f203 j c) fun d=>
 Ey (0≤(b.length:Int)∧(b.length:Int)≤b.length∧Int.toNat (b.length:Int)*8≤140737488355328)<|
 D4 (Fp (fun i x=>f202_l8 b d i x.1 x.2) Fq ((0:Int),(List.replicate (Int.toNat (b.length:Int)) (0:Int)))) fun k=>
 D4 (f204 a.1 k) fun e=>
 Ey (0≤e.1∧e.1<a.2.length)<|
 Ey (0≤c∧c<h.length)<|
 i ((i64.wrap (c+1)),(List.set h (Int.toNat c) (rd 0 a.2 e.1)))
 else
 some h
def f202 (a:Fz) (b:LI):Option Jn:=
 D4 (f202_j2 a b) fun j=>
 F5 j (fun h=>
 Ey (0≤(b.length:Int)∧(b.length:Int)≤b.length∧Int.toNat (b.length:Int)*8≤140737488355328)<|
 D4 (Fp (fun e x=>f202_l4 a b e x.1 x.2) Fq ((0:Int),(List.replicate (Int.toNat (b.length:Int)) (0:Int)))) fun d=>
 D4 (f73 d (0:Int)) fun c=>
 D4 (Fp (fun e x=>f202_l7 a b d c e x.1 x.2) Fq ((0:Int),c.2.2)) fun g=>
 some ((0:Int),c.2.1,g)) (fun i=>
 some ((1:Int),[],[]))
instance H202 (a:Fz) (b:LI): HF 202 [.dat T7 a,.dat T4 b] [] 0 (f202 a b) (fun y=>[.raw true [(.osl 0),(.osl 1)],.dat T0 y.1]) (fun y=>[(0,.arr 3 T0 y.2.1),(1,.arr 35 T0 y.2.2)]) 2:=hd Tryz.f202 rfl fun y q=>by
 unfold f202 at q
 refine OL ?_
 obtain ⟨z5,n,q⟩:=bE q
 let k:LE:=fun t=>(1,.dat T4 b)::(2,P0 0 0)::(4,P0 1 0)::t
 let l:LH:=fun t=>(0,.cells [(.d T4 a.1),(.d T4 a.2)])::(1,.cells [N0,N0])::t
 refine OQ ⟨Sum.elim (fun w=>[(0,⟨k [],l [],2⟩)]) (fun b0=>[(1,⟨[(4,P0 0 0),(5,D0 1)],[(0,.cells [N0,N0])],1⟩)]) z5,?_,?_⟩
 ·have q:=n
  clear n
  unfold f202_j2 at q
  obtain ⟨z8,s,q⟩:=bE q
  refine OQ ⟨[(0,⟨k [(29,.dat .bool z8)],l [],2⟩)],?_,?_⟩
  ·have q:=s
   unfold f202_j3 at q
   exact gV
  exact gV
 rcases z5 with w | b0
 ·dsimp only [F5] at q
  refine AI (OL (gI q (fun q=>?_))) TV
  refine OL (OL ?_)
  obtain ⟨j,h,q⟩:=bE q
  refine lJ h (fun x=>⟨k [(6,O0 2),(34,.dat T4 b),(35,.dat T0 (b.length:Int)),(36,.dat T0 x.1)],l [(2,.arr 3 T0 x.2)],3⟩) (fun z=>[(2,⟨k [(6,O0 2)],l [(2,.arr 3 T0 z)],3⟩)]) gV (fun m=>F3 (fun u=>fun l2 z q=>?_)) ?_
  ·have q:f202_l4 a b _ u l2=some z:=q
   unfold f202_l4 at q
   exact gV
  refine AI (OL ?_) TV
  obtain ⟨c,h,q⟩:=bE q
  refine cL h gW ?_
  refine R3 (AI (lQ rfl) (R2 (AI TV (AI TV (OL (OL (OL ?_)))))))
  obtain ⟨b1,h,q⟩:=bE q
  refine lJ h (fun x=>⟨k [(6,O0 2),(9,P0 3 0),(57,.dat T0 (c.2.2.length:Int)),(58,.dat T0 x.1)],l [(2,.arr 3 T0 j),(3,.cells [(.osl 4),(.osl 5)]),(4,.arr 3 T0 c.2.1),(5,.arr 35 T0 x.2)],6⟩) (fun z=>[(4,⟨[(4,P0 0 0),(9,P0 1 0)],[(0,.cells [N0,N0]),(1,.cells [(.osl 2),(.osl 3)]),(2,.arr 3 T0 c.2.1),(3,.arr 35 T0 z)],4⟩)]) gV (fun m=>F3 (fun d=>fun v z q=>?_)) ?_
  ·have q:f202_l7 a b j c _ d v=some z:=q
   unfold f202_l7 at q
   refine OL (OL (cI q (fun q=>?_) (fun q=>?_)))
   ·refine OL (OL (OL ?_))
    obtain ⟨i,h,q⟩:=bE q
    refine cL h gW ?_
    refine R3 (AI (lQ rfl) (R2 (AI TV (AI TV (OL (gI q (fun q=>?_)))))))
    refine OL (OL ?_)
    obtain ⟨b2,h,q⟩:=bE q
    refine lJ h (fun x=>⟨k [(6,O0 2),(9,P0 3 0),(11,.dat T0 d),(12,O0 4),(14,O0 5),(57,.dat T0 (c.2.2.length:Int)),(58,.dat T0 d),(70,.dat T4 b),(71,.dat T0 (b.length:Int)),(72,.dat T0 x.1)],l [(2,.arr 3 T0 j),(3,.cells [(.osl 6),(.osl 7)]),(4,.arr 3 T0 i.2),(5,.arr 3 T0 x.2),(6,.arr 3 T0 c.2.1),(7,.arr 35 T0 v)],8⟩) (fun z=>[(6,⟨k [(6,O0 2),(9,P0 3 0),(11,.dat T0 d),(14,O0 4),(57,.dat T0 (c.2.2.length:Int)),(58,.dat T0 d)],l [(2,.arr 3 T0 j),(3,.cells [(.osl 5),(.osl 6)]),(4,.arr 3 T0 z),(5,.arr 3 T0 c.2.1),(6,.arr 35 T0 v)],7⟩)]) gV (fun m=>F3 (fun p=>fun o z q=>?_)) ?_
    ·have q:f202_l8 b i _ p o=some z:=q
     unfold f202_l8 at q
     exact gV
    exact gV
   exact gV
  exact gV
 exact gV
def f165 (a:Fz):Option Jn:=
 D4 (f113 (a.1,a.2)) fun d=>
 bif (!d) then
 some ((1:Int),[],[])
 else
 D4 (f201 (a.1,a.2)) fun c=>
 bif (!c) then
 some ((4:Int),[],[])
 else
 D4 (f202 (a.1,a.2) ([(1:Int),(0:Int)])) fun b=>
 some (b.1,b.2.1,b.2.2)
instance H165 (a:Fz): HF 165 [.dat T7 a] [] 0 (f165 a) (fun y=>[.raw true [(.osl 0),(.osl 1)],.dat T0 y.1]) (fun y=>[(0,.arr 3 T0 y.2.1),(1,.arr 35 T0 y.2.2)]) 2:=hd Tryz.f165 rfl fun y q=>by
 unfold f165 at q
 exact gV
def f188 (v:Int):Option Int:=
 bif (decide (v<0)) then
 some (u64.wrap (0-(u64.wrap v)))
 else
 some (u64.wrap v)
instance H188 (v:Int): HE 188 [.dat T0 v] (f188 v) (fun y=>[.dat T8 y]):=hd Tryz.f188 rfl fun y q=>by
 unfold f188 at q
 exact gV
def f217 (a b:Ji):Option Ji:=
 D4 (sub64 a.2 b.2 (0:Int)) fun c=>
 D4 (sub64 (u64.wrap a.1) (u64.wrap b.1) c.2) fun d=>
 some ((i64.wrap d.1),c.1)
instance H217 (a b:Ji): HE 217 [.dat T9 a,.dat T9 b] (f217 a b) (fun y=>[.raw true [(.d T0 y.1),(.d T8 y.2)]]):=hd Tryz.f217 rfl fun y q=>by
 unfold f217 at q
 exact gV
def f191 (a:Ji):Option Ji:=
 D4 (f217 ((0:Int),(0:Int)) (a.1,a.2)) fun b=>
 some (b.1,b.2)
instance H191 (a:Ji): HE 191 [.dat T9 a] (f191 a) (fun y=>[.raw true [(.d T0 y.1),(.d T8 y.2)]]):=hd Tryz.f191 rfl fun y q=>by
 unfold f191 at q
 exact gV
def f231 (a b:Int):Option Ji:=
 D4 (f188 a) fun g=>
 D4 (f188 b) fun e=>
 D4 (f142 g e) fun c=>
 bif (!((decide (a<0))==(decide (b<0)))) then
 D4 (f191 ((i64.wrap c.1),c.2)) fun d=>
 some (d.1,d.2)
 else
 some ((i64.wrap c.1),c.2)
instance H231 (a b:Int): HE 231 [.dat T0 a,.dat T0 b] (f231 a b) (fun y=>[.raw true [(.d T0 y.1),(.d T8 y.2)]]):=hd Tryz.f231 rfl fun y q=>by
 unfold f231 at q
 exact gV
def f211 (i e d a b:Int):Option PTz15:=
 D4 (f231 a b) fun c=>
 D4 (add64 d c.2 (0:Int)) fun h=>
 D4 (add64 (u64.wrap e) (u64.wrap c.1) h.2) fun g=>
 some ((i64.wrap (i+(i64.wrap ((Int.fdiv c.1 (2 ^ min (Int.toNat (63:Int)) i64.bits))+(i64.wrap g.2))))),(i64.wrap g.1),h.1)
instance H211 (i d c a b:Int): HF 211 [P0 0 0,.dat T0 a,.dat T0 b] [(0,.cells [(.d T0 i),(.d T0 d),(.d T8 c)])] 1 (f211 i d c a b) (fun _=>[]) (fun y=>[(0,.cells [(.d T0 y.1),(.d T0 y.2.1),(.d T8 y.2.2)])]) 1:=hd Tryz.f211 rfl fun y q=>by
 unfold f211 at q
 refine OL ?_
 obtain ⟨l,h,q⟩:=bE q
 refine cL h gW ?_
 refine R3 (AI (lQ rfl) (R2 (AI TV (AI TV (OL (OL (EI (tU 0 7 (.alt 7 (tU 8 5 .done) .done)) (EI [] (EI [] (AI rfl (AI TV ?_)))))))))))
 obtain ⟨k,h,q⟩:=bE q
 refine OQ ⟨ext3 add64,[k.1,k.2],add64_ok,AI (ext3I h) ?_⟩
 refine OL (EI (tU 0 10 (.alt 10 (tU 11 5 .done) .done)) (EI [] (EI [] (AI rfl (AI TV ?_)))))
 obtain ⟨j,h,q⟩:=bE q
 refine OQ ⟨ext3 add64,[j.1,j.2],add64_ok,AI (ext3I h) ?_⟩
 refine OL (OL (EI (tU 0 13 (.alt 13 .done .done)) (EI [(13,[0])] (EI [] (AI rfl (AI (by decide) ?_))))))
 exact gV
def f241 (a:Ji) (n:Int):Option PTz4:=
 bif (decide (n≥64)) then
 Ey (0≤(i64.wrap (n-64)))<|
 Ey (0≤(i64.wrap ((64:Int)-(i64.wrap (n-64)))))<|
 Ey (0≤(i64.wrap (n-64)))<|
 Ey (0≤(i64.wrap ((64:Int)-(i64.wrap (n-64)))))<|
 some ((Int.fdiv a.1 (2 ^ min (Int.toNat (63:Int)) i64.bits)),(u64.wrap (Int.fdiv a.1 (2 ^ min (Int.toNat (i64.wrap (n-64))) i64.bits))),(Fv IntKind.u64 (fun p q=>p||| q) (u64.wrap ((u64.wrap a.1)*2 ^ min (Int.toNat (i64.wrap ((64:Int)-(i64.wrap (n-64))))) u64.bits)) (Int.fdiv a.2 (2 ^ min (Int.toNat (i64.wrap (n-64))) u64.bits))),(u64.wrap (a.2*2 ^ min (Int.toNat (i64.wrap ((64:Int)-(i64.wrap (n-64))))) u64.bits)))
 else
 Ey (0≤n)<|
 Ey (0≤(i64.wrap ((64:Int)-n)))<|
 Ey (0≤n)<|
 Ey (0≤(i64.wrap ((64:Int)-n)))<|
 some ((Int.fdiv a.1 (2 ^ min (Int.toNat n) i64.bits)),(Fv IntKind.u64 (fun p q=>p||| q) (u64.wrap ((u64.wrap a.1)*2 ^ min (Int.toNat (i64.wrap ((64:Int)-n))) u64.bits)) (Int.fdiv a.2 (2 ^ min (Int.toNat n) u64.bits))),(u64.wrap (a.2*2 ^ min (Int.toNat (i64.wrap ((64:Int)-n))) u64.bits)),(0:Int))
instance H241 (a:Ji) (n:Int): HE 241 [.dat T9 a,.dat T0 n] (f241 a n) (fun y=>[.raw true [(.d T0 y.1),(.d T8 y.2.1)],.dat T8 y.2.2.1,.dat T8 y.2.2.2]):=hd Tryz.f241 rfl fun y q=>by
 unfold f241 at q
 refine OL (OL (EI (tU 0 7 .done) (EI [] (EI [] (AI rfl (OL (OL (cI q (fun q=>?_) (fun q=>?_)))))))))
 ·refine OL (OL (EI (tU 0 9 (.alt 9 (.alt 10 .done .done) .done)) (EI [] (EI [] (AI rfl (AI (by decide) ?_))))))
  exact gV
 exact gV
def f45 (n:Int):Option Ji:=
 some ((Int.fdiv n (2 ^ min (Int.toNat (63:Int)) i64.bits)),(u64.wrap n))
instance H45 (n:Int): HE 45 [.dat T0 n] (f45 n) (fun y=>[.raw true [(.d T0 y.1),(.d T8 y.2)]]):=hd Tryz.f45 rfl fun y q=>by
 unfold f45 at q
 refine OL (OL (AI (by decide) ?_))
 exact gV
def f44 (a b:Ji):Option Ji:=
 D4 (add64 a.2 b.2 (0:Int)) fun c=>
 D4 (add64 (u64.wrap a.1) (u64.wrap b.1) c.2) fun d=>
 some ((i64.wrap d.1),c.1)
instance H44 (a b:Ji): HE 44 [.dat T9 a,.dat T9 b] (f44 a b) (fun y=>[.raw true [(.d T0 y.1),(.d T8 y.2)]]):=hd Tryz.f44 rfl fun y q=>by
 unfold f44 at q
 exact gV
def f232_j1 (n:Int):Option (Sum Unit Unit):=
 bif (decide (n<1)) then
 some (Sum.inr ())
 else
 bif (decide (n>126)) then
 some (Sum.inr ())
 else
 some (Sum.inl ())
def f232_j2 (a:PTz4):Option Bool:=
 bif (decide (a.2.2.1>9223372036854775808)) then
 some true
 else
 bif (a.2.2.1==9223372036854775808) then
 bif (decide (a.2.2.2>0)) then
 some true
 else
 some ((Fv IntKind.u64 (fun p q=>p&&& q) a.2.1 (1:Int))==1)
 else
 some false
def f232 (a:Ji) (n:Int):Option Ji:=
 D4 (f232_j1 n) fun h=>
 F5 h (fun g=>
 D4 (f241 (a.1,a.2) n) fun b=>
 D4 (f232_j2 b) fun i=>
 bif i then
 D4 (f45 (1:Int)) fun c=>
 D4 (f44 (b.1,b.2.1) (c.1,c.2)) fun d=>
 some (d.1,d.2)
 else
 some (b.1,b.2.1)) (fun e=>
 some (a.1,a.2))
instance H232 (a:Ji) (n:Int): HE 232 [.dat T9 a,.dat T0 n] (f232 a n) (fun y=>[.raw true [(.d T0 y.1),(.d T8 y.2)]]):=hd Tryz.f232 rfl fun y q=>by
 unfold f232 at q
 refine OL ?_
 obtain ⟨k,j,q⟩:=bE q
 refine OQ ⟨Sum.elim (fun i=>[(0,⟨[(1,.dat T0 n),(2,P0 0 0),(4,P0 1 0)],[(0,.cells [(.d T0 a.1),(.d T8 a.2)]),(1,.cells [(.d T0 (0:Int)),(.d T8 (0:Int))])],2⟩)]) (fun d=>[(1,⟨[(4,P0 0 0)],[(0,.cells [(.d T0 a.1),(.d T8 a.2)])],1⟩)]) k,?_,?_⟩
 ·have q:=j
  unfold f232_j1 at q
  exact gV
 rcases k with i | d
 ·dsimp only [F5] at q
  refine AI (OL ?_) TV
  obtain ⟨b,h,q⟩:=bE q
  refine cL h gW ?_
  refine R4 (AI (lQ rfl) (R2 (AI TV (AI TV (OL (OL ?_))))))
  obtain ⟨l,c,q⟩:=bE q
  refine OQ ⟨[(0,⟨[(4,P0 0 0),(5,P0 1 0),(37,.dat .bool l)],[(0,.cells [(.d T0 (0:Int)),(.d T8 (0:Int))]),(1,.cells [(.d T0 b.1),(.d T8 b.2.1)])],2⟩)],?_,?_⟩
  ·have q:=c
   unfold f232_j2 at q
   exact gV
  exact gV
 exact gV
def f190_j3 (a:Ji):Option Bool:=
 bif (decide (a.1>0)) then
 some true
 else
 bif (a.1==0) then
 some (decide (a.2≥9223372036854775808))
 else
 some false
def f190_j2 (a:Ji):Option (Sum Unit Int):=
 D4 (f190_j3 a) fun b=>
 bif b then
 some (Sum.inr (9223372036854775807:Int))
 else
 bif (decide (a.1<(-1:Int))) then
 some (Sum.inr (-9223372036854775808:Int))
 else
 bif (a.1==(-1:Int)) then
 bif (decide (a.2<9223372036854775808)) then
 some (Sum.inr (-9223372036854775808:Int))
 else
 some (Sum.inl ())
 else
 some (Sum.inl ())
def f190 (a:Ji):Option Int:=
 D4 (f190_j2 a) fun d=>
 F5 d (fun c=>
 some (i64.wrap a.2)) (fun b=>
 some b)
instance H190 (a:Ji): HE 190 [.dat T9 a] (f190 a) (fun y=>[.dat T0 y]):=hd Tryz.f190 rfl fun y q=>by
 unfold f190 at q
 refine OL ?_
 obtain ⟨j,b,q⟩:=bE q
 refine OQ ⟨Sum.elim (fun d=>[(0,⟨[(1,P0 0 0)],[(0,.cells [(.d T0 a.1),(.d T8 a.2)])],1⟩)]) (fun c=>[(1,⟨[(2,.dat T0 c)],[],0⟩)]) j,?_,?_⟩
 ·have q:=b
  clear b
  unfold f190_j2 at q
  obtain ⟨k,i,q⟩:=bE q
  refine OQ ⟨[(0,⟨[(1,P0 0 0),(3,.dat .bool k)],[(0,.cells [(.d T0 a.1),(.d T8 a.2)])],1⟩)],?_,?_⟩
  ·have q:=i
   unfold f190_j3 at q
   exact gV
  exact gV
 rcases j with d | c
 ·exact gV
 exact gV
def f212 (c a b n:Int):Option PTz4:=
 bif (c==(Int.fdiv a (2 ^ min (Int.toNat (63:Int)) i64.bits))) then
 D4 (f232 (a,b) n) fun d=>
 D4 (f190 (d.1,d.2)) fun e=>
 some (e,c,a,b)
 else
 bif (decide (c<0)) then
 some ((-9223372036854775808:Int),c,a,b)
 else
 some ((9223372036854775807:Int),c,a,b)
instance H212 (d c b n:Int): HF 212 [P0 0 0,.dat T0 n] [(0,.cells [(.d T0 d),(.d T0 c),(.d T8 b)])] 1 (f212 d c b n) (fun y=>[.dat T0 y.1]) (fun y=>[(0,.cells [(.d T0 y.2.1),(.d T0 y.2.2.1),(.d T8 y.2.2.2)])]) 1:=hd Tryz.f212 rfl fun y q=>by
 unfold f212 at q
 refine OL (OL (OL (EI (tU 0 12 .done) (EI [] (EI [] (AI rfl (AI (by decide) ?_)))))))
 exact gV
def f227_l1 (a b:LI) (i:PTz4→Option PTz15) (c e h g:Int):Option PTz15:=
 bif (decide (c<(if (b.length:Int)<a.length then (b.length:Int) else (a.length:Int)))) then
 Ey (0≤c∧c<a.length)<|
 Ey (0≤c∧c<b.length)<|
 D4 (f211 e h g (rd 0 a c) (rd 0 b c)) fun d=>
 i ((i64.wrap (c+1)),d.1,d.2.1,d.2.2)
 else
 some (e,h,g)
def f227 (a b:LI):Option Int:=
 D4 (Fp (fun e x=>f227_l1 a b e x.1 x.2.1 x.2.2.1 x.2.2.2) Fq ((0:Int),(0:Int),(0:Int),(0:Int))) fun c=>
 D4 (f212 c.1 c.2.1 c.2.2 (32:Int)) fun d=>
 some d.1
instance H227 (a b:LI): HE 227 [.dat T4 a,.dat T4 b] (f227 a b) (fun y=>[.dat T0 y]):=hd Tryz.f227 rfl fun y q=>by
 unfold f227 at q
 refine OL (OL (OL (OL ?_)))
 obtain ⟨k,h,q⟩:=bE q
 refine lJ h (fun x=>⟨[(0,.dat T4 a),(1,.dat T4 b),(5,P0 0 0),(11,.dat T0 (if (b.length:Int)<a.length then (b.length:Int) else (a.length:Int))),(12,.dat T0 x.1)],[(0,.cells [(.d T0 x.2.1),(.d T0 x.2.2.1),(.d T8 x.2.2.2)])],1⟩) (fun z=>[(2,⟨[(5,P0 0 0)],[(0,.cells [(.d T0 z.1),(.d T0 z.2.1),(.d T8 z.2.2)])],1⟩)]) gV (fun m=>F3 (fun j=>F3 (fun c=>F3 (fun i=>fun d z q=>?_)))) ?_
 ·have q:f227_l1 a b _ j c i d=some z:=q
  unfold f227_l1 at q
  exact gV
 exact gV
def f200_j4 (a b:Fz):Option Bool:=
 D4 (f113 (a.1,a.2)) fun d=>
 bif (!d) then
 some true
 else
 D4 (f113 (b.1,b.2)) fun c=>
 some (!c)
def f200_j5 (a b:Fz):Option Bool:=
 D4 (f201 (a.1,a.2)) fun d=>
 bif (!d) then
 some true
 else
 D4 (f201 (b.1,b.2)) fun c=>
 bif (!c) then
 some true
 else
 Ey (0≤(1:Int)∧1<(a.1.length:Int))<|
 Ey (0≤(0:Int)∧0<(b.1.length:Int))<|
 some ((rd 0 a.1 1) != (rd 0 b.1 0))
def f200_j3 (a b:Fz):Option (Sum Unit Int):=
 D4 (f200_j4 a b) fun d=>
 bif d then
 some (Sum.inr (1:Int))
 else
 D4 (f200_j5 a b) fun c=>
 bif c then
 some (Sum.inr (4:Int))
 else
 some (Sum.inl ())
def f200_l9 (a b:Fz) (h:Jn) (d:Int) (i:Jy→Option LI) (c:Int) (e:LI):Option LI:=
 bif (decide (c<(rd 0 b.1 1))) then
 Ey (0≤(i64.wrap (d*(rd 0 a.1 1)))∧(i64.wrap (d*(rd 0 a.1 1)))≤(i64.wrap ((i64.wrap (d+1))*(rd 0 a.1 1)))∧(i64.wrap ((i64.wrap (d+1))*(rd 0 a.1 1)))≤a.2.length)<|
 Ey (0≤(i64.wrap (c*(rd 0 a.1 1)))∧(i64.wrap (c*(rd 0 a.1 1)))≤(i64.wrap ((i64.wrap (c+1))*(rd 0 a.1 1)))∧(i64.wrap ((i64.wrap (c+1))*(rd 0 a.1 1)))≤h.2.2.length)<|
 D4 (f227 (List.drop (Int.toNat (i64.wrap (d*(rd 0 a.1 1)))) (List.take (Int.toNat (i64.wrap ((i64.wrap (d+1))*(rd 0 a.1 1)))) a.2)) (List.drop (Int.toNat (i64.wrap (c*(rd 0 a.1 1)))) (List.take (Int.toNat (i64.wrap ((i64.wrap (c+1))*(rd 0 a.1 1)))) h.2.2))) fun g=>
 Ey (0≤(i64.wrap ((i64.wrap (d*(rd 0 b.1 1)))+c))∧(i64.wrap ((i64.wrap (d*(rd 0 b.1 1)))+c))<e.length)<|
 i ((i64.wrap (c+1)),(List.set e (Int.toNat (i64.wrap ((i64.wrap (d*(rd 0 b.1 1)))+c))) g))
 else
 some e
def f200_l8 (a b:Fz) (e:Jn) (g:Jy→Option LI) (c:Int) (h:LI):Option LI:=
 bif (decide (c<(rd 0 a.1 0))) then
 D4 (Fp (fun g x=>f200_l9 a b e c g x.1 x.2) Fq ((0:Int),h)) fun d=>
 g ((i64.wrap (c+1)),d)
 else
 some h
def f200 (a b:Fz):Option Jn:=
 D4 (f200_j3 a b) fun j=>
 F5 j (fun i=>
 Ey (0≤(0:Int)∧0<(a.1.length:Int))<|
 Ey (0≤(1:Int)∧1<(a.1.length:Int))<|
 Ey (0≤(1:Int)∧1<(b.1.length:Int))<|
 D4 (f73 ([(rd 0 a.1 0),(rd 0 b.1 1)]) (0:Int)) fun c=>
 bif (c.1 != 0) then
 some ((2:Int),[],[])
 else
 D4 (f165 (b.1,b.2)) fun d=>
 D4 (Fp (fun h x=>f200_l8 a b d h x.1 x.2) Fq ((0:Int),c.2.2)) fun e=>
 some ((0:Int),c.2.1,e)) (fun g=>
 some (g,[],[]))
instance H200 (a b:Fz): HF 200 [.dat T7 a,.dat T7 b] [] 0 (f200 a b) (fun y=>[.raw true [(.osl 0),(.osl 1)],.dat T0 y.1]) (fun y=>[(0,.arr 3 T0 y.2.1),(1,.arr 35 T0 y.2.2)]) 2:=hd Tryz.f200 rfl fun y q=>by
 unfold f200 at q
 refine OL ?_
 obtain ⟨z6,l,q⟩:=bE q
 let v:LE:=fun j=>(2,P0 0 0)::(3,P0 1 0)::(4,P0 2 0)::j
 let h1:LH:=fun j=>(0,.cells [(.d T4 a.1),(.d T4 a.2)])::j
 let h2:LH:=fun j=>h1 ((1,.cells [(.d T4 b.1),(.d T4 b.2)])::(2,.cells [N0,N0])::j)
 refine OQ ⟨Sum.elim (fun w=>[(0,⟨v [],h2 [],3⟩)]) (fun p=>[(1,⟨[(4,P0 0 0),(5,.dat T0 p)],[(0,.cells [N0,N0])],1⟩)]) z6,?_,?_⟩
 ·have q:=l
  clear l
  unfold f200_j3 at q
  obtain ⟨z8,u,q⟩:=bE q
  refine OQ ⟨[(0,⟨v [(15,.dat .bool z8)],h2 [],3⟩)],?_,?_⟩
  ·have q:=u
   unfold f200_j4 at q
   exact gV
  refine AI (cI q (fun q=>?_) (fun q=>?_)) TV
  ·exact gV
  obtain ⟨b0,n,q⟩:=bE q
  refine OQ ⟨[(0,⟨v [(25,.dat .bool b0)],h2 [],3⟩)],?_,?_⟩
  ·have q:=n
   unfold f200_j5 at q
   exact gV
  exact gV
 rcases z6 with w | p
 ·dsimp only [F5] at q
  refine AI (OL (EI (tU 0 15 .done) (EI [] (EI [] (AI rfl (gI q (fun q=>?_))))))) TV
  refine gI q (fun q=>?_)
  refine gI q (fun q=>?_)
  refine OL (OL ?_)
  obtain ⟨d,h,q⟩:=bE q
  refine cL h gW ?_
  refine R3 (AI (lQ rfl) (R2 (AI TV (AI TV (OL (OL (OL (cI q (fun q=>?_) (fun q=>?_)))))))))
  ·exact gV
  refine OL ?_
  obtain ⟨c,h,q⟩:=bE q
  refine cL h gW ?_
  refine R3 (AI (lQ rfl) (R2 (AI TV (AI TV (OL (OL (OL ?_)))))))
  obtain ⟨b3,k,q⟩:=bE q
  let t:LE:=fun j=>(2,P0 0 0)::(4,P0 1 0)::(7,.dat T0 (rd 0 a.1 1))::(8,.dat T0 (rd 0 b.1 1))::(9,P0 2 0)::(11,P0 3 0)::j
  let s:LH:=fun j=>h1 ((1,.cells [N0,N0])::(2,.cells [(.osl 4),(.osl 5)])::(3,.cells [(.osl 6),(.d T4 c.2.2)])::(4,.arr 3 T0 d.2.1)::j)
  refine lJ k (fun x=>⟨t [(73,.dat T0 (rd 0 a.1 0)),(74,.dat T0 x.1)],s [(5,.arr 35 T0 x.2),(6,.arr 3 T0 c.2.1)],7⟩) (fun z=>[(3,⟨[(4,P0 0 0),(9,P0 1 0)],[(0,.cells [N0,N0]),(1,.cells [(.osl 2),(.osl 3)]),(2,.arr 3 T0 d.2.1),(3,.arr 35 T0 z)],4⟩)]) (EI [] (EI [] (EI [] (EI [8] (EI (iuR [1,3,7,10,5,6,8]) (R5 (AI (R4 TV) (R7 TV)))))))) (fun m=>F3 (fun i=>fun l5 z q=>?_)) ?_
  ·have q:f200_l8 a b c _ i l5=some z:=q
   unfold f200_l8 at q
   refine OL (OL (cI q (fun q=>?_) (fun q=>?_)))
   ·refine OL (OL (OL ?_))
    obtain ⟨b2,h,q⟩:=bE q
    refine lJ h (fun x=>⟨t [(13,.dat T0 i),(73,.dat T0 (rd 0 a.1 0)),(74,.dat T0 i),(77,.dat T0 (rd 0 b.1 1)),(78,.dat T0 x.1)],s [(5,.arr 35 T0 x.2),(6,.arr 3 T0 c.2.1)],7⟩) (fun z=>[(5,⟨t [(73,.dat T0 (rd 0 a.1 0)),(74,.dat T0 i)],s [(5,.arr 35 T0 z),(6,.arr 3 T0 c.2.1)],7⟩)]) gV (fun m=>F3 (fun b1=>fun o z q=>?_)) ?_
    ·have q:f200_l9 a b c i _ b1 o=some z:=q
     unfold f200_l9 at q
     exact gV
    exact gV
   exact gV
  exact gV
 exact gV
def f207 (a:Int):Option Bool:=
 bif (decide (a≥1)) then
 some (decide (a≤64))
 else
 some false
instance H207 (b:Int): HE 207 [.dat T0 b] (f207 b) (fun y=>[.dat .bool y]):=hd Tryz.f207 rfl fun y q=>by
 unfold f207 at q
 exact gV
def f209 (a c b:Int):Option Int:=
 bif (decide (c>a)) then
 some (0:Int)
 else
 Ey (b≠0)<|
 some (i64.wrap ((i64.wrap (Int.tdiv (i64.wrap (a-c)) b))+1))
instance H209 (b c d:Int): HE 209 [.dat T0 b,.dat T0 c,.dat T0 d] (f209 b c d) (fun y=>[.dat T0 y]):=hd Tryz.f209 rfl fun y q=>by
 unfold f209 at q
 exact gV
def f210 (d:LI):Option Jn:=
 D4 (f73 d (0:Int)) fun a=>
 bif (a.1 != 0) then
 some ((2:Int),[],[])
 else
 some ((0:Int),a.2.1,a.2.2)
instance H210 (d:LI): HF 210 [.dat T4 d] [] 0 (f210 d) (fun y=>[.raw true [(.osl 0),(.osl 1)],.dat T0 y.1]) (fun y=>[(0,.arr 3 T0 y.2.1),(1,.arr 35 T0 y.2.2)]) 2:=hd Tryz.f210 rfl fun y q=>by
 unfold f210 at q
 exact gV
def f219_j4 (a k:Fz) (b:Int):Option Bool:=
 D4 (f113 (a.1,a.2)) fun c=>
 bif (!c) then
 some true
 else
 D4 (f113 (k.1,k.2)) fun d=>
 bif (!d) then
 some true
 else
 D4 (f207 b) fun e=>
 some (!e)
def f219_j5 (a k:Fz):Option Bool:=
 bif ((a.1.length:Int) != 2) then
 some true
 else
 bif ((k.1.length:Int) != 3) then
 some true
 else
 Ey (0≤(1:Int)∧1<(k.1.length:Int))<|
 Ey (0≤(0:Int)∧0<(a.1.length:Int))<|
 bif ((rd 0 k.1 1) != (rd 0 a.1 0)) then
 some true
 else
 Ey (0≤(2:Int)∧2<(k.1.length:Int))<|
 Ey (0≤(1:Int)∧1<(a.1.length:Int))<|
 some (decide ((rd 0 k.1 2)>(rd 0 a.1 1)))
def f219_j3 (a k:Fz) (b:Int):Option (Sum Unit Int):=
 D4 (f219_j4 a k b) fun c=>
 bif c then
 some (Sum.inr (1:Int))
 else
 D4 (f219_j5 a k) fun d=>
 bif d then
 some (Sum.inr (4:Int))
 else
 some (Sum.inl ())
def f219_l18 (a k:Fz) (l b d e:Int) (m:PTz4→Option PTz15) (c j i h:Int):Option PTz15:=
 bif (decide (c<(rd 0 k.1 2))) then
 Ey (0≤(i64.wrap ((i64.wrap ((i64.wrap (e*(rd 0 a.1 1)))+(i64.wrap ((Int.tmod d b)*l))))+c))∧(i64.wrap ((i64.wrap ((i64.wrap (e*(rd 0 a.1 1)))+(i64.wrap ((Int.tmod d b)*l))))+c))<a.2.length)<|
 Ey (0≤(i64.wrap ((i64.wrap ((i64.wrap ((i64.wrap ((i64.wrap (Int.tdiv d b))*(rd 0 a.1 0)))+e))*(rd 0 k.1 2)))+c))∧(i64.wrap ((i64.wrap ((i64.wrap ((i64.wrap ((i64.wrap (Int.tdiv d b))*(rd 0 a.1 0)))+e))*(rd 0 k.1 2)))+c))<k.2.length)<|
 D4 (f211 j i h (rd 0 a.2 (i64.wrap ((i64.wrap ((i64.wrap (e*(rd 0 a.1 1)))+(i64.wrap ((Int.tmod d b)*l))))+c))) (rd 0 k.2 (i64.wrap ((i64.wrap ((i64.wrap ((i64.wrap ((i64.wrap (Int.tdiv d b))*(rd 0 a.1 0)))+e))*(rd 0 k.1 2)))+c)))) fun g=>
 m ((i64.wrap (c+1)),g.1,g.2.1,g.2.2)
 else
 some (j,i,h)
def f219_l17 (a k:Fz) (j g i:Int) (l:PTz4→Option PTz15) (b e c d:Int):Option PTz15:=
 bif (decide (b<(rd 0 a.1 0))) then
 D4 (Fp (fun l x=>f219_l18 a k j g i b l x.1 x.2.1 x.2.2.1 x.2.2.2) Fq ((0:Int),e,c,d)) fun h=>
 l ((i64.wrap (b+1)),h.1,h.2.1,h.2.2)
 else
 some (e,c,d)
def f219_l14 (a k:Fz) (g c:Int) (j:Jn) (i:Jy→Option LI) (b:Int) (h:LI):Option LI:=
 bif (decide (b<j.2.2.length)) then
 Ey (c≠0)<|
 Ey (c≠0)<|
 D4 (Fp (fun i x=>f219_l17 a k g c b i x.1 x.2.1 x.2.2.1 x.2.2.2) Fq ((0:Int),(0:Int),(0:Int),(0:Int))) fun d=>
 D4 (f212 d.1 d.2.1 d.2.2 (32:Int)) fun e=>
 Ey (0≤b∧b<h.length)<|
 i ((i64.wrap (b+1)),(List.set h (Int.toNat b) e.1))
 else
 some h
def f219 (a k:Fz) (c:Int):Option Jn:=
 D4 (f219_j3 a k c) fun h=>
 F5 h (fun i=>
 Ey (0≤(0:Int)∧0<(a.1.length:Int))<|
 Ey (0≤(1:Int)∧1<(a.1.length:Int))<|
 Ey (0≤(2:Int)∧2<(k.1.length:Int))<|
 D4 (f209 (rd 0 a.1 1) (rd 0 k.1 2) c) fun b=>
 Ey (0≤(0:Int)∧0<(k.1.length:Int))<|
 D4 (f210 ([(rd 0 k.1 0),b])) fun d=>
 bif (d.1 != 0) then
 some (d.1,[],[])
 else
 D4 (Fp (fun j x=>f219_l14 a k c b d j x.1 x.2) Fq ((0:Int),d.2.2)) fun e=>
 some ((0:Int),d.2.1,e)) (fun g=>
 some (g,[],[]))
instance H219 (a k:Fz) (i:Int): HF 219 [.dat T7 a,.dat T7 k,.dat T0 i] [] 0 (f219 a k i) (fun y=>[.raw true [(.osl 0),(.osl 1)],.dat T0 y.1]) (fun y=>[(0,.arr 3 T0 y.2.1),(1,.arr 35 T0 y.2.2)]) 2:=hd Tryz.f219 rfl fun y q=>by
 unfold f219 at q
 refine OL ?_
 obtain ⟨z8,u,q⟩:=bE q
 let e0:LE:=fun l=>(2,.dat T0 i)::(3,P0 0 0)::(4,P0 1 0)::(6,P0 2 0)::l
 let h1:LH:=fun l=>(0,.cells [(.d T4 a.1),(.d T4 a.2)])::(1,.cells [(.d T4 k.1),(.d T4 k.2)])::(2,.cells [N0,N0])::l
 refine OQ ⟨Sum.elim (fun b6=>[(0,⟨e0 [],h1 [],3⟩)]) (fun b0=>[(1,⟨[(6,P0 0 0),(7,.dat T0 b0)],[(0,.cells [N0,N0])],1⟩)]) z8,?_,?_⟩
 ·have q:=u
  clear u
  unfold f219_j3 at q
  obtain ⟨b5,t,q⟩:=bE q
  refine OQ ⟨[(0,⟨e0 [(20,.dat .bool b5)],h1 [],3⟩)],?_,?_⟩
  ·have q:=t
   unfold f219_j4 at q
   exact gV
  refine AI (cI q (fun q=>?_) (fun q=>?_)) TV
  ·exact gV
  obtain ⟨b7,w,q⟩:=bE q
  refine OQ ⟨[(0,⟨e0 [(35,.dat .bool b7)],h1 [],3⟩)],?_,?_⟩
  ·have q:=w
   unfold f219_j5 at q
   exact gV
  exact gV
 rcases z8 with b6 | b0
 ·dsimp only [F5] at q
  refine AI (OL (EI (tU 0 15 .done) (EI [] (EI [] (AI rfl (gI q (fun q=>?_))))))) TV
  refine gI q (fun q=>?_)
  refine gI q (fun q=>?_)
  refine OL ?_
  obtain ⟨c,h,q⟩:=bE q
  refine cL h gW ?_
  refine R4 (AI (lQ rfl) (R2 (AI TV (AI TV (OL (gI q (fun q=>?_)))))))
  refine OL ?_
  obtain ⟨d,h,q⟩:=bE q
  refine cL h gW ?_
  refine R2 (AI (lQ rfl) (R2 (AI TV (AI TV (OL (OL (OL (cI q (fun q=>?_) (fun q=>?_)))))))))
  ·exact gV
  refine OL (OL ?_)
  obtain ⟨b9,s,q⟩:=bE q
  let e2:LE:=fun l=>e0 ((8,.dat T0 (rd 0 a.1 0))::(9,.dat T0 (rd 0 a.1 1))::(10,.dat T0 (rd 0 k.1 2))::(11,.dat T0 c)::(12,P0 3 0)::l)
  refine lJ s (fun x=>⟨e2 [(101,.dat T0 (d.2.2.length:Int)),(102,.dat T0 x.1)],h1 [(3,.cells [(.osl 4),(.osl 5)]),(4,.arr 3 T0 d.2.1),(5,.arr 35 T0 x.2)],6⟩) (fun z=>[(3,⟨[(6,P0 0 0),(12,P0 1 0)],[(0,.cells [N0,N0]),(1,.cells [(.osl 2),(.osl 3)]),(2,.arr 3 T0 d.2.1),(3,.arr 35 T0 z)],4⟩)]) gV (fun m=>F3 (fun b=>fun l5 z q=>?_)) ?_
  ·have q:f219_l14 a k i c d _ b l5=some z:=q
   unfold f219_l14 at q
   refine OL (OL (cI q (fun q=>?_) (fun q=>?_)))
   ·refine OL (OL (OL (EI (tU 0 8 .done) (EI [] (EI [] (AI rfl (gI q (fun q=>?_))))))))
    refine gI q (fun q=>?_)
    refine OL (OL (OL ?_))
    obtain ⟨b8,b3,q⟩:=bE q
    let e3:LE:=fun l=>e2 ((14,.dat T0 b)::l)
    let e4:LE:=fun l=>e3 ((15,.dat T0 (i64.wrap (Int.tdiv b c)))::(16,.dat T0 (Int.tmod b c))::(17,P0 4 0)::l)
    let e5:LE:=fun l=>e4 ((101,.dat T0 (d.2.2.length:Int))::(102,.dat T0 b)::(111,.dat T0 (rd 0 a.1 0))::l)
    let h6:LH:=fun l=>h1 ((3,.cells [(.osl 5),(.osl 6)])::l)
    refine lJ b3 (fun x=>⟨e5 [(112,.dat T0 x.1)],h6 [(4,.cells [(.d T0 x.2.1),(.d T0 x.2.2.1),(.d T8 x.2.2.2)]),(5,.arr 3 T0 d.2.1),(6,.arr 35 T0 l5)],7⟩) (fun z=>[(5,⟨e3 [(17,P0 4 0),(101,.dat T0 (d.2.2.length:Int)),(102,.dat T0 b)],h6 [(4,.cells [(.d T0 z.1),(.d T0 z.2.1),(.d T8 z.2.2)]),(5,.arr 3 T0 d.2.1),(6,.arr 35 T0 l5)],7⟩)]) gV (fun m=>F3 (fun j=>F3 (fun v=>F3 (fun b1=>fun b2 z q=>?_)))) ?_
    ·have q:f219_l17 a k i c b _ j v b1 b2=some z:=q
     unfold f219_l17 at q
     refine OL (OL (cI q (fun q=>?_) (fun q=>?_)))
     ·refine OL (OL (OL ?_))
      obtain ⟨c0,h,q⟩:=bE q
      refine lJ h (fun x=>⟨e4 [(18,.dat T0 j),(101,.dat T0 (d.2.2.length:Int)),(102,.dat T0 b),(111,.dat T0 (rd 0 a.1 0)),(112,.dat T0 j),(115,.dat T0 (rd 0 k.1 2)),(116,.dat T0 x.1)],h6 [(4,.cells [(.d T0 x.2.1),(.d T0 x.2.2.1),(.d T8 x.2.2.2)]),(5,.arr 3 T0 d.2.1),(6,.arr 35 T0 l5)],7⟩) (fun z=>[(7,⟨e5 [(112,.dat T0 j)],h6 [(4,.cells [(.d T0 z.1),(.d T0 z.2.1),(.d T8 z.2.2)]),(5,.arr 3 T0 d.2.1),(6,.arr 35 T0 l5)],7⟩)]) gV (fun m=>F3 (fun b4=>F3 (fun o=>F3 (fun p=>fun n z q=>?_)))) ?_
      ·have q:f219_l18 a k i c b j _ b4 o p n=some z:=q
       unfold f219_l18 at q
       exact gV
      exact gV
     exact gV
    exact gV
   exact gV
  exact gV
 exact gV
def f195 (c:Int) (a b:Fz) (k:Int):Option Jn:=
 bif (c==2) then
 D4 (f117 (a.1,a.2) (b.1,b.2)) fun g=>
 some (g.1,g.2.1,g.2.2)
 else
 bif (c==3) then
 D4 (f218 (a.1,a.2) (b.1,b.2)) fun d=>
 some (d.1,d.2.1,d.2.2)
 else
 bif (c==4) then
 D4 (f161 (a.1,a.2) (b.1,b.2)) fun i=>
 some (i.1,i.2.1,i.2.2)
 else
 bif (c==6) then
 D4 (f200 (a.1,a.2) (b.1,b.2)) fun e=>
 some (e.1,e.2.1,e.2.2)
 else
 D4 (f219 (a.1,a.2) (b.1,b.2) k) fun h=>
 some (h.1,h.2.1,h.2.2)
instance H195 (c:Int) (a b:Fz) (k:Int): HF 195 [.dat T0 c,.dat T7 a,.dat T7 b,.dat T0 k] [] 0 (f195 c a b k) (fun y=>[.raw true [(.osl 0),(.osl 1)],.dat T0 y.1]) (fun y=>[(0,.arr 3 T0 y.2.1),(1,.arr 35 T0 y.2.2)]) 2:=hd Tryz.f195 rfl fun y q=>by
 unfold f195 at q
 exact gV
def f163_l1 (k:Int) (d:Fz) (e:Jy→Option LI) (a:Int) (b:LI):Option LI:=
 bif (decide (a<d.2.length)) then
 Ey (0≤a∧a<b.length)<|
 D4 (f88 (rd 0 b a) k) fun c=>
 Ey (0≤a∧a<b.length)<|
 e ((i64.wrap (a+1)),(List.set b (Int.toNat a) c))
 else
 some b
def f163 (a:Fz) (k:Int):Option Jn:=
 D4 (f113 (a.1,a.2)) fun b=>
 bif (!b) then
 some ((1:Int),[],[])
 else
 D4 (f112 (a.1,a.2)) fun c=>
 D4 (Fp (fun d x=>f163_l1 k c d x.1 x.2) Fq ((0:Int),c.2)) fun e=>
 some ((0:Int),c.1,e)
instance H163 (a:Fz) (k:Int): HF 163 [.dat T7 a,.dat T0 k] [] 0 (f163 a k) (fun y=>[.raw true [(.osl 0),(.osl 1)],.dat T0 y.1]) (fun y=>[(0,.arr 3 T0 y.2.1),(1,.arr 35 T0 y.2.2)]) 2:=hd Tryz.f163 rfl fun y q=>by
 unfold f163 at q
 refine OL (OL (OL ?_))
 obtain ⟨d,h,q⟩:=bE q
 refine cL h gW ?_
 refine R3 (AI (lQ rfl) (R2 (AI TV (AI TV (cI q (fun q=>?_) (fun q=>?_))))))
 ·exact gV
 refine OL ?_
 obtain ⟨b,h,q⟩:=bE q
 refine cL h gW ?_
 refine R3 (AI (lQ rfl) (R2 (AI TV (AI TV (OL (OL (OL ?_)))))))
 obtain ⟨j,h,q⟩:=bE q
 refine lJ h (fun x=>⟨[(1,.dat T0 k),(4,P0 0 0),(6,P0 1 0),(16,O0 2),(17,.dat T0 (b.2.length:Int)),(18,.dat T0 x.1)],[(0,.cells [N0,N0]),(1,.cells [(.osl 3),(.osl 2)]),(2,.arr 35 T0 x.2),(3,.arr 3 T0 b.1)],4⟩) (fun z=>[(2,⟨[(4,P0 0 0),(6,P0 1 0)],[(0,.cells [N0,N0]),(1,.cells [(.osl 2),(.osl 3)]),(2,.arr 3 T0 b.1),(3,.arr 35 T0 z)],4⟩)]) gV (fun m=>F3 (fun c=>fun i z q=>?_)) ?_
 ·have q:f163_l1 k b _ c i=some z:=q
  unfold f163_l1 at q
  exact gV
 exact gV
def f220_j3 (a:Fz) (b:Int):Option Bool:=
 D4 (f113 (a.1,a.2)) fun c=>
 bif (!c) then
 some true
 else
 bif (decide (b<0)) then
 some true
 else
 some (decide (b≥a.1.length))
def f220_j2 (a:Fz) (c:Int):Option (Sum Unit Unit):=
 D4 (f220_j3 a c) fun b=>
 bif b then
 some (Sum.inr ())
 else
 some (Sum.inl ())
def f220_l4 (a:Fz) (c:Int) (d:LI) (i:(Int×LTz2)→Option LTz2) (b:Int) (h:LTz2):Option LTz2:=
 bif (decide (b<a.2.length)) then
 Ey (0≤b∧b<a.2.length)<|
 Ey (0≤c∧c<a.1.length)<|
 Ey ((i64.wrap ((rd 0 d c)*(rd 0 a.1 c)))≠0)<|
 Ey ((rd 0 d c)≠0)<|
 Ey (0≤(i64.wrap ((i64.wrap ((i64.wrap (Int.tdiv b (i64.wrap ((rd 0 d c)*(rd 0 a.1 c)))))*(rd 0 d c)))+(Int.tmod b (rd 0 d c))))∧(i64.wrap ((i64.wrap ((i64.wrap (Int.tdiv b (i64.wrap ((rd 0 d c)*(rd 0 a.1 c)))))*(rd 0 d c)))+(Int.tmod b (rd 0 d c))))<h.length)<|
 D4 (f45 (rd 0 a.2 b)) fun g=>
 D4 (f44 ((rd (Ty.z T9) h (i64.wrap ((i64.wrap ((i64.wrap (Int.tdiv b (i64.wrap ((rd 0 d c)*(rd 0 a.1 c)))))*(rd 0 d c)))+(Int.tmod b (rd 0 d c))))).1,(rd (Ty.z T9) h (i64.wrap ((i64.wrap ((i64.wrap (Int.tdiv b (i64.wrap ((rd 0 d c)*(rd 0 a.1 c)))))*(rd 0 d c)))+(Int.tmod b (rd 0 d c))))).2) (g.1,g.2)) fun e=>
 Ey (0≤(i64.wrap ((i64.wrap ((i64.wrap (Int.tdiv b (i64.wrap ((rd 0 d c)*(rd 0 a.1 c)))))*(rd 0 d c)))+(Int.tmod b (rd 0 d c))))∧(i64.wrap ((i64.wrap ((i64.wrap (Int.tdiv b (i64.wrap ((rd 0 d c)*(rd 0 a.1 c)))))*(rd 0 d c)))+(Int.tmod b (rd 0 d c))))<h.length)<|
 i ((i64.wrap (b+1)),(List.set h (Int.toNat (i64.wrap ((i64.wrap ((i64.wrap (Int.tdiv b (i64.wrap ((rd 0 d c)*(rd 0 a.1 c)))))*(rd 0 d c)))+(Int.tmod b (rd 0 d c))))) (e.1,e.2)))
 else
 some h
def f220_l5 (c:LTz2) (e:Jy→Option LI) (a:Int) (d:LI):Option LI:=
 bif (decide (a<c.length)) then
 Ey (0≤a∧a<c.length)<|
 D4 (f190 ((rd (Ty.z T9) c a).1,(rd (Ty.z T9) c a).2)) fun b=>
 Ey (0≤a∧a<d.length)<|
 e ((i64.wrap (a+1)),(List.set d (Int.toNat a) b))
 else
 some d
def f220 (a:Fz) (c:Int):Option Jn:=
 D4 (f220_j2 a c) fun k=>
 F5 k (fun l=>
 Ey (0≤c∧c≤a.1.length)<|
 Ey (0≤(i64.wrap (c+1))∧(i64.wrap (c+1))≤a.1.length)<|
 Ey ((List.length ([]:LI)+List.length (List.take (Int.toNat c) a.1))*8≤140737488355328)<|
 Ey ((List.length (([]:LI)++(List.take (Int.toNat c) a.1))+List.length (List.drop (Int.toNat (i64.wrap (c+1))) a.1))*8≤140737488355328)<|
 D4 (f110 ((([]:LI)++(List.take (Int.toNat c) a.1))++(List.drop (Int.toNat (i64.wrap (c+1))) a.1))) fun b=>
 Ey (0≤b∧b≤b∧Int.toNat b*16≤140737488355328)<|
 D4 (f226 a.1) fun g=>
 Ey (0≤c∧c<g.length)<|
 D4 (Fp (fun e x=>f220_l4 a c g e x.1 x.2) Fq ((0:Int),(List.replicate (Int.toNat b) (Ty.z T9)))) fun i=>
 D4 (f73 ((([]:LI)++(List.take (Int.toNat c) a.1))++(List.drop (Int.toNat (i64.wrap (c+1))) a.1)) (0:Int)) fun d=>
 D4 (Fp (fun e x=>f220_l5 i e x.1 x.2) Fq ((0:Int),d.2.2)) fun h=>
 some ((0:Int),d.2.1,h)) (fun j=>
 some ((1:Int),[],[]))
instance H220 (a:Fz) (c:Int): HF 220 [.dat T7 a,.dat T0 c] [] 0 (f220 a c) (fun y=>[.raw true [(.osl 0),(.osl 1)],.dat T0 y.1]) (fun y=>[(0,.arr 3 T0 y.2.1),(1,.arr 35 T0 y.2.2)]) 2:=hd Tryz.f220 rfl fun y q=>by
 unfold f220 at q
 refine OL ?_
 obtain ⟨v,d,q⟩:=bE q
 let j:LE:=fun k=>(1,.dat T0 c)::(2,P0 0 0)::(4,P0 1 0)::k
 let s:LH:=fun k=>(0,.cells [(.d T4 a.1),(.d T4 a.2)])::(1,.cells [N0,N0])::k
 refine OQ ⟨Sum.elim (fun p=>[(0,⟨j [],s [],2⟩)]) (fun i=>[(1,⟨[(4,P0 0 0),(5,D0 1)],[(0,.cells [N0,N0])],1⟩)]) v,?_,?_⟩
 ·have q:=d
  clear d
  unfold f220_j2 at q
  obtain ⟨z5,t,q⟩:=bE q
  refine OQ ⟨[(0,⟨j [(29,.dat .bool z5)],s [],2⟩)],?_,?_⟩
  ·have q:=t
   unfold f220_j3 at q
   exact gV
  exact gV
 rcases v with p | i
 ·dsimp only [F5] at q
  refine AI (OL (EI (tU 1 4 (tU 6 5 (.alt 0 (.alt 5 (.alt 11 (.take 12 .done) .done) .done) .done))) (EI [] (EI [] (AI rfl (gI q (fun q=>?_))))))) TV
  refine gI q (fun q=>?_)
  refine AI TV (OL (AI TV (OL (gI q (fun q=>?_)))))
  refine AI TV (OL (gI q (fun q=>?_)))
  refine OL ?_
  obtain ⟨o,h,q⟩:=bE q
  refine cL h gW ?_
  refine R2 (AI (lQ rfl) (R2 (AI TV (AI TV (gI q (fun q=>?_))))))
  refine OL ?_
  obtain ⟨w,h,q⟩:=bE q
  refine cL h gW ?_
  refine R2 (AI (lQ rfl) (R2 (AI TV (AI TV (gI q (fun q=>?_))))))
  refine OL (OL ?_)
  obtain ⟨n,h,q⟩:=bE q
  refine lJ h (fun x=>⟨j [(6,O0 2),(7,O0 3),(8,.dat T0 (rd 0 w c)),(53,.dat T4 a.2),(54,.dat T0 (a.2.length:Int)),(55,.dat T0 x.1)],s [(2,.arr 3 T0 ((([]:LI)++(List.take (Int.toNat c) a.1))++(List.drop (Int.toNat (i64.wrap (c+1))) a.1))),(3,.arr 53 T9 x.2)],4⟩) (fun z=>[(2,⟨[(4,P0 0 0),(6,O0 1),(7,O0 2)],[(0,.cells [N0,N0]),(1,.arr 3 T0 ((([]:LI)++(List.take (Int.toNat c) a.1))++(List.drop (Int.toNat (i64.wrap (c+1))) a.1))),(2,.arr 53 T9 z)],3⟩)]) gV (fun m=>F3 (fun u=>fun l3 z q=>?_)) ?_
  ·have q:f220_l4 a c w _ u l3=some z:=q
   unfold f220_l4 at q
   refine OL (OL (cI q (fun q=>?_) (fun q=>?_)))
   ·refine OL (OL (gI q (fun q=>?_)))
    refine OL (EI (tU 0 16 .done) (EI [] (EI [] (AI rfl (gI q (fun q=>?_))))))
    refine gI q (fun q=>?_)
    refine gI q (fun q=>?_)
    refine EI (tU 0 7 (.alt 7 (.alt 8 (.take 9 (.alt 10 .done .done)) .done) .done)) (EI [(10,[3])] (EI [] (AI rfl ?_)))
    exact gV
   exact gV
  refine AI (OL ?_) TV
  obtain ⟨b,h,q⟩:=bE q
  refine cL h gW ?_
  refine R3 (AI (lQ rfl) (R2 (AI TV (AI TV (OL (OL (OL ?_)))))))
  obtain ⟨z9,h,q⟩:=bE q
  refine lJ h (fun x=>⟨[(4,P0 0 0),(12,P0 1 0),(91,O0 2),(92,.dat T0 (n.length:Int)),(93,.dat T0 x.1)],[(0,.cells [N0,N0]),(1,.cells [(.osl 3),(.osl 4)]),(2,.arr 53 T9 n),(3,.arr 3 T0 b.2.1),(4,.arr 35 T0 x.2)],5⟩) (fun z=>[(4,⟨[(4,P0 0 0),(12,P0 1 0)],[(0,.cells [N0,N0]),(1,.cells [(.osl 2),(.osl 3)]),(2,.arr 3 T0 b.2.1),(3,.arr 35 T0 z)],4⟩)]) gV (fun m=>F3 (fun l=>fun l4 z q=>?_)) ?_
  ·have q:f220_l5 n _ l l4=some z:=q
   unfold f220_l5 at q
   exact gV
  exact gV
 exact gV
end Go.Proofs
