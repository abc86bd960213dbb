import Derived.Test.YtokgamncgleelaaGreatGradSaysS0
set_option linter.unusedVariables false
set_option maxRecDepth 100000
set_option maxHeartbeats 8000000
namespace Go.Proofs
open Go.AM
open IntKind (i64 u64 i32 u32 i16 u16 i8 u8)
def f238_l1 (v:LI) (g:PTz15→Option Ji) (e c a:Int):Option Ji:=
 bif (decide (e<v.length)) then
 Ey (0≤e∧e<v.length)<|
 D4 (f45 (rd 0 v e)) fun b=>
 D4 (f44 (c,a) (b.1,b.2)) fun d=>
 g ((i64.wrap (e+1)),d.1,d.2)
 else
 some (c,a)
def f238 (v:LI):Option Ji:=
 D4 (Fp (fun b x=>f238_l1 v b x.1 x.2.1 x.2.2) Fq ((0:Int),(0:Int),(0:Int))) fun a=>
 some (a.1,a.2)
instance H238 (v:LI): HE 238 [.dat T4 v] (f238 v) (fun y=>[.raw true [(.d T0 y.1),(.d T8 y.2)]]):=hd Tryz.f238 rfl fun y q=>by
 unfold f238 at q
 refine OL (OL (OL (OL (OL ?_))))
 obtain ⟨i,h,q⟩:=bE q
 refine lJ h (fun x=>⟨[(2,P0 0 0),(3,P0 1 0),(7,.dat T4 v),(8,.dat T0 (v.length:Int)),(9,.dat T0 x.1)],[(0,.cells [(.d T0 (0:Int)),(.d T8 (0:Int))]),(1,.cells [(.d T0 x.2.1),(.d T8 x.2.2)])],2⟩) (fun z=>[(2,⟨[(2,P0 0 0),(3,P0 1 0)],[(0,.cells [(.d T0 (0:Int)),(.d T8 (0:Int))]),(1,.cells [(.d T0 z.1),(.d T8 z.2)])],2⟩)]) gV (fun m=>F3 (fun d=>F3 (fun c=>fun b z q=>?_))) ?_
 ·have q:f238_l1 v _ d c b=some z:=q
  unfold f238_l1 at q
  refine OL (OL (cI q (fun q=>?_) (fun q=>?_)))
  ·refine OL (OL (gI q (fun q=>?_)))
   refine EI (.take 0 (.take 1 (.alt 2 (.alt 3 (.alt 4 .done .done) .done) .done))) (EI [(4,[1])] (EI [] (AI rfl ?_)))
   exact gV
  exact gV
 exact gV
def f222 (a:Fz):Option Ji:=
 D4 (f113 (a.1,a.2)) fun d=>
 bif (!d) then
 some ((0:Int),(1:Int))
 else
 D4 (f238 a.2) fun b=>
 D4 (f190 (b.1,b.2)) fun c=>
 some (c,(0:Int))
instance H222 (a:Fz): HE 222 [.dat T7 a] (f222 a) (fun y=>[.dat T0 y.1,.dat T0 y.2]):=hd Tryz.f222 rfl fun y q=>by
 unfold f222 at q
 exact gV
def f221 (b e:Int):Option Jn:=
 bif (e != 0) then
 some (e,[],[])
 else
 D4 (f73 ([]) b) fun a=>
 some (a.1,a.2.1,a.2.2)
instance H221 (b e:Int): HF 221 [.dat T0 b,.dat T0 e] [] 0 (f221 b e) (fun y=>[.raw true [(.osl 0),(.osl 1)],.dat T0 y.1]) (fun y=>[(0,.arr 3 T0 y.2.1),(1,.arr 35 T0 y.2.2)]) 2:=hd Tryz.f221 rfl fun y q=>by
 unfold f221 at q
 exact gV
def f186_j1 (a b:Ji):Option Bool:=
 bif (decide (a.1<b.1)) then
 some true
 else
 bif (a.1==b.1) then
 some (decide (a.2<b.2))
 else
 some false
def f186 (a b:Ji):Option Int:=
 D4 (f186_j1 a b) fun c=>
 bif c then
 some (-1:Int)
 else
 bif (a.1==b.1&&a.2==b.2) then
 some (0:Int)
 else
 some (1:Int)
instance H186 (a b:Ji): HE 186 [.dat T9 a,.dat T9 b] (f186 a b) (fun y=>[.dat T0 y]):=hd Tryz.f186 rfl fun y q=>by
 unfold f186 at q
 refine OL (OL ?_)
 obtain ⟨d,c,q⟩:=bE q
 refine OQ ⟨[(0,⟨[(2,P0 0 0),(3,P0 1 0),(5,.dat .bool d)],[(0,.cells [(.d T0 a.1),(.d T8 a.2)]),(1,.cells [(.d T0 b.1),(.d T8 b.2)])],2⟩)],?_,?_⟩
 ·have q:=c
  unfold f186_j1 at q
  exact gV
 refine AI (cI q (fun q=>?_) (fun q=>?_)) TV
 ·exact gV
 refine OL (AI ⟨by kernel_rfl,by kernel_rfl,by decide,by decide⟩ ?_)
 exact gV
def f236_s1:ByteArray:=⟨⟨[0,1,2,2,3,3,3,3,4,4,4,4,4,4,4,4,5,5,5,5,5,5,5,5,5,5,5,5,5,5,5,5,6,6,6,6,6,6,6,6,6,6,6,6,6,6,6,6,6,6,6,6,6,6,6,6,6,6,6,6,6,6,6,6,7,7,7,7,7,7,7,7,7,7,7,7,7,7,7,7,7,7,7,7,7,7,7,7,7,7,7,7,7,7,7,7,7,7,7,7,7,7,7,7,7,7,7,7,7,7,7,7,7,7,7,7,7,7,7,7,7,7,7,7,7,7,7,7,8,8,8,8,8,8,8,8,8,8,8,8,8,8,8,8,8,8,8,8,8,8,8,8,8,8,8,8,8,8,8,8,8,8,8,8,8,8,8,8,8,8,8,8,8,8,8,8,8,8,8,8,8,8,8,8,8,8,8,8,8,8,8,8,8,8,8,8,8,8,8,8,8,8,8,8,8,8,8,8,8,8,8,8,8,8,8,8,8,8,8,8,8,8,8,8,8,8,8,8,8,8,8,8,8,8,8,8,8,8,8,8,8,8,8,8,8,8,8,8,8,8,8,8,8,8,8,8]⟩⟩
def f236_j1 (a:Int):Option Ji:=
 bif (decide (a≥4294967296)) then
 some ((Int.fdiv a (2 ^ min (Int.toNat (32:Int)) u64.bits)),(32:Int))
 else
 some (a,(0:Int))
def f236_j2 (a:Ji):Option Ji:=
 bif (decide (a.1≥65536)) then
 some ((Int.fdiv a.1 (2 ^ min (Int.toNat (16:Int)) u64.bits)),(i64.wrap (a.2+16)))
 else
 some (a.1,a.2)
def f236_j3 (a:Ji):Option Ji:=
 bif (decide (a.1≥256)) then
 some ((Int.fdiv a.1 (2 ^ min (Int.toNat (8:Int)) u64.bits)),(i64.wrap (a.2+8)))
 else
 some (a.1,a.2)
def f236 (c:Int):Option Int:=
 D4 (f236_j1 c) fun b=>
 D4 (f236_j2 b) fun d=>
 D4 (f236_j3 d) fun a=>
 Ey (0≤(u8.wrap a.1)∧(u8.wrap a.1)<(ByteArray.size f236_s1:Int))<|
 some (i64.wrap (a.2+(i64.wrap (bt f236_s1 (u8.wrap a.1)))))
instance H236 (i:Int): HE 236 [.dat T8 i] (f236 i) (fun y=>[.dat T0 y]):=hd Tryz.f236 rfl fun y q=>by
 unfold f236 at q
 refine OL ?_
 obtain ⟨k,d,q⟩:=bE q
 refine OQ ⟨[(0,⟨[(0,.dat T8 k.1),(2,.dat T0 k.2)],[],0⟩)],?_,?_⟩
 ·have q:=d
  clear d
  unfold f236_j1 at q
  refine OL (cI q (fun q=>?_) (fun q=>?_))
  ·refine OL (AI (by decide) ?_)
   exact gV
  exact gV
 refine AI ?_ TV
 obtain ⟨l,b,q⟩:=bE q
 refine OQ ⟨[(0,⟨[(0,.dat T8 l.1),(2,.dat T0 l.2)],[],0⟩)],?_,?_⟩
 ·have q:=b
  clear b
  unfold f236_j2 at q
  refine OL (cI q (fun q=>?_) (fun q=>?_))
  ·refine OL (AI (by decide) ?_)
   exact gV
  exact gV
 refine AI ?_ TV
 obtain ⟨j,c,q⟩:=bE q
 refine OQ ⟨[(0,⟨[(0,.dat T8 j.1),(2,.dat T0 j.2)],[],0⟩)],?_,?_⟩
 ·have q:=c
  clear c
  unfold f236_j3 at q
  refine OL (cI q (fun q=>?_) (fun q=>?_))
  ·refine OL (AI (by decide) ?_)
   exact gV
  exact gV
 exact gV
def f216 (a:Int):Option Int:=
 D4 (f236 a) fun b=>
 some (i64.wrap ((64:Int)-b))
instance H216 (b:Int): HE 216 [.dat T8 b] (f216 b) (fun y=>[.dat T0 y]):=hd Tryz.f216 rfl fun y q=>by
 unfold f216 at q
 exact gV
def f189_j4 (d e a c b:Int):Option (Sum Unit Unit):=
 bif (decide (c≥4294967296)) then
 some (Sum.inl ())
 else
 bif (decide ((u64.wrap (c*(Fv IntKind.u64 (fun p q=>p&&& q) (u64.wrap (e*2 ^ min (Int.toNat (u64.wrap a)) u64.bits)) (4294967295:Int))))>(u64.wrap ((u64.wrap ((4294967296:Int)*b))+(Int.fdiv (u64.wrap (d*2 ^ min (Int.toNat (u64.wrap a)) u64.bits)) (2 ^ min (Int.toNat (32:Int)) u64.bits)))))) then
 some (Sum.inl ())
 else
 some (Sum.inr ())
def f189_l3 (h d b:Int) (g:Ji→Option Int) (c a:Int):Option Int:=
 D4 (f189_j4 h d b c a) fun j=>
 F5 j (fun i=>
 bif (decide ((u64.wrap (a+(Int.fdiv (u64.wrap (d*2 ^ min (Int.toNat (u64.wrap b)) u64.bits)) (2 ^ min (Int.toNat (32:Int)) u64.bits))))≥4294967296)) then
 some (u64.wrap (c-1))
 else
 g ((u64.wrap (c-1)),(u64.wrap (a+(Int.fdiv (u64.wrap (d*2 ^ min (Int.toNat (u64.wrap b)) u64.bits)) (2 ^ min (Int.toNat (32:Int)) u64.bits)))))) (fun e=>
 some c)
def f189_j8 (d e a b c:Int):Option (Sum Unit Unit):=
 bif (decide (c≥4294967296)) then
 some (Sum.inl ())
 else
 bif (decide ((u64.wrap (c*(Fv IntKind.u64 (fun p q=>p&&& q) (u64.wrap (e*2 ^ min (Int.toNat (u64.wrap a)) u64.bits)) (4294967295:Int))))>(u64.wrap ((u64.wrap ((4294967296:Int)*b))+(Fv IntKind.u64 (fun p q=>p&&& q) (u64.wrap (d*2 ^ min (Int.toNat (u64.wrap a)) u64.bits)) (4294967295:Int)))))) then
 some (Sum.inl ())
 else
 some (Sum.inr ())
def f189_l7 (j d b:Int) (i:Ji→Option Int) (a c:Int):Option Int:=
 D4 (f189_j8 j d b a c) fun g=>
 F5 g (fun h=>
 bif (decide ((u64.wrap (a+(Int.fdiv (u64.wrap (d*2 ^ min (Int.toNat (u64.wrap b)) u64.bits)) (2 ^ min (Int.toNat (32:Int)) u64.bits))))≥4294967296)) then
 some (u64.wrap (c-1))
 else
 i ((u64.wrap (a+(Int.fdiv (u64.wrap (d*2 ^ min (Int.toNat (u64.wrap b)) u64.bits)) (2 ^ min (Int.toNat (32:Int)) u64.bits)))),(u64.wrap (c-1)))) (fun e=>
 some c)
def f189 (d c b:Int):Option Ji:=
 bif (b==0) then
 none
 else
 bif (decide (b≤d)) then
 none
 else
 bif (d==0) then
 Ey (b≠0)<|
 Ey (b≠0)<|
 some ((u64.wrap (Int.tdiv c b)),(Int.tmod c b))
 else
 D4 (f216 b) fun a=>
 Ey (0≤(u64.wrap a))<|
 Ey (0≤(u64.wrap a))<|
 Ey (0≤(u64.wrap ((64:Int)-(u64.wrap a))))<|
 Ey (0≤(u64.wrap a))<|
 Ey ((Int.fdiv (u64.wrap (b*2 ^ min (Int.toNat (u64.wrap a)) u64.bits)) (2 ^ min (Int.toNat (32:Int)) u64.bits))≠0)<|
 D4 (Fp (fun g x=>f189_l3 c b a g x.1 x.2) Fq ((u64.wrap (Int.tdiv (Fv IntKind.u64 (fun p q=>p||| q) (u64.wrap (d*2 ^ min (Int.toNat (u64.wrap a)) u64.bits)) (Int.fdiv c (2 ^ min (Int.toNat (u64.wrap ((64:Int)-(u64.wrap a)))) u64.bits))) (Int.fdiv (u64.wrap (b*2 ^ min (Int.toNat (u64.wrap a)) u64.bits)) (2 ^ min (Int.toNat (32:Int)) u64.bits)))),(u64.wrap ((Fv IntKind.u64 (fun p q=>p||| q) (u64.wrap (d*2 ^ min (Int.toNat (u64.wrap a)) u64.bits)) (Int.fdiv c (2 ^ min (Int.toNat (u64.wrap ((64:Int)-(u64.wrap a)))) u64.bits)))-(u64.wrap ((u64.wrap (Int.tdiv (Fv IntKind.u64 (fun p q=>p||| q) (u64.wrap (d*2 ^ min (Int.toNat (u64.wrap a)) u64.bits)) (Int.fdiv c (2 ^ min (Int.toNat (u64.wrap ((64:Int)-(u64.wrap a)))) u64.bits))) (Int.fdiv (u64.wrap (b*2 ^ min (Int.toNat (u64.wrap a)) u64.bits)) (2 ^ min (Int.toNat (32:Int)) u64.bits))))*(Int.fdiv (u64.wrap (b*2 ^ min (Int.toNat (u64.wrap a)) u64.bits)) (2 ^ min (Int.toNat (32:Int)) u64.bits)))))))) fun e=>
 Ey ((Int.fdiv (u64.wrap (b*2 ^ min (Int.toNat (u64.wrap a)) u64.bits)) (2 ^ min (Int.toNat (32:Int)) u64.bits))≠0)<|
 D4 (Fp (fun g x=>f189_l7 c b a g x.1 x.2) Fq ((u64.wrap ((u64.wrap ((u64.wrap ((u64.wrap ((Fv IntKind.u64 (fun p q=>p||| q) (u64.wrap (d*2 ^ min (Int.toNat (u64.wrap a)) u64.bits)) (Int.fdiv c (2 ^ min (Int.toNat (u64.wrap ((64:Int)-(u64.wrap a)))) u64.bits)))*4294967296))+(Int.fdiv (u64.wrap (c*2 ^ min (Int.toNat (u64.wrap a)) u64.bits)) (2 ^ min (Int.toNat (32:Int)) u64.bits))))-(u64.wrap (e*(u64.wrap (b*2 ^ min (Int.toNat (u64.wrap a)) u64.bits))))))-(u64.wrap ((u64.wrap (Int.tdiv (u64.wrap ((u64.wrap ((u64.wrap ((Fv IntKind.u64 (fun p q=>p||| q) (u64.wrap (d*2 ^ min (Int.toNat (u64.wrap a)) u64.bits)) (Int.fdiv c (2 ^ min (Int.toNat (u64.wrap ((64:Int)-(u64.wrap a)))) u64.bits)))*4294967296))+(Int.fdiv (u64.wrap (c*2 ^ min (Int.toNat (u64.wrap a)) u64.bits)) (2 ^ min (Int.toNat (32:Int)) u64.bits))))-(u64.wrap (e*(u64.wrap (b*2 ^ min (Int.toNat (u64.wrap a)) u64.bits)))))) (Int.fdiv (u64.wrap (b*2 ^ min (Int.toNat (u64.wrap a)) u64.bits)) (2 ^ min (Int.toNat (32:Int)) u64.bits))))*(Int.fdiv (u64.wrap (b*2 ^ min (Int.toNat (u64.wrap a)) u64.bits)) (2 ^ min (Int.toNat (32:Int)) u64.bits)))))),(u64.wrap (Int.tdiv (u64.wrap ((u64.wrap ((u64.wrap ((Fv IntKind.u64 (fun p q=>p||| q) (u64.wrap (d*2 ^ min (Int.toNat (u64.wrap a)) u64.bits)) (Int.fdiv c (2 ^ min (Int.toNat (u64.wrap ((64:Int)-(u64.wrap a)))) u64.bits)))*4294967296))+(Int.fdiv (u64.wrap (c*2 ^ min (Int.toNat (u64.wrap a)) u64.bits)) (2 ^ min (Int.toNat (32:Int)) u64.bits))))-(u64.wrap (e*(u64.wrap (b*2 ^ min (Int.toNat (u64.wrap a)) u64.bits)))))) (Int.fdiv (u64.wrap (b*2 ^ min (Int.toNat (u64.wrap a)) u64.bits)) (2 ^ min (Int.toNat (32:Int)) u64.bits)))))) fun h=>
 Ey (0≤(u64.wrap a))<|
 some ((u64.wrap ((u64.wrap (e*4294967296))+h)),(Int.fdiv (u64.wrap ((u64.wrap ((u64.wrap ((u64.wrap ((u64.wrap ((u64.wrap ((Fv IntKind.u64 (fun p q=>p||| q) (u64.wrap (d*2 ^ min (Int.toNat (u64.wrap a)) u64.bits)) (Int.fdiv c (2 ^ min (Int.toNat (u64.wrap ((64:Int)-(u64.wrap a)))) u64.bits)))*4294967296))+(Int.fdiv (u64.wrap (c*2 ^ min (Int.toNat (u64.wrap a)) u64.bits)) (2 ^ min (Int.toNat (32:Int)) u64.bits))))-(u64.wrap (e*(u64.wrap (b*2 ^ min (Int.toNat (u64.wrap a)) u64.bits))))))*4294967296))+(Fv IntKind.u64 (fun p q=>p&&& q) (u64.wrap (c*2 ^ min (Int.toNat (u64.wrap a)) u64.bits)) (4294967295:Int))))-(u64.wrap (h*(u64.wrap (b*2 ^ min (Int.toNat (u64.wrap a)) u64.bits)))))) (2 ^ min (Int.toNat (u64.wrap a)) u64.bits)))
instance H189 (k d i:Int): HE 189 [.dat T8 k,.dat T8 d,.dat T8 i] (f189 k d i) (fun y=>[.dat T8 y.1,.dat T8 y.2]):=hd Tryz.f189 rfl fun y q=>by
 unfold f189 at q
 refine OL (OL (OL (cI q (fun q=>?_) (fun q=>?_))))
 ·exact gV
 refine OL (OL (cI q (fun q=>?_) (fun q=>?_)))
 ·exact gV
 refine OL (OL (cI q (fun q=>?_) (fun q=>?_)))
 ·exact gV
 refine OL ?_
 obtain ⟨b,h,q⟩:=bE q
 refine cL h gW ?_
 refine R2 (AI (lQ rfl) (R2 (AI TV (AI TV (OL (gI q (fun q=>?_)))))))
 refine OL (AI (by decide) (OL (OL (gI q (fun q=>?_)))))
 refine gI q (fun q=>?_)
 refine OL (gI q (fun q=>?_))
 refine OL (AI (by decide) (OL (OL (gI q (fun q=>?_)))))
 refine OL (OL ?_)
 obtain ⟨l,u,q⟩:=bE q
 let e0:LE:=fun j=>(2,.dat T8 (u64.wrap (i*2 ^ min (Int.toNat (u64.wrap b)) u64.bits)))::(8,.dat T8 (u64.wrap b))::j
 let e1:LE:=fun j=>e0 ((9,.dat T8 (Int.fdiv (u64.wrap (i*2 ^ min (Int.toNat (u64.wrap b)) u64.bits)) (2 ^ min (Int.toNat (32:Int)) u64.bits)))::(10,.dat T8 (Fv IntKind.u64 (fun p q=>p&&& q) (u64.wrap (i*2 ^ min (Int.toNat (u64.wrap b)) u64.bits)) (4294967295:Int)))::j)
 let n:LE:=fun j=>e1 ((11,.dat T8 (Fv IntKind.u64 (fun p q=>p||| q) (u64.wrap (k*2 ^ min (Int.toNat (u64.wrap b)) u64.bits)) (Int.fdiv d (2 ^ min (Int.toNat (u64.wrap ((64:Int)-(u64.wrap b)))) u64.bits))))::(13,.dat T8 (Int.fdiv (u64.wrap (d*2 ^ min (Int.toNat (u64.wrap b)) u64.bits)) (2 ^ min (Int.toNat (32:Int)) u64.bits)))::(14,.dat T8 (Fv IntKind.u64 (fun p q=>p&&& q) (u64.wrap (d*2 ^ min (Int.toNat (u64.wrap b)) u64.bits)) (4294967295:Int)))::j)
 refine lJ u (fun x=>⟨n [(15,.dat T8 x.1),(16,.dat T8 x.2)],[],0⟩) (fun z=>[(2,⟨n [(15,.dat T8 z)],[],0⟩)]) gV (fun m=>F3 (fun o=>fun c z q=>?_)) ?_
 ·have q:f189_l3 d i b _ o c=some z:=q
  unfold f189_l3 at q
  obtain ⟨z4,b2,q⟩:=bE q
  refine OQ ⟨Sum.elim (fun v=>[(0,⟨n [(15,.dat T8 o),(16,.dat T8 c)],[],0⟩)]) (fun b1=>[(2,⟨n [(15,.dat T8 o)],[],0⟩)]) z4,?_,?_⟩
  ·have q:=b2
   unfold f189_j4 at q
   exact gV
  rcases z4 with v | b1
  ·exact gV
  exact gV
 refine AI (OL (OL (gI q (fun q=>?_)))) TV
 refine OL (OL ?_)
 obtain ⟨z7,w,q⟩:=bE q
 let e3:LE:=fun j=>e1 ((14,.dat T8 (Fv IntKind.u64 (fun p q=>p&&& q) (u64.wrap (d*2 ^ min (Int.toNat (u64.wrap b)) u64.bits)) (4294967295:Int)))::(15,.dat T8 l)::j)
 let e4:LE:=fun j=>e0 ((14,.dat T8 (Fv IntKind.u64 (fun p q=>p&&& q) (u64.wrap (d*2 ^ min (Int.toNat (u64.wrap b)) u64.bits)) (4294967295:Int)))::(15,.dat T8 l)::(17,.dat T8 (u64.wrap ((u64.wrap ((u64.wrap ((Fv IntKind.u64 (fun p q=>p||| q) (u64.wrap (k*2 ^ min (Int.toNat (u64.wrap b)) u64.bits)) (Int.fdiv d (2 ^ min (Int.toNat (u64.wrap ((64:Int)-(u64.wrap b)))) u64.bits)))*4294967296))+(Int.fdiv (u64.wrap (d*2 ^ min (Int.toNat (u64.wrap b)) u64.bits)) (2 ^ min (Int.toNat (32:Int)) u64.bits))))-(u64.wrap (l*(u64.wrap (i*2 ^ min (Int.toNat (u64.wrap b)) u64.bits)))))))::j)
 refine lJ w (fun x=>⟨e3 [(16,.dat T8 x.1),(17,.dat T8 (u64.wrap ((u64.wrap ((u64.wrap ((Fv IntKind.u64 (fun p q=>p||| q) (u64.wrap (k*2 ^ min (Int.toNat (u64.wrap b)) u64.bits)) (Int.fdiv d (2 ^ min (Int.toNat (u64.wrap ((64:Int)-(u64.wrap b)))) u64.bits)))*4294967296))+(Int.fdiv (u64.wrap (d*2 ^ min (Int.toNat (u64.wrap b)) u64.bits)) (2 ^ min (Int.toNat (32:Int)) u64.bits))))-(u64.wrap (l*(u64.wrap (i*2 ^ min (Int.toNat (u64.wrap b)) u64.bits))))))),(18,.dat T8 x.2)],[],0⟩) (fun z=>[(4,⟨e4 [(18,.dat T8 z)],[],0⟩)]) gV (fun m=>F3 (fun c=>fun q0 z q=>?_)) ?_
 ·have q:f189_l7 d i b _ c q0=some z:=q
  unfold f189_l7 at q
  obtain ⟨z8,s,q⟩:=bE q
  refine OQ ⟨Sum.elim (fun t=>[(0,⟨e3 [(16,.dat T8 c),(17,.dat T8 (u64.wrap ((u64.wrap ((u64.wrap ((Fv IntKind.u64 (fun p q=>p||| q) (u64.wrap (k*2 ^ min (Int.toNat (u64.wrap b)) u64.bits)) (Int.fdiv d (2 ^ min (Int.toNat (u64.wrap ((64:Int)-(u64.wrap b)))) u64.bits)))*4294967296))+(Int.fdiv (u64.wrap (d*2 ^ min (Int.toNat (u64.wrap b)) u64.bits)) (2 ^ min (Int.toNat (32:Int)) u64.bits))))-(u64.wrap (l*(u64.wrap (i*2 ^ min (Int.toNat (u64.wrap b)) u64.bits))))))),(18,.dat T8 q0)],[],0⟩)]) (fun b0=>[(4,⟨e4 [(18,.dat T8 q0)],[],0⟩)]) z8,?_,?_⟩
  ·have q:=s
   unfold f189_j8 at q
   exact gV
  rcases z8 with t | b0
  ·exact gV
  exact gV
 exact gV
def f185_j3 (b:Int) (a:Ji):Option Bool:=
 bif (decide (a.2>(u64.wrap (b-a.2)))) then
 some true
 else
 bif (a.2==(u64.wrap (b-a.2))) then
 some ((Fv IntKind.u64 (fun p q=>p&&& q) a.1 (1:Int))==1)
 else
 some false
def f185_j2 (c:Int) (a:Ji):Option Ji:=
 D4 (f185_j3 c a) fun d=>
 bif d then
 D4 (add64 a.1 (1:Int) (0:Int)) fun b=>
 some (b.1,b.2)
 else
 some (a.1,(0:Int))
def f185 (a b:Int):Option Int:=
 bif (b==0) then
 bif (decide (a>0)) then
 some (9223372036854775807:Int)
 else
 bif (decide (a<0)) then
 some (-9223372036854775808:Int)
 else
 some (0:Int)
 else
 D4 (f143 a) fun d=>
 D4 (f143 b) fun c=>
 bif (decide ((Int.fdiv d (2 ^ min (Int.toNat (32:Int)) u64.bits))≥c)) then
 D4 (f144 (1:Int) (0:Int) (!((decide (a<0))==(decide (b<0))))) fun i=>
 some i
 else
 D4 (f189 (Int.fdiv d (2 ^ min (Int.toNat (32:Int)) u64.bits)) (u64.wrap (d*2 ^ min (Int.toNat (32:Int)) u64.bits)) c) fun h=>
 D4 (f185_j2 c h) fun g=>
 D4 (f144 g.2 g.1 (!((decide (a<0))==(decide (b<0))))) fun e=>
 some e
instance H185 (a b:Int): HE 185 [.dat T0 a,.dat T0 b] (f185 a b) (fun y=>[.dat T0 y]):=hd Tryz.f185 rfl fun y q=>by
 unfold f185 at q
 refine OL (OL (OL (cI q (fun q=>?_) (fun q=>?_))))
 ·exact gV
 refine OL ?_
 obtain ⟨o,h,q⟩:=bE q
 refine cL h gW ?_
 refine R2 (AI (lQ rfl) (R2 (AI TV (AI TV ?_))))
 obtain ⟨n,h,q⟩:=bE q
 refine cL h gW ?_
 refine R2 (AI (lQ rfl) (R2 (AI TV (AI TV (OL (OL (AI (by decide) (AI (by decide) (OL (OL (cI q (fun q=>?_) (fun q=>?_))))))))))))
 ·exact gV
 refine OL ?_
 obtain ⟨l,h,q⟩:=bE q
 refine cL h gW ?_
 refine R4 (AI (lQ rfl) (R2 (AI TV (AI TV (OL ?_)))))
 obtain ⟨j,c,q⟩:=bE q
 let i:LE:=fun m=>(7,.dat .bool (!((decide (a<0))==(decide (b<0)))))::m
 refine OQ ⟨[(0,⟨i [(10,.dat T8 j.1),(12,.dat T8 j.2)],[],0⟩)],?_,?_⟩
 ·have q:=c
  clear c
  unfold f185_j2 at q
  obtain ⟨k,d,q⟩:=bE q
  refine OQ ⟨[(0,⟨i [(10,.dat T8 l.1),(12,.dat T8 (0:Int)),(62,.dat .bool k)],[],0⟩)],?_,?_⟩
  ·have q:=d
   unfold f185_j3 at q
   exact gV
  exact gV
 exact gV
def f187 (a:Ji):Option (Int×PTz14):=
 bif (decide (a.1<0)) then
 D4 (f191 (a.1,a.2)) fun b=>
 some ((u64.wrap b.1),b.2,true)
 else
 some ((u64.wrap a.1),a.2,false)
instance H187 (a:Ji): HE 187 [.dat T9 a] (f187 a) (fun y=>[.dat T8 y.1,.dat T8 y.2.1,.dat .bool y.2.2]):=hd Tryz.f187 rfl fun y q=>by
 unfold f187 at q
 exact gV
def f145_j3 (b:Int) (a:Ji):Option Bool:=
 bif (decide (a.2>(u64.wrap (b-a.2)))) then
 some true
 else
 bif (a.2==(u64.wrap (b-a.2))) then
 some ((Fv IntKind.u64 (fun p q=>p&&& q) a.1 (1:Int))==1)
 else
 some false
def f145_j2 (d:Int×PTz14) (b:Int) (a:Ji):Option Ji:=
 D4 (f145_j3 b a) fun e=>
 bif e then
 D4 (add64 a.1 (1:Int) (0:Int)) fun c=>
 some ((u64.wrap ((u64.wrap (Int.tdiv d.1 b))+c.2)),c.1)
 else
 some ((u64.wrap (Int.tdiv d.1 b)),a.1)
def f145 (a:Ji) (n:Int):Option Int:=
 bif (n==0) then
 D4 (f186 (a.1,a.2) ((0:Int),(0:Int))) fun k=>
 D4 (f185 k (0:Int)) fun j=>
 some j
 else
 D4 (f187 (a.1,a.2)) fun g=>
 D4 (f188 n) fun c=>
 Ey (c≠0)<|
 Ey (c≠0)<|
 D4 (f189 (Int.tmod g.1 c) g.2.1 c) fun e=>
 D4 (f145_j2 g c e) fun b=>
 bif (!(g.2.2==(decide (n<0)))) then
 D4 (f191 ((i64.wrap (if (9223372036854775807:Int)<b.1 then (9223372036854775807:Int) else b.1)),b.2)) fun d=>
 D4 (f190 (d.1,d.2)) fun i=>
 some i
 else
 D4 (f190 ((i64.wrap (if (9223372036854775807:Int)<b.1 then (9223372036854775807:Int) else b.1)),b.2)) fun h=>
 some h
instance H145 (a:Ji) (n:Int): HE 145 [.dat T9 a,.dat T0 n] (f145 a n) (fun y=>[.dat T0 y]):=hd Tryz.f145 rfl fun y q=>by
 unfold f145 at q
 refine OL (OL (OL (cI q (fun q=>?_) (fun q=>?_))))
 ·exact gV
 refine OL ?_
 obtain ⟨i,h,q⟩:=bE q
 refine cL h gW ?_
 refine R3 (AI (lQ rfl) (R2 (AI TV (AI TV (OL ?_)))))
 obtain ⟨l,h,q⟩:=bE q
 refine cL h gW ?_
 refine R2 (AI (lQ rfl) (R2 (AI TV (AI TV (OL (OL (EI (tU 0 8 .done) (EI [] (EI [] (AI rfl (gI q (fun q=>?_))))))))))))
 refine gI q (fun q=>?_)
 refine OL ?_
 obtain ⟨c,h,q⟩:=bE q
 refine cL h gW ?_
 refine R4 (AI (lQ rfl) (R2 (AI TV (AI TV ?_))))
 obtain ⟨j,b,q⟩:=bE q
 refine OQ ⟨[(0,⟨[(7,.dat .bool (!(i.2.2==(decide (n<0))))),(9,.dat T8 j.1),(11,.dat T8 j.2)],[],0⟩)],?_,?_⟩
 ·have q:=b
  clear b
  unfold f145_j2 at q
  obtain ⟨k,d,q⟩:=bE q
  refine OQ ⟨[(0,⟨[(7,.dat .bool (!(i.2.2==(decide (n<0))))),(9,.dat T8 (u64.wrap (Int.tdiv i.1 l))),(11,.dat T8 c.1),(61,.dat .bool k)],[],0⟩)],?_,?_⟩
  ·have q:=d
   unfold f145_j3 at q
   exact gV
  exact gV
 exact gV
def f223 (a:Fz):Option Ji:=
 D4 (f113 (a.1,a.2)) fun c=>
 bif (!c) then
 some ((0:Int),(1:Int))
 else
 D4 (f238 a.2) fun b=>
 D4 (f145 (b.1,b.2) (a.2.length:Int)) fun d=>
 some (d,(0:Int))
instance H223 (a:Fz): HE 223 [.dat T7 a] (f223 a) (fun y=>[.dat T0 y.1,.dat T0 y.2]):=hd Tryz.f223 rfl fun y q=>by
 unfold f223 at q
 exact gV
def f205 (a:Int):Option Bool:=
 bif (decide (a≥1)) then
 some (decide (a≤5))
 else
 some false
instance H205 (b:Int): HE 205 [.dat T0 b] (f205 b) (fun y=>[.dat .bool y]):=hd Tryz.f205 rfl fun y q=>by
 unfold f205 at q
 exact gV
def f243 (n:Int):Option Int:=
 bif (decide (n≥2147483648)) then
 some (9223372036854775807:Int)
 else
 bif (decide (n<(-2147483648:Int))) then
 some (-9223372036854775808:Int)
 else
 some (i64.wrap (n*2 ^ min (Int.toNat (32:Int)) i64.bits))
instance H243 (n:Int): HE 243 [.dat T0 n] (f243 n) (fun y=>[.dat T0 y]):=hd Tryz.f243 rfl fun y q=>by
 unfold f243 at q
 refine OL (OL (OL (cI q (fun q=>?_) (fun q=>?_))))
 ·exact gV
 refine OL (cI q (fun q=>?_) (fun q=>?_))
 ·exact gV
 refine OL (AI (by decide) ?_)
 exact gV
def f244 (a b c:Int):Option Int:=
 some (if c<(if b>a then b else a) then c else (if b>a then b else a))
instance H244 (c d b:Int): HE 244 [.dat T0 c,.dat T0 d,.dat T0 b] (f244 c d b) (fun y=>[.dat T0 y]):=hd Tryz.f244 rfl fun y q=>by
 unfold f244 at q
 exact gV
def f245 (a:Int):Option Int:=
 bif (a==(-9223372036854775808:Int)) then
 some (9223372036854775807:Int)
 else
 some (i64.wrap (0-a))
instance H245 (a:Int): HE 245 [.dat T0 a] (f245 a) (fun y=>[.dat T0 y]):=hd Tryz.f245 rfl fun y q=>by
 unfold f245 at q
 exact gV
def f239 (a b:Int):Option Ji:=
 bif (a==1) then
 some ((if (0:Int)>b then (0:Int) else b),(0:Int))
 else
 bif (a==2) then
 bif (decide (b>0)) then
 some (b,(0:Int))
 else
 D4 (f243 (8:Int)) fun e=>
 D4 (f185 b e) fun c=>
 some (c,(0:Int))
 else
 bif (a==3) then
 D4 (f244 b (-4294967296:Int) (4294967296:Int)) fun j=>
 some (j,(0:Int))
 else
 bif (a==4) then
 bif (decide (b<0)) then
 D4 (f245 b) fun d=>
 some (d,(0:Int))
 else
 some (b,(0:Int))
 else
 bif (a==5) then
 D4 (f243 (2:Int)) fun i=>
 D4 (f185 b i) fun h=>
 D4 (f87 h (2147483648:Int)) fun k=>
 D4 (f244 k (0:Int) (4294967296:Int)) fun g=>
 some (g,(0:Int))
 else
 some ((0:Int),(1:Int))
instance H239 (b c:Int): HE 239 [.dat T0 b,.dat T0 c] (f239 b c) (fun y=>[.dat T0 y.1,.dat T0 y.2]):=hd Tryz.f239 rfl fun y q=>by
 unfold f239 at q
 exact gV
def f224_j3 (a:Int) (t:Fz):Option Bool:=
 D4 (f205 a) fun c=>
 bif (!c) then
 some true
 else
 D4 (f113 (t.1,t.2)) fun b=>
 some (!b)
def f224_j2 (a:Int) (t:Fz):Option (Sum Unit Unit):=
 D4 (f224_j3 a t) fun b=>
 bif b then
 some (Sum.inr ())
 else
 some (Sum.inl ())
def f224_l4 (b:Int) (t:Fz) (e:Jy→Option LI) (a:Int) (d:LI):Option LI:=
 bif (decide (a<t.2.length)) then
 Ey (0≤a∧a<t.2.length)<|
 D4 (f239 b (rd 0 t.2 a)) fun c=>
 Ey (0≤a∧a<d.length)<|
 e ((i64.wrap (a+1)),(List.set d (Int.toNat a) c.1))
 else
 some d
def f224 (a:Int) (t:Fz):Option Jn:=
 D4 (f224_j2 a t) fun h=>
 F5 h (fun d=>
 D4 (f112 (t.1,t.2)) fun b=>
 D4 (Fp (fun g x=>f224_l4 a t g x.1 x.2) Fq ((0:Int),b.2)) fun c=>
 some ((0:Int),b.1,c)) (fun e=>
 some ((1:Int),[],[]))
instance H224 (b:Int) (t:Fz): HF 224 [.dat T0 b,.dat T7 t] [] 0 (f224 b t) (fun y=>[.raw true [(.osl 0),(.osl 1)],.dat T0 y.1]) (fun y=>[(0,.arr 3 T0 y.2.1),(1,.arr 35 T0 y.2.2)]) 2:=hd Tryz.f224 rfl fun y q=>by
 unfold f224 at q
 refine OL ?_
 obtain ⟨p,c,q⟩:=bE q
 refine OQ ⟨Sum.elim (fun k=>[(0,⟨[(0,.dat T0 b),(3,P0 0 0),(4,P0 1 0)],[(0,.cells [(.d T4 t.1),(.d T4 t.2)]),(1,.cells [N0,N0])],2⟩)]) (fun l=>[(1,⟨[(4,P0 0 0),(5,D0 1)],[(0,.cells [N0,N0])],1⟩)]) p,?_,?_⟩
 ·have q:=c
  clear c
  unfold f224_j2 at q
  obtain ⟨w,i,q⟩:=bE q
  refine OQ ⟨[(0,⟨[(0,.dat T0 b),(3,P0 0 0),(4,P0 1 0),(16,.dat .bool w)],[(0,.cells [(.d T4 t.1),(.d T4 t.2)]),(1,.cells [N0,N0])],2⟩)],?_,?_⟩
  ·have q:=i
   unfold f224_j3 at q
   exact gV
  exact gV
 rcases p with k | l
 ·dsimp only [F5] at q
  refine AI (OL ?_) TV
  obtain ⟨n,h,q⟩:=bE q
  refine cL h gW ?_
  refine R3 (AI (lQ rfl) (R2 (AI TV (AI TV (OL (OL (OL ?_)))))))
  obtain ⟨u,d,q⟩:=bE q
  let o:LH:=fun v=>(0,.cells [N0,N0])::(1,.cells [(.osl 2),(.osl 3)])::(2,.arr 3 T0 n.1)::v
  refine lJ d (fun x=>⟨[(0,.dat T0 b),(4,P0 0 0),(6,P0 1 0),(21,.dat T4 t.2),(22,.dat T0 (t.2.length:Int)),(23,.dat T0 x.1)],o [(3,.arr 35 T0 x.2)],4⟩) (fun z=>[(2,⟨[(4,P0 0 0),(6,P0 1 0)],o [(3,.arr 35 T0 z)],4⟩)]) gV (fun m=>F3 (fun j=>fun s z q=>?_)) ?_
  ·have q:f224_l4 b t _ j s=some z:=q
   unfold f224_l4 at q
   exact gV
  exact gV
 exact gV
def f213_j3 (a:Fz) (b:Int):Option Bool:=
 bif (decide (b<1)) then
 some true
 else
 Ey (0≤(1:Int)∧1<(a.1.length:Int))<|
 some (decide (b>(rd 0 a.1 1)))
def f213_j2 (a:Fz) (b:Int):Option (Sum Unit Int):=
 D4 (f113 (a.1,a.2)) fun c=>
 bif (!c) then
 some (Sum.inr (1:Int))
 else
 bif ((a.1.length:Int) != 2) then
 some (Sum.inr (4:Int))
 else
 D4 (f213_j3 a b) fun d=>
 bif d then
 some (Sum.inr (1:Int))
 else
 some (Sum.inl ())
def f213_l7 (a:Fz) (d e:Int) (g:Ji→Option Int) (b c:Int):Option Int:=
 Ey ((i64.wrap (Int.tdiv (rd 0 a.1 1) d))≠0)<|
 Ey ((i64.wrap (Int.tdiv (rd 0 a.1 1) d))≠0)<|
 bif (decide (c<(i64.wrap ((i64.wrap ((i64.wrap ((i64.wrap (Int.tdiv e (i64.wrap (Int.tdiv (rd 0 a.1 1) d))))*(rd 0 a.1 1)))+(i64.wrap ((Int.tmod e (i64.wrap (Int.tdiv (rd 0 a.1 1) d)))*d))))+d)))) then
 Ey (0≤c∧c<a.2.length)<|
 Ey (0≤b∧b<a.2.length)<|
 bif (decide ((rd 0 a.2 c)>(rd 0 a.2 b))) then
 g (c,(i64.wrap (c+1)))
 else
 g (b,(i64.wrap (c+1)))
 else
 some b
def f213_l6 (a:Fz) (c:Int) (d:Jn) (i:Jn→Option Fz) (b:Int) (g h:LI):Option Fz:=
 bif (decide (b<d.2.2.length)) then
 Ey ((i64.wrap (Int.tdiv (rd 0 a.1 1) c))≠0)<|
 Ey ((i64.wrap (Int.tdiv (rd 0 a.1 1) c))≠0)<|
 D4 (Fp (fun i x=>f213_l7 a c b i x.1 x.2) Fq ((i64.wrap ((i64.wrap ((i64.wrap (Int.tdiv b (i64.wrap (Int.tdiv (rd 0 a.1 1) c))))*(rd 0 a.1 1)))+(i64.wrap ((Int.tmod b (i64.wrap (Int.tdiv (rd 0 a.1 1) c)))*c)))),(i64.wrap ((i64.wrap ((i64.wrap ((i64.wrap (Int.tdiv b (i64.wrap (Int.tdiv (rd 0 a.1 1) c))))*(rd 0 a.1 1)))+(i64.wrap ((Int.tmod b (i64.wrap (Int.tdiv (rd 0 a.1 1) c)))*c))))+1)))) fun e=>
 Ey (0≤e∧e<a.2.length)<|
 Ey (0≤b∧b<h.length)<|
 Ey ((g.length+List.length ([e]))*8≤140737488355328)<|
 i ((i64.wrap (b+1)),(g++([e])),(List.set h (Int.toNat b) (rd 0 a.2 e)))
 else
 some (g,h)
def f213 (a:Fz) (c:Int):Option (Int×LI×Fz):=
 D4 (f213_j2 a c) fun g=>
 F5 g (fun h=>
 Ey (0≤(1:Int)∧1<(a.1.length:Int))<|
 Ey (0≤(1:Int)∧1<(a.1.length:Int))<|
 Ey (c≠0)<|
 Ey (0≤(0:Int)∧0<(a.1.length:Int))<|
 D4 (f210 ([(rd 0 a.1 0),(i64.wrap (Int.tdiv (rd 0 a.1 1) c))])) fun b=>
 D4 (Fp (fun i x=>f213_l6 a c b i x.1 x.2.1 x.2.2) Fq ((0:Int),[],b.2.2)) fun e=>
 some ((0:Int),b.2.1,e.2,e.1)) (fun d=>
 some (d,[],[],[]))
instance H213 (a:Fz) (c:Int): HF 213 [.dat T7 a,.dat T0 c] [] 0 (f213 a c) (fun y=>[.raw true [(.osl 0),(.osl 1)],O0 2,.dat T0 y.1]) (fun y=>[(0,.arr 3 T0 y.2.1),(1,.arr 35 T0 y.2.2.1),(2,.arr 3 T0 y.2.2.2)]) 3:=hd Tryz.f213 rfl fun y q=>by
 unfold f213 at q
 refine OL ?_
 obtain ⟨z3,l,q⟩:=bE q
 let p:LE:=fun i=>(1,.dat T0 c)::(2,P0 0 0)::(4,P0 1 0)::i
 let v:LH:=fun i=>(0,.cells [(.d T4 a.1),(.d T4 a.2)])::(1,.cells [N0,N0])::i
 refine OQ ⟨Sum.elim (fun u=>[(0,⟨p [],v [],2⟩)]) (fun k=>[(1,⟨[(4,P0 0 0),(5,.raw false [N0]),(6,.dat T0 k)],[(0,.cells [N0,N0])],1⟩)]) z3,?_,?_⟩
 ·have q:=l
  clear l
  unfold f213_j2 at q
  refine OL ?_
  obtain ⟨r4,h,q⟩:=bE q
  refine cL h gW ?_
  refine R3 (AI (lQ rfl) (R2 (AI TV (AI TV (cI q (fun q=>?_) (fun q=>?_))))))
  ·exact gV
  refine OL (cI q (fun q=>?_) (fun q=>?_))
  ·exact gV
  obtain ⟨z5,w,q⟩:=bE q
  refine OQ ⟨[(0,⟨p [(26,.dat .bool z5)],v [],2⟩)],?_,?_⟩
  ·have q:=w
   unfold f213_j3 at q
   exact gV
  exact gV
 rcases z3 with u | k
 ·dsimp only [F5] at q
  refine AI (OL (EI (tU 0 12 .done) (EI [] (EI [] (AI rfl (gI q (fun q=>?_))))))) TV
  refine gI q (fun q=>?_)
  refine gI q (fun q=>?_)
  refine OL (gI q (fun q=>?_))
  refine OL ?_
  obtain ⟨b,h,q⟩:=bE q
  refine cL h gW ?_
  refine R2 (AI (lQ rfl) (R2 (AI TV (AI TV (OL (OL (OL (OL ?_))))))))
  obtain ⟨z8,o,q⟩:=bE q
  let n:LE:=fun i=>p ((7,.dat T0 (rd 0 a.1 1))::(8,.dat T0 (i64.wrap (Int.tdiv (rd 0 a.1 1) c)))::(9,P0 2 0)::(11,O0 3)::i)
  let h3:LH:=fun i=>v ((2,.cells [(.osl 4),(.osl 5)])::i)
  refine lJ o (fun x=>⟨n [(60,.dat T0 (b.2.2.length:Int)),(61,.dat T0 x.1)],h3 [(3,.arr 3 T0 x.2.1),(4,.arr 3 T0 b.2.1),(5,.arr 35 T0 x.2.2)],6⟩) (fun z=>[(3,⟨[(4,P0 0 0),(9,P0 1 0),(11,O0 2)],[(0,.cells [N0,N0]),(1,.cells [(.osl 3),(.osl 4)]),(2,.arr 3 T0 z.1),(3,.arr 3 T0 b.2.1),(4,.arr 35 T0 z.2)],5⟩)]) gV (fun m=>F3 (fun d=>F3 (fun l3=>fun l5 z q=>?_))) ?_
  ·have q:f213_l6 a c b _ d l3 l5=some z:=q
   unfold f213_l6 at q
   refine OL (OL (cI q (fun q=>?_) (fun q=>?_)))
   ·refine OL (OL (OL (EI (tU 0 12 .done) (EI [] (EI [] (AI rfl (gI q (fun q=>?_))))))))
    refine gI q (fun q=>?_)
    refine OL (OL ?_)
    obtain ⟨z9,t,q⟩:=bE q
    let h4:LH:=fun i=>h3 ((3,.arr 3 T0 l3)::(4,.arr 3 T0 b.2.1)::(5,.arr 35 T0 l5)::i)
    refine lJ t (fun x=>⟨n [(12,.dat T0 d),(13,.dat T0 x.1),(14,.dat T0 x.2),(60,.dat T0 (b.2.2.length:Int)),(61,.dat T0 d)],h4 [],6⟩) (fun z=>[(5,⟨n [(12,.dat T0 d),(13,.dat T0 z),(60,.dat T0 (b.2.2.length:Int)),(61,.dat T0 d)],h4 [],6⟩)]) gV (fun m=>F3 (fun j=>fun s z q=>?_)) ?_
    ·have q:f213_l7 a c d _ j s=some z:=q
     unfold f213_l7 at q
     exact gV
    exact gV
   exact gV
  exact gV
 exact gV
def f170_j3 (a:Fz) (d:LI):Option Bool:=
 D4 (f113 (a.1,a.2)) fun c=>
 bif (!c) then
 some true
 else
 D4 (f99 d) fun b=>
 some (!b)
def f170_j2 (a:Fz) (d:LI):Option (Sum Unit Int):=
 D4 (f170_j3 a d) fun c=>
 bif c then
 some (Sum.inr (1:Int))
 else
 D4 (f110 d) fun b=>
 bif (b != a.2.length) then
 some (Sum.inr (4:Int))
 else
 some (Sum.inl ())
def f170 (a:Fz) (d:LI):Option Jn:=
 D4 (f170_j2 a d) fun h=>
 F5 h (fun g=>
 D4 (f109 d) fun b=>
 D4 (f54 a.2) fun c=>
 some ((0:Int),b,c)) (fun e=>
 some (e,[],[]))
instance H170 (a:Fz) (d:LI): HF 170 [.dat T7 a,.dat T4 d] [] 0 (f170 a d) (fun y=>[.raw true [(.osl 0),(.osl 1)],.dat T0 y.1]) (fun y=>[(0,.arr 3 T0 y.2.1),(1,.arr 35 T0 y.2.2)]) 2:=hd Tryz.f170 rfl fun y q=>by
 unfold f170 at q
 refine OL ?_
 obtain ⟨k,c,q⟩:=bE q
 refine OQ ⟨Sum.elim (fun i=>[(0,⟨[(1,.dat T4 d),(2,P0 0 0),(4,P0 1 0)],[(0,.cells [(.d T4 a.1),(.d T4 a.2)]),(1,.cells [N0,N0])],2⟩)]) (fun b=>[(1,⟨[(4,P0 0 0),(5,.dat T0 b)],[(0,.cells [N0,N0])],1⟩)]) k,?_,?_⟩
 ·have q:=c
  clear c
  unfold f170_j2 at q
  obtain ⟨l,j,q⟩:=bE q
  refine OQ ⟨[(0,⟨[(1,.dat T4 d),(2,P0 0 0),(4,P0 1 0),(6,.dat .bool l)],[(0,.cells [(.d T4 a.1),(.d T4 a.2)]),(1,.cells [N0,N0])],2⟩)],?_,?_⟩
  ·have q:=j
   unfold f170_j3 at q
   exact gV
  exact gV
 rcases k with i | b
 ·exact gV
 exact gV
def f196 (b:Int) (a:Fz) (k:Int):Option Jn:=
 bif (b==5) then
 D4 (f163 (a.1,a.2) k) fun h=>
 some (h.1,h.2.1,h.2.2)
 else
 bif (b==7) then
 D4 (f165 (a.1,a.2)) fun d=>
 some (d.1,d.2.1,d.2.2)
 else
 bif (b==8) then
 D4 (f220 (a.1,a.2) k) fun j=>
 some (j.1,j.2.1,j.2.2)
 else
 bif (b==9) then
 D4 (f222 (a.1,a.2)) fun m=>
 D4 (f221 m.1 m.2) fun i=>
 some (i.1,i.2.1,i.2.2)
 else
 bif (b==10) then
 D4 (f223 (a.1,a.2)) fun n=>
 D4 (f221 n.1 n.2) fun l=>
 some (l.1,l.2.1,l.2.2)
 else
 bif (b==11) then
 D4 (f224 k (a.1,a.2)) fun g=>
 some (g.1,g.2.1,g.2.2)
 else
 bif (b==13) then
 D4 (f213 (a.1,a.2) k) fun e=>
 some (e.1,e.2.1,e.2.2.1)
 else
 D4 (f170 (a.1,a.2) ([(a.2.length:Int)])) fun c=>
 some (c.1,c.2.1,c.2.2)
instance H196 (b:Int) (a:Fz) (k:Int): HF 196 [.dat T0 b,.dat T7 a,.dat T0 k] [] 0 (f196 b a k) (fun y=>[.raw true [(.osl 0),(.osl 1)],.dat T0 y.1]) (fun y=>[(0,.arr 3 T0 y.2.1),(1,.arr 35 T0 y.2.2)]) 2:=hd Tryz.f196 rfl fun y q=>by
 unfold f196 at q
 exact gV
def f157_j1 (c:NL) (e a b:Int):Option (Sum NL (Int×NL)):=
 bif (decide ((c.length:Int)≥512)) then
 some (Sum.inr ((2:Int),c))
 else
 bif (decide (e<2)) then
 some (Sum.inr ((1:Int),c))
 else
 bif (decide (e>14)) then
 some (Sum.inr ((1:Int),c))
 else
 D4 (f111 c a) fun d=>
 bif (!d.1) then
 some (Sum.inr ((1:Int),d.2))
 else
 D4 (f193 e) fun h=>
 bif h then
 D4 (f111 d.2 b) fun g=>
 bif (!g.1) then
 some (Sum.inr ((1:Int),g.2))
 else
 some (Sum.inl g.2)
 else
 some (Sum.inl d.2)
def f157_j2 (b k:Int):Option Int:=
 D4 (f194 b) fun a=>
 bif a then
 some k
 else
 some (0:Int)
def f157_j3 (g a b k:Int) (e:NL):Option (Int×Jn):=
 D4 (f193 g) fun h=>
 bif h then
 Ey (0≤a∧a<e.length)<|
 Ey (0≤b∧b<e.length)<|
 D4 (f195 g ((((((rd (Ty.z T6) e a).2).2).2).2).1,(((((rd (Ty.z T6) e a).2).2).2).2).2) ((((((rd (Ty.z T6) e b).2).2).2).2).1,(((((rd (Ty.z T6) e b).2).2).2).2).2) k) fun c=>
 some (c.1,b,c.2.1,c.2.2)
 else
 Ey (0≤a∧a<e.length)<|
 D4 (f196 g ((((((rd (Ty.z T6) e a).2).2).2).2).1,(((((rd (Ty.z T6) e a).2).2).2).2).2) k) fun d=>
 some (d.1,(-1:Int),d.2.1,d.2.2)
def f157 (i:NL) (h a b k:Int):Option Ki:=
 D4 (f157_j1 i h a b) fun l=>
 F5 l (fun d=>
 D4 (f157_j2 h k) fun j=>
 D4 (f157_j3 h a b k d) fun c=>
 bif (c.1 != 0) then
 some ((0:Int),c.1,d)
 else
 D4 (f156 d (h,a,c.2.1,j,c.2.2.1,c.2.2.2)) fun g=>
 some (g.1,(0:Int),g.2)) (fun e=>
 some ((0:Int),e.1,e.2))
instance H157 (l:NL) (j a b k:Int): HF 157 [P0 0 0,.dat T0 j,.dat T0 a,.dat T0 b,.dat T0 k] [(0,.cells [(.osl 1)]),(1,.arr 161 T6 l)] 2 (f157 l j a b k) (fun y=>[.dat T0 y.1,.dat T0 y.2.1]) (fun y=>[(0,.cells [(.osl 2)]),(2,.arr 161 T6 y.2.2)]) 3:=hd Tryz.f157 rfl fun y q=>by
 unfold f157 at q
 refine OL ?_
 obtain ⟨t,o,q⟩:=bE q
 let s:LE:=fun u=>(0,P0 0 0)::(1,.dat T0 j)::(2,.dat T0 a)::(3,.dat T0 b)::(4,.dat T0 k)::u
 refine OQ ⟨Sum.elim (fun d=>[(0,⟨s [],[(0,.cells [(.osl 1)]),(1,.arr 161 T6 d)],2⟩)]) (fun i=>[(1,⟨[(10,D0 0),(11,.dat T0 i.1)],[(0,.cells [(.osl 1)]),(1,.arr 161 T6 i.2)],2⟩)]) t,?_,?_⟩
 ·have q:=o
  unfold f157_j1 at q
  exact gV
 rcases t with d | i
 ·dsimp only [F5] at q
  refine AI (OL (OL ?_)) TV
  obtain ⟨p,n,q⟩:=bE q
  refine OQ ⟨[(0,⟨s [(12,P0 2 0)],[(0,.cells [(.osl 1)]),(1,.arr 161 T6 d),(2,.cells [(.d T0 j),(.d T0 a),(.d T0 (-1:Int)),(.d T0 p),N0,N0])],3⟩)],?_,?_⟩
  ·have q:=n
   unfold f157_j2 at q
   exact gV
  refine AI (OL ?_) TV
  obtain ⟨c,m,q⟩:=bE q
  refine OQ ⟨[(0,⟨[(0,P0 0 0),(12,P0 2 0),(13,.dat T0 c.1)],[(0,.cells [(.osl 1)]),(1,.arr 161 T6 d),(2,.cells [(.d T0 j),(.d T0 a),(.d T0 c.2.1),(.d T0 p),(.osl 3),(.osl 4)]),(3,.arr 3 T0 c.2.2.1),(4,.arr 35 T0 c.2.2.2)],5⟩)],?_,?_⟩
  ·have q:=m
   unfold f157_j3 at q
   exact gV
  exact gV
 exact gV
def f102 (d:NL) (e:Int) (g c:LI) (i a b k:Int):Option PTz11:=
 bif (e != 0) then
 some ((0:Int),e,g,c,d)
 else
 D4 (f157 d i a b k) fun h=>
 some (h.1,h.2.1,g,c,h.2.2)
instance H102 (d:NL) (i:Int) (j c:LI) (l a b k:Int): HF 102 [P0 0 0,.dat T0 l,.dat T0 a,.dat T0 b,.dat T0 k] [(0,.cells [(.ptr 1 0),(.d T0 i),(.d T4 j),(.osl 3)]),(1,.cells [(.osl 2)]),(2,.arr 161 T6 d),(3,.arr 3 T0 c)] 4 (f102 d i j c l a b k) (fun y=>[.dat T0 y.1]) (fun y=>[(0,.cells [(.ptr 1 0),(.d T0 y.2.1),(.d T4 y.2.2.1),(.osl 3)]),(1,.cells [(.osl 4)]),(3,.arr 3 T0 y.2.2.2.1),(4,.arr 161 T6 y.2.2.2.2)]) 5:=hd Tryz.f102 rfl fun y q=>by
 unfold f102 at q
 exact gV
def f68_j1 (c:LI) (d:Int) (a:Int×PTz11):Option PTz11:=
 bif ((c.length:Int)==2) then
 D4 (f102 a.2.2.2.2.2 a.2.2.1 a.2.2.2.1 a.2.2.2.2.1 (14:Int) d (0:Int) (0:Int)) fun b=>
 some (b.1,b.2.1,b.2.2.1,b.2.2.2.1,b.2.2.2.2)
 else
 some (d,a.2.2.1,a.2.2.2.1,a.2.2.2.2.1,a.2.2.2.2.2)
def f68 (h:NL) (q:Int) (r b:LI) (l:PTz13) (k:LI) (i g:Int):Option PTz11:=
 D4 (f98 (l.1,l.2.1,l.2.2) k) fun s=>
 D4 (f101 h q r b s) fun a=>
 bif (ByteArray.toList l.1==ByteArray.toList (ByteArray.mk #[100,101,110,115,101])) then
 D4 (f68_j1 k i a) fun o=>
 D4 (f102 o.2.2.2.2 o.2.1 o.2.2.1 o.2.2.2.1 (4:Int) a.1 o.1 (0:Int)) fun m=>
 D4 (f102 m.2.2.2.2 m.2.1 m.2.2.1 m.2.2.2.1 (8:Int) m.1 (0:Int) (1:Int)) fun p=>
 D4 (f102 p.2.2.2.2 p.2.1 p.2.2.1 p.2.2.2.1 (2:Int) p.1 a.2.1 (0:Int)) fun n=>
 some (n.1,n.2.1,n.2.2.1,n.2.2.2.1,n.2.2.2.2)
 else
 bif (ByteArray.toList l.1==ByteArray.toList (ByteArray.mk #[99,111,110,118])) then
 D4 (f102 a.2.2.2.2.2 a.2.2.1 a.2.2.2.1 a.2.2.2.2.1 (12:Int) i a.1 (1:Int)) fun j=>
 some (j.1,j.2.1,j.2.2.1,j.2.2.2.1,j.2.2.2.2)
 else
 bif (ByteArray.toList l.1==ByteArray.toList (ByteArray.mk #[112,111,111,108])) then
 D4 (f102 a.2.2.2.2.2 a.2.2.1 a.2.2.2.1 a.2.2.2.2.1 (13:Int) i (0:Int) l.2.1) fun e=>
 some (e.1,e.2.1,e.2.2.1,e.2.2.2.1,e.2.2.2.2)
 else
 bif (ByteArray.toList l.1==ByteArray.toList (ByteArray.mk #[98,101,110,100])) then
 D4 (f102 a.2.2.2.2.2 a.2.2.1 a.2.2.2.1 a.2.2.2.2.1 (11:Int) i (0:Int) l.2.1) fun d=>
 some (d.1,d.2.1,d.2.2.1,d.2.2.2.1,d.2.2.2.2)
 else
 D4 (f102 a.2.2.2.2.2 a.2.2.1 a.2.2.2.1 a.2.2.2.2.1 (2:Int) g i (0:Int)) fun c=>
 some (c.1,c.2.1,c.2.2.1,c.2.2.2.1,c.2.2.2.2)
instance H68 (d:NL) (i:Int) (j b:LI) (l:PTz13) (k:LI) (o c:Int): HF 68 [P0 0 0,.dat T1 l,.dat T4 k,.dat T0 o,.dat T0 c] [(0,.cells [(.ptr 1 0),(.d T0 i),(.d T4 j),(.osl 3)]),(1,.cells [(.osl 2)]),(2,.arr 161 T6 d),(3,.arr 3 T0 b)] 4 (f68 d i j b l k o c) (fun y=>[.dat T0 y.1]) (fun y=>[(0,.cells [(.ptr 1 0),(.d T0 y.2.1),(.d T4 y.2.2.1),(.osl 4)]),(1,.cells [(.osl 5)]),(4,.arr 3 T0 y.2.2.2.1),(5,.arr 161 T6 y.2.2.2.2)]) 6:=hd Tryz.f68 rfl fun y q=>by
 unfold f68 at q
 refine OL (OL ?_)
 obtain ⟨s,h,q⟩:=bE q
 refine cL h gW ?_
 refine R4 (AI (lQ rfl) (R2 (AI TV (AI TV ?_))))
 obtain ⟨p,h,q⟩:=bE q
 refine cL h gW ?_
 refine R2 (AI (lQ rfl) (R2 (AJ (AI (R4 TV) (OL (OL (OL (cI q (fun q=>?_) (fun q=>?_)))))))))
 ·obtain ⟨m,n,q⟩:=bE q
  refine OQ ⟨[(0,⟨[(0,P0 0 0),(3,.dat T0 m.1),(11,.dat T0 p.1),(12,.dat T0 p.2.1)],[(0,.cells [(.ptr 1 0),(.d T0 m.2.1),(.d T4 m.2.2.1),(.osl 4)]),(1,.cells [(.osl 5)]),(4,.arr 3 T0 m.2.2.2.1),(5,.arr 161 T6 m.2.2.2.2)],6⟩)],?_,?_⟩
  ·have q:=n
   unfold f68_j1 at q
   exact gV
  exact gV
 exact gV
def f69 (a:NL) (n:Int):Option NL:=
 Ey (0≤(if (a.length:Int)<(if (0:Int)>n then (0:Int) else n) then (a.length:Int) else (if (0:Int)>n then (0:Int) else n))∧(if (a.length:Int)<(if (0:Int)>n then (0:Int) else n) then (a.length:Int) else (if (0:Int)>n then (0:Int) else n))≤a.length)<|
 some (List.take (Int.toNat (if (a.length:Int)<(if (0:Int)>n then (0:Int) else n) then (a.length:Int) else (if (0:Int)>n then (0:Int) else n))) a)
instance H69 (b:NL) (n:Int): HF 69 [P0 0 0,.dat T0 n] [(0,.cells [(.osl 1)]),(1,.arr 161 T6 b)] 2 (f69 b n) (fun _=>[]) (fun y=>[(0,.cells [(.osl 2)]),(2,.arr 161 T6 y)]) 3:=hd Tryz.f69 rfl fun y q=>by
 unfold f69 at q
 refine EI (tU 0 13 (.alt 13 (.take 14 (.take 15 (.alt 16 .done .done))) .done)) (EI [(16,[0])] (EI [] (AI rfl (AI TV (OQ (OQ ?_))))))
 exact gV
def f36_j3 (n:Js) (d a:LI) (b:PTz14):Option Bool:=
 bif ((d.length:Int) != b.1) then
 some true
 else
 D4 (f65 n.1) fun c=>
 some ((a.length:Int) != c)
def f36_j2 (n:Js) (c a:LI) (b:PTz14):Option (Sum Unit Unit):=
 D4 (f36_j3 n c a b) fun d=>
 bif d then
 some (Sum.inr ())
 else
 some (Sum.inl ())
def f36_l4 (n:Js) (c:Int×(List LI)) (k:(Int×Int×Int×Int×LI×NL×LI)→Option (Int×Int×LI×NL×LI)) (h g b e:Int) (d:LI) (i:NL) (j:LI):Option (Int×Int×LI×NL×LI):=
 bif (decide (b<n.2.length)) then
 Ey (0≤b∧b<n.2.length)<|
 Ey (0≤b∧b<c.2.length)<|
 D4 (f68 i e d j ((rd (Ty.z T1) n.2 b).1,((rd (Ty.z T1) n.2 b).2).1,((rd (Ty.z T1) n.2 b).2).2) (rd (Ty.z T4) c.2 b) h g) fun a=>
 k (a.1,h,(i64.wrap (b+1)),a.2.1,a.2.2.1,a.2.2.2.2,a.2.2.2.1)
 else
 some (h,e,d,i,j)
def f36 (e:NL) (n:Js) (i g:LI):Option (Int×Int×LI×NL):=
 D4 (f63 (n.1,n.2)) fun a=>
 bif (a.1 != 0) then
 some ((0:Int),a.1,[],e)
 else
 D4 (f64 (n.1,n.2) a.2) fun k=>
 D4 (f36_j2 n i g k) fun o=>
 F5 o (fun j=>
 D4 (f66 e) fun h=>
 D4 (f67 h.2 (0:Int) i ([]) n.1 g) fun c=>
 D4 (Fp (fun m x=>f36_l4 n a m x.1 x.2.1 x.2.2.1 x.2.2.2.1 x.2.2.2.2.1 x.2.2.2.2.2.1 x.2.2.2.2.2.2) Fq (c.1,(0:Int),(0:Int),c.2.1,c.2.2.1,c.2.2.2.2,c.2.2.2.1)) fun b=>
 bif (b.2.1 != 0) then
 D4 (f69 b.2.2.2.1 h.1) fun d=>
 some ((0:Int),b.2.1,[],d)
 else
 some (b.1,(0:Int),b.2.2.2.2,b.2.2.2.1)) (fun l=>
 some ((0:Int),(1:Int),[],e))
instance H36 (c:NL) (n:Js) (l o:LI): HF 36 [P0 0 0,.dat T2 n,.dat T4 l,.dat T4 o] [(0,.cells [(.osl 1)]),(1,.arr 161 T6 c)] 2 (f36 c n l o) (fun y=>[.dat T0 y.1,O0 2,.dat T0 y.2.1]) (fun y=>[(0,.cells [(.osl 3)]),(2,.arr 3 T0 y.2.2.1),(3,.arr 161 T6 y.2.2.2)]) 4:=hd Tryz.f36 rfl fun y q=>by
 unfold f36 at q
 refine OL (OL ?_)
 obtain ⟨b,h,q⟩:=bE q
 refine cL h gW ?_
 refine R3 (AI (lQ rfl) (R2 (AI TV (AI TV (OL (OL (cI q (fun q=>?_) (fun q=>?_))))))))
 ·exact gV
 refine OL ?_
 obtain ⟨r1,h,q⟩:=bE q
 refine cL h gW ?_
 refine R4 (AI (lQ rfl) (R2 (AI TV (AI TV ?_))))
 obtain ⟨z5,k,q⟩:=bE q
 let h0:LH:=fun t=>(0,.cells [(.osl 1)])::(1,.arr 161 T6 c)::t
 let h1:LH:=fun t=>h0 ((2,.cells [(.d T4 n.1),(.d T3 n.2)])::(3,.arr 22 T4 b.2)::t)
 refine OQ ⟨Sum.elim (fun u=>[(0,⟨[(0,P0 0 0),(2,.dat T4 l),(3,.dat T4 o),(5,P0 2 0),(11,O0 3)],h1 [],4⟩)]) (fun w=>[(1,⟨[(8,D0 0),(9,.raw false [N0]),(10,D0 1)],h0 [],2⟩)]) z5,?_,?_⟩
 ·have q:=k
  clear k
  unfold f36_j2 at q
  obtain ⟨z7,v,q⟩:=bE q
  refine OQ ⟨[(0,⟨[(0,P0 0 0),(2,.dat T4 l),(3,.dat T4 o),(5,P0 2 0),(11,O0 3),(47,.dat .bool z7)],h1 [],4⟩)],?_,?_⟩
  ·have q:=v
   unfold f36_j3 at q
   exact gV
  exact gV
 rcases z5 with u | w
 ·dsimp only [F5] at q
  refine AI (OL ?_) TV
  obtain ⟨r9,h,q⟩:=bE q
  refine cL h gW ?_
  refine AI rfl (AI (lQ rfl) (R2 (AJ (AI (R2 TV) (OL ?_)))))
  obtain ⟨b0,h,q⟩:=bE q
  refine cLn h [(4,3,3,T0)] (iuR [5,1,2,8]) false (virtI rfl rfl (virt0 ?_))
  refine R3 (AI NH (R2 (AJ (AI (R4 TV) (OL (OL ?_))))))
  obtain ⟨b1,h,q⟩:=bE q
  refine lJ h (fun x=>⟨[(0,P0 0 0),(11,O0 2),(15,P0 3 0),(16,.dat T0 r9.1),(17,.dat T0 x.1),(18,.dat T0 x.2.1),(60,.dat T3 n.2),(61,.dat T0 (n.2.length:Int)),(62,.dat T0 x.2.2.1)],[(0,.cells [(.osl 4)]),(2,.arr 22 T4 b.2),(3,.cells [(.ptr 0 0),(.d T0 x.2.2.2.1),(.d T4 x.2.2.2.2.1),(.osl 5)]),(4,.arr 161 T6 x.2.2.2.2.2.1),(5,.arr 3 T0 x.2.2.2.2.2.2)],6⟩) (fun z=>[(2,⟨[(0,P0 0 0),(15,P0 2 0),(16,.dat T0 r9.1),(17,.dat T0 z.1)],[(0,.cells [(.osl 3)]),(2,.cells [(.ptr 0 0),(.d T0 z.2.1),(.d T4 z.2.2.1),(.osl 4)]),(3,.arr 161 T6 z.2.2.2.1),(4,.arr 3 T0 z.2.2.2.2)],5⟩)]) gV (fun m=>F3 (fun s=>F3 (fun d=>F3 (fun p=>F3 (fun j=>F3 (fun i=>F3 (fun l4=>fun l5 z q=>?_))))))) ?_
  ·have q:f36_l4 n b _ s d p j i l4 l5=some z:=q
   unfold f36_l4 at q
   exact gV
  exact gV
 exact gV
def f74 (b:NL) (n:Int):Option (Int×Int×Int×Int×Bool×LI×LI×NL):=
 D4 (f111 b n) fun a=>
 bif (!a.1) then
 some ((0:Int),(0:Int),(0:Int),(0:Int),false,[],[],a.2)
 else
 Ey (0≤n∧n<a.2.length)<|
 D4 (f112 ((((((rd (Ty.z T6) a.2 n).2).2).2).2).1,(((((rd (Ty.z T6) a.2 n).2).2).2).2).2)) fun c=>
 some ((rd (Ty.z T6) a.2 n).1,((rd (Ty.z T6) a.2 n).2).1,(((rd (Ty.z T6) a.2 n).2).2).1,((((rd (Ty.z T6) a.2 n).2).2).2).1,true,c.1,c.2,a.2)
instance H74 (b:NL) (n:Int): HF 74 [P0 0 0,.dat T0 n] [(0,.cells [(.osl 1)]),(1,.arr 161 T6 b)] 2 (f74 b n) (fun y=>[.raw true [(.d T0 y.1),(.d T0 y.2.1),(.d T0 y.2.2.1),(.d T0 y.2.2.2.1),(.osl 2),(.osl 3)],.dat .bool y.2.2.2.2.1]) (fun y=>[(0,.cells [(.osl 1)]),(1,.arr 161 T6 y.2.2.2.2.2.2.2),(2,.arr 3 T0 y.2.2.2.2.2.1),(3,.arr 35 T0 y.2.2.2.2.2.2.1)]) 4:=hd Tryz.f74 rfl fun y q=>by
 unfold f74 at q
 exact gV
def f39 (b:NL) (n:Int):Option (Bool×LI×LI×NL):=
 D4 (f74 b n) fun a=>
 some (a.2.2.2.2.1,a.2.2.2.2.2.1,a.2.2.2.2.2.2.1,a.2.2.2.2.2.2.2)
instance H39 (b:NL) (n:Int): HF 39 [P0 0 0,.dat T0 n] [(0,.cells [(.osl 1)]),(1,.arr 161 T6 b)] 2 (f39 b n) (fun y=>[.raw true [(.osl 2),(.osl 3)],.dat .bool y.1]) (fun y=>[(0,.cells [(.osl 1)]),(1,.arr 161 T6 y.2.2.2),(2,.arr 3 T0 y.2.1),(3,.arr 35 T0 y.2.2.1)]) 4:=hd Tryz.f39 rfl fun y q=>by
 unfold f39 at q
 exact gV
def f103_j1 (a:LI) (b:Bool×LI×LI×NL):Option Bool:=
 bif (!b.1) then
 some true
 else
 some ((a.length:Int) != b.2.2.1.length)
def f103 (c:NL) (d:Int) (b:LI):Option (Int×NL):=
 D4 (f39 c d) fun a=>
 D4 (f103_j1 b a) fun e=>
 bif e then
 some ((1:Int),a.2.2.2)
 else
 bif ((a.2.1.length:Int) != 1) then
 some ((4:Int),a.2.2.2)
 else
 some ((0:Int),a.2.2.2)
instance H103 (c:NL) (d:Int) (b:LI): HF 103 [P0 0 0,.dat T0 d,.dat T4 b] [(0,.cells [(.osl 1)]),(1,.arr 161 T6 c)] 2 (f103 c d b) (fun y=>[.dat T0 y.1]) (fun y=>[(0,.cells [(.osl 1)]),(1,.arr 161 T6 y.2)]) 2:=hd Tryz.f103 rfl fun y q=>by
 unfold f103 at q
 refine OL (OL ?_)
 obtain ⟨j,h,q⟩:=bE q
 refine cL h gW ?_
 refine R2 (AI (lQ rfl) (R2 (AJ (AI (R2 TV) (OL (OL ?_))))))
 obtain ⟨k,i,q⟩:=bE q
 refine OQ ⟨[(0,⟨[(7,P0 2 0),(15,.dat .bool k)],[(0,.cells [(.osl 1)]),(1,.arr 161 T6 j.2.2.2),(2,.cells [(.osl 3),(.osl 4)]),(3,.arr 3 T0 j.2.1),(4,.arr 35 T0 j.2.2.1)],5⟩)],?_,?_⟩
 ·have q:=i
  unfold f103_j1 at q
  exact gV
 exact gV
def f104 (a:NL):Option (Int×NL):=
 D4 (f66 a) fun b=>
 some (b.1,b.2)
instance H104 (b:NL): HF 104 [P0 0 0] [(0,.cells [(.osl 1)]),(1,.arr 161 T6 b)] 2 (f104 b) (fun _=>[P0 2 0]) (fun y=>[(0,.cells [(.osl 1)]),(1,.arr 161 T6 y.2),(2,.cells [(.ptr 0 0),(.d T0 y.1),(.d T0 (0:Int))])]) 3:=hd Tryz.f104 rfl fun y q=>by
 unfold f104 at q
 exact gV
def f106 (a:NL) (b c:Int) (v:LI):Option (Int×Ki):=
 bif (c != 0) then
 some ((0:Int),b,c,a)
 else
 D4 (f100 a ([(v.length:Int)],v)) fun d=>
 some (d.1,b,d.2.1,d.2.2)
instance H106 (b:NL) (c d:Int) (v:LI): HF 106 [P0 0 0,.dat T4 v] [(0,.cells [(.ptr 1 0),(.d T0 c),(.d T0 d)]),(1,.cells [(.osl 2)]),(2,.arr 161 T6 b)] 3 (f106 b c d v) (fun y=>[.dat T0 y.1]) (fun y=>[(0,.cells [(.ptr 1 0),(.d T0 y.2.1),(.d T0 y.2.2.1)]),(1,.cells [(.osl 3)]),(3,.arr 161 T6 y.2.2.2)]) 4:=hd Tryz.f106 rfl fun y q=>by
 unfold f106 at q
 exact gV
def f105 (c:NL) (d e h a b k:Int):Option (Int×Ki):=
 bif (e != 0) then
 some ((0:Int),d,e,c)
 else
 D4 (f157 c h a b k) fun g=>
 some (g.1,d,g.2.1,g.2.2)
instance H105 (c:NL) (d i j a b k:Int): HF 105 [P0 0 0,.dat T0 j,.dat T0 a,.dat T0 b,.dat T0 k] [(0,.cells [(.ptr 1 0),(.d T0 d),(.d T0 i)]),(1,.cells [(.osl 2)]),(2,.arr 161 T6 c)] 3 (f105 c d i j a b k) (fun y=>[.dat T0 y.1]) (fun y=>[(0,.cells [(.ptr 1 0),(.d T0 y.2.1),(.d T0 y.2.2.1)]),(1,.cells [(.osl 3)]),(3,.arr 161 T6 y.2.2.2)]) 4:=hd Tryz.f105 rfl fun y q=>by
 unfold f105 at q
 exact gV
def f107 (b:NL) (a c n:Int):Option (Int×Int×Ki):=
 bif (c != 0) then
 D4 (f69 b a) fun d=>
 some ((0:Int),c,a,c,d)
 else
 some (n,(0:Int),a,c,b)
instance H107 (b:NL) (c d n:Int): HF 107 [P0 0 0,.dat T0 n] [(0,.cells [(.ptr 1 0),(.d T0 c),(.d T0 d)]),(1,.cells [(.osl 2)]),(2,.arr 161 T6 b)] 3 (f107 b c d n) (fun y=>[.dat T0 y.1,.dat T0 y.2.1]) (fun y=>[(0,.cells [(.ptr 1 0),(.d T0 y.2.2.1),(.d T0 y.2.2.2.1)]),(1,.cells [(.osl 3)]),(3,.arr 161 T6 y.2.2.2.2)]) 4:=hd Tryz.f107 rfl fun y q=>by
 unfold f107 at q
 exact gV
def f70 (i:NL) (c:Int) (a:LI):Option Ki:=
 D4 (f103 i c a) fun d=>
 bif (d.1 != 0) then
 some ((0:Int),d.1,d.2)
 else
 D4 (f104 d.2) fun k=>
 D4 (f106 k.2 k.1 (0:Int) a) fun h=>
 D4 (f105 h.2.2.2 h.2.1 h.2.2.1 (3:Int) c h.1 (0:Int)) fun b=>
 D4 (f105 b.2.2.2 b.2.1 b.2.2.1 (4:Int) b.1 b.1 (0:Int)) fun g=>
 D4 (f105 g.2.2.2 g.2.1 g.2.2.1 (10:Int) g.1 (0:Int) (0:Int)) fun e=>
 D4 (f107 e.2.2.2 e.2.1 e.2.2.1 e.1) fun j=>
 some (j.1,j.2.1,j.2.2.2.2)
instance H70 (d:NL) (c:Int) (b:LI): HF 70 [P0 0 0,.dat T0 c,.dat T4 b] [(0,.cells [(.osl 1)]),(1,.arr 161 T6 d)] 2 (f70 d c b) (fun y=>[.dat T0 y.1,.dat T0 y.2.1]) (fun y=>[(0,.cells [(.osl 2)]),(2,.arr 161 T6 y.2.2)]) 3:=hd Tryz.f70 rfl fun y q=>by
 unfold f70 at q
 exact gV
def f71 (i:NL) (b:Int) (a:LI):Option Ki:=
 D4 (f103 i b a) fun d=>
 bif (d.1 != 0) then
 some ((0:Int),d.1,d.2)
 else
 D4 (f104 d.2) fun k=>
 D4 (f106 k.2 k.1 (0:Int) a) fun h=>
 D4 (f105 h.2.2.2 h.2.1 h.2.2.1 (3:Int) b h.1 (0:Int)) fun c=>
 D4 (f105 c.2.2.2 c.2.1 c.2.2.1 (11:Int) c.1 (0:Int) (4:Int)) fun g=>
 D4 (f105 g.2.2.2 g.2.1 g.2.2.1 (10:Int) g.1 (0:Int) (0:Int)) fun e=>
 D4 (f107 e.2.2.2 e.2.1 e.2.2.1 e.1) fun j=>
 some (j.1,j.2.1,j.2.2.2.2)
instance H71 (d:NL) (c:Int) (b:LI): HF 71 [P0 0 0,.dat T0 c,.dat T4 b] [(0,.cells [(.osl 1)]),(1,.arr 161 T6 d)] 2 (f71 d c b) (fun y=>[.dat T0 y.1,.dat T0 y.2.1]) (fun y=>[(0,.cells [(.osl 2)]),(2,.arr 161 T6 y.2.2)]) 3:=hd Tryz.f71 rfl fun y q=>by
 unfold f71 at q
 exact gV
def f72_j1 (a:Int) (b:Bool×LI×LI×NL):Option (Sum Unit Int):=
 bif (!b.1) then
 some (Sum.inr (1:Int))
 else
 bif ((b.2.1.length:Int) != 1) then
 some (Sum.inr (4:Int))
 else
 bif (decide (a<0)) then
 some (Sum.inr (4:Int))
 else
 bif (decide (a≥b.2.2.1.length)) then
 some (Sum.inr (4:Int))
 else
 some (Sum.inl ())
def f72 (p:NL) (i a:Int):Option Ki:=
 D4 (f39 p i) fun j=>
 D4 (f72_j1 a j) fun t=>
 F5 t (fun u=>
 D4 (f73 j.2.1 (0:Int)) fun s=>
 D4 (f108 ([(4294967296:Int)]) (j.2.2.1.length:Int)) fun q=>
 Ey (0≤a∧a<s.2.2.length)<|
 Ey (0≤a∧a<q.length)<|
 D4 (f104 j.2.2.2) fun r=>
 D4 (f106 r.2 r.1 (0:Int) (List.set s.2.2 (Int.toNat a) (-4294967296:Int))) fun m=>
 D4 (f106 m.2.2.2 m.2.1 m.2.2.1 (List.set q (Int.toNat a) (0:Int))) fun k=>
 D4 (f105 k.2.2.2 k.2.1 k.2.2.1 (4:Int) i m.1 (0:Int)) fun n=>
 D4 (f105 n.2.2.2 n.2.1 n.2.2.1 (9:Int) n.1 (0:Int) (0:Int)) fun l=>
 D4 (f105 l.2.2.2 l.2.1 l.2.2.1 (2:Int) i l.1 (0:Int)) fun b=>
 D4 (f105 b.2.2.2 b.2.1 b.2.2.1 (2:Int) b.1 k.1 (0:Int)) fun g=>
 D4 (f105 g.2.2.2 g.2.1 g.2.2.1 (11:Int) g.1 (0:Int) (1:Int)) fun e=>
 D4 (f105 e.2.2.2 e.2.1 e.2.2.1 (4:Int) e.1 k.1 (0:Int)) fun c=>
 D4 (f105 c.2.2.2 c.2.1 c.2.2.1 (9:Int) c.1 (0:Int) (0:Int)) fun d=>
 D4 (f107 d.2.2.2 d.2.1 d.2.2.1 d.1) fun h=>
 some (h.1,h.2.1,h.2.2.2.2)) (fun o=>
 some ((0:Int),o,j.2.2.2))
instance H72 (d:NL) (c b:Int): HF 72 [P0 0 0,.dat T0 c,.dat T0 b] [(0,.cells [(.osl 1)]),(1,.arr 161 T6 d)] 2 (f72 d c b) (fun y=>[.dat T0 y.1,.dat T0 y.2.1]) (fun y=>[(0,.cells [(.osl 2)]),(2,.arr 161 T6 y.2.2)]) 3:=hd Tryz.f72 rfl fun y q=>by
 unfold f72 at q
 refine OL (OL ?_)
 obtain ⟨j,h,q⟩:=bE q
 refine cL h gW ?_
 refine R2 (AI (lQ rfl) (R2 (AJ (AI (R2 TV) (OL ?_)))))
 obtain ⟨m,l,q⟩:=bE q
 refine OQ ⟨Sum.elim (fun k=>[(0,⟨[(0,P0 0 0),(1,.dat T0 c),(2,.dat T0 b),(8,P0 2 0)],[(0,.cells [(.osl 1)]),(1,.arr 161 T6 j.2.2.2),(2,.cells [(.osl 3),(.osl 4)]),(3,.arr 3 T0 j.2.1),(4,.arr 35 T0 j.2.2.1)],5⟩)]) (fun i=>[(1,⟨[(6,D0 0),(7,.dat T0 i)],[(0,.cells [(.osl 1)]),(1,.arr 161 T6 j.2.2.2)],2⟩)]) m,?_,?_⟩
 ·have q:=l
  unfold f72_j1 at q
  exact gV
 rcases m with k | i
 ·exact gV
 exact gV
def f37 (b:NL) (a c:Int) (e:PTz12):Option Ki:=
 bif (a==1) then
 D4 (f70 b c e.2.1) fun g=>
 some (g.1,g.2.1,g.2.2)
 else
 bif (a==2) then
 D4 (f71 b c e.2.1) fun d=>
 some (d.1,d.2.1,d.2.2)
 else
 D4 (f72 b c e.2.2) fun h=>
 some (h.1,h.2.1,h.2.2)
instance H37 (d:NL) (b c:Int) (e:PTz12): HF 37 [P0 0 0,.dat T0 b,.dat T0 c,.dat T10 e] [(0,.cells [(.osl 1)]),(1,.arr 161 T6 d)] 2 (f37 d b c e) (fun y=>[.dat T0 y.1,.dat T0 y.2.1]) (fun y=>[(0,.cells [(.osl 2)]),(2,.arr 161 T6 y.2.2)]) 3:=hd Tryz.f37 rfl fun y q=>by
 unfold f37 at q
 exact gV
def f160_j3 (a:Fz) (d:LI):Option Bool:=
 D4 (f113 (a.1,a.2)) fun c=>
 bif (!c) then
 some true
 else
 D4 (f99 d) fun b=>
 some (!b)
def f160_j2 (a:Fz) (d:LI):Option (Sum Unit Unit):=
 D4 (f160_j3 a d) fun b=>
 bif b then
 some (Sum.inr ())
 else
 some (Sum.inl ())
def f160_j6 (a:Fz) (b:Jy):Option Bool:=
 bif (b.1 != 0) then
 some true
 else
 D4 (f114 b.2 a.1) fun c=>
 some (!c)
def f160_j5 (a:Fz) (b:Jy):Option (Sum Unit Unit):=
 D4 (f160_j6 a b) fun c=>
 bif c then
 some (Sum.inr ())
 else
 some (Sum.inl ())
def f160_l7 (a:Fz) (c:LI) (g:Jy→Option LI) (b:Int) (e:LI):Option LI:=
 bif (decide (b<a.2.length)) then
 Ey (0≤b∧b<a.2.length)<|
 Ey (0≤b∧b<c.length)<|
 Ey (0≤b∧b<c.length)<|
 Ey (0≤(rd 0 c b)∧(rd 0 c b)<e.length)<|
 D4 (f87 (rd 0 e (rd 0 c b)) (rd 0 a.2 b)) fun d=>
 Ey (0≤(rd 0 c b)∧(rd 0 c b)<e.length)<|
 g ((i64.wrap (b+1)),(List.set e (Int.toNat (rd 0 c b)) d))
 else
 some e
def f160 (a:Fz) (d:LI):Option Jn:=
 D4 (f160_j2 a d) fun n=>
 F5 n (fun k=>
 D4 (f198 d a.1) fun e=>
 D4 (f160_j5 a e) fun h=>
 F5 h (fun j=>
 D4 (f73 d (0:Int)) fun b=>
 D4 (f199 d a.1) fun g=>
 D4 (Fp (fun m x=>f160_l7 a g m x.1 x.2) Fq ((0:Int),b.2.2)) fun c=>
 some ((0:Int),b.2.1,c)) (fun i=>
 some ((4:Int),[],[]))) (fun l=>
 some ((1:Int),[],[]))
instance H160 (a:Fz) (d:LI): HF 160 [.dat T7 a,.dat T4 d] [] 0 (f160 a d) (fun y=>[.raw true [(.osl 0),(.osl 1)],.dat T0 y.1]) (fun y=>[(0,.arr 3 T0 y.2.1),(1,.arr 35 T0 y.2.2)]) 2:=hd Tryz.f160 rfl fun y q=>by
 unfold f160 at q
 refine OL ?_
 obtain ⟨z5,n,q⟩:=bE q
 let p:LE:=fun w=>(1,.dat T4 d)::(2,P0 0 0)::(4,P0 1 0)::w
 let s:LH:=fun w=>(0,.cells [(.d T4 a.1),(.d T4 a.2)])::(1,.cells [N0,N0])::w
 refine OQ ⟨Sum.elim (fun b0=>[(0,⟨p [],s [],2⟩)]) (fun b1=>[(1,⟨[(4,P0 0 0),(5,D0 1)],[(0,.cells [N0,N0])],1⟩)]) z5,?_,?_⟩
 ·have q:=n
  clear n
  unfold f160_j2 at q
  obtain ⟨z8,u,q⟩:=bE q
  refine OQ ⟨[(0,⟨p [(20,.dat .bool z8)],s [],2⟩)],?_,?_⟩
  ·have q:=u
   unfold f160_j3 at q
   exact gV
  exact gV
 rcases z5 with b0 | b1
 ·dsimp only [F5] at q
  refine AI (OL ?_) TV
  obtain ⟨b3,h,q⟩:=bE q
  refine cL h gW ?_
  refine R3 (AI (lQ rfl) (R2 (AI TV (AI TV ?_))))
  obtain ⟨k,b,q⟩:=bE q
  refine OQ ⟨Sum.elim (fun j=>[(0,⟨p [],s [],2⟩)]) (fun i=>[(1,⟨[(4,P0 0 0),(5,D0 4)],[(0,.cells [N0,N0])],1⟩)]) k,?_,?_⟩
  ·have q:=b
   clear b
   unfold f160_j5 at q
   obtain ⟨v,l,q⟩:=bE q
   refine OQ ⟨[(0,⟨p [(37,.dat .bool v)],s [],2⟩)],?_,?_⟩
   ·have q:=l
    unfold f160_j6 at q
    exact gV
   exact gV
  rcases k with j | i
  ·dsimp only [F5] at q
   refine AI (OL ?_) TV
   obtain ⟨c,h,q⟩:=bE q
   refine cL h gW ?_
   refine R3 (AI (lQ rfl) (R2 (AI TV (AI TV (OL (OL ?_))))))
   obtain ⟨o,h,q⟩:=bE q
   refine cL h gW ?_
   refine R3 (AI (lQ rfl) (R2 (AI TV (AI TV (OL (OL ?_))))))
   obtain ⟨b2,h,q⟩:=bE q
   refine lJ h (fun x=>⟨[(4,P0 0 0),(8,P0 1 0),(10,O0 2),(49,.dat T4 a.2),(50,.dat T0 (a.2.length:Int)),(51,.dat T0 x.1)],[(0,.cells [N0,N0]),(1,.cells [(.osl 3),(.osl 4)]),(2,.arr 3 T0 o),(3,.arr 3 T0 c.2.1),(4,.arr 35 T0 x.2)],5⟩) (fun z=>[(2,⟨[(4,P0 0 0),(8,P0 1 0)],[(0,.cells [N0,N0]),(1,.cells [(.osl 2),(.osl 3)]),(2,.arr 3 T0 c.2.1),(3,.arr 35 T0 z)],4⟩)]) gV (fun m=>F3 (fun t=>fun l4 z q=>?_)) ?_
   ·have q:f160_l7 a o _ t l4=some z:=q
    unfold f160_l7 at q
    refine OL (OL (cI q (fun q=>?_) (fun q=>?_)))
    ·refine OL (OL (gI q (fun q=>?_)))
     refine EI (tU 0 15 (.alt 15 (.take 16 (.alt 17 .done .done)) .done)) (EI [(17,[4])] (EI [] (AI rfl ?_)))
     exact gV
    exact gV
   exact gV
  exact gV
 exact gV
def f162 (t:Fz) (e:Int) (d:LI):Option Jn:=
 bif (e != 0) then
 some (e,[],[])
 else
 D4 (f160 (t.1,t.2) d) fun a=>
 some (a.1,a.2.1,a.2.2)
instance H162 (t:Fz) (e:Int) (d:LI): HF 162 [.dat T7 t,.dat T0 e,.dat T4 d] [] 0 (f162 t e d) (fun y=>[.raw true [(.osl 0),(.osl 1)],.dat T0 y.1]) (fun y=>[(0,.arr 3 T0 y.2.1),(1,.arr 35 T0 y.2.2)]) 2:=hd Tryz.f162 rfl fun y q=>by
 unfold f162 at q
 exact gV
def f164 (a b:Fz) (c:Bool):Option Jn:=
 bif c then
 D4 (f165 (a.1,a.2)) fun d=>
 bif (d.1 != 0) then
 some (d.1,[],[])
 else
 D4 (f200 (d.2.1,d.2.2) (b.1,b.2)) fun g=>
 some (g.1,g.2.1,g.2.2)
 else
 D4 (f165 (b.1,b.2)) fun e=>
 bif (e.1 != 0) then
 some (e.1,[],[])
 else
 D4 (f200 (a.1,a.2) (e.2.1,e.2.2)) fun h=>
 some (h.1,h.2.1,h.2.2)
instance H164 (a b:Fz) (c:Bool): HF 164 [.dat T7 a,.dat T7 b,.dat .bool c] [] 0 (f164 a b c) (fun y=>[.raw true [(.osl 0),(.osl 1)],.dat T0 y.1]) (fun y=>[(0,.arr 3 T0 y.2.1),(1,.arr 35 T0 y.2.2)]) 2:=hd Tryz.f164 rfl fun y q=>by
 unfold f164 at q
 exact gV
def f166_l1 (g:Fz) (d:LI) (e:Int) (a:Jn) (i:Jy→Option LI) (c:Int) (h:LI):Option LI:=
 bif (decide (c<a.2.2.length)) then
 D4 (f203 d c) fun a=>
 Ey (0≤e∧e≤a.2.length)<|
 Ey (0≤(i64.wrap (e+1))∧(i64.wrap (e+1))≤a.2.length)<|
 Ey ((List.length ([]:LI)+List.length (List.take (Int.toNat e) a.2))*8≤140737488355328)<|
 Ey ((List.length (([]:LI)++(List.take (Int.toNat e) a.2))+List.length (List.drop (Int.toNat (i64.wrap (e+1))) a.2))*8≤140737488355328)<|
 D4 (f204 g.1 ((([]:LI)++(List.take (Int.toNat e) a.2))++(List.drop (Int.toNat (i64.wrap (e+1))) a.2))) fun b=>
 Ey (0≤b.1∧b.1<g.2.length)<|
 Ey (0≤c∧c<h.length)<|
 i ((i64.wrap (c+1)),(List.set h (Int.toNat c) (rd 0 g.2 b.1)))
 else
 some h
def f166 (g:Fz) (d:LI) (b:Int):Option Fz:=
 D4 (f73 d (0:Int)) fun a=>
 D4 (Fp (fun c x=>f166_l1 g d b a c x.1 x.2) Fq ((0:Int),a.2.2)) fun e=>
 some (a.2.1,e)
instance H166 (g:Fz) (d:LI) (i:Int): HF 166 [.dat T7 g,.dat T4 d,.dat T0 i] [] 0 (f166 g d i) (fun _=>[.raw true [(.osl 0),(.osl 1)]]) (fun y=>[(0,.arr 3 T0 y.1),(1,.arr 35 T0 y.2)]) 2:=hd Tryz.f166 rfl fun y q=>by
 unfold f166 at q
 refine OL (OL ?_)
 obtain ⟨b,c,q⟩:=bE q
 refine cL c gW ?_
 refine R3 (AI (lQ rfl) (R2 (AI TV (AI TV (OL (OL (OL ?_)))))))
 obtain ⟨l,h,q⟩:=bE q
 refine lJ h (fun x=>⟨[(1,.dat T4 d),(2,.dat T0 i),(3,P0 0 0),(6,P0 1 0),(7,P0 2 0),(22,.dat T0 (b.2.2.length:Int)),(23,.dat T0 x.1)],[(0,.cells [(.d T4 g.1),(.d T4 g.2)]),(1,.cells [N0,N0]),(2,.cells [(.osl 3),(.osl 4)]),(3,.arr 3 T0 b.2.1),(4,.arr 35 T0 x.2)],5⟩) (fun z=>[(2,⟨[(6,P0 0 0),(7,P0 1 0)],[(0,.cells [N0,N0]),(1,.cells [(.osl 2),(.osl 3)]),(2,.arr 3 T0 b.2.1),(3,.arr 35 T0 z)],4⟩)]) gV (fun m=>F3 (fun j=>fun k z q=>?_)) ?_
 ·have q:f166_l1 g d i b _ j k=some z:=q
  unfold f166_l1 at q
  refine OL (OL (cI q (fun q=>?_) (fun q=>?_)))
  ·refine OL (OL (OL ?_))
   obtain ⟨b,h,q⟩:=bE q
   refine cL h gW ?_
   refine R3 (AI (lQ rfl) (R2 (AI TV (AI TV (OL (EI (tU 1 3 (tU 5 4 (.alt 0 (.alt 4 (.alt 9 (.take 10 .done) .done) .done) .done))) (EI [] (EI [5] (AI rfl ?_)))))))))
   exact gV
  exact gV
 exact gV
def f229 (b:Bool) (a c:Int):Option Int:=
 bif b then
 some a
 else
 some c
instance H229 (c:Bool) (b d:Int): HE 229 [.dat .bool c,.dat T0 b,.dat T0 d] (f229 c b d) (fun y=>[.dat T0 y]):=hd Tryz.f229 rfl fun y q=>by
 unfold f229 at q
 exact gV
def f230 (a b:Int):Option Int:=
 bif (decide (a<b)) then
 some (-1:Int)
 else
 bif (decide (a>b)) then
 some (1:Int)
 else
 some (0:Int)
instance H230 (a b:Int): HE 230 [.dat T0 a,.dat T0 b] (f230 a b) (fun y=>[.dat T0 y]):=hd Tryz.f230 rfl fun y q=>by
 unfold f230 at q
 exact gV
def f206_j1 (a:Int):Option Bool:=
 bif (decide (a>(-4294967296:Int))) then
 some (decide (a<4294967296))
 else
 some false
def f206 (a b:Int):Option Ji:=
 D4 (f206_j1 b) fun c=>
 bif (a==1) then
 D4 (f229 (decide (b>0)) (4294967296:Int) (0:Int)) fun d=>
 some (d,(0:Int))
 else
 bif (a==2) then
 D4 (f229 (decide (b>0)) (4294967296:Int) (536870912:Int)) fun i=>
 some (i,(0:Int))
 else
 bif (a==3) then
 D4 (f229 c (4294967296:Int) (0:Int)) fun e=>
 some (e,(0:Int))
 else
 bif (a==4) then
 D4 (f230 b (0:Int)) fun h=>
 some ((i64.wrap (h*4294967296)),(0:Int))
 else
 bif (a==5) then
 D4 (f229 c (2147483648:Int) (0:Int)) fun g=>
 some (g,(0:Int))
 else
 some ((0:Int),(1:Int))
instance H206 (b c:Int): HE 206 [.dat T0 b,.dat T0 c] (f206 b c) (fun y=>[.dat T0 y.1,.dat T0 y.2]):=hd Tryz.f206 rfl fun y q=>by
 unfold f206 at q
 refine OL ?_
 obtain ⟨i,d,q⟩:=bE q
 refine OQ ⟨[(0,⟨[(0,.dat T0 b),(1,.dat T0 c),(6,.dat .bool i)],[],0⟩)],?_,?_⟩
 ·have q:=d
  unfold f206_j1 at q
  exact gV
 exact gV
def f167_j3 (a:Int) (t g:Fz):Option Bool:=
 D4 (f205 a) fun b=>
 bif (!b) then
 some true
 else
 D4 (f113 (t.1,t.2)) fun c=>
 bif (!c) then
 some true
 else
 D4 (f113 (g.1,g.2)) fun d=>
 some (!d)
def f167_j2 (a:Int) (t g:Fz):Option (Sum Unit Int):=
 D4 (f167_j3 a t g) fun b=>
 bif b then
 some (Sum.inr (1:Int))
 else
 D4 (f114 t.1 g.1) fun c=>
 bif (!c) then
 some (Sum.inr (4:Int))
 else
 some (Sum.inl ())
def f167_l4 (d:Int) (t g:Fz) (h:Jy→Option LI) (a:Int) (e:LI):Option LI:=
 bif (decide (a<t.2.length)) then
 Ey (0≤a∧a<t.2.length)<|
 D4 (f206 d (rd 0 t.2 a)) fun b=>
 Ey (0≤a∧a<g.2.length)<|
 D4 (f88 (rd 0 g.2 a) b.1) fun c=>
 Ey (0≤a∧a<e.length)<|
 h ((i64.wrap (a+1)),(List.set e (Int.toNat a) c))
 else
 some e
def f167 (a:Int) (t g:Fz):Option Jn:=
 D4 (f167_j2 a t g) fun e=>
 F5 e (fun h=>
 D4 (f112 (g.1,g.2)) fun b=>
 D4 (Fp (fun i x=>f167_l4 a t g i x.1 x.2) Fq ((0:Int),b.2)) fun d=>
 some ((0:Int),b.1,d)) (fun c=>
 some (c,[],[]))
instance H167 (b:Int) (t g:Fz): HF 167 [.dat T0 b,.dat T7 t,.dat T7 g] [] 0 (f167 b t g) (fun y=>[.raw true [(.osl 0),(.osl 1)],.dat T0 y.1]) (fun y=>[(0,.arr 3 T0 y.2.1),(1,.arr 35 T0 y.2.2)]) 2:=hd Tryz.f167 rfl fun y q=>by
 unfold f167 at q
 refine OL ?_
 obtain ⟨o,c,q⟩:=bE q
 let p:LH:=fun s=>(0,.cells [(.d T4 t.1),(.d T4 t.2)])::(1,.cells [(.d T4 g.1),(.d T4 g.2)])::(2,.cells [N0,N0])::s
 refine OQ ⟨Sum.elim (fun l=>[(0,⟨[(0,.dat T0 b),(4,P0 0 0),(5,P0 1 0),(6,P0 2 0)],p [],3⟩)]) (fun i=>[(1,⟨[(6,P0 0 0),(7,.dat T0 i)],[(0,.cells [N0,N0])],1⟩)]) o,?_,?_⟩
 ·have q:=c
  clear c
  unfold f167_j2 at q
  obtain ⟨k,j,q⟩:=bE q
  refine OQ ⟨[(0,⟨[(0,.dat T0 b),(4,P0 0 0),(5,P0 1 0),(6,P0 2 0),(13,.dat .bool k)],p [],3⟩)],?_,?_⟩
  ·have q:=j
   unfold f167_j3 at q
   exact gV
  exact gV
 rcases o with l | i
 ·dsimp only [F5] at q
  refine AI (OL ?_) TV
  obtain ⟨d,h,q⟩:=bE q
  refine cL h gW ?_
  refine R3 (AI (lQ rfl) (R2 (AI TV (AI TV (OL (OL (OL ?_)))))))
  obtain ⟨u,h,q⟩:=bE q
  refine lJ h (fun x=>⟨[(0,.dat T0 b),(5,P0 0 0),(6,P0 1 0),(8,P0 2 0),(39,.dat T4 t.2),(40,.dat T0 (t.2.length:Int)),(41,.dat T0 x.1)],[(0,.cells [(.d T4 g.1),(.d T4 g.2)]),(1,.cells [N0,N0]),(2,.cells [(.osl 3),(.osl 4)]),(3,.arr 3 T0 d.1),(4,.arr 35 T0 x.2)],5⟩) (fun z=>[(3,⟨[(6,P0 0 0),(8,P0 1 0)],[(0,.cells [N0,N0]),(1,.cells [(.osl 2),(.osl 3)]),(2,.arr 3 T0 d.1),(3,.arr 35 T0 z)],4⟩)]) gV (fun m=>F3 (fun n=>fun v z q=>?_)) ?_
  ·have q:f167_l4 b t g _ n v=some z:=q
   unfold f167_l4 at q
   exact gV
  exact gV
 exact gV
def f208 (n:Int):Option Bool:=
 bif (decide (n≥1)) then
 some (decide (n≤4096))
 else
 some false
instance H208 (n:Int): HE 208 [.dat T0 n] (f208 n) (fun y=>[.dat .bool y]):=hd Tryz.f208 rfl fun y q=>by
 unfold f208 at q
 exact gV
def f168_j4 (g k:Fz) (b a:Int):Option Bool:=
 D4 (f113 (g.1,g.2)) fun e=>
 bif (!e) then
 some true
 else
 D4 (f113 (k.1,k.2)) fun h=>
 bif (!h) then
 some true
 else
 D4 (f207 b) fun c=>
 bif (!c) then
 some true
 else
 D4 (f208 a) fun d=>
 some (!d)
def f168_j5 (g k:Fz) (c b:Int):Option Bool:=
 bif ((g.1.length:Int) != 2) then
 some true
 else
 bif ((k.1.length:Int) != 3) then
 some true
 else
 Ey (0≤(0:Int)∧0<(k.1.length:Int))<|
 Ey (0≤(0:Int)∧0<(g.1.length:Int))<|
 bif ((rd 0 k.1 0) != (rd 0 g.1 0)) then
 some true
 else
 Ey (0≤(2:Int)∧2<(k.1.length:Int))<|
 Ey (0≤(1:Int)∧1<(g.1.length:Int))<|
 D4 (f209 b (rd 0 k.1 2) c) fun a=>
 some (a != (rd 0 g.1 1))
def f168_j3 (g k:Fz) (b a:Int):Option (Sum Unit Int):=
 D4 (f168_j4 g k b a) fun c=>
 bif c then
 some (Sum.inr (1:Int))
 else
 D4 (f168_j5 g k b a) fun d=>
 bif d then
 some (Sum.inr (4:Int))
 else
 some (Sum.inl ())
def f168_j45 (g:Fz) (a c d b:Int):Option Bool:=
 Ey (a≠0)<|
 bif ((Int.tmod (i64.wrap ((Int.tmod d c)-b)) a)==0) then
 some (decide ((i64.wrap (Int.tdiv (i64.wrap ((Int.tmod d c)-b)) a))<(rd 0 g.1 1)))
 else
 some false
def f168_l44 (g k:Fz) (l b c d:Int) (n:PTz4→Option PTz15) (a i h e:Int):Option PTz15:=
 bif (decide (a<(if (i64.wrap ((Int.tmod c b)+1))<(rd 0 k.1 2) then (i64.wrap ((Int.tmod c b)+1)) else (rd 0 k.1 2)))) then
 Ey (l≠0)<|
 D4 (f168_j45 g l b c a) fun m=>
 bif m then
 Ey (0≤(i64.wrap ((i64.wrap (d*(rd 0 g.1 1)))+(i64.wrap (Int.tdiv (i64.wrap ((Int.tmod c b)-a)) l))))∧(i64.wrap ((i64.wrap (d*(rd 0 g.1 1)))+(i64.wrap (Int.tdiv (i64.wrap ((Int.tmod c b)-a)) l))))<g.2.length)<|
 Ey (0≤(i64.wrap ((i64.wrap ((i64.wrap ((i64.wrap (d*(rd 0 k.1 1)))+(i64.wrap (Int.tdiv c b))))*(rd 0 k.1 2)))+a))∧(i64.wrap ((i64.wrap ((i64.wrap ((i64.wrap (d*(rd 0 k.1 1)))+(i64.wrap (Int.tdiv c b))))*(rd 0 k.1 2)))+a))<k.2.length)<|
 D4 (f211 i h e (rd 0 g.2 (i64.wrap ((i64.wrap (d*(rd 0 g.1 1)))+(i64.wrap (Int.tdiv (i64.wrap ((Int.tmod c b)-a)) l))))) (rd 0 k.2 (i64.wrap ((i64.wrap ((i64.wrap ((i64.wrap (d*(rd 0 k.1 1)))+(i64.wrap (Int.tdiv c b))))*(rd 0 k.1 2)))+a)))) fun j=>
 n ((i64.wrap (a+1)),j.1,j.2.1,j.2.2)
 else
 n ((i64.wrap (a+1)),i,h,e)
 else
 some (i,h,e)
def f168_l41 (g k:Fz) (i h j:Int) (l:PTz4→Option PTz15) (a d b c:Int):Option PTz15:=
 bif (decide (a<(rd 0 k.1 0))) then
 D4 (Fp (fun l x=>f168_l44 g k i h j a l x.1 x.2.1 x.2.2.1 x.2.2.2) Fq ((0:Int),d,b,c)) fun e=>
 l ((i64.wrap (a+1)),e.1,e.2.1,e.2.2)
 else
 some (d,b,c)
def f168_l32 (g k:Fz) (h b:Int) (e:Jn) (j:Jy→Option LI) (a:Int) (i:LI):Option LI:=
 bif (decide (a<e.2.2.length)) then
 Ey (b≠0)<|
 Ey (b≠0)<|
 D4 (Fp (fun j x=>f168_l41 g k h b a j x.1 x.2.1 x.2.2.1 x.2.2.2) Fq ((0:Int),(0:Int),(0:Int),(0:Int))) fun d=>
 D4 (f212 d.1 d.2.1 d.2.2 (32:Int)) fun c=>
 Ey (0≤a∧a<i.length)<|
 j ((i64.wrap (a+1)),(List.set i (Int.toNat a) c.1))
 else
 some i
def f168 (g k:Fz) (c b:Int):Option Jn:=
 D4 (f168_j3 g k c b) fun h=>
 F5 h (fun i=>
 Ey (0≤(0:Int)∧0<(k.1.length:Int))<|
 Ey (0≤(1:Int)∧1<(k.1.length:Int))<|
 Ey (0≤(2:Int)∧2<(k.1.length:Int))<|
 Ey (0≤(1:Int)∧1<(g.1.length:Int))<|
 D4 (f210 ([(rd 0 k.1 1),b])) fun a=>
 bif (a.1 != 0) then
 some (a.1,[],[])
 else
 D4 (Fp (fun j x=>f168_l32 g k c b a j x.1 x.2) Fq ((0:Int),a.2.2)) fun e=>
 some ((0:Int),a.2.1,e)) (fun d=>
 some (d,[],[]))
instance H168 (g k:Fz) (j d:Int): HF 168 [.dat T7 g,.dat T7 k,.dat T0 j,.dat T0 d] [] 0 (f168 g k j d) (fun y=>[.raw true [(.osl 0),(.osl 1)],.dat T0 y.1]) (fun y=>[(0,.arr 3 T0 y.2.1),(1,.arr 35 T0 y.2.2)]) 2:=hd Tryz.f168 rfl fun y q=>by
 unfold f168 at q
 refine OL ?_
 obtain ⟨b7,u,q⟩:=bE q
 let e0:LE:=fun s=>(2,.dat T0 j)::(3,.dat T0 d)::(4,P0 0 0)::(5,P0 1 0)::(8,P0 2 0)::s
 let h1:LH:=fun s=>(0,.cells [(.d T4 g.1),(.d T4 g.2)])::(1,.cells [(.d T4 k.1),(.d T4 k.2)])::(2,.cells [N0,N0])::s
 refine OQ ⟨Sum.elim (fun b8=>[(0,⟨e0 [],h1 [],3⟩)]) (fun t=>[(1,⟨[(8,P0 0 0),(9,.dat T0 t)],[(0,.cells [N0,N0])],1⟩)]) b7,?_,?_⟩
 ·have q:=u
  clear u
  unfold f168_j3 at q
  obtain ⟨b9,b2,q⟩:=bE q
  refine OQ ⟨[(0,⟨e0 [(23,.dat .bool b9)],h1 [],3⟩)],?_,?_⟩
  ·have q:=b2
   unfold f168_j4 at q
   exact gV
  refine AI (cI q (fun q=>?_) (fun q=>?_)) TV
  ·exact gV
  obtain ⟨c0,b6,q⟩:=bE q
  refine OQ ⟨[(0,⟨e0 [(43,.dat .bool c0)],h1 [],3⟩)],?_,?_⟩
  ·have q:=b6
   unfold f168_j5 at q
   exact gV
  exact gV
 rcases b7 with b8 | t
 ·dsimp only [F5] at q
  refine AI (OL (EI (tU 0 20 .done) (EI [] (EI [] (AI rfl (gI q (fun q=>?_))))))) TV
  refine gI q (fun q=>?_)
  refine gI q (fun q=>?_)
  refine gI q (fun q=>?_)
  refine OL (OL ?_)
  obtain ⟨b,h,q⟩:=bE q
  refine cL h gW ?_
  refine R2 (AI (lQ rfl) (R2 (AI TV (AI TV (OL (OL (OL (cI q (fun q=>?_) (fun q=>?_)))))))))
  ·exact gV
  refine OL (OL ?_)
  obtain ⟨c2,w,q⟩:=bE q
  let e2:LE:=fun s=>e0 ((10,.dat T0 (rd 0 k.1 0))::(11,.dat T0 (rd 0 k.1 1))::(12,.dat T0 (rd 0 k.1 2))::(13,.dat T0 (rd 0 g.1 1))::(14,P0 3 0)::s)
  refine lJ w (fun x=>⟨e2 [(109,.dat T0 (b.2.2.length:Int)),(110,.dat T0 x.1)],h1 [(3,.cells [(.osl 4),(.osl 5)]),(4,.arr 3 T0 b.2.1),(5,.arr 35 T0 x.2)],6⟩) (fun z=>[(3,⟨[(8,P0 0 0),(14,P0 1 0)],[(0,.cells [N0,N0]),(1,.cells [(.osl 2),(.osl 3)]),(2,.arr 3 T0 b.2.1),(3,.arr 35 T0 z)],4⟩)]) gV (fun m=>F3 (fun c=>fun v z q=>?_)) ?_
  ·have q:f168_l32 g k j d b _ c v=some z:=q
   unfold f168_l32 at q
   refine OL (OL (cI q (fun q=>?_) (fun q=>?_)))
   ·refine OL (OL (OL (EI (tU 0 8 .done) (EI [] (EI [] (AI rfl (gI q (fun q=>?_))))))))
    refine gI q (fun q=>?_)
    refine OL (OL (OL ?_))
    obtain ⟨c3,b0,q⟩:=bE q
    let e3:LE:=fun s=>e2 ((16,.dat T0 c)::s)
    let e4:LE:=fun s=>e3 ((17,.dat T0 (i64.wrap (Int.tdiv c d)))::(18,.dat T0 (Int.tmod c d))::(19,P0 4 0)::s)
    let e5:LE:=fun s=>e4 ((109,.dat T0 (b.2.2.length:Int))::(110,.dat T0 c)::(119,.dat T0 (rd 0 k.1 0))::s)
    let h6:LH:=fun s=>h1 ((3,.cells [(.osl 5),(.osl 6)])::s)
    refine lJ b0 (fun x=>⟨e5 [(120,.dat T0 x.1)],h6 [(4,.cells [(.d T0 x.2.1),(.d T0 x.2.2.1),(.d T8 x.2.2.2)]),(5,.arr 3 T0 b.2.1),(6,.arr 35 T0 v)],7⟩) (fun z=>[(5,⟨e3 [(19,P0 4 0),(109,.dat T0 (b.2.2.length:Int)),(110,.dat T0 c)],h6 [(4,.cells [(.d T0 z.1),(.d T0 z.2.1),(.d T8 z.2.2)]),(5,.arr 3 T0 b.2.1),(6,.arr 35 T0 v)],7⟩)]) gV (fun m=>F3 (fun i=>F3 (fun b5=>F3 (fun b1=>fun b3 z q=>?_)))) ?_
    ·have q:f168_l41 g k j d c _ i b5 b1 b3=some z:=q
     unfold f168_l41 at q
     refine OL (OL (cI q (fun q=>?_) (fun q=>?_)))
     ·refine OL (OL (OL ?_))
      obtain ⟨c4,h,q⟩:=bE q
      refine lJ h (fun x=>⟨e4 [(20,.dat T0 i),(109,.dat T0 (b.2.2.length:Int)),(110,.dat T0 c),(119,.dat T0 (rd 0 k.1 0)),(120,.dat T0 i),(126,.dat T0 (if (i64.wrap ((Int.tmod c d)+1))<(rd 0 k.1 2) then (i64.wrap ((Int.tmod c d)+1)) else (rd 0 k.1 2))),(127,.dat T0 x.1)],h6 [(4,.cells [(.d T0 x.2.1),(.d T0 x.2.2.1),(.d T8 x.2.2.2)]),(5,.arr 3 T0 b.2.1),(6,.arr 35 T0 v)],7⟩) (fun z=>[(7,⟨e5 [(120,.dat T0 i)],h6 [(4,.cells [(.d T0 z.1),(.d T0 z.2.1),(.d T8 z.2.2)]),(5,.arr 3 T0 b.2.1),(6,.arr 35 T0 v)],7⟩)]) gV (fun m=>F3 (fun p=>F3 (fun n=>F3 (fun o=>fun l z q=>?_)))) ?_
      ·have q:f168_l44 g k j d c i _ p n o l=some z:=q
       unfold f168_l44 at q
       refine OL (OL (cI q (fun q=>?_) (fun q=>?_)))
       ·refine OL (OL (OL (gI q (fun q=>?_))))
        obtain ⟨c1,b4,q⟩:=bE q
        refine OQ ⟨[(0,⟨e4 [(20,.dat T0 i),(21,.dat T0 p),(22,.dat T0 (i64.wrap (Int.tdiv (i64.wrap ((Int.tmod c d)-p)) j))),(109,.dat T0 (b.2.2.length:Int)),(110,.dat T0 c),(119,.dat T0 (rd 0 k.1 0)),(120,.dat T0 i),(126,.dat T0 (if (i64.wrap ((Int.tmod c d)+1))<(rd 0 k.1 2) then (i64.wrap ((Int.tmod c d)+1)) else (rd 0 k.1 2))),(127,.dat T0 p),(145,.dat .bool c1)],h6 [(4,.cells [(.d T0 n),(.d T0 o),(.d T8 l)]),(5,.arr 3 T0 b.2.1),(6,.arr 35 T0 v)],7⟩)],?_,?_⟩
        ·have q:=b4
         unfold f168_j45 at q
         exact gV
        exact gV
       exact gV
      exact gV
     exact gV
    exact gV
   exact gV
  exact gV
 exact gV
def f169_l1 (g:Fz) (b:Int×LI×Fz) (d:Jy→Option LI) (a:Int) (c:LI):Option LI:=
 bif (decide (a<b.2.2.2.length)) then
 Ey (0≤a∧a<b.2.2.2.length)<|
 Ey (0≤a∧a<g.2.length)<|
 Ey (0≤(rd 0 b.2.2.2 a)∧(rd 0 b.2.2.2 a)<c.length)<|
 d ((i64.wrap (a+1)),(List.set c (Int.toNat (rd 0 b.2.2.2 a)) (rd 0 g.2 a)))
 else
 some c
def f169 (g a:Fz) (c:Int):Option Fz:=
 D4 (f73 a.1 (0:Int)) fun b=>
 D4 (f213 (a.1,a.2) c) fun d=>
 D4 (Fp (fun e x=>f169_l1 g d e x.1 x.2) Fq ((0:Int),b.2.2)) fun h=>
 some (b.2.1,h)
instance H169 (g a:Fz) (b:Int): HF 169 [.dat T7 g,.dat T7 a,.dat T0 b] [] 0 (f169 g a b) (fun _=>[.raw true [(.osl 0),(.osl 1)]]) (fun y=>[(0,.arr 3 T0 y.1),(1,.arr 35 T0 y.2)]) 2:=hd Tryz.f169 rfl fun y q=>by
 unfold f169 at q
 refine OL (OL ?_)
 obtain ⟨c,h,q⟩:=bE q
 refine cL h gW ?_
 refine R3 (AI (lQ rfl) (R2 (AI TV (AI TV (OL (OL ?_))))))
 obtain ⟨i,h,q⟩:=bE q
 refine cL h gW ?_
 refine R4 (AI (lQ rfl) (R2 (AI TV (AI TV (OL (OL (OL ?_)))))))
 obtain ⟨k,h,q⟩:=bE q
 refine lJ h (fun x=>⟨[(3,P0 0 0),(6,P0 1 0),(7,P0 2 0),(27,O0 3),(28,.dat T0 (i.2.2.2.length:Int)),(29,.dat T0 x.1)],[(0,.cells [(.d T4 g.1),(.d T4 g.2)]),(1,.cells [N0,N0]),(2,.cells [(.osl 4),(.osl 5)]),(3,.arr 3 T0 i.2.2.2),(4,.arr 3 T0 c.2.1),(5,.arr 35 T0 x.2)],6⟩) (fun z=>[(2,⟨[(6,P0 0 0),(7,P0 1 0)],[(0,.cells [N0,N0]),(1,.cells [(.osl 2),(.osl 3)]),(2,.arr 3 T0 c.2.1),(3,.arr 35 T0 z)],4⟩)]) gV (fun m=>F3 (fun d=>fun j z q=>?_)) ?_
 ·have q:f169_l1 g i _ d j=some z:=q
  unfold f169_l1 at q
  exact gV
 exact gV
def f115_j1 (n:ND):Option Bool:=
 bif (n.1==2) then
 some (n.1==2)
 else
 some (n.1==3)
def f115 (n:ND) (a b g:Fz):Option Jn:=
 D4 (f115_j1 n) fun u=>
 bif u then
 D4 (f160 (g.1,g.2) a.1) fun l=>
 some (l.1,l.2.1,l.2.2)
 else
 bif (n.1==4) then
 D4 (f161 (g.1,g.2) (b.1,b.2)) fun s=>
 D4 (f162 (s.2.1,s.2.2) s.1 a.1) fun q=>
 some (q.1,q.2.1,q.2.2)
 else
 bif (n.1==5) then
 D4 (f163 (g.1,g.2) n.2.2.2.1) fun r=>
 some (r.1,r.2.1,r.2.2)
 else
 bif (n.1==6) then
 D4 (f164 (g.1,g.2) (b.1,b.2) false) fun o=>
 some (o.1,o.2.1,o.2.2)
 else
 bif (n.1==7) then
 D4 (f165 (g.1,g.2)) fun p=>
 some (p.1,p.2.1,p.2.2)
 else
 bif (n.1==8) then
 D4 (f166 (g.1,g.2) a.1 n.2.2.2.1) fun t=>
 some ((0:Int),t.1,t.2)
 else
 bif (n.1==9) then
 Ey (0≤(0:Int)∧0<(g.2.length:Int))<|
 D4 (f73 a.1 (rd 0 g.2 0)) fun h=>
 some (h.1,h.2.1,h.2.2)
 else
 bif (n.1==10) then
 Ey (0≤(0:Int)∧0<(g.2.length:Int))<|
 D4 (f45 (rd 0 g.2 0)) fun j=>
 D4 (f145 (j.1,j.2) (a.2.length:Int)) fun k=>
 D4 (f73 a.1 k) fun d=>
 some (d.1,d.2.1,d.2.2)
 else
 bif (n.1==11) then
 D4 (f167 n.2.2.2.1 (a.1,a.2) (g.1,g.2)) fun c=>
 some (c.1,c.2.1,c.2.2)
 else
 bif (n.1==12) then
 Ey (0≤(1:Int)∧1<(a.1.length:Int))<|
 D4 (f168 (g.1,g.2) (b.1,b.2) n.2.2.2.1 (rd 0 a.1 1)) fun e=>
 some (e.1,e.2.1,e.2.2)
 else
 bif (n.1==13) then
 D4 (f169 (g.1,g.2) (a.1,a.2) n.2.2.2.1) fun i=>
 some ((0:Int),i.1,i.2)
 else
 bif (n.1==14) then
 D4 (f170 (g.1,g.2) a.1) fun m=>
 some (m.1,m.2.1,m.2.2)
 else
 some ((0:Int),[],[])
instance H115 (n:ND) (a b g:Fz): HF 115 [.dat T6 n,.dat T7 a,.dat T7 b,.dat T7 g] [] 0 (f115 n a b g) (fun y=>[.raw true [(.osl 0),(.osl 1)],.dat T0 y.1]) (fun y=>[(0,.arr 3 T0 y.2.1),(1,.arr 35 T0 y.2.2)]) 2:=hd Tryz.f115 rfl fun y q=>by
 unfold f115 at q
 refine OL (OL (OL ?_))
 obtain ⟨d,c,q⟩:=bE q
 refine OQ ⟨[(0,⟨[(4,P0 0 0),(5,P0 1 0),(6,P0 2 0),(7,P0 3 0),(8,P0 4 0),(13,.dat T0 n.1),(14,.dat .bool d)],[(0,.cells [(.d T0 n.1),(.d T0 n.2.1),(.d T0 n.2.2.1),(.d T0 n.2.2.2.1),(.d T4 n.2.2.2.2.1),(.d T4 n.2.2.2.2.2)]),(1,.cells [(.d T4 a.1),(.d T4 a.2)]),(2,.cells [(.d T4 b.1),(.d T4 b.2)]),(3,.cells [(.d T4 g.1),(.d T4 g.2)]),(4,.cells [N0,N0])],5⟩)],?_,?_⟩
 ·have q:=c
  unfold f115_j1 at q
  exact gV
 exact gV
def f171_j4 (g a:Fz) (b c:Int):Option Bool:=
 D4 (f113 (g.1,g.2)) fun h=>
 bif (!h) then
 some true
 else
 D4 (f113 (a.1,a.2)) fun i=>
 bif (!i) then
 some true
 else
 D4 (f207 b) fun d=>
 bif (!d) then
 some true
 else
 D4 (f208 c) fun e=>
 some (!e)
def f171_j5 (g a:Fz) (c d:Int):Option Bool:=
 bif ((g.1.length:Int) != 2) then
 some true
 else
 bif ((a.1.length:Int) != 2) then
 some true
 else
 Ey (0≤(1:Int)∧1<(a.1.length:Int))<|
 Ey (0≤(1:Int)∧1<(g.1.length:Int))<|
 D4 (f209 (rd 0 a.1 1) d c) fun b=>
 some (b != (rd 0 g.1 1))
def f171_j3 (g a:Fz) (b c:Int):Option (Sum Unit Int):=
 D4 (f171_j4 g a b c) fun d=>
 bif d then
 some (Sum.inr (1:Int))
 else
 D4 (f171_j5 g a b c) fun e=>
 bif e then
 some (Sum.inr (4:Int))
 else
 some (Sum.inl ())
def f171_l9 (g a:Fz) (h c e:Int) (l:PTz4→Option PTz15) (b k i j:Int):Option PTz15:=
 bif (decide (b<(rd 0 g.1 1))) then
 Ey (0≤(i64.wrap ((i64.wrap ((i64.wrap (Int.tdiv e (i64.wrap ((rd 0 a.1 0)*c))))*(rd 0 g.1 1)))+b))∧(i64.wrap ((i64.wrap ((i64.wrap (Int.tdiv e (i64.wrap ((rd 0 a.1 0)*c))))*(rd 0 g.1 1)))+b))<g.2.length)<|
 Ey (0≤(i64.wrap ((i64.wrap ((i64.wrap ((Int.tmod (i64.wrap (Int.tdiv e c)) (rd 0 a.1 0))*(rd 0 a.1 1)))+(i64.wrap (b*h))))+(Int.tmod e c)))∧(i64.wrap ((i64.wrap ((i64.wrap ((Int.tmod (i64.wrap (Int.tdiv e c)) (rd 0 a.1 0))*(rd 0 a.1 1)))+(i64.wrap (b*h))))+(Int.tmod e c)))<a.2.length)<|
 D4 (f211 k i j (rd 0 g.2 (i64.wrap ((i64.wrap ((i64.wrap (Int.tdiv e (i64.wrap ((rd 0 a.1 0)*c))))*(rd 0 g.1 1)))+b))) (rd 0 a.2 (i64.wrap ((i64.wrap ((i64.wrap ((Int.tmod (i64.wrap (Int.tdiv e c)) (rd 0 a.1 0))*(rd 0 a.1 1)))+(i64.wrap (b*h))))+(Int.tmod e c))))) fun d=>
 l ((i64.wrap (b+1)),d.1,d.2.1,d.2.2)
 else
 some (k,i,j)
def f171_l8 (g a:Fz) (i c:Int) (h:Jn) (k:Jy→Option LI) (b:Int) (j:LI):Option LI:=
 bif (decide (b<h.2.2.length)) then
 Ey ((i64.wrap ((rd 0 a.1 0)*c))≠0)<|
 Ey (c≠0)<|
 Ey ((rd 0 a.1 0)≠0)<|
 Ey (c≠0)<|
 D4 (Fp (fun k x=>f171_l9 g a i c b k x.1 x.2.1 x.2.2.1 x.2.2.2) Fq ((0:Int),(0:Int),(0:Int),(0:Int))) fun d=>
 D4 (f212 d.1 d.2.1 d.2.2 (32:Int)) fun e=>
 Ey (0≤b∧b<j.length)<|
 k ((i64.wrap (b+1)),(List.set j (Int.toNat b) e.1))
 else
 some j
def f171 (g a:Fz) (c d:Int):Option Jn:=
 D4 (f171_j3 g a c d) fun i=>
 F5 i (fun j=>
 Ey (0≤(0:Int)∧0<(a.1.length:Int))<|
 Ey (0≤(1:Int)∧1<(a.1.length:Int))<|
 Ey (0≤(1:Int)∧1<(g.1.length:Int))<|
 Ey (0≤(0:Int)∧0<(g.1.length:Int))<|
 D4 (f210 ([(rd 0 g.1 0),(rd 0 a.1 0),d])) fun b=>
 bif (b.1 != 0) then
 some (b.1,[],[])
 else
 D4 (Fp (fun k x=>f171_l8 g a c d b k x.1 x.2) Fq ((0:Int),b.2.2)) fun h=>
 some ((0:Int),b.2.1,h)) (fun e=>
 some (e,[],[]))
instance H171 (g a:Fz) (i d:Int): HF 171 [.dat T7 g,.dat T7 a,.dat T0 i,.dat T0 d] [] 0 (f171 g a i d) (fun y=>[.raw true [(.osl 0),(.osl 1)],.dat T0 y.1]) (fun y=>[(0,.arr 3 T0 y.2.1),(1,.arr 35 T0 y.2.2)]) 2:=hd Tryz.f171 rfl fun y q=>by
 unfold f171 at q
 refine OL ?_
 obtain ⟨u,k,q⟩:=bE q
 let e0:LE:=fun p=>(2,.dat T0 i)::(3,.dat T0 d)::(4,P0 0 0)::(5,P0 1 0)::(8,P0 2 0)::p
 let l:LH:=fun p=>(0,.cells [(.d T4 g.1),(.d T4 g.2)])::(1,.cells [(.d T4 a.1),(.d T4 a.2)])::(2,.cells [N0,N0])::p
 refine OQ ⟨Sum.elim (fun w=>[(0,⟨e0 [],l [],3⟩)]) (fun j=>[(1,⟨[(8,P0 0 0),(9,.dat T0 j)],[(0,.cells [N0,N0])],1⟩)]) u,?_,?_⟩
 ·have q:=k
  clear k
  unfold f171_j3 at q
  obtain ⟨b2,b0,q⟩:=bE q
  refine OQ ⟨[(0,⟨e0 [(21,.dat .bool b2)],l [],3⟩)],?_,?_⟩
  ·have q:=b0
   unfold f171_j4 at q
   exact gV
  refine AI (cI q (fun q=>?_) (fun q=>?_)) TV
  ·exact gV
  obtain ⟨b3,t,q⟩:=bE q
  refine OQ ⟨[(0,⟨e0 [(41,.dat .bool b3)],l [],3⟩)],?_,?_⟩
  ·have q:=t
   unfold f171_j5 at q
   exact gV
  exact gV
 rcases u with w | j
 ·dsimp only [F5] at q
  refine AI (OL (EI (tU 0 15 .done) (EI [] (EI [] (AI rfl (gI q (fun q=>?_))))))) TV
  refine gI q (fun q=>?_)
  refine gI q (fun q=>?_)
  refine OL (gI q (fun q=>?_))
  refine OL ?_
  obtain ⟨b,h,q⟩:=bE q
  refine cL h gW ?_
  refine R2 (AI (lQ rfl) (R2 (AI TV (AI TV (OL (OL (OL (cI q (fun q=>?_) (fun q=>?_)))))))))
  ·exact gV
  refine OL (OL ?_)
  obtain ⟨b5,o,q⟩:=bE q
  let e2:LE:=fun p=>e0 ((10,.dat T0 (rd 0 a.1 0))::(11,.dat T0 (rd 0 a.1 1))::(12,.dat T0 (rd 0 g.1 1))::(13,P0 3 0)::p)
  refine lJ o (fun x=>⟨e2 [(96,.dat T0 (b.2.2.length:Int)),(97,.dat T0 x.1)],l [(3,.cells [(.osl 4),(.osl 5)]),(4,.arr 3 T0 b.2.1),(5,.arr 35 T0 x.2)],6⟩) (fun z=>[(3,⟨[(8,P0 0 0),(13,P0 1 0)],[(0,.cells [N0,N0]),(1,.cells [(.osl 2),(.osl 3)]),(2,.arr 3 T0 b.2.1),(3,.arr 35 T0 z)],4⟩)]) gV (fun m=>F3 (fun c=>fun l5 z q=>?_)) ?_
  ·have q:f171_l8 g a i d b _ c l5=some z:=q
   unfold f171_l8 at q
   refine OL (OL (cI q (fun q=>?_) (fun q=>?_)))
   ·refine OL (OL (OL (EI (tU 0 16 .done) (EI [] (EI [] (AI rfl (gI q (fun q=>?_))))))))
    refine gI q (fun q=>?_)
    refine gI q (fun q=>?_)
    refine gI q (fun q=>?_)
    refine OL (OL (OL ?_))
    obtain ⟨b4,h,q⟩:=bE q
    refine lJ h (fun x=>⟨e2 [(15,.dat T0 c),(16,.dat T0 (i64.wrap (Int.tdiv c (i64.wrap ((rd 0 a.1 0)*d))))),(17,.dat T0 (Int.tmod (i64.wrap (Int.tdiv c d)) (rd 0 a.1 0))),(18,.dat T0 (Int.tmod c d)),(19,P0 4 0),(96,.dat T0 (b.2.2.length:Int)),(97,.dat T0 c),(113,.dat T0 (rd 0 g.1 1)),(114,.dat T0 x.1)],l [(3,.cells [(.osl 5),(.osl 6)]),(4,.cells [(.d T0 x.2.1),(.d T0 x.2.2.1),(.d T8 x.2.2.2)]),(5,.arr 3 T0 b.2.1),(6,.arr 35 T0 l5)],7⟩) (fun z=>[(5,⟨e2 [(15,.dat T0 c),(19,P0 4 0),(96,.dat T0 (b.2.2.length:Int)),(97,.dat T0 c)],l [(3,.cells [(.osl 5),(.osl 6)]),(4,.cells [(.d T0 z.1),(.d T0 z.2.1),(.d T8 z.2.2)]),(5,.arr 3 T0 b.2.1),(6,.arr 35 T0 l5)],7⟩)]) gV (fun m=>F3 (fun n=>F3 (fun s=>F3 (fun v=>fun b1 z q=>?_)))) ?_
    ·have q:f171_l9 g a i d c _ n s v b1=some z:=q
     unfold f171_l9 at q
     exact gV
    exact gV
   exact gV
  exact gV
 exact gV
def f116 (n:ND) (a b g:Fz):Option Jn:=
 bif (n.1==2) then
 D4 (f160 (g.1,g.2) b.1) fun c=>
 some (c.1,c.2.1,c.2.2)
 else
 bif (n.1==3) then
 D4 (f163 (g.1,g.2) (-4294967296:Int)) fun i=>
 D4 (f162 (i.2.1,i.2.2) i.1 b.1) fun e=>
 some (e.1,e.2.1,e.2.2)
 else
 bif (n.1==4) then
 D4 (f161 (g.1,g.2) (a.1,a.2)) fun j=>
 D4 (f162 (j.2.1,j.2.2) j.1 b.1) fun h=>
 some (h.1,h.2.1,h.2.2)
 else
 bif (n.1==6) then
 D4 (f164 (a.1,a.2) (g.1,g.2) true) fun k=>
 some (k.1,k.2.1,k.2.2)
 else
 bif (n.1==12) then
 Ey (0≤(2:Int)∧2<(b.1.length:Int))<|
 D4 (f171 (g.1,g.2) (a.1,a.2) n.2.2.2.1 (rd 0 b.1 2)) fun d=>
 some (d.1,d.2.1,d.2.2)
 else
 some ((0:Int),[],[])
instance H116 (n:ND) (a b g:Fz): HF 116 [.dat T6 n,.dat T7 a,.dat T7 b,.dat T7 g] [] 0 (f116 n a b g) (fun y=>[.raw true [(.osl 0),(.osl 1)],.dat T0 y.1]) (fun y=>[(0,.arr 3 T0 y.2.1),(1,.arr 35 T0 y.2.2)]) 2:=hd Tryz.f116 rfl fun y q=>by
 unfold f116 at q
 exact gV
def f75_j3 (g:Fz) (a:Int×Int×Int×Int×Bool×LI×LI×NL):Option Bool:=
 bif (!a.2.2.2.2.1) then
 some true
 else
 D4 (f113 (g.1,g.2)) fun c=>
 bif (!c) then
 some true
 else
 D4 (f114 g.1 a.2.2.2.2.2.1) fun b=>
 some (!b)
def f75_j2 (g:Fz) (a:Int×Int×Int×Int×Bool×LI×LI×NL):Option (Sum Unit Unit):=
 D4 (f75_j3 g a) fun b=>
 bif b then
 some (Sum.inr ())
 else
 some (Sum.inl ())
def f75 (h:NL) (n:Int) (g:Fz):Option (Int×LI×LI×LI×LI×NL):=
 D4 (f74 h n) fun a=>
 D4 (f75_j2 g a) fun k=>
 F5 k (fun i=>
 D4 (f39 a.2.2.2.2.2.2.2 a.2.1) fun c=>
 D4 (f39 c.2.2.2 a.2.2.1) fun b=>
 D4 (f115 (a.1,a.2.1,a.2.2.1,a.2.2.2.1,a.2.2.2.2.2.1,a.2.2.2.2.2.2.1) (c.2.1,c.2.2.1) (b.2.1,b.2.2.1) (g.1,g.2)) fun d=>
 bif (d.1 != 0) then
 some (d.1,[],[],[],[],b.2.2.2)
 else
 D4 (f116 (a.1,a.2.1,a.2.2.1,a.2.2.2.1,a.2.2.2.2.2.1,a.2.2.2.2.2.2.1) (c.2.1,c.2.2.1) (b.2.1,b.2.2.1) (g.1,g.2)) fun e=>
 bif (e.1 != 0) then
 some (e.1,[],[],[],[],b.2.2.2)
 else
 some ((0:Int),d.2.1,d.2.2,e.2.1,e.2.2,b.2.2.2)) (fun j=>
 some ((1:Int),[],[],[],[],a.2.2.2.2.2.2.2))
instance H75 (c:NL) (n:Int) (g:Fz): HF 75 [P0 0 0,.dat T0 n,.dat T7 g] [(0,.cells [(.osl 1)]),(1,.arr 161 T6 c)] 2 (f75 c n g) (fun y=>[.raw true [(.osl 2),(.osl 3)],.raw true [(.osl 4),(.osl 5)],.dat T0 y.1]) (fun y=>[(0,.cells [(.osl 1)]),(1,.arr 161 T6 y.2.2.2.2.2),(2,.arr 3 T0 y.2.1),(3,.arr 35 T0 y.2.2.1),(4,.arr 3 T0 y.2.2.2.1),(5,.arr 35 T0 y.2.2.2.2.1)]) 6:=hd Tryz.f75 rfl fun y q=>by
 unfold f75 at q
 refine OL (OL ?_)
 obtain ⟨b,h,q⟩:=bE q
 refine cL h gW ?_
 refine R2 (AI (lQ rfl) (R2 (AJ (AI (R2 TV) (OL ?_)))))
 obtain ⟨p,d,q⟩:=bE q
 let o:LH:=fun j=>(0,.cells [(.osl 1)])::(1,.arr 161 T6 b.2.2.2.2.2.2.2)::j
 let m:LH:=fun j=>o ((2,.cells [(.d T4 g.1),(.d T4 g.2)])::(3,.cells [N0,N0])::(4,.cells [N0,N0])::(5,.cells [(.d T0 b.1),(.d T0 b.2.1),(.d T0 b.2.2.1),(.d T0 b.2.2.2.1),(.osl 6),(.osl 7)])::(6,.arr 3 T0 b.2.2.2.2.2.1)::(7,.arr 35 T0 b.2.2.2.2.2.2.1)::j)
 refine OQ ⟨Sum.elim (fun k=>[(0,⟨[(0,P0 0 0),(5,P0 2 0),(6,P0 3 0),(7,P0 4 0),(9,P0 5 0)],m [],8⟩)]) (fun l=>[(1,⟨[(6,P0 2 0),(7,P0 3 0),(8,D0 1)],o [(2,.cells [N0,N0]),(3,.cells [N0,N0])],4⟩)]) p,?_,?_⟩
 ·have q:=d
  clear d
  unfold f75_j2 at q
  obtain ⟨s,i,q⟩:=bE q
  refine OQ ⟨[(0,⟨[(0,P0 0 0),(5,P0 2 0),(6,P0 3 0),(7,P0 4 0),(9,P0 5 0),(39,.dat .bool s)],m [],8⟩)],?_,?_⟩
  ·have q:=i
   unfold f75_j3 at q
   exact gV
  exact gV
 rcases p with k | l
 ·exact gV
 exact gV
def f76 (c:LTz1) (a:List Bool) (n:Int) (g:Fz):Option (Int×LTz1×(List Bool)):=
 bif (decide (n<0)) then
 some ((0:Int),c,a)
 else
 Ey (0≤n∧n<c.length)<|
 D4 (f117 ((rd (Ty.z T7) c n).1,(rd (Ty.z T7) c n).2) (g.1,g.2)) fun b=>
 Ey (0≤n∧n<c.length)<|
 Ey (0≤n∧n<a.length)<|
 some (b.1,(List.set c (Int.toNat n) (b.2.1,b.2.2)),(List.set a (Int.toNat n) true))
instance H76 (c:LTz1) (b:List Bool) (n:Int) (g:Fz): HF 76 [P0 0 0,.dat T0 n,.dat T7 g] [(0,.cells [(.osl 1),(.osl 2)]),(1,.arr 101 T7 c),(2,.arr 4 .bool b)] 3 (f76 c b n g) (fun y=>[.dat T0 y.1]) (fun y=>[(0,.cells [(.osl 1),(.osl 2)]),(1,.arr 101 T7 y.2.1),(2,.arr 4 .bool y.2.2)]) 3:=hd Tryz.f76 rfl fun y q=>by
 unfold f76 at q
 refine OL (OL (OL (cI q (fun q=>?_) (fun q=>?_))))
 ·exact gV
 refine OL (OL (EI (tU 0 13 (.alt 13 (tU 14 4 (.alt 18 (.take 19 .done) .done)) .done)) (EI [(18,[1])] (EI [] (AI rfl ?_)))))
 exact gV
end Go.Proofs
