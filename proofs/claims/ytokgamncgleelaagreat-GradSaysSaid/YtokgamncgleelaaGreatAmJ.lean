
import Derived.Test.YtokgamncgleelaaGreatAmI
import Derived.Laws.Slices
set_option linter.unusedVariables false
set_option linter.unusedSimpArgs false
namespace Go.AM
section
variable {P:Program} {τ:TE} {G:Ctx} {φ:Phi} {s:St} {a:Act} {w:World}
def cutC {t:Ty} (xs:List t.D) (lo hi:Option Int) (k:CV→Prop):Prop:=
 match lo,hi with
 | none,none=>k (.d (.sl t) xs)
 | some l,none=>(0≤l∧l≤(xs.length:Int))∧k (.d (.sl t) (xs.drop l.toNat))
 | none,some h=>(0≤h∧h≤(xs.length:Int))∧k (.d (.sl t) (xs.take h.toNat))
 | some l,some h=>(0≤l∧l≤h∧h≤(xs.length:Int))∧k (.d (.sl t) ((xs.take h.toNat).drop l.toNat))
def strCut (b:ByteArray) (lo hi:Option Int) (k:CV→Prop):Prop:=
 match lo,hi with
 | none,none=>k (.d .str b)
 | some l,none=>(0≤l∧l≤(b.size:Int))∧k (.d .str (b.extract l.toNat b.size))
 | none,some h=>(0≤h∧h≤(b.size:Int))∧k (.d .str (b.extract 0 h.toNat))
 | some l,some h=>(0≤l∧l≤h∧h≤(b.size:Int))∧k (.d .str (b.extract l.toNat h.toNat))
def evI (s:St):Option Operand→(Option Int→Prop)→Prop
 | none,k=>k none
 | some x,k=>match ev s x with
  | some (.one (.d (.int _) n))=>k (some n)
  | _=>False
theorem Mb (h:Sat G φ s a w) {x:Option Operand} {k:Option Int→Prop} (hk:evI s x k) :
  (x=none∧k none)∨∃ kk n,x.map a.eval=some (.int kk n)∧k (some n):=by
 unfold evI at hk
 split at hk
 ·exact .inl ⟨rfl,hk⟩
 ·split at hk
  ·rename_i x kk n hv
   have:=av_int (Lv h hv)
   exact .inr ⟨kk,n,by simp [this],hk⟩
  ·exact hk.elim
theorem list_cut {w:World} {im:Nat→Prop} {φ:Phi} {ln:Nat→Option Nat} {nx:Nat} {t:Ty} {xs:List t.D} {A:Option Addr} {cap:Nat}
  (h:CV.rel w im φ ln nx (.d (.sl t) xs) (.slice A xs.length cap)) (l n m:Nat) (hl:l≤n) (hn:n≤xs.length) (hm:n≤m) (hmc:m≤cap) :
  CV.rel w im φ ln nx (.d (.sl t) ((xs.take n).drop l)) (.slice (if m=l then A else A.map (·.add (l*t.n))) (n-l) (m-l)):=by
 obtain ⟨A',cap',e,hc,hr⟩:=h
 simp only [List.cons.injEq,Value.slice.injEq,true_and,and_true] at e
 obtain ⟨rfl,rfl⟩:=e
 have hlen:((xs.take n).drop l).length=n-l:=by rw [List.length_drop,List.length_take];omega
 refine ⟨_,m-l,by rw [hlen],by rw [hlen];omega,fun hne=>?_⟩
 have hlt:l<n:=by
  rcases Nat.lt_or_ge l n with h' | h'
  ·exact h'
  ·exact absurd (List.eq_nil_of_length_eq_zero (by rw [hlen];omega)) hne
 have hx:xs≠[]:=fun e=>by rw [e] at hn;simp at hn;omega
 obtain ⟨b,o,rfl,him,c,T,z,h1,h2⟩:=hr hx
 refine ⟨b,o+l*t.n,by rw [if_neg (by omega)];simp [J5],him,c,T,z,h1,fun i hi=>?_⟩
 rw [hlen] at hi
 obtain ⟨ds,k1,k2,k3⟩:=h2 (l+i) (by omega)
 refine ⟨ds,?_,k2,fun j hj=>?_⟩
 ·simp only [List.getElem_drop,List.getElem_take];exact k1
 ·rw [← k3 j hj]
  congr 1
  rw [Nat.add_mul];omega
theorem cut_run (hτ:τ.Ok P) {T e:TypeId} {j ie:TI} (hj:lk τ T=some j) (hd:j.desc = .slice e) (hie:lk τ e=some ie) (A:Option Addr) (len cap:Nat) (lo hi:Option Value) (l n:Nat) (w:World)
  (hb:(Instr.sliceBounds true len cap lo hi none).run P w = .ok (l,n,cap) w) :
  (Instr.sliceAt T (.slice A len cap) lo hi none).run P w = .ok (.slice (if cap=l then A else A.map (·.add (l*ie.size))) (n-l) (cap-l)) w:=by
 have hu:=Gi hτ hj w
 rw [hd] at hu
 have hs:=Jj (P:=P) hτ hie w
 unfold Instr.sliceAt
 simp only [Sem.run_bind,hu,Result.andThen_ok]
 unfold Instr.slice
 simp only [Sem.run_bind,hu,Result.andThen_ok,hb,hs,Sem.run_pure]
theorem cut_spec (hτ:τ.Ok P) (h:Sat G φ s a w) {T e:TypeId} {j ie:TI} {t:Ty} (hj:lk τ T=some j) (hd:j.desc = .slice e) (hie:lk τ e=some ie) (ht:ie.ty=some t)
  {xs:List t.D} {vx:Value} {lo hi:Option Operand} {k:CV→Prop} (hk:evI s lo (fun l=>evI s hi (fun n=>cutC xs l n k)))
  (hx:CV.rel w (G.im s φ) φ s.ln s.nx (.d (.sl t) xs) vx) :
  ∃ r u,k r∧(∀ w',(Instr.sliceAt T vx (lo.map a.eval) (hi.map a.eval) none).run P w' = .ok u w')∧CV.rel w (G.im s φ) φ s.ln s.nx r u:=by
 obtain ⟨hn,_⟩:=(hτ e ie hie).ty t ht
 obtain ⟨A,cap,rfl,hc,_⟩:=K6 hx
 rcases Mb h hk with ⟨rfl,hk1⟩ | ⟨kl,l,hl,hk1⟩ <;> clear hk <;> rcases Mb h hk1 with ⟨rfl,hk⟩ | ⟨kh,n,hn',hk⟩ <;> clear hk1
 ·refine ⟨_,_,hk,fun w'=>cut_run hτ hj hd hie A xs.length cap none none 0 xs.length w' (by simp [Instr.sliceBounds]),?_⟩
  have:=list_cut hx 0 xs.length cap (Nat.zero_le _) (Nat.le_refl _) hc (Nat.le_refl _)
  rw [← hn];simpa using this
 ·obtain ⟨⟨h0,h1⟩,hk⟩:=hk
  rw [hn']
  refine ⟨_,_,hk,fun w'=>cut_run hτ hj hd hie A xs.length cap none (some (.int kh n)) 0 n.toNat w' (by simp [Instr.sliceBounds,run_sliceBound _ _ _ _ _ h0 (show n≤(cap:Int) by omega)]),?_⟩
  have:=list_cut hx 0 n.toNat cap (Nat.zero_le _) (by omega) (by omega) (Nat.le_refl _)
  rw [← hn];simpa using this
 ·obtain ⟨⟨h0,h1⟩,hk⟩:=hk
  rw [hl]
  refine ⟨_,_,hk,fun w'=>cut_run hτ hj hd hie A xs.length cap (some (.int kl l)) none l.toNat xs.length w' (by simp [Instr.sliceBounds,run_sliceBound _ _ _ _ _ h0 h1]),?_⟩
  have:=list_cut hx l.toNat xs.length cap (by omega) (Nat.le_refl _) hc (Nat.le_refl _)
  rw [← hn];simpa using this
 ·obtain ⟨⟨h0,h1,h2⟩,hk⟩:=hk
  rw [hl,hn']
  have en:((n.toNat:Nat):Int)=n:=Int.toNat_of_nonneg (by omega)
  refine ⟨_,_,hk,fun w'=>cut_run hτ hj hd hie A xs.length cap (some (.int kl l)) (some (.int kh n)) l.toNat n.toNat w' (by simp [Instr.sliceBounds,run_sliceBound _ _ n cap _ (by omega) (by omega),run_sliceBound _ _ l n.toNat _ h0 (by omega)]),?_⟩
  have:=list_cut hx l.toNat n.toNat cap (by omega) (by omega) (by omega) (Nat.le_refl _)
  rw [← hn];exact this
theorem strCut_spec (hτ:τ.Ok P) (h:Sat G φ s a w) {T:TypeId} {j:TI} (hj:lk τ T=some j) (hd:j.desc = .string) {b:ByteArray} {lo hi:Option Operand} {k:CV→Prop}
  (hk:evI s lo (fun l=>evI s hi (fun n=>strCut b l n k))) :
  ∃ r u,k r∧(∀ w',(Instr.sliceAt T (.string b) (lo.map a.eval) (hi.map a.eval) none).run P w' = .ok u w')∧CV.rel w (G.im s φ) φ s.ln s.nx r u:=by
 have run:∀ (lo hi:Option Value) (l n:Nat) (w':World),(Instr.sliceBounds false b.size b.size lo hi none).run P w' = .ok (l,n,b.size) w'→
   (Instr.sliceAt T (.string b) lo hi none).run P w' = .ok (.string (b.extract l n)) w':=by
  intro lo hi l n w' hb
  have hu:=Gi hτ hj w'
  rw [hd] at hu
  unfold Instr.sliceAt
  simp only [Sem.run_bind,hu,Result.andThen_ok]
  unfold Instr.slice
  simp [hu,hb]
 rcases Mb h hk with ⟨rfl,hk1⟩ | ⟨kl,l,hl,hk1⟩ <;> clear hk <;> rcases Mb h hk1 with ⟨rfl,hk⟩ | ⟨kh,n,hn',hk⟩ <;> clear hk1
 ·refine ⟨_,_,hk,fun w'=>run none none 0 b.size w' (by simp [Instr.sliceBounds]),?_⟩
  have:b.extract 0 b.size=b:=by
   apply ByteArray.ext
   simp [ByteArray.data_extract]
  rw [this];exact rfl
 ·obtain ⟨⟨h0,h1⟩,hk⟩:=hk
  rw [hn']
  exact ⟨_,_,hk,fun w'=>run none (some (.int kh n)) 0 n.toNat w' (by simp [Instr.sliceBounds,run_sliceBound _ _ _ _ _ h0 h1]),rfl⟩
 ·obtain ⟨⟨h0,h1⟩,hk⟩:=hk
  rw [hl]
  exact ⟨_,_,hk,fun w'=>run (some (.int kl l)) none l.toNat b.size w' (by simp [Instr.sliceBounds,run_sliceBound _ _ _ _ _ h0 h1]),rfl⟩
 ·obtain ⟨⟨h0,h1,h2⟩,hk⟩:=hk
  rw [hl,hn']
  exact ⟨_,_,hk,fun w'=>run (some (.int kl l)) (some (.int kh n)) l.toNat n.toNat w' (by simp [Instr.sliceBounds,run_sliceBound _ _ n b.size _ (by omega) h2,run_sliceBound _ _ l n.toNat _ h0 (by omega)]),rfl⟩
end
end Go.AM
