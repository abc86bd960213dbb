import Derived.Test.YtoicgngppmpapaaGreatGradPartsQ0
import Derived.Test.YtoicgngppmpapaaGreatGradPartsS5
import Derived.Test.YtoicgngppmpapaaGreatAmY
set_option linter.unusedVariables false
set_option linter.unusedSimpArgs false
set_option linter.unusedSectionVars false
set_option maxRecDepth 100000

namespace Go.Proofs.Cv
open Go.AM Go.Proofs.PlB Go.Proofs.PlW Go.Proofs.PlT Go.Proofs.PlS Go.Proofs.Sh Go.Proofs.Num Go.Proofs.Div Go.Proofs.Op
def Tot (p : Option (Int × Tn)) : Prop := ∃ r, p = some r ∧ inI r.2.2
theorem inI_nil : inI [] := fun x hx => absurd hx (by simp)
theorem tot_err (e : Int) : Tot (some (e, [], [])) := ⟨_, rfl, inI_nil⟩
section
variable (G K : List Int) (o c w m s L : Nat) (o1 : 1 ≤ o) (c1 : 1 ≤ c) (w1 : 1 ≤ w) (hG : G.length = o * m) (hK : K.length = o * (c * w)) (bG : o * m ≤ 4096) (bK : o * (c * w) ≤ 4096) (s1 : 1 ≤ s) (s64 : s ≤ 64) (iG : inI G) (iK : inI K) (L1 : 1 ≤ L) (bL : c * L ≤ 4096)
include o1 c1 w1 hG hK bG bK s1 s64 iG iK L1 bL
def inV (G K : List Int) (o c w m s L q : Nat) : Int := sat (rhe (sg (fun i => sg (inF G K c w m s (q / L) (q % L) i) w) o))
theorem in_o4 : o ≤ 4096 := Nat.le_trans (Nat.le_mul_of_pos_right _ (Nat.mul_pos c1 w1)) bK
theorem in_outP (q : Nat) (hq : q < c * L) :
  loopF (fun go (z : Int × Int × Int × Int) => f172_l41 ([(o : Int), (m : Int)], G) ([(o : Int), (c : Int), (w : Int)], K) s L (q : Int) go z.1 z.2.1 z.2.2.1 z.2.2.2) fuelN ((0 : Int), (0 : Int), (0 : Int), (0 : Int)) = some (acc (sg (fun i => sg (inF G K c w m s (q / L) (q % L) i) w) o)) := by
 have hL4 : L ≤ 4096 := Nat.le_trans (Nat.le_mul_of_pos_left _ c1) bL
 have hl : q % L < 4096 := Nat.lt_of_lt_of_le (Nat.mod_lt _ L1) hL4
 have hx : q / L < c := Nat.div_lt_of_lt_mul (by rw [Nat.mul_comm]; exact hq)
 have eL : Int.tmod (q : Int) (L : Int) = ((q % L : Nat) : Int) := by rw [Int.tmod_eq_emod_of_nonneg (Int.natCast_nonneg _), ← Int.natCast_emod]
 have eX : IntKind.i64.wrap (Int.tdiv (q : Int) (L : Int)) = ((q / L : Nat) : Int) := by
  have : q / L ≤ q := Nat.div_le_self _ _
  rw [Int.tdiv_eq_ediv_of_nonneg (Int.natCast_nonneg _), ← Int.natCast_ediv, wnat (by omega)]
 have o4 := in_o4 G K o c w m s L o1 c1 w1 hG hK bG bK s1 s64 iG iK L1 bL
 have h := loop_for (B := fun go (z : Int × Int × Int × Int) => f172_l41 ([(o : Int), (m : Int)], G) ([(o : Int), (c : Int), (w : Int)], K) s L (q : Int) go z.1 z.2.1 z.2.2.1 z.2.2.2)
  (fun i => ((i : Int), acc (sg (fun i => sg (inF G K c w m s (q / L) (q % L) i) w) i))) o (acc (sg (fun i => sg (inF G K c w m s (q / L) (q % L) i) w) o)) ?_ ?_ (by omega)
 ·exact h
 ·intro i hi go
  unfold f172_l41
  simp only
  have inner := in_innerP G K o c w m s (q / L) (q % L) c1 w1 hG hK bG bK s1 s64 iG iK hx hl (L : Int) (q : Int) eL eX i hi _ rfl
  rw [show rd (0 : Int) [(o : Int), (c : Int), (w : Int)] 0 = (o : Int) from rfl, dT (by omega), cond_true]
  have inner' : loopF (fun go (z : Int × Int × Int × Int) => f172_l44 ([(o : Int), (m : Int)], G) ([(o : Int), (c : Int), (w : Int)], K) s L q (i : Int) go z.1 z.2.1 z.2.2.1 z.2.2.2) fuelN ((0 : Int), (acc (sg (fun i => sg (inF G K c w m s (q / L) (q % L) i) w) i)).1, (acc (sg (fun i => sg (inF G K c w m s (q / L) (q % L) i) w) i)).2.1, (acc (sg (fun i => sg (inF G K c w m s (q / L) (q % L) i) w) i)).2.2) = _ := inner
  rw [inner', bindF_some, wsucc i (by omega)]
  rfl
 ·intro go
  unfold f172_l41
  simp only
  rw [show rd (0 : Int) [(o : Int), (c : Int), (w : Int)] 0 = (o : Int) from rfl, dF (by omega), cond_false]
theorem in_loopP (r : List Int) :
  loopF (fun go (z : Int × List Int) => f172_l32 ([(o : Int), (m : Int)], G) ([(o : Int), (c : Int), (w : Int)], K) s L (0, r, List.replicate (c * L) 0) go z.1 z.2) fuelN ((0 : Int), List.replicate (c * L) 0) = some (tabL (c * L) (inV G K o c w m s L)) := by
 have hL4 : L ≤ 4096 := Nat.le_trans (Nat.le_mul_of_pos_left _ c1) bL
 rw [upto_zero _ (inV G K o c w m s L)]
 have h := loop_for (B := fun go (x : Int × List Int) => f172_l32 ([(o : Int), (m : Int)], G) ([(o : Int), (c : Int), (w : Int)], K) s L (0, r, upto (c * L) 0 (inV G K o c w m s L)) go x.1 x.2) (fun q => ((q : Int), upto (c * L) q (inV G K o c w m s L))) (c * L) (tabL (c * L) (inV G K o c w m s L)) ?_ ?_ (by omega)
 ·exact h
 ·intro q hq go
  have hl : q % L < 4096 := Nat.lt_of_lt_of_le (Nat.mod_lt _ L1) hL4
  have hx : q / L < c := Nat.div_lt_of_lt_mul (by rw [Nat.mul_comm]; exact hq)
  have hb : Bd (sg (fun i => sg (inF G K c w m s (q / L) (q % L) i) w) o) := by
   have := in_bd G K o c w m s (q / L) (q % L) c1 w1 hG hK bG bK s1 s64 iG iK hx hl (o - 1) w (by omega) (Nat.le_refl _)
   obtain ⟨p, rfl⟩ : ∃ p, o = p + 1 := ⟨o - 1, by omega⟩
   exact this
  obtain ⟨z, ez⟩ := acc_fix _ hb
  unfold f172_l32
  simp only [upto_len]
  rw [dT (by omega), cond_true, guardF_pos (by omega), guardF_pos (by omega), in_outP G K o c w m s L o1 c1 w1 hG hK bG bK s1 s64 iG iK L1 bL q hq, bindF_some, ez, bindF_some, guardF_pos (by omega), wsucc q (by omega), Int.toNat_natCast]
  have := upto_set (c * L) q (inV G K o c w m s L) _ hq (rfl : sat (rhe (sg (fun i => sg (inF G K c w m s (q / L) (q % L) i) w) o)) = inV G K o c w m s L q)
  simp only
  rw [this]
 ·intro go
  unfold f172_l32
  simp only [upto_len]
  rw [dF (by omega), cond_false, upto_full]
end
theorem win_any (a b s : Int) (hs : s ≠ 0) : ∃ v, f226 a b s = some v := by
 unfold f226
 by_cases h : b > a
 ·rw [dT h]; exact ⟨_, rfl⟩
 ·rw [dF h, cond_false, guardF_pos hs]; exact ⟨_, rfl⟩
theorem in_j5 (g k : Tn) (s L : Int) (hs : s ≠ 0) : ∃ b, f172_j5 g k s L = some b ∧ (b = false → g.1.length = 2 ∧ k.1.length = 3 ∧ rd (0 : Int) k.1 0 = rd (0 : Int) g.1 0) := by
 unfold f172_j5
 by_cases h1 : g.1.length = 2
 ·rw [nF (by omega), cond_false]
  by_cases h2 : k.1.length = 3
  ·rw [nF (by omega), cond_false, guardF_pos (by omega), guardF_pos (by omega)]
   by_cases h3 : rd (0 : Int) k.1 0 = rd (0 : Int) g.1 0
   ·rw [nF h3, cond_false, guardF_pos (by omega), guardF_pos (by omega)]
    obtain ⟨v, ev⟩ := win_any L (rd (0 : Int) k.1 2) s hs
    rw [ev, bindF_some]
    exact ⟨_, rfl, fun _ => ⟨h1, h2, h3⟩⟩
   ·rw [nT h3]; exact ⟨_, rfl, fun h => absurd h (by decide)⟩
  ·rw [nT (by omega)]; exact ⟨_, rfl, fun h => absurd h (by decide)⟩
 ·rw [nT (by omega)]; exact ⟨_, rfl, fun h => absurd h (by decide)⟩
theorem backInW (g k : Tn) (s L : Int) (ig : inI g.2) (ik : inI k.2) : Tot (f172 g k s L) := by
 unfold f172 f172_j3
 have e4 : f172_j4 g k s L = some (!(decide (kerAsk g k s L))) := ker_j4 g k s L
 rw [e4, bindF_some]
 by_cases h : kerAsk g k s L
 ·rw [dT h, Bool.not_true, cond_false]
  obtain ⟨gg, gk, s1, s64, L1, L4⟩ := h
  obtain ⟨b, eb, hb⟩ := in_j5 g k s L (by omega)
  rw [eb, bindF_some]
  cases b
  ·rw [cond_false, bindF_some, sumF_inl]
   obtain ⟨h1, h2, h3⟩ := hb rfl
   rw [guardF_pos (by omega), guardF_pos (by omega), guardF_pos (by omega), guardF_pos (by omega), of_ok, bindF_some]
   by_cases hp : 0 < prd [rd (0 : Int) k.1 1, L]
   ·rw [if_pos hp]
    simp only
    rw [nF rfl, cond_false]
    obtain ⟨o, m, eg, o1, m1, lg, bg⟩ := mat_nat gg h1
    obtain ⟨o', c, w, ek, _, c1, w1, lk, bk⟩ := ker_nat gk h2
    obtain ⟨s', rfl⟩ := Int.eq_ofNat_of_zero_le (show 0 ≤ s by omega)
    obtain ⟨L', rfl⟩ := Int.eq_ofNat_of_zero_le (show 0 ≤ L by omega)
    have eo : o' = o := by rw [eg, ek] at h3; exact Int.ofNat.inj h3
    subst eo
    generalize g.2 = G at *
    generalize k.2 = K at *
    subst eg
    subst ek
    rw [show rd (0 : Int) [(o' : Int), (c : Int), (w : Int)] 1 = (c : Int) from rfl] at hp ⊢
    obtain ⟨h5, h6, h7⟩ := prod2 hp
    have hN : (prd [(c : Int), (L' : Int)]).toNat = c * L' := by rw [h7, ← Int.natCast_mul, Int.toNat_natCast]
    have := prd_range [(c : Int), (L' : Int)]
    rw [h7, ← Int.natCast_mul] at this
    rw [hN, in_loopP G K o' c w m s' L' o1 c1 w1 lg lk bg bk (by omega) (by omega) ig ik (by omega) (by omega), bindF_some]
    exact ⟨_, rfl, inI_tab (fun i hi => sat_in _)⟩
   ·rw [if_neg hp]; exact tot_err _
  ·rw [cond_true, bindF_some, sumF_inr]; exact tot_err _
 ·rw [dF h, Bool.not_false, cond_true, bindF_some, sumF_inr]; exact tot_err _
end Go.Proofs.Cv
namespace Go.Proofs.Cv
open Go.AM Go.Proofs.PlB Go.Proofs.PlW Go.Proofs.PlT Go.Proofs.PlS Go.Proofs.Sh Go.Proofs.Num Go.Proofs.Div Go.Proofs.Op
def bst (V : List Int) (base : Nat) : Nat → Nat
 | 0 => base
 | y + 1 => if rd (0 : Int) V ((base + (y + 1) : Nat) : Int) > rd (0 : Int) V (bst V base y : Int) then base + (y + 1) else bst V base y
theorem bst_in (V : List Int) (base : Nat) : ∀ y, base ≤ bst V base y ∧ bst V base y ≤ base + y
 | 0 => ⟨Nat.le_refl _, Nat.le_refl _⟩
 | y + 1 => by
  have := bst_in V base y
  simp only [bst]
  split <;> omega
theorem tab_push2 {α : Type} (n : Nat) (g : Nat → α) : tabL n g ++ [g n] = tabL (n + 1) g := by simp [tabL, List.range_succ]
def pl (V : List Int) (L w q : Nat) : Nat := bst V (q / (L / w) * L + q % (L / w) * w) (w - 1)
theorem prd_pos2 {c m : Nat} (h1 : 1 ≤ c) (h2 : 1 ≤ m) (h : c * m ≤ 4096) : 0 < prd [(c : Int), (m : Int)] ∧ (prd [(c : Int), (m : Int)]).toNat = c * m := by
 have a1 : c ≤ c * m := Nat.le_mul_of_pos_right _ h2
 have a2 : m ≤ c * m := Nat.le_mul_of_pos_left _ h1
 have e : prd [(c : Int), (m : Int)] = ((c * m : Nat) : Int) := by rw [prd_two, if_neg (by rw [← Int.natCast_mul]; omega), Int.natCast_mul]
 rw [e]
 exact ⟨by omega, Int.toNat_natCast _⟩
section
variable (V : List Int) (c L w : Nat) (c1 : 1 ≤ c) (w1 : 1 ≤ w) (hw : w ≤ L) (hV : V.length = c * L) (bV : c * L ≤ 4096)
include c1 w1 hw hV bV
theorem pool_m : 1 ≤ L / w ∧ L / w ≤ L ∧ c * (L / w) ≤ 4096 ∧ L ≤ 4096 := by
 have a : L / w ≤ L := Nat.div_le_self _ _
 have b : c * (L / w) ≤ c * L := Nat.mul_le_mul_left _ a
 exact ⟨(Nat.le_div_iff_mul_le w1).2 (by omega), a, by omega, Nat.le_trans (Nat.le_mul_of_pos_left _ c1) bV⟩
theorem pool_in {x j y : Nat} (hx : x < c) (hj : j < L / w) (hy : y < w) : x * L + j * w + y < V.length := by
 have h1 : (j + 1) * w ≤ L / w * w := Nat.mul_le_mul_right _ hj
 have h2 : L / w * w ≤ L := Nat.div_mul_le_self _ _
 rw [Nat.add_mul, Nat.one_mul] at h1
 have := in_mat (c := c) (L := L) hx (show j * w + y < L by omega)
 rw [hV]; omega
theorem pool_eM : IntKind.i64.wrap (Int.tdiv (L : Int) (w : Int)) = ((L / w : Nat) : Int) := by
 obtain ⟨_, a, _, b⟩ := pool_m V c L w c1 w1 hw hV bV
 rw [Int.tdiv_eq_ediv_of_nonneg (by omega), ← Int.natCast_ediv, wnat (by omega)]
theorem pool_bestP (q : Nat) (hq : q < c * (L / w)) :
  loopF (fun go (x : Int × Int) => f206_l7 ([(c : Int), (L : Int)], V) w (q : Int) go x.1 x.2) fuelN (((q / (L / w) * L + q % (L / w) * w : Nat) : Int), ((q / (L / w) * L + q % (L / w) * w + 1 : Nat) : Int)) = some (pl V L w q : Int) := by
 obtain ⟨m1, mL, mN, hL⟩ := pool_m V c L w c1 w1 hw hV bV
 have eM := pool_eM V c L w c1 w1 hw hV bV
 have hx : q / (L / w) < c := Nat.div_lt_of_lt_mul (by rw [Nat.mul_comm]; exact hq)
 have hj : q % (L / w) < L / w := Nat.mod_lt _ m1
 have eI : IntKind.i64.wrap (Int.tdiv (q : Int) ((L / w : Nat) : Int)) = ((q / (L / w) : Nat) : Int) := by
  have : q / (L / w) ≤ q := Nat.div_le_self _ _
  rw [Int.tdiv_eq_ediv_of_nonneg (by omega), ← Int.natCast_ediv, wnat (by omega)]
 have eN : Int.tmod (q : Int) ((L / w : Nat) : Int) = ((q % (L / w) : Nat) : Int) := by
  rw [Int.tmod_eq_emod_of_nonneg (by omega), ← Int.natCast_emod]
 have hend := pool_in V c L w c1 w1 hw hV bV hx hj (show w - 1 < w by omega)
 unfold pl
 generalize q / (L / w) = x at *
 generalize q % (L / w) = j at *
 generalize hm : L / w = m at *
 have eB : IntKind.i64.wrap (IntKind.i64.wrap (IntKind.i64.wrap ((x : Int) * (L : Int)) + IntKind.i64.wrap ((j : Int) * (w : Int))) + (w : Int)) = ((x * L + j * w + w : Nat) : Int) := ixA x L j w w (by omega)
 have h := loop_for (B := fun go (z : Int × Int) => f206_l7 ([(c : Int), (L : Int)], V) w (q : Int) go z.1 z.2) (fun y => ((bst V (x * L + j * w) y : Int), ((x * L + j * w + 1 + y : Nat) : Int))) (w - 1) (bst V (x * L + j * w) (w - 1) : Int) ?_ ?_ (by omega)
 ·exact h
 ·intro y hy go
  have hb := bst_in V (x * L + j * w) y
  unfold f206_l7
  simp only
  have m0 : ((m : Nat) : Int) ≠ 0 := by omega
  rw [show rd (0 : Int) [(c : Int), (L : Int)] 1 = (L : Int) from rfl, eM, guardF_pos m0, guardF_pos m0, eI, eN, eB, dT (by omega), cond_true, guardF_pos (by omega), guardF_pos (by omega), wsucc _ (by omega)]
  have e2 : ((x * L + j * w + 1 + y : Nat) : Int) = ((x * L + j * w + (y + 1) : Nat) : Int) := by omega
  have e3 : ((x * L + j * w + 1 + y + 1 : Nat) : Int) = ((x * L + j * w + 1 + (y + 1) : Nat) : Int) := by omega
  rw [e2, e3]
  simp only [bst]
  by_cases g : rd (0 : Int) V ((x * L + j * w + (y + 1) : Nat) : Int) > rd (0 : Int) V (bst V (x * L + j * w) y : Int)
  ·rw [dT g, if_pos g]; rfl
  ·rw [dF g, if_neg g]; rfl
 ·intro go
  unfold f206_l7
  simp only
  have m0 : ((m : Nat) : Int) ≠ 0 := by omega
  rw [show rd (0 : Int) [(c : Int), (L : Int)] 1 = (L : Int) from rfl, eM, guardF_pos m0, guardF_pos m0, eI, eN, eB, dF (by omega), cond_false]
def plT (N : Nat) (V : List Int) (L w : Nat) : List Int := tabL N (fun q => (pl V L w q : Int))
def plV (V : List Int) (L w q : Nat) : Int := rd (0 : Int) V (pl V L w q : Int)
theorem pl_in {q : Nat} (hq : q < c * (L / w)) : pl V L w q < V.length := by
 obtain ⟨m1, mL, mN, hL⟩ := pool_m V c L w c1 w1 hw hV bV
 have hx : q / (L / w) < c := Nat.div_lt_of_lt_mul (by rw [Nat.mul_comm]; exact hq)
 have hj : q % (L / w) < L / w := Nat.mod_lt _ m1
 have hend := pool_in V c L w c1 w1 hw hV bV hx hj (show w - 1 < w by omega)
 have := bst_in V (q / (L / w) * L + q % (L / w) * w) (w - 1)
 unfold pl; omega
theorem pool_loopP (r : List Int) :
  loopF (fun go (x : Int × List Int × List Int) => f206_l6 ([(c : Int), (L : Int)], V) w (0, r, List.replicate (c * (L / w)) 0) go x.1 x.2.1 x.2.2) fuelN ((0 : Int), [], List.replicate (c * (L / w)) 0) = some (plT (c * (L / w)) V L w, tabL (c * (L / w)) (plV V L w)) := by
 obtain ⟨m1, mL, mN, hL⟩ := pool_m V c L w c1 w1 hw hV bV
 have eM := pool_eM V c L w c1 w1 hw hV bV
 rw [upto_zero _ (plV V L w)]
 have h := loop_for (B := fun go (x : Int × List Int × List Int) => f206_l6 ([(c : Int), (L : Int)], V) w (0, r, upto (c * (L / w)) 0 (plV V L w)) go x.1 x.2.1 x.2.2) (fun q => ((q : Int), plT q V L w, upto (c * (L / w)) q (plV V L w))) (c * (L / w)) (plT (c * (L / w)) V L w, tabL (c * (L / w)) (plV V L w)) ?_ ?_ (by omega)
 ·exact h
 ·intro q hq go
  have hx : q / (L / w) < c := Nat.div_lt_of_lt_mul (by rw [Nat.mul_comm]; exact hq)
  have hj : q % (L / w) < L / w := Nat.mod_lt _ m1
  have hend := pool_in V c L w c1 w1 hw hV bV hx hj (show w - 1 < w by omega)
  have best := pool_bestP V c L w c1 w1 hw hV bV q hq
  have hpl := pl_in V c L w c1 w1 hw hV bV hq
  have eI : IntKind.i64.wrap (Int.tdiv (q : Int) ((L / w : Nat) : Int)) = ((q / (L / w) : Nat) : Int) := by
   have : q / (L / w) ≤ q := Nat.div_le_self _ _
   rw [Int.tdiv_eq_ediv_of_nonneg (by omega), ← Int.natCast_ediv, wnat (by omega)]
  have eN : Int.tmod (q : Int) ((L / w : Nat) : Int) = ((q % (L / w) : Nat) : Int) := by
   rw [Int.tmod_eq_emod_of_nonneg (by omega), ← Int.natCast_emod]
  unfold f206_l6
  simp only [upto_len]
  have m0 : ((L / w : Nat) : Int) ≠ 0 := by omega
  have e2 : IntKind.i64.wrap (IntKind.i64.wrap (((q / (L / w) : Nat) : Int) * (L : Int)) + IntKind.i64.wrap (((q % (L / w) : Nat) : Int) * (w : Int))) = ((q / (L / w) * L + q % (L / w) * w : Nat) : Int) := by
   rw [wmul _ L (by omega), wmul _ w (by omega), wadd _ _ (by omega)]
  have hlen : (plT q V L w).length = q := tab_len _ _
  rw [show rd (0 : Int) [(c : Int), (L : Int)] 1 = (L : Int) from rfl, eM, dT (by omega), cond_true, guardF_pos m0, guardF_pos m0, eI, eN, e2, wsucc _ (by omega), best, bindF_some, guardF_pos (by omega), guardF_pos (by omega),
   guardF_pos (by rw [hlen]; simp only [List.length_cons, List.length_nil]; omega), wsucc q (by omega), Int.toNat_natCast]
  have := upto_set (c * (L / w)) q (plV V L w) (rd (0 : Int) V (pl V L w q : Int)) hq rfl
  rw [this]
  have e4 : plT q V L w ++ [(pl V L w q : Int)] = plT (q + 1) V L w := tab_push2 q (fun q => (pl V L w q : Int))
  rw [e4]
 ·intro go
  unfold f206_l6
  simp only [upto_len]
  rw [dF (by omega), cond_false, upto_full]
end
def poolS (a : Tn) (wid : Int) : Int × List Int × List Int × List Int :=
 if tgood a = true then
  if a.1.length = 2 then
   if 1 ≤ wid ∧ wid ≤ rd (0 : Int) a.1 1 then
    (0, [rd (0 : Int) a.1 0, (((rd (0 : Int) a.1 1).toNat / wid.toNat : Nat) : Int)], tabL ((rd (0 : Int) a.1 0).toNat * ((rd (0 : Int) a.1 1).toNat / wid.toNat)) (plV a.2 (rd (0 : Int) a.1 1).toNat wid.toNat), plT ((rd (0 : Int) a.1 0).toNat * ((rd (0 : Int) a.1 1).toNat / wid.toNat)) a.2 (rd (0 : Int) a.1 1).toNat wid.toNat)
   else (1, [], [], [])
  else (4, [], [], [])
 else (1, [], [], [])
theorem poolP (a : Tn) (wid : Int) : f206 a wid = some (poolS a wid) := by
 have eg : f59 (a.1, a.2) = some (tgood a) := good_ok a
 unfold f206 f206_j2 poolS
 rw [eg, bindF_some]
 by_cases ga : tgood a = true
 ·rw [if_pos ga, ga, Bool.not_true, cond_false]
  by_cases f1 : a.1.length = 2
  ·rw [if_pos f1, nF (by omega), cond_false]
   by_cases h : 1 ≤ wid ∧ wid ≤ rd (0 : Int) a.1 1
   ·have hj : f206_j3 a wid = some false := by
     unfold f206_j3
     rw [dF (by omega), cond_false, guardF_pos (by omega), dF (by omega)]
    rw [if_pos h, hj, bindF_some, cond_false, bindF_some, sumF_inl]
    obtain ⟨c, L, ea, c1, L1, la, ba⟩ := mat_nat ga f1
    obtain ⟨w, rfl⟩ := Int.eq_ofNat_of_zero_le (show 0 ≤ wid by omega)
    generalize a.2 = V at *
    subst ea
    have fw : (w : Int) ≤ (L : Int) := h.2
    have w1 : 1 ≤ w := by omega
    have hw : w ≤ L := by omega
    obtain ⟨m1, mL, mN, hL⟩ := pool_m V c L w c1 w1 hw la ba
    obtain ⟨p0, pN⟩ := prd_pos2 c1 m1 mN
    rw [guardF_pos (by simp), guardF_pos (by simp), guardF_pos (by omega), guardF_pos (by simp), show rd (0 : Int) [(c : Int), (L : Int)] 0 = (c : Int) from rfl, show rd (0 : Int) [(c : Int), (L : Int)] 1 = (L : Int) from rfl, pool_eM V c L w c1 w1 hw la ba, of_ok, if_pos p0, pN, bindF_some]
    simp only
    rw [pool_loopP V c L w c1 w1 hw la ba, bindF_some]
    rfl
   ·have hj : f206_j3 a wid = some true := by
     unfold f206_j3
     by_cases h1 : wid < 1
     ·rw [dT h1]; rfl
     ·rw [dF h1, cond_false, guardF_pos (by omega), dT (by omega)]
    rw [if_neg h, hj]; rfl
  ·rw [if_neg f1, nT (by omega)]; rfl
 ·rw [if_neg ga, show tgood a = false by simpa using ga]; rfl
end Go.Proofs.Cv
namespace Go.Proofs.Op
open Go.AM Go.Proofs.PlB Go.Proofs.PlW Go.Proofs.PlT Go.Proofs.PlS Go.Proofs.Sh Go.Proofs.Num Go.Proofs.Div Go.Proofs.PlR
abbrev noT : Tn := ([], [])
section
variable (l : List Nd) (i : Nat)
theorem vl_nat (n : Nat) (h : n < l.length) : vl l (n : Int) = nd l n := by unfold vl; rw [if_pos (by omega), Int.toNat_natCast]
end
end Go.Proofs.Op
namespace Go.Proofs.Cv
open Go.AM Go.Proofs.PlB Go.Proofs.PlW Go.Proofs.PlT Go.Proofs.PlS Go.Proofs.Sh Go.Proofs.Num Go.Proofs.Div Go.Proofs.Op
open Go.Proofs.PlR hiding Tn
theorem hor_in2 {d p : List Int} : ∀ k : Nat, (∀ j, j < k → 0 ≤ rd (0 : Int) p (j : Int) ∧ rd (0 : Int) p (j : Int) < rd (0 : Int) d (j : Int)) → k ≤ d.length → 0 ≤ hor d p k ∧ hor d p k < prodL (d.take k)
 | 0, _, _ => by simp [hor, prodL]
 | k + 1, W, h => by
  obtain ⟨h1, h2⟩ := hor_in2 k (fun j hj => W j (by omega)) (by omega)
  obtain ⟨l, u⟩ := W k (by omega)
  rw [prodL_take k (by omega)]
  simp only [hor]
  have m1 : 0 ≤ hor d p k * rd (0 : Int) d (k : Int) := Int.mul_nonneg h1 (by omega)
  have m2 : (hor d p k + 1) * rd (0 : Int) d (k : Int) ≤ prodL (d.take k) * rd (0 : Int) d (k : Int) := Int.mul_le_mul_of_nonneg_right (by omega) (by omega)
  rw [Int.add_mul, Int.one_mul] at m2
  constructor <;> omega
theorem hor_small2 {d p : List Int} (hd : 0 < prd d) (k : Nat) (W : ∀ j, j < k → 0 ≤ rd (0 : Int) p (j : Int) ∧ rd (0 : Int) p (j : Int) < rd (0 : Int) d (j : Int)) (hk : k ≤ d.length) : 0 ≤ hor d p k ∧ hor d p k < prd d ∧ hor d p k < 4096 := by
 obtain ⟨e, h1, h2⟩ := prd_prod hd
 have hr := prd_range d
 obtain ⟨a, b⟩ := hor_in2 k W hk
 obtain ⟨_, c⟩ := prodL_le (fun x hx => (h1 x hx).1) k
 omega
theorem at_any (d p : List Int) (hd : 0 < prd d) : ∃ q b, f214 d p = some (q, b) ∧ 0 ≤ q ∧ q < prd d := by
 have hl := prd_len hd
 unfold f214 f214_j1
 rw [shapeGood_ok, bindF_some, dT (show prd d > 0 from hd), Bool.not_true, cond_false]
 by_cases hp : p.length = d.length
 ·rw [nF (by omega), cond_false, bindF_some, sumF_inl]
  have LL := loop_fuel (B := fun go (x : Int × Int) => f214_l4 d p go x.1 x.2)
   (fun x => ∃ k : Nat, k ≤ d.length ∧ x = (hor d p k, (k : Int)) ∧ ∀ j, j < k → 0 ≤ rd (0 : Int) p (j : Int) ∧ rd (0 : Int) p (j : Int) < rd (0 : Int) d (j : Int)) (fun x => d.length - x.2.toNat)
   (fun z => ∀ v, z = Sum.inr v → 0 ≤ v ∧ v < prd d) ?_ ((0 : Int), (0 : Int)) ⟨0, by omega, rfl, fun j hj => absurd hj (by omega)⟩ (by simp only; omega)
  ·obtain ⟨z, ez, hz⟩ := LL
   rw [ez, bindF_some]
   cases z with
   | inl u => exact ⟨0, false, rfl, by omega, hd⟩
   | inr v => exact ⟨v, true, rfl, hz v rfl⟩
  ·rintro _ ⟨k, hk, rfl, W⟩
   by_cases hkk : k < d.length
   ·by_cases hw : 0 ≤ rd (0 : Int) p (k : Int) ∧ rd (0 : Int) p (k : Int) < rd (0 : Int) d (k : Int)
    ·have W2 : ∀ j, j < k + 1 → 0 ≤ rd (0 : Int) p (j : Int) ∧ rd (0 : Int) p (j : Int) < rd (0 : Int) d (j : Int) := fun j hj => by
      by_cases e : j = k
      ·subst e; exact hw
      ·exact W j (by omega)
     obtain ⟨a, b, c⟩ := hor_small2 hd k W hk
     obtain ⟨a2, b2, c2⟩ := hor_small2 hd (k + 1) W2 hkk
     refine .inr ⟨(hor d p (k + 1), ((k + 1 : Nat) : Int)), fun go => ?_, ⟨k + 1, hkk, rfl, W2⟩, by simp only; omega⟩
     have hj : f214_j5 d p (k : Int) = some (Sum.inl ()) := by
      unfold f214_j5
      rw [dF (by omega), cond_false, guardF_pos (by omega), dF (by omega)]; rfl
     simp only [hor] at a2 b2 c2
     have m1 : 0 ≤ hor d p k * rd (0 : Int) d (k : Int) := Int.mul_nonneg a (by omega)
     unfold f214_l4
     simp only
     rw [dT (by omega), cond_true, guardF_pos (by omega), hj, bindF_some, sumF_inl, guardF_pos (by omega), wsucc k (by omega), wrap_i64 (n := hor d p k * rd (0 : Int) d (k : Int)) (by omega) (by omega), wrap_i64 (by omega) (by omega)]
     rfl
    ·refine .inl ⟨Sum.inl (), fun go => ?_, fun v h => absurd h (by simp)⟩
     have hj : f214_j5 d p (k : Int) = some (Sum.inr ()) := by
      unfold f214_j5
      by_cases h1 : rd (0 : Int) p (k : Int) < 0
      ·rw [dT h1]; rfl
      ·rw [dF h1, cond_false, guardF_pos (by omega), dT (by omega)]; rfl
     unfold f214_l4
     simp only
     rw [dT (by omega), cond_true, guardF_pos (by omega), hj, bindF_some, sumF_inr]
   ·obtain rfl : k = d.length := by omega
    obtain ⟨a, b, c⟩ := hor_small2 hd _ W (Nat.le_refl _)
    refine .inl ⟨Sum.inr (hor d p d.length), fun go => ?_, fun v h => by injection h with h; subst h; exact ⟨a, b⟩⟩
    unfold f214_l4
    simp only
    rw [dF (by omega), cond_false]
 ·rw [nT (by omega), cond_true, bindF_some, sumF_inr]
  exact ⟨0, false, rfl, by omega, hd⟩
theorem rd_any {l : List Int} (h : inI l) (q : Int) (h0 : 0 ≤ q) (h1 : q < l.length) : InR (rd (0 : Int) l q) := by
 obtain ⟨k, rfl⟩ := Int.eq_ofNat_of_zero_le h0
 exact inI_rd h k (by omega)
theorem spreadW (g : Tn) (d : List Int) (side : Int) (gg : tgood g = true) (ig : inI g.2) (hd : 0 < prd d) (s0 : 0 ≤ side) (s1 : side < d.length) : ∃ t, f169 g d side = some t ∧ inI t.2 := by
 obtain ⟨hp, hl, _, hl2⟩ := good_len gg
 have hr := prd_range d
 have hdl := prd_len hd
 unfold f169
 rw [new_ok, if_pos hd, bindF_some]
 simp only
 have LL := loop_rel (B := fun go (x : Int × List Int) => f169_l1 g d side (0, d, List.replicate (prd d).toNat 0) go x.1 x.2)
  (fun k x => x.1 = (k : Int) ∧ x.2.length = (prd d).toNat ∧ inI x.2) (fun z => inI z) (prd d).toNat ((0 : Int), List.replicate (prd d).toNat 0) ⟨rfl, by simp, inI_rep _ _ (by decide)⟩ ?_ ?_ (by omega)
 ·obtain ⟨z, ez, hz⟩ := LL
  rw [ez, bindF_some]; exact ⟨_, rfl, hz⟩
 ·rintro k hk ⟨_, l4⟩ ⟨rfl, hl4, il⟩
  have hpl := plc_len d (k : Int)
  obtain ⟨q, b, eq, q0, q1⟩ := at_any g.1 ((([] : List Int) ++ (List.take (Int.toNat side) (plc d (k : Int)))) ++ (List.drop (Int.toNat (IntKind.i64.wrap (side + (1 : Int)))) (plc d (k : Int)))) hp
  refine ⟨(((k + 1 : Nat) : Int), List.set l4 k (rd (0 : Int) g.2 q)), fun go => ?_, rfl, by simp only [List.length_set]; exact hl4, inI_set il _ _ (rd_any ig q q0 (by omega))⟩
  unfold f169_l1
  simp only [List.length_replicate]
  simp only at hl4
  have g3 : (List.length ([] : List Int) + List.length (List.take (Int.toNat side) (plc d (k : Int)))) * 8 ≤ 140737488355328 := by rw [List.length_take]; simp only [List.length_nil]; omega
  have g4 : (List.length (([] : List Int) ++ (List.take (Int.toNat side) (plc d (k : Int)))) + List.length (List.drop (Int.toNat (IntKind.i64.wrap (side + (1 : Int)))) (plc d (k : Int)))) * 8 ≤ 140737488355328 := by
   rw [List.nil_append, List.length_take, List.length_drop]; omega
  rw [dT (by omega), cond_true, placeP d hd (k : Int) (by omega) (by omega), bindF_some]
  simp only
  rw [guardF_pos (by omega), guardF_pos (by rw [wrap_i64 (by omega) (by omega)]; omega), guardF_pos g3, guardF_pos g4, eq, bindF_some]
  simp only
  rw [guardF_pos (by omega), guardF_pos (by omega), wsucc k (by omega), Int.toNat_natCast]
 ·rintro ⟨_, l4⟩ ⟨rfl, hl4, il⟩
  refine ⟨l4, fun go => ?_, il⟩
  unfold f169_l1
  simp only [List.length_replicate]
  rw [dF (by omega), cond_false]
theorem pool_places (a : Tn) (w : Int) (h : (poolS a w).1 = 0) : tgood a = true ∧ (((poolS a w).2.2.2.length : Nat) : Int) = prd (poolS a w).2.1 ∧ (poolS a w).2.2.2.length ≤ 4096 ∧ ∀ k : Nat, k < (poolS a w).2.2.2.length → 0 ≤ rd (0 : Int) (poolS a w).2.2.2 (k : Int) ∧ rd (0 : Int) (poolS a w).2.2.2 (k : Int) < a.2.length := by
 unfold poolS at h ⊢
 by_cases c : tgood a = true
 ·rw [if_pos c] at h ⊢
  by_cases e : a.1.length = 2
  ·rw [if_pos e] at h ⊢
   by_cases f : 1 ≤ w ∧ w ≤ rd (0 : Int) a.1 1
   ·rw [if_pos f] at h ⊢
    obtain ⟨cc, L, ea, c1, L1, la, ba⟩ := mat_nat c e
    obtain ⟨w', rfl⟩ := Int.eq_ofNat_of_zero_le (show 0 ≤ w by omega)
    refine ⟨c, ?_⟩
    clear h c e
    generalize a.2 = V at *
    subst ea
    have fw : (w' : Int) ≤ (L : Int) := f.2
    have w1 : 1 ≤ w' := by omega
    obtain ⟨m1, mL, mN, hL⟩ := pool_m V cc L w' c1 w1 (by omega) la ba
    obtain ⟨p0, pN⟩ := prd_pos2 c1 m1 mN
    have hlen : (plT (cc * (L / w')) V L w').length = cc * (L / w') := tab_len _ _
    have key : (((plT (cc * (L / w')) V L w').length : Nat) : Int) = prd [(cc : Int), ((L / w' : Nat) : Int)] ∧ (plT (cc * (L / w')) V L w').length ≤ 4096 ∧ ∀ k : Nat, k < (plT (cc * (L / w')) V L w').length → 0 ≤ rd (0 : Int) (plT (cc * (L / w')) V L w') (k : Int) ∧ rd (0 : Int) (plT (cc * (L / w')) V L w') (k : Int) < V.length := by
     refine ⟨by rw [hlen]; omega, by omega, fun k hk => ?_⟩
     rw [hlen] at hk
     have := pl_in V cc L w' c1 w1 (by omega) la ba hk
     have er : rd (0 : Int) (plT (cc * (L / w')) V L w') (k : Int) = (pl V L w' k : Int) := rd_tab _ _ _ _ hk
     rw [er]
     constructor <;> omega
    exact key
   ·rw [if_neg f] at h; exact absurd h (by decide)
  ·rw [if_neg e] at h; exact absurd h (by decide)
 ·rw [if_neg c] at h; exact absurd h (by decide)
theorem pickedW (g a : Tn) (w : Int) (h : (poolS a w).1 = 0) (gg : tgood g = true) (ig : inI g.2) (hd : g.1 = (poolS a w).2.1) : ∃ t, f173 g a w = some t ∧ inI t.2 := by
 obtain ⟨ga, hn, hn4, hp⟩ := pool_places a w h
 obtain ⟨pa, la, _, la2⟩ := good_len ga
 obtain ⟨pg, lg, _, lg2⟩ := good_len gg
 rw [hd] at lg
 unfold f173
 rw [new_ok, if_pos pa, bindF_some]
 have ep : f206 (a.1, a.2) w = some (poolS a w) := poolP a w
 rw [ep, bindF_some]
 simp only
 have LL := loop_rel (B := fun go (x : Int × List Int) => f173_l1 g (poolS a w) go x.1 x.2)
  (fun k x => x.1 = (k : Int) ∧ x.2.length = a.2.length ∧ inI x.2) (fun z => inI z) (poolS a w).2.2.2.length ((0 : Int), List.replicate (prd a.1).toNat 0) ⟨rfl, by simp only [List.length_replicate]; omega, inI_rep _ _ (by decide)⟩ ?_ ?_ (by omega)
 ·obtain ⟨z, ez, hz⟩ := LL
  rw [ez, bindF_some]; exact ⟨_, rfl, hz⟩
 ·rintro k hk ⟨_, l4⟩ ⟨rfl, hl4, il⟩
  simp only at hl4 il
  obtain ⟨p0, p1⟩ := hp k hk
  refine ⟨(((k + 1 : Nat) : Int), List.set l4 (Int.toNat (rd (0 : Int) (poolS a w).2.2.2 (k : Int))) (rd (0 : Int) g.2 (k : Int))), fun go => ?_, rfl, by simp only [List.length_set]; exact hl4, inI_set il _ _ (inI_rd ig k (by omega))⟩
  unfold f173_l1
  simp only
  rw [dT (by omega), cond_true, guardF_pos (by omega), guardF_pos (by omega), guardF_pos (by omega), wsucc k (by omega)]
 ·rintro ⟨_, l4⟩ ⟨rfl, hl4, il⟩
  refine ⟨l4, fun go => ?_, il⟩
  unfold f173_l1
  simp only
  rw [dF (by omega), cond_false]
theorem fold_in (a : Tn) (d : List Int) : inI (foldS a d).2.2 := by
 unfold foldS
 split
 ·split
  ·exact fold_inI _ _ _ _
  ·exact inI_nil
 ·exact inI_nil
theorem both_in (f : Int → Int → Int) (hf : ∀ x y, InR (f x y)) (a b : Tn) : inI (bothS f a b).2.2 := by
 unfold bothS
 split
 ·split
  ·exact inI_tab (fun i hi => hf _ _)
  ·exact inI_nil
 ·exact inI_nil
theorem scale_in (a : Tn) (k : Int) : inI (scaleS a k).2.2 := by
 unfold scaleS
 split
 ·exact inI_tab (fun i hi => sat_in _)
 ·exact inI_nil
theorem unbent_in (k : Int) (t g : Tn) : inI (unbentS k t g).2.2 := by
 unfold unbentS
 split
 ·split
  ·exact inI_tab (fun i hi => sat_in _)
  ·exact inI_nil
 ·exact inI_nil
theorem resh_in (a : Tn) (d : List Int) (ia : inI a.2) : inI (reshS a d).2.2 := by
 unfold reshS
 split
 ·split
  ·exact ia
  ·exact inI_nil
 ·exact inI_nil
theorem ker_in (g a : Tn) (s w : Int) : inI (kerS g a s w).2.2 := by
 unfold kerS
 split
 ·split
  ·split
   ·exact inI_tab (fun i hi => sat_in _)
   ·exact inI_nil
  ·exact inI_nil
 ·exact inI_nil
theorem foldedW (r : Int × Tn) (ir : inI r.2.2) (d : List Int) : Tot (f165 (r.2.1, r.2.2) r.1 d) := by
 unfold f165
 by_cases h : r.1 = 0
 ·rw [nF h, cond_false]
  have e : f163 ((r.2.1, r.2.2).1, (r.2.1, r.2.2).2) d = some (foldS r.2 d) := foldP r.2 d ir
  rw [e]; exact ⟨_, rfl, fold_in _ _⟩
 ·rw [nT h]; exact tot_err _
def OpOk (op K : Int) (ta tb t : Tn) : Prop :=
 op = 1 ∨ ((op = 2 ∨ op = 3 ∨ op = 4 ∨ op = 9 ∨ op = 10 ∨ op = 11 ∨ op = 14) ∧ 0 < ta.2.length ∧ ta.2.length ≤ 4096) ∨ (op = 8 ∧ 0 < prd ta.1 ∧ 0 ≤ K ∧ K < ta.1.length)
  ∨ (op = 12 ∧ ta.1.length = 2 ∧ tb.1.length = 3) ∨ (op = 13 ∧ (poolS ta K).1 = 0 ∧ t.1 = (poolS ta K).2.1)
theorem new_in (d : List Int) (v : Int) (hv : InR v) : ∃ r, f68 d v = some r ∧ inI r.2.2 := by
 rw [new_ok]
 by_cases h : 0 < prd d
 ·rw [if_pos h]; exact ⟨_, rfl, inI_rep _ _ hv⟩
 ·rw [if_neg h]; exact ⟨_, rfl, inI_nil⟩
theorem forAW (n : Nd) (a b g : Tn) (h : OpOk n.1 n.2.2.2.1 a b n.2.2.2.2) (ia : inI a.2) (ib : inI b.2) (gg : tgood g = true) (ig : inI g.2) (hd : g.1 = n.2.2.2.2.1) : Tot (f111 n a b g) := by
 obtain ⟨pg, lg, _, _⟩ := good_len gg
 have g0 : InR (rd (0 : Int) g.2 0) := inI_rd ig 0 (by omega)
 unfold f111 f111_j1
 rcases h with h | ⟨h, a1, a4⟩ | ⟨h, k0, k1, k2⟩ | ⟨h, k0, k1⟩ | ⟨h, k0, k1⟩
 ·rw [h]; exact tot_err _
 ·rcases h with h | h | h | h | h | h | h
  ·rw [h]
   have e : f163 (g.1, g.2) a.1 = some (foldS g a.1) := foldP g a.1 ig
   show Tot (bindF (f163 (g.1, g.2) a.1) _)
   rw [e]; exact ⟨_, rfl, fold_in _ _⟩
  ·rw [h]
   have e : f163 (g.1, g.2) a.1 = some (foldS g a.1) := foldP g a.1 ig
   show Tot (bindF (f163 (g.1, g.2) a.1) _)
   rw [e]; exact ⟨_, rfl, fold_in _ _⟩
  ·rw [h]
   have e : f164 (g.1, g.2) (b.1, b.2) = some (bothS mulX g b) := mulP g b ig ib
   show Tot (bindF (f164 (g.1, g.2) (b.1, b.2)) _)
   rw [e, bindF_some]
   obtain ⟨r, er, hr⟩ := foldedW (bothS mulX g b) (both_in mulX (fun x y => sat_in _) _ _) a.1
   rw [er]; exact ⟨_, rfl, hr⟩
  ·rw [h]
   show Tot (guardF (0 ≤ (0 : Int) ∧ (0 : Int) < (List.length g.2 : Int)) _)
   rw [guardF_pos (by omega)]
   obtain ⟨r, er, hr⟩ := new_in a.1 _ g0
   rw [er]; exact ⟨_, rfl, hr⟩
  ·rw [h]
   show Tot (guardF (0 ≤ (0 : Int) ∧ (0 : Int) < (List.length g.2 : Int)) _)
   unfold InR at g0
   rw [guardF_pos (by omega), PlV.of_ok _ g0.1 g0.2, bindF_some]
   show Tot (bindF (f170 (PlV.pair (rd (0 : Int) g.2 0)) (List.length a.2 : Int)) _)
   rw [over_ok _ _ (by omega) (by omega) (by omega) (by omega) (by omega), bindF_some]
   obtain ⟨r, er, hr⟩ := new_in a.1 (sat (rdI (rd (0 : Int) g.2 0) (a.2.length : Int))) (sat_in _)
   rw [er]; exact ⟨_, rfl, hr⟩
  ·rw [h]
   have e : f171 n.2.2.2.1 (a.1, a.2) (g.1, g.2) = some (unbentS n.2.2.2.1 a g) := unbentP n.2.2.2.1 a g ig
   show Tot (bindF (f171 n.2.2.2.1 (a.1, a.2) (g.1, g.2)) _)
   rw [e]; exact ⟨_, rfl, unbent_in _ _ _⟩
  ·rw [h]
   have e : f174 (g.1, g.2) a.1 = some (reshS g a.1) := reshP g a.1
   show Tot (bindF (f174 (g.1, g.2) a.1) _)
   rw [e]; exact ⟨_, rfl, resh_in _ _ ig⟩
 ·rw [h]
  show Tot (bindF (f169 (g.1, g.2) a.1 n.2.2.2.1) _)
  obtain ⟨t, et, ht⟩ := spreadW g a.1 n.2.2.2.1 gg ig k0 k1 k2
  have et2 : f169 (g.1, g.2) a.1 n.2.2.2.1 = some t := et
  rw [et2]; exact ⟨_, rfl, ht⟩
 ·rw [h]
  show Tot (guardF (0 ≤ (1 : Int) ∧ (1 : Int) < (List.length a.1 : Int)) _)
  rw [guardF_pos (by omega)]
  obtain ⟨r, er, hr⟩ := backInW g b n.2.2.2.1 (rd (0 : Int) a.1 1) ig ib
  have er2 : f172 (g.1, g.2) (b.1, b.2) n.2.2.2.1 (rd (0 : Int) a.1 1) = some r := er
  rw [er2]; exact ⟨_, rfl, hr⟩
 ·rw [h]
  show Tot (bindF (f173 (g.1, g.2) (a.1, a.2) n.2.2.2.1) _)
  obtain ⟨t, et, ht⟩ := pickedW g a n.2.2.2.1 k0 gg ig (by rw [hd]; exact k1)
  have et2 : f173 (g.1, g.2) (a.1, a.2) n.2.2.2.1 = some t := et
  rw [et2]; exact ⟨_, rfl, ht⟩
theorem forBW (n : Nd) (a b g : Tn) (h : OpOk n.1 n.2.2.2.1 a b n.2.2.2.2) (ia : inI a.2) (ib : inI b.2) (ig : inI g.2) : Tot (f112 n a b g) := by
 unfold f112
 rcases h with h | ⟨h, a1, a4⟩ | ⟨h, k0, k1, k2⟩ | ⟨h, k0, k1⟩ | ⟨h, k0, k1⟩
 ·rw [h]; exact tot_err _
 ·rcases h with h | h | h | h | h | h | h
  ·rw [h]
   have e : f163 (g.1, g.2) b.1 = some (foldS g b.1) := foldP g b.1 ig
   show Tot (bindF (f163 (g.1, g.2) b.1) _)
   rw [e]; exact ⟨_, rfl, fold_in _ _⟩
  ·rw [h]
   have e : f166 (g.1, g.2) (-4294967296) = some (scaleS g (-4294967296)) := scaleP g _ ig (by decide)
   show Tot (bindF (f166 (g.1, g.2) (-4294967296)) _)
   rw [e, bindF_some]
   obtain ⟨r, er, hr⟩ := foldedW (scaleS g (-4294967296)) (scale_in _ _) b.1
   rw [er]; exact ⟨_, rfl, hr⟩
  ·rw [h]
   have e : f164 (g.1, g.2) (a.1, a.2) = some (bothS mulX g a) := mulP g a ig ia
   show Tot (bindF (f164 (g.1, g.2) (a.1, a.2)) _)
   rw [e, bindF_some]
   obtain ⟨r, er, hr⟩ := foldedW (bothS mulX g a) (both_in mulX (fun x y => sat_in _) _ _) b.1
   rw [er]; exact ⟨_, rfl, hr⟩
  ·rw [h]; exact tot_err _
  ·rw [h]; exact tot_err _
  ·rw [h]; exact tot_err _
  ·rw [h]; exact tot_err _
 ·rw [h]; exact tot_err _
 ·rw [h]
  show Tot (guardF (0 ≤ (2 : Int) ∧ (2 : Int) < (List.length b.1 : Int)) _)
  rw [guardF_pos (by omega)]
  have e : f175 (g.1, g.2) (a.1, a.2) n.2.2.2.1 (rd (0 : Int) b.1 2) = some (kerS g a n.2.2.2.1 (rd (0 : Int) b.1 2)) := kerP g a _ _ ig ia
  rw [e]; exact ⟨_, rfl, ker_in _ _ _ _⟩
 ·rw [h]; exact tot_err _
end Go.Proofs.Cv
namespace Go.Proofs.Cv
open Go.AM Go.Proofs.PlB Go.Proofs.PlW Go.Proofs.PlT Go.Proofs.PlS Go.Proofs.Sh Go.Proofs.Num Go.Proofs.Div Go.Proofs.Op
open Go.Proofs.PlR hiding Tn
structure NW (l : List Nd) (i : Nat) : Prop where
 nA : (gn l i).2.1 < i
 nB : (gn l i).2.2.1 < i
 nOp : OpOk (gn l i).1 (gn l i).2.2.2.1 (vl l (gn l i).2.1) (vl l (gn l i).2.2.1) (nd l i)
structure TW (l : List Nd) : Prop where
 tL : l.length ≤ 512
 tG : ∀ i, i < l.length → GoodT (nd l i)
 tN : ∀ i, i < l.length → NW l i
theorem vl_in {l : List Nd} (hg : ∀ i, i < l.length → GoodT (nd l i)) (n : Int) : inI (vl l n).2 := by
 unfold vl
 split
 ·exact (hg _ (by omega)).2
 ·exact inI_nil
theorem oneW {l : List Nd} (T : TW l) (i : Nat) (h : i < l.length) (g : Tn) (ig : inI g.2) :
  ∃ (e : Int) (ga gb : Tn), f74 l (i : Int) g = some (e, ga.1, ga.2, gb.1, gb.2, l) ∧ inI ga.2 ∧ inI gb.2 ∧ (e = 0 → tgood g = true ∧ g.1 = (nd l i).1) := by
 have hg := T.tG
 unfold f74
 rw [atP l i h (hg i h), bindF_some]
 by_cases hgd : tgood g = true ∧ g.1 = (nd l i).1
 ·obtain ⟨gg, hd⟩ := hgd
  obtain ⟨_, _, l1, _⟩ := good_len gg
  have hj : f74_j2 g ((gn l i).1, (gn l i).2.1, (gn l i).2.2.1, (gn l i).2.2.2.1, true, (nd l i).1, (nd l i).2, l) = some (Sum.inl ()) := by
   unfold f74_j2 f74_j3
   simp only [Bool.not_true, cond_false]
   rw [show ((g.1, g.2) : Tn) = g from rfl, good_ok, gg, sameP _ _ (by omega), dT hd]
   rfl
  rw [hj, bindF_some, sumF_inl]
  simp only
  rw [valueP l _ hg, bindF_some]
  simp only
  rw [valueP l _ hg, bindF_some]
  have N := (T.tN i h).nOp
  have iA := vl_in hg (gn l i).2.1
  have iB := vl_in hg (gn l i).2.2.1
  obtain ⟨ra, ea, ha⟩ := forAW (gn l i) (vl l (gn l i).2.1) (vl l (gn l i).2.2.1) g N iA iB gg ig hd
  obtain ⟨rb, eb, hb⟩ := forBW (gn l i) (vl l (gn l i).2.1) (vl l (gn l i).2.2.1) g N iA iB ig
  have eA : f111 ((gn l i).1, (gn l i).2.1, (gn l i).2.2.1, (gn l i).2.2.2.1, (nd l i).1, (nd l i).2) ((vl l (gn l i).2.1).1, (vl l (gn l i).2.1).2) ((vl l (gn l i).2.2.1).1, (vl l (gn l i).2.2.1).2) (g.1, g.2) = some ra := ea
  have eB : f112 ((gn l i).1, (gn l i).2.1, (gn l i).2.2.1, (gn l i).2.2.2.1, (nd l i).1, (nd l i).2) ((vl l (gn l i).2.1).1, (vl l (gn l i).2.1).2) ((vl l (gn l i).2.2.1).1, (vl l (gn l i).2.2.1).2) (g.1, g.2) = some rb := eb
  rw [eA, bindF_some]
  by_cases e1 : ra.1 = 0
  ·rw [nF e1, cond_false, eB, bindF_some]
   by_cases e2 : rb.1 = 0
   ·rw [nF e2, cond_false]
    exact ⟨0, ra.2, rb.2, rfl, ha, hb, fun _ => ⟨gg, hd⟩⟩
   ·rw [nT e2, cond_true]
    exact ⟨rb.1, noT, noT, rfl, inI_nil, inI_nil, fun h => absurd h e2⟩
  ·rw [nT e1, cond_true]
   exact ⟨ra.1, noT, noT, rfl, inI_nil, inI_nil, fun h => absurd h e1⟩
 ·have hj : f74_j2 g ((gn l i).1, (gn l i).2.1, (gn l i).2.2.1, (gn l i).2.2.2.1, true, (nd l i).1, (nd l i).2, l) = some (Sum.inr ()) := by
   unfold f74_j2 f74_j3
   simp only [Bool.not_true, cond_false]
   rw [show ((g.1, g.2) : Tn) = g from rfl, good_ok, bindF_some]
   by_cases gg : tgood g = true
   ·obtain ⟨_, _, l1, _⟩ := good_len gg
    rw [gg, Bool.not_true, cond_false, sameP _ _ (by omega), dF (fun hd => hgd ⟨gg, hd⟩)]
    rfl
   ·rw [show tgood g = false by simpa using gg]; rfl
  rw [hj, bindF_some, sumF_inr]
  exact ⟨1, noT, noT, rfl, inI_nil, inI_nil, fun h => absurd h (by decide)⟩
structure GW (root : Nat) (ls : List Tn) (gv : List Bool) : Prop where
 w1 : ls.length = root + 1
 w2 : gv.length = root + 1
 wI : ∀ i, i ≤ root → inI (rd Z2 ls (i : Int)).2
theorem giveW {root : Nat} {ls : List Tn} {gv : List Bool} (K : GW root ls gv) (n : Int) (hn : n ≤ root) (g : Tn) (ig : inI g.2) :
  ∃ (e : Int) (ls' : List Tn) (gv' : List Bool), f75 ls gv n g = some (e, ls', gv') ∧ GW root ls' gv' ∧ ∀ j : Nat, j ≤ root → ((j : Int) ≠ n → rd Z2 ls' (j : Int) = rd Z2 ls (j : Int) ∧ rd false gv' (j : Int) = rd false gv (j : Int)) ∧ ((j : Int) = n → rd false gv' (j : Int) = true) := by
 unfold f75
 by_cases h0 : n < 0
 ·rw [dT h0]; exact ⟨0, ls, gv, rfl, K, fun j hj => ⟨fun _ => ⟨rfl, rfl⟩, fun h => by omega⟩⟩
 ·obtain ⟨i, rfl⟩ := Int.eq_ofNat_of_zero_le (show 0 ≤ n by omega)
  have l1 := K.w1
  have l2 := K.w2
  rw [dF h0, cond_false, guardF_pos (by omega)]
  have ea : f113 ((rd (Ty.z (.p (.sl (.int .i64)) (.sl (.int .i64)))) ls (i : Int)).1, (rd (Ty.z (.p (.sl (.int .i64)) (.sl (.int .i64)))) ls (i : Int)).2) (g.1, g.2) = some (bothS addV (rd Z2 ls (i : Int)) g) :=
   addP (rd Z2 ls (i : Int)) g (K.wI i (by omega)) ig
  rw [ea, bindF_some, guardF_pos (by omega), guardF_pos (by omega)]
  refine ⟨_, _, _, rfl, ⟨by simp only [List.length_set]; exact l1, by simp only [List.length_set]; exact l2, fun j hj => ?_⟩, fun j hj => ⟨fun hne => ?_, fun he => ?_⟩⟩
  ·simp only [Int.toNat_natCast]
   rw [rd_set _ _ _ _ _ (by omega)]
   split
   ·exact both_in addV (fun x y => sat_in _) _ _
   ·exact K.wI j hj
  ·simp only [Int.toNat_natCast]
   rw [rd_set _ _ _ _ _ (by omega), rd_set _ _ _ _ _ (by omega), if_neg (by omega), if_neg (by omega)]
   exact ⟨rfl, rfl⟩
  ·simp only [Int.toNat_natCast]
   rw [rd_set _ _ _ _ _ (by omega), if_pos (by omega)]
structure SW (l : List Nd) (root k : Nat) (ls : List Tn) (gv : List Bool) : Prop where
 sG : GW root ls gv
 sD : ∀ i, i ≤ root → root < i + k → (((rd Z2 ls (i : Int)).2.length : Nat) : Int) = prd (nd l i).1
 sZ : ∀ i, i ≤ root → rd false gv (i : Int) = false → (((rd Z2 ls (i : Int)).2.length : Nat) : Int) = prd (nd l i).1
theorem sweep_go {l : List Nd} (T : TW l) (root : Nat) (hr : root < l.length) (ls : List Tn) (gv : List Bool) (S : SW l root 0 ls gv) :
  ∃ z, loopF (fun go (x : Int × List Nd × List Tn × List Bool) => f26_l2 go x.1 x.2.1 x.2.2.1 x.2.2.2) fuelN ((root : Int), l, ls, gv) = some z ∧
   ((∃ e, e ≠ 0 ∧ z = Sum.inl (e, l)) ∨ ∃ ls' gv', z = Sum.inr (ls', gv', l) ∧ SW l root (root + 1) ls' gv') := by
 have hl := T.tL
 refine loop_fuel (B := fun go (x : Int × List Nd × List Tn × List Bool) => f26_l2 go x.1 x.2.1 x.2.2.1 x.2.2.2)
  (fun x => ∃ (k : Nat) (ls : List Tn) (gv : List Bool), k ≤ root + 1 ∧ x = ((root : Int) - (k : Int), l, ls, gv) ∧ SW l root k ls gv) (fun x => (x.1 + 1).toNat) _ ?_ ((root : Int), l, ls, gv) ⟨0, ls, gv, by omega, by simp, S⟩ (by simp only; omega)
 rintro _ ⟨k, ls, gv, hk, rfl, S⟩
 have l1 := S.sG.w1
 have l2 := S.sG.w2
 by_cases hkk : k ≤ root
 ·have hn : (root : Int) - (k : Int) = ((root - k : Nat) : Int) := by omega
  have wn : IntKind.i64.wrap (((root - k : Nat) : Int) - 1) = (root : Int) - ((k + 1 : Nat) : Int) := by rw [wrap_i64 (by omega) (by omega)]; omega
  cases hb : rd false gv ((root - k : Nat) : Int)
  ·refine .inr ⟨((root : Int) - ((k + 1 : Nat) : Int), l, ls, gv), fun go => ?_, ⟨k + 1, ls, gv, by omega, rfl, S.sG, fun i hi h => ?_, S.sZ⟩, by simp only; omega⟩
   ·unfold f26_l2
    simp only
    rw [hn, dT (by omega), cond_true, guardF_pos (by omega), hb, Bool.not_false, cond_true, wn]
   ·by_cases e : i = root - k
    ·subst e; exact S.sZ _ hi hb
    ·exact S.sD i hi (by omega)
  ·obtain ⟨e1, ga, gb, eo, ia, ib, ho⟩ := oneW T (root - k) (by omega) (rd Z2 ls ((root - k : Nat) : Int)) (S.sG.wI _ (by omega))
   have eo2 : f74 l ((root - k : Nat) : Int) ((rd (Ty.z (.p (.sl (.int .i64)) (.sl (.int .i64)))) ls ((root - k : Nat) : Int)).1, (rd (Ty.z (.p (.sl (.int .i64)) (.sl (.int .i64)))) ls ((root - k : Nat) : Int)).2) = _ := eo
   have N := T.tN (root - k) (by omega)
   have nA := N.nA
   have nB := N.nB
   have start : ∀ go, f26_l2 go ((root : Int) - (k : Int)) l ls gv = bif (e1 != (0 : Int)) then some (Sum.inl (e1, l)) else
    bindF (f75 ls gv (gn l (root - k)).2.1 (ga.1, ga.2)) fun r17 =>
    bif (r17.1 != (0 : Int)) then
     some (Sum.inl (r17.1, l))
    else
     bindF (f75 r17.2.1 r17.2.2 (gn l (root - k)).2.2.1 (gb.1, gb.2)) fun r18 =>
     bif (r18.1 != (0 : Int)) then
      some (Sum.inl (r18.1, l))
     else
      go ((root : Int) - ((k + 1 : Nat) : Int), l, r18.2.1, r18.2.2) := fun go => by
    unfold f26_l2
    rw [hn, dT (by omega), cond_true, guardF_pos (by omega), hb, Bool.not_true, cond_false, atP l (root - k) (by omega) (T.tG _ (by omega)), bindF_some, guardF_pos (by omega)]
    simp only
    rw [eo2, bindF_some, wn]
   by_cases h1 : e1 = 0
   ·obtain ⟨gg, hd⟩ := ho h1
    obtain ⟨e2, ls2, gv2, q1, K2, f2⟩ := giveW S.sG (gn l (root - k)).2.1 (by omega) ga ia
    by_cases h2 : e2 = 0
    ·obtain ⟨e3, ls3, gv3, q3, K3, f3⟩ := giveW K2 (gn l (root - k)).2.2.1 (by omega) gb ib
     by_cases h3 : e3 = 0
     ·refine .inr ⟨((root : Int) - ((k + 1 : Nat) : Int), l, ls3, gv3), fun go => ?_, ⟨k + 1, ls3, gv3, by omega, rfl, K3, fun i hi h => ?_, fun i hi h => ?_⟩, by simp only; omega⟩
      ·simp only
       rw [start, nF h1, cond_false, show ((ga.1, ga.2) : Tn) = ga from rfl, q1, bindF_some, nF h2, cond_false, show ((gb.1, gb.2) : Tn) = gb from rfl]
       simp only
       rw [q3, bindF_some, nF h3, cond_false]
      ·rw [((f3 i hi).1 (by omega)).1, ((f2 i hi).1 (by omega)).1]
       by_cases e : i = root - k
       ·subst e
        obtain ⟨_, hl, _, _⟩ := good_len gg
        rw [hl, hd]
       ·exact S.sD i hi (by omega)
      ·by_cases eb : (i : Int) = (gn l (root - k)).2.2.1
       ·rw [(f3 i hi).2 eb] at h; exact absurd h (by decide)
       ·obtain ⟨a, b⟩ := (f3 i hi).1 eb
        rw [b] at h
        rw [a]
        by_cases ea : (i : Int) = (gn l (root - k)).2.1
        ·rw [(f2 i hi).2 ea] at h; exact absurd h (by decide)
        ·obtain ⟨a', b'⟩ := (f2 i hi).1 ea
         rw [b'] at h
         rw [a']
         exact S.sZ i hi h
     ·refine .inl ⟨Sum.inl (e3, l), fun go => ?_, .inl ⟨e3, h3, rfl⟩⟩
      simp only
      rw [start, nF h1, cond_false, show ((ga.1, ga.2) : Tn) = ga from rfl, q1, bindF_some, nF h2, cond_false, show ((gb.1, gb.2) : Tn) = gb from rfl]
      simp only
      rw [q3, bindF_some, nT h3, cond_true]
    ·refine .inl ⟨Sum.inl (e2, l), fun go => ?_, .inl ⟨e2, h2, rfl⟩⟩
     simp only
     rw [start, nF h1, cond_false, show ((ga.1, ga.2) : Tn) = ga from rfl, q1, bindF_some, nT h2, cond_true]
   ·refine .inl ⟨Sum.inl (e1, l), fun go => ?_, .inl ⟨e1, h1, rfl⟩⟩
    simp only
    rw [start, nT h1, cond_true]
 ·obtain rfl : k = root + 1 := by omega
  refine .inl ⟨Sum.inr (ls, gv, l), fun go => ?_, .inr ⟨ls, gv, rfl, S⟩⟩
  unfold f26_l2
  simp only
  rw [dF (by omega), cond_false]
theorem sweep_begin (l : List Nd) (root : Nat) (hr : root < l.length) (hl : l.length ≤ 512) (hg : ∀ i, i < l.length → GoodT (nd l i)) :
  loopF (fun go (x : Int × List Nd × List Tn × Int × List Int × List Int) => f26_l1 (root : Int) go x.1 x.2.1 x.2.2.1 x.2.2.2.1 x.2.2.2.2.1 x.2.2.2.2.2) fuelN ((0 : Int), l, [], (0 : Int), [], []) = some (l, glist l root ++ [Z2], (root : Int), (zer l root).1, (zer l root).2) := by
 have wr : IntKind.i64.wrap ((root : Int) + 1) = ((root + 1 : Nat) : Int) := by rw [wrap_i64 (by omega) (by omega)]; omega
 have L1 := loop_for (B := fun go (x : Int × List Nd × List Tn × Int × List Int × List Int) => f26_l1 (root : Int) go x.1 x.2.1 x.2.2.1 x.2.2.2.1 x.2.2.2.2.1 x.2.2.2.2.2) (sw1 l) (root + 1) (sw1 l (root + 1)).2 ?_ ?_ (by omega)
 ·exact L1
 ·intro k hk go
  have hgk := hg k (by omega)
  obtain ⟨pk, _, _, _⟩ := good_len hgk.1
  have evk : vl l (k : Int) = nd l k := by unfold vl; rw [if_pos (by omega), Int.toNat_natCast]
  have en : f68 (nd l k).1 0 = some (0, (zer l k).1, (zer l k).2) := by rw [new_ok, if_pos pk]; rfl
  cases k with
  | zero =>
   show f26_l1 (root : Int) go 0 l [] 0 [] [] = go (((0 + 1 : Nat) : Int), l, glist l 0 ++ [Z2], ((0 : Nat) : Int), (zer l 0).1, (zer l 0).2)
   unfold f26_l1
   rw [show ((0 : Nat) : Int) = 0 from rfl] at evk
   rw [wr, dT (by omega), cond_true, valueP l _ hg, bindF_some]
   simp only
   rw [evk, en, bindF_some, guardF_pos (by simp)]
   rfl
  | succ j =>
   show f26_l1 (root : Int) go ((j + 1 : Nat) : Int) l (glist l j ++ [Z2]) (j : Int) (zer l j).1 (zer l j).2 = go (((j + 1 + 1 : Nat) : Int), l, glist l (j + 1) ++ [Z2], ((j + 1 : Nat) : Int), (zer l (j + 1)).1, (zer l (j + 1)).2)
   unfold f26_l1
   rw [wr, dT (by omega), cond_true, valueP l _ hg, bindF_some]
   simp only
   rw [evk, en, bindF_some]
   have es : List.set (glist l j ++ [Z2]) (Int.toNat (j : Int)) ((zer l j).1, (zer l j).2) = glist l (j + 1) := by
    have := set_last (glist l j) Z2 ((zer l j).1, (zer l j).2)
    rw [glist_len] at this
    rw [Int.toNat_natCast, this, glist_succ]
   rw [es, guardF_pos (by rw [glist_len]; omega), wrap_i64 (by omega) (by omega), glist_len]
   rfl
 ·intro go
  show f26_l1 (root : Int) go ((root + 1 : Nat) : Int) l (glist l root ++ [Z2]) (root : Int) (zer l root).1 (zer l root).2 = _
  unfold f26_l1
  rw [wr, dF (by omega), cond_false]
  rfl
theorem sweepW {l : List Nd} (T : TW l) (root : Nat) (hr : root < l.length) :
  ∃ (e : Int) (ls : List Tn), f26 l (root : Int) = some (e, ls, l) ∧ (e = 0 → ls.length = root + 1 ∧ (∀ i, i ≤ root → (((rd Z2 ls (i : Int)).2.length : Nat) : Int) = prd (nd l i).1) ∧ ∀ i, i ≤ root → inI (rd Z2 ls (i : Int)).2) := by
 have hl := T.tL
 have hg := T.tG
 have hroot := hg root hr
 obtain ⟨p0, lr, lr1, _⟩ := good_len hroot.1
 unfold f26
 rw [valueP l _ hg, bindF_some]
 have ev : vl l (root : Int) = nd l root := by unfold vl; rw [if_pos (by omega), Int.toNat_natCast]
 simp only [ev]
 rw [dT (show 0 ≤ (root : Int) ∧ (root : Int) < l.length by omega), Bool.not_true, cond_false]
 by_cases h1 : ((nd l root).2.length : Int) > 1
 ·rw [dT h1]; exact ⟨4, [], rfl, fun h => absurd h (by decide)⟩
 ·have wr : IntKind.i64.wrap ((root : Int) + 1) = ((root + 1 : Nat) : Int) := by rw [wrap_i64 (by omega) (by omega)]; omega
  have hp1 : prd (nd l root).1 = 1 := by omega
  rw [dF h1, cond_false, wr, guardF_pos (by omega), sweep_begin l root hr hl hg, bindF_some]
  simp only
  rw [guardF_pos (by rw [List.length_append, glist_len]; simp; omega), guardF_pos trivial]
  have hz : (zer l root).2 = [0] := by unfold zer; rw [hp1]; rfl
  rw [hz, guardF_pos (by decide), guardF_pos (by simp; omega)]
  have es : List.set (glist l root ++ [Z2]) (Int.toNat (root : Int)) ((zer l root).1, List.set [(0 : Int)] (Int.toNat (0 : Int)) 4294967296) = glist l root ++ [((nd l root).1, [4294967296])] := by
   have := set_last (glist l root) Z2 ((zer l root).1, List.set [(0 : Int)] (Int.toNat (0 : Int)) 4294967296)
   rw [glist_len] at this
   rw [Int.toNat_natCast, this]; rfl
  have eg : List.set (List.replicate (Int.toNat ((root + 1 : Nat) : Int)) false) (Int.toNat (root : Int)) true = (List.replicate (root + 1) false).set root true := by
   rw [Int.toNat_natCast, Int.toNat_natCast]
  rw [es, eg]
  have K := keeps0 l (fun _ g => g) (fun _ g => g) root hr hg hp1
  have kl : (glist l root ++ [((nd l root).1, [4294967296])], (List.replicate (root + 1) false).set root true) = swp l (fun _ g => g) (fun _ g => g) root 0 := rfl
  have S : SW l root 0 (glist l root ++ [((nd l root).1, [4294967296])]) ((List.replicate (root + 1) false).set root true) := by
   refine ⟨⟨K.l1, K.l2, fun i hi => (K.ok i hi).1.2⟩, fun i hi h => absurd h (by omega), fun i hi h => ?_⟩
   obtain ⟨q1, q2⟩ := K.ok i hi
   obtain ⟨_, q3, _, _⟩ := good_len q1.1
   rw [q2] at q3
   exact q3
  obtain ⟨z, ez, hz2⟩ := sweep_go T root hr _ _ S
  rw [ez, bindF_some]
  rcases hz2 with ⟨e, he, rfl⟩ | ⟨ls', gv', rfl, S'⟩
  ·exact ⟨e, [], rfl, fun h => absurd h he⟩
  ·exact ⟨0, ls', rfl, fun _ => ⟨S'.sG.w1, fun i hi => S'.sD i hi (by omega), S'.sG.wI⟩⟩
end Go.Proofs.Cv
namespace Go.Proofs.Cv
open Go.AM Go.Proofs.PlB Go.Proofs.PlW Go.Proofs.PlT Go.Proofs.PlS Go.Proofs.Sh Go.Proofs.Num Go.Proofs.Div Go.Proofs.Op
end Go.Proofs.Cv
namespace Go.Proofs.Cv
open Go.AM Go.Proofs.PlB Go.Proofs.PlW Go.Proofs.PlT Go.Proofs.PlS Go.Proofs.Sh Go.Proofs.Num Go.Proofs.Div Go.Proofs.Op
def sideV (V : List Int) (D st v : Nat) : Int := sat (sg (fun k => rd (0 : Int) V ((ixs D st v k : Nat) : Int)) D)
def hQ (d : List Int) (j : Nat) : Nat → Int
 | 0 => 1
 | t + 1 => hQ d j t * rd (0 : Int) d ((j + 1 + t : Nat) : Int)
section
variable {d : List Int} {j H D st : Nat} (C : Cut d j H D st)
include C
theorem cut_len : (cutD d j).length = d.length - 1 := by
 have := C.hj
 unfold cutD; rw [List.length_append, List.length_take, List.length_drop]; omega
end
end Go.Proofs.Cv
namespace Go.Proofs.Cv
open Go.AM Go.Proofs.PlB Go.Proofs.PlW Go.Proofs.PlT Go.Proofs.PlS Go.Proofs.Sh Go.Proofs.Num Go.Proofs.Div Go.Proofs.Op
def part (V : List Int) (D st k v : Nat) : Int := sg (fun i => if goes D st i = v then rd (0 : Int) V (i : Int) else 0) k
theorem part_bd {V : List Int} (iV : inI V) (D st v : Nat) : ∀ k, k ≤ V.length → -(k * 9223372036854775808) ≤ part V D st k v ∧ part V D st k v ≤ k * 9223372036854775808
 | 0, _ => by simp [part, sg]
 | k + 1, h => by
  have := part_bd iV D st v k (by omega)
  have q := inI_rd iV k (by omega)
  unfold InR at q
  unfold part at this ⊢
  simp only [sg]
  split <;> constructor <;> omega
section
variable (d V : List Int) (j H D st : Nat) (C : Cut d j H D st) (hV : V.length = H * (D * st)) (iV : inI V)
include C hV iV
theorem goes_in {i : Nat} (hi : i < H * (D * st)) : goes D st i < H * st := by
 have hs := C.s1
 have h0 : i / (st * D) < H := by
  refine Nat.div_lt_of_lt_mul ?_
  rw [Nat.mul_comm (st * D) H, Nat.mul_comm st D]; exact hi
 exact in_mat h0 (Nat.mod_lt _ hs)
theorem side_far (k v : Nat) (hk : k ≤ H * (D * st)) : PlV.far (part V D st k v) := by
 have := part_bd iV D st v k (by omega)
 have := C.le
 unfold PlV.far
 omega
theorem side_loop1 : loopF (fun go (x : Int × List (Int × Int)) => f201_l4 (d, V) (j : Int) (strL d) go x.1 x.2) fuelN ((0 : Int), List.replicate (H * st) ((0 : Int), (0 : Int))) = some (tabL (H * st) (fun v => PlV.pair (part V D st (H * (D * st)) v))) := by
 have hj := C.hj
 have hs := C.s1
 have hD := C.D1
 have hH := C.H1
 have hle := C.le
 have hsD : st * D ≤ 4096 := by rw [Nat.mul_comm]; exact Nat.le_trans (Nat.le_mul_of_pos_left _ hH) hle
 have h := loop_for (B := fun go (x : Int × List (Int × Int)) => f201_l4 (d, V) (j : Int) (strL d) go x.1 x.2) (fun k => ((k : Int), tabL (H * st) (fun v => PlV.pair (part V D st k v)))) (H * (D * st)) (tabL (H * st) (fun v => PlV.pair (part V D st (H * (D * st)) v))) ?_ ?_ (by omega)
 ·have e0 : tabL (H * st) (fun v => PlV.pair (part V D st 0 v)) = List.replicate (H * st) ((0 : Int), (0 : Int)) := by
   rw [tab_rep]; exact tab_ext _ _ _ (fun v hv => rfl)
  rw [e0] at h; exact h
 ·intro k hk go
  have q := inI_rd iV k (by omega)
  unfold InR at q
  have hg := goes_in d V j H D st C hV iV hk
  have f1 := side_far d V j H D st C hV iV k (goes D st k) (by omega)
  have b1 := part_bd iV D st (goes D st k) k (by omega)
  have e7 : rd (0 : Int) (strL d) (j : Int) = (st : Int) := by
   unfold strL
   rw [rd_tab _ _ _ _ hj]
   unfold strd
   rw [show d.length - (d.length - 1 - j) = j + 1 by omega]
   exact C.eS
  have eSD : IntKind.i64.wrap ((st : Int) * (D : Int)) = ((st * D : Nat) : Int) := wmul st D (by omega)
  have n0 : ((st * D : Nat) : Int) ≠ 0 := by have : 1 ≤ st * D := Nat.mul_pos hs hD; omega
  have n1 : (st : Int) ≠ 0 := by omega
  have hM := C.leM
  have ea : IntKind.i64.wrap (IntKind.i64.wrap (IntKind.i64.wrap (Int.tdiv (k : Int) ((st * D : Nat) : Int)) * (st : Int)) + Int.tmod (k : Int) (st : Int)) = ((goes D st k : Nat) : Int) := by
   have a1 : k / (st * D) ≤ k := Nat.div_le_self _ _
   have a2 : k / (st * D) * st ≤ goes D st k := Nat.le_add_right _ _
   rw [Int.tdiv_eq_ediv_of_nonneg (by omega), ← Int.natCast_ediv, wnat (by omega), wmul _ _ (by omega), Int.tmod_eq_emod_of_nonneg (by omega), ← Int.natCast_emod, wadd _ _ (by show goes D st k < _; omega)]
   rfl
  unfold f201_l4
  simp only [tab_len]
  rw [e7, C.eD, eSD, ea, dT (by omega), cond_true, guardF_pos (by omega), guardF_pos (by omega), guardF_pos n0, guardF_pos n1, guardF_pos (by omega), PlV.of_ok _ q.1 q.2, bindF_some]
  have er : rd (Ty.z (.p (.int .i64) (.int .u64))) (tabL (H * st) (fun v => PlV.pair (part V D st k v))) ((goes D st k : Nat) : Int) = PlV.pair (part V D st k (goes D st k)) := rd_tab _ _ _ _ hg
  have f2 : PlV.far (rd (0 : Int) V (k : Int)) := by unfold PlV.far; omega
  have f3 : PlV.far (part V D st k (goes D st k) + rd (0 : Int) V (k : Int)) := by unfold PlV.far; omega
  have eadd : f42 ((rd (Ty.z (.p (.int .i64) (.int .u64))) (tabL (H * st) (fun v => PlV.pair (part V D st k v))) ((goes D st k : Nat) : Int)).1, (rd (Ty.z (.p (.int .i64) (.int .u64))) (tabL (H * st) (fun v => PlV.pair (part V D st k v))) ((goes D st k : Nat) : Int)).2) ((PlV.pair (rd (0 : Int) V (k : Int))).1, (PlV.pair (rd (0 : Int) V (k : Int))).2) = some (PlV.pair (part V D st k (goes D st k) + rd (0 : Int) V (k : Int))) := by
   rw [er]; exact PlV.add_w _ _ f1 f2 f3
  rw [eadd, bindF_some, guardF_pos (by omega), wsucc k (by omega), Int.toNat_natCast]
  congr 1
  refine Prod.ext rfl ?_
  show (tabL (H * st) (fun v => PlV.pair (part V D st k v))).set (goes D st k) (PlV.pair (part V D st k (goes D st k) + rd (0 : Int) V (k : Int))) = _
  rw [tab_set]
  refine tab_ext _ _ _ (fun v hv => ?_)
  by_cases e : v = goes D st k
  ·subst e
   rw [if_pos rfl]
   unfold part
   simp only [sg, if_true]
  ·rw [if_neg e]
   unfold part
   simp only [sg]
   rw [if_neg (fun h => e h.symm), Int.add_zero]
 ·intro go
  unfold f201_l4
  simp only
  rw [dF (by omega), cond_false]
theorem side_loop2 : loopF (fun go (x : Int × List Int) => f201_l5 (tabL (H * st) (fun v => PlV.pair (part V D st (H * (D * st)) v))) go x.1 x.2) fuelN ((0 : Int), List.replicate (H * st) 0) = some (tabL (H * st) (sideV V D st)) := by
 have hM := C.leM
 rw [upto_zero _ (sideV V D st)]
 have h := loop_for (B := fun go (x : Int × List Int) => f201_l5 (tabL (H * st) (fun v => PlV.pair (part V D st (H * (D * st)) v))) go x.1 x.2) (fun v => ((v : Int), upto (H * st) v (sideV V D st))) (H * st) (tabL (H * st) (sideV V D st)) ?_ ?_ (by omega)
 ·exact h
 ·intro v hv go
  unfold f201_l5
  simp only [upto_len, tab_len]
  have er : rd (Ty.z (.p (.int .i64) (.int .u64))) (tabL (H * st) (fun v => PlV.pair (part V D st (H * (D * st)) v))) (v : Int) = PlV.pair (part V D st (H * (D * st)) v) := rd_tab _ _ _ _ hv
  have ef : f220 ((rd (Ty.z (.p (.int .i64) (.int .u64))) (tabL (H * st) (fun v => PlV.pair (part V D st (H * (D * st)) v))) (v : Int)).1, (rd (Ty.z (.p (.int .i64) (.int .u64))) (tabL (H * st) (fun v => PlV.pair (part V D st (H * (D * st)) v))) (v : Int)).2) = some (sideV V D st v) := by
   rw [er]
   have := PlV.fix_ok _ (side_far d V j H D st C hV iV (H * (D * st)) v (Nat.le_refl _))
   have es : part V D st (H * (D * st)) v = sg (fun k => rd (0 : Int) V ((ixs D st v k : Nat) : Int)) D := sums_eq (fun i => rd (0 : Int) V (i : Int)) H D st v C.s1 hv
   rw [es] at this ⊢
   exact this
  rw [dT (by omega), cond_true, guardF_pos (by omega), ef, bindF_some, guardF_pos (by omega), wsucc v (by omega), Int.toNat_natCast, upto_set _ v _ _ hv rfl]
 ·intro go
  unfold f201_l5
  simp only [upto_len, tab_len]
  rw [dF (by omega), cond_false, upto_full]
end
abbrev sideAsk (a : Tn) (side : Int) : Prop := tgood a = true ∧ 0 ≤ side ∧ side < a.1.length
def sideS (a : Tn) (side : Int) : Int × Tn :=
 if sideAsk a side then (0, cutD a.1 side.toNat, tabL (prd (cutD a.1 side.toNat)).toNat (sideV a.2 (rd (0 : Int) a.1 side).toNat (prodL (a.1.drop (side.toNat + 1))).toNat)) else (1, [], [])
theorem side_j3 (a : Tn) (side : Int) : f201_j3 a side = some (!(decide (sideAsk a side))) := by
 unfold f201_j3
 have e1 : f59 (a.1, a.2) = some (tgood a) := good_ok a
 generalize hd : decide (sideAsk a side) = d
 rw [e1, bindF_some]
 by_cases ha : tgood a = true
 ·rw [ha, Bool.not_true, cond_false]
  by_cases h1 : side < 0
  ·rw [dT h1]; rw [dF (show ¬ sideAsk a side from fun h => by omega)] at hd; rw [← hd]; rfl
  ·rw [dF h1, cond_false]
   by_cases h2 : side ≥ a.1.length
   ·rw [dT h2]; rw [dF (show ¬ sideAsk a side from fun h => by omega)] at hd; rw [← hd]; rfl
   ·rw [dF h2]; rw [dT (show sideAsk a side from ⟨ha, by omega, by omega⟩)] at hd; rw [← hd]; rfl
 ·rw [show tgood a = false by simpa using ha]; rw [dF (show ¬ sideAsk a side from fun h => ha h.1)] at hd; rw [← hd]; rfl
theorem side_val {a : Tn} {j H D st : Nat} (C : Cut a.1 j H D st) (h : sideAsk a (j : Int)) : sideS a (j : Int) = (0, cutD a.1 j, tabL (H * st) (sideV a.2 D st)) := by
 unfold sideS
 rw [if_pos h, Int.toNat_natCast, C.eM, C.eD, C.eS, Int.toNat_natCast, Int.toNat_natCast, Int.toNat_natCast]
theorem sideP (a : Tn) (side : Int) (ia : inI a.2) : f201 a side = some (sideS a side) := by
 unfold f201 f201_j2
 rw [side_j3, bindF_some]
 by_cases h : sideAsk a side
 ·obtain ⟨ga, s0, s1⟩ := h
  obtain ⟨j, rfl⟩ := Int.eq_ofNat_of_zero_le s0
  obtain ⟨hp, hl, l1, l2⟩ := good_len ga
  obtain ⟨H, D, st, C⟩ := cut_of hp (show j < a.1.length by omega)
  have hV : a.2.length = H * (D * st) := by have := C.eN; omega
  have hM := C.leM
  rw [side_val C ⟨ga, s0, s1⟩, dT (show sideAsk a (j : Int) from ⟨ga, s0, s1⟩), Bool.not_true, cond_false, bindF_some, sumF_inl, guardF_pos (by omega), wsucc j (by omega), guardF_pos (by omega)]
  have ec : ([] ++ List.take (Int.toNat (j : Int)) a.1) ++ List.drop (Int.toNat ((j + 1 : Nat) : Int)) a.1 = cutD a.1 j := by
   rw [Int.toNat_natCast, Int.toNat_natCast, List.nil_append]; rfl
  have cl := cut_len C
  rw [guardF_pos (by simp only [List.length_nil, List.length_take]; omega), guardF_pos (by simp only [List.length_append, List.length_nil, List.length_take, List.length_drop]; omega), ec, PlB.size_ok, bindF_some, C.eM, Int.toNat_natCast, guardF_pos (by omega), strides a.1 hp, bindF_some,
   guardF_pos (by unfold strL; rw [tab_len]; omega)]
  have e1 : loopF (fun go (x : Int × List (Int × Int)) => f201_l4 a (j : Int) (strL a.1) go x.1 x.2) fuelN ((0 : Int), List.replicate (H * st) (Ty.z (.p (.int .i64) (.int .u64)))) = _ := side_loop1 a.1 a.2 j H D st C hV ia
  rw [e1, bindF_some, new_ok, if_pos C.posM, bindF_some, C.eM, Int.toNat_natCast]
  simp only
  rw [side_loop2 a.1 a.2 j H D st C hV ia, bindF_some]
 ·unfold sideS
  rw [if_neg h, dF h]; rfl
end Go.Proofs.Cv
namespace Go.Proofs.Op
open Go.AM Go.Proofs.PlB Go.Proofs.PlW Go.Proofs.PlT Go.Proofs.PlS Go.Proofs.Sh Go.Proofs.Num Go.Proofs.Div
open Go.Proofs.PlR hiding Tn
end Go.Proofs.Op
namespace Go.Proofs.Op
open Go.AM Go.Proofs.PlB Go.Proofs.PlW Go.Proofs.PlT Go.Proofs.PlS Go.Proofs.Sh Go.Proofs.Num Go.Proofs.Div
open Go.Proofs.PlR hiding Tn
section
variable (l : List Nd) (i : Nat)
end
end Go.Proofs.Op
namespace Go.Proofs.Op
open Go.AM Go.Proofs.PlB Go.Proofs.PlW Go.Proofs.PlT Go.Proofs.PlS Go.Proofs.Sh Go.Proofs.Num Go.Proofs.Div Go.Proofs.PlR
def cntK (op k : Int) : Int := if op = 5 ∨ op = 8 ∨ op = 11 ∨ op = 12 ∨ op = 13 then k else 0
theorem cnt_ok (op k : Int) : f104_j2 op k = some (cntK op k) := by
 unfold f104_j2 f150 cntK
 by_cases h1 : op = 5
 ·rw [bT h1, if_pos (.inl h1)]; rfl
 rw [bF h1, cond_false]
 by_cases h2 : op = 8
 ·rw [bT h2, if_pos (by omega)]; rfl
 rw [bF h2, cond_false]
 by_cases h3 : op = 11
 ·rw [bT h3, if_pos (by omega)]; rfl
 rw [bF h3, cond_false]
 by_cases h4 : op = 12
 ·rw [bT h4, if_pos (by omega)]; rfl
 rw [bF h4, cond_false]
 by_cases h5 : op = 13
 ·rw [bT h5, if_pos (by omega)]; rfl
 rw [bF h5, if_neg (by omega)]; rfl
def isTwo (op : Int) : Bool := decide (op = 2 ∨ op = 3 ∨ op = 4 ∨ op = 6 ∨ op = 12)
theorem two_ok (op : Int) : f149 op = some (isTwo op) := by
 unfold f149 isTwo
 by_cases h1 : op = 2
 ·rw [bT h1, dT (.inl h1)]; rfl
 rw [bF h1, cond_false]
 by_cases h2 : op = 3
 ·rw [bT h2, dT (by omega)]; rfl
 rw [bF h2, cond_false]
 by_cases h3 : op = 4
 ·rw [bT h3, dT (by omega)]; rfl
 rw [bF h3, cond_false]
 by_cases h4 : op = 6
 ·rw [bT h4, dT (by omega)]; rfl
 rw [bF h4, cond_false]
 by_cases h5 : op = 12
 ·rw [bT h5, dT (by omega)]
 rw [bF h5, dF (by omega)]
end Go.Proofs.Op
namespace Go.Proofs.Op
open Go.AM Go.Proofs.PlB Go.Proofs.PlW Go.Proofs.PlT Go.Proofs.PlS Go.Proofs.Sh Go.Proofs.Num Go.Proofs.Div
open Go.Proofs.PlR hiding Tn
end Go.Proofs.Op
namespace Go.Proofs.Cv
open Go.AM Go.Proofs.PlB Go.Proofs.PlW Go.Proofs.PlT Go.Proofs.PlS Go.Proofs.Sh Go.Proofs.Num Go.Proofs.Div Go.Proofs.Op
open Go.Proofs.PlR hiding Tn
theorem tabGood {d : List Int} {N : Nat} {g : Nat → Int} (h : 0 < prd d) (hN : (N : Int) = prd d) (hg : ∀ i, i < N → InR (g i)) : GoodT (d, tabL N g) :=
 ⟨tgood_of h (by simp only [tab_len]; exact hN), inI_tab hg⟩
theorem both_good (f : Int → Int → Int) (hf : ∀ x y, InR (f x y)) (a b : Tn) (h : (bothS f a b).1 = 0) : GoodT (bothS f a b).2 := by
 unfold bothS at h ⊢
 by_cases c : tgood a = true ∧ tgood b = true
 ·rw [if_pos c] at h ⊢
  by_cases e : (jS a.1 b.1).1 = 0
  ·rw [if_pos e] at h ⊢
   have J := jS_zero e
   have := prd_range (jS a.1 b.1).2
   exact tabGood J.pd (by have := J.pd; omega) (fun i hi => hf _ _)
  ·rw [if_neg e] at h; exact absurd h e
 ·rw [if_neg c] at h; exact absurd h (by decide)
theorem bent_good (k : Int) (a : Tn) (ia : inI a.2) (h : (bentS k a).1 = 0) : GoodT (bentS k a).2 := by
 unfold bentS at h ⊢
 by_cases c : 1 ≤ k ∧ k ≤ 5 ∧ tgood a = true
 ·rw [if_pos c] at h ⊢
  obtain ⟨p, q, _, _⟩ := good_len c.2.2
  exact tabGood p q (fun i hi => bendV_in _ _ (inI_rd ia i hi))
 ·rw [if_neg c] at h; exact absurd h (by decide)
theorem resh_good (a : Tn) (d : List Int) (ia : inI a.2) (h : (reshS a d).1 = 0) : GoodT (reshS a d).2 := by
 unfold reshS at h ⊢
 by_cases c : tgood a = true ∧ 0 < prd d
 ·rw [if_pos c] at h ⊢
  by_cases e : prd d = a.2.length
  ·rw [if_pos e] at h ⊢
   exact ⟨tgood_of c.2 e.symm, ia⟩
  ·rw [if_neg e] at h; exact absurd h (by decide)
 ·rw [if_neg c] at h; exact absurd h (by decide)
theorem row_good2 (a k : Tn) (s : Int) (h : (rowS a k s).1 = 0) : GoodT (rowS a k s).2 := by
 unfold rowS at h ⊢
 by_cases c : rowAsk a k s
 ·rw [if_pos c] at h ⊢
  by_cases e : rowFit a k
  ·rw [if_pos e] at h ⊢
   by_cases n0 : 0 < prd [rd (0 : Int) k.1 0, (many (rd (0 : Int) a.1 1).toNat (rd (0 : Int) k.1 2).toNat s.toNat : Int)]
   ·rw [if_pos n0] at h ⊢
    obtain ⟨h1, h2, h3⟩ := prod2 n0
    exact tabGood n0 (by rw [Int.natCast_mul, Int.toNat_of_nonneg (by omega), h3]) (fun i hi => sat_in _)
   ·rw [if_neg n0] at h; exact absurd h (by decide)
  ·rw [if_neg e] at h; exact absurd h (by decide)
 ·rw [if_neg c] at h; exact absurd h (by decide)
theorem side_good (a : Tn) (s : Int) (h : (sideS a s).1 = 0) : GoodT (sideS a s).2 := by
 unfold sideS at h ⊢
 by_cases c : sideAsk a s
 ·rw [if_pos c] at h ⊢
  obtain ⟨ga, s0, s1⟩ := c
  obtain ⟨hp, hl, l1, l2⟩ := good_len ga
  obtain ⟨H, D, st, C⟩ := cut_of hp (show s.toNat < a.1.length by omega)
  have := C.posM
  exact tabGood C.posM (by omega) (fun i hi => sat_in _)
 ·rw [if_neg c] at h; exact absurd h (by decide)
theorem pool_good (a : Tn) (w : Int) (ia : inI a.2) (h : (poolS a w).1 = 0) : GoodT ((poolS a w).2.1, (poolS a w).2.2.1) := by
 unfold poolS at h ⊢
 by_cases c : tgood a = true
 ·rw [if_pos c] at h ⊢
  by_cases e : a.1.length = 2
  ·rw [if_pos e] at h ⊢
   by_cases f : 1 ≤ w ∧ w ≤ rd (0 : Int) a.1 1
   ·rw [if_pos f] at h ⊢
    obtain ⟨cc, L, ea, c1, L1, la, ba⟩ := mat_nat c e
    obtain ⟨w', rfl⟩ := Int.eq_ofNat_of_zero_le (show 0 ≤ w by omega)
    clear h c e
    generalize a.2 = V at *
    subst ea
    have fw : (w' : Int) ≤ (L : Int) := f.2
    have w1 : 1 ≤ w' := by omega
    obtain ⟨m1, mL, mN, hL⟩ := pool_m V cc L w' c1 w1 (by omega) la ba
    obtain ⟨p0, pN⟩ := prd_pos2 c1 m1 mN
    exact tabGood (d := [(cc : Int), ((L / w' : Nat) : Int)]) (N := cc * (L / w')) (g := plV V L w') p0 (by omega) (fun i hi => inI_rd ia _ (pl_in V cc L w' c1 w1 (by omega) la ba hi))
   ·rw [if_neg f] at h; exact absurd h (by decide)
  ·rw [if_neg e] at h; exact absurd h (by decide)
 ·rw [if_neg c] at h; exact absurd h (by decide)
theorem single_go (v : Int) : f202 v 0 = some (0, [], [v]) := single_ok v
end Go.Proofs.Cv
namespace Go.Proofs.Cv
open Go.AM Go.Proofs.PlB Go.Proofs.PlW Go.Proofs.PlT Go.Proofs.PlS Go.Proofs.Sh Go.Proofs.Num Go.Proofs.Div Go.Proofs.Op
open Go.Proofs.PlR hiding Tn
theorem gn_app (l m : List Nd) (i : Nat) (h : i < l.length) : gn (l ++ m) i = gn l i := by
 unfold gn
 rw [rd_nat _ _ _ (by rw [List.length_append]; omega), rd_nat _ _ _ h, List.getElem_append_left h]
theorem gn_last (l : List Nd) (n : Nd) : gn (l ++ [n]) l.length = n := rd_last _ _ _
theorem vl_app (l m : List Nd) (n : Int) (h : n < l.length) : vl (l ++ m) n = vl l n := by
 unfold vl
 by_cases h0 : 0 ≤ n
 ·rw [if_pos (by rw [List.length_append]; omega), if_pos ⟨h0, h⟩, nd_app _ _ _ (by omega)]
 ·rw [if_neg (fun hh => h0 hh.1), if_neg (fun hh => h0 hh.1)]
theorem tw_nil : TW [] := ⟨by simp, fun i h => absurd h (by simp), fun i h => absurd h (by simp)⟩
theorem tw_push {l : List Nd} (T : TW l) (n : Nd) (hl : l.length < 512) (h : GoodT n.2.2.2.2) (hA : n.2.1 < l.length) (hB : n.2.2.1 < l.length) (ho : OpOk n.1 n.2.2.2.1 (vl l n.2.1) (vl l n.2.2.1) n.2.2.2.2) : TW (l ++ [n]) := by
 have hlen : (l ++ [n]).length = l.length + 1 := by simp
 refine ⟨by omega, fun i hi => ?_, fun i hi => ?_⟩
 ·by_cases e : i < l.length
  ·rw [nd_app _ _ _ e]; exact T.tG i e
  ·obtain rfl : i = l.length := by omega
   rw [nd_last]; exact h
 ·by_cases e : i < l.length
  ·obtain ⟨a, b, c⟩ := T.tN i e
   have eg := gn_app l [n] i e
   refine ⟨by rw [eg]; exact a, by rw [eg]; exact b, ?_⟩
   rw [eg, vl_app _ _ _ (by omega), vl_app _ _ _ (by omega), nd_app _ _ _ e]
   exact c
  ·obtain rfl : i = l.length := by omega
   have eg := gn_last l n
   refine ⟨by rw [eg]; exact hA, by rw [eg]; exact hB, ?_⟩
   rw [eg, vl_app _ _ _ hA, vl_app _ _ _ hB, nd_last]
   exact ho
structure Nx (l m : List Nd) (i e : Int) : Prop where
 xT : TW m
 xE : e ≠ 0 → m = l
 xO : e = 0 → i = l.length ∧ ∃ n, m = l ++ [n]
theorem leafW {l : List Nd} (T : TW l) (x : Tn) (ix : inI x.2) : ∃ i e m, f17 l x = some (i, e, m) ∧ Nx l m i e ∧ (e = 0 → m = l ++ [(1, -1, -1, 0, x.1, x.2)] ∧ tgood x = true) := by
 have hl := T.tL
 by_cases h : l.length < 512
 ·by_cases g : tgood x = true
  ·refine ⟨_, _, _, leaf_ok l x h g, ⟨tw_push T _ h ⟨g, ix⟩ (by simp only; omega) (by simp only; omega) (.inl rfl), fun h => absurd rfl h, fun _ => ⟨rfl, _, rfl⟩⟩, fun _ => ⟨rfl, g⟩⟩
  ·refine ⟨0, 1, l, ?_, ⟨T, fun _ => rfl, fun h => absurd h (by decide)⟩, fun h => absurd h (by decide)⟩
   unfold f17
   have e : f59 (x.1, x.2) = some (tgood x) := good_ok x
   rw [dF (by omega), cond_false, e, show tgood x = false by simpa using g]; rfl
 ·refine ⟨0, 2, l, ?_, ⟨T, fun _ => rfl, fun h => absurd h (by decide)⟩, fun h => absurd h (by decide)⟩
  unfold f17
  rw [dT (by omega)]; rfl
theorem side_ask (a : Tn) (k : Int) (h : (sideS a k).1 = 0) : 0 < prd a.1 ∧ 0 ≤ k ∧ k < a.1.length := by
 unfold sideS at h
 by_cases c : sideAsk a k
 ·obtain ⟨ga, s0, s1⟩ := c
  exact ⟨(good_len ga).1, s0, s1⟩
 ·rw [if_neg c] at h; exact absurd h (by decide)
theorem row_ask (a b : Tn) (k : Int) (h : (rowS a b k).1 = 0) : a.1.length = 2 ∧ b.1.length = 3 := by
 unfold rowS at h
 by_cases c : rowAsk a b k
 ·rw [if_pos c] at h
  by_cases e : rowFit a b
  ·exact ⟨e.1, e.2.1⟩
  ·rw [if_neg e] at h; exact absurd h (by decide)
 ·rw [if_neg c] at h; exact absurd h (by decide)
def NOp (op : Int) : Prop := op = 2 ∨ op = 3 ∨ op = 4 ∨ op = 8 ∨ op = 9 ∨ op = 10 ∨ op = 11 ∨ op = 12 ∨ op = 13 ∨ op = 14
theorem good_pos {a : Tn} (h : GoodT a) : 0 < a.2.length ∧ a.2.length ≤ 4096 := by
 obtain ⟨a, b, _, c⟩ := good_len h.1
 exact ⟨by omega, c⟩
theorem pairW (op : Int) (a b : Tn) (k : Int) (ho : op = 2 ∨ op = 3 ∨ op = 4 ∨ op = 12) (ga : GoodT a) (gb : GoodT b) : ∃ r : Int × Tn, f151 op a b k = some r ∧ (r.1 = 0 → GoodT r.2 ∧ OpOk op (cntK op k) a b r.2) := by
 obtain ⟨p1, p2⟩ := good_pos ga
 rcases ho with rfl | rfl | rfl | rfl
 ·refine ⟨bothS addV a b, ?_, fun h => ⟨both_good addV (fun x y => sat_in _) a b h, .inr (.inl ⟨.inl rfl, p1, p2⟩)⟩⟩
  show bindF (f113 a b) _ = _
  rw [addP a b ga.2 gb.2]; rfl
 ·refine ⟨bothS subV a b, ?_, fun h => ⟨both_good subV (fun x y => sat_in _) a b h, .inr (.inl ⟨.inr (.inl rfl), p1, p2⟩)⟩⟩
  show bindF (f198 a b) _ = _
  rw [subP a b ga.2 gb.2]; rfl
 ·refine ⟨bothS mulX a b, ?_, fun h => ⟨both_good mulX (fun x y => sat_in _) a b h, .inr (.inl ⟨.inr (.inr (.inl rfl)), p1, p2⟩)⟩⟩
  show bindF (f164 a b) _ = _
  rw [mulP a b ga.2 gb.2]; rfl
 ·refine ⟨rowS a b k, ?_, fun h => ⟨row_good2 a b k h, .inr (.inr (.inr (.inl ⟨rfl, row_ask a b k h⟩)))⟩⟩
  show bindF (f200 a b k) _ = _
  rw [rowP a b k ga.2 gb.2]; rfl
theorem oneWf (op : Int) (a tb : Tn) (k : Int) (ho : op = 8 ∨ op = 9 ∨ op = 10 ∨ op = 11 ∨ op = 13 ∨ op = 14) (ga : GoodT a) : ∃ r : Int × Tn, f152 op a k = some r ∧ (r.1 = 0 → GoodT r.2 ∧ OpOk op (cntK op k) a tb r.2) := by
 obtain ⟨p1, p2⟩ := good_pos ga
 rcases ho with rfl | rfl | rfl | rfl | rfl | rfl
 ·refine ⟨sideS a k, ?_, fun h => ⟨side_good a k h, .inr (.inr (.inl ⟨rfl, side_ask a k h⟩))⟩⟩
  show bindF (f201 a k) _ = _
  rw [sideP a k ga.2]; rfl
 ·refine ⟨(0, [], [sat (sumL a.2)]), ?_, fun _ => ⟨⟨rfl, fun y hy => by rw [List.mem_singleton.1 hy]; exact sat_in _⟩, .inr (.inl ⟨.inr (.inr (.inr (.inl rfl))), p1, p2⟩)⟩⟩
  show bindF (f203 a) _ = _
  rw [allP a ga.2 ga.1, bindF_some]
  simp only
  rw [single_go]; rfl
 ·refine ⟨(0, [], [sat (rdI (sumL a.2) a.2.length)]), ?_, fun _ => ⟨⟨rfl, fun y hy => by rw [List.mem_singleton.1 hy]; exact sat_in _⟩, .inr (.inl ⟨.inr (.inr (.inr (.inr (.inl rfl)))), p1, p2⟩)⟩⟩
  show bindF (f204 a) _ = _
  rw [meanP a ga.2 ga.1, bindF_some]
  simp only
  rw [single_go]; rfl
 ·refine ⟨bentS k a, ?_, fun h => ⟨bent_good k a ga.2 h, .inr (.inl ⟨.inr (.inr (.inr (.inr (.inr (.inl rfl))))), p1, p2⟩)⟩⟩
  show bindF (f205 k a) _ = _
  rw [bentP k a ga.2]; rfl
 ·refine ⟨((poolS a k).1, (poolS a k).2.1, (poolS a k).2.2.1), ?_, fun h => ⟨pool_good a k ga.2 h, .inr (.inr (.inr (.inr ⟨rfl, h, rfl⟩)))⟩⟩
  show bindF (f206 a k) _ = _
  rw [poolP a k]; rfl
 ·refine ⟨reshS a [(a.2.length : Int)], ?_, fun h => ⟨resh_good a _ ga.2 h, .inr (.inl ⟨.inr (.inr (.inr (.inr (.inr (.inr rfl))))), p1, p2⟩)⟩⟩
  show bindF (f174 a [(a.2.length : Int)]) _ = _
  rw [reshP]; rfl
theorem doW {l : List Nd} (T : TW l) (op a b k : Int) (ho : NOp op) : ∃ i e m, f104 l op a b k = some (i, e, m) ∧ Nx l m i e := by
 have hl := T.tL
 have o1 : 2 ≤ op ∧ op ≤ 14 := by unfold NOp at ho; omega
 by_cases h : l.length < 512
 ·by_cases c : 0 ≤ a ∧ a < l.length ∧ (isTwo op = true → 0 ≤ b ∧ b < l.length)
  ·obtain ⟨a0, a1, hb⟩ := c
   obtain ⟨A, rfl⟩ := Int.eq_ofNat_of_zero_le a0
   have hA : A < l.length := by omega
   have gA : 0 ≤ (A : Int) ∧ (A : Int) < (l.length : Int) := by omega
   have eA : vl l (A : Int) = nd l A := vl_nat l A hA
   have hj1P : f104_j1 l op A b = some (Sum.inl l) := by
    unfold f104_j1
    rw [dF (by omega), dF (by omega), dF (by omega), hasP, dT gA, two_ok]
    simp only [cond_false, bindF_some, Bool.not_true]
    cases ht : isTwo op
    ·rfl
    ·rw [cond_true, hasP, dT (hb ht)]; rfl
   have main : ∃ (r : Int × Tn) (bn : Int), f104_j3 op A b k l = some (r.1, bn, r.2.1, r.2.2) ∧ bn < l.length ∧ (r.1 = 0 → GoodT r.2 ∧ OpOk op (cntK op k) (nd l A) (vl l bn) r.2) := by
    cases ht : isTwo op
    ·have : ¬ (op = 2 ∨ op = 3 ∨ op = 4 ∨ op = 6 ∨ op = 12) := by unfold isTwo at ht; exact of_decide_eq_false ht
     obtain ⟨r, e1, e2⟩ := oneWf op (nd l A) (vl l (-1)) k (by unfold NOp at ho; omega) (T.tG A hA)
     refine ⟨r, -1, ?_, by omega, e2⟩
     unfold f104_j3
     unfold nd at e1
     rw [two_ok, ht, bindF_some, cond_false, guardF_pos gA, e1]; rfl
    ·have : op = 2 ∨ op = 3 ∨ op = 4 ∨ op = 6 ∨ op = 12 := by unfold isTwo at ht; exact of_decide_eq_true ht
     have gB := hb ht
     obtain ⟨B, rfl⟩ := Int.eq_ofNat_of_zero_le gB.1
     have hB : B < l.length := by omega
     obtain ⟨r, e1, e2⟩ := pairW op (nd l A) (nd l B) k (by unfold NOp at ho; omega) (T.tG A hA) (T.tG B hB)
     refine ⟨r, (B : Int), ?_, by omega, by rw [vl_nat l B hB]; exact e2⟩
     unfold f104_j3
     unfold nd at e1
     rw [two_ok, ht, bindF_some, cond_true, guardF_pos gA, guardF_pos gB, e1]; rfl
   obtain ⟨r, bn, m1, m2, m3⟩ := main
   unfold f104
   rw [hj1P, bindF_some, sumF_inl, cnt_ok, bindF_some, m1, bindF_some]
   by_cases er : r.1 = 0
   ·obtain ⟨g1, g2⟩ := m3 er
    rw [nF er, cond_false, push_ok _ _ h]
    exact ⟨_, _, _, rfl, ⟨tw_push T _ h g1 (by simp only; omega) m2 (by simp only; rw [eA]; exact g2), fun h => absurd rfl h, fun _ => ⟨rfl, _, rfl⟩⟩⟩
   ·rw [nT er]
    exact ⟨_, _, _, rfl, ⟨T, fun _ => rfl, fun h => absurd h er⟩⟩
  ·refine ⟨0, 1, l, ?_, ⟨T, fun _ => rfl, fun h => absurd h (by decide)⟩⟩
   have hj1P : f104_j1 l op a b = some (Sum.inr (1, l)) := by
    unfold f104_j1
    rw [dF (by omega), cond_false, dF (by omega), cond_false, dF (by omega), cond_false, hasP, bindF_some]
    by_cases c3 : 0 ≤ a ∧ a < l.length
    ·rw [dT c3, Bool.not_true, cond_false, two_ok, bindF_some]
     cases ht : isTwo op
     ·exact absurd ⟨c3.1, c3.2, fun h => absurd (ht.symm.trans h) (by decide)⟩ c
     ·rw [cond_true, hasP, bindF_some]
      by_cases c4 : 0 ≤ b ∧ b < l.length
      ·exact absurd ⟨c3.1, c3.2, fun _ => c4⟩ c
      ·rw [dF c4]; rfl
    ·rw [dF c3]; rfl
   unfold f104
   rw [hj1P]; rfl
 ·refine ⟨0, 2, l, ?_, ⟨T, fun _ => rfl, fun h => absurd h (by decide)⟩⟩
  have hj1P : f104_j1 l op a b = some (Sum.inr (2, l)) := by
   unfold f104_j1
   rw [dT (by omega)]; rfl
  unfold f104
  rw [hj1P]; rfl
structure SOk (l m : List Nd) (i e : Int) : Prop where
 oT : TW m
 oX : ∃ s, m = l ++ s
 oI : e = 0 → i = (m.length : Int) - 1 ∧ l.length < m.length
theorem nx_ok {l0 l m : List Nd} {i e : Int} (hx : ∃ s, l = l0 ++ s) (N : Nx l m i e) : SOk l0 m i e := by
 obtain ⟨s, rfl⟩ := hx
 refine ⟨N.xT, ?_, fun h => ?_⟩
 ·by_cases h : e = 0
  ·obtain ⟨_, n, hn⟩ := N.xO h
   exact ⟨s ++ [n], by rw [hn, List.append_assoc]⟩
  ·exact ⟨s, N.xE h⟩
 ·obtain ⟨hi, n, hn⟩ := N.xO h
  rw [hn, hi]
  simp only [List.length_append, List.length_cons, List.length_nil]
  omega
def Goes (l0 : List Nd) (was : Int) (p : Option (Int × Int × Int × List Nd)) : Prop := ∃ i e m, p = some (i, was, e, m) ∧ SOk l0 m i e
theorem steps_leafW {l0 l : List Nd} {i0 e0 : Int} (was : Int) (e : Int) (T : TW l) (hx : ∃ s, l = l0 ++ s) (v : List Int) (iv : inI v) : Goes l0 was (f66 l was e v) := by
 unfold f66
 by_cases h : e = 0
 ·rw [nF h, cond_false]
  obtain ⟨i, e', m, q, N, _⟩ := leafW T ([(List.length v : Int)], v) iv
  rw [q]; exact ⟨_, _, _, rfl, nx_ok hx N⟩
 ·rw [nT h]; exact ⟨_, _, _, rfl, T, hx, fun hh => absurd hh h⟩
theorem steps_doW {l0 l : List Nd} (was : Int) (e : Int) (T : TW l) (hx : ∃ s, l = l0 ++ s) (op a b k : Int) (ho : NOp op) : Goes l0 was (f65 l was e op a b k) := by
 unfold f65
 by_cases h : e = 0
 ·rw [nF h, cond_false]
  obtain ⟨i, e', m, q, N⟩ := doW T op a b k ho
  rw [q]; exact ⟨_, _, _, rfl, nx_ok hx N⟩
 ·rw [nT h]; exact ⟨_, _, _, rfl, T, hx, fun hh => absurd hh h⟩
theorem cut_any (l : List Nd) (n : Int) : ∃ m, f105 l n = some m := by
 unfold f105
 have g : 0 ≤ (if (List.length l : Int) < (if (0 : Int) > n then (0 : Int) else n) then (List.length l : Int) else (if (0 : Int) > n then (0 : Int) else n)) ∧ (if (List.length l : Int) < (if (0 : Int) > n then (0 : Int) else n) then (List.length l : Int) else (if (0 : Int) > n then (0 : Int) else n)) ≤ (List.length l : Int) := by
  split <;> split <;> omega
 rw [guardF_pos g]; exact ⟨_, rfl⟩
def Far (l : List Nd) (p : Option (Int × Int × List Nd)) : Prop := ∃ i e m, p = some (i, e, m) ∧ (e = 0 → SOk l m i 0)
theorem toldW {l m : List Nd} {i e : Int} (was : Int) (S : SOk l m i e) : ∃ i' e' m' : _, ∃ w e2 : Int, f67 m was e i = some (i', e', w, e2, m') ∧ (e' = 0 → SOk l m' i' 0) := by
 unfold f67
 by_cases h : e = 0
 ·rw [nF h, cond_false]; exact ⟨_, _, _, _, _, rfl, fun _ => ⟨S.oT, S.oX, fun _ => S.oI h⟩⟩
 ·obtain ⟨m', q⟩ := cut_any m was
  rw [nT h, cond_true, q]; exact ⟨_, _, _, _, _, rfl, fun hh => absurd hh h⟩
theorem mayW {l : List Nd} (T : TW l) (out : Int) (want : List Int) : ∃ e, f63 l out want = some (e, l) := by
 unfold f63 f63_j1
 rw [valueP l out T.tG, bindF_some]
 simp only
 cases decide (0 ≤ out ∧ out < l.length)
 ·exact ⟨_, rfl⟩
 ·rw [Bool.not_true, cond_false, bindF_some]
  cases ((List.length want : Int) != (List.length (vl l out).2 : Int))
  ·rw [cond_false]
   cases ((List.length (vl l out).1 : Int) != (1 : Int))
   ·exact ⟨_, rfl⟩
   ·exact ⟨_, rfl⟩
  ·exact ⟨_, rfl⟩
theorem squareW {l : List Nd} (T : TW l) (out : Int) (want : List Int) (iw : inI want) : Far l (f20 l out want) := by
 unfold f20
 obtain ⟨e, q⟩ := mayW T out want
 rw [q, bindF_some]
 by_cases h : e = 0
 ·rw [nF h, cond_false]
  show Far l (bindF (some ((List.length l : Int), l)) _)
  rw [bindF_some]
  simp only
  obtain ⟨i3, e3, m3, q3, s3⟩ := steps_leafW (l0 := l) (i0 := 0) (e0 := 0) (List.length l : Int) 0 T ⟨[], by simp⟩ want iw
  rw [q3, bindF_some]
  simp only
  obtain ⟨i4, e4, m4, q4, s4⟩ := steps_doW (List.length l : Int) e3 s3.oT s3.oX 3 out i3 0 (by unfold NOp; omega)
  rw [q4, bindF_some]
  simp only
  obtain ⟨i5, e5, m5, q5, s5⟩ := steps_doW (List.length l : Int) e4 s4.oT s4.oX 4 i4 i4 0 (by unfold NOp; omega)
  rw [q5, bindF_some]
  simp only
  obtain ⟨i6, e6, m6, q6, s6⟩ := steps_doW (List.length l : Int) e5 s5.oT s5.oX 10 i5 0 0 (by unfold NOp; omega)
  rw [q6, bindF_some]
  simp only
  obtain ⟨i7, e7, m7, w7, x7, q7, s7⟩ := toldW (List.length l : Int) s6
  rw [q7, bindF_some]
  exact ⟨_, _, _, rfl, s7⟩
 ·rw [nT h, cond_true]; exact ⟨_, _, _, rfl, fun hh => absurd hh h⟩
theorem sizeW {l : List Nd} (T : TW l) (out : Int) (want : List Int) (iw : inI want) : Far l (f21 l out want) := by
 unfold f21
 obtain ⟨e, q⟩ := mayW T out want
 rw [q, bindF_some]
 by_cases h : e = 0
 ·rw [nF h, cond_false]
  show Far l (bindF (some ((List.length l : Int), l)) _)
  rw [bindF_some]
  simp only
  obtain ⟨i3, e3, m3, q3, s3⟩ := steps_leafW (l0 := l) (i0 := 0) (e0 := 0) (List.length l : Int) 0 T ⟨[], by simp⟩ want iw
  rw [q3, bindF_some]
  simp only
  obtain ⟨i4, e4, m4, q4, s4⟩ := steps_doW (List.length l : Int) e3 s3.oT s3.oX 3 out i3 0 (by unfold NOp; omega)
  rw [q4, bindF_some]
  simp only
  obtain ⟨i5, e5, m5, q5, s5⟩ := steps_doW (List.length l : Int) e4 s4.oT s4.oX 11 i4 0 4 (by unfold NOp; omega)
  rw [q5, bindF_some]
  simp only
  obtain ⟨i6, e6, m6, q6, s6⟩ := steps_doW (List.length l : Int) e5 s5.oT s5.oX 10 i5 0 0 (by unfold NOp; omega)
  rw [q6, bindF_some]
  simp only
  obtain ⟨i7, e7, m7, w7, x7, q7, s7⟩ := toldW (List.length l : Int) s6
  rw [q7, bindF_some]
  exact ⟨_, _, _, rfl, s7⟩
 ·rw [nT h, cond_true]; exact ⟨_, _, _, rfl, fun hh => absurd hh h⟩
theorem hinge_j (c : Int) (r : Bool × (List Int) × (List Int) × (List Nd)) : (∃ e, e ≠ 0 ∧ f22_j1 c r = some (Sum.inr e)) ∨ (f22_j1 c r = some (Sum.inl ()) ∧ r.1 = true ∧ 0 ≤ c ∧ c < r.2.2.1.length) := by
 unfold f22_j1
 cases h : r.1
 ·exact .inl ⟨1, by decide, rfl⟩
 ·rw [Bool.not_true, cond_false]
  cases ((List.length r.2.1 : Int) != (1 : Int))
  ·rw [cond_false]
   by_cases h1 : c < 0
   ·rw [dT h1]; exact .inl ⟨4, by decide, rfl⟩
   ·rw [dF h1, cond_false]
    by_cases h2 : c ≥ (List.length r.2.2.1 : Int)
    ·rw [dT h2]; exact .inl ⟨4, by decide, rfl⟩
    ·rw [dF h2]; exact .inr ⟨rfl, rfl, by omega, by omega⟩
  ·exact .inl ⟨4, by decide, rfl⟩
theorem hingeW {l : List Nd} (T : TW l) (out : Int) (c : Int) : Far l (f22 l out c) := by
 unfold f22
 rw [valueP l out T.tG, bindF_some]
 rcases hinge_j c (decide (0 ≤ out ∧ out < l.length), (vl l out).1, (vl l out).2, l) with ⟨e, he, q⟩ | ⟨q, h1, h2, h3⟩
 ·rw [q, bindF_some, sumF_inr]; exact ⟨_, _, _, rfl, fun hh => absurd hh he⟩
 ·have ho := of_decide_eq_true h1
  have ev : vl l out = nd l out.toNat := by unfold vl; rw [if_pos ho]
  have hg := T.tG out.toNat (by omega)
  rw [← ev] at hg
  obtain ⟨gp, gl, _, gl2⟩ := good_len hg.1
  have h3' : c < (vl l out).2.length := h3
  rw [q, bindF_some, sumF_inl]
  simp only
  rw [new_ok, if_pos gp, bindF_some, repeat_ok _ _ gl2, bindF_some]
  simp only
  rw [guardF_pos (by rw [List.length_replicate]; omega), guardF_pos (by rw [List.length_replicate]; omega)]
  show Far l (bindF (some ((List.length l : Int), l)) _)
  rw [bindF_some]
  simp only
  obtain ⟨i3, e3, m3, q3, s3⟩ := steps_leafW (l0 := l) (i0 := 0) (e0 := 0) (List.length l : Int) 0 T ⟨[], by simp⟩ (List.set (List.replicate (prd (vl l out).1).toNat 0) (Int.toNat c) (-4294967296)) (inI_set (inI_rep _ _ (by decide)) _ _ (by decide))
  rw [q3, bindF_some]
  simp only
  obtain ⟨i4, e4, m4, q4, s4⟩ := steps_leafW (i0 := 0) (e0 := 0) (List.length l : Int) e3 s3.oT s3.oX (List.set (List.replicate (vl l out).2.length 4294967296) (Int.toNat c) 0) (inI_set (inI_rep _ _ (by decide)) _ _ (by decide))
  rw [q4, bindF_some]
  simp only
  obtain ⟨i5, e5, m5, q5, s5⟩ := steps_doW (List.length l : Int) e4 s4.oT s4.oX 4 out i3 0 (by unfold NOp; omega)
  rw [q5, bindF_some]
  simp only
  obtain ⟨i6, e6, m6, q6, s6⟩ := steps_doW (List.length l : Int) e5 s5.oT s5.oX 9 i5 0 0 (by unfold NOp; omega)
  rw [q6, bindF_some]
  simp only
  obtain ⟨i7, e7, m7, q7, s7⟩ := steps_doW (List.length l : Int) e6 s6.oT s6.oX 2 out i6 0 (by unfold NOp; omega)
  rw [q7, bindF_some]
  simp only
  obtain ⟨i8, e8, m8, q8, s8⟩ := steps_doW (List.length l : Int) e7 s7.oT s7.oX 2 i7 i4 0 (by unfold NOp; omega)
  rw [q8, bindF_some]
  simp only
  obtain ⟨i9, e9, m9, q9, s9⟩ := steps_doW (List.length l : Int) e8 s8.oT s8.oX 11 i8 0 1 (by unfold NOp; omega)
  rw [q9, bindF_some]
  simp only
  obtain ⟨ia, ea, ma, qa, sa⟩ := steps_doW (List.length l : Int) e9 s9.oT s9.oX 4 i9 i4 0 (by unfold NOp; omega)
  rw [qa, bindF_some]
  simp only
  obtain ⟨ib, eb, mb, qb, sb⟩ := steps_doW (List.length l : Int) ea sa.oT sa.oX 9 ia 0 0 (by unfold NOp; omega)
  rw [qb, bindF_some]
  simp only
  obtain ⟨ic, ec, mc, w7, x7, qc, sc⟩ := toldW (List.length l : Int) sb
  rw [qc, bindF_some]
  exact ⟨_, _, _, rfl, sc⟩
theorem farW {l : List Nd} (T : TW l) (kind out : Int) (x : List Int × List Int × Int) (ix : inI x.2.1) : Far l (f81 l kind out x) := by
 unfold f81
 cases (kind == (1 : Int))
 ·rw [cond_false]
  cases (kind == (2 : Int))
  ·rw [cond_false]
   obtain ⟨i, e, m, q, s⟩ := hingeW T out x.2.2
   rw [q]; exact ⟨_, _, _, rfl, s⟩
  ·obtain ⟨i, e, m, q, s⟩ := sizeW T out x.2.1 ix
   rw [cond_true, q]; exact ⟨_, _, _, rfl, s⟩
 ·obtain ⟨i, e, m, q, s⟩ := squareW T out x.2.1 ix
  rw [cond_true, q]; exact ⟨_, _, _, rfl, s⟩
end Go.Proofs.Cv
namespace Go.Proofs.Cv
open Go.AM Go.Proofs.PlB Go.Proofs.PlW Go.Proofs.PlT Go.Proofs.PlS Go.Proofs.Sh Go.Proofs.Num Go.Proofs.Div Go.Proofs.Op
open Go.Proofs.PlR hiding Tn
abbrev Lay := ByteArray × Int × Int
abbrev Nt := (List Int) × (List Lay)
abbrev zLay : Lay := Ty.z (.p .str (.p (.int .i64) (.int .i64)))
abbrev zL : List Int := Ty.z (.sl (.int .i64))
def ly (n : Nt) (i : Nat) : Lay := rd zLay n.2 (i : Int)
def kd (b : ByteArray) (l : Lay) : Bool := (ByteArray.toList l.1 == ByteArray.toList b)
abbrev bDense : ByteArray := ByteArray.mk #[100, 101, 110, 115, 101]
abbrev bConv : ByteArray := ByteArray.mk #[99, 111, 110, 118]
abbrev bPool : ByteArray := ByteArray.mk #[112, 111, 111, 108]
theorem prod_any (d : List Int) (hl : d.length ≤ 1000000) : ∃ v, f136 d = some v := by
 unfold f136
 have LL := loop_rel (B := fun go (x : Int × Int) => f136_l1 d go x.1 x.2) (fun k x => x.2 = (k : Int)) (fun _ => True) d.length ((1 : Int), (0 : Int)) rfl ?_ ?_ (by omega)
 ·obtain ⟨z, ez, _⟩ := LL
  rw [ez]; exact ⟨_, rfl⟩
 ·rintro k hk ⟨v, _⟩ rfl
  refine ⟨(IntKind.i64.wrap (v * rd (0 : Int) d (k : Int)), ((k + 1 : Nat) : Int)), fun go => ?_, rfl⟩
  unfold f136_l1
  simp only
  rw [dT (by omega), cond_true, guardF_pos (by omega), wsucc k (by omega)]
 ·rintro ⟨v, _⟩ rfl
  refine ⟨v, fun go => ?_, trivial⟩
  unfold f136_l1
  simp only
  rw [dF (by omega), cond_false]
theorem prod_ok {d : List Int} (h : 0 < prd d) : f136 d = some (prd d) := by
 obtain ⟨e, h1, h2⟩ := prd_prod h
 have hr := prd_range d
 unfold f136
 have L := loop_for (B := fun go (x : Int × Int) => f136_l1 d go x.1 x.2) (fun k => (prodL (d.take k), (k : Int))) d.length (prd d) ?_ ?_ (by omega)
 ·have L' : loopF (fun go (x : Int × Int) => f136_l1 d go x.1 x.2) fuelN ((1 : Int), (0 : Int)) = _ := L
  rw [L']; rfl
 ·intro k hk go
  obtain ⟨p1, p2⟩ := prodL_le (fun x hx => (h1 x hx).1) (k + 1)
  unfold f136_l1
  simp only
  rw [dT (by omega), cond_true, guardF_pos (by omega), wsucc k (by omega), ← prodL_take k hk, wrap_i64 (by omega) (by omega)]
 ·intro go
  unfold f136_l1
  simp only
  rw [dF (by omega), cond_false, List.take_length, e]
def pls (l : Lay) (d : List Int) : List (List Int) :=
 bif kd bDense l then [[l.2.1, (f136 d).getD 0], [l.2.1]] else bif kd bConv l then [[l.2.1, rd (0 : Int) d 0, l.2.2]] else []
theorem pls_len (l : Lay) (d : List Int) : (pls l d).length ≤ 2 := by
 unfold pls
 cases kd bDense l
 ·cases kd bConv l
  ·exact Nat.zero_le _
  ·exact Nat.le_succ 1
 ·exact Nat.le_refl 2
theorem pls_ok (l : Lay) (d : List Int) (hl : d.length ≤ 2) (hc : kd bConv l = true → d.length = 2) : f188 l d = some (pls l d) := by
 obtain ⟨v, ev⟩ := prod_any d (by omega)
 unfold f188 pls
 show (bif kd bDense l then _ else bif kd bConv l then _ else _) = _
 rw [ev]
 cases kd bDense l
 ·rw [cond_false, cond_false]
  cases h : kd bConv l
  ·rfl
  ·have := hc h
   rw [cond_true, cond_true, guardF_pos (by omega)]
 ·rfl
theorem counts_any (b : ByteArray) : ∃ v, f249 b = some v := by
 unfold f249 f249_j1
 cases (ByteArray.toList b == ByteArray.toList bDense) <;> cases (ByteArray.toList b == ByteArray.toList bPool) <;> cases (ByteArray.toList b == ByteArray.toList (ByteArray.mk #[98, 101, 110, 100])) <;> cases (ByteArray.toList b == ByteArray.toList bConv) <;> cases (ByteArray.toList b == ByteArray.toList (ByteArray.mk #[115, 107, 105, 112])) <;> exact ⟨_, rfl⟩
theorem within_ok (v m : Int) : f231 v m = some (decide (1 ≤ v ∧ v ≤ m)) := by
 unfold f231
 by_cases h : v ≥ 1
 ·rw [dT h, cond_true]; congr 1; rw [decide_eq_decide]; omega
 ·rw [dF h, cond_false, dF (fun hh => h hh.1)]
theorem lgood_j (l : Lay) : (f230_j1 l = some (Sum.inl ())) ∨ f230_j1 l = some (Sum.inr ()) := by
 unfold f230_j1
 obtain ⟨v, ev⟩ := counts_any l.1
 rw [ev, bindF_some]
 cases decide (v < (2 : Int))
 ·exact .inl rfl
 ·cases (l.2.2 != (0 : Int))
  ·exact .inl rfl
  ·exact .inr rfl
theorem kd_ne {a b : ByteArray} {l : Lay} (h : kd a l = true) (hab : (ByteArray.toList a == ByteArray.toList b) = false) : kd b l = false := by
 unfold kd at h ⊢
 have h1 := eq_of_beq h
 rw [h1]; exact hab
theorem lgood (l : Lay) : ∃ b, f230 l = some b ∧ (b = true → kd bPool l = true → 1 ≤ l.2.1) := by
 unfold f230
 rcases lgood_j l with e | e
 ·rw [e, bindF_some, sumF_inl]
  show ∃ b, (bif kd bDense l then _ else bif kd bConv l then _ else bif kd bPool l then _ else _) = some b ∧ _
  cases h1 : kd bDense l
  ·rw [cond_false]
   cases h2 : kd bConv l
   ·rw [cond_false]
    cases h3 : kd bPool l
    ·rw [cond_false]
     cases (ByteArray.toList l.1 == ByteArray.toList (ByteArray.mk #[98, 101, 110, 100]))
     ·cases (ByteArray.toList l.1 == ByteArray.toList (ByteArray.mk #[115, 107, 105, 112]))
      ·exact ⟨_, rfl, fun _ h => absurd h (by decide)⟩
      ·exact ⟨_, rfl, fun _ h => absurd h (by decide)⟩
     ·rw [cond_true, within_ok]; exact ⟨_, rfl, fun _ h => absurd h (by decide)⟩
    ·rw [cond_true, within_ok]
     exact ⟨_, rfl, fun h _ => (of_decide_eq_true h).1⟩
   ·rw [cond_true, within_ok, bindF_some]
    have := kd_ne h2 (b := bPool) (by kernel_rfl)
    cases decide (1 ≤ l.2.1 ∧ l.2.1 ≤ 16)
    ·exact ⟨_, rfl, fun h => absurd h (by decide)⟩
    ·rw [cond_true, within_ok]
     exact ⟨_, rfl, fun _ h => absurd (this.symm.trans h) (by decide)⟩
  ·rw [cond_true, within_ok]
   have := kd_ne h1 (b := bPool) (by kernel_rfl)
   exact ⟨_, rfl, fun _ h => absurd (this.symm.trans h) (by decide)⟩
 ·rw [e, bindF_some, sumF_inr]; exact ⟨_, rfl, fun h => absurd h (by decide)⟩
structure NG (n : Nt) : Prop where
 gI : 1 ≤ n.1.length ∧ n.1.length ≤ 2
 gP : ∀ i, i < n.2.length → kd bPool (ly n i) = true → 1 ≤ (ly n i).2.1
theorem ngood (n : Nt) (h6 : n.2.length ≤ 6) : ∃ b, f186 n = some b ∧ (b = true → NG n) := by
 unfold f186
 have LL := loop_fuel (B := fun go x => f186_l1 n go x) (fun x => ∃ k : Nat, k ≤ n.2.length ∧ x = (k : Int) ∧ ∀ i, i < k → kd bPool (ly n i) = true → 1 ≤ (ly n i).2.1) (fun x => n.2.length - x.toNat)
  (fun z => z = Sum.inr () → ∀ i, i < n.2.length → kd bPool (ly n i) = true → 1 ≤ (ly n i).2.1) ?_ (0 : Int) ⟨0, by omega, rfl, fun i h => absurd h (by omega)⟩ (by show n.2.length - Int.toNat 0 < 18446744073709551616; omega)
 ·obtain ⟨z, ez, hz⟩ := LL
  rw [ez, bindF_some]
  cases z with
  | inl u => exact ⟨false, rfl, fun h => absurd h (by decide)⟩
  | inr u =>
   have hp := hz rfl
   rw [sumF_inr]
   by_cases e1 : n.1.length = 1
   ·rw [bT (by omega), cond_true, guardF_pos (by omega), within_ok]
    exact ⟨_, rfl, fun _ => ⟨by omega, hp⟩⟩
   ·rw [bF (by omega), cond_false]
    by_cases e2 : n.1.length = 2
    ·rw [bT (by omega), cond_true, guardF_pos (by omega), within_ok, bindF_some]
     cases decide (1 ≤ rd (0 : Int) n.1 0 ∧ rd (0 : Int) n.1 0 ≤ 64)
     ·exact ⟨_, rfl, fun h => absurd h (by decide)⟩
     ·rw [cond_true, guardF_pos (by omega), within_ok]
      exact ⟨_, rfl, fun _ => ⟨by omega, hp⟩⟩
    ·rw [bF (by omega), cond_false]; exact ⟨_, rfl, fun h => absurd h (by decide)⟩
 ·rintro _ ⟨k, hk, rfl, hp⟩
  by_cases h : k < n.2.length
  ·obtain ⟨b, eb, hb⟩ := lgood (ly n k)
   have eb2 : f230 ((rd (Ty.z (.p .str (.p (.int .i64) (.int .i64)))) n.2 (k : Int)).1, ((rd (Ty.z (.p .str (.p (.int .i64) (.int .i64)))) n.2 (k : Int)).2).1, ((rd (Ty.z (.p .str (.p (.int .i64) (.int .i64)))) n.2 (k : Int)).2).2) = some b := eb
   cases b
   ·refine .inl ⟨Sum.inl (), fun go => ?_, fun h => absurd h (by simp)⟩
    unfold f186_l1
    rw [dT (by omega), cond_true, guardF_pos (by omega), eb2]; rfl
   ·refine .inr ⟨((k + 1 : Nat) : Int), fun go => ?_, ⟨k + 1, h, rfl, fun i hi hk2 => ?_⟩, by simp only [Int.toNat_natCast]; omega⟩
    ·unfold f186_l1
     rw [dT (by omega), cond_true, guardF_pos (by omega), eb2, bindF_some, Bool.not_true, cond_false, wsucc k (by omega)]
    ·by_cases e : i = k
     ·subst e; exact hb rfl hk2
     ·exact hp i (by omega) hk2
  ·obtain rfl : k = n.2.length := by omega
   refine .inl ⟨Sum.inr (), fun go => ?_, fun _ => hp⟩
   unfold f186_l1
   rw [dF (by omega), cond_false]
theorem cloneS (d : List Int) (hl : d.length ≤ 4096) : f101 d = some d := PlB.clone_d d (by omega)
def Fit (p : Option (Bool × List Int)) (n : Nat) : Prop := ∃ b d, p = some (b, d) ∧ d.length ≤ n
theorem out_j1 (l : Lay) (d : List Int) : (f232_j1 l d = some (Sum.inl ()) ∧ d.length = 2) ∨ f232_j1 l d = some (Sum.inr ()) := by
 unfold f232_j1
 by_cases h : d.length = 2
 ·rw [nF (by omega), cond_false, guardF_pos (by omega)]
  cases decide (l.2.2 > rd (0 : Int) d 1)
  ·exact .inl ⟨rfl, h⟩
  ·exact .inr rfl
 ·rw [nT (by omega)]; exact .inr rfl
theorem out_j2 (l : Lay) (d : List Int) : (f232_j2 l d = some (Sum.inl ()) ∧ d.length = 2) ∨ f232_j2 l d = some (Sum.inr ()) := by
 unfold f232_j2
 by_cases h : d.length = 2
 ·rw [nF (by omega), cond_false, guardF_pos (by omega)]
  cases decide (l.2.1 > rd (0 : Int) d 1)
  ·exact .inl ⟨rfl, h⟩
  ·exact .inr rfl
 ·rw [nT (by omega)]; exact .inr rfl
theorem lout (l : Lay) (d : List Int) (hd : d.length ≤ 2) (hp : kd bPool l = true → 1 ≤ l.2.1) : ∃ b o, f232 l d = some (b, o) ∧ o.length ≤ 2 ∧ (b = true → kd bConv l = true → d.length = 2) := by
 unfold f232
 show ∃ b o, (bif kd bDense l then _ else bif kd bConv l then _ else bif kd bPool l then _ else _) = some (b, o) ∧ _
 cases h1 : kd bDense l
 ·rw [cond_false]
  cases h2 : kd bConv l
  ·rw [cond_false]
   cases h3 : kd bPool l
   ·rw [cond_false, cloneS d (by omega)]
    exact ⟨_, _, rfl, hd, fun _ h => absurd h (by decide)⟩
   ·rw [cond_true]
    rcases out_j2 l d with ⟨e, h⟩ | e
    ·have := hp h3
     rw [e, bindF_some, sumF_inl, guardF_pos (by omega), guardF_pos (by omega), guardF_pos (by omega)]
     exact ⟨_, _, rfl, Nat.le_refl 2, fun _ h => absurd h (by decide)⟩
    ·rw [e, bindF_some, sumF_inr]; exact ⟨_, _, rfl, Nat.zero_le _, fun h => absurd h (by decide)⟩
  ·rw [cond_true]
   rcases out_j1 l d with ⟨e, h⟩ | e
   ·rw [e, bindF_some, sumF_inl, guardF_pos (by omega)]
    exact ⟨_, _, rfl, Nat.le_refl 2, fun _ _ => h⟩
   ·rw [e, bindF_some, sumF_inr]; exact ⟨_, _, rfl, Nat.zero_le _, fun h => absurd h (by decide)⟩
 ·have := kd_ne h1 (b := bConv) (by kernel_rfl)
  exact ⟨_, _, rfl, Nat.le_succ 1, fun _ h => absurd (this.symm.trans h) (by decide)⟩
def dm (d : List (List Int)) (i : Nat) : List Int := rd zL d (i : Int)
structure WK (n : Nt) (k : Nat) (d : List (List Int)) : Prop where
 kL : d.length = k + 1
 kD : ∀ i, i ≤ k → (dm d i).length ≤ 2
 kC : ∀ i, i < k → kd bConv (ly n i) = true → (dm d i).length = 2
theorem dm_app (d : List (List Int)) (o : List Int) (i : Nat) (h : i < d.length) : dm (d ++ [o]) i = dm d i := rd_app _ _ _ _ h
theorem dm_last (d : List (List Int)) (o : List Int) : dm (d ++ [o]) d.length = o := rd_last _ _ _
theorem skips_any (n : Nt) (k : Nat) (d : List (List Int)) (hd : WK n k d) (hk : k < n.2.length) (h6 : n.2.length ≤ 6) : ∃ b, f233 n (k : Int) d = some b := by
 have hl := hd.kL
 unfold f233
 by_cases h : (k : Int) > 0
 ·have e1 : IntKind.i64.wrap ((k : Int) - 1) = ((k - 1 : Nat) : Int) := by rw [wrap_i64 (by omega) (by omega)]; omega
  rw [dT h, cond_true, e1, guardF_pos (by omega)]
  cases (ByteArray.toList ((rd (Ty.z (.p .str (.p (.int .i64) (.int .i64)))) n.2 ((k - 1 : Nat) : Int)).1) == ByteArray.toList (ByteArray.mk #[115, 107, 105, 112]))
  ·rw [Bool.not_false, cond_true, guardF_pos (by omega), guardF_pos (by omega)]
   have hq : (rd (Ty.z (.sl (.int .i64))) d ((k - 1 : Nat) : Int)).length ≤ 2 := hd.kD (k - 1) (by omega)
   rw [sameP _ _ (Nat.lt_of_le_of_lt hq (by decide))]; exact ⟨_, rfl⟩
  ·exact ⟨_, rfl⟩
 ·rw [dF h, cond_false]; exact ⟨_, rfl⟩
theorem walk_j (n : Nt) (k : Nat) (d : List (List Int)) (q : Bool × List Int) (hd : WK n k d) (hk : k < n.2.length) (h6 : n.2.length ≤ 6) :
  (f187_j4 n (k : Int) d q = some (Sum.inl ()) ∧ q.1 = true) ∨ f187_j4 n (k : Int) d q = some (Sum.inr ()) := by
 unfold f187_j4
 cases h : q.1
 ·exact .inr rfl
 ·rw [Bool.not_true, cond_false]
  cases (ByteArray.toList ((rd (Ty.z (.p .str (.p (.int .i64) (.int .i64)))) n.2 (k : Int)).1) == ByteArray.toList (ByteArray.mk #[115, 107, 105, 112]))
  ·exact .inl ⟨rfl, rfl⟩
  ·obtain ⟨b, eb⟩ := skips_any n k d hd hk h6
   have eb2 : f233 (n.1, n.2) (k : Int) d = some b := eb
   rw [cond_true, eb2, bindF_some]
   cases b
   ·exact .inr rfl
   ·exact .inl ⟨rfl, rfl⟩
theorem walkW (n : Nt) (g : NG n) (h6 : n.2.length ≤ 6) : ∃ b d, f187 n = some (b, d) ∧ (b = true → WK n n.2.length d) := by
 obtain ⟨i1, i2⟩ := g.gI
 unfold f187
 rw [cloneS n.1 (by omega), bindF_some]
 have LL := loop_fuel (B := fun go (x : Int × List (List Int)) => f187_l3 n go x.1 x.2) (fun x => ∃ k : Nat, k ≤ n.2.length ∧ x.1 = (k : Int) ∧ WK n k x.2) (fun x => n.2.length - x.1.toNat)
  (fun z => ∀ d, z = Sum.inr d → WK n n.2.length d) ?_ ((0 : Int), [n.1]) ⟨0, by omega, rfl, rfl, (by intro i hi; have h0 : i = 0 := Nat.le_zero.1 hi; subst h0; exact i2), fun i hi => absurd hi (Nat.not_lt_zero _)⟩ (by simp only; omega)
 ·obtain ⟨z, ez, hz⟩ := LL
  rw [ez, bindF_some]
  cases z with
  | inl u => exact ⟨false, [], rfl, fun h => absurd h (by decide)⟩
  | inr d => exact ⟨true, d, rfl, fun _ => hz d rfl⟩
 ·rintro ⟨_, d⟩ ⟨k, hk, rfl, hd⟩
  simp only at hd
  have hl := hd.kL
  by_cases h : k < n.2.length
  ·obtain ⟨b, o, eo, o2, oc⟩ := lout (ly n k) (dm d k) (hd.kD k (by omega)) (g.gP k h)
   have eo2 : f232 ((rd (Ty.z (.p .str (.p (.int .i64) (.int .i64)))) n.2 (k : Int)).1, ((rd (Ty.z (.p .str (.p (.int .i64) (.int .i64)))) n.2 (k : Int)).2).1, ((rd (Ty.z (.p .str (.p (.int .i64) (.int .i64)))) n.2 (k : Int)).2).2) (rd (Ty.z (.sl (.int .i64))) d (k : Int)) = some (b, o) := eo
   rcases walk_j n k d (b, o) hd h h6 with ⟨ej, hb⟩ | ej
   ·have g3 : (List.length d + List.length [o]) * 24 ≤ 140737488355328 := by simp only [List.length_cons, List.length_nil]; omega
    refine .inr ⟨(((k + 1 : Nat) : Int), d ++ [o]), fun go => ?_, ⟨k + 1, h, rfl, by simp; omega, fun i hi => ?_, fun i hi hc => ?_⟩, by simp only [Int.toNat_natCast]; omega⟩
    ·unfold f187_l3
     simp only
     rw [dT (by omega), cond_true, guardF_pos (by omega), guardF_pos (by omega), eo2, bindF_some, ej, bindF_some, sumF_inl, guardF_pos g3, wsucc k (by omega)]
    ·by_cases e : i < d.length
     ·simp only; rw [dm_app _ _ _ e]; exact hd.kD i (by omega)
     ·obtain rfl : i = d.length := by omega
      simp only; rw [dm_last]; exact o2
    ·simp only
     rw [dm_app _ _ _ (by omega)]
     by_cases e : i = k
     ·subst e; exact oc hb hc
     ·exact hd.kC i (by omega) hc
   ·refine .inl ⟨Sum.inl (), fun go => ?_, fun d h => absurd h (by simp)⟩
    unfold f187_l3
    simp only
    rw [dT (by omega), cond_true, guardF_pos (by omega), guardF_pos (by omega), eo2, bindF_some, ej, bindF_some, sumF_inr]
  ·obtain rfl : k = n.2.length := by omega
   refine .inl ⟨Sum.inr d, fun go => ?_, fun d' h => by injection h with h; subst h; exact hd⟩
   unfold f187_l3
   simp only
   rw [dF (by omega), cond_false]
def psm (ps : List (List Int)) : Nat → Int
 | 0 => 0
 | k + 1 => psm ps k + prd (dm ps k)
def tsm (n : Nt) (d : List (List Int)) : Nat → Int
 | 0 => 0
 | k + 1 => tsm n d k + psm (pls (ly n k) (dm d k)) (pls (ly n k) (dm d k)).length
theorem psm_range (ps : List (List Int)) : ∀ k : Nat, 0 ≤ psm ps k ∧ psm ps k ≤ k * 4096
 | 0 => by simp [psm]
 | k + 1 => by
  have := psm_range ps k
  have := prd_range (dm ps k)
  simp only [psm]
  omega
theorem tsm_range (n : Nt) (d : List (List Int)) : ∀ k : Nat, 0 ≤ tsm n d k ∧ tsm n d k ≤ k * 8192
 | 0 => by simp [tsm]
 | k + 1 => by
  have := tsm_range n d k
  have := psm_range (pls (ly n k) (dm d k)) (pls (ly n k) (dm d k)).length
  have := pls_len (ly n k) (dm d k)
  simp only [tsm]
  omega
def AllG (ps : List (List Int)) (k : Nat) : Prop := ∀ j, j < k → 0 < prd (dm ps j)
theorem sum_in (ps : List (List Int)) (hl : ps.length ≤ 2) (hd : ∀ j, j < ps.length → (dm ps j).length ≤ 3) (m0 M : Int) (ok0 : Bool) (hM : ok0 = true → m0 = M) (M0 : 0 ≤ M ∧ M ≤ 100000) :
  ∃ z, loopF (fun go (x : Int × Bool × Int) => f135_l4 ps go x.1 x.2.1 x.2.2) fuelN (m0, ok0, (0 : Int)) = some z ∧ (z.2 = true → ok0 = true ∧ z.1 = M + psm ps ps.length ∧ AllG ps ps.length) := by
 refine loop_rel (B := fun go (x : Int × Bool × Int) => f135_l4 ps go x.1 x.2.1 x.2.2) (fun k x => x.2.2 = (k : Int) ∧ (x.2.1 = true → ok0 = true ∧ x.1 = M + psm ps k ∧ AllG ps k))
  (fun z => z.2 = true → ok0 = true ∧ z.1 = M + psm ps ps.length ∧ AllG ps ps.length) ps.length (m0, ok0, (0 : Int)) ⟨rfl, fun h => ⟨h, by simp only [psm]; rw [hM h]; omega, fun j hj => absurd hj (by omega)⟩⟩ ?_ ?_ (by omega)
 ·rintro k hk ⟨m, ok, _⟩ ⟨rfl, h⟩
  simp only at h
  obtain ⟨v, ev⟩ := prod_any (dm ps k) (by have := hd k hk; omega)
  have ev2 : f136 (rd (Ty.z (.sl (.int .i64))) ps (k : Int)) = some v := ev
  have eg : f99 (rd (Ty.z (.sl (.int .i64))) ps (k : Int)) = some (decide (prd (dm ps k) > 0)) := shapeGood_ok (dm ps k)
  cases ok
  ·refine ⟨(IntKind.i64.wrap (m + v), false, ((k + 1 : Nat) : Int)), fun go => ?_, rfl, fun h => absurd h Bool.false_ne_true⟩
   unfold f135_l4
   simp only
   rw [dT (by omega), cond_true, guardF_pos (by omega), ev2, bindF_some, cond_false, wsucc k (by omega)]
  ·refine ⟨(IntKind.i64.wrap (m + v), decide (prd (dm ps k) > 0), ((k + 1 : Nat) : Int)), fun go => ?_, rfl, fun hg => ?_⟩
   ·unfold f135_l4
    simp only
    rw [dT (by omega), cond_true, guardF_pos (by omega), ev2, bindF_some, cond_true, eg, bindF_some, wsucc k (by omega)]
   ·have hp : prd (dm ps k) > 0 := of_decide_eq_true hg
    obtain ⟨a, b, c⟩ := h rfl
    have e1 := prod_ok (d := dm ps k) hp
    rw [ev] at e1
    injection e1 with e1
    have r1 := psm_range ps k
    have r2 := prd_range (dm ps k)
    refine ⟨a, ?_, fun j hj => ?_⟩
    ·simp only [psm]
     rw [wrap_i64 (by omega) (by omega)]; omega
    ·by_cases e : j = k
     ·subst e; exact hp
     ·exact c j (by omega)
 ·rintro ⟨m, ok, _⟩ ⟨rfl, h⟩
  refine ⟨(m, ok), fun go => ?_, h⟩
  unfold f135_l4
  simp only
  rw [dF (by omega), cond_false]
def NS (n : Nt) (d : List (List Int)) : Prop := ∀ i, i < n.2.length → AllG (pls (ly n i) (dm d i)) (pls (ly n i) (dm d i)).length
theorem pls_dim (l : Lay) (d : List Int) (j : Nat) (hj : j < (pls l d).length) : (dm (pls l d) j).length ≤ 3 := by
 unfold pls at hj ⊢
 cases h1 : kd bDense l
 ·rw [h1] at hj
  cases h2 : kd bConv l
  ·rw [h2] at hj; exact absurd hj (Nat.not_lt_zero _)
  ·rw [h2] at hj
   obtain rfl : j = 0 := Nat.lt_one_iff.1 hj
   exact Nat.le_refl 3
 ·rw [h1] at hj
  have hj' : j < 2 := hj
  match j, hj' with
  | 0, _ => exact Nat.le_succ 2
  | 1, _ => exact Nat.le_succ_of_le (Nat.le_succ 1)
theorem sumW (n : Nt) (d : List (List Int)) (h6 : n.2.length ≤ 6) (W : WK n n.2.length d) : ∃ m ok, f135 n d = some (m, ok) ∧ (ok = true → m = tsm n d n.2.length ∧ m ≤ 4096 ∧ NS n d) := by
 have hl := W.kL
 unfold f135
 rw [dT (show (List.length n.2 : Int) ≤ 16 by omega)]
 have LL := loop_rel (B := fun go (x : Int × Bool × Int) => f135_l3 n d go x.1 x.2.1 x.2.2) (fun k x => x.2.2 = (k : Int) ∧ (x.2.1 = true → x.1 = tsm n d k ∧ ∀ i, i < k → AllG (pls (ly n i) (dm d i)) (pls (ly n i) (dm d i)).length))
  (fun z => z.2 = true → z.1 = tsm n d n.2.length ∧ NS n d) n.2.length ((0 : Int), true, (0 : Int)) ⟨rfl, fun _ => ⟨rfl, fun j hj => absurd hj (by omega)⟩⟩ ?_ ?_ (by omega)
 ·obtain ⟨z, ez, hz⟩ := LL
  rw [ez, bindF_some]
  cases h : z.2
  ·exact ⟨_, _, rfl, fun hh => absurd hh (by decide)⟩
  ·obtain ⟨a, b⟩ := hz h
   rw [cond_true, shapeGood_ok, bindF_some]
   cases decide (prd n.1 > 0)
   ·exact ⟨_, _, rfl, fun hh => absurd hh (by decide)⟩
   ·rw [cond_true]
    exact ⟨_, _, rfl, fun hh => ⟨a, of_decide_eq_true hh, b⟩⟩
 ·rintro k hk ⟨m, ok, _⟩ ⟨rfl, h⟩
  simp only at h
  have ep := pls_ok (ly n k) (dm d k) (W.kD k (by omega)) (W.kC k hk)
  have ep2 : f188 ((rd (Ty.z (.p .str (.p (.int .i64) (.int .i64)))) n.2 (k : Int)).1, ((rd (Ty.z (.p .str (.p (.int .i64) (.int .i64)))) n.2 (k : Int)).2).1, ((rd (Ty.z (.p .str (.p (.int .i64) (.int .i64)))) n.2 (k : Int)).2).2) (rd (Ty.z (.sl (.int .i64))) d (k : Int)) = some (pls (ly n k) (dm d k)) := ep
  have r := tsm_range n d k
  obtain ⟨z, ez, hz⟩ := sum_in (pls (ly n k) (dm d k)) (pls_len _ _) (pls_dim _ _) m (tsm n d k) ok (fun hh => (h hh).1) (by omega)
  have eg : f99 (rd (Ty.z (.sl (.int .i64))) d (k : Int)) = some (decide (prd (dm d k) > 0)) := shapeGood_ok (dm d k)
  have start : ∀ go, f135_l3 n d go m ok (k : Int) = bif z.2 then (bif decide (prd (dm d k) > 0) then go (z.1, decide (prd (dm d (k + 1)) > 0), ((k + 1 : Nat) : Int)) else go (z.1, false, ((k + 1 : Nat) : Int))) else go (z.1, false, ((k + 1 : Nat) : Int)) := fun go => by
   have eg2 : f99 (rd (Ty.z (.sl (.int .i64))) d ((k + 1 : Nat) : Int)) = some (decide (prd (dm d (k + 1)) > 0)) := shapeGood_ok (dm d (k + 1))
   unfold f135_l3
   rw [dT (by omega), cond_true, guardF_pos (by omega), guardF_pos (by omega), ep2, bindF_some, ez, bindF_some, wsucc k (by omega), eg, bindF_some, guardF_pos (by omega), guardF_pos (by omega), eg2, bindF_some]
  cases hb : z.2
  ·refine ⟨(z.1, false, ((k + 1 : Nat) : Int)), fun go => ?_, rfl, fun h => absurd h Bool.false_ne_true⟩
   simp only
   rw [start, hb, cond_false]
  ·obtain ⟨a, b, c⟩ := hz hb
   obtain ⟨h1, h2⟩ := h a
   cases hg : decide (prd (dm d k) > 0)
   ·refine ⟨(z.1, false, ((k + 1 : Nat) : Int)), fun go => ?_, rfl, fun h => absurd h Bool.false_ne_true⟩
    simp only
    rw [start, hb, cond_true, hg, cond_false]
   ·refine ⟨(z.1, decide (prd (dm d (k + 1)) > 0), ((k + 1 : Nat) : Int)), fun go => ?_, rfl, fun _ => ⟨b, fun i hi => ?_⟩⟩
    ·simp only
     rw [start, hb, cond_true, hg, cond_true]
    ·by_cases e : i = k
     ·subst e; exact c
     ·exact h2 i (by omega)
 ·rintro ⟨m, ok, _⟩ ⟨rfl, h⟩
  refine ⟨(m, ok), fun go => ?_, h⟩
  unfold f135_l3
  simp only
  rw [dF (by omega), cond_false]
structure Net1 (n : Nt) (d : List (List Int)) : Prop where
 t6 : n.2.length ≤ 6
 tI : n.1.length ≤ 2
 tW : WK n n.2.length d
 tS : NS n d
 tM : tsm n d n.2.length ≤ 4096
 tSum : f135 n d = some (tsm n d n.2.length, true)
theorem shapesW (n : Nt) (h6 : n.2.length ≤ 6) : ∃ e d, f134 n = some (e, d) ∧ (e = 0 → Net1 n d) := by
 unfold f134
 obtain ⟨b, eb, hb⟩ := ngood n h6
 have eb2 : f186 (n.1, n.2) = some b := eb
 rw [eb2, bindF_some]
 cases b
 ·exact ⟨_, _, rfl, fun h => absurd h (by decide)⟩
 ·rw [Bool.not_true, cond_false]
  obtain ⟨c, d, ec, hc⟩ := walkW n (hb rfl) h6
  have ec2 : f187 (n.1, n.2) = some (c, d) := ec
  rw [ec2, bindF_some]
  cases c
  ·exact ⟨_, _, rfl, fun h => absurd h (by decide)⟩
  ·simp only [Bool.not_true, cond_false]
   obtain ⟨m, ok, es, hs⟩ := sumW n d h6 (hc rfl)
   have es2 : f135 (n.1, n.2) d = some (m, ok) := es
   rw [es2, bindF_some]
   cases ok
   ·exact ⟨_, _, rfl, fun h => absurd h (by decide)⟩
   ·obtain ⟨s1, s2, s3⟩ := hs rfl
    exact ⟨_, _, rfl, fun _ => ⟨h6, (hb rfl).gI.2, hc rfl, s3, by omega, by rw [es, s1]⟩⟩
theorem paramsW (n : Nt) (h6 : n.2.length ≤ 6) : (∃ e, e ≠ 0 ∧ f83 n = some (0, e) ∧ ∃ d, f134 n = some (e, d)) ∨ ∃ d, Net1 n d ∧ f83 n = some (tsm n d n.2.length, 0) ∧ f134 n = some (0, d) := by
 obtain ⟨e, d, es, hs⟩ := shapesW n h6
 have es2 : f134 (n.1, n.2) = some (e, d) := es
 unfold f83
 rw [es2, bindF_some]
 by_cases h : e = 0
 ·subst h
  have N := hs rfl
  have e3 : f135 (n.1, n.2) d = some (tsm n d n.2.length, true) := N.tSum
  rw [nF rfl, cond_false, e3]
  exact .inr ⟨d, N, rfl, rfl⟩
 ·rw [nT h]; exact .inl ⟨e, h, rfl, d, rfl⟩
end Go.Proofs.Cv
namespace Go.Proofs.Cv
open Go.AM Go.Proofs.PlB Go.Proofs.PlW Go.Proofs.PlT Go.Proofs.PlS Go.Proofs.Sh Go.Proofs.Num Go.Proofs.Div Go.Proofs.Op
open Go.Proofs.PlR hiding Tn
def lsum (t : List Nd) : List Int → Int
 | [] => 0
 | x :: r => prd (nd t x.toNat).1 + lsum t r
def InT (t : List Nd) (ls : List Int) : Prop := ∀ x ∈ ls, 0 ≤ x ∧ x < t.length
theorem lsum_app (t : List Nd) : ∀ a b : List Int, lsum t (a ++ b) = lsum t a + lsum t b
 | [], b => by simp [lsum]
 | x :: a, b => by simp only [List.cons_append, lsum]; rw [lsum_app t a b]; omega
theorem lsum_ext (t s : List Nd) : ∀ ls : List Int, InT t ls → lsum (t ++ s) ls = lsum t ls
 | [], _ => rfl
 | x :: r, h => by
  have h1 := h x (by simp)
  simp only [lsum]
  rw [lsum_ext t s r (fun y hy => h y (List.mem_cons_of_mem _ hy)), nd_app _ _ _ (by omega)]
theorem inT_ext {t : List Nd} {ls : List Int} (h : InT t ls) (s : List Nd) : InT (t ++ s) ls := fun x hx => by
 have := h x hx
 rw [List.length_append]; omega
structure RI (P : Int) (e : Int) (p leafs : List Int) (t : List Nd) : Prop where
 rT : TW t
 rP : inI p
 rL : e = 0 → InT t leafs ∧ lsum t leafs + p.length = P
theorem inI_take {l : List Int} (h : inI l) (k : Nat) : inI (l.take k) := fun x hx => h x (List.mem_of_mem_take hx)
theorem inI_drop {l : List Int} (h : inI l) (k : Nat) : inI (l.drop k) := fun x hx => h x (List.mem_of_mem_drop hx)
theorem ri_ext {P e : Int} {p leafs : List Int} {t m : List Nd} {i e' : Int} (R : RI P 0 p leafs t) (N : Nx t m i e') : RI P e' p leafs m := by
 refine ⟨N.xT, R.rP, fun h => ?_⟩
 obtain ⟨a, b⟩ := R.rL rfl
 obtain ⟨_, n, hn⟩ := N.xO h
 rw [hn]
 exact ⟨inT_ext a _, by rw [lsum_ext _ _ _ a]; exact b⟩
def RGo (P : Int) (p leafs : List Int) (q : Option (Int × Int × List Int × List Int × List Nd)) : Prop := ∃ i e t, q = some (i, e, p, leafs, t) ∧ RI P e p leafs t
theorem r_doW {P e : Int} {p leafs : List Int} {t : List Nd} (R : RI P e p leafs t) (op a b k : Int) (ho : NOp op) : RGo P p leafs (f190 t e p leafs op a b k) := by
 unfold f190
 by_cases h : e = 0
 ·subst h
  rw [nF rfl, cond_false]
  obtain ⟨i, e', m, q, N⟩ := doW R.rT op a b k ho
  rw [q]; exact ⟨_, _, _, rfl, ri_ext (e := 0) R N⟩
 ·rw [nT h]; exact ⟨_, _, _, rfl, R⟩
theorem r_one {P e : Int} {p leafs : List Int} {t : List Nd} (R : RI P e p leafs t) (d : List Int) (hd : 0 < prd d) (hp : prd d ≤ p.length) :
  ∃ i e' t', f137 t e p leafs d (p.take (prd d).toNat) = some (i, e', p, leafs, t') ∧ RI P e' (p.drop (prd d).toNat) (leafs ++ [i]) t' := by
 unfold f137
 by_cases h : e = 0
 ·subst h
  rw [nF rfl, cond_false]
  obtain ⟨i, e', m, q, N, hl⟩ := leafW R.rT (d, p.take (prd d).toNat) (inI_take R.rP _)
  rw [q]
  refine ⟨_, _, _, rfl, N.xT, inI_drop R.rP _, fun h => ?_⟩
  obtain ⟨a, b⟩ := R.rL rfl
  obtain ⟨hi, _⟩ := N.xO h
  obtain ⟨hm, _⟩ := hl h
  rw [hm, hi]
  refine ⟨fun x hx => ?_, ?_⟩
  ·rcases List.mem_append.1 hx with hx | hx
   ·exact inT_ext a _ x hx
   ·rw [List.mem_singleton.1 hx, List.length_append]; simp; omega
  ·rw [lsum_app, lsum_ext _ _ _ a]
   simp only [lsum, Int.toNat_natCast]
   rw [nd_last, List.length_drop]
   simp only
   omega
 ·rw [nT h]; exact ⟨_, _, _, rfl, R.rT, inI_drop R.rP _, fun hh => absurd hh h⟩
theorem psm_mono {ps : List (List Int)} : ∀ (r k : Nat), psm ps k ≤ psm ps (k + r)
 | 0, k => Int.le_refl _
 | r + 1, k => by
  have := psm_mono (ps := ps) r k
  have := prd_range (dm ps (k + r))
  show psm ps k ≤ psm ps (k + r) + prd (dm ps (k + r))
  omega
theorem r_params {P e : Int} {p leafs : List Int} {t : List Nd} (R : RI P e p leafs t) (ps : List (List Int)) (hl : ps.length ≤ 2) (hg : AllG ps ps.length) (hp : psm ps ps.length ≤ p.length) (hll : leafs.length ≤ 100) :
  ∃ f la e' p' leafs' t', f189 t e p leafs ps = some (f, la, e', p', leafs', t') ∧ RI P e' p' leafs' t' ∧ (p'.length : Int) = p.length - psm ps ps.length ∧ leafs'.length = leafs.length + ps.length := by
 unfold f189
 have LL := loop_rel (B := fun go (x : Int × Int × Int × Int × List Int × List Int × List Nd) => f189_l3 ps go x.1 x.2.1 x.2.2.1 x.2.2.2.1 x.2.2.2.2.1 x.2.2.2.2.2.1 x.2.2.2.2.2.2)
  (fun k x => x.2.2.1 = (k : Int) ∧ RI P x.2.2.2.1 x.2.2.2.2.1 x.2.2.2.2.2.1 x.2.2.2.2.2.2 ∧ (x.2.2.2.2.1.length : Int) = p.length - psm ps k ∧ x.2.2.2.2.2.1.length = leafs.length + k)
  (fun z => RI P z.2.2.1 z.2.2.2.1 z.2.2.2.2.1 z.2.2.2.2.2 ∧ (z.2.2.2.1.length : Int) = p.length - psm ps ps.length ∧ z.2.2.2.2.1.length = leafs.length + ps.length) ps.length ((0 : Int), (0 : Int), (0 : Int), e, p, leafs, t) ⟨rfl, R, by simp only [psm]; omega, rfl⟩ ?_ ?_ (by omega)
 ·obtain ⟨z, ez, hz⟩ := LL
  rw [ez]
  obtain ⟨h1, h2, h3⟩ := hz
  exact ⟨_, _, _, _, _, _, rfl, h1, h2, h3⟩
 ·rintro k hk ⟨f, la, _, e1, p1, l1, t1⟩ ⟨rfl, R1, hp1, hl1⟩
  simp only at R1 hp1 hl1
  have hd := hg k hk
  obtain ⟨r, hr⟩ : ∃ r, ps.length = k + 1 + r := ⟨ps.length - (k + 1), by omega⟩
  have m1 := psm_mono (ps := ps) r (k + 1)
  rw [← hr] at m1
  simp only [psm] at m1
  have hpd : prd (dm ps k) ≤ p1.length := by omega
  obtain ⟨i, e2, t2, q2, R2⟩ := r_one R1 (dm ps k) hd hpd
  have ep : f136 (rd (Ty.z (.sl (.int .i64))) ps (k : Int)) = some (prd (dm ps k)) := prod_ok hd
  have q3 : f137 t1 e1 p1 l1 (rd (Ty.z (.sl (.int .i64))) ps (k : Int)) (p1.take (prd (dm ps k)).toNat) = _ := q2
  have ej : f189_j4 ps (k : Int) e1 p1 l1 t1 = some (i, e2, p1, l1, t2) := by
   unfold f189_j4
   rw [ep, bindF_some, guardF_pos ⟨by omega, hpd⟩, q3]; rfl
  have g3 : (List.length l1 + List.length [i]) * 8 ≤ 140737488355328 := by simp only [List.length_cons, List.length_nil]; omega
  have hlen : ((p1.drop (prd (dm ps k)).toNat).length : Int) = p.length - psm ps (k + 1) := by
   rw [List.length_drop]; simp only [psm]; omega
  have hlen2 : (l1 ++ [i]).length = leafs.length + (k + 1) := by rw [List.length_append]; simp; omega
  have start : ∀ go, f189_l3 ps go f la (k : Int) e1 p1 l1 t1 = bif ((k : Int) == (0 : Int)) then go (i, i, ((k + 1 : Nat) : Int), e2, p1.drop (prd (dm ps k)).toNat, l1 ++ [i], t2) else go (f, i, ((k + 1 : Nat) : Int), e2, p1.drop (prd (dm ps k)).toNat, l1 ++ [i], t2) := fun go => by
   unfold f189_l3
   rw [dT (by omega), cond_true, guardF_pos (by omega), ej, bindF_some, ep, bindF_some, guardF_pos ⟨by omega, hpd⟩, guardF_pos g3, wsucc k (by omega)]
  cases hk0 : ((k : Int) == (0 : Int))
  ·refine ⟨(f, i, ((k + 1 : Nat) : Int), e2, p1.drop (prd (dm ps k)).toNat, l1 ++ [i], t2), fun go => ?_, rfl, R2, hlen, hlen2⟩
   simp only
   rw [start, hk0, cond_false]
  ·refine ⟨(i, i, ((k + 1 : Nat) : Int), e2, p1.drop (prd (dm ps k)).toNat, l1 ++ [i], t2), fun go => ?_, rfl, R2, hlen, hlen2⟩
   simp only
   rw [start, hk0, cond_true]
 ·rintro ⟨f, la, _, e1, p1, l1, t1⟩ ⟨rfl, R1, hp1, hl1⟩
  refine ⟨(f, la, e1, p1, l1, t1), fun go => ?_, R1, hp1, hl1⟩
  unfold f189_l3
  simp only
  rw [dF (by omega), cond_false]
theorem r_layer {P e : Int} {p leafs : List Int} {t : List Nd} (R : RI P e p leafs t) (l : Lay) (d : List Int) (x ahead : Int) (hd : d.length ≤ 2) (hc : kd bConv l = true → d.length = 2) (hg : AllG (pls l d) (pls l d).length) (hp : psm (pls l d) (pls l d).length ≤ p.length) (hll : leafs.length ≤ 100) :
  ∃ i e' p' leafs' t', f138 t e p leafs l d x ahead = some (i, e', p', leafs', t') ∧ RI P e' p' leafs' t' ∧ (p'.length : Int) = p.length - psm (pls l d) (pls l d).length ∧ leafs'.length ≤ leafs.length + 2 := by
 have ep : f188 (l.1, l.2.1, l.2.2) d = some (pls l d) := pls_ok l d hd hc
 have h2 := pls_len l d
 obtain ⟨f, la, e1, p1, l1, t1, q1, R1, hp1, hl1⟩ := r_params R (pls l d) h2 hg hp hll
 have hl2 : l1.length ≤ leafs.length + 2 := by omega
 have fin : ∀ q, RGo P p1 l1 q → ∃ i e' p' leafs' t', (bindF q fun r9 => some (r9.1, r9.2.1, r9.2.2.1, r9.2.2.2.1, r9.2.2.2.2)) = some (i, e', p', leafs', t') ∧ RI P e' p' leafs' t' ∧ (p'.length : Int) = p.length - psm (pls l d) (pls l d).length ∧ leafs'.length ≤ leafs.length + 2 := by
  rintro _ ⟨i, e2, t2, rfl, R2⟩
  exact ⟨_, _, _, _, _, rfl, R2, hp1, hl2⟩
 unfold f138
 rw [ep, bindF_some, q1, bindF_some]
 simp only
 cases (ByteArray.toList l.1 == ByteArray.toList (ByteArray.mk #[100, 101, 110, 115, 101]))
 ·rw [cond_false]
  cases (ByteArray.toList l.1 == ByteArray.toList (ByteArray.mk #[99, 111, 110, 118]))
  ·rw [cond_false]
   cases (ByteArray.toList l.1 == ByteArray.toList (ByteArray.mk #[112, 111, 111, 108]))
   ·rw [cond_false]
    cases (ByteArray.toList l.1 == ByteArray.toList (ByteArray.mk #[98, 101, 110, 100]))
    ·exact fin _ (r_doW R1 2 ahead x 0 (by unfold NOp; omega))
    ·exact fin _ (r_doW R1 11 x 0 l.2.1 (by unfold NOp; omega))
   ·exact fin _ (r_doW R1 13 x 0 l.2.1 (by unfold NOp; omega))
  ·exact fin _ (r_doW R1 12 x f 1 (by unfold NOp; omega))
 ·rw [cond_true]
  have hj : ∃ i e2 t2, f138_j1 d x (f, la, e1, p1, l1, t1) = some (i, e2, p1, l1, t2) ∧ RI P e2 p1 l1 t2 := by
   unfold f138_j1
   cases ((List.length d : Int) == (2 : Int))
   ·exact ⟨_, _, _, rfl, R1⟩
   ·rw [cond_true]
    simp only
    obtain ⟨i, e2, t2, q, R2⟩ := r_doW R1 14 x 0 0 (by unfold NOp; omega)
    rw [q]; exact ⟨_, _, _, rfl, R2⟩
  obtain ⟨i2, e2, t2, q2, R2⟩ := hj
  rw [q2, bindF_some]
  simp only
  obtain ⟨i3, e3, t3, q3, R3⟩ := r_doW R2 4 f i2 0 (by unfold NOp; omega)
  rw [q3, bindF_some]
  simp only
  obtain ⟨i4, e4, t4, q4, R4⟩ := r_doW R3 8 i3 0 1 (by unfold NOp; omega)
  rw [q4, bindF_some]
  simp only
  exact fin _ (r_doW R4 2 i4 la 0 (by unfold NOp; omega))
theorem tsm_mono {n : Nt} {d : List (List Int)} : ∀ (r k : Nat), tsm n d k ≤ tsm n d (k + r)
 | 0, k => Int.le_refl _
 | r + 1, k => by
  have := tsm_mono (n := n) (d := d) r k
  have := psm_range (pls (ly n (k + r)) (dm d (k + r))) (pls (ly n (k + r)) (dm d (k + r))).length
  show tsm n d k ≤ tsm n d (k + r) + psm (pls (ly n (k + r)) (dm d (k + r))) (pls (ly n (k + r)) (dm d (k + r))).length
  omega
structure Ran (P : Int) (leafs : List Int) (m : List Nd) : Prop where
 aT : TW m
 aL : InT m leafs
 aS : lsum m leafs ≤ P
 aN : leafs.length ≤ 100
theorem runW (n : Nt) (d : List (List Int)) (N : Net1 n d) (hs : f134 n = some (0, d)) (p x : List Int) (ip : inI p) (ix : inI x) :
  ∃ i e leafs m, f80 [] n p x = some (i, e, leafs, m) ∧ (e = 0 → Ran (tsm n d n.2.length) leafs m) := by
 have h6 := N.t6
 have hkL := N.tW.kL
 unfold f80
 have hs2 : f134 (n.1, n.2) = some (0, d) := hs
 have e3 : f135 (n.1, n.2) d = some (tsm n d n.2.length, true) := N.tSum
 rw [hs2, bindF_some, nF rfl, cond_false]
 simp only
 rw [e3, bindF_some]
 have hj : (f80_j2 n p x (tsm n d n.2.length, true) = some (Sum.inl ()) ∧ (p.length : Int) = tsm n d n.2.length) ∨ f80_j2 n p x (tsm n d n.2.length, true) = some (Sum.inr ()) := by
  unfold f80_j2 f80_j3
  simp only
  by_cases h : (p.length : Int) = tsm n d n.2.length
  ·obtain ⟨v, ev⟩ := prod_any n.1 (by have := N.tI; omega)
   rw [nF h, cond_false, ev, bindF_some, bindF_some]
   cases ((List.length x : Int) != v)
   ·exact .inl ⟨rfl, h⟩
   ·exact .inr rfl
  ·rw [nT h]; exact .inr rfl
 rcases hj with ⟨ej, hp⟩ | ej
 ·rw [ej, bindF_some, sumF_inl]
  show ∃ i e leafs m, bindF (some ((List.length ([] : List Nd) : Int), ([] : List Nd))) _ = some (i, e, leafs, m) ∧ _
  rw [bindF_some]
  simp only
  have R0 : RI (tsm n d n.2.length) 0 p [] [] := ⟨tw_nil, ip, fun _ => ⟨fun y hy => absurd hy (by simp), by simp only [lsum]; omega⟩⟩
  have first : ∃ i e t, f137 [] 0 p [] n.1 x = some (i, e, p, [], t) ∧ RI (tsm n d n.2.length) e p [] t := by
   unfold f137
   rw [nF rfl, cond_false]
   obtain ⟨i, e', m, q, N1, _⟩ := leafW tw_nil (n.1, x) ix
   rw [q]; exact ⟨_, _, _, rfl, ri_ext (e := 0) R0 N1⟩
  obtain ⟨i1, e1, t1, q1, R1⟩ := first
  rw [q1, bindF_some]
  simp only
  have LL := loop_rel (B := fun go (x : Int × Int × Int × Int × List Int × List Nd × List Int) => f80_l4 n (0, d) go x.1 x.2.1 x.2.2.1 x.2.2.2.1 x.2.2.2.2.1 x.2.2.2.2.2.1 x.2.2.2.2.2.2)
   (fun k y => y.2.2.1 = (k : Int) ∧ RI (tsm n d n.2.length) y.2.2.2.1 y.2.2.2.2.1 y.2.2.2.2.2.2 y.2.2.2.2.2.1 ∧ (y.2.2.2.2.1.length : Int) = tsm n d n.2.length - tsm n d k ∧ y.2.2.2.2.2.2.length ≤ 2 * k)
   (fun z => RI (tsm n d n.2.length) z.2.1 z.2.2.1 z.2.2.2.2 z.2.2.2.1 ∧ z.2.2.2.2.length ≤ 100) n.2.length (i1, (0 : Int), (0 : Int), e1, p, t1, []) ⟨rfl, R1, by simp only [tsm]; omega, by simp⟩ ?_ ?_ (by omega)
  ·obtain ⟨z, ez, hz⟩ := LL
   rw [ez, bindF_some]
   obtain ⟨Rz, lz⟩ := hz
   by_cases he : z.2.1 = 0
   ·rw [nF he, cond_false]
    refine ⟨_, _, _, _, rfl, fun _ => ?_⟩
    obtain ⟨a, b⟩ := Rz.rL he
    exact ⟨Rz.rT, a, by omega, lz⟩
   ·obtain ⟨m', q⟩ := cut_any z.2.2.2.1 (List.length ([] : List Nd) : Int)
    rw [nT he, cond_true, q]
    exact ⟨_, _, _, _, rfl, fun h => absurd h he⟩
  ·rintro k hk ⟨at_, ah, _, e2, p2, t2, l2⟩ ⟨rfl, R2, hp2, hl2⟩
   simp only at R2 hp2 hl2
   obtain ⟨r, hr⟩ : ∃ r, n.2.length = k + 1 + r := ⟨n.2.length - (k + 1), by omega⟩
   have m1 := tsm_mono (n := n) (d := d) r (k + 1)
   rw [← hr] at m1
   simp only [tsm] at m1
   obtain ⟨i3, e3, p3, l3, t3, q3, R3, hp3, hl3⟩ := r_layer R2 (ly n k) (dm d k) at_ ah (N.tW.kD k (by omega)) (N.tW.kC k hk) (N.tS k hk) (by omega) (by omega)
   have q4 : f138 t2 e2 p2 l2 ((rd (Ty.z (.p .str (.p (.int .i64) (.int .i64)))) n.2 (k : Int)).1, ((rd (Ty.z (.p .str (.p (.int .i64) (.int .i64)))) n.2 (k : Int)).2).1, ((rd (Ty.z (.p .str (.p (.int .i64) (.int .i64)))) n.2 (k : Int)).2).2) (rd (Ty.z (.sl (.int .i64))) d (k : Int)) at_ ah = _ := q3
   refine ⟨(i3, at_, ((k + 1 : Nat) : Int), e3, p3, t3, l3), fun go => ?_, rfl, R3, ?_, by simp only; omega⟩
   ·unfold f80_l4
    simp only
    rw [dT (by omega), cond_true, guardF_pos (by omega), guardF_pos (by omega), q4, bindF_some, wsucc k (by omega)]
   ·simp only [tsm]; omega
  ·rintro ⟨at_, ah, _, e2, p2, t2, l2⟩ ⟨rfl, R2, hp2, hl2⟩
   refine ⟨(at_, e2, p2, t2, l2), fun go => ?_, R2, by simp only at hl2 ⊢; omega⟩
   unfold f80_l4
   simp only
   rw [dF (by omega), cond_false]
 ·rw [ej, bindF_some, sumF_inr]; exact ⟨_, _, _, _, rfl, fun h => absurd h (by decide)⟩
def OfOk (M : Int) (r : Int × Int × List Int) : Prop := r.2.1 = 0 → InR r.1 ∧ inI r.2.2 ∧ (r.2.2.length : Int) ≤ M
theorem ofW (n : Nt) (d : List (List Int)) (N : Net1 n d) (hs : f134 n = some (0, d)) (kind : Int) (p : List Int) (x : List Int × List Int × Int) (ip : inI p) (ix : inI x.1) (iy : inI x.2.1) :
  ∃ r, f33 n kind p x = some r ∧ OfOk (tsm n d n.2.length) r := by
 unfold f33 f33_j2 f33_j3
 have hk : ∃ b, (bif decide (kind < (1 : Int)) then some true else some (decide (kind > (3 : Int)))) = some b := by
  cases decide (kind < (1 : Int))
  ·exact ⟨_, rfl⟩
  ·exact ⟨_, rfl⟩
 obtain ⟨b, eb⟩ := hk
 rw [eb, bindF_some]
 cases b
 ·rw [cond_false, bindF_some, sumF_inl]
  show ∃ r, bindF (some ()) _ = some r ∧ _
  rw [bindF_some]
  obtain ⟨i, e, leafs, m, q, hr⟩ := runW n d N hs p x.1 ip ix
  have q2 : f80 [] (n.1, n.2) p x.1 = some (i, e, leafs, m) := q
  rw [q2, bindF_some]
  by_cases he : e = 0
  ·obtain ⟨aT, aL, aS, aN⟩ := hr he
   rw [nF he, cond_false]
   simp only
   obtain ⟨root, e2, m2, q3, hf⟩ := farW aT kind i x iy
   have q4 : f81 m kind i (x.1, x.2.1, x.2.2) = some (root, e2, m2) := q3
   rw [q4, bindF_some]
   by_cases he2 : e2 = 0
   ·obtain ⟨oT, ⟨s, hs2⟩, oI⟩ := hf he2
    obtain ⟨hroot, hlen⟩ := oI rfl
    obtain ⟨k, rfl⟩ := Int.eq_ofNat_of_zero_le (show 0 ≤ root by omega)
    have hk : k < m2.length := by omega
    rw [nF he2, cond_false]
    simp only
    obtain ⟨e5, ls, q5, h5⟩ := sweepW oT k hk
    rw [q5, bindF_some]
    by_cases he5 : e5 = 0
    ·obtain ⟨w1, w2, w3⟩ := h5 he5
     rw [nF he5, cond_false]
     have hM : tsm n d n.2.length ≤ 4096 := N.tM
     have aL2 : InT m2 leafs := by rw [hs2]; exact inT_ext aL s
     have aS2 : lsum m2 leafs ≤ tsm n d n.2.length := by rw [hs2, lsum_ext _ _ _ aL]; exact aS
     have aM : ∀ y ∈ leafs, y < m.length := fun y hy => (aL y hy).2
     have split : ∀ j : Nat, j ≤ leafs.length → lsum m2 (leafs.take j) + lsum m2 (leafs.drop j) = lsum m2 leafs := fun j _ => by rw [← lsum_app, List.take_append_drop]
     have nonneg : ∀ l : List Int, 0 ≤ lsum m2 l := fun l => by
      induction l with
      | nil => exact Int.le_refl _
      | cons y r ih => have := prd_range (nd m2 y.toNat).1; simp only [lsum]; omega
     have LL := loop_rel (B := fun go (y : Int × List Int) => f33_l4 (i, e, leafs, m) (e5, ls, m2) go y.1 y.2)
      (fun j y => y.1 = (j : Int) ∧ inI y.2 ∧ (y.2.length : Int) = lsum m2 (leafs.take j)) (fun z => inI z ∧ (z.length : Int) = lsum m2 leafs) leafs.length ((0 : Int), []) ⟨rfl, inI_nil, rfl⟩ ?_ ?_ (by omega)
     ·obtain ⟨z, ez, hz1, hz2⟩ := LL
      rw [ez, bindF_some]
      simp only
      have gr := oT.tG k hk
      obtain ⟨gp, gl, _, _⟩ := good_len gr.1
      rw [valueP m2 (k : Int) oT.tG, bindF_some, vl_nat m2 k hk]
      simp only
      rw [guardF_pos (by omega)]
      exact ⟨_, rfl, fun _ => ⟨inI_rd gr.2 0 (by omega), hz1, by simp only; omega⟩⟩
     ·rintro j hj ⟨_, l2⟩ ⟨rfl, il, hl⟩
      simp only at il hl
      have hmem : leafs[j] ∈ leafs := List.getElem_mem hj
      have hb := aL2 _ hmem
      have hb2 := aM _ hmem
      obtain ⟨y, hy⟩ := Int.eq_ofNat_of_zero_le hb.1
      have er : rd (0 : Int) leafs (j : Int) = (y : Int) := by rw [rd_nat _ _ _ hj]; exact hy
      have hyk : y ≤ k := by omega
      have e6 := w2 y hyk
      have sp := split (j + 1) (by omega)
      rw [List.take_succ_eq_append_getElem hj, lsum_app] at sp
      simp only [lsum] at sp
      rw [hy, Int.toNat_natCast] at sp
      have nn := nonneg (leafs.drop (j + 1))
      have g3 : (List.length l2 + List.length ((rd (Ty.z (.p (.sl (.int .i64)) (.sl (.int .i64)))) ls (y : Int)).2)) * 8 ≤ 140737488355328 := by
       have e7 : (((rd (Ty.z (.p (.sl (.int .i64)) (.sl (.int .i64)))) ls (y : Int)).2.length : Nat) : Int) = prd (nd m2 y).1 := e6
       omega
      refine ⟨(((j + 1 : Nat) : Int), l2 ++ (rd Z2 ls (y : Int)).2), fun go => ?_, rfl, fun v hv => ?_, ?_⟩
      ·unfold f33_l4
       simp only
       rw [dT (by omega), cond_true, guardF_pos (by omega), er, guardF_pos (by omega), guardF_pos g3, wsucc j (by omega)]
      ·rcases List.mem_append.1 hv with hv | hv
       ·exact il v hv
       ·exact w3 y hyk v hv
      ·simp only
       rw [List.length_append, List.take_succ_eq_append_getElem hj, lsum_app]
       simp only [lsum]
       rw [hy, Int.toNat_natCast]
       omega
     ·rintro ⟨_, l2⟩ ⟨rfl, il, hl⟩
      rw [List.take_length] at hl
      refine ⟨l2, fun go => ?_, il, hl⟩
      unfold f33_l4
      simp only
      rw [dF (by omega), cond_false]
    ·rw [nT he5, cond_true]; exact ⟨_, rfl, fun h => absurd h he5⟩
   ·rw [nT he2, cond_true]; exact ⟨_, rfl, fun h => absurd h he2⟩
  ·rw [nT he, cond_true]; exact ⟨_, rfl, fun h => absurd h he⟩
 ·rw [cond_true, bindF_some, sumF_inr]; exact ⟨_, rfl, fun h => absurd h (by decide)⟩
end Go.Proofs.Cv
namespace Go.Proofs.Cv
open Go.AM Go.Proofs.PlB Go.Proofs.PlW Go.Proofs.PlT Go.Proofs.PlS Go.Proofs.Sh Go.Proofs.Num Go.Proofs.Div Go.Proofs.Op
open Go.Proofs.PlR hiding Tn
open Go.Proofs.PlV (pair far)
abbrev Exm := List Int × List Int × Int
abbrev zEx : Exm := Ty.z (.p (.sl (.int .i64)) (.p (.sl (.int .i64)) (.int .i64)))
abbrev zW : Int × Int := Ty.z (.p (.int .i64) (.int .u64))
def ExOk (x : Exm) : Prop := inI x.1 ∧ inI x.2.1
section
variable (n : Nt) (kind : Int) (p : List Int)
def gx (x : Exm) : Int × Int × List Int := (f33 n kind p x).getD (0, 1, [])
def gv (x : Exm) : Int := if (gx n kind p x).2.1 = 0 then (gx n kind p x).1 else 0
def gg (x : Exm) : List Int := if (gx n kind p x).2.1 = 0 then (gx n kind p x).2.2 else []
def er : List Exm → Int
 | [] => 0
 | x :: r => if (gx n kind p x).2.1 = 0 then er r else (gx n kind p x).2.1
def lS : List Exm → Int
 | [] => 0
 | x :: r => gv n kind p x + lS r
def gS (j : Nat) : List Exm → Int
 | [] => 0
 | x :: r => rd (0 : Int) (gg n kind p x) (j : Int) + gS j r
theorem er_c0 {x : Exm} (r : List Exm) (h : (gx n kind p x).2.1 = 0) : er n kind p (x :: r) = er n kind p r := if_pos h
theorem er_c1 {x : Exm} (r : List Exm) (h : ¬ (gx n kind p x).2.1 = 0) : er n kind p (x :: r) = (gx n kind p x).2.1 := if_neg h
theorem lS_app : ∀ a b : List Exm, lS n kind p (a ++ b) = lS n kind p a + lS n kind p b
 | [], b => by simp [lS]
 | x :: a, b => by simp only [List.cons_append, lS]; rw [lS_app a b]; omega
theorem gS_app (j : Nat) : ∀ a b : List Exm, gS n kind p j (a ++ b) = gS n kind p j a + gS n kind p j b
 | [], b => by simp [gS]
 | x :: a, b => by simp only [List.cons_append, gS]; rw [gS_app j a b]; omega
theorem er_zero : ∀ a : List Exm, er n kind p a = 0 ↔ ∀ x ∈ a, (gx n kind p x).2.1 = 0
 | [] => by simp [er]
 | x :: a => by
  simp only [er, List.mem_cons, forall_eq_or_imp]
  by_cases h : (gx n kind p x).2.1 = 0
  ·rw [if_pos h, er_zero a]; exact ⟨fun hh => ⟨h, hh⟩, fun hh => hh.2⟩
  ·rw [if_neg h]; exact ⟨fun hh => absurd hh h, fun hh => absurd hh.1 h⟩
end
theorem rd_in {l : List Int} (h : inI l) (j : Nat) : InR (rd (0 : Int) l (j : Int)) := by
 by_cases hj : j < l.length
 ·exact inI_rd h j hj
 ·rw [show rd (0 : Int) l (j : Int) = 0 by simp [rd, List.getD, hj]]; decide
theorem rd_out (l : List Int) (j : Nat) (hj : l.length ≤ j) : rd (0 : Int) l (j : Int) = 0 := by
 simp [rd, List.getD, show ¬ j < l.length by omega]
structure Can (n : Nt) (d : List (List Int)) (kind : Int) (p : List Int) : Prop where
 cN : Net1 n d
 cS : f134 n = some (0, d)
 cP : inI p
section
variable {n : Nt} {d : List (List Int)} {kind : Int} {p : List Int} (C : Can n d kind p)
include C
theorem gx_ok (x : Exm) (hx : ExOk x) : f33 n kind p x = some (gx n kind p x) ∧ InR (gv n kind p x) ∧ inI (gg n kind p x) ∧ ((gg n kind p x).length : Int) ≤ tsm n d n.2.length := by
 obtain ⟨r, e, h⟩ := ofW n d C.cN C.cS kind p x C.cP hx.1 hx.2
 have eg : gx n kind p x = r := by unfold gx; rw [e]; rfl
 unfold gv gg
 rw [eg]
 have := (tsm_range n d n.2.length).1
 by_cases h0 : r.2.1 = 0
 ·rw [if_pos h0, if_pos h0]
  obtain ⟨a, b, c⟩ := h h0
  exact ⟨e, a, b, c⟩
 ·rw [if_neg h0, if_neg h0]; exact ⟨e, by decide, inI_nil, by simp only [List.length_nil]; omega⟩
theorem lS_in : ∀ l : List Exm, (∀ x ∈ l, ExOk x) → -(l.length * 9223372036854775808) ≤ lS n kind p l ∧ lS n kind p l ≤ l.length * 9223372036854775808
 | [], _ => by simp [lS]
 | x :: r, h => by
  have := lS_in r (fun y hy => h y (List.mem_cons_of_mem _ hy))
  obtain ⟨_, a, _⟩ := gx_ok C x (h x (by simp))
  unfold InR at a
  simp only [lS, List.length_cons]
  omega
theorem gS_in (j : Nat) : ∀ l : List Exm, (∀ x ∈ l, ExOk x) → -(l.length * 9223372036854775808) ≤ gS n kind p j l ∧ gS n kind p j l ≤ l.length * 9223372036854775808
 | [], _ => by simp [gS]
 | x :: r, h => by
  have := gS_in j r (fun y hy => h y (List.mem_cons_of_mem _ hy))
  obtain ⟨_, _, a, _⟩ := gx_ok C x (h x (by simp))
  have a := rd_in a j
  unfold InR at a
  simp only [gS, List.length_cons]
  omega
theorem far_l (l : List Exm) (h : ∀ x ∈ l, ExOk x) (hl : l.length ≤ 12) : far (lS n kind p l) := by
 have := lS_in C l h
 unfold far; omega
theorem far_g (j : Nat) (l : List Exm) (h : ∀ x ∈ l, ExOk x) (hl : l.length ≤ 12) : far (gS n kind p j l) := by
 have := gS_in C j l h
 unfold far; omega
def tabG (n : Nt) (d : List (List Int)) (kind : Int) (p : List Int) (l : List Exm) : List (Int × Int) := tabL (tsm n d n.2.length).toNat (fun j => pair (gS n kind p j l))
theorem sum_row (l : List Exm) (x : Exm) (h : ∀ y ∈ l ++ [x], ExOk y) (hl : l.length ≤ 11) (e0 : (gx n kind p x).2.1 = 0) :
  loopF (fun go (y : Int × List (Int × Int)) => f38_l4 (gx n kind p x) go y.1 y.2) fuelN ((0 : Int), tabG n d kind p l) = some (tabG n d kind p (l ++ [x])) := by
 obtain ⟨_, _, ig, hM⟩ := gx_ok C x (h x (by simp))
 have eg : gg n kind p x = (gx n kind p x).2.2 := by unfold gg; rw [if_pos e0]
 have ag : ∀ j, gS n kind p j (l ++ [x]) = gS n kind p j l + rd (0 : Int) (gg n kind p x) (j : Int) := fun j => by rw [gS_app]; simp only [gS]; omega
 have hM2 := (tsm_range n d n.2.length).1
 have hM3 := C.cN.tM
 have L := loop_for (B := fun go (y : Int × List (Int × Int)) => f38_l4 (gx n kind p x) go y.1 y.2)
  (fun k => ((k : Int), tabL (tsm n d n.2.length).toNat (fun j => if j < k then pair (gS n kind p j (l ++ [x])) else pair (gS n kind p j l)))) (gg n kind p x).length (tabG n d kind p (l ++ [x])) ?_ ?_ (by omega)
 ·have e1 : tabG n d kind p l = tabL (tsm n d n.2.length).toNat (fun j => if j < 0 then pair (gS n kind p j (l ++ [x])) else pair (gS n kind p j l)) := tab_ext _ _ _ (fun j hj => by rw [if_neg (by omega)])
  rw [e1]; exact L
 ·intro k hk go
  have r1 := rd_in ig k
  have f1 := far_g C k l (fun y hy => h y (List.mem_append_left _ hy)) (by omega)
  have f2 := far_g C k (l ++ [x]) h (by rw [List.length_append]; simp; omega)
  unfold f38_l4
  simp only [tab_len]
  rw [← eg, dT (by omega), cond_true, guardF_pos (by omega), guardF_pos (by omega)]
  have er2 : rd zW (tabL (tsm n d n.2.length).toNat (fun j => if j < k then pair (gS n kind p j (l ++ [x])) else pair (gS n kind p j l))) (k : Int) = pair (gS n kind p k l) := by
   rw [rd_tab _ _ _ _ (by omega), if_neg (by omega)]
  rw [PlV.of_ok _ r1.1 r1.2, bindF_some]
  have ea : f42 ((rd zW (tabL (tsm n d n.2.length).toNat (fun j => if j < k then pair (gS n kind p j (l ++ [x])) else pair (gS n kind p j l))) (k : Int)).1, (rd zW (tabL (tsm n d n.2.length).toNat (fun j => if j < k then pair (gS n kind p j (l ++ [x])) else pair (gS n kind p j l))) (k : Int)).2) ((pair (rd (0 : Int) (gg n kind p x) (k : Int))).1, (pair (rd (0 : Int) (gg n kind p x) (k : Int))).2) = some (pair (gS n kind p k (l ++ [x]))) := by
   rw [er2, ag k]
   have := PlV.add_w (gS n kind p k l) (rd (0 : Int) (gg n kind p x) (k : Int)) f1 (by unfold far; unfold InR at r1; omega) (by rw [← ag k]; exact f2)
   exact this
  have ea2 : f42 ((rd (Ty.z (.p (.int .i64) (.int .u64))) (tabL (tsm n d n.2.length).toNat (fun j => if j < k then pair (gS n kind p j (l ++ [x])) else pair (gS n kind p j l))) (k : Int)).1, (rd (Ty.z (.p (.int .i64) (.int .u64))) (tabL (tsm n d n.2.length).toNat (fun j => if j < k then pair (gS n kind p j (l ++ [x])) else pair (gS n kind p j l))) (k : Int)).2) ((pair (rd (0 : Int) (gg n kind p x) (k : Int))).1, (pair (rd (0 : Int) (gg n kind p x) (k : Int))).2) = some (pair (gS n kind p k (l ++ [x]))) := ea
  rw [ea2, bindF_some, guardF_pos (by omega), wsucc k (by omega), Int.toNat_natCast]
  have es : List.set (tabL (tsm n d n.2.length).toNat (fun j => if j < k then pair (gS n kind p j (l ++ [x])) else pair (gS n kind p j l))) k ((pair (gS n kind p k (l ++ [x]))).1, (pair (gS n kind p k (l ++ [x]))).2) = tabL (tsm n d n.2.length).toNat (fun j => if j < k + 1 then pair (gS n kind p j (l ++ [x])) else pair (gS n kind p j l)) := by
   rw [tab_set]
   refine tab_ext _ _ _ (fun j hj => ?_)
   by_cases e : j = k
   ·rw [if_pos e, if_pos (by omega), e]
   ·rw [if_neg e]
    by_cases e2 : j < k
    ·rw [if_pos e2, if_pos (by omega)]
    ·rw [if_neg e2, if_neg (by omega)]
  rw [es]
 ·intro go
  unfold f38_l4
  simp only [tab_len]
  rw [← eg, dF (by omega), cond_false]
  congr 1
  refine tab_ext _ _ _ (fun j hj => ?_)
  by_cases e : j < (gg n kind p x).length
  ·rw [if_pos e]
  ·rw [if_neg e, ag j, rd_out _ _ (by omega), Int.add_zero]
theorem sum_loop (l : List Exm) (h : ∀ y ∈ l, ExOk y) (hl : l.length ≤ 12) : ∀ (r m k : Nat), k + r = l.length → r < m →
  loopF (fun go (x : Int × List (Int × Int) × Int × Int) => f38_l3 n kind p l go x.1 x.2.1 x.2.2.1 x.2.2.2) m ((k : Int), tabG n d kind p (l.take k), (pair (lS n kind p (l.take k))).1, (pair (lS n kind p (l.take k))).2) =
   some (if er n kind p (l.drop k) = 0 then Sum.inr (tabG n d kind p l, (pair (lS n kind p l)).1, (pair (lS n kind p l)).2) else Sum.inl (er n kind p (l.drop k)))
 | 0, 0, k, h1, h2 => absurd h2 (by omega)
 | 0, m + 1, k, h1, h2 => by
  obtain rfl : k = l.length := by omega
  rw [loopF_succ]
  unfold f38_l3
  simp only
  rw [dF (by omega), cond_false, List.drop_length, List.take_length]
  rfl
 | r + 1, 0, k, h1, h2 => absurd h2 (by omega)
 | r + 1, m + 1, k, h1, h2 => by
  have hk : k < l.length := by omega
  rw [loopF_succ]
  have hx := h l[k] (List.getElem_mem hk)
  obtain ⟨eo, iv, _, _⟩ := gx_ok C l[k] hx
  have ed : l.drop k = l[k] :: l.drop (k + 1) := List.drop_eq_getElem_cons hk
  have er1 : rd zEx l (k : Int) = l[k] := rd_nat _ _ _ hk
  have eo2 : f33 (n.1, n.2) kind p ((rd (Ty.z (.p (.sl (.int .i64)) (.p (.sl (.int .i64)) (.int .i64)))) l (k : Int)).1, ((rd (Ty.z (.p (.sl (.int .i64)) (.p (.sl (.int .i64)) (.int .i64)))) l (k : Int)).2).1, ((rd (Ty.z (.p (.sl (.int .i64)) (.p (.sl (.int .i64)) (.int .i64)))) l (k : Int)).2).2) = some (gx n kind p l[k]) := by
   have : f33 n kind p (rd zEx l (k : Int)) = some (gx n kind p l[k]) := by rw [er1]; exact eo
   exact this
  have start : ∀ go, f38_l3 n kind p l go (k : Int) (tabG n d kind p (l.take k)) (pair (lS n kind p (l.take k))).1 (pair (lS n kind p (l.take k))).2 = if (gx n kind p l[k]).2.1 = 0 then go (((k + 1 : Nat) : Int), tabG n d kind p (l.take (k + 1)), (pair (lS n kind p (l.take (k + 1)))).1, (pair (lS n kind p (l.take (k + 1)))).2) else some (Sum.inl (gx n kind p l[k]).2.1) := fun go => by
   unfold f38_l3
   rw [dT (by omega), cond_true, guardF_pos (by omega), eo2, bindF_some]
   by_cases h0 : (gx n kind p l[k]).2.1 = 0
   ·have et : l.take (k + 1) = l.take k ++ [l[k]] := List.take_succ_eq_append_getElem hk
    have hin : ∀ y ∈ l.take k ++ [l[k]], ExOk y := fun y hy => by rw [← et] at hy; exact h y (List.mem_of_mem_take hy)
    have ev : gv n kind p l[k] = (gx n kind p l[k]).1 := by unfold gv; rw [if_pos h0]
    have hr := sum_row C (l.take k) l[k] hin (by rw [List.length_take]; omega) h0
    rw [nF h0, cond_false, if_pos h0, hr, bindF_some, ← ev, PlV.of_ok _ iv.1 iv.2, bindF_some]
    have f1 := far_l C (l.take k) (fun y hy => h y (List.mem_of_mem_take hy)) (by rw [List.length_take]; omega)
    have f2 := far_l C (l.take k ++ [l[k]]) hin (by rw [← et, List.length_take]; omega)
    have e2 : lS n kind p (l.take k ++ [l[k]]) = lS n kind p (l.take k) + gv n kind p l[k] := by rw [lS_app]; simp only [lS]; omega
    have ea : f42 ((pair (lS n kind p (l.take k))).1, (pair (lS n kind p (l.take k))).2) ((pair (gv n kind p l[k])).1, (pair (gv n kind p l[k])).2) = some (pair (lS n kind p (l.take k ++ [l[k]]))) := by
     rw [e2] at f2 ⊢
     have := PlV.add_w (lS n kind p (l.take k)) (gv n kind p l[k]) f1 (by unfold far; unfold InR at iv; omega) f2
     exact this
    rw [ea, bindF_some, wsucc k (by omega), et]
   ·rw [nT h0, cond_true, if_neg h0]
  simp only
  rw [start, ed]
  by_cases h0 : (gx n kind p l[k]).2.1 = 0
  ·rw [if_pos h0, er_c0 n kind p _ h0, sum_loop l h hl r m (k + 1) (by omega) (by omega)]
  ·rw [if_neg h0, er_c1 n kind p _ h0, if_neg h0]
theorem gsum_ok (l : List Exm) (h : ∀ y ∈ l, ExOk y) (hl : l.length ≤ 12) (hP : f83 n = some (tsm n d n.2.length, 0)) :
  f38 n kind p l = some (if er n kind p l = 0 then ((pair (lS n kind p l)).1, (pair (lS n kind p l)).2, 0, tabG n d kind p l) else (0, 0, er n kind p l, [])) := by
 have hM2 := (tsm_range n d n.2.length).1
 have hM3 := C.cN.tM
 unfold f38
 have hP2 : f83 (n.1, n.2) = some (tsm n d n.2.length, 0) := hP
 have L := sum_loop C l h hl l.length fuelN 0 (by omega) (by show l.length < 18446744073709551616; omega)
 have e0 : tabG n d kind p (l.take 0) = List.replicate (Int.toNat (tsm n d n.2.length)) (Ty.z (.p (.int .i64) (.int .u64))) := by
  rw [tab_rep]; rfl
 rw [e0] at L
 have L' : loopF (fun go (x : Int × List (Int × Int) × Int × Int) => f38_l3 n kind p l go x.1 x.2.1 x.2.2.1 x.2.2.2) fuelN ((0 : Int), List.replicate (Int.toNat (tsm n d n.2.length)) (Ty.z (.p (.int .i64) (.int .u64))), (0 : Int), (0 : Int)) = _ := L
 rw [hP2, bindF_some, nF rfl, cond_false, guardF_pos (by omega)]
 simp only
 rw [L', bindF_some]
 simp only [List.drop_zero]
 by_cases h0 : er n kind p l = 0
 ·rw [if_pos h0, if_pos h0]; rfl
 ·rw [if_neg h0, if_neg h0]; rfl
end
theorem join_pair (N : Nat) (hN : N ≤ 4096) (a b : Nat → Int) (ha : ∀ j, j < N → far (a j)) (hb : ∀ j, j < N → far (b j)) (hs : ∀ j, j < N → far (a j + b j)) :
  f41 (tabL N (fun j => pair (a j))) (tabL N (fun j => pair (b j))) = some (0, tabL N (fun j => pair (a j + b j))) := by
 unfold f41
 simp only [tab_len]
 rw [nF rfl, cond_false]
 have L := loop_for (B := fun go (x : Int × List (Int × Int)) => f41_l1 (tabL N (fun j => pair (a j))) (tabL N (fun j => pair (b j))) go x.1 x.2) (fun k => ((k : Int), tabL k (fun j => pair (a j + b j)))) N (tabL N (fun j => pair (a j + b j))) ?_ ?_ (by omega)
 ·have L' : loopF (fun go (x : Int × List (Int × Int)) => f41_l1 (tabL N (fun j => pair (a j))) (tabL N (fun j => pair (b j))) go x.1 x.2) fuelN ((0 : Int), []) = _ := L
  rw [L']; rfl
 ·intro k hk go
  have e1 : rd zW (tabL N (fun j => pair (a j))) (k : Int) = pair (a k) := rd_tab _ _ _ _ hk
  have e2 : rd zW (tabL N (fun j => pair (b j))) (k : Int) = pair (b k) := rd_tab _ _ _ _ hk
  have ea : f42 ((rd (Ty.z (.p (.int .i64) (.int .u64))) (tabL N (fun j => pair (a j))) (k : Int)).1, (rd (Ty.z (.p (.int .i64) (.int .u64))) (tabL N (fun j => pair (a j))) (k : Int)).2) ((rd (Ty.z (.p (.int .i64) (.int .u64))) (tabL N (fun j => pair (b j))) (k : Int)).1, (rd (Ty.z (.p (.int .i64) (.int .u64))) (tabL N (fun j => pair (b j))) (k : Int)).2) = some (pair (a k + b k)) := by
   rw [e1, e2]
   exact PlV.add_w (a k) (b k) (ha k hk) (hb k hk) (hs k hk)
  have g3 : (List.length (tabL k (fun j => pair (a j + b j))) + List.length [((pair (a k + b k)).1, (pair (a k + b k)).2)]) * 16 ≤ 140737488355328 := by
   simp only [tab_len, List.length_cons, List.length_nil]; omega
  unfold f41_l1
  simp only [tab_len]
  rw [dT (by omega), cond_true, guardF_pos (by omega), guardF_pos (by omega), ea, bindF_some, guardF_pos (by simp only [tab_len] at g3; exact g3), wsucc k (by omega)]
  congr 2
  simp [tabL, List.range_succ]
 ·intro go
  unfold f41_l1
  simp only [tab_len]
  rw [dF (by omega), cond_false]
theorem wides_self (a : List (Int × Int)) (h : a.length ≤ 4096) : f40 a a = some true := by
 unfold f40
 rw [nF rfl, cond_false]
 have L := loop_for (B := fun go x => f40_l1 a a go x) (fun k => (k : Int)) a.length (Sum.inr ()) ?_ ?_ (by omega)
 ·have L' : loopF (fun go x => f40_l1 a a go x) fuelN (0 : Int) = _ := L
  rw [L']; rfl
 ·intro k hk go
  unfold f40_l1
  rw [dT (by omega), cond_true, guardF_pos (by omega), guardF_pos (by omega)]
  simp only [BEq.rfl, Bool.and_self, Bool.not_true, cond_false]
  rw [wsucc k (by omega)]
 ·intro go
  unfold f40_l1
  rw [dF (by omega), cond_false]
end Go.Proofs.Cv
namespace Go.Proofs.Cv
open Go.AM Go.Proofs.PlB Go.Proofs.PlW Go.Proofs.PlT Go.Proofs.PlS Go.Proofs.Sh Go.Proofs.Num Go.Proofs.Div Go.Proofs.Op
open Go.Proofs.PlR hiding Tn
def DD (d : List Int) : Prop := d.length ≤ 2 ∧ ∀ x ∈ d, 1 ≤ x ∧ x ≤ 1024
theorem dd_rd {d : List Int} (h : DD d) (i : Nat) (hi : i < d.length) : 1 ≤ rd (0 : Int) d (i : Int) ∧ rd (0 : Int) d (i : Int) ≤ 1024 := by
 rw [rd_nat _ _ _ hi]; exact h.2 _ (List.getElem_mem hi)
theorem mul_to {a b A B : Int} (a0 : 1 ≤ a) (a1 : a ≤ A) (b0 : 1 ≤ b) (b1 : b ≤ B) : 1 ≤ a * b ∧ a * b ≤ A * B := by
 have h1 := Int.mul_le_mul a1 b1 (by omega) (by omega)
 have h2 := Int.mul_le_mul a0 b0 (by omega) (by omega)
 omega
theorem rprod {d : List Int} (D : DD d) : ∃ v, f133 d = some v ∧ 1 ≤ v ∧ v ≤ 1048576 := by
 have hl := D.1
 unfold f133
 have pw : ∀ k, k ≤ 2 → (1024 : Int) ^ k ≤ 1048576 := fun k hk => by
  match k, hk with
  | 0, _ => decide
  | 1, _ => decide
  | 2, _ => decide
 have LL := loop_rel (B := fun go (x : Int × Int) => f133_l1 d go x.1 x.2) (fun k x => x.2 = (k : Int) ∧ 1 ≤ x.1 ∧ x.1 ≤ (1024 : Int) ^ k) (fun z => 1 ≤ z ∧ z ≤ (1024 : Int) ^ d.length) d.length ((1 : Int), (0 : Int)) ⟨rfl, by decide, by decide⟩ ?_ ?_ (by omega)
 ·obtain ⟨z, ez, h1, h2⟩ := LL
  have := pw d.length hl
  rw [ez]; exact ⟨z, rfl, h1, by omega⟩
 ·rintro k hk ⟨v, _⟩ ⟨rfl, h1, h2⟩
  simp only at h1 h2
  obtain ⟨a, b⟩ := dd_rd D k hk
  obtain ⟨m1, m2⟩ := mul_to h1 h2 a b
  have e := Int.pow_succ (1024 : Int) k
  have := pw (k + 1) (by omega)
  refine ⟨(v * rd (0 : Int) d (k : Int), ((k + 1 : Nat) : Int)), fun go => ?_, rfl, m1, by simp only; rw [e]; exact m2⟩
  unfold f133_l1
  simp only
  rw [dT (by omega), cond_true, guardF_pos (by omega), wsucc k (by omega), wrap_i64 (by omega) (by omega)]
 ·rintro ⟨v, _⟩ ⟨rfl, h1, h2⟩
  refine ⟨v, fun go => ?_, h1, h2⟩
  unfold f133_l1
  simp only
  rw [dF (by omega), cond_false]
theorem in_ok (v lo hi : Int) : f185 v lo hi = some (decide (lo ≤ v ∧ v ≤ hi)) := by
 unfold f185
 by_cases h : v ≥ lo
 ·rw [dT h, cond_true]; congr 1; rw [decide_eq_decide]; omega
 ·rw [dF h, cond_false, dF (fun hh => h hh.1)]
structure FL (l : Lay) : Prop where
 fD : kd bDense l = true → 1 ≤ l.2.1 ∧ l.2.1 ≤ 256
 fC : kd bConv l = true → 1 ≤ l.2.1 ∧ l.2.1 ≤ 16 ∧ 1 ≤ l.2.2 ∧ l.2.2 ≤ 16
 fP : kd bPool l = true → 1 ≤ l.2.1
theorem no_kd {P : Prop} {b : ByteArray} {l : Lay} (h : kd b l = false) : kd b l = true → P := fun hh => absurd (h.symm.trans hh) (by decide)
theorem formed_j5 (n : Nt) (i : Nat) : ∃ b, f132_j5 n (i : Int) = some b ∧ (b = true → FL (ly n i)) := by
 unfold f132_j5
 rw [show rd (Ty.z (.p .str (.p (.int .i64) (.int .i64)))) n.2 (i : Int) = ly n i from rfl]
 show ∃ b, (bif kd bDense (ly n i) then _ else bif kd bConv (ly n i) then _ else bif kd bPool (ly n i) then _ else _) = some b ∧ _
 cases h1 : kd bDense (ly n i)
 ·rw [cond_false]
  cases h2 : kd bConv (ly n i)
  ·rw [cond_false]
   cases h3 : kd bPool (ly n i)
   ·have F : FL (ly n i) := ⟨no_kd h1, no_kd h2, no_kd h3⟩
    rw [cond_false]
    cases (ByteArray.toList (ly n i).1 == ByteArray.toList (ByteArray.mk #[98, 101, 110, 100]))
    ·rw [cond_false]
     cases (ByteArray.toList (ly n i).1 == ByteArray.toList (ByteArray.mk #[115, 107, 105, 112]))
     ·exact ⟨_, rfl, fun _ => F⟩
     ·rw [cond_true]
      cases ((ly n i).2.1 == (0 : Int))
      ·exact ⟨_, rfl, fun _ => F⟩
      ·exact ⟨_, rfl, fun _ => F⟩
    ·rw [cond_true, in_ok, bindF_some]
     cases decide (1 ≤ (ly n i).2.1 ∧ (ly n i).2.1 ≤ 5)
     ·exact ⟨_, rfl, fun _ => F⟩
     ·exact ⟨_, rfl, fun _ => F⟩
   ·rw [cond_true, in_ok, bindF_some]
    by_cases h : 1 ≤ (ly n i).2.1 ∧ (ly n i).2.1 ≤ 16
    ·rw [dT h]; exact ⟨_, rfl, fun _ => ⟨no_kd h1, no_kd h2, fun _ => h.1⟩⟩
    ·rw [dF h]; exact ⟨_, rfl, fun hh => absurd hh (by decide)⟩
  ·rw [cond_true, in_ok, bindF_some]
   have h3 := kd_ne h2 (b := bPool) (by kernel_rfl)
   by_cases h : 1 ≤ (ly n i).2.1 ∧ (ly n i).2.1 ≤ 16
   ·rw [dT h, cond_true, in_ok]
    exact ⟨_, rfl, fun hh => ⟨no_kd h1, fun _ => ⟨h.1, h.2, of_decide_eq_true hh⟩, no_kd h3⟩⟩
   ·rw [dF h]; exact ⟨_, rfl, fun hh => absurd hh (by decide)⟩
 ·rw [cond_true, in_ok, bindF_some]
  have h2 := kd_ne h1 (b := bConv) (by kernel_rfl)
  have h3 := kd_ne h1 (b := bPool) (by kernel_rfl)
  by_cases h : 1 ≤ (ly n i).2.1 ∧ (ly n i).2.1 ≤ 256
  ·rw [dT h]; exact ⟨_, rfl, fun _ => ⟨fun _ => h, no_kd h2, no_kd h3⟩⟩
  ·rw [dF h]; exact ⟨_, rfl, fun hh => absurd hh (by decide)⟩
theorem formed_j1 (n : Nt) : (f132_j1 n = some (Sum.inl ()) ∧ DD n.1) ∨ f132_j1 n = some (Sum.inr ()) := by
 unfold f132_j1
 by_cases e1 : n.1.length = 1
 ·rw [bT (by omega), cond_true, guardF_pos (by omega), in_ok, bindF_some]
  by_cases h : 1 ≤ rd (0 : Int) n.1 0 ∧ rd (0 : Int) n.1 0 ≤ 1024
  ·rw [dT h]
   refine .inl ⟨rfl, by omega, ?_⟩
   match n.1, e1, h with
   | [x], _, h => exact fun y hy => by rw [List.mem_singleton.1 hy]; exact h
  ·rw [dF h]; exact .inr rfl
 ·rw [bF (by omega), cond_false]
  by_cases e2 : n.1.length = 2
  ·rw [bT (by omega), cond_true, guardF_pos (by omega), in_ok, bindF_some]
   by_cases h : 1 ≤ rd (0 : Int) n.1 0 ∧ rd (0 : Int) n.1 0 ≤ 64
   ·rw [dT h, Bool.not_true, cond_false, guardF_pos (by omega), in_ok, bindF_some]
    by_cases h' : 1 ≤ rd (0 : Int) n.1 1 ∧ rd (0 : Int) n.1 1 ≤ 64
    ·rw [dT h']
     refine .inl ⟨rfl, by omega, ?_⟩
     match n.1, e2, h, h' with
     | [x, y], _, h, h' =>
      have hx : 1 ≤ x ∧ x ≤ 64 := h
      have hy : 1 ≤ y ∧ y ≤ 64 := h'
      intro z hz
      rcases List.mem_cons.1 hz with rfl | hz
      ·omega
      ·rw [List.mem_singleton.1 hz]; omega
    ·rw [dF h']; exact .inr rfl
   ·rw [dF h]; exact .inr rfl
  ·rw [bF (by omega)]; exact .inr rfl
theorem formedW (n : Nt) (h6 : n.2.length ≤ 6) : ∃ b, f132 n = some b ∧ (b = true → DD n.1 ∧ ∀ i, i < n.2.length → FL (ly n i)) := by
 unfold f132
 rcases formed_j1 n with ⟨e, D⟩ | e
 ·rw [e, bindF_some, sumF_inl]
  have LL := loop_fuel (B := fun go x => f132_l4 n go x) (fun x => ∃ k : Nat, k ≤ n.2.length ∧ x = (k : Int) ∧ ∀ i, i < k → FL (ly n i)) (fun x => n.2.length - x.toNat)
   (fun z => z = Sum.inr () → ∀ i, i < n.2.length → FL (ly n i)) ?_ (0 : Int) ⟨0, by omega, rfl, fun i h => absurd h (by omega)⟩ (by show n.2.length - Int.toNat 0 < 18446744073709551616; omega)
  ·obtain ⟨z, ez, hz⟩ := LL
   rw [ez, bindF_some]
   cases z with
   | inl u => exact ⟨false, rfl, fun h => absurd h (by decide)⟩
   | inr u => exact ⟨true, rfl, fun _ => ⟨D, hz rfl⟩⟩
  ·rintro _ ⟨k, hk, rfl, hp⟩
   by_cases h : k < n.2.length
   ·obtain ⟨b, eb, hb⟩ := formed_j5 n k
    cases b
    ·refine .inl ⟨Sum.inl (), fun go => ?_, fun h => absurd h (by simp)⟩
     unfold f132_l4
     rw [dT (by omega), cond_true, guardF_pos (by omega), eb]; rfl
    ·refine .inr ⟨((k + 1 : Nat) : Int), fun go => ?_, ⟨k + 1, h, rfl, fun i hi => ?_⟩, by simp only [Int.toNat_natCast]; omega⟩
     ·unfold f132_l4
      rw [dT (by omega), cond_true, guardF_pos (by omega), eb, bindF_some, Bool.not_true, cond_false, wsucc k (by omega)]
     ·by_cases e : i = k
      ·subst e; exact hb rfl
      ·exact hp i (by omega)
   ·obtain rfl : k = n.2.length := by omega
    refine .inl ⟨Sum.inr (), fun go => ?_, fun _ => hp⟩
    unfold f132_l4
    rw [dF (by omega), cond_false]
 ·rw [e, bindF_some, sumF_inr]; exact ⟨_, rfl, fun h => absurd h (by decide)⟩
structure RS (k : Nat) (all : Int) (l : List (List Int)) : Prop where
 sL : l.length = k + 1
 sDD : ∀ i, i ≤ k → DD (dm l i)
 sA : 0 ≤ all ∧ all ≤ 4097
theorem bif_any {X : Type} (b : Bool) (x y : X) : ∃ v, (bif b then some x else some y) = some v := by cases b <;> exact ⟨_, rfl⟩
def J53 (z : Sum (Int × Bool × (List Int)) Unit) : Prop := ∀ a, z = Sum.inl a → 0 ≤ a.1 ∧ DD a.2.2
theorem sh_j53 (n : Nt) (k : Nat) (hk : k < n.2.length) (h6 : n.2.length ≤ 6) (F : FL (ly n k)) (all : Int) (great : Bool) (l : List (List Int)) (R : RS k all l) : ∃ z, f79_j53 n all great (k : Int) l = some z ∧ J53 z := by
 have hl := R.sL
 have D := R.sDD k (by omega)
 obtain ⟨a0, a1⟩ := R.sA
 have e1 : IntKind.i64.wrap ((List.length l : Int) - 1) = (k : Int) := by rw [wrap_i64 (by omega) (by omega)]; omega
 have e2 : 1 ≤ k → IntKind.i64.wrap ((List.length l : Int) - 2) = ((k - 1 : Nat) : Int) := fun h => by rw [wrap_i64 (by omega) (by omega)]; omega
 have same : J53 (Sum.inl (all, great, dm l k)) := fun a h => by injection h with h; subst h; exact ⟨a0, D⟩
 have hly : rd (Ty.z (.p .str (.p (.int .i64) (.int .i64)))) n.2 (k : Int) = ly n k := rfl
 have hdm : rd (Ty.z (.sl (.int .i64))) l (k : Int) = dm l k := rfl
 unfold f79_j53
 rw [e1, hly, hdm]
 show ∃ z, (bif kd bDense (ly n k) then _ else bif kd bConv (ly n k) then _ else bif kd bPool (ly n k) then _ else _) = some z ∧ _
 cases h1 : kd bDense (ly n k)
 ·rw [cond_false]
  cases h2 : kd bConv (ly n k)
  ·rw [cond_false]
   cases h3 : kd bPool (ly n k)
   ·rw [cond_false]
    cases (ByteArray.toList (ly n k).1 == ByteArray.toList (ByteArray.mk #[115, 107, 105, 112]))
    ·exact ⟨_, rfl, same⟩
    ·rw [cond_true]
     have ej : ∃ b, f79_j62 n (k : Int) l = some b := by
      unfold f79_j62
      by_cases h : k = 0
      ·subst h; exact ⟨_, rfl⟩
      ·have e3 : IntKind.i64.wrap ((k : Int) - 1) = ((k - 1 : Nat) : Int) := by rw [wrap_i64 (by omega) (by omega)]; omega
       rw [bF (by omega), cond_false, e3, guardF_pos (by omega)]
       cases (ByteArray.toList ((rd (Ty.z (.p .str (.p (.int .i64) (.int .i64)))) n.2 ((k - 1 : Nat) : Int)).1) == ByteArray.toList (ByteArray.mk #[115, 107, 105, 112]))
       ·have D2 := (R.sDD (k - 1) (by omega)).1
        have es : f73 (rd (Ty.z (.sl (.int .i64))) l ((k - 1 : Nat) : Int)) (rd (Ty.z (.sl (.int .i64))) l (k : Int)) = some (decide (dm l (k - 1) = dm l k)) := sameR (dm l (k - 1)) (dm l k) (by omega)
        rw [cond_false, e2 (by omega), e1, guardF_pos (by omega), es]; exact ⟨_, rfl⟩
       ·exact ⟨_, rfl⟩
     obtain ⟨b, eb⟩ := ej
     rw [eb, bindF_some]
     cases b
     ·exact ⟨_, rfl, same⟩
     ·exact ⟨_, rfl, fun a h => absurd h (by simp)⟩
   ·rw [cond_true]
    have fp := F.fP h3
    have ej : (f79_j60 n (k : Int) l = some (Sum.inl ()) ∧ (dm l k).length = 2 ∧ (ly n k).2.1 ≤ rd (0 : Int) (dm l k) 1) ∨ f79_j60 n (k : Int) l = some (Sum.inr ()) := by
     unfold f79_j60 f79_j61
     rw [e1, hly, hdm]
     by_cases h : (dm l k).length = 2
     ·have g : 0 ≤ (1 : Int) ∧ (1 : Int) < (List.length (dm l k) : Int) := by omega
      rw [nF (by omega), cond_false, guardF_pos g, bindF_some]
      by_cases h' : (ly n k).2.1 > rd (0 : Int) (dm l k) 1
      ·refine .inr ?_
       rw [dT h']; rfl
      ·refine .inl ⟨?_, h, by omega⟩
       rw [dF h']; rfl
     ·rw [nT (by omega)]; exact .inr rfl
    rcases ej with ⟨ej, h, h'⟩ | ej
    ·rw [ej, bindF_some, sumF_inl]
     show ∃ z, guardF (0 ≤ (0 : Int) ∧ (0 : Int) < ((dm l k).length : Int)) (guardF (0 ≤ (1 : Int) ∧ (1 : Int) < ((dm l k).length : Int)) (guardF ((ly n k).2.1 ≠ 0) (some (Sum.inl (all, great, [rd (0 : Int) (dm l k) 0, IntKind.i64.wrap (Int.tdiv (rd (0 : Int) (dm l k) 1) (ly n k).2.1)]))))) = some z ∧ _
     obtain ⟨b0, b1⟩ := dd_rd D 0 (by omega)
     obtain ⟨c0, c1⟩ := dd_rd D 1 (by omega)
     have c0' : 1 ≤ rd (0 : Int) (dm l k) 1 := c0
     have c1' : rd (0 : Int) (dm l k) 1 ≤ 1024 := c1
     rw [guardF_pos (by omega), guardF_pos (by omega), guardF_pos (by omega)]
     refine ⟨_, rfl, fun a ha => ?_⟩
     injection ha with ha
     subst ha
     refine ⟨a0, Nat.le_refl 2, fun y hy => ?_⟩
     rcases List.mem_cons.1 hy with rfl | hy
     ·exact ⟨b0, b1⟩
     ·rw [List.mem_singleton.1 hy, Int.tdiv_eq_ediv_of_nonneg (by omega)]
      generalize (ly n k).2.1 = A at *
      generalize rd (0 : Int) (dm l k) 1 = X at *
      have q1 : 1 ≤ X / A := (Int.le_ediv_iff_mul_le (by omega)).2 (by omega)
      have q2 : X / A ≤ X := Int.ediv_le_self _ (by omega)
      rw [wrap_i64 (by omega) (by omega)]
      omega
    ·rw [ej, bindF_some, sumF_inr]; exact ⟨_, rfl, fun a h => absurd h (by simp)⟩
  ·rw [cond_true]
   obtain ⟨fa, fa2, fb, fb2⟩ := F.fC h2
   have ej : (f79_j56 n (k : Int) l = some (Sum.inl ()) ∧ (dm l k).length = 2 ∧ (ly n k).2.2 ≤ rd (0 : Int) (dm l k) 1) ∨ f79_j56 n (k : Int) l = some (Sum.inr ()) := by
    unfold f79_j56 f79_j57
    rw [e1, hly, hdm]
    by_cases h : (dm l k).length = 2
    ·have g : 0 ≤ (1 : Int) ∧ (1 : Int) < (List.length (dm l k) : Int) := by omega
     rw [nF (by omega), cond_false, guardF_pos g, bindF_some]
     by_cases h' : (ly n k).2.2 > rd (0 : Int) (dm l k) 1
     ·refine .inr ?_
      rw [dT h']; rfl
     ·refine .inl ⟨?_, h, by omega⟩
      rw [dF h']; rfl
    ·rw [nT (by omega)]; exact .inr rfl
   rcases ej with ⟨ej, h, h'⟩ | ej
   ·rw [ej, bindF_some, sumF_inl]
    obtain ⟨b0, b1⟩ := dd_rd D 0 (by omega)
    obtain ⟨c0, c1⟩ := dd_rd D 1 (by omega)
    have b0' : 1 ≤ rd (0 : Int) (dm l k) 0 := b0
    have b1' : rd (0 : Int) (dm l k) 0 ≤ 1024 := b1
    have c0' : 1 ≤ rd (0 : Int) (dm l k) 1 := c0
    have c1' : rd (0 : Int) (dm l k) 1 ≤ 1024 := c1
    have ej2 : ∃ b, f79_j58 n great (k : Int) l = some b := by
     unfold f79_j58
     cases great
     ·have g : 0 ≤ (0 : Int) ∧ (0 : Int) < (List.length (dm l k) : Int) := by omega
      rw [cond_false, e1, hly, hdm, guardF_pos g]; exact ⟨_, rfl⟩
     ·exact ⟨_, rfl⟩
    obtain ⟨b, eb⟩ := ej2
    rw [eb, bindF_some]
    show ∃ z, guardF (0 ≤ (0 : Int) ∧ (0 : Int) < ((dm l k).length : Int)) (guardF (0 ≤ (1 : Int) ∧ (1 : Int) < ((dm l k).length : Int)) (some (Sum.inl (IntKind.i64.wrap (all + IntKind.i64.wrap (IntKind.i64.wrap ((ly n k).2.1 * rd (0 : Int) (dm l k) 0) * (ly n k).2.2)), b, [(ly n k).2.1, IntKind.i64.wrap (IntKind.i64.wrap (rd (0 : Int) (dm l k) 1 - (ly n k).2.2) + 1)])))) = some z ∧ _
    rw [guardF_pos (by omega), guardF_pos (by omega)]
    refine ⟨_, rfl, fun a ha => ?_⟩
    injection ha with ha
    subst ha
    obtain ⟨m1, m2⟩ := mul_to fa fa2 b0' b1'
    obtain ⟨m3, m4⟩ := mul_to m1 m2 fb fb2
    refine ⟨?_, Nat.le_refl 2, fun y hy => ?_⟩
    ·simp only
     rw [wrap_i64 (n := (ly n k).2.1 * rd (0 : Int) (dm l k) 0) (by omega) (by omega), wrap_i64 (n := (ly n k).2.1 * rd (0 : Int) (dm l k) 0 * (ly n k).2.2) (by omega) (by omega), wrap_i64 (by omega) (by omega)]
     omega
    ·rcases List.mem_cons.1 hy with rfl | hy
     ·omega
     ·rw [List.mem_singleton.1 hy, wrap_i64 (n := rd (0 : Int) (dm l k) 1 - (ly n k).2.2) (by omega) (by omega), wrap_i64 (by omega) (by omega)]
      omega
   ·rw [ej, bindF_some, sumF_inr]; exact ⟨_, rfl, fun a h => absurd h (by simp)⟩
 ·rw [cond_true]
  obtain ⟨fa, fa2⟩ := F.fD h1
  obtain ⟨v, ev, v0, v1⟩ := rprod D
  have ev2 : f133 (dm l k) = some v := ev
  have ej : ∃ b, f79_j54 n great (k : Int) v = some b := bif_any _ _ _
  obtain ⟨b, eb⟩ := ej
  rw [ev2, bindF_some, eb, bindF_some]
  obtain ⟨m1, m2⟩ := mul_to fa fa2 v0 v1
  refine ⟨_, rfl, fun a ha => ?_⟩
  injection ha with ha
  subst ha
  refine ⟨?_, Nat.le_succ 1, fun y hy => ?_⟩
  ·show 0 ≤ IntKind.i64.wrap (IntKind.i64.wrap (all + IntKind.i64.wrap ((ly n k).2.1 * v)) + (ly n k).2.1)
   rw [wrap_i64 (n := (ly n k).2.1 * v) (by omega) (by omega), wrap_i64 (n := all + (ly n k).2.1 * v) (by omega) (by omega), wrap_i64 (by omega) (by omega)]
   omega
  ·have hy : y = (ly n k).2.1 := List.mem_singleton.1 hy
   omega
theorem rshapesW (n : Nt) (h6 : n.2.length ≤ 6) : ∃ m e d, f79 n = some (m, e, d) ∧ 0 ≤ m := by
 unfold f79
 obtain ⟨b, eb, hb⟩ := formedW n h6
 have eb2 : f132 (n.1, n.2) = some b := eb
 rw [eb2, bindF_some]
 cases b
 ·exact ⟨_, _, _, rfl, by omega⟩
 ·obtain ⟨D, F⟩ := hb rfl
  have hD := D.1
  have g0 : (List.length ([] : List Int) + List.length n.1) * 8 ≤ 140737488355328 := by simp only [List.length_nil]; omega
  rw [Bool.not_true, cond_false, guardF_pos g0]
  have LL := loop_fuel (B := fun go (x : Int × Bool × Int × List (List Int)) => f79_l43 n go x.1 x.2.1 x.2.2.1 x.2.2.2) (fun x => ∃ k : Nat, k ≤ n.2.length ∧ x.2.2.1 = (k : Int) ∧ RS k x.1 x.2.2.2) (fun x => n.2.length - x.2.2.1.toNat)
   (fun z => ∀ a, z = Sum.inr a → 0 ≤ a.1) ?_ ((0 : Int), (decide ((List.length n.2 : Int) > (16 : Int))), (0 : Int), [(([] : List Int) ++ n.1)]) ⟨0, by omega, rfl, rfl, (by intro i hi; have h0 : i = 0 := Nat.le_zero.1 hi; subst h0; exact D), Int.le_refl _, (by show (0 : Int) ≤ 4097; decide)⟩ (by simp only; omega)
  ·obtain ⟨z, ez, hz⟩ := LL
   rw [ez, bindF_some]
   cases z with
   | inl u => exact ⟨_, _, _, rfl, by omega⟩
   | inr a =>
    have h0 := hz a rfl
    rw [sumF_inr]
    have ej : ∃ c, f79_j66 n a = some c := by
     unfold f79_j66 f79_j67
     cases a.2.1
     ·obtain ⟨v, ev, _⟩ := rprod D
      rw [cond_false, ev, bindF_some, bindF_some]
      exact bif_any _ _ _
     ·exact ⟨_, rfl⟩
    obtain ⟨c, ec⟩ := ej
    rw [ec, bindF_some]
    cases c with
    | inl u => exact ⟨_, _, _, rfl, h0⟩
    | inr u => exact ⟨_, _, _, rfl, by omega⟩
  ·rintro ⟨all, great, _, l⟩ ⟨k, hk, rfl, R⟩
   simp only at R
   have hl := R.sL
   by_cases h : k < n.2.length
   ·obtain ⟨z, ez, hz⟩ := sh_j53 n k h h6 (F k h) all great l R
    have e1 : IntKind.i64.wrap ((List.length l : Int) - 1) = (k : Int) := by rw [wrap_i64 (by omega) (by omega)]; omega
    cases z with
    | inr u =>
     refine .inl ⟨Sum.inl (), fun go => ?_, fun a h => absurd h (by simp)⟩
     unfold f79_l43
     simp only
     rw [dT (by omega), cond_true, e1, guardF_pos (by omega), guardF_pos (by omega), ez]; rfl
    | inl a =>
     obtain ⟨p0, p1⟩ := hz a rfl
     obtain ⟨v, ev, _⟩ := rprod p1
     have ej : ∃ c, f79_j63 a = some c := by
      unfold f79_j63
      cases a.2.1
      ·rw [cond_false, ev]; exact ⟨_, rfl⟩
      ·exact ⟨_, rfl⟩
     obtain ⟨c, ec⟩ := ej
     have ej2 : ∃ m g, f79_j64 a c = some (m, g) ∧ 0 ≤ m ∧ m ≤ 4097 := by
      unfold f79_j64
      by_cases h : a.1 > 4096
      ·rw [dT h]; exact ⟨_, _, rfl, by omega, by omega⟩
      ·rw [dF h]; exact ⟨_, _, rfl, p0, by omega⟩
     obtain ⟨m, g, eg, m0, m1⟩ := ej2
     have g1 : (List.length ([] : List Int) + List.length a.2.2) * 8 ≤ 140737488355328 := by have := p1.1; simp only [List.length_nil]; omega
     have g2 : (List.length l + List.length [(([] : List Int) ++ a.2.2)]) * 24 ≤ 140737488355328 := by simp only [List.length_cons, List.length_nil]; omega
     refine .inr ⟨(m, g, ((k + 1 : Nat) : Int), l ++ [(([] : List Int) ++ a.2.2)]), fun go => ?_, ⟨k + 1, h, rfl, by simp; omega, fun i hi => ?_, m0, m1⟩, by simp only [Int.toNat_natCast]; omega⟩
     ·unfold f79_l43
      simp only
      rw [dT (by omega), cond_true, e1, guardF_pos (by omega), guardF_pos (by omega), ez, bindF_some, sumF_inl, ec, bindF_some, eg, bindF_some, guardF_pos g1, guardF_pos g2, wsucc k (by omega)]
     ·by_cases e : i < l.length
      ·simp only; rw [dm_app _ _ _ e]; exact R.sDD i (by omega)
      ·obtain rfl : i = l.length := by omega
       simp only; rw [dm_last]; exact p1
   ·obtain rfl : k = n.2.length := by omega
    have := R.sA
    refine .inl ⟨Sum.inr (all, great, l), fun go => ?_, fun a h => by injection h with h; subst h; exact this.1⟩
    unfold f79_l43
    simp only
    rw [dF (by omega), cond_false]
theorem net_self (n : Nt) (h6 : n.2.length ≤ 6) : f35 n = some n := by
 unfold f35
 have L := loop_for (B := fun go (x : Int × List Lay) => f35_l1 n go x.1 x.2) (fun k => ((k : Int), n.2.take k)) n.2.length n.2 ?_ ?_ (by omega)
 ·have L' : loopF (fun go (x : Int × List Lay) => f35_l1 n go x.1 x.2) fuelN ((0 : Int), []) = _ := L
  rw [L']; rfl
 ·intro k hk go
  have e : rd zLay n.2 (k : Int) = n.2[k] := rd_nat _ _ _ hk
  have g3 : (List.length (n.2.take k) + List.length [((rd (Ty.z (.p .str (.p (.int .i64) (.int .i64)))) n.2 (k : Int)).1, ((rd (Ty.z (.p .str (.p (.int .i64) (.int .i64)))) n.2 (k : Int)).2).1, ((rd (Ty.z (.p .str (.p (.int .i64) (.int .i64)))) n.2 (k : Int)).2).2)]) * 32 ≤ 140737488355328 := by
   simp only [List.length_cons, List.length_nil, List.length_take]; omega
  unfold f35_l1
  simp only
  rw [dT (by omega), cond_true, guardF_pos (by omega), guardF_pos (by omega), guardF_pos (by omega), guardF_pos g3, wsucc k (by omega), List.take_succ_eq_append_getElem hk, ← e]
 ·intro go
  unfold f35_l1
  simp only
  rw [dF (by omega), cond_false, List.take_length]
theorem tameW (n : Nt) : ∃ m ok, f30 n = some (m, ok) ∧ (ok = true → 0 ≤ m ∧ m ≤ 80 ∧ n.2.length ≤ 6) := by
 unfold f30 f30_j1
 by_cases h4 : (List.length n.1 : Int) > 4
 ·rw [dT h4]; exact ⟨_, _, rfl, fun h => absurd h (by decide)⟩
 ·rw [dF h4, cond_false]
  by_cases h6 : (List.length n.2 : Int) > 6
  ·rw [dT h6]; exact ⟨_, _, rfl, fun h => absurd h (by decide)⟩
  ·have h6' : n.2.length ≤ 6 := by omega
   have en : f35 (n.1, n.2) = some n := net_self n h6'
   obtain ⟨m, e, d, es, m0⟩ := rshapesW n h6'
   have es2 : f79 (n.1, n.2) = some (m, e, d) := es
   rw [dF h6, cond_false, bindF_some, sumF_inl, en, bindF_some, es2, bindF_some]
   by_cases h0 : e = 0
   ·rw [bT h0]
    exact ⟨_, _, rfl, fun h => ⟨m0, of_decide_eq_true h, h6'⟩⟩
   ·rw [bF h0]; exact ⟨_, _, rfl, fun h => absurd h (by decide)⟩
theorem lightW (x : List Int × List Int × Int) : ∃ b, f31 x = some b := by
 unfold f31
 exact bif_any _ _ _
theorem filledW (p : List Int) (m : Int) (m0 : 0 ≤ m) (m1 : m ≤ 80) (ip : inI p) : ∃ q, f32 p m = some q ∧ inI q := by
 unfold f32
 rw [guardF_pos (by omega)]
 have LL := loop_fuel (B := fun go (x : Int × List Int) => f32_l3 p m go x.1 x.2) (fun x => ∃ k : Nat, (k : Int) ≤ m ∧ x.1 = (k : Int) ∧ x.2.length = m.toNat ∧ inI x.2) (fun x => (m - x.1).toNat)
  (fun z => inI z) ?_ ((0 : Int), List.replicate (Int.toNat m) (0 : Int)) ⟨0, by omega, rfl, by simp, fun y hy => by rw [(List.mem_replicate.1 hy).2]; decide⟩ (by simp only; omega)
 ·obtain ⟨z, ez, hz⟩ := LL
  rw [ez]; exact ⟨_, rfl, hz⟩
 ·rintro ⟨_, l⟩ ⟨k, hk, rfl, hl, il⟩
  simp only at hl il
  by_cases h : (k : Int) < m ∧ p.length > 0
  ·have e1 : Int.tmod (k : Int) (List.length p : Int) = ((k % p.length : Nat) : Int) := by rw [Int.tmod_eq_emod_of_nonneg (Int.natCast_nonneg _), ← Int.natCast_emod]
   have e2 : k % p.length < p.length := Nat.mod_lt _ h.2
   have ej : f32_j4 p m (k : Int) = some (Sum.inl ()) := by
    unfold f32_j4
    rw [dT h.1, cond_true, dT (by omega)]; rfl
   refine .inr ⟨(((k + 1 : Nat) : Int), List.set l k (rd (0 : Int) p ((k % p.length : Nat) : Int))), fun go => ?_, ⟨k + 1, by omega, rfl, by simp only [List.length_set]; exact hl, inI_set il _ _ (inI_rd ip _ e2)⟩, by simp only; omega⟩
   unfold f32_l3
   simp only
   rw [ej, bindF_some, sumF_inl, guardF_pos (by omega), e1, guardF_pos (by omega), guardF_pos (by omega), wsucc k (by omega), Int.toNat_natCast]
  ·have ej : f32_j4 p m (k : Int) = some (Sum.inr ()) := by
    unfold f32_j4
    by_cases h1 : (k : Int) < m
    ·rw [dT h1, cond_true, dF (fun hh => h ⟨h1, by omega⟩)]; rfl
    ·rw [dF h1]; rfl
   refine .inl ⟨l, fun go => ?_, il⟩
   unfold f32_l3
   simp only
   rw [ej, bindF_some, sumF_inr]
end Go.Proofs.Cv
namespace Go.Proofs.Cv
open Go.AM Go.Proofs.PlB Go.Proofs.PlW Go.Proofs.PlT Go.Proofs.PlS Go.Proofs.Sh Go.Proofs.Num Go.Proofs.Div Go.Proofs.Op
open Go.Proofs.PlR hiding Tn
open Go.Proofs.PlV (pair far)
theorem awake14 : f29 = some true := by kernel_rfl
theorem sum_any (n : Nt) (h6 : n.2.length ≤ 6) (kind : Int) (p : List Int) (ip : inI p) :
  (∃ e, e ≠ 0 ∧ ∀ l, f38 n kind p l = some (0, 0, e, [])) ∨ ∃ d, Can n d kind p ∧ f83 n = some (tsm n d n.2.length, 0) := by
 rcases paramsW n h6 with ⟨e, he, hp, _⟩ | ⟨d, N, hp, hs⟩
 ·refine .inl ⟨e, he, fun l => ?_⟩
  unfold f38
  have hp2 : f83 (n.1, n.2) = some (0, e) := hp
  rw [hp2, bindF_some, nT he]; rfl
 ·exact .inr ⟨d, ⟨N, hs, ip⟩, hp⟩
theorem exok_app {a b : List Exm} (ha : ∀ x ∈ a, ExOk x) (hb : ∀ x ∈ b, ExOk x) : ∀ x ∈ a ++ b, ExOk x := fun x hx => by
 rcases List.mem_append.1 hx with h | h
 ·exact ha x h
 ·exact hb x h
theorem join_sums {n : Nt} {d : List (List Int)} {kind : Int} {p : List Int} (C : Can n d kind p) (a b : List Exm) (ha : ∀ x ∈ a, ExOk x) (hb : ∀ x ∈ b, ExOk x) (hl : a.length + b.length ≤ 12) :
  f41 (tabG n d kind p a) (tabG n d kind p b) = some (0, tabG n d kind p (a ++ b)) ∧ f42 (pair (lS n kind p a)) (pair (lS n kind p b)) = some (pair (lS n kind p (a ++ b))) := by
 have hM2 := (tsm_range n d n.2.length).1
 have hM3 := C.cN.tM
 have hab := exok_app ha hb
 have hl2 : (a ++ b).length ≤ 12 := by rw [List.length_append]; exact hl
 constructor
 ·have h := join_pair (tsm n d n.2.length).toNat (by omega) (fun j => gS n kind p j a) (fun j => gS n kind p j b) (fun j _ => far_g C j a ha (by omega)) (fun j _ => far_g C j b hb (by omega))
   (fun j _ => by have := far_g C j (a ++ b) hab hl2; rw [gS_app] at this; exact this)
  have e : tabG n d kind p (a ++ b) = tabL (tsm n d n.2.length).toNat (fun j => pair (gS n kind p j a + gS n kind p j b)) := tab_ext _ _ _ (fun j _ => by rw [gS_app])
  rw [e]; exact h
 ·have := far_l C (a ++ b) hab hl2
  rw [lS_app] at this ⊢
  exact PlV.add_w _ _ (far_l C a ha (by omega)) (far_l C b hb (by omega)) this
theorem tabG_len {n : Nt} {d : List (List Int)} {kind : Int} {p : List Int} (C : Can n d kind p) (l : List Exm) : (tabG n d kind p l).length ≤ 4096 := by
 have hM3 := C.cN.tM
 unfold tabG
 rw [tab_len]; omega
end Go.Proofs.Cv
namespace Go.Proofs.Cv
open Go.AM Go.Proofs.PlB Go.Proofs.PlW Go.Proofs.PlT Go.Proofs.PlS Go.Proofs.Sh Go.Proofs.Num Go.Proofs.Div Go.Proofs.Op
open Go.Proofs.PlR hiding Tn
open Go.Proofs.PlV (pair far)
theorem parts_l (l : List Exm) (hl : l.length ≤ 6) : ∃ z, loopF (fun go x => f7_l2 l go x) fuelN (0 : Int) = some z := by
 have LL := loop_fuel (B := fun go x => f7_l2 l go x) (fun x => ∃ k : Nat, k ≤ l.length ∧ x = (k : Int)) (fun x => l.length - x.toNat) (fun _ => True) ?_ (0 : Int) ⟨0, by omega, rfl⟩ (by show l.length - Int.toNat 0 < 18446744073709551616; omega)
 ·obtain ⟨z, ez, _⟩ := LL
  exact ⟨z, ez⟩
 ·rintro _ ⟨k, hk, rfl⟩
  by_cases h : k < l.length
  ·obtain ⟨b, eb⟩ := lightW (rd zEx l (k : Int))
   have eb2 : f31 ((rd (Ty.z (.p (.sl (.int .i64)) (.p (.sl (.int .i64)) (.int .i64)))) l (k : Int)).1, ((rd (Ty.z (.p (.sl (.int .i64)) (.p (.sl (.int .i64)) (.int .i64)))) l (k : Int)).2).1, ((rd (Ty.z (.p (.sl (.int .i64)) (.p (.sl (.int .i64)) (.int .i64)))) l (k : Int)).2).2) = some b := eb
   cases b
   ·refine .inl ⟨Sum.inl (), fun go => ?_, trivial⟩
    unfold f7_l2
    rw [dT (by omega), cond_true, guardF_pos (by omega), eb2]; rfl
   ·refine .inr ⟨((k + 1 : Nat) : Int), fun go => ?_, ⟨k + 1, h, rfl⟩, by simp only [Int.toNat_natCast]; omega⟩
    unfold f7_l2
    rw [dT (by omega), cond_true, guardF_pos (by omega), eb2, bindF_some, Bool.not_true, cond_false, wsucc k (by omega)]
  ·refine .inl ⟨Sum.inr (), fun go => ?_, trivial⟩
   unfold f7_l2
   rw [dF (by omega), cond_false]
theorem parts_j (p : List Int) (l : List Exm) (c : Int) (r : Int × Bool) : (f7_j1 p l c r = some (Sum.inl ()) ∧ r.2 = true ∧ l.length ≤ 6 ∧ 0 ≤ c ∧ c ≤ l.length) ∨ f7_j1 p l c r = some (Sum.inr ()) := by
 unfold f7_j1
 cases h : r.2
 ·exact .inr rfl
 ·rw [Bool.not_true, cond_false]
  by_cases h1 : (List.length l : Int) > 6
  ·rw [dT h1]; exact .inr rfl
  ·rw [dF h1, cond_false]
   cases decide ((List.length p : Int) > 100)
   ·rw [cond_false]
    by_cases h2 : c < 0
    ·rw [dT h2]; exact .inr rfl
    ·rw [dF h2, cond_false]
     by_cases h3 : c > (List.length l : Int)
     ·rw [dT h3]; exact .inr rfl
     ·rw [dF h3]; exact .inl ⟨rfl, rfl, by omega, by omega, by omega⟩
   ·exact .inr rfl
theorem lawParts (n : Nt) (kind : Int) (p : List Int) (l : List Exm) (c : Int) (ip : inI p) (il : ∀ x ∈ l, ExOk x) : f7 n kind p l c = some true := by
 unfold f7
 rw [awake14, bindF_some, Bool.not_true, cond_false]
 obtain ⟨m, ok, et, ht⟩ := tameW n
 have et2 : f30 (n.1, n.2) = some (m, ok) := et
 rw [et2, bindF_some]
 rcases parts_j p l c (m, ok) with ⟨ej, hok, h3, c0, c1⟩ | ej
 ·rw [ej, bindF_some, sumF_inl]
  obtain ⟨m0, m1, h6⟩ := ht hok
  obtain ⟨z, ez⟩ := parts_l l h3
  rw [ez, bindF_some]
  cases z with
  | inl u => rfl
  | inr u =>
   rw [sumF_inr]
   obtain ⟨q, eq, iq⟩ := filledW p m m0 m1 ip
   have eq2 : f32 p (m, ok).1 = some q := eq
   rw [eq2, bindF_some]
   rcases sum_any n h6 kind q iq with ⟨e, he, hs⟩ | ⟨d, C, hP⟩
   ·have hs2 : ∀ l, f38 (n.1, n.2) kind q l = some (0, 0, e, []) := hs
    rw [hs2, bindF_some, nT he, cond_true]
   ·have s1 := gsum_ok C l il (by omega) hP
    have s1' : f38 (n.1, n.2) kind q l = _ := s1
    rw [s1', bindF_some]
    by_cases h0 : er n kind q l = 0
    ·have ia : ∀ x ∈ l.take c.toNat, ExOk x := fun x hx => il x (List.mem_of_mem_take hx)
     have ib : ∀ x ∈ l.drop c.toNat, ExOk x := fun x hx => il x (List.mem_of_mem_drop hx)
     have z0 := (er_zero n kind q l).1 h0
     have ea : er n kind q (l.take c.toNat) = 0 := (er_zero n kind q _).2 (fun x hx => z0 x (List.mem_of_mem_take hx))
     have eb : er n kind q (l.drop c.toNat) = 0 := (er_zero n kind q _).2 (fun x hx => z0 x (List.mem_of_mem_drop hx))
     have la : (l.take c.toNat).length ≤ l.length := by rw [List.length_take]; omega
     have lb : (l.drop c.toNat).length ≤ l.length := by rw [List.length_drop]; omega
     have lab : (l.take c.toNat).length + (l.drop c.toNat).length = l.length := by rw [List.length_take, List.length_drop]; omega
     have sa := gsum_ok C (l.take c.toNat) ia (by omega) hP
     have sb := gsum_ok C (l.drop c.toNat) ib (by omega) hP
     rw [if_pos ea] at sa
     rw [if_pos eb] at sb
     have sa' : f38 (n.1, n.2) kind q (l.take c.toNat) = _ := sa
     have sb' : f38 (n.1, n.2) kind q (l.drop c.toNat) = _ := sb
     have jab := join_sums C _ _ ia ib (by omega)
     have jba := join_sums C _ _ ib ia (by omega)
     have eT : tabG n d kind q (l.drop c.toNat ++ l.take c.toNat) = tabG n d kind q l := tab_ext _ _ _ (fun j _ => by
      rw [gS_app, Int.add_comm, ← gS_app, List.take_append_drop])
     rw [List.take_append_drop] at jab
     rw [eT] at jba
     have wab : f42 ((pair (lS n kind q (l.take c.toNat))).1, (pair (lS n kind q (l.take c.toNat))).2) ((pair (lS n kind q (l.drop c.toNat))).1, (pair (lS n kind q (l.drop c.toNat))).2) = some (pair (lS n kind q l)) := jab.2
     unfold f7_j3 f7_j4
     rw [if_pos h0, nF rfl, cond_false, guardF_pos ⟨c0, c1⟩, sa', bindF_some, bindF_some, guardF_pos ⟨c0, c1⟩, sb', bindF_some, bindF_some]
     simp only
     rw [jab.1, bindF_some, jba.1, bindF_some, bT rfl, cond_true, cond_true, cond_true, cond_true]
     simp only
     rw [wides_self _ (tabG_len C _), bindF_some, cond_true, bindF_some, cond_true, wab, bindF_some]
     simp
    ·rw [if_neg h0, nT h0, cond_true]
 ·rw [ej, bindF_some, sumF_inr]
end Go.Proofs.Cv
namespace Go.Proofs.PlG
open Go.AM Go.Proofs.PlW
theorem range_i64 {x : Int} (h : Ty.wf (.int .i64) x) : -9223372036854775808 ≤ x ∧ x < 9223372036854775808 := by
 have h : (Lit.int .i64 x).wf = true := h
 simp only [Lit.wf, IntKind.min, IntKind.max, IntKind.signed, IntKind.bits, Bool.and_eq_true, decide_eq_true_eq, if_true] at h
 omega
theorem row_i64 {l : List Int} (h : Ty.wf (.sl (.int .i64)) l) : inI l := fun x hx => range_i64 (h.2 x hx)
end Go.Proofs.PlG

