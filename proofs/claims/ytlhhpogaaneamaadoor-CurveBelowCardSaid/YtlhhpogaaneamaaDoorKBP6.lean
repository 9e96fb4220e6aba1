/- curveBelow_holds: the declarations of this seat that its proof uses. Conditions: none. -/
import Derived.Test.YtlhhpogaaneamaaDoorKBP5
namespace Go.Proofs.YtlhhpogaaneamaaDoor.X
open Go.RowKit
set_option linter.unusedVariables false
set_option linter.unusedSimpArgs false
def LeC (a b : List S57) : Prop := ∀ x v w : Rat, On a x v → On b x w → v ≤ w
theorem normal_eq {c : List S57} (h : Good c) : curve_Normal.f c = some (normC c, 0) := by
 unfold curve_Normal.f; rw [if_pos (good_iff.2 h)]
theorem leC_turned {a b : List S57} (ha : Good a) (hb : Good b) (h0 : px a 0 = px b 0) (h1 : px a (a.length - 1) = px b (b.length - 1)) (g0 : py a 0 = py b 0) (g1 : py a (a.length - 1) = py b (b.length - 1)) : LeC (tn b) (tn a) ↔ LeC a b := by
 constructor
 ·
  intro T x v w oa ob
  have ra := oa.range_y ha.rising
  have ra' : (px (tn b) 0 : Rat) ≤ v ∧ v ≤ (px (tn b) ((tn b).length - 1) : Rat) := by
   rw [tn_px, tn_px, tn_length, ← g0, ← g1]; exact ra
  obtain ⟨x1, o1⟩ := on_total hb.tn.rising ra'.1 ra'.2
  have := T v x1 x o1 (oa.tn ha.rising)
  exact On.le hb.rising ((on_tn_iff hb.rising).1 o1) ob this
 ·
  intro L y x1 x2 o1 o2
  have o1' := (on_tn_iff hb.rising).1 o1
  have o2' := (on_tn_iff ha.rising).1 o2
  have r := o2'.range ha.rising
  rw [h0, h1] at r
  obtain ⟨w, ow⟩ := on_total hb.rising r.1 r.2
  exact (On.le_iff hb.rising o1' ow).2 (L _ _ _ o2' ow)
theorem leC_trans {a b c : List S57} (ha : Good a) (hb : Good b) (h0 : px a 0 = px b 0) (h1 : px a (a.length - 1) = px b (b.length - 1)) (p : LeC a b) (q : LeC b c) : LeC a c := by
 intro x v w oa oc
 have r := oa.range ha.rising
 rw [h0, h1] at r
 obtain ⟨u, ou⟩ := on_total hb.rising r.1 r.2
 exact Rat.le_trans (p _ _ _ oa ou) (q _ _ _ ou oc)
theorem leC_norm {a b : List S57} (ha : Good a) (hb : Good b) (h0 : px a 0 = px b 0) (h1 : px a (a.length - 1) = px b (b.length - 1)) : (LeC a b ∧ LeC b a) ↔ normC a = normC b := by
 obtain ⟨ga, sa, na⟩ := norm_good ha
 obtain ⟨gb, sb, nb⟩ := norm_good hb
 constructor
 ·
  rintro ⟨p, q⟩
  refine norm_eq ga gb sa sb fun x v => ?_
  rw [na, nb]
  constructor
  ·
   intro o
   have r := o.range ha.rising
   rw [h0, h1] at r
   obtain ⟨u, ou⟩ := on_total hb.rising r.1 r.2
   have e : v = u := Rat.le_antisymm (p _ _ _ o ou) (q _ _ _ ou o)
   rw [e]; exact ou
  ·
   intro o
   have r := o.range hb.rising
   rw [← h0, ← h1] at r
   obtain ⟨u, ou⟩ := on_total ha.rising r.1 r.2
   have e : v = u := Rat.le_antisymm (q _ _ _ o ou) (p _ _ _ ou o)
   rw [e]; exact ou
 ·
  intro e
  have g : ∀ x v, On a x v ↔ On b x v := fun x v => by rw [← na, ← nb, e]
  exact ⟨fun x v w oa ob => by rw [On.unique ha.rising oa ((g _ _).2 ob)]; exact Rat.le_refl, fun x v w ob oa => by rw [On.unique ha.rising oa ((g _ _).2 ob)]; exact Rat.le_refl⟩
theorem below_j10 {a b : List S57} (ha : Good a) (hb : Good b) {r : Bool} (hr : r = true ↔ LeC a b) (h0 : px a 0 = px b 0) (h1 : px a (a.length - 1) = px b (b.length - 1)) (k : Nat) : law_CurveBelow.j10 (k + 2) a b r = some true := by
 have la := ha.len2
 have lb := hb.len2
 have la64 := ha.len64
 have lb64 := hb.len64
 have wa : wrap64 ((a.length : Int) - 1) = ((a.length - 1 : Nat) : Int) := by rw [w64 (by omega) (by omega)]; omega
 have wb : wrap64 ((b.length : Int) - 1) = ((b.length - 1 : Nat) : Int) := by rw [w64 (by omega) (by omega)]; omega
 have out : ∀ k, law_CurveBelow.j11 (k + 1) a b r true = some true := fun k => by simp [law_CurveBelow.j11]
 have a0 : (rd_T57 a 0).f0 = px a 0 := rfl
 have a1 : (rd_T57 a 0).f1 = py a 0 := rfl
 have b0 : (rd_T57 b 0).f0 = px b 0 := rfl
 have b1 : (rd_T57 b 0).f1 = py b 0 := rfl
 have aL0 : (rd_T57 a (wrap64 ((a.length : Int) - 1))).f0 = px a (a.length - 1) := by rw [wa, rd_nat]; rfl
 have aL1 : (rd_T57 a (wrap64 ((a.length : Int) - 1))).f1 = py a (a.length - 1) := by rw [wa, rd_nat]; rfl
 have bL0 : (rd_T57 b (wrap64 ((b.length : Int) - 1))).f0 = px b (b.length - 1) := by rw [wb, rd_nat]; rfl
 have bL1 : (rd_T57 b (wrap64 ((b.length : Int) - 1))).f1 = py b (b.length - 1) := by rw [wb, rd_nat]; rfl
 simp only [law_CurveBelow.j10]
 rw [if_pos (by omega), if_pos (by omega)]
 simp only [a0, a1, b0, b1, aL0, aL1, bL0, bL1, h0, h1, beq_self_eq_true, Bool.not_true, Bool.false_or]
 by_cases g0 : py a 0 = py b 0
 ·
  rw [g0, beq_self_eq_true, Bool.not_true, if_neg (by simp), if_pos (by rw [wa]; omega), if_pos (by rw [wa]; omega), if_pos (by rw [wb]; omega), if_pos (by rw [wb]; omega)]
  by_cases g1 : py a (a.length - 1) = py b (b.length - 1)
  ·
   rw [g1, beq_self_eq_true, Bool.not_true]
   obtain ⟨t, et, ht⟩ := below_iff hb.tn ha.tn
   have e : t = r := by
    rw [Bool.eq_iff_iff, ht, hr]
    exact leC_turned ha hb h0 h1 g0 g1
   simp [law_CurveBelow.j11, turned_eq ha, turned_eq hb, et, e]
  ·
   rw [beq_eq_false_iff_ne.2 g1, Bool.not_false]
   exact out k
 ·
  rw [beq_eq_false_iff_ne.2 g0, Bool.not_false, if_pos rfl]
  exact out k
theorem below_j7 {a b c : List S57} (ha : Good a) (hb : Good b) (hc : Good c) {r : Bool} (hr : r = true ↔ LeC a b) (h0 : px a 0 = px b 0) (h1 : px a (a.length - 1) = px b (b.length - 1)) (k : Nat) : law_CurveBelow.j7 (k + 5) a b c r false = some true := by
 have key := fun k => below_j10 ha hb hr h0 h1 k
 have key9 : ∀ k, law_CurveBelow.j9 (k + 3) a b r false = some true := fun k => by
  simp only [law_CurveBelow.j9]; rw [if_neg (by simp)]; exact key k
 have no : ∀ k, law_CurveBelow.j8 (k + 4) a b c r false = some true := fun k => by
  simp only [law_CurveBelow.j8]; rw [if_neg (by simp)]; exact key (k + 1)
 simp only [law_CurveBelow.j7, from_eq hb, from_eq hc, to_eq hb, to_eq hc, Option.bind_some]
 rw [if_neg (by simp)]
 by_cases g0 : px b 0 = px c 0
 ·
  rw [if_pos g0]
  by_cases g1 : px b (b.length - 1) = px c (c.length - 1)
  ·
   rw [g1, beq_self_eq_true]
   obtain ⟨s, es, hs⟩ := below_iff hb hc
   obtain ⟨t, et, ht⟩ := below_iff ha hc
   simp only [law_CurveBelow.j8, es, et, Option.bind_some, if_true]
   cases r with
   | false => simp only [Bool.false_eq_true, if_false]; exact key9 k
   | true =>
    cases s with
    | false => simp only [Bool.false_eq_true, if_false]; exact key9 k
    | true =>
     have : t = true := ht.2 (leC_trans ha hb h0 h1 (hr.1 rfl) (hs.1 rfl))
     rw [this]
     simp only [if_true, Bool.not_true]
     exact key9 k
  ·
   rw [beq_eq_false_iff_ne.2 g1]; exact no k
 ·
  rw [if_neg g0]; exact no k
theorem below_j5 {a b c : List S57} (ha : Good a) (hb : Good b) (hc : Good c) {r s : Bool} (hr : r = true ↔ LeC a b) (hs : s = true ↔ LeC b a) : Evn (fun k => law_CurveBelow.j5 k a b c r s) true := by
 have out : ∀ k, law_CurveBelow.j6 (k + 1) a b c r s true = some true := fun k => by simp [law_CurveBelow.j6]
 have e5 : ∀ k, law_CurveBelow.j5 (k + 1) a b c r s = if px a 0 = px b 0 then law_CurveBelow.j6 k a b c r s (px a (a.length - 1) != px b (b.length - 1)) else law_CurveBelow.j6 k a b c r s true := fun k => by
  simp only [law_CurveBelow.j5, from_eq ha, from_eq hb, to_eq ha, to_eq hb, Option.bind_some]
 refine Evn.step (Evn.ext ?_ e5)
 by_cases h0 : px a 0 = px b 0
 ·
  simp only [if_pos h0]
  by_cases h1 : px a (a.length - 1) = px b (b.length - 1)
  ·
   have ebn : (px a (a.length - 1) != px b (b.length - 1)) = false := by rw [h1]; simp
   rw [ebn]
   obtain ⟨t, et, ht⟩ := same_ev (normC a) (normC b) (by have := (norm_good ha).1.len64; omega)
   have key := leC_norm ha hb h0 h1
   have hst : (r = true ∧ s = true) ↔ t = true := by rw [hr, hs, ht]; exact key
   obtain ⟨k1, g1⟩ := et.fix
   refine ⟨k1 + 6, fun k hk => ?_⟩
   obtain ⟨K, rfl⟩ : ∃ K, k = K + 6 := ⟨k - 6, by omega⟩
   have g1' := g1 K (by omega)
   have fin := below_j7 ha hb hc hr h0 h1 K
   show law_CurveBelow.j6 (K + 6) a b c r s false = some true
   simp only [law_CurveBelow.j6, normal_eq ha, normal_eq hb, Option.bind_some, if_true, g1']
   rw [if_neg (by simp)]
   cases r with
   | true =>
    have : s = t := by rw [Bool.eq_iff_iff, ← hst]; simp
    rw [if_pos rfl, this]
    simpa using fin
   | false =>
    have : t = false := by cases t with | false => rfl | true => exact absurd (hst.2 rfl).1 (by simp)
    rw [if_neg (by simp), this]
    simpa using fin
  ·
   have ebn : (px a (a.length - 1) != px b (b.length - 1)) = true := by simp [h1]
   rw [ebn]
   exact Evn.step (Evn.of out)
 ·
  simp only [if_neg h0]
  exact Evn.step (Evn.of out)
theorem below_j0 {a b c : List S57} (ha : Good a) (hb : Good b) (hc : Good c) (x : Int) : Evn (fun k => law_CurveBelow.j0 k a b c x false) true := by
 obtain ⟨u, eu, hu⟩ := below_iff ha ha
 obtain ⟨r, er, hr⟩ := below_iff ha hb
 obtain ⟨s, es, hs⟩ := below_iff hb ha
 have hut : u = true := hu.2 fun x v w o o' => by rw [On.unique ha.rising o o']; exact Rat.le_refl
 obtain ⟨k5, g5⟩ := (below_j5 ha hb hc hr hs).fix
 have e0 : ∀ k, law_CurveBelow.j0 (k + 1) a b c x false = law_CurveBelow.j1 k a b c x r s false := fun k => by
  simp only [law_CurveBelow.j0, eu, er, es, hut, Option.bind_some, if_true]; rfl
 refine Evn.step (Evn.ext ?_ e0)
 have no : Evn (fun k => law_CurveBelow.j2 k a b c x r s false) true := ⟨k5 + 1, fun k hk => by
  obtain ⟨K, rfl⟩ : ∃ K, k = K + 1 := ⟨k - 1, by omega⟩
  have := g5 K (by omega) 0
  rw [Nat.add_zero] at this
  show law_CurveBelow.j2 (K + 1) a b c x r s false = some true
  simp only [law_CurveBelow.j2]; rw [if_neg (by simp)]; exact this⟩
 refine Evn.step ?_
 cases ia : inB a x with
 | false => exact Evn.ext no fun k => by simp only [law_CurveBelow.j1, in_eq ha, ia, Option.bind_some]; rfl
 | true =>
  cases ib : inB b x with
  | false => exact Evn.ext no fun k => by simp only [law_CurveBelow.j1, in_eq ha, in_eq hb, ia, ib, Option.bind_some, if_true]; rfl
  | true =>
   have ra := (inB_iff ha).1 ia
   have rb := (inB_iff hb).1 ib
   have va := val_bounds ha ia
   have vb := val_bounds hb ib
   have oa := valR_on ha ra.1 ra.2
   have ob := valR_on hb rb.1 rb.2
   have E1 := exact_in ha ia
   have E2 := exact_in hb ib
   obtain ⟨p, hp⟩ : ∃ p, valR a x = p := ⟨_, rfl⟩
   obtain ⟨q, hq⟩ : ∃ q, valR b x = q := ⟨_, rfl⟩
   rw [hp] at va E1 oa
   rw [hq] at vb E2 ob
   have O := order_ev va.1 va.2.1 va.2.2.1 va.2.2.2 vb.1 vb.2.1 vb.2.2.1 vb.2.2.2
   rw [cmpI_rat] at O
   obtain ⟨k1, g1⟩ := E1.fix
   obtain ⟨k2, g2⟩ := E2.fix
   obtain ⟨k3, g3⟩ := O.fix
   refine ⟨k1 + k2 + k3 + k5 + 4, fun k hk => ?_⟩
   obtain ⟨K, rfl⟩ : ∃ K, k = K + 4 := ⟨k - 4, by omega⟩
   have g1' := g1 K (by omega)
   have g2' := g2 K (by omega)
   have g3' := g3 K (by omega)
   have g5' := g5 K (by omega)
   have d1 : ¬ (p.den : Int) < 1 := by omega
   have d2 : ¬ (q.den : Int) < 1 := by omega
   have d3 : ¬ (p.den : Int) > 16777216 := by omega
   have d4 : decide ((q.den : Int) > 16777216) = false := decide_eq_false (by omega)
   have s1 : law_CurveBelow.j1 (K + 5) a b c x r s false = law_CurveBelow.j3 (K + 3) a b c r s false p.num p.den q.num q.den := by
    simp only [law_CurveBelow.j1, in_eq ha, in_eq hb, ia, ib, Option.bind_some, if_true]
    rw [if_neg (by simp)]
    simp only [law_CurveBelow.j2, g1', g2', Option.bind_some, if_true, if_neg d1, if_neg d2, if_neg d3, d4]
   have fin : law_CurveBelow.j4 (K + 2) a b c r s false = some true := by
    simp only [law_CurveBelow.j4]; rw [if_neg (by simp)]; exact g5' 1
   show law_CurveBelow.j1 (K + 5) a b c x r s false = some true
   rw [s1]
   simp only [law_CurveBelow.j3, g3', Option.bind_some]
   rw [if_neg (by simp)]
   have n1 : r = true → ¬ (if p < q then (-1 : Int) else if q < p then 1 else 0) > 0 := fun h => by
    have := hr.1 h _ _ _ oa ob
    split
    ·
     omega
    ·
     rw [if_neg (by grind)]; omega
   have n2 : s = true → decide ((if p < q then (-1 : Int) else if q < p then 1 else 0) < 0) = false := fun h => by
    have := hs.1 h _ _ _ ob oa
    rw [if_neg (by grind)]
    split <;> exact decide_eq_false (by omega)
   cases hrr : r with
   | true =>
    rw [if_pos rfl, if_neg (n1 hrr)]
    cases hss : s with
    | true => rw [if_pos rfl, n2 hss]; rw [hrr, hss] at fin; exact fin
    | false => rw [if_neg (by simp)]; rw [hrr, hss] at fin; exact fin
   | false =>
    rw [if_neg (by simp)]
    cases hss : s with
    | true => rw [if_pos rfl, n2 hss]; rw [hrr, hss] at fin; exact fin
    | false => rw [if_neg (by simp)]; rw [hrr, hss] at fin; exact fin
theorem below_true (a b c : List S57) (x : Int) : ∃ k, law_CurveBelow.f k a b c x = some true := by
 obtain ⟨k1, h1⟩ := (valid_ev a).fix
 obtain ⟨k2, h2⟩ := (valid_ev b).fix
 obtain ⟨k3, h3⟩ := (valid_ev c).fix
 have out : ∀ K, law_CurveBelow.j0 (K + 10) a b c x true = some true := fun K => by simp [law_CurveBelow.j0]
 have h1' := h1 (k1 + k2 + k3) (by omega)
 have h2' := h2 (k1 + k2 + k3) (by omega)
 have h3' := h3 (k1 + k2 + k3) (by omega)
 cases hga : goodB a with
 | false => exact ⟨k1 + k2 + k3 + 10, by rw [hga] at h1'; simp [law_CurveBelow.f, law_sane.f, h1', out]⟩
 | true =>
  rw [hga] at h1'
  cases hgb : goodB b with
  | false => exact ⟨k1 + k2 + k3 + 10, by rw [hgb] at h2'; simp [law_CurveBelow.f, law_sane.f, h1', h2', out]⟩
  | true =>
   rw [hgb] at h2'
   cases hgc : goodB c with
   | false => exact ⟨k1 + k2 + k3 + 10, by rw [hgc] at h3'; simp [law_CurveBelow.f, law_sane.f, h1', h2', h3', out]⟩
   | true =>
    rw [hgc] at h3'
    obtain ⟨k4, h4⟩ := (below_j0 (good_of hga) (good_of hgb) (good_of hgc) x).fix
    refine ⟨k1 + k2 + k3 + k4, ?_⟩
    have h1' := h1' k4
    have h2' := h2' k4
    have h3' := h3' k4
    have h4' := h4 (k1 + k2 + k3 + k4) (by omega) 0
    rw [Nat.add_zero] at h4'
    simp [law_CurveBelow.f, law_sane.f, h1', h2', h3', h4']
end Go.Proofs.YtlhhpogaaneamaaDoor.X
