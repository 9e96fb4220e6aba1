/- curveCompares_holds: the declarations of this seat that its proof uses. Conditions: none. -/
import Derived.Test.YtlhhpogaaneamaaDoorKCP4
namespace Go.Proofs.YtlhhpogaaneamaaDoor.X
open Go.RowKit Go.Proofs.YtlhhpogaaneamaaDoorW.PrintWords Go.Proofs.YtlhhpogaaneamaaDoorW.PrintLast Go.Proofs.YtlhhpogaaneamaaDoorW.PrintMore
set_option linter.unusedVariables false
set_option linter.unusedSimpArgs false
set_option linter.unusedSectionVars false
def placeA (c : List S57) (fr to_ : Int) (n : Nat) : Int := if n = c.length + 1 then to_ else if n = 0 then fr else px c (n - 1)
def badA (a b : List S57) (fr to_ x : Int) : Prop := (fr ≤ x ∧ x ≤ to_) ∧ valR b x < valR a x
section
variable {a b : List S57} (ha : Good a) (hb : Good b) {fr to_ : Int} (f0 : px a 0 ≤ fr) (f1 : px b 0 ≤ fr) (t0 : to_ ≤ px a (a.length - 1)) (t1 : to_ ≤ px b (b.length - 1))
include ha hb f0 f1 t0 t1
theorem above_l0 (c : List S57) (hc : c.length ≤ 64) : ∀ m n : Nat, n + m = c.length + 2 → ∃ r, Evn (fun k => ref_above.l0 k a b c fr to_ ((n : Int) - 1)) r ∧ (r = true ↔ ∃ j, n ≤ j ∧ j ≤ c.length + 1 ∧ badA a b fr to_ (placeA c fr to_ j)) := by
 intro m
 induction m with
 | zero =>
  intro n hn
  refine ⟨false, Evn.step (Evn.of fun k => ?_), ⟨(fun q => by cases q), fun ⟨j, h1, h2, _⟩ => by omega⟩⟩
  simp only [ref_above.l0]
  rw [if_neg (by omega)]
 | succ m ih =>
  intro n hn
  have e3 : ∀ k, ref_above.l0 (k + 3) a b c fr to_ ((n : Int) - 1) = ref_above.j3 k a b c fr to_ ((n : Int) - 1) (placeA c fr to_ n) := by
   intro k
   simp only [ref_above.l0]
   rw [if_pos (by omega)]
   by_cases h1 : n = c.length + 1
   ·
    rw [if_pos (by omega)]
    simp only [ref_above.j1]
    rw [if_pos (by omega), decide_eq_false (by omega)]
    simp only [ref_above.j2]
    rw [if_neg (by simp)]
    unfold placeA
    rw [if_pos h1]
   ·
    rw [if_neg (by omega)]
    simp only [ref_above.j1]
    by_cases h2 : n = 0
    ·
     rw [if_neg (by omega)]
     simp only [ref_above.j2]
     rw [if_neg (by simp)]
     unfold placeA
     rw [if_neg h1, if_pos h2]
    ·
     rw [if_pos (by omega), decide_eq_true (by omega)]
     simp only [ref_above.j2]
     rw [if_pos trivial, if_pos (by omega), if_pos (by omega), show (n : Int) - 1 = ((n - 1 : Nat) : Int) by omega, rd_nat]
     unfold placeA
     rw [if_neg h1, if_neg h2]
     rfl
  obtain ⟨x, hx⟩ : ∃ x, placeA c fr to_ n = x := ⟨_, rfl⟩
  obtain ⟨r, hr, hiff⟩ := ih (n + 1) (by omega)
  have next : ∀ k, ref_above.j4 (k + 1) a b c fr to_ ((n : Int) - 1) false = ref_above.l0 k a b c fr to_ (((n + 1 : Nat) : Int) - 1) := by
   intro k
   simp only [ref_above.j4]
   rw [if_neg (by simp), w64 (by omega) (by omega), show (n : Int) - 1 + 1 = ((n + 1 : Nat) : Int) - 1 by omega]
  have goOn : Evn (fun k => ref_above.j4 k a b c fr to_ ((n : Int) - 1) false) r := Evn.step (Evn.ext hr next)
  have lift : ∀ s, Evn (fun k => ref_above.j3 k a b c fr to_ ((n : Int) - 1) x) s → Evn (fun k => ref_above.l0 k a b c fr to_ ((n : Int) - 1)) s := fun s hs => by
   rw [← hx] at hs
   exact Evn.step (Evn.step (Evn.step (Evn.ext hs e3)))
  have split : (∃ j, n ≤ j ∧ j ≤ c.length + 1 ∧ badA a b fr to_ (placeA c fr to_ j)) ↔ (badA a b fr to_ x ∨ ∃ j, n + 1 ≤ j ∧ j ≤ c.length + 1 ∧ badA a b fr to_ (placeA c fr to_ j)) := by
   constructor
   ·
    rintro ⟨j, h1, h2, h3⟩
    by_cases e : j = n
    ·
     left; rw [e, hx] at h3; exact h3
    ·
     right; exact ⟨j, by omega, h2, h3⟩
   ·
    rintro (h3 | ⟨j, h1, h2, h3⟩)
    ·
     exact ⟨n, Nat.le_refl _, by omega, by rw [hx]; exact h3⟩
    ·
     exact ⟨j, by omega, h2, h3⟩
  by_cases hin : fr ≤ x ∧ x ≤ to_
  ·
   have ia : inB a x = true := (inB_iff ha).2 ⟨by omega, by omega⟩
   have ib : inB b x = true := (inB_iff hb).2 ⟨by omega, by omega⟩
   have A := at_ev ha ia
   have B := at_ev hb ib
   have va := val_bounds ha ia
   have vb := val_bounds hb ib
   have O := order_ev va.1 va.2.1 va.2.2.1 va.2.2.2 vb.1 vb.2.1 vb.2.2.1 vb.2.2.2
   rw [cmpI_rat] at O
   have st : ∀ (t : Int) (s : Bool), (if valR a x < valR b x then (-1 : Int) else if valR b x < valR a x then 1 else 0) = t → Evn (fun k => ref_above.j4 k a b c fr to_ ((n : Int) - 1) (decide (t > 0))) s → Evn (fun k => ref_above.j3 k a b c fr to_ ((n : Int) - 1) x) s := fun t s ht hs => by
    rw [ht] at O
    refine Evn.step (Evn.ext (A.bind (f := fun k bt213 => ((ref_at.f k b x).bind fun bt215 => ((ref_Order.f k bt213.1 bt213.2 bt215.1 bt215.2).bind fun t217 => (ref_above.j4 k a b c fr to_ ((n : Int) - 1) (decide (t217 > 0)))))) ?_) fun k => ?_)
    ·
     refine B.bind (f := fun k bt215 => ((ref_Order.f k (valR a x).num ((valR a x).den : Int) bt215.1 bt215.2).bind fun t217 => (ref_above.j4 k a b c fr to_ ((n : Int) - 1) (decide (t217 > 0))))) ?_
     exact O.bind (f := fun k t217 => (ref_above.j4 k a b c fr to_ ((n : Int) - 1) (decide (t217 > 0)))) hs
    ·
     simp only [ref_above.j3]
     rw [if_pos hin.1, if_pos hin.2]
   by_cases hbad : valR b x < valR a x
   ·
    refine ⟨true, lift _ (st 1 true ?_ (Evn.step (Evn.of fun k => ?_))), ⟨fun _ => split.2 (Or.inl ⟨hin, hbad⟩), fun _ => rfl⟩⟩
    ·
     rw [if_neg (by grind), if_pos hbad]
    ·
     rw [decide_eq_true (by omega)]
     simp [ref_above.j4]
   ·
    refine ⟨r, lift _ (st _ r rfl (Evn.ext goOn fun k => ?_)), hiff.trans ⟨fun q => split.2 (Or.inr q), fun q => ?_⟩⟩
    ·
     congr 1
     rw [if_neg hbad]
     by_cases q : valR a x < valR b x
     ·
      rw [if_pos q]; rfl
     ·
      rw [if_neg q]; rfl
    ·
     rcases split.1 q with q | q
     ·
      exact absurd q.2 hbad
     ·
      exact q
  ·
   refine ⟨r, lift _ (Evn.step (Evn.ext goOn fun k => ?_)), hiff.trans ⟨fun q => split.2 (Or.inr q), fun q => ?_⟩⟩
   ·
    simp only [ref_above.j3]
    by_cases q : fr ≤ x
    ·
     rw [if_pos q, if_neg (by omega)]
    ·
     rw [if_neg (by omega)]
   ·
    rcases split.1 q with q | q
    ·
     exact absurd q.1 hin
    ·
     exact q
end
theorem mx_eq (a b : Int) : mx a b = max a b := by unfold mx; rw [Int.max_def]; split <;> split <;> omega
theorem mn_eq (a b : Int) : mn a b = min a b := by unfold mn; rw [Int.min_def]; split <;> split <;> omega
theorem above_ev {a b : List S57} (ha : Good a) (hb : Good b) (c : List S57) (hc : c.length ≤ 64) : ∃ r, Evn (fun k => ref_above.f k a b c) r ∧ (r = true ↔ ∃ j, j ≤ c.length + 1 ∧ badA a b (max (px a 0) (px b 0)) (min (px a (a.length - 1)) (px b (b.length - 1))) (placeA c (max (px a 0) (px b 0)) (min (px a (a.length - 1)) (px b (b.length - 1))) j)) := by
 obtain ⟨r, h1, h2⟩ := above_l0 ha hb (fr := max (px a 0) (px b 0)) (to_ := min (px a (a.length - 1)) (px b (b.length - 1))) (by omega) (by omega) (by omega) (by omega) c hc (c.length + 2) 0 (by omega)
 refine ⟨r, Evn.ext h1 fun k => ?_, h2.trans ⟨fun ⟨j, _, q⟩ => ⟨j, q⟩, fun ⟨j, q⟩ => ⟨j, Nat.zero_le _, q⟩⟩⟩
 unfold ref_above.f
 rw [from_eq ha, from_eq hb, to_eq ha, to_eq hb]
 simp only [Option.bind_some, mx_eq, mn_eq]
 rfl
theorem below_same (a b : List S57) : ∃ r, curve_Below.f a b = some r ∧ Evn (fun k => ref_Below.f k a b) r := by
 have va := valid_ev a
 have vb := valid_ev b
 have st : ∀ (ga gb : Bool) (r : Bool × Int), goodB a = ga → goodB b = gb → (ga = true → gb = true → Evn (fun k => (ref_above.f k a b a).bind fun t220 => (if t220 = true then (some (false, 0)) else ((ref_above.f k a b b).bind fun t221 => (some (!t221, 0))))) r) → (¬ (ga = true ∧ gb = true) → r = (false, 10)) → Evn (fun k => ref_Below.f k a b) r := fun ga gb r e1 e2 hy hno => by
  rw [e1] at va
  rw [e2] at vb
  refine Evn.ext (va.bind (f := fun k t218 => (if t218 = true then ((ref_Valid.f k b).bind fun t219 => (ref_Below.j0 k a b (!t219))) else (ref_Below.j0 k a b true))) ?_) fun k => rfl
  cases ga with
  | false =>
   rw [hno (by simp)]
   refine Evn.step (Evn.of fun k => ?_)
   rw [if_neg (by simp)]; simp [ref_Below.j0]
  | true =>
   refine Evn.ext (vb.bind (f := fun k t219 => (ref_Below.j0 k a b (!t219))) ?_) fun k => by rw [if_pos rfl]
   cases gb with
   | false =>
    rw [hno (by simp)]
    exact Evn.step (Evn.of fun k => by simp [ref_Below.j0])
   | true =>
    refine Evn.step (Evn.ext (hy rfl rfl) fun k => ?_)
    simp only [ref_Below.j0]
    rw [if_neg (by simp)]
 by_cases hg : goodB a = true ∧ goodB b = true
 ·
  have ha := good_of hg.1
  have hb := good_of hg.2
  obtain ⟨r1, h1, i1⟩ := above_ev ha hb a ha.len64
  obtain ⟨r2, h2, i2⟩ := above_ev ha hb b hb.len64
  have key : belowB a b = (!r1 && !r2) := by
   obtain ⟨rB, eB, iB⟩ := below_iff ha hb
   have eB' : belowB a b = rB := by
    unfold curve_Below.f at eB
    rw [if_pos hg] at eB
    exact (Prod.mk.inj (Option.some.inj eB)).1
   have bad_no : ∀ fr to_ x, px a 0 ≤ fr → px b 0 ≤ fr → to_ ≤ px a (a.length - 1) → to_ ≤ px b (b.length - 1) → badA a b fr to_ x → rB = false := fun fr to_ x q1 q2 q3 q4 hbad => by
    cases hr : rB with
    | false => rfl
    | true =>
     have := iB.1 hr x _ _ (valR_on ha (by have := hbad.1.1; omega) (by have := hbad.1.2; omega)) (valR_on hb (by have := hbad.1.1; omega) (by have := hbad.1.2; omega))
     have := hbad.2
     grind
   rw [eB']
   cases hr1 : r1 with
   | true =>
    obtain ⟨j, _, hbad⟩ := i1.1 hr1
    rw [bad_no _ _ _ (by omega) (by omega) (by omega) (by omega) hbad]; rfl
   | false =>
    cases hr2 : r2 with
    | true =>
     obtain ⟨j, _, hbad⟩ := i2.1 hr2
     rw [bad_no _ _ _ (by omega) (by omega) (by omega) (by omega) hbad]; rfl
    | false =>
     rw [← eB']
     refine below_pts.2 fun j hj ia ib => ?_
     have ra := (inB_iff ha).1 ia
     have rb := (inB_iff hb).1 ib
     rw [← Rat.not_lt]
     intro hlt
     rw [List.length_append] at hj
     by_cases hja : j < a.length
     ·
      have e : px (a ++ b) j = px a j := by unfold px; rw [List.getD_eq_getElem?_getD, List.getD_eq_getElem?_getD, List.getElem?_append_left hja]
      rw [e] at ra rb hlt
      have : r1 = true := i1.2 ⟨j + 1, by omega, by
       unfold placeA
       rw [if_neg (by omega), if_neg (by omega), Nat.add_sub_cancel]
       exact ⟨⟨by omega, by omega⟩, hlt⟩⟩
      rw [hr1] at this; cases this
     ·
      have e : px (a ++ b) j = px b (j - a.length) := by unfold px; rw [List.getD_eq_getElem?_getD, List.getD_eq_getElem?_getD, List.getElem?_append_right (by omega)]
      rw [e] at ra rb hlt
      have : r2 = true := i2.2 ⟨j - a.length + 1, by omega, by
       unfold placeA
       rw [if_neg (by omega), if_neg (by omega), Nat.add_sub_cancel]
       exact ⟨⟨by omega, by omega⟩, hlt⟩⟩
      rw [hr2] at this; cases this
  refine ⟨(belowB a b, 0), by unfold curve_Below.f; rw [if_pos hg], st true true _ hg.1 hg.2 (fun _ _ => ?_) (fun q => absurd ⟨rfl, rfl⟩ q)⟩
  rw [key]
  refine h1.bind (f := fun k t220 => (if t220 = true then (some (false, 0)) else ((ref_above.f k a b b).bind fun t221 => (some (!t221, 0))))) ?_
  cases r1 with
  | true => exact Evn.of fun k => by simp
  | false =>
   refine Evn.ext (h2.bind (f := fun k t221 => some (!t221, (0 : Int))) (Evn.of fun k => ?_)) fun k => by rw [if_neg (by simp)]
   simp
 ·
  refine ⟨(false, 10), by unfold curve_Below.f; rw [if_neg hg], st _ _ _ rfl rfl (fun q1 q2 => absurd ⟨q1, q2⟩ hg) (fun _ => rfl)⟩
theorem share_arith {n a d bit q r : Int} (hb : 0 < bit) (hq : q * d + r = n * (a / (2 * bit))) :
  (2 * q + (2 * r + (if a / bit % 2 = 1 then n else 0)) / d) * d + (2 * r + (if a / bit % 2 = 1 then n else 0)) % d = n * (a / bit) := by
 have e : a / (2 * bit) = a / bit / 2 := by rw [Int.mul_comm, Int.ediv_ediv_of_nonneg (by omega)]
 rw [e] at hq
 obtain ⟨A, hA⟩ : ∃ A, a / bit = A := ⟨_, rfl⟩
 rw [hA] at hq ⊢
 obtain ⟨R, hR⟩ : ∃ R, 2 * r + (if A % 2 = 1 then n else 0) = R := ⟨_, rfl⟩
 rw [hR]
 have h1 := Int.mul_ediv_add_emod R d
 rw [Int.add_mul]
 have h2 : n * A = 2 * (n * (A / 2)) + (if A % 2 = 1 then n else 0) := by
  have h3 := Int.mul_ediv_add_emod A 2
  have h4 := Int.emod_two_eq A
  generalize A / 2 = B at *
  rcases h4 with h4 | h4
  ·
   rw [h4] at h3 ⊢; rw [if_neg (by omega), ← h3]; grind
  ·
   rw [h4] at h3 ⊢; rw [if_pos rfl, ← h3]; grind
 rw [h2, ← hq]
 have : R / d * d = d * (R / d) := Int.mul_comm _ _
 rw [Int.mul_assoc]
 omega
section
variable {n a d : Int} (hn : 0 ≤ n) (hnd : n ≤ d) (ha : 0 ≤ a) (ha' : a ≤ 16777216) (hd : 0 < d) (hd' : d ≤ 281474976710656)
include hn hnd ha ha' hd hd'
theorem share_step {q r bit : Int} (hb : 0 < bit) (hb' : bit ≤ 16777216) (q0 : 0 ≤ q) (q1 : q ≤ 16777216) (r0 : 0 ≤ r) (r1 : r < d) (k : Nat) :
  ref_Share.l0 (k + 1) n a d q r bit = ref_Share.l0 k n a d (2 * q + (2 * r + (if a / bit % 2 = 1 then n else 0)) / d) ((2 * r + (if a / bit % 2 = 1 then n else 0)) % d) (bit / 2) := by
 have ab := div_bounds ha hb
 have b2 := div_bounds (Int.le_of_lt hb) (show (0 : Int) < 2 by omega)
 have eb : wrap64 (Int.tdiv bit 2) = bit / 2 := by rw [Int.tdiv_eq_ediv_of_nonneg (by omega), w64 (by omega) (by omega)]
 have ed : Int.tmod (wrap64 (Int.tdiv a bit)) 2 = a / bit % 2 := by
  rw [Int.tdiv_eq_ediv_of_nonneg ha, w64 (by omega) (by omega), Int.tmod_eq_emod_of_nonneg ab.1]
 simp only [ref_Share.l0]
 rw [if_pos hb, if_neg (show ¬ bit = 0 by omega), ed, eb]
 by_cases hbit : a / bit % 2 = 1
 ·
  have dz := div_bounds (n := 2 * r + n) (by omega) hd
  rw [if_pos hbit, if_pos hbit, if_neg (show ¬ d = 0 by omega), w64 (n := 2 * q) (by omega) (by omega), w64 (n := 2 * r) (by omega) (by omega), w64 (n := 2 * r + n) (by omega) (by omega), Int.tdiv_eq_ediv_of_nonneg (by omega),
   w64 (n := (2 * r + n) / d) (by omega) (by omega), w64 (n := 2 * q + (2 * r + n) / d) (by omega) (by omega), Int.tmod_eq_emod_of_nonneg (by omega)]
 ·
  have dz := div_bounds (n := 2 * r) (by omega) hd
  rw [if_neg hbit, if_neg hbit, if_neg (show ¬ d = 0 by omega), Int.add_zero, w64 (n := 2 * q) (by omega) (by omega), w64 (n := 2 * r) (by omega) (by omega), Int.tdiv_eq_ediv_of_nonneg (by omega),
   w64 (n := 2 * r / d) (by omega) (by omega), w64 (n := 2 * q + 2 * r / d) (by omega) (by omega), Int.tmod_eq_emod_of_nonneg (by omega)]
theorem share_q {q r A : Int} (hA : 0 ≤ A) (r0 : 0 ≤ r) (e : q * d + r = n * A) : q ≤ A := by
 by_cases h : q ≤ A
 ·
  exact h
 ·
  have h1 : (A + 1) * d ≤ q * d := Int.mul_le_mul_of_nonneg_right (by omega) (by omega)
  have h2 : n * A ≤ d * A := Int.mul_le_mul_of_nonneg_right hnd hA
  have h3 : d * A = A * d := Int.mul_comm _ _
  rw [Int.add_mul] at h1
  omega
theorem share_loop : ∀ (j : Nat) (bit q r : Int), bit = (2 : Int) ^ j → bit ≤ 16777216 → 0 ≤ q → 0 ≤ r → r < d → q * d + r = n * (a / (2 * bit)) → Evn (fun k => ref_Share.l0 k n a d q r bit) (n * a / d, decide (n * a % d > 0)) := by
 intro j
 induction j with
 | zero =>
  intro bit q r hb hle q0 r0 r1 inv
  obtain rfl : bit = 1 := by rw [hb]; rfl
  have A0 := div_bounds ha (show (0 : Int) < 2 * 1 by omega)
  have q1 := share_q hn hnd ha ha' hd hd' A0.1 r0 inv
  have key := share_arith (n := n) (a := a) (d := d) (bit := 1) (q := q) (r := r) (by omega) inv
  have st := share_step hn hnd ha ha' hd hd' (q := q) (r := r) (bit := 1) (by omega) (by omega) q0 (by omega) r0 r1
  obtain ⟨Z, hZ⟩ : ∃ Z, 2 * r + (if a / 1 % 2 = 1 then n else 0) = Z := ⟨_, rfl⟩
  rw [hZ] at key
  have m0 := Int.emod_nonneg Z (show d ≠ 0 by omega)
  have m1 := Int.emod_lt_of_pos Z hd
  rw [Int.ediv_one] at key
  refine Evn.step (Evn.step (Evn.of fun k => ?_))
  rw [st, hZ]
  simp only [ref_Share.l0]
  rw [if_neg (by decide)]
  have e1 : n * a / d = 2 * q + Z / d := by
   rw [← key, Int.add_comm, Int.add_mul_ediv_right _ _ (by omega), Int.ediv_eq_zero_of_lt m0 m1]; omega
  have e2 : n * a % d = Z % d := by
   rw [← key, Int.add_comm, Int.add_mul_emod_self_right, Int.emod_eq_of_lt m0 m1]
  rw [e1, e2]
 | succ j ih =>
  intro bit q r hb hle q0 r0 r1 inv
  have hp : (0 : Int) < 2 ^ j := Int.pow_pos (by omega)
  have hb2 : bit = 2 ^ j * 2 := by rw [hb, Int.pow_succ]
  have hbit : 0 < bit := by omega
  have A0 := div_bounds ha (show (0 : Int) < 2 * bit by omega)
  have q1 := share_q hn hnd ha ha' hd hd' A0.1 r0 inv
  have key := share_arith (n := n) (a := a) (d := d) (bit := bit) (q := q) (r := r) hbit inv
  have st := share_step hn hnd ha ha' hd hd' (q := q) (r := r) (bit := bit) hbit hle q0 (by omega) r0 r1
  obtain ⟨Z, hZ⟩ : ∃ Z, 2 * r + (if a / bit % 2 = 1 then n else 0) = Z := ⟨_, rfl⟩
  rw [hZ] at key
  have Z0 : 0 ≤ Z := by rw [← hZ]; split <;> omega
  have m0 := Int.emod_nonneg Z (show d ≠ 0 by omega)
  have m1 := Int.emod_lt_of_pos Z hd
  have dz := div_bounds Z0 hd
  have eb : bit / 2 = 2 ^ j := by omega
  refine Evn.step (Evn.ext (ih (bit / 2) (2 * q + Z / d) (Z % d) eb (by omega) (by omega) m0 m1 ?_) fun k => by rw [st, hZ])
  rw [key, show 2 * (bit / 2) = bit by omega]
theorem share_ev : Evn (fun k => ref_Share.f k n a d) (n * a / d, decide (n * a % d > 0)) := by
 refine share_loop hn hnd ha ha' hd hd' 24 16777216 0 0 (by decide) (by omega) (Int.le_refl _) (Int.le_refl _) hd ?_
 rw [Int.ediv_eq_zero_of_lt ha (by omega)]; omega
end
theorem thr_facts {a b : List S57} (ha : Good a) (hb : Good b) {x : Int} (hx : inB a x = true) (i0 : (px b 0 : Rat) ≤ valR a x) (iL : valR a x ≤ (px b (b.length - 1) : Rat)) {N D : Int} (hN : (valR a x).num = N) (hD : ((valR a x).den : Int) = D) :
  ∃ (j : Nat) (q : Int) (r : Bool), Evn (fun k => ref_line.f k b (N / D)) (j : Int) ∧ j + 1 < b.length ∧ (0 ≤ px b j * D ∧ px b j * D ≤ 281474976710656) ∧ 0 ≤ N - px b j * D ∧ (0 < D * (px b (j + 1) - px b j) ∧ D * (px b (j + 1) - px b j) ≤ 281474976710656) ∧
   Evn (fun k => ref_Share.f k (N - px b j * D) (py b (j + 1) - py b j) (D * (px b (j + 1) - px b j))) (q, r) ∧ (0 ≤ py b j + q ∧ py b j + q ≤ 16777216) ∧ curve_Through.f a b x = some (py b j + q, if r = true then py b j + q + 1 else py b j + q, 0) := by
 have a2 := ha.len2
 have b2 := hb.len2
 have b64 := hb.len64
 have vb := val_bounds ha hx
 obtain ⟨v, hv⟩ : ∃ v, valR a x = v := ⟨_, rfl⟩
 obtain ⟨lo, hi, u, eT, ou, hlo, hhi⟩ := through_in_eq ha hb hx i0 iL
 rw [hv] at vb i0 iL hN hD ou
 have e1 : ∀ z : Int, (z : Rat) / ((1 : Int) : Rat) = z := fun z => by grind
 have dN := div_bounds vb.1 vb.2.2.1
 obtain ⟨j, hl, hj, j0, j1⟩ := line_ev hb (v.num / (v.den : Int))
 have fl := floor_val v
 have m0 : (px b j : Rat) ≤ v := by
  rcases j0 with rfl | j0
  ·
   exact i0
  ·
   exact (fl _).1 j0
 have m1 : v ≤ (px b (j + 1) : Rat) := by
  rcases j1 with j1 | j1
  ·
   rw [show j + 1 = b.length - 1 by omega]; exact iL
  ·
   have : ¬ px b (j + 1) ≤ v.num / (v.den : Int) := by omega
   rw [fl] at this
   grind
 have ok := line_okG hb hj
 have hw := ok.wide
 have hh := ok.high
 have bxj := hb.bx j (by omega)
 have bxj1 := hb.bx (j + 1) hj
 have byj := hb.by_ j (by omega)
 have byj1 := hb.by_ (j + 1) hj
 have ixj := hb.ix j hj
 have iyj := hb.iy j hj
 have s0 := div_le_div_iff (px b j) 1 v.num v.den (by omega) vb.2.2.1
 have s1 := div_le_div_iff v.num v.den (px b (j + 1)) 1 vb.2.2.1 (by omega)
 rw [rat_eta, e1] at s0 s1
 have s0 := s0.1 m0
 have s1 := s1.1 m1
 have hon := line_at_rat hb (mem_linesOf.2 ⟨j, hj, rfl⟩) m0 m1
 have hveq : v = (N : Rat) / (D : Rat) := by rw [← hN, ← hD]; exact (rat_eta v).symm
 rw [hN] at vb dN hl s0 s1
 rw [hD] at vb dN hl s0 s1
 have hwi : wideI (b.getD j z57, b.getD (j + 1) z57) = px b (j + 1) - px b j := rfl
 have hhi' : highI (b.getD j z57, b.getD (j + 1) z57) = py b (j + 1) - py b j := rfl
 obtain ⟨W, hW⟩ : ∃ W, wideI (b.getD j z57, b.getD (j + 1) z57) = W := ⟨_, rfl⟩
 obtain ⟨H, hH⟩ : ∃ H, highI (b.getD j z57, b.getD (j + 1) z57) = H := ⟨_, rfl⟩
 rw [hW] at hw hwi
 rw [hH] at hh hhi'
 have eu : (b.getD j z57, b.getD (j + 1) z57).1.f1 = py b j := rfl
 have ex : (b.getD j z57, b.getD (j + 1) z57).1.f0 = px b j := rfl
 rw [eu, ex, hW, hH] at hon
 have m3 : 0 < D * W := Int.mul_pos vb.2.2.1 hw.1
 have m3' := mulb (Int.le_of_lt vb.2.2.1) vb.2.2.2 (Int.le_of_lt hw.1) hw.2
 have pj := mulb (a := px b j) (b := D) bxj.1 bxj.2 (Int.le_of_lt vb.2.2.1) vb.2.2.2
 have eDW : D * W = px b (j + 1) * D - px b j * D := by rw [hwi]; grind
 have t0 : 0 ≤ N - px b j * D := by omega
 have t1 : N - px b j * D ≤ D * W := by omega
 have hS := share_ev t0 t1 (Int.le_of_lt hh.1) hh.2 m3 (by omega)
 have huZ : (py b j : Rat) + (v - px b j) * ((H : Rat) / (W : Rat)) = (py b j : Rat) + (((N - px b j * D) * H : Int) : Rat) / ((D * W : Int) : Rat) := by
  have hDr := cast_pos vb.2.2.1
  have hWr := cast_pos hw.1
  rw [hveq, Rat.intCast_mul, Rat.intCast_sub, Rat.intCast_mul, Rat.intCast_mul]
  have n1 : (D : Rat) ≠ 0 := by grind
  have n2 : (W : Rat) ≠ 0 := by grind
  grind
 rw [huZ] at hon
 have huq := On.unique hb.rising ou hon
 obtain ⟨Z, hZ⟩ : ∃ Z, (N - px b j * D) * H = Z := ⟨_, rfl⟩
 obtain ⟨d, hd⟩ : ∃ d, D * W = d := ⟨_, rfl⟩
 rw [hZ, hd] at hS huq
 rw [hd] at m3 m3'
 have Zn : 0 ≤ Z := by rw [← hZ]; exact Int.mul_nonneg t0 (by omega)
 have hqb : 0 ≤ Z / d ∧ Z / d ≤ H := by
  refine ⟨Int.ediv_nonneg Zn (by omega), ?_⟩
  have : Z ≤ d * H := by rw [← hZ, ← hd]; exact Int.mul_le_mul_of_nonneg_right t1 (by omega)
  have := Int.ediv_le_ediv m3 this
  rwa [Int.mul_ediv_cancel_left _ (by omega)] at this
 -- the two answers
 have hlo' : ∀ y : Int, y ≤ py b j + Z / d ↔ (y : Rat) ≤ u := fun y => by
  have := floor_iff m3 (n := Z) (y - py b j)
  rw [Rat.intCast_sub] at this
  have e : y ≤ py b j + Z / d ↔ y - py b j ≤ Z / d := by omega
  rw [e, this, huq]
  constructor <;> intro h <;> grind
 have elo : lo = py b j + Z / d := by
  have p := (hlo lo).1 (Int.le_refl _)
  have p' := (hlo' lo).2 p
  have q := (hlo' _).1 (Int.le_refl (py b j + Z / d))
  have q' := (hlo _).2 q
  omega
 have ehi : hi = if Z % d > 0 then py b j + Z / d + 1 else py b j + Z / d := by
  have md := Int.emod_nonneg Z (show d ≠ 0 by omega)
  have up : hi ≤ lo + 1 := (hhi _).2 (by
   have : ¬ ((lo + 1 : Int) : Rat) ≤ u := fun h => by have := (hlo _).2 h; omega
   grind)
  have dn : lo ≤ hi := of_cast_le (Rat.le_trans ((hlo lo).1 (Int.le_refl _)) ((hhi hi).1 (Int.le_refl _)))
  by_cases hz : Z % d > 0
  ·
   rw [if_pos hz]
   have : ¬ hi ≤ lo := by
    rw [hhi]
    intro hle
    have l1 := (hlo lo).1 (Int.le_refl _)
    have eq : u = (lo : Rat) := by grind
    rw [huq] at eq
    have er : (Z : Rat) / (d : Rat) = ((lo - py b j : Int) : Rat) := by rw [Rat.intCast_sub]; grind
    have := div_eq_div_iff Z d (lo - py b j) 1 m3 (by omega)
    rw [e1] at this
    have := this.1 er
    have : Z % d = 0 := by rw [show Z = (lo - py b j) * d by omega, Int.mul_emod_left]
    omega
   omega
  ·
   rw [if_neg hz]
   have hz0 : Z % d = 0 := by omega
   have hq : Z / d * d = Z := by have := Int.mul_ediv_add_emod Z d; rw [hz0] at this; rw [Int.mul_comm]; omega
   have er : (Z : Rat) / (d : Rat) = ((Z / d : Int) : Rat) := by
    have := div_eq_div_iff Z d (Z / d) 1 m3 (by omega)
    rw [e1] at this
    exact this.2 (by omega)
   have : hi ≤ lo := by
    rw [hhi, huq, er, elo, Rat.intCast_add]
    exact Rat.le_refl
   omega
 have eT' := eT
 rw [elo, ehi] at eT'
 refine ⟨j, Z / d, decide (Z % d > 0), hl, hj, pj, t0, ⟨by rw [← hwi, hd]; exact m3, by rw [← hwi, hd]; omega⟩, ?_, by omega, ?_⟩
 ·
  rw [← hwi, ← hhi', hd]; exact hS
 ·
  rw [eT']
  by_cases hz : Z % d > 0
  ·
   rw [decide_eq_true hz, if_pos hz, if_pos rfl]
  ·
   rw [decide_eq_false hz, if_neg hz, if_neg (by simp)]
end Go.Proofs.YtlhhpogaaneamaaDoor.X
namespace Go.Proofs.YtlhhpogaaneamaaDoor.X
open Go.RowKit Go.Shelf Go.Proofs.YtlhhpogaaneamaaDoorW.PrintWords Go.Proofs.YtlhhpogaaneamaaDoorW.PrintLast Go.Proofs.YtlhhpogaaneamaaDoorW.PrintMore
set_option linter.unusedVariables false
set_option linter.unusedSimpArgs false
set_option maxRecDepth 100000 in
set_option maxHeartbeats 4000000 in
theorem refthr_bad0 (A0 : Option Addr) (c0 : Nat) (l0 : List S57) (A1 : Option Addr) (c1 : Nat) (l1 : List S57) (x : Int) (w : World) (hC0 : Kd.C k57 w A0 l0.length l0) (hc0 : l0.length ≤ c0) (hC1 : Kd.C k57 w A1 l1.length l1) (hc1 : l1.length ≤ c1) (kv0 : Nat) (hv0 : ref_Valid.f kv0 l0 = some false) :
  Calls Tryd.prog 41 #[.slice A0 l0.length c0, .slice A1 l1.length c1, .int .i64 x] w fun e w' => e = .returned (.tuple #[.agg #[.int .i64 0, .int .i64 0], .int .i64 10]) ∧ Below w.heap.size w w' := by
 have HB0 := Aside0.mk (Below.refl w.heap.size w)
 have hu43 := Tryd.underlying43
 have hu25 := Tryd.underlying25
 have hu57 := Tryd.underlying57
 have HR0 := Aside0.mk hC0
 clear hC0
 have HR1 := Aside0.mk hC1
 clear hC1
 go_enter Tryd.func41, Tryd.ntmps41
 go_wp2_with fail
 obtain ⟨u1, hu1⟩ : ∃ u, w.alloc (.cells #[.int .i64 0, .int .i64 0] 43) = u := ⟨_, rfl⟩
 have hb_u1 : Below w.heap.size w u1 := by rw [← hu1]; exact (Below.refl _ w).alloc (Nat.le_refl _) _
 have K_o := Aside0.mk (show Blk u1 (w.heap.size) 43 #[.int .i64 0, .int .i64 0] by rw [← hu1]; first | exact Blk.new w 43 _ | (have := Blk.new w 43 #[.int .i64 0, .int .i64 0]; simp only [World.size_alloc, World.size_alloc] at this; exact this))
 rw [hu1]
 have hz_u1 := Aside0.mk (show u1.heap.size = w.heap.size + 1 by rw [← hu1]; exact World.size_alloc _ _)
 clear hu1
 have HB2 := Aside0.mk (HB0.out.trans (hb_u1.mono HB0.out.size))
 clear HB0
 clear hb_u1
 refine (ref_Valid.calls kv0 A0 c0 l0 false _ (Kd.C_below HR0.out HB2.out) hc0 hv0).mono ?_
 rintro e w' ⟨rfl, ⟨nd, rfl⟩⟩
 obtain ⟨w3, hw3⟩ : ∃ u, u1.drewN nd = u := ⟨_, rfl⟩
 have hb : Below u1.heap.size u1 w3 := by rw [← hw3]; exact pw_below_drewN (Below.refl _ _) nd
 rw [hw3]
 clear hw3
 have P4 := Aside0.mk hb
 have HB5 := Aside0.mk (HB2.out.trans (hb.mono HB2.out.size))
 clear HB2
 clear hb
 have x6 := (K_o.out.below P4.out K_o.out.lt).cell 0
 rw [show (#[.int .i64 0, .int .i64 0] : Array Value)[0]? = some (.int .i64 0) from rfl] at x6
 have x7 := (K_o.out.below P4.out K_o.out.lt).cell 1
 rw [show (#[.int .i64 0, .int .i64 0] : Array Value)[1]? = some (.int .i64 0) from rfl] at x7
 have fz0 := (K_o.out.below P4.out K_o.out.lt).frozen 0
 have fz1 := (K_o.out.below P4.out K_o.out.lt).frozen 1
 have G1 := Aside0.mk (show Blk ((w3.setCell ⟨w.heap.size, 0, none⟩ (.int .i64 0)).setCell ⟨w.heap.size, 1, none⟩ (.int .i64 0)) w.heap.size 43 #[.int .i64 0, .int .i64 0] by have h := ((K_o.out.below P4.out K_o.out.lt).set_ 0 (.int .i64 0)).set_ 1 (.int .i64 0); simpa using h)
 have HB9 := Aside0.mk (show Below w.heap.size w ((w3.setCell ⟨w.heap.size, 0, none⟩ (.int .i64 0)).setCell ⟨w.heap.size, 1, none⟩ (.int .i64 0)) from ((HB5.out.setCell (p := ⟨w.heap.size, 0, none⟩) (Nat.le_refl _) _).setCell (p := ⟨w.heap.size, 1, none⟩) (Nat.le_refl _) _))
 go_wp2_with fail
 have g0 := G1.out.cell 0
 have g1 := G1.out.cell 1
 exact bodyPost_ret (v := .tuple #[.agg #[.int .i64 0, .int .i64 0], .int .i64 10]) (by simp [results, Tryd.f41, go_sem, g0, g1]) rfl ⟨rfl, HB9.out⟩
set_option maxRecDepth 100000 in
set_option maxHeartbeats 4000000 in
theorem refthr_bad1 (A0 : Option Addr) (c0 : Nat) (l0 : List S57) (A1 : Option Addr) (c1 : Nat) (l1 : List S57) (x : Int) (w : World) (hC0 : Kd.C k57 w A0 l0.length l0) (hc0 : l0.length ≤ c0) (hC1 : Kd.C k57 w A1 l1.length l1) (hc1 : l1.length ≤ c1) (kv0 kv1 : Nat) (hv0 : ref_Valid.f kv0 l0 = some true) (hv1 : ref_Valid.f kv1 l1 = some false) :
  Calls Tryd.prog 41 #[.slice A0 l0.length c0, .slice A1 l1.length c1, .int .i64 x] w fun e w' => e = .returned (.tuple #[.agg #[.int .i64 0, .int .i64 0], .int .i64 10]) ∧ Below w.heap.size w w' := by
 have HB0 := Aside0.mk (Below.refl w.heap.size w)
 have hu43 := Tryd.underlying43
 have hu25 := Tryd.underlying25
 have hu57 := Tryd.underlying57
 have HR0 := Aside0.mk hC0
 clear hC0
 have HR1 := Aside0.mk hC1
 clear hC1
 go_enter Tryd.func41, Tryd.ntmps41
 go_wp2_with fail
 obtain ⟨u1, hu1⟩ : ∃ u, w.alloc (.cells #[.int .i64 0, .int .i64 0] 43) = u := ⟨_, rfl⟩
 have hb_u1 : Below w.heap.size w u1 := by rw [← hu1]; exact (Below.refl _ w).alloc (Nat.le_refl _) _
 have K_o := Aside0.mk (show Blk u1 (w.heap.size) 43 #[.int .i64 0, .int .i64 0] by rw [← hu1]; first | exact Blk.new w 43 _ | (have := Blk.new w 43 #[.int .i64 0, .int .i64 0]; simp only [World.size_alloc, World.size_alloc] at this; exact this))
 rw [hu1]
 have hz_u1 := Aside0.mk (show u1.heap.size = w.heap.size + 1 by rw [← hu1]; exact World.size_alloc _ _)
 clear hu1
 have HB2 := Aside0.mk (HB0.out.trans (hb_u1.mono HB0.out.size))
 clear HB0
 clear hb_u1
 refine (ref_Valid.calls kv0 A0 c0 l0 true _ (Kd.C_below HR0.out HB2.out) hc0 hv0).mono ?_
 rintro e w' ⟨rfl, ⟨nd, rfl⟩⟩
 obtain ⟨w3, hw3⟩ : ∃ u, u1.drewN nd = u := ⟨_, rfl⟩
 have hb : Below u1.heap.size u1 w3 := by rw [← hw3]; exact pw_below_drewN (Below.refl _ _) nd
 rw [hw3]
 clear hw3
 have P4 := Aside0.mk hb
 have HB5 := Aside0.mk (HB2.out.trans (hb.mono HB2.out.size))
 clear HB2
 clear hb
 go_wp2_with fail
 refine (ref_Valid.calls kv1 A1 c1 l1 false _ (Kd.C_below HR1.out HB5.out) hc1 hv1).mono ?_
 rintro e w' ⟨rfl, ⟨nd, rfl⟩⟩
 obtain ⟨w6, hw6⟩ : ∃ u, w3.drewN nd = u := ⟨_, rfl⟩
 have hb : Below w3.heap.size w3 w6 := by rw [← hw6]; exact pw_below_drewN (Below.refl _ _) nd
 rw [hw6]
 clear hw6
 have P7 := Aside0.mk (P4.out.trans (hb.mono P4.out.size))
 clear P4
 have HB8 := Aside0.mk (HB5.out.trans (hb.mono HB5.out.size))
 clear HB5
 clear hb
 have x9 := (K_o.out.below P7.out K_o.out.lt).cell 0
 rw [show (#[.int .i64 0, .int .i64 0] : Array Value)[0]? = some (.int .i64 0) from rfl] at x9
 have x10 := (K_o.out.below P7.out K_o.out.lt).cell 1
 rw [show (#[.int .i64 0, .int .i64 0] : Array Value)[1]? = some (.int .i64 0) from rfl] at x10
 have fz0 := (K_o.out.below P7.out K_o.out.lt).frozen 0
 have fz1 := (K_o.out.below P7.out K_o.out.lt).frozen 1
 have G1 := Aside0.mk (show Blk ((w6.setCell ⟨w.heap.size, 0, none⟩ (.int .i64 0)).setCell ⟨w.heap.size, 1, none⟩ (.int .i64 0)) w.heap.size 43 #[.int .i64 0, .int .i64 0] by have h := ((K_o.out.below P7.out K_o.out.lt).set_ 0 (.int .i64 0)).set_ 1 (.int .i64 0); simpa using h)
 have HB9 := Aside0.mk (show Below w.heap.size w ((w6.setCell ⟨w.heap.size, 0, none⟩ (.int .i64 0)).setCell ⟨w.heap.size, 1, none⟩ (.int .i64 0)) from ((HB8.out.setCell (p := ⟨w.heap.size, 0, none⟩) (Nat.le_refl _) _).setCell (p := ⟨w.heap.size, 1, none⟩) (Nat.le_refl _) _))
 go_wp2_with fail
 have g0 := G1.out.cell 0
 have g1 := G1.out.cell 1
 exact bodyPost_ret (v := .tuple #[.agg #[.int .i64 0, .int .i64 0], .int .i64 10]) (by simp [results, Tryd.f41, go_sem, g0, g1]) rfl ⟨rfl, HB9.out⟩
set_option maxRecDepth 100000 in
set_option maxHeartbeats 4000000 in
theorem refthr_out (A0 : Option Addr) (c0 : Nat) (l0 : List S57) (A1 : Option Addr) (c1 : Nat) (l1 : List S57) (x : Int) (w : World) (hC0 : Kd.C k57 w A0 l0.length l0) (hc0 : l0.length ≤ c0) (hC1 : Kd.C k57 w A1 l1.length l1) (hc1 : l1.length ≤ c1) (kv0 kv1 : Nat) (hv0 : ref_Valid.f kv0 l0 = some true) (hv1 : ref_Valid.f kv1 l1 = some true) (hin : ref_In.f l0 x = some false) :
  Calls Tryd.prog 41 #[.slice A0 l0.length c0, .slice A1 l1.length c1, .int .i64 x] w fun e w' => e = .returned (.tuple #[.agg #[.int .i64 0, .int .i64 0], .int .i64 1]) ∧ Below w.heap.size w w' := by
 have HB0 := Aside0.mk (Below.refl w.heap.size w)
 have hu43 := Tryd.underlying43
 have hu25 := Tryd.underlying25
 have hu57 := Tryd.underlying57
 have HR0 := Aside0.mk hC0
 clear hC0
 have HR1 := Aside0.mk hC1
 clear hC1
 go_enter Tryd.func41, Tryd.ntmps41
 go_wp2_with fail
 obtain ⟨u1, hu1⟩ : ∃ u, w.alloc (.cells #[.int .i64 0, .int .i64 0] 43) = u := ⟨_, rfl⟩
 have hb_u1 : Below w.heap.size w u1 := by rw [← hu1]; exact (Below.refl _ w).alloc (Nat.le_refl _) _
 have K_o := Aside0.mk (show Blk u1 (w.heap.size) 43 #[.int .i64 0, .int .i64 0] by rw [← hu1]; first | exact Blk.new w 43 _ | (have := Blk.new w 43 #[.int .i64 0, .int .i64 0]; simp only [World.size_alloc, World.size_alloc] at this; exact this))
 rw [hu1]
 have hz_u1 := Aside0.mk (show u1.heap.size = w.heap.size + 1 by rw [← hu1]; exact World.size_alloc _ _)
 clear hu1
 have HB2 := Aside0.mk (HB0.out.trans (hb_u1.mono HB0.out.size))
 clear HB0
 clear hb_u1
 refine (ref_Valid.calls kv0 A0 c0 l0 true _ (Kd.C_below HR0.out HB2.out) hc0 hv0).mono ?_
 rintro e w' ⟨rfl, ⟨nd, rfl⟩⟩
 obtain ⟨w3, hw3⟩ : ∃ u, u1.drewN nd = u := ⟨_, rfl⟩
 have hb : Below u1.heap.size u1 w3 := by rw [← hw3]; exact pw_below_drewN (Below.refl _ _) nd
 rw [hw3]
 clear hw3
 have P4 := Aside0.mk hb
 have HB5 := Aside0.mk (HB2.out.trans (hb.mono HB2.out.size))
 clear HB2
 clear hb
 go_wp2_with fail
 refine (ref_Valid.calls kv1 A1 c1 l1 true _ (Kd.C_below HR1.out HB5.out) hc1 hv1).mono ?_
 rintro e w' ⟨rfl, ⟨nd, rfl⟩⟩
 obtain ⟨w6, hw6⟩ : ∃ u, w3.drewN nd = u := ⟨_, rfl⟩
 have hb : Below w3.heap.size w3 w6 := by rw [← hw6]; exact pw_below_drewN (Below.refl _ _) nd
 rw [hw6]
 clear hw6
 have P7 := Aside0.mk (P4.out.trans (hb.mono P4.out.size))
 clear P4
 have HB8 := Aside0.mk (HB5.out.trans (hb.mono HB5.out.size))
 clear HB5
 clear hb
 go_wp2_with fail
 refine (ref_In.calls A0 c0 l0 x false _ (Kd.C_below HR0.out HB8.out) hc0 hin).mono ?_
 rintro e w' ⟨rfl, ⟨nd, rfl⟩⟩
 obtain ⟨w9, hw9⟩ : ∃ u, w6.drewN nd = u := ⟨_, rfl⟩
 have hb : Below w6.heap.size w6 w9 := by rw [← hw9]; exact pw_below_drewN (Below.refl _ _) nd
 rw [hw9]
 clear hw9
 have P10 := Aside0.mk (P7.out.trans (hb.mono P7.out.size))
 clear P7
 have HB11 := Aside0.mk (HB8.out.trans (hb.mono HB8.out.size))
 clear HB8
 clear hb
 have x12 := (K_o.out.below P10.out K_o.out.lt).cell 0
 rw [show (#[.int .i64 0, .int .i64 0] : Array Value)[0]? = some (.int .i64 0) from rfl] at x12
 have x13 := (K_o.out.below P10.out K_o.out.lt).cell 1
 rw [show (#[.int .i64 0, .int .i64 0] : Array Value)[1]? = some (.int .i64 0) from rfl] at x13
 have fz0 := (K_o.out.below P10.out K_o.out.lt).frozen 0
 have fz1 := (K_o.out.below P10.out K_o.out.lt).frozen 1
 have G1 := Aside0.mk (show Blk ((w9.setCell ⟨w.heap.size, 0, none⟩ (.int .i64 0)).setCell ⟨w.heap.size, 1, none⟩ (.int .i64 0)) w.heap.size 43 #[.int .i64 0, .int .i64 0] by have h := ((K_o.out.below P10.out K_o.out.lt).set_ 0 (.int .i64 0)).set_ 1 (.int .i64 0); simpa using h)
 have HB9 := Aside0.mk (show Below w.heap.size w ((w9.setCell ⟨w.heap.size, 0, none⟩ (.int .i64 0)).setCell ⟨w.heap.size, 1, none⟩ (.int .i64 0)) from ((HB11.out.setCell (p := ⟨w.heap.size, 0, none⟩) (Nat.le_refl _) _).setCell (p := ⟨w.heap.size, 1, none⟩) (Nat.le_refl _) _))
 go_wp2_with fail
 have g0 := G1.out.cell 0
 have g1 := G1.out.cell 1
 exact bodyPost_ret (v := .tuple #[.agg #[.int .i64 0, .int .i64 0], .int .i64 1]) (by simp [results, Tryd.f41, go_sem, g0, g1]) rfl ⟨rfl, HB9.out⟩
set_option maxRecDepth 100000 in
set_option maxHeartbeats 4000000 in
theorem refthr_edgea (A0 : Option Addr) (c0 : Nat) (l0 : List S57) (A1 : Option Addr) (c1 : Nat) (l1 : List S57) (x : Int) (w : World) (hC0 : Kd.C k57 w A0 l0.length l0) (hc0 : l0.length ≤ c0) (hC1 : Kd.C k57 w A1 l1.length l1) (hc1 : l1.length ≤ c1) (kv0 kv1 : Nat) (hv0 : ref_Valid.f kv0 l0 = some true) (hv1 : ref_Valid.f kv1 l1 = some true) (hin : ref_In.f l0 x = some true) (kt : Nat) (N D f0 f1 : Int) (hat : ref_at.f kt l0 x = some (N, D)) (hf0 : ref_From.f l1 = some f0) (hf1 : ref_To.f l1 = some f1) (m0 : IntKind.i64.wrap (f0 * D) = f0 * D) (m1 : IntKind.i64.wrap (f1 * D) = f1 * D) (c0' : decide (N < f0 * D) = true) :
  Calls Tryd.prog 41 #[.slice A0 l0.length c0, .slice A1 l1.length c1, .int .i64 x] w fun e w' => e = .returned (.tuple #[.agg #[.int .i64 0, .int .i64 0], .int .i64 1]) ∧ Below w.heap.size w w' := by
 have HB0 := Aside0.mk (Below.refl w.heap.size w)
 have hu43 := Tryd.underlying43
 have hu25 := Tryd.underlying25
 have hu57 := Tryd.underlying57
 have HR0 := Aside0.mk hC0
 clear hC0
 have HR1 := Aside0.mk hC1
 clear hC1
 go_enter Tryd.func41, Tryd.ntmps41
 go_wp2_with fail
 obtain ⟨u1, hu1⟩ : ∃ u, w.alloc (.cells #[.int .i64 0, .int .i64 0] 43) = u := ⟨_, rfl⟩
 have hb_u1 : Below w.heap.size w u1 := by rw [← hu1]; exact (Below.refl _ w).alloc (Nat.le_refl _) _
 have K_o := Aside0.mk (show Blk u1 (w.heap.size) 43 #[.int .i64 0, .int .i64 0] by rw [← hu1]; first | exact Blk.new w 43 _ | (have := Blk.new w 43 #[.int .i64 0, .int .i64 0]; simp only [World.size_alloc, World.size_alloc] at this; exact this))
 rw [hu1]
 have hz_u1 := Aside0.mk (show u1.heap.size = w.heap.size + 1 by rw [← hu1]; exact World.size_alloc _ _)
 clear hu1
 have HB2 := Aside0.mk (HB0.out.trans (hb_u1.mono HB0.out.size))
 clear HB0
 clear hb_u1
 refine (ref_Valid.calls kv0 A0 c0 l0 true _ (Kd.C_below HR0.out HB2.out) hc0 hv0).mono ?_
 rintro e w' ⟨rfl, ⟨nd, rfl⟩⟩
 obtain ⟨w3, hw3⟩ : ∃ u, u1.drewN nd = u := ⟨_, rfl⟩
 have hb : Below u1.heap.size u1 w3 := by rw [← hw3]; exact pw_below_drewN (Below.refl _ _) nd
 rw [hw3]
 clear hw3
 have P4 := Aside0.mk hb
 have HB5 := Aside0.mk (HB2.out.trans (hb.mono HB2.out.size))
 clear HB2
 clear hb
 go_wp2_with fail
 refine (ref_Valid.calls kv1 A1 c1 l1 true _ (Kd.C_below HR1.out HB5.out) hc1 hv1).mono ?_
 rintro e w' ⟨rfl, ⟨nd, rfl⟩⟩
 obtain ⟨w6, hw6⟩ : ∃ u, w3.drewN nd = u := ⟨_, rfl⟩
 have hb : Below w3.heap.size w3 w6 := by rw [← hw6]; exact pw_below_drewN (Below.refl _ _) nd
 rw [hw6]
 clear hw6
 have P7 := Aside0.mk (P4.out.trans (hb.mono P4.out.size))
 clear P4
 have HB8 := Aside0.mk (HB5.out.trans (hb.mono HB5.out.size))
 clear HB5
 clear hb
 go_wp2_with fail
 refine (ref_In.calls A0 c0 l0 x true _ (Kd.C_below HR0.out HB8.out) hc0 hin).mono ?_
 rintro e w' ⟨rfl, ⟨nd, rfl⟩⟩
 obtain ⟨w9, hw9⟩ : ∃ u, w6.drewN nd = u := ⟨_, rfl⟩
 have hb : Below w6.heap.size w6 w9 := by rw [← hw9]; exact pw_below_drewN (Below.refl _ _) nd
 rw [hw9]
 clear hw9
 have P10 := Aside0.mk (P7.out.trans (hb.mono P7.out.size))
 clear P7
 have HB11 := Aside0.mk (HB8.out.trans (hb.mono HB8.out.size))
 clear HB8
 clear hb
 go_wp2_with fail
 refine (ref_at.calls kt A0 c0 l0 x N D _ (Kd.C_below HR0.out HB11.out) hc0 hat).mono ?_
 rintro e w12 ⟨rfl, hb⟩
 have P13 := Aside0.mk (P10.out.trans (hb.mono P10.out.size))
 clear P10
 have HB14 := Aside0.mk (HB11.out.trans (hb.mono HB11.out.size))
 clear HB11
 clear hb
 go_wp2_with fail
 obtain ⟨u15, hu15⟩ : ∃ u, w12.alloc (.cells #[.int .i64 N, .int .i64 D] 25) = u := ⟨_, rfl⟩
 have hb_u15 : Below w12.heap.size w12 u15 := by rw [← hu15]; exact (Below.refl _ w12).alloc (Nat.le_refl _) _
 have K_p := Aside0.mk (show Blk u15 (w12.heap.size) 25 #[.int .i64 N, .int .i64 D] by rw [← hu15]; first | exact Blk.new w12 25 _ | (have := Blk.new w12 25 #[.int .i64 N, .int .i64 D]; simp only [World.size_alloc, World.size_alloc] at this; exact this))
 rw [hu15]
 have hz_u15 := Aside0.mk (show u15.heap.size = w12.heap.size + 1 by rw [← hu15]; exact World.size_alloc _ _)
 clear hu15
 have P16 := Aside0.mk (P13.out.trans (hb_u15.mono P13.out.size))
 clear P13
 have HB17 := Aside0.mk (HB14.out.trans (hb_u15.mono HB14.out.size))
 clear HB14
 clear hb_u15
 go_wp2_with fail
 have HFB := Aside0.mk (fun (X : World) (h : Below u15.heap.size u15 X) => And.intro (show X.cell? ⟨w12.heap.size, 0, none⟩ = some (.int .i64 N) from ((K_p.out.below h K_p.out.lt).cell 0).trans rfl) (show X.cell? ⟨w12.heap.size, 1, none⟩ = some (.int .i64 D) from ((K_p.out.below h K_p.out.lt).cell 1).trans rfl))
 have HI := (show Below u15.heap.size u15 u15.drew from below_drew1 (Below.refl _ _))
 refine wp_region_IN (n := 6) (I := fun X => Below u15.heap.size u15 X) (by kernel_rfl) ?_
 change AnyI _ _ _ _ _ _ _ _ _ _ (World.drew _)
 refine tk_ 0 (v := ?_) ?_ HI ?_
 rotate_left
 ·
  intro wI hI; obtain ⟨p0, p1⟩ := HFB.out _ hI; go_simp; try with_reducible rfl
 go_simp
 refine tk_ 1 (v := ?_) ?_ HI ?_
 rotate_left
 ·
  intro wI hI; obtain ⟨p0, p1⟩ := HFB.out _ hI; go_simp; try with_reducible rfl
 go_simp
 refine tk_ 2 (v := ?_) ?_ HI ?_
 rotate_left
 ·
  intro wI hI; obtain ⟨p0, p1⟩ := HFB.out _ hI; go_simp; try with_reducible rfl
 go_simp
 refine tk_ 4 (v := ?_) ?_ HI ?_
 rotate_left
 ·
  intro wI hI; obtain ⟨p0, p1⟩ := HFB.out _ hI; go_simp; try with_reducible rfl
 go_simp
 refine tk_ 5 (v := ?_) ?_ HI ?_
 rotate_left
 ·
  intro wI hI; obtain ⟨p0, p1⟩ := HFB.out _ hI; go_simp; try with_reducible rfl
 go_simp
 refine AnyI.one (i := 3) (by kernel_rfl) rfl (fun K hK => ?_)
 go_simp
 refine ⟨trivial, ?_⟩
 gi_at_call 47
 refine (callsIn_wide.2 (ref_From.calls A1 c1 l1 f0 _ (Kd.C_below HR1.out (HB17.out.trans (HI.mono HB17.out.size))) hc1 hf0)).mono ?_
 rintro e W1 ⟨rfl, hb6⟩
 have HI := HI.trans (hb6.below.mono HI.size)
 clear hb6
 refine hK _ _ HI ?_
 clear hK K
 refine tk_ 6 (v := ?_) ?_ HI ?_
 rotate_left
 ·
  intro wI hI; obtain ⟨p0, p1⟩ := HFB.out _ hI; go_simp; try with_reducible rfl
 go_simp
 refine tk_ 7 (v := .bool true) ?_ HI ?_
 ·
  intro wI hI; obtain ⟨p0, p1⟩ := HFB.out _ hI; go_simp; try with_reducible rfl
 go_simp
 refine tk_ 8 (v := .bool true) ?_ HI ?_
 ·
  intro wI hI; obtain ⟨p0, p1⟩ := HFB.out _ hI; go_simp; try with_reducible rfl
 go_simp
 refine AnyI.take (i := 9) (v := undef) rfl rfl (by kernel_rfl) (by kernel_rfl) (by kernel_rfl) (fun _ _ _ h => h) ⟨Or.inr ⟨by rfl, rfl⟩, fun _ => rfl⟩ HI ?_
 go_simp
 refine AnyI.take (i := 10) (v := undef) rfl rfl (by kernel_rfl) (by kernel_rfl) (by kernel_rfl) (fun _ _ _ h => h) ⟨Or.inr ⟨by rfl, rfl⟩, fun _ => rfl⟩ HI ?_
 go_simp
 refine AnyI.take (i := 11) (v := undef) rfl rfl (by kernel_rfl) (by kernel_rfl) (by kernel_rfl) (fun _ _ _ h => h) ⟨Or.inr ⟨by rfl, rfl⟩, fun _ => rfl⟩ HI ?_
 go_simp
 refine AnyI.take (i := 13) (v := undef) rfl rfl (by kernel_rfl) (by kernel_rfl) (by kernel_rfl) (fun _ _ _ h => h) ⟨Or.inr ⟨by rfl, rfl⟩, fun _ => rfl⟩ HI ?_
 go_simp
 refine AnyI.take (i := 14) (v := undef) rfl rfl (by kernel_rfl) (by kernel_rfl) (by kernel_rfl) (fun _ _ _ h => h) ⟨Or.inr ⟨by rfl, rfl⟩, fun _ => rfl⟩ HI ?_
 go_simp
 refine AnyI.one (i := 12) (by kernel_rfl) rfl (fun K hK => ?_)
 go_simp
 refine ⟨trivial, ?_⟩
 refine hK _ _ HI ?_
 clear hK K
 go_simp
 refine AnyI.take (i := 15) (v := undef) rfl rfl (by kernel_rfl) (by kernel_rfl) (by kernel_rfl) (fun _ _ _ h => h) ⟨Or.inr ⟨by rfl, rfl⟩, fun _ => rfl⟩ HI ?_
 go_simp
 refine AnyI.take (i := 16) (v := undef) rfl rfl (by kernel_rfl) (by kernel_rfl) (by kernel_rfl) (fun _ _ _ h => h) ⟨Or.inr ⟨by rfl, rfl⟩, fun _ => rfl⟩ HI ?_
 go_simp
 refine tk_ 17 (v := ?_) ?_ HI ?_
 rotate_left
 ·
  intro wI hI; obtain ⟨p0, p1⟩ := HFB.out _ hI; go_simp; try with_reducible rfl
 go_simp
 refine AnyI.done (by kernel_rfl) ?_ _
 simp only [OnlyN, Exit.then]
 clear HFB
 have P18 := Aside0.mk (P16.out.trans (HI.mono P16.out.size))
 clear P16
 have HB19 := Aside0.mk (HB17.out.trans (HI.mono HB17.out.size))
 clear HB17
 clear HI
 have x20 := (K_o.out.below P18.out K_o.out.lt).cell 0
 rw [show (#[.int .i64 0, .int .i64 0] : Array Value)[0]? = some (.int .i64 0) from rfl] at x20
 have x21 := (K_o.out.below P18.out K_o.out.lt).cell 1
 rw [show (#[.int .i64 0, .int .i64 0] : Array Value)[1]? = some (.int .i64 0) from rfl] at x21
 have fz0 := (K_o.out.below P18.out K_o.out.lt).frozen 0
 have fz1 := (K_o.out.below P18.out K_o.out.lt).frozen 1
 have G1 := Aside0.mk (show Blk ((W1.setCell ⟨w.heap.size, 0, none⟩ (.int .i64 0)).setCell ⟨w.heap.size, 1, none⟩ (.int .i64 0)) w.heap.size 43 #[.int .i64 0, .int .i64 0] by have h := ((K_o.out.below P18.out K_o.out.lt).set_ 0 (.int .i64 0)).set_ 1 (.int .i64 0); simpa using h)
 have HB9 := Aside0.mk (show Below w.heap.size w ((W1.setCell ⟨w.heap.size, 0, none⟩ (.int .i64 0)).setCell ⟨w.heap.size, 1, none⟩ (.int .i64 0)) from ((HB19.out.setCell (p := ⟨w.heap.size, 0, none⟩) (Nat.le_refl _) _).setCell (p := ⟨w.heap.size, 1, none⟩) (Nat.le_refl _) _))
 go_wp2_with fail
 have g0 := G1.out.cell 0
 have g1 := G1.out.cell 1
 exact bodyPost_ret (v := .tuple #[.agg #[.int .i64 0, .int .i64 0], .int .i64 1]) (by simp [results, Tryd.f41, go_sem, g0, g1]) rfl ⟨rfl, HB9.out⟩
set_option maxRecDepth 100000 in
set_option maxHeartbeats 4000000 in
theorem refthr_edgeb (A0 : Option Addr) (c0 : Nat) (l0 : List S57) (A1 : Option Addr) (c1 : Nat) (l1 : List S57) (x : Int) (w : World) (hC0 : Kd.C k57 w A0 l0.length l0) (hc0 : l0.length ≤ c0) (hC1 : Kd.C k57 w A1 l1.length l1) (hc1 : l1.length ≤ c1) (kv0 kv1 : Nat) (hv0 : ref_Valid.f kv0 l0 = some true) (hv1 : ref_Valid.f kv1 l1 = some true) (hin : ref_In.f l0 x = some true) (kt : Nat) (N D f0 f1 : Int) (hat : ref_at.f kt l0 x = some (N, D)) (hf0 : ref_From.f l1 = some f0) (hf1 : ref_To.f l1 = some f1) (m0 : IntKind.i64.wrap (f0 * D) = f0 * D) (m1 : IntKind.i64.wrap (f1 * D) = f1 * D) (c0' : decide (N < f0 * D) = false) (c1' : decide (f1 * D < N) = true) :
  Calls Tryd.prog 41 #[.slice A0 l0.length c0, .slice A1 l1.length c1, .int .i64 x] w fun e w' => e = .returned (.tuple #[.agg #[.int .i64 0, .int .i64 0], .int .i64 1]) ∧ Below w.heap.size w w' := by
 have HB0 := Aside0.mk (Below.refl w.heap.size w)
 have hu43 := Tryd.underlying43
 have hu25 := Tryd.underlying25
 have hu57 := Tryd.underlying57
 have HR0 := Aside0.mk hC0
 clear hC0
 have HR1 := Aside0.mk hC1
 clear hC1
 go_enter Tryd.func41, Tryd.ntmps41
 go_wp2_with fail
 obtain ⟨u1, hu1⟩ : ∃ u, w.alloc (.cells #[.int .i64 0, .int .i64 0] 43) = u := ⟨_, rfl⟩
 have hb_u1 : Below w.heap.size w u1 := by rw [← hu1]; exact (Below.refl _ w).alloc (Nat.le_refl _) _
 have K_o := Aside0.mk (show Blk u1 (w.heap.size) 43 #[.int .i64 0, .int .i64 0] by rw [← hu1]; first | exact Blk.new w 43 _ | (have := Blk.new w 43 #[.int .i64 0, .int .i64 0]; simp only [World.size_alloc, World.size_alloc] at this; exact this))
 rw [hu1]
 have hz_u1 := Aside0.mk (show u1.heap.size = w.heap.size + 1 by rw [← hu1]; exact World.size_alloc _ _)
 clear hu1
 have HB2 := Aside0.mk (HB0.out.trans (hb_u1.mono HB0.out.size))
 clear HB0
 clear hb_u1
 refine (ref_Valid.calls kv0 A0 c0 l0 true _ (Kd.C_below HR0.out HB2.out) hc0 hv0).mono ?_
 rintro e w' ⟨rfl, ⟨nd, rfl⟩⟩
 obtain ⟨w3, hw3⟩ : ∃ u, u1.drewN nd = u := ⟨_, rfl⟩
 have hb : Below u1.heap.size u1 w3 := by rw [← hw3]; exact pw_below_drewN (Below.refl _ _) nd
 rw [hw3]
 clear hw3
 have P4 := Aside0.mk hb
 have HB5 := Aside0.mk (HB2.out.trans (hb.mono HB2.out.size))
 clear HB2
 clear hb
 go_wp2_with fail
 refine (ref_Valid.calls kv1 A1 c1 l1 true _ (Kd.C_below HR1.out HB5.out) hc1 hv1).mono ?_
 rintro e w' ⟨rfl, ⟨nd, rfl⟩⟩
 obtain ⟨w6, hw6⟩ : ∃ u, w3.drewN nd = u := ⟨_, rfl⟩
 have hb : Below w3.heap.size w3 w6 := by rw [← hw6]; exact pw_below_drewN (Below.refl _ _) nd
 rw [hw6]
 clear hw6
 have P7 := Aside0.mk (P4.out.trans (hb.mono P4.out.size))
 clear P4
 have HB8 := Aside0.mk (HB5.out.trans (hb.mono HB5.out.size))
 clear HB5
 clear hb
 go_wp2_with fail
 refine (ref_In.calls A0 c0 l0 x true _ (Kd.C_below HR0.out HB8.out) hc0 hin).mono ?_
 rintro e w' ⟨rfl, ⟨nd, rfl⟩⟩
 obtain ⟨w9, hw9⟩ : ∃ u, w6.drewN nd = u := ⟨_, rfl⟩
 have hb : Below w6.heap.size w6 w9 := by rw [← hw9]; exact pw_below_drewN (Below.refl _ _) nd
 rw [hw9]
 clear hw9
 have P10 := Aside0.mk (P7.out.trans (hb.mono P7.out.size))
 clear P7
 have HB11 := Aside0.mk (HB8.out.trans (hb.mono HB8.out.size))
 clear HB8
 clear hb
 go_wp2_with fail
 refine (ref_at.calls kt A0 c0 l0 x N D _ (Kd.C_below HR0.out HB11.out) hc0 hat).mono ?_
 rintro e w12 ⟨rfl, hb⟩
 have P13 := Aside0.mk (P10.out.trans (hb.mono P10.out.size))
 clear P10
 have HB14 := Aside0.mk (HB11.out.trans (hb.mono HB11.out.size))
 clear HB11
 clear hb
 go_wp2_with fail
 obtain ⟨u15, hu15⟩ : ∃ u, w12.alloc (.cells #[.int .i64 N, .int .i64 D] 25) = u := ⟨_, rfl⟩
 have hb_u15 : Below w12.heap.size w12 u15 := by rw [← hu15]; exact (Below.refl _ w12).alloc (Nat.le_refl _) _
 have K_p := Aside0.mk (show Blk u15 (w12.heap.size) 25 #[.int .i64 N, .int .i64 D] by rw [← hu15]; first | exact Blk.new w12 25 _ | (have := Blk.new w12 25 #[.int .i64 N, .int .i64 D]; simp only [World.size_alloc, World.size_alloc] at this; exact this))
 rw [hu15]
 have hz_u15 := Aside0.mk (show u15.heap.size = w12.heap.size + 1 by rw [← hu15]; exact World.size_alloc _ _)
 clear hu15
 have P16 := Aside0.mk (P13.out.trans (hb_u15.mono P13.out.size))
 clear P13
 have HB17 := Aside0.mk (HB14.out.trans (hb_u15.mono HB14.out.size))
 clear HB14
 clear hb_u15
 go_wp2_with fail
 have HFB := Aside0.mk (fun (X : World) (h : Below u15.heap.size u15 X) => And.intro (show X.cell? ⟨w12.heap.size, 0, none⟩ = some (.int .i64 N) from ((K_p.out.below h K_p.out.lt).cell 0).trans rfl) (show X.cell? ⟨w12.heap.size, 1, none⟩ = some (.int .i64 D) from ((K_p.out.below h K_p.out.lt).cell 1).trans rfl))
 have HI := (show Below u15.heap.size u15 u15.drew from below_drew1 (Below.refl _ _))
 refine wp_region_IN (n := 6) (I := fun X => Below u15.heap.size u15 X) (by kernel_rfl) ?_
 change AnyI _ _ _ _ _ _ _ _ _ _ (World.drew _)
 refine tk_ 0 (v := ?_) ?_ HI ?_
 rotate_left
 ·
  intro wI hI; obtain ⟨p0, p1⟩ := HFB.out _ hI; go_simp; try with_reducible rfl
 go_simp
 refine tk_ 1 (v := ?_) ?_ HI ?_
 rotate_left
 ·
  intro wI hI; obtain ⟨p0, p1⟩ := HFB.out _ hI; go_simp; try with_reducible rfl
 go_simp
 refine tk_ 2 (v := ?_) ?_ HI ?_
 rotate_left
 ·
  intro wI hI; obtain ⟨p0, p1⟩ := HFB.out _ hI; go_simp; try with_reducible rfl
 go_simp
 refine tk_ 4 (v := ?_) ?_ HI ?_
 rotate_left
 ·
  intro wI hI; obtain ⟨p0, p1⟩ := HFB.out _ hI; go_simp; try with_reducible rfl
 go_simp
 refine tk_ 5 (v := ?_) ?_ HI ?_
 rotate_left
 ·
  intro wI hI; obtain ⟨p0, p1⟩ := HFB.out _ hI; go_simp; try with_reducible rfl
 go_simp
 refine AnyI.one (i := 3) (by kernel_rfl) rfl (fun K hK => ?_)
 go_simp
 refine ⟨trivial, ?_⟩
 gi_at_call 47
 refine (callsIn_wide.2 (ref_From.calls A1 c1 l1 f0 _ (Kd.C_below HR1.out (HB17.out.trans (HI.mono HB17.out.size))) hc1 hf0)).mono ?_
 rintro e W1 ⟨rfl, hb6⟩
 have HI := HI.trans (hb6.below.mono HI.size)
 clear hb6
 refine hK _ _ HI ?_
 clear hK K
 refine tk_ 6 (v := ?_) ?_ HI ?_
 rotate_left
 ·
  intro wI hI; obtain ⟨p0, p1⟩ := HFB.out _ hI; go_simp; try with_reducible rfl
 go_simp
 refine tk_ 7 (v := .bool false) ?_ HI ?_
 ·
  intro wI hI; obtain ⟨p0, p1⟩ := HFB.out _ hI; go_simp; try with_reducible rfl
 go_simp
 refine tk_ 8 (v := .bool false) ?_ HI ?_
 ·
  intro wI hI; obtain ⟨p0, p1⟩ := HFB.out _ hI; go_simp; try with_reducible rfl
 go_simp
 refine tk_ 9 (v := ?_) ?_ HI ?_
 rotate_left
 ·
  intro wI hI; obtain ⟨p0, p1⟩ := HFB.out _ hI; go_simp; try with_reducible rfl
 go_simp
 refine tk_ 10 (v := ?_) ?_ HI ?_
 rotate_left
 ·
  intro wI hI; obtain ⟨p0, p1⟩ := HFB.out _ hI; go_simp; try with_reducible rfl
 go_simp
 refine tk_ 11 (v := ?_) ?_ HI ?_
 rotate_left
 ·
  intro wI hI; obtain ⟨p0, p1⟩ := HFB.out _ hI; go_simp; try with_reducible rfl
 go_simp
 refine tk_ 13 (v := ?_) ?_ HI ?_
 rotate_left
 ·
  intro wI hI; obtain ⟨p0, p1⟩ := HFB.out _ hI; go_simp; try with_reducible rfl
 go_simp
 refine tk_ 14 (v := ?_) ?_ HI ?_
 rotate_left
 ·
  intro wI hI; obtain ⟨p0, p1⟩ := HFB.out _ hI; go_simp; try with_reducible rfl
 go_simp
 refine AnyI.one (i := 12) (by kernel_rfl) rfl (fun K hK => ?_)
 go_simp
 refine ⟨trivial, ?_⟩
 gi_at_call 48
 refine (callsIn_wide.2 (ref_To.calls A1 c1 l1 f1 _ (Kd.C_below HR1.out (HB17.out.trans (HI.mono HB17.out.size))) hc1 hf1)).mono ?_
 rintro e W2 ⟨rfl, hb6⟩
 have HI := HI.trans (hb6.below.mono HI.size)
 clear hb6
 refine hK _ _ HI ?_
 clear hK K
 refine tk_ 15 (v := ?_) ?_ HI ?_
 rotate_left
 ·
  intro wI hI; obtain ⟨p0, p1⟩ := HFB.out _ hI; go_simp; try with_reducible rfl
 go_simp
 refine tk_ 16 (v := .bool true) ?_ HI ?_
 ·
  intro wI hI; obtain ⟨p0, p1⟩ := HFB.out _ hI; go_simp; try with_reducible rfl
 go_simp
 refine tk_ 17 (v := ?_) ?_ HI ?_
 rotate_left
 ·
  intro wI hI; obtain ⟨p0, p1⟩ := HFB.out _ hI; go_simp; try with_reducible rfl
 go_simp
 refine AnyI.done (by kernel_rfl) ?_ _
 simp only [OnlyN, Exit.then]
 clear HFB
 have P18 := Aside0.mk (P16.out.trans (HI.mono P16.out.size))
 clear P16
 have HB19 := Aside0.mk (HB17.out.trans (HI.mono HB17.out.size))
 clear HB17
 clear HI
 have x20 := (K_o.out.below P18.out K_o.out.lt).cell 0
 rw [show (#[.int .i64 0, .int .i64 0] : Array Value)[0]? = some (.int .i64 0) from rfl] at x20
 have x21 := (K_o.out.below P18.out K_o.out.lt).cell 1
 rw [show (#[.int .i64 0, .int .i64 0] : Array Value)[1]? = some (.int .i64 0) from rfl] at x21
 have fz0 := (K_o.out.below P18.out K_o.out.lt).frozen 0
 have fz1 := (K_o.out.below P18.out K_o.out.lt).frozen 1
 have G1 := Aside0.mk (show Blk ((W2.setCell ⟨w.heap.size, 0, none⟩ (.int .i64 0)).setCell ⟨w.heap.size, 1, none⟩ (.int .i64 0)) w.heap.size 43 #[.int .i64 0, .int .i64 0] by have h := ((K_o.out.below P18.out K_o.out.lt).set_ 0 (.int .i64 0)).set_ 1 (.int .i64 0); simpa using h)
 have HB9 := Aside0.mk (show Below w.heap.size w ((W2.setCell ⟨w.heap.size, 0, none⟩ (.int .i64 0)).setCell ⟨w.heap.size, 1, none⟩ (.int .i64 0)) from ((HB19.out.setCell (p := ⟨w.heap.size, 0, none⟩) (Nat.le_refl _) _).setCell (p := ⟨w.heap.size, 1, none⟩) (Nat.le_refl _) _))
 go_wp2_with fail
 have g0 := G1.out.cell 0
 have g1 := G1.out.cell 1
 exact bodyPost_ret (v := .tuple #[.agg #[.int .i64 0, .int .i64 0], .int .i64 1]) (by simp [results, Tryd.f41, go_sem, g0, g1]) rfl ⟨rfl, HB9.out⟩
set_option maxRecDepth 100000 in
set_option maxHeartbeats 4000000 in
theorem refthr_in (A0 : Option Addr) (c0 : Nat) (l0 : List S57) (A1 : Option Addr) (c1 : Nat) (l1 : List S57) (x : Int) (w : World) (hC0 : Kd.C k57 w A0 l0.length l0) (hc0 : l0.length ≤ c0) (hC1 : Kd.C k57 w A1 l1.length l1) (hc1 : l1.length ≤ c1) (kv0 kv1 : Nat) (hv0 : ref_Valid.f kv0 l0 = some true) (hv1 : ref_Valid.f kv1 l1 = some true) (hin : ref_In.f l0 x = some true) (kt : Nat) (N D f0 f1 : Int) (hat : ref_at.f kt l0 x = some (N, D)) (hf0 : ref_From.f l1 = some f0) (hf1 : ref_To.f l1 = some f1) (m0 : IntKind.i64.wrap (f0 * D) = f0 * D) (m1 : IntKind.i64.wrap (f1 * D) = f1 * D)
  (c0' : decide (N < f0 * D) = false) (c1' : decide (f1 * D < N) = false) (z1 : ((D : Int) == 0) = false) (z2 : ¬ D = 0) (pl jj : Int) (e0 : IntKind.i64.wrap (N.tdiv D) = pl) (kl : Nat) (hl : ref_line.f kl l1 pl = some jj) (hj0 : 0 ≤ jj) (hj1 : jj + 1 < l1.length) (hj2 : jj < l1.length) (hj3 : 0 ≤ jj + 1)
  (p0 s0 s1 s2 s3 q L L1 : Int) (r : Bool) (e1 : IntKind.i64.wrap ((rd_T57 l1 jj).f0 * D) = p0) (e2 : IntKind.i64.wrap (N - p0) = s0) (e3 : IntKind.i64.wrap ((rd_T57 l1 (jj + 1)).f1 - (rd_T57 l1 jj).f1) = s1) (e4 : IntKind.i64.wrap ((rd_T57 l1 (jj + 1)).f0 - (rd_T57 l1 jj).f0) = s3) (e5 : IntKind.i64.wrap (D * s3) = s2)
  (ks : Nat) (hs : ref_Share.f ks s0 s1 s2 = some (q, r)) (e6 : IntKind.i64.wrap ((rd_T57 l1 jj).f1 + q) = L) (e7 : IntKind.i64.wrap (L + 1) = L1) (e8 : IntKind.i64.wrap (jj + 1) = jj + 1) :
  Calls Tryd.prog 41 #[.slice A0 l0.length c0, .slice A1 l1.length c1, .int .i64 x] w fun e w' => e = .returned (.tuple #[.agg #[.int .i64 L, .int .i64 (if r = true then L1 else L)], .int .i64 0]) ∧ Below w.heap.size w w' := by
 have HB0 := Aside0.mk (Below.refl w.heap.size w)
 have hu43 := Tryd.underlying43
 have hu25 := Tryd.underlying25
 have hu57 := Tryd.underlying57
 obtain ⟨ad1, e9, p2, p3⟩ := at_T57 hC1 jj hj0 hj2
 cases e9
 obtain ⟨ad1, e9, p4, p5⟩ := at_T57 hC1 (jj + 1) hj3 hj1
 cases e9
 have HP := Aside0.mk (And.intro p2 (And.intro p3 (And.intro p4 p5)))
 clear p2 p3 p4 p5
 have HR0 := Aside0.mk hC0
 clear hC0
 have HR1 := Aside0.mk hC1
 clear hC1
 go_enter Tryd.func41, Tryd.ntmps41
 go_wp2_with fail
 obtain ⟨u1, hu1⟩ : ∃ u, w.alloc (.cells #[.int .i64 0, .int .i64 0] 43) = u := ⟨_, rfl⟩
 have hb_u1 : Below w.heap.size w u1 := by rw [← hu1]; exact (Below.refl _ w).alloc (Nat.le_refl _) _
 have K_o := Aside0.mk (show Blk u1 (w.heap.size) 43 #[.int .i64 0, .int .i64 0] by rw [← hu1]; first | exact Blk.new w 43 _ | (have := Blk.new w 43 #[.int .i64 0, .int .i64 0]; simp only [World.size_alloc, World.size_alloc] at this; exact this))
 rw [hu1]
 have hz_u1 := Aside0.mk (show u1.heap.size = w.heap.size + 1 by rw [← hu1]; exact World.size_alloc _ _)
 clear hu1
 have HB2 := Aside0.mk (HB0.out.trans (hb_u1.mono HB0.out.size))
 clear HB0
 clear hb_u1
 refine (ref_Valid.calls kv0 A0 c0 l0 true _ (Kd.C_below HR0.out HB2.out) hc0 hv0).mono ?_
 rintro e w' ⟨rfl, ⟨nd, rfl⟩⟩
 obtain ⟨w3, hw3⟩ : ∃ u, u1.drewN nd = u := ⟨_, rfl⟩
 have hb : Below u1.heap.size u1 w3 := by rw [← hw3]; exact pw_below_drewN (Below.refl _ _) nd
 rw [hw3]
 clear hw3
 have P4 := Aside0.mk hb
 have HB5 := Aside0.mk (HB2.out.trans (hb.mono HB2.out.size))
 clear HB2
 clear hb
 go_wp2_with fail
 refine (ref_Valid.calls kv1 (some ad1) c1 l1 true _ (Kd.C_below HR1.out HB5.out) hc1 hv1).mono ?_
 rintro e w' ⟨rfl, ⟨nd, rfl⟩⟩
 obtain ⟨w6, hw6⟩ : ∃ u, w3.drewN nd = u := ⟨_, rfl⟩
 have hb : Below w3.heap.size w3 w6 := by rw [← hw6]; exact pw_below_drewN (Below.refl _ _) nd
 rw [hw6]
 clear hw6
 have P7 := Aside0.mk (P4.out.trans (hb.mono P4.out.size))
 clear P4
 have HB8 := Aside0.mk (HB5.out.trans (hb.mono HB5.out.size))
 clear HB5
 clear hb
 go_wp2_with fail
 refine (ref_In.calls A0 c0 l0 x true _ (Kd.C_below HR0.out HB8.out) hc0 hin).mono ?_
 rintro e w' ⟨rfl, ⟨nd, rfl⟩⟩
 obtain ⟨w9, hw9⟩ : ∃ u, w6.drewN nd = u := ⟨_, rfl⟩
 have hb : Below w6.heap.size w6 w9 := by rw [← hw9]; exact pw_below_drewN (Below.refl _ _) nd
 rw [hw9]
 clear hw9
 have P10 := Aside0.mk (P7.out.trans (hb.mono P7.out.size))
 clear P7
 have HB11 := Aside0.mk (HB8.out.trans (hb.mono HB8.out.size))
 clear HB8
 clear hb
 go_wp2_with fail
 refine (ref_at.calls kt A0 c0 l0 x N D _ (Kd.C_below HR0.out HB11.out) hc0 hat).mono ?_
 rintro e w12 ⟨rfl, hb⟩
 have P13 := Aside0.mk (P10.out.trans (hb.mono P10.out.size))
 clear P10
 have HB14 := Aside0.mk (HB11.out.trans (hb.mono HB11.out.size))
 clear HB11
 clear hb
 go_wp2_with fail
 obtain ⟨u15, hu15⟩ : ∃ u, w12.alloc (.cells #[.int .i64 N, .int .i64 D] 25) = u := ⟨_, rfl⟩
 have hb_u15 : Below w12.heap.size w12 u15 := by rw [← hu15]; exact (Below.refl _ w12).alloc (Nat.le_refl _) _
 have K_p := Aside0.mk (show Blk u15 (w12.heap.size) 25 #[.int .i64 N, .int .i64 D] by rw [← hu15]; first | exact Blk.new w12 25 _ | (have := Blk.new w12 25 #[.int .i64 N, .int .i64 D]; simp only [World.size_alloc, World.size_alloc] at this; exact this))
 rw [hu15]
 have hz_u15 := Aside0.mk (show u15.heap.size = w12.heap.size + 1 by rw [← hu15]; exact World.size_alloc _ _)
 clear hu15
 have P16 := Aside0.mk (P13.out.trans (hb_u15.mono P13.out.size))
 clear P13
 have HB17 := Aside0.mk (HB14.out.trans (hb_u15.mono HB14.out.size))
 clear HB14
 clear hb_u15
 go_wp2_with fail
 have HFB := Aside0.mk (fun (X : World) (h : Below u15.heap.size u15 X) => And.intro (show X.cell? ⟨w12.heap.size, 0, none⟩ = some (.int .i64 N) from ((K_p.out.below h K_p.out.lt).cell 0).trans rfl) (show X.cell? ⟨w12.heap.size, 1, none⟩ = some (.int .i64 D) from ((K_p.out.below h K_p.out.lt).cell 1).trans rfl))
 have HI := (show Below u15.heap.size u15 u15.drew from below_drew1 (Below.refl _ _))
 refine wp_region_IN (n := 6) (I := fun X => Below u15.heap.size u15 X) (by kernel_rfl) ?_
 change AnyI _ _ _ _ _ _ _ _ _ _ (World.drew _)
 refine tk_ 0 (v := ?_) ?_ HI ?_
 rotate_left
 ·
  intro wI hI; obtain ⟨p0, p1⟩ := HFB.out _ hI; go_simp; try with_reducible rfl
 go_simp
 refine tk_ 1 (v := ?_) ?_ HI ?_
 rotate_left
 ·
  intro wI hI; obtain ⟨p0, p1⟩ := HFB.out _ hI; go_simp; try with_reducible rfl
 go_simp
 refine tk_ 2 (v := ?_) ?_ HI ?_
 rotate_left
 ·
  intro wI hI; obtain ⟨p0, p1⟩ := HFB.out _ hI; go_simp; try with_reducible rfl
 go_simp
 refine tk_ 4 (v := ?_) ?_ HI ?_
 rotate_left
 ·
  intro wI hI; obtain ⟨p0, p1⟩ := HFB.out _ hI; go_simp; try with_reducible rfl
 go_simp
 refine tk_ 5 (v := ?_) ?_ HI ?_
 rotate_left
 ·
  intro wI hI; obtain ⟨p0, p1⟩ := HFB.out _ hI; go_simp; try with_reducible rfl
 go_simp
 refine AnyI.one (i := 3) (by kernel_rfl) rfl (fun K hK => ?_)
 go_simp
 refine ⟨trivial, ?_⟩
 gi_at_call 47
 refine (callsIn_wide.2 (ref_From.calls (some ad1) c1 l1 f0 _ (Kd.C_below HR1.out (HB17.out.trans (HI.mono HB17.out.size))) hc1 hf0)).mono ?_
 rintro e W1 ⟨rfl, hb6⟩
 have HI := HI.trans (hb6.below.mono HI.size)
 clear hb6
 refine hK _ _ HI ?_
 clear hK K
 refine tk_ 6 (v := ?_) ?_ HI ?_
 rotate_left
 ·
  intro wI hI; obtain ⟨p0, p1⟩ := HFB.out _ hI; go_simp; try with_reducible rfl
 go_simp
 refine tk_ 7 (v := .bool false) ?_ HI ?_
 ·
  intro wI hI; obtain ⟨p0, p1⟩ := HFB.out _ hI; go_simp; try with_reducible rfl
 go_simp
 refine tk_ 8 (v := .bool false) ?_ HI ?_
 ·
  intro wI hI; obtain ⟨p0, p1⟩ := HFB.out _ hI; go_simp; try with_reducible rfl
 go_simp
 refine tk_ 9 (v := ?_) ?_ HI ?_
 rotate_left
 ·
  intro wI hI; obtain ⟨p0, p1⟩ := HFB.out _ hI; go_simp; try with_reducible rfl
 go_simp
 refine tk_ 10 (v := ?_) ?_ HI ?_
 rotate_left
 ·
  intro wI hI; obtain ⟨p0, p1⟩ := HFB.out _ hI; go_simp; try with_reducible rfl
 go_simp
 refine tk_ 11 (v := ?_) ?_ HI ?_
 rotate_left
 ·
  intro wI hI; obtain ⟨p0, p1⟩ := HFB.out _ hI; go_simp; try with_reducible rfl
 go_simp
 refine tk_ 13 (v := ?_) ?_ HI ?_
 rotate_left
 ·
  intro wI hI; obtain ⟨p0, p1⟩ := HFB.out _ hI; go_simp; try with_reducible rfl
 go_simp
 refine tk_ 14 (v := ?_) ?_ HI ?_
 rotate_left
 ·
  intro wI hI; obtain ⟨p0, p1⟩ := HFB.out _ hI; go_simp; try with_reducible rfl
 go_simp
 refine AnyI.one (i := 12) (by kernel_rfl) rfl (fun K hK => ?_)
 go_simp
 refine ⟨trivial, ?_⟩
 gi_at_call 48
 refine (callsIn_wide.2 (ref_To.calls (some ad1) c1 l1 f1 _ (Kd.C_below HR1.out (HB17.out.trans (HI.mono HB17.out.size))) hc1 hf1)).mono ?_
 rintro e W2 ⟨rfl, hb6⟩
 have HI := HI.trans (hb6.below.mono HI.size)
 clear hb6
 refine hK _ _ HI ?_
 clear hK K
 refine tk_ 15 (v := ?_) ?_ HI ?_
 rotate_left
 ·
  intro wI hI; obtain ⟨p0, p1⟩ := HFB.out _ hI; go_simp; try with_reducible rfl
 go_simp
 refine tk_ 16 (v := .bool false) ?_ HI ?_
 ·
  intro wI hI; obtain ⟨p0, p1⟩ := HFB.out _ hI; go_simp; try with_reducible rfl
 go_simp
 refine tk_ 17 (v := ?_) ?_ HI ?_
 rotate_left
 ·
  intro wI hI; obtain ⟨p0, p1⟩ := HFB.out _ hI; go_simp; try with_reducible rfl
 go_simp
 refine AnyI.done (by kernel_rfl) ?_ _
 simp only [OnlyN, Exit.then]
 clear HFB
 have P18 := Aside0.mk (P16.out.trans (HI.mono P16.out.size))
 clear P16
 have P19 := Aside0.mk HI
 have HB20 := Aside0.mk (HB17.out.trans (HI.mono HB17.out.size))
 clear HB17
 clear HI
 have x21 := (K_p.out.below P19.out K_p.out.lt).cell 0
 rw [show (#[.int .i64 N, .int .i64 D] : Array Value)[0]? = some (.int .i64 N) from rfl] at x21
 have x22 := (K_p.out.below P19.out K_p.out.lt).cell 1
 rw [show (#[.int .i64 N, .int .i64 D] : Array Value)[1]? = some (.int .i64 D) from rfl] at x22
 go_wp2_with fail
 refine (ref_line.calls kl (some ad1) c1 l1 pl jj _ (Kd.C_below HR1.out HB20.out) hc1 hl).mono ?_
 rintro e w' ⟨rfl, ⟨nd, rfl⟩⟩
 obtain ⟨w23, hw23⟩ : ∃ u, W2.drewN nd = u := ⟨_, rfl⟩
 have hb : Below W2.heap.size W2 w23 := by rw [← hw23]; exact pw_below_drewN (Below.refl _ _) nd
 rw [hw23]
 clear hw23
 have P24 := Aside0.mk (P18.out.trans (hb.mono P18.out.size))
 clear P18
 have P25 := Aside0.mk (P19.out.trans (hb.mono P19.out.size))
 clear P19
 have HB26 := Aside0.mk (HB20.out.trans (hb.mono HB20.out.size))
 clear HB20
 clear hb
 clear e0 hl
 go_wp2_with fail
 have HFB := Aside0.mk (fun (X : World) (h : Below w23.heap.size w23 X) => And.intro (show X.cell? ⟨w12.heap.size, 0, none⟩ = some (.int .i64 N) from (((K_p.out.below P25.out K_p.out.lt).below h (K_p.out.below P25.out K_p.out.lt).lt).cell 0).trans rfl) (And.intro (show X.cell? ⟨w12.heap.size, 1, none⟩ = some (.int .i64 D) from (((K_p.out.below P25.out K_p.out.lt).below h (K_p.out.below P25.out K_p.out.lt).lt).cell 1).trans rfl) (And.intro (((HB26.out.trans (h.mono HB26.out.size)).cell (World.block_lt_of_cell? w _ HP.out.1)).trans HP.out.1) (And.intro (((HB26.out.trans (h.mono HB26.out.size)).cell (World.block_lt_of_cell? w _ HP.out.2.1)).trans HP.out.2.1) (And.intro (((HB26.out.trans (h.mono HB26.out.size)).cell (World.block_lt_of_cell? w _ HP.out.2.2.1)).trans HP.out.2.2.1) (((HB26.out.trans (h.mono HB26.out.size)).cell (World.block_lt_of_cell? w _ HP.out.2.2.2)).trans HP.out.2.2.2))))))
 have HI := (show Below w23.heap.size w23 w23.drew from below_drew1 (Below.refl _ _))
 refine wp_region_IN (n := 6) (I := fun X => Below w23.heap.size w23 X) (by kernel_rfl) ?_
 change AnyI _ _ _ _ _ _ _ _ _ _ (World.drew _)
 refine tk_ 0 (v := ?_) ?_ HI ?_
 rotate_left
 ·
  intro wI hI; obtain ⟨p0', p1', p2', p3', p4', p5'⟩ := HFB.out _ hI; go_simp; try with_reducible rfl
 go_simp
 refine tk_ 1 (v := ?_) ?_ HI ?_
 rotate_left
 ·
  intro wI hI; obtain ⟨p0', p1', p2', p3', p4', p5'⟩ := HFB.out _ hI; go_simp; try with_reducible rfl
 go_simp
 refine tk_ 2 (v := ?_) ?_ HI ?_
 rotate_left
 ·
  intro wI hI; obtain ⟨p0', p1', p2', p3', p4', p5'⟩ := HFB.out _ hI; go_simp; try with_reducible rfl
 go_simp
 refine tk_ 3 (v := ?_) ?_ HI ?_
 rotate_left
 ·
  intro wI hI; obtain ⟨p0', p1', p2', p3', p4', p5'⟩ := HFB.out _ hI; go_simp; try with_reducible rfl
 go_simp
 refine tk_ 4 (v := ?_) ?_ HI ?_
 rotate_left
 ·
  intro wI hI; obtain ⟨p0', p1', p2', p3', p4', p5'⟩ := HFB.out _ hI; go_simp; try with_reducible rfl
 go_simp
 refine tk_ 5 (v := ?_) ?_ HI ?_
 rotate_left
 ·
  intro wI hI; obtain ⟨p0', p1', p2', p3', p4', p5'⟩ := HFB.out _ hI; go_simp; try with_reducible rfl
 go_simp
 refine tk_ 6 (v := ?_) ?_ HI ?_
 rotate_left
 ·
  intro wI hI; obtain ⟨p0', p1', p2', p3', p4', p5'⟩ := HFB.out _ hI; go_simp; try with_reducible rfl
 go_simp
 refine tk_ 7 (v := ?_) ?_ HI ?_
 rotate_left
 ·
  intro wI hI; obtain ⟨p0', p1', p2', p3', p4', p5'⟩ := HFB.out _ hI; go_simp; try with_reducible rfl
 go_simp
 refine tk_ 8 (v := ?_) ?_ HI ?_
 rotate_left
 ·
  intro wI hI; obtain ⟨p0', p1', p2', p3', p4', p5'⟩ := HFB.out _ hI; go_simp; try with_reducible rfl
 go_simp
 refine tk_ 9 (v := ?_) ?_ HI ?_
 rotate_left
 ·
  intro wI hI; obtain ⟨p0', p1', p2', p3', p4', p5'⟩ := HFB.out _ hI; go_simp; try with_reducible rfl
 go_simp
 refine tk_ 10 (v := ?_) ?_ HI ?_
 rotate_left
 ·
  intro wI hI; obtain ⟨p0', p1', p2', p3', p4', p5'⟩ := HFB.out _ hI; go_simp; try with_reducible rfl
 go_simp
 refine tk_ 11 (v := ?_) ?_ HI ?_
 rotate_left
 ·
  intro wI hI; obtain ⟨p0', p1', p2', p3', p4', p5'⟩ := HFB.out _ hI; go_simp; try with_reducible rfl
 go_simp
 refine tk_ 12 (v := ?_) ?_ HI ?_
 rotate_left
 ·
  intro wI hI; obtain ⟨p0', p1', p2', p3', p4', p5'⟩ := HFB.out _ hI; go_simp; try with_reducible rfl
 go_simp
 refine tk_ 13 (v := ?_) ?_ HI ?_
 rotate_left
 ·
  intro wI hI; obtain ⟨p0', p1', p2', p3', p4', p5'⟩ := HFB.out _ hI; go_simp; try with_reducible rfl
 go_simp
 refine tk_ 14 (v := ?_) ?_ HI ?_
 rotate_left
 ·
  intro wI hI; obtain ⟨p0', p1', p2', p3', p4', p5'⟩ := HFB.out _ hI; go_simp; try with_reducible rfl
 go_simp
 refine tk_ 15 (v := ?_) ?_ HI ?_
 rotate_left
 ·
  intro wI hI; obtain ⟨p0', p1', p2', p3', p4', p5'⟩ := HFB.out _ hI; go_simp; try with_reducible rfl
 go_simp
 refine tk_ 16 (v := ?_) ?_ HI ?_
 rotate_left
 ·
  intro wI hI; obtain ⟨p0', p1', p2', p3', p4', p5'⟩ := HFB.out _ hI; go_simp; try with_reducible rfl
 go_simp
 refine tk_ 17 (v := ?_) ?_ HI ?_
 rotate_left
 ·
  intro wI hI; obtain ⟨p0', p1', p2', p3', p4', p5'⟩ := HFB.out _ hI; go_simp; try with_reducible rfl
 go_simp
 refine tk_ 18 (v := ?_) ?_ HI ?_
 rotate_left
 ·
  intro wI hI; obtain ⟨p0', p1', p2', p3', p4', p5'⟩ := HFB.out _ hI; go_simp; try with_reducible rfl
 go_simp
 refine tk_ 19 (v := ?_) ?_ HI ?_
 rotate_left
 ·
  intro wI hI; obtain ⟨p0', p1', p2', p3', p4', p5'⟩ := HFB.out _ hI; go_simp; try with_reducible rfl
 go_simp
 refine tk_ 20 (v := ?_) ?_ HI ?_
 rotate_left
 ·
  intro wI hI; obtain ⟨p0', p1', p2', p3', p4', p5'⟩ := HFB.out _ hI; go_simp; try with_reducible rfl
 go_simp
 refine tk_ 21 (v := ?_) ?_ HI ?_
 rotate_left
 ·
  intro wI hI; obtain ⟨p0', p1', p2', p3', p4', p5'⟩ := HFB.out _ hI; go_simp; try with_reducible rfl
 go_simp
 refine tk_ 22 (v := ?_) ?_ HI ?_
 rotate_left
 ·
  intro wI hI; obtain ⟨p0', p1', p2', p3', p4', p5'⟩ := HFB.out _ hI; go_simp; try with_reducible rfl
 go_simp
 refine tk_ 23 (v := ?_) ?_ HI ?_
 rotate_left
 ·
  intro wI hI; obtain ⟨p0', p1', p2', p3', p4', p5'⟩ := HFB.out _ hI; go_simp; try with_reducible rfl
 go_simp
 refine tk_ 24 (v := ?_) ?_ HI ?_
 rotate_left
 ·
  intro wI hI; obtain ⟨p0', p1', p2', p3', p4', p5'⟩ := HFB.out _ hI; go_simp; try with_reducible rfl
 go_simp
 refine tk_ 25 (v := ?_) ?_ HI ?_
 rotate_left
 ·
  intro wI hI; obtain ⟨p0', p1', p2', p3', p4', p5'⟩ := HFB.out _ hI; go_simp; try with_reducible rfl
 go_simp
 refine tk_ 26 (v := ?_) ?_ HI ?_
 rotate_left
 ·
  intro wI hI; obtain ⟨p0', p1', p2', p3', p4', p5'⟩ := HFB.out _ hI; go_simp; try with_reducible rfl
 go_simp
 refine tk_ 27 (v := ?_) ?_ HI ?_
 rotate_left
 ·
  intro wI hI; obtain ⟨p0', p1', p2', p3', p4', p5'⟩ := HFB.out _ hI; go_simp; try with_reducible rfl
 go_simp
 refine tk_ 28 (v := ?_) ?_ HI ?_
 rotate_left
 ·
  intro wI hI; obtain ⟨p0', p1', p2', p3', p4', p5'⟩ := HFB.out _ hI; go_simp; try with_reducible rfl
 go_simp
 refine tk_ 29 (v := ?_) ?_ HI ?_
 rotate_left
 ·
  intro wI hI; obtain ⟨p0', p1', p2', p3', p4', p5'⟩ := HFB.out _ hI; go_simp; try with_reducible rfl
 go_simp
 refine tk_ 30 (v := ?_) ?_ HI ?_
 rotate_left
 ·
  intro wI hI; obtain ⟨p0', p1', p2', p3', p4', p5'⟩ := HFB.out _ hI; go_simp; try with_reducible rfl
 go_simp
 refine tk_ 31 (v := ?_) ?_ HI ?_
 rotate_left
 ·
  intro wI hI; obtain ⟨p0', p1', p2', p3', p4', p5'⟩ := HFB.out _ hI; go_simp; try with_reducible rfl
 go_simp
 refine tk_ 32 (v := ?_) ?_ HI ?_
 rotate_left
 ·
  intro wI hI; obtain ⟨p0', p1', p2', p3', p4', p5'⟩ := HFB.out _ hI; go_simp; try with_reducible rfl
 go_simp
 refine tk_ 33 (v := ?_) ?_ HI ?_
 rotate_left
 ·
  intro wI hI; obtain ⟨p0', p1', p2', p3', p4', p5'⟩ := HFB.out _ hI; go_simp; try with_reducible rfl
 go_simp
 refine tk_ 34 (v := ?_) ?_ HI ?_
 rotate_left
 ·
  intro wI hI; obtain ⟨p0', p1', p2', p3', p4', p5'⟩ := HFB.out _ hI; go_simp; try with_reducible rfl
 go_simp
 refine tk_ 35 (v := ?_) ?_ HI ?_
 rotate_left
 ·
  intro wI hI; obtain ⟨p0', p1', p2', p3', p4', p5'⟩ := HFB.out _ hI; go_simp; try with_reducible rfl
 go_simp
 refine tk_ 36 (v := ?_) ?_ HI ?_
 rotate_left
 ·
  intro wI hI; obtain ⟨p0', p1', p2', p3', p4', p5'⟩ := HFB.out _ hI; go_simp; try with_reducible rfl
 go_simp
 refine tk_ 37 (v := ?_) ?_ HI ?_
 rotate_left
 ·
  intro wI hI; obtain ⟨p0', p1', p2', p3', p4', p5'⟩ := HFB.out _ hI; go_simp; try with_reducible rfl
 go_simp
 refine AnyI.one (i := 38) (by kernel_rfl) rfl (fun K hK => ?_)
 go_simp
 refine ⟨trivial, ?_⟩
 gi_at_call 88
 refine (callsIn_wide.2 (ref_Share.calls ks s0 s1 s2 q r _ hs)).mono ?_
 rintro e W3 ⟨rfl, hb6⟩
 have HI := HI.trans (hb6.below.mono HI.size)
 clear hb6
 refine hK _ _ HI ?_
 clear hK K
 refine tk_ 39 (v := ?_) ?_ HI ?_
 rotate_left
 ·
  intro wI hI; obtain ⟨p0', p1', p2', p3', p4', p5'⟩ := HFB.out _ hI; go_simp; try with_reducible rfl
 go_simp
 refine tk_ 40 (v := ?_) ?_ HI ?_
 rotate_left
 ·
  intro wI hI; obtain ⟨p0', p1', p2', p3', p4', p5'⟩ := HFB.out _ hI; go_simp; try with_reducible rfl
 go_simp
 refine tk_ 41 (v := ?_) ?_ HI ?_
 rotate_left
 ·
  intro wI hI; obtain ⟨p0', p1', p2', p3', p4', p5'⟩ := HFB.out _ hI; go_simp; try with_reducible rfl
 go_simp
 refine tk_ 42 (v := ?_) ?_ HI ?_
 rotate_left
 ·
  intro wI hI; obtain ⟨p0', p1', p2', p3', p4', p5'⟩ := HFB.out _ hI; go_simp; try with_reducible rfl
 go_simp
 refine tk_ 43 (v := ?_) ?_ HI ?_
 rotate_left
 ·
  intro wI hI; obtain ⟨p0', p1', p2', p3', p4', p5'⟩ := HFB.out _ hI; go_simp; try with_reducible rfl
 go_simp
 refine AnyI.done (by kernel_rfl) ?_ _
 simp only [OnlyN, Exit.then]
 clear HFB hs e1 e2 e3 e4 e5
 have P27 := Aside0.mk (P24.out.trans (HI.mono P24.out.size))
 clear P24
 have HB28 := Aside0.mk (HB26.out.trans (HI.mono HB26.out.size))
 clear HB26
 clear HI
 go_wp2_with fail
 have HFB := Aside0.mk (fun (X : World) (h : Below W3.heap.size W3 X) => (((HB28.out.trans (h.mono HB28.out.size)).cell (World.block_lt_of_cell? w _ HP.out.2.1)).trans HP.out.2.1))
 have HI := (show Below W3.heap.size W3 W3.drew from below_drew1 (Below.refl _ _))
 refine wp_region_IN (n := 6) (I := fun X => Below W3.heap.size W3 X) (by kernel_rfl) ?_
 change AnyI _ _ _ _ _ _ _ _ _ _ (World.drew _)
 refine tk_ 0 (v := ?_) ?_ HI ?_
 rotate_left
 ·
  intro wI hI; have p3' := HFB.out _ hI; go_simp; try with_reducible rfl
 go_simp
 refine tk_ 1 (v := ?_) ?_ HI ?_
 rotate_left
 ·
  intro wI hI; have p3' := HFB.out _ hI; go_simp; try with_reducible rfl
 go_simp
 refine tk_ 2 (v := ?_) ?_ HI ?_
 rotate_left
 ·
  intro wI hI; have p3' := HFB.out _ hI; go_simp; try with_reducible rfl
 go_simp
 refine tk_ 3 (v := ?_) ?_ HI ?_
 rotate_left
 ·
  intro wI hI; have p3' := HFB.out _ hI; go_simp; try with_reducible rfl
 go_simp
 refine tk_ 4 (v := ?_) ?_ HI ?_
 rotate_left
 ·
  intro wI hI; have p3' := HFB.out _ hI; go_simp; try with_reducible rfl
 go_simp
 refine tk_ 5 (v := ?_) ?_ HI ?_
 rotate_left
 ·
  intro wI hI; have p3' := HFB.out _ hI; go_simp; try with_reducible rfl
 go_simp
 refine tk_ 6 (v := ?_) ?_ HI ?_
 rotate_left
 ·
  intro wI hI; have p3' := HFB.out _ hI; go_simp; try with_reducible rfl
 go_simp
 refine tk_ 7 (v := ?_) ?_ HI ?_
 rotate_left
 ·
  intro wI hI; have p3' := HFB.out _ hI; go_simp; try with_reducible rfl
 go_simp
 refine tk_ 8 (v := ?_) ?_ HI ?_
 rotate_left
 ·
  intro wI hI; have p3' := HFB.out _ hI; go_simp; try with_reducible rfl
 go_simp
 refine tk_ 9 (v := ?_) ?_ HI ?_
 rotate_left
 ·
  intro wI hI; have p3' := HFB.out _ hI; go_simp; try with_reducible rfl
 go_simp
 refine tk_ 10 (v := ?_) ?_ HI ?_
 rotate_left
 ·
  intro wI hI; have p3' := HFB.out _ hI; go_simp; try with_reducible rfl
 go_simp
 refine tk_ 11 (v := ?_) ?_ HI ?_
 rotate_left
 ·
  intro wI hI; have p3' := HFB.out _ hI; go_simp; try with_reducible rfl
 go_simp
 refine tk_ 12 (v := ?_) ?_ HI ?_
 rotate_left
 ·
  intro wI hI; have p3' := HFB.out _ hI; go_simp; try with_reducible rfl
 go_simp
 refine tk_ 13 (v := ?_) ?_ HI ?_
 rotate_left
 ·
  intro wI hI; have p3' := HFB.out _ hI; go_simp; try with_reducible rfl
 go_simp
 refine tk_ 14 (v := ?_) ?_ HI ?_
 rotate_left
 ·
  intro wI hI; have p3' := HFB.out _ hI; go_simp; try with_reducible rfl
 go_simp
 refine AnyI.one (i := 15) (by kernel_rfl) rfl (fun K hK => ?_)
 go_simp
 have HI1 := HI.alloc HI.size (.cells #[.int .i64 0, .int .i64 0] 43)
 refine hK _ _ HI1 ?_
 clear hK K
 have hn : Blk _ W3.heap.size 43 #[.int .i64 0, .int .i64 0] := Blk.new W3.drew 43 #[.int .i64 0, .int .i64 0]
 obtain ⟨X1, hX1⟩ : ∃ X, World.alloc W3.drew (.cells #[.int .i64 0, .int .i64 0] 43) = X := ⟨_, rfl⟩
 change AnyI _ _ _ _ _ _ _ _ _ _ (World.alloc (World.drew W3) _)
 rw [hX1] at HI1 hn ⊢
 clear hX1 HI HFB
 have f0' := hn.frozen 0
 have f1' := hn.frozen 1
 have q0' := hn.cell 0
 have q1' := hn.cell 1
 refine AnyI.one (i := 16) (by kernel_rfl) rfl (fun K hK => ?_)
 go_simp
 have HI : Below W3.heap.size W3 ((X1.setCell ⟨W3.heap.size, 0, none⟩ (.int .i64 L)).setCell ⟨W3.heap.size, 1, none⟩ (.int .i64 L)) := (HI1.setCell (Nat.le_refl _) _).setCell (Nat.le_refl _) _
 refine hK _ _ HI ?_
 clear hK K
 have hb' : Blk ((X1.setCell ⟨W3.heap.size, 0, none⟩ (.int .i64 L)).setCell ⟨W3.heap.size, 1, none⟩ (.int .i64 L)) W3.heap.size 43 #[.int .i64 L, .int .i64 L] := by have h := (hn.set_ 0 (.int .i64 L)).set_ 1 (.int .i64 L); simpa using h
 obtain ⟨Y, hY⟩ : ∃ Y, (X1.setCell ⟨W3.heap.size, 0, none⟩ (.int .i64 L)).setCell ⟨W3.heap.size, 1, none⟩ (.int .i64 L) = Y := ⟨_, rfl⟩
 rw [hY] at HI hb' ⊢
 refine AnyI.done (by kernel_rfl) ?_ _
 simp only [OnlyN, Exit.then]
 have hne : w.heap.size ≠ W3.heap.size := Nat.ne_of_lt ((K_o.out.below P27.out K_o.out.lt)).lt
 have hle : w.heap.size ≤ W3.heap.size := Nat.le_of_lt ((K_o.out.below P27.out K_o.out.lt)).lt
 have K_n := Aside0.mk hb'
 clear hn hb' hY f0' f1' q0' q1' HI1 e6
 have P29 := Aside0.mk (P27.out.trans (HI.mono P27.out.size))
 clear P27
 have HB30 := Aside0.mk (HB28.out.trans (HI.mono HB28.out.size))
 clear HB28
 clear HI
 have K_o2 := Aside0.mk (K_o.out.below P29.out K_o.out.lt)
 clear HP HR0 HR1
 cases r
 ·
  have K_n1 := K_n
  have K_o1 := K_o2
  have y3 := K_n1.out.cell 0
  have y4 := K_n1.out.cell 1
  rw [show (#[.int .i64 L, .int .i64 L] : Array Value)[0]? = some (.int .i64 L) from rfl] at y3
  rw [show (#[.int .i64 L, .int .i64 L] : Array Value)[1]? = some (.int .i64 L) from rfl] at y4
  have y5 := K_o1.out.frozen 0
  have y6 := K_o1.out.frozen 1
  have y7 := K_o1.out.cell 0
  have y8 := K_o1.out.cell 1
  rw [show (#[.int .i64 0, .int .i64 0] : Array Value)[0]? = some (.int .i64 0) from rfl] at y7
  rw [show (#[.int .i64 0, .int .i64 0] : Array Value)[1]? = some (.int .i64 0) from rfl] at y8
  have G1 := Aside0.mk (show Blk ((Y.setCell ⟨w.heap.size, 0, none⟩ (.int .i64 L)).setCell ⟨w.heap.size, 1, none⟩ (.int .i64 L)) w.heap.size 43 #[.int .i64 L, .int .i64 L] by have h := (K_o1.out.set_ 0 (.int .i64 L)).set_ 1 (.int .i64 L); simpa using h)
  have HB9 := Aside0.mk (show Below w.heap.size w ((Y.setCell ⟨w.heap.size, 0, none⟩ (.int .i64 L)).setCell ⟨w.heap.size, 1, none⟩ (.int .i64 L)) from ((HB30.out.setCell (p := ⟨w.heap.size, 0, none⟩) (Nat.le_refl _) _).setCell (p := ⟨w.heap.size, 1, none⟩) (Nat.le_refl _) _))
  go_wp2_with fail
  have g0 := G1.out.cell 0
  have g1 := G1.out.cell 1
  exact bodyPost_ret (v := .tuple #[.agg #[.int .i64 L, .int .i64 L], .int .i64 0]) (by simp [results, Tryd.f41, go_sem, g0, g1]) rfl ⟨rfl, HB9.out⟩
 ·
  have y1 := K_n.out.cell 1
  rw [show (#[.int .i64 L, .int .i64 L] : Array Value)[1]? = some (.int .i64 L) from rfl] at y1
  have y2 := K_n.out.frozen 1
  have K_n1 := Aside0.mk (show Blk (Y.setCell ⟨W3.heap.size, 1, none⟩ (.int .i64 L1)) (W3.heap.size) 43 #[.int .i64 L, .int .i64 L1] by have h := K_n.out.set_ 1 (.int .i64 L1); simpa using h)
  have K_o1 := Aside0.mk (show Blk (Y.setCell ⟨W3.heap.size, 1, none⟩ (.int .i64 L1)) w.heap.size 43 #[.int .i64 0, .int .i64 0] from K_o2.out.far hne _)
  have y3 := K_n1.out.cell 0
  have y4 := K_n1.out.cell 1
  rw [show (#[.int .i64 L, .int .i64 L1] : Array Value)[0]? = some (.int .i64 L) from rfl] at y3
  rw [show (#[.int .i64 L, .int .i64 L1] : Array Value)[1]? = some (.int .i64 L1) from rfl] at y4
  have y5 := K_o1.out.frozen 0
  have y6 := K_o1.out.frozen 1
  have y7 := K_o1.out.cell 0
  have y8 := K_o1.out.cell 1
  rw [show (#[.int .i64 0, .int .i64 0] : Array Value)[0]? = some (.int .i64 0) from rfl] at y7
  rw [show (#[.int .i64 0, .int .i64 0] : Array Value)[1]? = some (.int .i64 0) from rfl] at y8
  have G1 := Aside0.mk (show Blk (((Y.setCell ⟨W3.heap.size, 1, none⟩ (.int .i64 L1)).setCell ⟨w.heap.size, 0, none⟩ (.int .i64 L)).setCell ⟨w.heap.size, 1, none⟩ (.int .i64 L1)) w.heap.size 43 #[.int .i64 L, .int .i64 L1] by have h := (K_o1.out.set_ 0 (.int .i64 L)).set_ 1 (.int .i64 L1); simpa using h)
  have HB9 := Aside0.mk (show Below w.heap.size w (((Y.setCell ⟨W3.heap.size, 1, none⟩ (.int .i64 L1)).setCell ⟨w.heap.size, 0, none⟩ (.int .i64 L)).setCell ⟨w.heap.size, 1, none⟩ (.int .i64 L1)) from (((HB30.out.setCell (p := ⟨W3.heap.size, 1, none⟩) hle _).setCell (p := ⟨w.heap.size, 0, none⟩) (Nat.le_refl _) _).setCell (p := ⟨w.heap.size, 1, none⟩) (Nat.le_refl _) _))
  go_wp2_with fail
  have g0 := G1.out.cell 0
  have g1 := G1.out.cell 1
  exact bodyPost_ret (v := .tuple #[.agg #[.int .i64 L, .int .i64 L1], .int .i64 0]) (by simp [results, Tryd.f41, go_sem, g0, g1]) rfl ⟨rfl, HB9.out⟩
theorem ref_Through.calls (A0 : Option Addr) (c0 : Nat) (l0 : List S57) (A1 : Option Addr) (c1 : Nat) (l1 : List S57) (x r1 r2 r3 : Int) (w : World) (hC0 : Kd.C k57 w A0 l0.length l0) (hc0 : l0.length ≤ c0) (hC1 : Kd.C k57 w A1 l1.length l1) (hc1 : l1.length ≤ c1) (h : curve_Through.f l0 l1 x = some (r1, r2, r3)) :
  Calls Tryd.prog 41 #[.slice A0 l0.length c0, .slice A1 l1.length c1, .int .i64 x] w fun e w' => e = .returned (.tuple #[.agg #[.int .i64 r1, .int .i64 r2], .int .i64 r3]) ∧ Below w.heap.size w w' := by
 obtain ⟨k0, g0⟩ := (valid_ev l0).one
 obtain ⟨k1, g1⟩ := (valid_ev l1).one
 cases hg0 : goodB l0 with
 | false =>
  rw [hg0] at g0
  have e : curve_Through.f l0 l1 x = some (0, 0, 10) := by unfold curve_Through.f; rw [if_neg (by simp [hg0])]
  rw [e] at h
  simp only [Option.some.injEq, Prod.mk.injEq] at h
  obtain ⟨rfl, rfl, rfl⟩ := h
  exact refthr_bad0 A0 c0 l0 A1 c1 l1 x w hC0 hc0 hC1 hc1 k0 g0
 | true =>
  rw [hg0] at g0
  cases hg1 : goodB l1 with
  | false =>
   rw [hg1] at g1
   have e : curve_Through.f l0 l1 x = some (0, 0, 10) := by unfold curve_Through.f; rw [if_neg (by simp [hg1])]
   rw [e] at h
   simp only [Option.some.injEq, Prod.mk.injEq] at h
   obtain ⟨rfl, rfl, rfl⟩ := h
   exact refthr_bad1 A0 c0 l0 A1 c1 l1 x w hC0 hc0 hC1 hc1 k0 k1 g0 g1
  | true =>
   rw [hg1] at g1
   have ha := good_of hg0
   have hb := good_of hg1
   have a2 := ha.len2
   have b2 := hb.len2
   have b64 := hb.len64
   cases hx : inB l0 x with
   | false =>
    have e : curve_Through.f l0 l1 x = some (0, 0, 1) := by unfold curve_Through.f; rw [if_pos ⟨hg0, hg1⟩, if_neg (by simp [hx])]
    rw [e] at h
    simp only [Option.some.injEq, Prod.mk.injEq] at h
    obtain ⟨rfl, rfl, rfl⟩ := h
    exact refthr_out A0 c0 l0 A1 c1 l1 x w hC0 hc0 hC1 hc1 k0 k1 g0 g1 (by rw [in_eq ha, hx])
   | true =>
    obtain ⟨kt, gt⟩ := (at_ev ha hx).one
    have vb := val_bounds ha hx
    have hin : ref_In.f l0 x = some true := by rw [in_eq ha, hx]
    obtain ⟨N, hN⟩ : ∃ N, (valR l0 x).num = N := ⟨_, rfl⟩
    obtain ⟨D, hD⟩ : ∃ D, ((valR l0 x).den : Int) = D := ⟨_, rfl⟩
    have bx0 := hb.bx 0 (by omega)
    have bxL := hb.bx (l1.length - 1) (by omega)
    have q0 := div_lt_div_iff (valR l0 x).num (valR l0 x).den (px l1 0) 1 vb.2.2.1 (by omega)
    have qL := div_lt_div_iff (px l1 (l1.length - 1)) 1 (valR l0 x).num (valR l0 x).den (by omega) vb.2.2.1
    have e1 : ∀ z : Int, (z : Rat) / ((1 : Int) : Rat) = z := fun z => by grind
    rw [rat_eta, e1, hN, hD, Int.mul_one] at q0
    rw [rat_eta, e1, hN, hD, Int.mul_one] at qL
    rw [hN, hD] at vb gt
    have p0 := mulb (a := px l1 0) (b := D) bx0.1 bx0.2 (Int.le_of_lt vb.2.2.1) vb.2.2.2
    have pL := mulb (a := px l1 (l1.length - 1)) (b := D) bxL.1 bxL.2 (Int.le_of_lt vb.2.2.1) vb.2.2.2
    have m0 : IntKind.i64.wrap (px l1 0 * D) = px l1 0 * D := IntWalk.i64_in _ (by omega)
    have m1 : IntKind.i64.wrap (px l1 (l1.length - 1) * D) = px l1 (l1.length - 1) * D := IntWalk.i64_in _ (by omega)
    by_cases hA : valR l0 x < (px l1 0 : Rat)
    ·
     rw [through_out_eq ha hb hx (Or.inl hA)] at h
     simp only [Option.some.injEq, Prod.mk.injEq] at h
     obtain ⟨rfl, rfl, rfl⟩ := h
     exact refthr_edgea A0 c0 l0 A1 c1 l1 x w hC0 hc0 hC1 hc1 k0 k1 g0 g1 hin kt N D _ _ gt (from_eq hb) (to_eq hb) m0 m1 (decide_eq_true (q0.1 hA))
    ·
     have hA' : ¬ N < px l1 0 * D := fun q => hA (q0.2 q)
     by_cases hB : (px l1 (l1.length - 1) : Rat) < valR l0 x
     ·
      rw [through_out_eq ha hb hx (Or.inr hB)] at h
      simp only [Option.some.injEq, Prod.mk.injEq] at h
      obtain ⟨rfl, rfl, rfl⟩ := h
      exact refthr_edgeb A0 c0 l0 A1 c1 l1 x w hC0 hc0 hC1 hc1 k0 k1 g0 g1 hin kt N D _ _ gt (from_eq hb) (to_eq hb) m0 m1 (decide_eq_false hA') (decide_eq_true (qL.1 hB))
     ·
      have hB' : ¬ px l1 (l1.length - 1) * D < N := fun q => hB (qL.2 q)
      obtain ⟨j, q, r, hl, hj, pj, t0, td, hS, hq, eT⟩ := thr_facts ha hb hx (by grind) (by grind) hN hD
      obtain ⟨kl, gl⟩ := hl.one
      obtain ⟨ks, gs⟩ := hS.one
      rw [eT] at h
      simp only [Option.some.injEq, Prod.mk.injEq] at h
      obtain ⟨rfl, rfl, rfl⟩ := h
      have bxj := hb.bx j (by omega)
      have bxj1 := hb.bx (j + 1) hj
      have byj := hb.by_ j (by omega)
      have byj1 := hb.by_ (j + 1) hj
      have rj0 : (rd_T57 l1 (j : Int)).f0 = px l1 j := by rw [rd_nat]; rfl
      have rj1 : (rd_T57 l1 (j : Int)).f1 = py l1 j := by rw [rd_nat]; rfl
      have rk0 : (rd_T57 l1 ((j : Int) + 1)).f0 = px l1 (j + 1) := by rw [show (j : Int) + 1 = ((j + 1 : Nat) : Int) by omega, rd_nat]; rfl
      have rk1 : (rd_T57 l1 ((j : Int) + 1)).f1 = py l1 (j + 1) := by rw [show (j : Int) + 1 = ((j + 1 : Nat) : Int) by omega, rd_nat]; rfl
      have dN := div_bounds vb.1 vb.2.2.1
      have et : N.tdiv D = N / D := Int.tdiv_eq_ediv_of_nonneg vb.1
      exact refthr_in A0 c0 l0 A1 c1 l1 x w hC0 hc0 hC1 hc1 k0 k1 g0 g1 hin kt N D _ _ gt (from_eq hb) (to_eq hb) m0 m1 (decide_eq_false hA') (decide_eq_false hB') (beq_eq_false_iff_ne.2 (by omega)) (by omega)
       (N / D) j (by rw [et]; exact IntWalk.i64_in _ (by omega)) kl gl (by omega) (by omega) (by omega) (by omega)
       (px l1 j * D) (N - px l1 j * D) (py l1 (j + 1) - py l1 j) (D * (px l1 (j + 1) - px l1 j)) (px l1 (j + 1) - px l1 j) q (py l1 j + q) (py l1 j + q + 1) r
       (by rw [rj0]; exact IntWalk.i64_in _ (by omega)) (IntWalk.i64_in _ (by omega)) (by rw [rk1, rj1]; exact IntWalk.i64_in _ (by omega)) (by rw [rk0, rj0]; exact IntWalk.i64_in _ (by omega)) (IntWalk.i64_in _ (by omega))
       ks gs (by rw [rj1]; exact IntWalk.i64_in _ (by omega)) (IntWalk.i64_in _ (by omega)) (IntWalk.i64_in _ (by omega))
end Go.Proofs.YtlhhpogaaneamaaDoor.X
namespace Go.Proofs.YtlhhpogaaneamaaDoor.X
open Go.RowKit Go.Shelf Go.Proofs.YtlhhpogaaneamaaDoorW.PrintWords Go.Proofs.YtlhhpogaaneamaaDoorW.PrintLast Go.Proofs.YtlhhpogaaneamaaDoorW.PrintMore
set_option linter.unusedVariables false
set_option linter.unusedSimpArgs false
set_option maxRecDepth 100000 in
set_option maxHeartbeats 4000000 in
theorem compares_walk (k : Nat) (A0 : Option Addr) (c0 : Nat) (l0 : List S57) (A1 : Option Addr) (c1 : Nat) (l1 : List S57) (x : Int) (w : World) (hC0 : Kd.C k57 w A0 l0.length l0) (hc0 : l0.length ≤ c0) (hC1 : Kd.C k57 w A1 l1.length l1) (hc1 : l1.length ≤ c1) (hfew : law_few.f k [l0, l1] = some true)
  (b e h p q s : Int) (g : Bool) (h36 : curve_Bent.f l0 = some (b, e)) (h38 : curve_Below.f l0 l1 = some (g, h)) (h39 : ref_Below.f k l0 l1 = some (g, h)) (h40 : curve_Through.f l0 l1 x = some (p, q, s)) :
  Calls Tryd.prog 5 #[.slice A0 l0.length c0, .slice A1 l1.length c1, .int .i64 x] w fun e w' => e = .returned (.bool true) ∧ Below w.heap.size w w' := by
 have HB0 := Aside0.mk (Below.refl w.heap.size w)
 have hu43 := Tryd.underlying43
 have HR0 := Aside0.mk hC0
 clear hC0
 have HR1 := Aside0.mk hC1
 clear hC1
 go_enter Tryd.func5, Tryd.ntmps5
 go_wp2_with fail
 refine (law_sane.calls true _ rfl).mono ?_
 rintro e w1 ⟨rfl, hb⟩
 have HB2 := Aside0.mk (HB0.out.trans (hb.mono HB0.out.size))
 clear HB0
 clear hb
 go_wp2_with fail
 obtain ⟨u3, hu3⟩ : ∃ u, w1.alloc (.cells #[.slice A0 l0.length c0, .slice A1 l1.length c1] 23) = u := ⟨_, rfl⟩
 have hb_u3 : Below w1.heap.size w1 u3 := by rw [← hu3]; exact (Below.refl _ w1).alloc (Nat.le_refl _) _
 have K_f := Aside0.mk (show Blk u3 (w1.heap.size) 23 #[.slice A0 l0.length c0, .slice A1 l1.length c1] by rw [← hu3]; first | exact Blk.new w1 23 _ | (have := Blk.new w1 23 #[.slice A0 l0.length c0, .slice A1 l1.length c1]; simp only [World.size_alloc, World.size_alloc] at this; exact this))
 rw [hu3]
 have hz_u3 := Aside0.mk (show u3.heap.size = w1.heap.size + 1 by rw [← hu3]; exact World.size_alloc _ _)
 clear hu3
 have HB4 := Aside0.mk (HB2.out.trans (hb_u3.mono HB2.out.size))
 clear HB2
 clear hb_u3
 refine (law_few.calls k (some ⟨w1.heap.size, 0, none⟩) 2 [l0, l1] true _ (two_C K_f.out (Kd.C_below HR0.out HB4.out) hc0 (Kd.C_below HR1.out HB4.out) hc1) (by simp) hfew).mono ?_
 rintro e w' ⟨rfl, ⟨nd, rfl⟩⟩
 obtain ⟨w5, hw5⟩ : ∃ u, u3.drewN nd = u := ⟨_, rfl⟩
 have hb : Below u3.heap.size u3 w5 := by rw [← hw5]; exact pw_below_drewN (Below.refl _ _) nd
 rw [hw5]
 clear hw5
 have P6 := Aside0.mk hb
 have HB7 := Aside0.mk (HB4.out.trans (hb.mono HB4.out.size))
 clear HB4
 clear hb
 go_wp2_with fail
 refine (curve_Bent.calls A0 c0 l0 b e _ (Kd.C_below HR0.out HB7.out) hc0 h36).mono ?_
 rintro e w8 ⟨rfl, hb⟩
 have HB9 := Aside0.mk (HB7.out.trans (hb.mono HB7.out.size))
 clear HB7
 clear hb
 go_wp2_with fail
 refine (ref_Bent.calls A0 c0 l0 b e _ (Kd.C_below HR0.out HB9.out) hc0 h36).mono ?_
 rintro e w10 ⟨rfl, hb⟩
 have HB11 := Aside0.mk (HB9.out.trans (hb.mono HB9.out.size))
 clear HB9
 clear hb
 go_wp2_with fail
 refine (curve_Below.calls A0 c0 l0 A1 c1 l1 g h _ (Kd.C_below HR0.out HB11.out) hc0 (Kd.C_below HR1.out HB11.out) hc1 h38).mono ?_
 rintro e w12 ⟨rfl, hb⟩
 have HB13 := Aside0.mk (HB11.out.trans (hb.mono HB11.out.size))
 clear HB11
 clear hb
 go_wp2_with fail
 refine (ref_Below.calls k A0 c0 l0 A1 c1 l1 g h _ (Kd.C_below HR0.out HB13.out) hc0 (Kd.C_below HR1.out HB13.out) hc1 h39).mono ?_
 rintro e w14 ⟨rfl, hb⟩
 have HB15 := Aside0.mk (HB13.out.trans (hb.mono HB13.out.size))
 clear HB13
 clear hb
 go_wp2_with fail
 refine (curve_Through.calls A0 c0 l0 A1 c1 l1 x p q s _ (Kd.C_below HR0.out HB15.out) hc0 (Kd.C_below HR1.out HB15.out) hc1 h40).mono ?_
 rintro e w16 ⟨rfl, hb⟩
 have HB17 := Aside0.mk (HB15.out.trans (hb.mono HB15.out.size))
 clear HB15
 clear hb
 go_wp2_with fail
 obtain ⟨u18, hu18⟩ : ∃ u, w16.alloc (.cells #[.int .i64 p, .int .i64 q] 43) = u := ⟨_, rfl⟩
 have hb_u18 : Below w16.heap.size w16 u18 := by rw [← hu18]; exact (Below.refl _ w16).alloc (Nat.le_refl _) _
 have K_l := Aside0.mk (show Blk u18 (w16.heap.size) 43 #[.int .i64 p, .int .i64 q] by rw [← hu18]; first | exact Blk.new w16 43 _ | (have := Blk.new w16 43 #[.int .i64 p, .int .i64 q]; simp only [World.size_alloc, World.size_alloc] at this; exact this))
 rw [hu18]
 have hz_u18 := Aside0.mk (show u18.heap.size = w16.heap.size + 1 by rw [← hu18]; exact World.size_alloc _ _)
 clear hu18
 have HB19 := Aside0.mk (HB17.out.trans (hb_u18.mono HB17.out.size))
 clear HB17
 clear hb_u18
 refine (ref_Through.calls A0 c0 l0 A1 c1 l1 x p q s _ (Kd.C_below HR0.out HB19.out) hc0 (Kd.C_below HR1.out HB19.out) hc1 h40).mono ?_
 rintro e w20 ⟨rfl, hb⟩
 have P21 := Aside0.mk hb
 have HB22 := Aside0.mk (HB19.out.trans (hb.mono HB19.out.size))
 clear HB19
 clear hb
 have n0 : (w20.alloc (.cells #[.int .i64 p, .int .i64 q] 43)).cell? ⟨w20.heap.size, 0, none⟩ = some (.int .i64 p) := ((Blk.new w20 43 #[.int .i64 p, .int .i64 q]).cell 0).trans rfl
 have l0' : (w20.alloc (.cells #[.int .i64 p, .int .i64 q] 43)).cell? ⟨w16.heap.size, 0, none⟩ = some (.int .i64 p) := (((K_l.out.below P21.out K_l.out.lt).alloc (.cells #[.int .i64 p, .int .i64 q] 43)).cell 0).trans rfl
 have n1 : (w20.alloc (.cells #[.int .i64 p, .int .i64 q] 43)).cell? ⟨w20.heap.size, 1, none⟩ = some (.int .i64 q) := ((Blk.new w20 43 #[.int .i64 p, .int .i64 q]).cell 1).trans rfl
 have l1' : (w20.alloc (.cells #[.int .i64 p, .int .i64 q] 43)).cell? ⟨w16.heap.size, 1, none⟩ = some (.int .i64 q) := (((K_l.out.below P21.out K_l.out.lt).alloc (.cells #[.int .i64 p, .int .i64 q] 43)).cell 1).trans rfl
 go_wp2_with fail
 go_ret
 exact ⟨rfl, (HB22.out.alloc HB22.out.size _)⟩
set_option maxRecDepth 100000 in
set_option maxHeartbeats 4000000 in
theorem compares_many (k : Nat) (A0 : Option Addr) (c0 : Nat) (l0 : List S57) (A1 : Option Addr) (c1 : Nat) (l1 : List S57) (x : Int) (w : World) (hC0 : Kd.C k57 w A0 l0.length l0) (hc0 : l0.length ≤ c0) (hC1 : Kd.C k57 w A1 l1.length l1) (hc1 : l1.length ≤ c1) (hfew : law_few.f k [l0, l1] = some false) :
  Calls Tryd.prog 5 #[.slice A0 l0.length c0, .slice A1 l1.length c1, .int .i64 x] w fun e w' => e = .returned (.bool true) ∧ Below w.heap.size w w' := by
 have HB0 := Aside0.mk (Below.refl w.heap.size w)
 have hu43 := Tryd.underlying43
 have HR0 := Aside0.mk hC0
 clear hC0
 have HR1 := Aside0.mk hC1
 clear hC1
 go_enter Tryd.func5, Tryd.ntmps5
 go_wp2_with fail
 refine (law_sane.calls true _ rfl).mono ?_
 rintro e w1 ⟨rfl, hb⟩
 have HB2 := Aside0.mk (HB0.out.trans (hb.mono HB0.out.size))
 clear HB0
 clear hb
 go_wp2_with fail
 obtain ⟨u3, hu3⟩ : ∃ u, w1.alloc (.cells #[.slice A0 l0.length c0, .slice A1 l1.length c1] 23) = u := ⟨_, rfl⟩
 have hb_u3 : Below w1.heap.size w1 u3 := by rw [← hu3]; exact (Below.refl _ w1).alloc (Nat.le_refl _) _
 have K_f := Aside0.mk (show Blk u3 (w1.heap.size) 23 #[.slice A0 l0.length c0, .slice A1 l1.length c1] by rw [← hu3]; first | exact Blk.new w1 23 _ | (have := Blk.new w1 23 #[.slice A0 l0.length c0, .slice A1 l1.length c1]; simp only [World.size_alloc, World.size_alloc] at this; exact this))
 rw [hu3]
 have hz_u3 := Aside0.mk (show u3.heap.size = w1.heap.size + 1 by rw [← hu3]; exact World.size_alloc _ _)
 clear hu3
 have HB4 := Aside0.mk (HB2.out.trans (hb_u3.mono HB2.out.size))
 clear HB2
 clear hb_u3
 refine (law_few.calls k (some ⟨w1.heap.size, 0, none⟩) 2 [l0, l1] false _ (two_C K_f.out (Kd.C_below HR0.out HB4.out) hc0 (Kd.C_below HR1.out HB4.out) hc1) (by simp) hfew).mono ?_
 rintro e w' ⟨rfl, ⟨nd, rfl⟩⟩
 obtain ⟨w5, hw5⟩ : ∃ u, u3.drewN nd = u := ⟨_, rfl⟩
 have hb : Below u3.heap.size u3 w5 := by rw [← hw5]; exact pw_below_drewN (Below.refl _ _) nd
 rw [hw5]
 clear hw5
 have P6 := Aside0.mk hb
 have HB7 := Aside0.mk (HB4.out.trans (hb.mono HB4.out.size))
 clear HB4
 clear hb
 go_wp2_with fail
 go_ret
 exact ⟨rfl, HB7.out⟩
end Go.Proofs.YtlhhpogaaneamaaDoor.X
namespace Go.Proofs.YtlhhpogaaneamaaDoor.X
open Go.RowKit Go.Proofs.YtlhhpogaaneamaaDoorW.PrintWords Go.Proofs.YtlhhpogaaneamaaDoorW.PrintLast Go.Proofs.YtlhhpogaaneamaaDoorW.PrintMore
set_option linter.unusedVariables false
theorem through_any (a b : List S57) (x : Int) : ∃ r, curve_Through.f a b x = some r := by
 by_cases hg : goodB a = true ∧ goodB b = true
 ·
  have ha := good_of hg.1
  have hb := good_of hg.2
  cases hx : inB a x with
  | false => exact ⟨(0, 0, 1), by unfold curve_Through.f; rw [if_pos hg, if_neg (by simp [hx])]⟩
  | true =>
   by_cases ho : valR a x < (px b 0 : Rat) ∨ (px b (b.length - 1) : Rat) < valR a x
   ·
    exact ⟨_, through_out_eq ha hb hx ho⟩
   ·
    obtain ⟨lo, hi, u, e, _⟩ := through_in_eq ha hb hx (by grind) (by grind)
    exact ⟨_, e⟩
 ·
  exact ⟨(0, 0, 10), by unfold curve_Through.f; rw [if_neg hg]⟩
theorem bent_any (a : List S57) : ∃ r, curve_Bent.f a = some r := by
 unfold curve_Bent.f
 cases goodB a with
 | true => exact ⟨_, if_pos rfl⟩
 | false => exact ⟨_, if_neg (by simp)⟩
theorem compares_calls (A0 : Option Addr) (c0 : Nat) (l0 : List S57) (A1 : Option Addr) (c1 : Nat) (l1 : List S57) (x : Int) (w : World) (hC0 : Kd.C k57 w A0 l0.length l0) (hc0 : l0.length ≤ c0) (hC1 : Kd.C k57 w A1 l1.length l1) (hc1 : l1.length ≤ c1) :
  Calls Tryd.prog 5 #[.slice A0 l0.length c0, .slice A1 l1.length c1, .int .i64 x] w fun e w' => e = .returned (.bool true) ∧ Below w.heap.size w w' := by
 obtain ⟨kf, gf⟩ := (few2 l0 l1).fix
 by_cases hf : l0.length ≤ 1000 ∧ l1.length ≤ 1000
 ·
  rw [decide_eq_true hf] at gf
  obtain ⟨⟨b, e⟩, h36⟩ := bent_any l0
  obtain ⟨⟨g, h⟩, h38, E39⟩ := below_same l0 l1
  obtain ⟨⟨p, q, s⟩, h40⟩ := through_any l0 l1 x
  obtain ⟨k1, g1⟩ := E39.fix
  have gf' := gf (kf + k1) (by omega) 0
  have g1' := g1 (kf + k1) (by omega) 0
  simp only [Nat.add_zero] at gf' g1'
  exact compares_walk _ A0 c0 l0 A1 c1 l1 x w hC0 hc0 hC1 hc1 gf' b e h p q s g h36 h38 g1' h40
 ·
  rw [decide_eq_false hf] at gf
  have gf' := gf kf (by omega) 0
  simp only [Nat.add_zero] at gf'
  exact compares_many _ A0 c0 l0 A1 c1 l1 x w hC0 hc0 hC1 hc1 gf'
end Go.Proofs.YtlhhpogaaneamaaDoor.X
