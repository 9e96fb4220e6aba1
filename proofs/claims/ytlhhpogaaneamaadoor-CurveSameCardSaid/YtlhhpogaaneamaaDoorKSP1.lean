/- curveSame_holds: the declarations of this seat that its proof uses. Conditions: none. -/
import Derived.Test.YtlhhpogaaneamaaDoorKSP0
namespace Go.Proofs.YtlhhpogaaneamaaDoor.X
open Go.RowKit
set_option linter.unusedVariables false
theorem getD_of {c : List S57} {i : Nat} (h : i < c.length) : c.getD i z57 = c[i] := by
 rw [List.getD_eq_getElem?_getD, List.getElem?_eq_getElem h]; rfl
theorem linesOf_len (c : List S57) : (linesOf c).length = c.length - 1 := by simp [linesOf]
theorem linesOf_at {c : List S57} {i : Nat} (h : i + 1 < c.length) : (linesOf c)[i]? = some (c.getD i z57, c.getD (i + 1) z57) := by
 unfold linesOf
 rw [List.getElem?_eq_getElem (by simp; omega), List.getElem_zip, getD_of (by omega), getD_of h]
 simp
theorem mem_linesOf {c : List S57} {l : S57 × S57} : l ∈ linesOf c ↔ ∃ i, i + 1 < c.length ∧ l = (c.getD i z57, c.getD (i + 1) z57) := by
 constructor
 ·
  intro h
  obtain ⟨i, hi, rfl⟩ := List.getElem_of_mem h
  have hl : i + 1 < c.length := by rw [linesOf_len] at hi; omega
  refine ⟨i, hl, ?_⟩
  have := linesOf_at hl
  rw [List.getElem?_eq_getElem hi] at this
  exact Option.some.inj this
 ·
  rintro ⟨i, hi, rfl⟩
  have := linesOf_at hi
  exact List.mem_of_getElem? this
theorem rises_all : ∀ c : List S57, incB c = (linesOf c).all (fun l => decide (l.1.f0 < l.2.f0) && decide (l.1.f1 < l.2.f1))
 | [] => rfl
 | [_] => rfl
 | p :: q :: r => by
  have ih := rises_all (q :: r)
  simp only [incB, linesOf, List.tail_cons, List.zip_cons_cons, List.all_cons] at ih ⊢
  rw [ih]
theorem good_of {c : List S57} (h : goodB c = true) : Good c := by
 unfold goodB at h
 simp only [Bool.and_eq_true, decide_eq_true_eq] at h
 obtain ⟨⟨⟨h2, h64⟩, hr⟩, hi⟩ := h
 unfold rightB at hr
 rw [List.all_eq_true] at hr
 rw [rises_all, List.all_eq_true] at hi
 have hb : ∀ i, i < c.length → okp (c.getD i z57) = true := fun i hi => by rw [getD_of hi]; exact hr _ (List.getElem_mem hi)
 have hs : ∀ i, i + 1 < c.length → px c i < px c (i + 1) ∧ py c i < py c (i + 1) := fun i hl => by
  have := hi _ (mem_linesOf.2 ⟨i, hl, rfl⟩)
  simp only [Bool.and_eq_true, decide_eq_true_eq] at this
  exact this
 refine ⟨h2, h64, fun i hi => ?_, fun i hi => ?_, fun i hi => (hs i hi).1, fun i hi => (hs i hi).2⟩
 ·
  have := hb i hi; simp only [okp, okc, Bool.and_eq_true, decide_eq_true_eq] at this; exact this.1
 ·
  have := hb i hi; simp only [okp, okc, Bool.and_eq_true, decide_eq_true_eq] at this; exact this.2
theorem good_iff {c : List S57} : goodB c = true ↔ Good c := by
 constructor
 ·
  exact good_of
 ·
  intro h
  unfold goodB
  simp only [Bool.and_eq_true, decide_eq_true_eq]
  refine ⟨⟨⟨h.len2, h.len64⟩, ?_⟩, ?_⟩
  ·
   unfold rightB
   rw [List.all_eq_true]
   intro p hp
   obtain ⟨i, hi, rfl⟩ := List.getElem_of_mem hp
   have a := h.bx i hi; have b := h.by_ i hi
   unfold px at a; unfold py at b
   rw [getD_of hi] at a b
   simp only [okp, okc, Bool.and_eq_true, decide_eq_true_eq]
   exact ⟨a, b⟩
  ·
   rw [rises_all, List.all_eq_true]
   intro l hl
   obtain ⟨i, hi, rfl⟩ := mem_linesOf.1 hl
   have a := h.ix i hi; have b := h.iy i hi
   simp only [Bool.and_eq_true, decide_eq_true_eq]
   exact ⟨a, b⟩
theorem headD_eq {c : List S57} (h : 0 < c.length) : (c.headD z57) = c.getD 0 z57 := by
 cases c with
 | nil => simp at h
 | cons p r => rfl
theorem lastD_eq {c : List S57} (h : 0 < c.length) : (c.getLastD z57) = c.getD (c.length - 1) z57 := by
 rw [getD_of (by omega), List.getLastD_eq_getLast?, List.getLast?_eq_getElem?, List.getElem?_eq_getElem (by omega)]; rfl
theorem inB_iff {c : List S57} (h : Good c) {x : Int} : inB c x = true ↔ px c 0 ≤ x ∧ x ≤ px c (c.length - 1) := by
 have := h.len2
 unfold inB px
 rw [headD_eq (by omega), lastD_eq (by omega)]
 simp
theorem good_line {c : List S57} (h : Good c) {l : S57 × S57} (hl : l ∈ linesOf c) : LineOk l := by
 obtain ⟨i, hi, rfl⟩ := mem_linesOf.1 hl
 exact ⟨(h.bx i (by omega)).1, (h.bx (i + 1) hi).2, h.ix i hi, (h.by_ i (by omega)).1, (h.by_ (i + 1) hi).2, h.iy i hi⟩
theorem line_int {c : List S57} (k : Nat) (x : Int) (h0 : px c 0 ≤ x) (hk : x ≤ px c (k + 1)) : ∃ i, i ≤ k ∧ px c i ≤ x ∧ x ≤ px c (i + 1) := by
 induction k with
 | zero => exact ⟨0, by omega, h0, hk⟩
 | succ k ih =>
  by_cases e : x ≤ px c (k + 1)
  ·
   obtain ⟨i, h1, h2⟩ := ih e
   exact ⟨i, by omega, h2⟩
  ·
   exact ⟨k + 1, by omega, by omega, hk⟩
theorem lineAt_of {c : List S57} (h : Good c) {x : Int} (h0 : px c 0 ≤ x) (h1 : x ≤ px c (c.length - 1)) : ∃ l, lineAt c x = some l ∧ l ∈ linesOf c ∧ l.1.f0 ≤ x ∧ x ≤ l.2.f0 := by
 have := h.len2
 obtain ⟨i, hi, ha, hb⟩ := line_int (c := c) (c.length - 2) x h0 (by rw [show c.length - 2 + 1 = c.length - 1 by omega]; exact h1)
 have hm := mem_linesOf.2 ⟨i, (show i + 1 < c.length by omega), rfl⟩
 have hs : ((linesOf c).find? (hasB x)).isSome = true := by
  rw [List.find?_isSome]
  exact ⟨_, hm, by unfold hasB; simp only [Bool.and_eq_true, decide_eq_true_eq]; exact ⟨ha, hb⟩⟩
 obtain ⟨l, hl⟩ := Option.isSome_iff_exists.1 hs
 refine ⟨l, hl, List.mem_of_find?_eq_some hl, ?_⟩
 have := List.find?_some hl
 unfold hasB at this
 simpa using this
end Go.Proofs.YtlhhpogaaneamaaDoor.X
namespace Go.Proofs.YtlhhpogaaneamaaDoor.X
open Go.RowKit
set_option linter.unusedVariables false
def lineV (l : S57 × S57) (x : Int) : Rat := ((l.1.f1 * wideI l + overI l x : Int) : Rat) / ((wideI l : Int) : Rat)
def valR (c : List S57) (x : Int) : Rat := match lineAt c x with | some l => lineV l x | none => 0
theorem lineV_on {c : List S57} (h : Good c) {i : Nat} (hi : i + 1 < c.length) {x : Int} (h1 : px c i ≤ x) (h2 : x ≤ px c (i + 1)) :
  OnAt c i x (lineV (c.getD i z57, c.getD (i + 1) z57) x) := by
 have hw := h.rising.W hi
 refine ⟨hi, cast_le h1, cast_le h2, ?_⟩
 unfold lineV
 have e : ((wideI (c.getD i z57, c.getD (i + 1) z57) : Int) : Rat) = (px c (i + 1) : Rat) - px c i := by
  show (((px c (i + 1) - px c i : Int)) : Rat) = _
  rw [Rat.intCast_sub]
 have e2 : ((((c.getD i z57, c.getD (i + 1) z57) : S57 × S57).1.f1 * wideI (c.getD i z57, c.getD (i + 1) z57) + overI (c.getD i z57, c.getD (i + 1) z57) x : Int) : Rat) =
   (py c i : Rat) * ((px c (i + 1) : Rat) - px c i) + ((x : Rat) - px c i) * ((py c (i + 1) : Rat) - py c i) := by
  show ((py c i * (px c (i + 1) - px c i) + (x - px c i) * (py c (i + 1) - py c i) : Int) : Rat) = _
  simp only [Rat.intCast_add, Rat.intCast_mul, Rat.intCast_sub]
 rw [e2, e]
 have hne : (px c (i + 1) : Rat) - px c i ≠ 0 := by grind
 grind
theorem valR_line {c : List S57} {x : Int} {l : S57 × S57} (hl : lineAt c x = some l) : valR c x = lineV l x := by unfold valR; rw [hl]
theorem valR_on {c : List S57} (h : Good c) {x : Int} (h0 : px c 0 ≤ x) (h1 : x ≤ px c (c.length - 1)) : On c x (valR c x) := by
 obtain ⟨l, hl, hm, ha, hb⟩ := lineAt_of h h0 h1
 obtain ⟨i, hi, rfl⟩ := mem_linesOf.1 hm
 rw [valR_line hl]
 exact ⟨i, lineV_on h hi ha hb⟩
theorem valR_eq {c : List S57} (h : Good c) {x : Int} {v : Rat} (o : On c x v) : valR c x = v := by
 have r := o.range h.rising
 exact (valR_on h (of_cast_le r.1) (of_cast_le r.2)).unique h.rising o
theorem lowI_iff {l : S57 × S57} {x y : Int} (hw : 0 < wideI l) : y ≤ lowI l x ↔ (y : Rat) ≤ lineV l x := by
 have hw' := cast_pos hw
 unfold lineV lowI
 rw [show (y : Rat) = (y : Rat) / ((1 : Int) : Rat) by grind, div_le_div_iff _ _ _ _ (by omega) hw, Int.mul_one]
 have e : y ≤ l.1.f1 + overI l x / wideI l ↔ y - l.1.f1 ≤ overI l x / wideI l := by omega
 rw [e, Int.le_ediv_iff_mul_le hw, Int.sub_mul]
 omega
theorem upI_iff {l : S57 × S57} {x y : Int} (hw : 0 < wideI l) : upI l x ≤ y ↔ lineV l x ≤ (y : Rat) := by
 have hw' := cast_pos hw
 unfold lineV upI
 rw [show (y : Rat) = (y : Rat) / ((1 : Int) : Rat) by grind, div_le_div_iff _ _ _ _ hw (by omega), Int.mul_one]
 have e : l.1.f1 + (overI l x + wideI l - 1) / wideI l ≤ y ↔ (overI l x + wideI l - 1) / wideI l < y - l.1.f1 + 1 := by omega
 rw [e, Int.ediv_lt_iff_lt_mul hw, Int.add_mul, Int.sub_mul]
 omega
theorem exactI_eq {l : S57 × S57} {x : Int} (hw : 0 < wideI l) : exactI l x = ((lineV l x).num, ((lineV l x).den : Int)) := by
 have := num_den (l.1.f1 * wideI l + overI l x) (wideI l) hw
 unfold exactI lowestI lineV
 rw [this.1, this.2]
section
variable {c : List S57} (h : Good c)
include h
theorem valR_wide {x : Int} (h0 : px c 0 ≤ x) (h1 : x ≤ px c (c.length - 1)) : ∃ l, lineAt c x = some l ∧ LineOk l ∧ l.1.f0 ≤ x ∧ x ≤ l.2.f0 ∧ valR c x = lineV l x := by
 obtain ⟨l, hl, hm, ha, hb⟩ := lineAt_of h h0 h1
 exact ⟨l, hl, good_line h hm, ha, hb, valR_line hl⟩
theorem valR_last : valR c (px c (c.length - 1)) = (py c (c.length - 1) : Rat) := by
 have := h.len2
 exact valR_eq h (on_point h.rising (by omega))
theorem valR_first : valR c (px c 0) = (py c 0 : Rat) := by
 have := h.len2
 exact valR_eq h (on_point h.rising (by omega))
end
end Go.Proofs.YtlhhpogaaneamaaDoor.X
namespace Go.Proofs.YtlhhpogaaneamaaDoor.X
open Go.RowKit Go.Proofs.YtlhhpogaaneamaaDoorW.PrintWords Go.Proofs.YtlhhpogaaneamaaDoorW.PrintLast Go.Proofs.YtlhhpogaaneamaaDoorW.PrintMore
attribute [local go_sem] max2_int min2_int max_two min_two
set_option linter.unusedVariables false
set_option linter.unusedSimpArgs false
def curve_coord.f (a0 : Int) : Option (Bool) := if a0 ≥ 0 then (some (decide (a0 ≤ 16777216))) else (some false)
set_option maxHeartbeats 8000000 in
set_option maxRecDepth 100000 in
theorem curve_coord.calls (a0 : Int) (r : Bool) (w : World) (h : curve_coord.f a0 = some r) :
  Calls Tryd.prog 91 #[.int .i64 a0] w fun e w' => e = .returned (.bool r) ∧ Drawn0 w w' := by
 have H : (if a0 ≥ 0 then (some (decide (a0 ≤ 16777216))) else (some false)) = some r := h
 clear h
 by_cases c2 : a0 ≥ 0
 ·
  rw [if_pos c2] at H
  have c2b0 : decide (0 ≤ a0) = true := decide_eq_true c2
  clear c2
  obtain rfl := Option.some.inj H
  go_enter Tryd.func91, Tryd.ntmps91
  go_wp2
  go_ret
  exact ⟨by first | rfl | (simp; done) | (simp [*]; done), by repeat (first | exact Drawn0.refl _ | apply Drawn0.step)⟩
 ·
  rw [if_neg c2] at H
  have c2b0 : decide (0 ≤ a0) = false := decide_eq_false c2
  clear c2
  obtain rfl := Option.some.inj H
  go_enter Tryd.func91, Tryd.ntmps91
  go_wp2
  go_ret
  exact ⟨by first | rfl | (simp; done) | (simp [*]; done), by repeat (first | exact Drawn0.refl _ | apply Drawn0.step)⟩
end Go.Proofs.YtlhhpogaaneamaaDoor.X
namespace Go.Proofs.YtlhhpogaaneamaaDoor.X
open Go.RowKit Go.Proofs.YtlhhpogaaneamaaDoorW.PrintWords Go.Proofs.YtlhhpogaaneamaaDoorW.PrintLast Go.Proofs.YtlhhpogaaneamaaDoorW.PrintMore
set_option linter.unusedVariables false
theorem product_eq {t n d : Int} (ht : 0 ≤ t) (htd : t ≤ d) (hn : 0 ≤ n) (hn' : n ≤ 16777216) (hd : 0 < d) (hd' : d ≤ 281474976710656) :
  curve_product.f t n d = some (t * n / d, t * n % d == 0) := by
 obtain ⟨a, ha⟩ : ∃ a, n / 4096 = a := ⟨_, rfl⟩
 obtain ⟨b, hb⟩ : ∃ b, n % 4096 = b := ⟨_, rfl⟩
 have ha0 : 0 ≤ a ∧ a ≤ 4096 := by omega
 have hb0 : 0 ≤ b ∧ b ≤ 4095 := by omega
 have hnab : n = 4096 * a + b := by omega
 have e1 : Int.tdiv n 4096 = a := by rw [Int.tdiv_eq_ediv_of_nonneg hn]; exact ha
 have e2 : Int.tmod n 4096 = b := by rw [Int.tmod_eq_emod_of_nonneg hn]; exact hb
 have m1 := mulb ht (show t ≤ 281474976710656 by omega) ha0.1 ha0.2
 have m2 := mulb ht (show t ≤ 281474976710656 by omega) hb0.1 hb0.2
 obtain ⟨q, hq⟩ : ∃ q, t * a / d = q := ⟨_, rfl⟩
 obtain ⟨r, hr⟩ : ∃ r, t * a % d = r := ⟨_, rfl⟩
 have hqr : t * a = d * q + r := by rw [← hq, ← hr]; exact (Int.mul_ediv_add_emod (t * a) d).symm
 have hr0 : 0 ≤ r ∧ r < d := ⟨hr ▸ Int.emod_nonneg _ (by omega), hr ▸ Int.emod_lt_of_pos _ hd⟩
 have hq0 : 0 ≤ q ∧ q ≤ a := by
  refine ⟨hq ▸ Int.ediv_nonneg m1.1 (by omega), ?_⟩
  rw [← hq]
  refine Int.ediv_le_of_le_mul hd ?_
  have := Int.mul_le_mul_of_nonneg_right htd ha0.1
  rw [Int.mul_comm a d]; exact this
 obtain ⟨L, hL⟩ : ∃ L, r * 4096 + t * b = L := ⟨_, rfl⟩
 have hL0 : 0 ≤ L ∧ L ≤ 2305843009213693952 := by omega
 have hLb : L / d ≤ 8191 := by
  refine Int.ediv_le_of_le_mul hd ?_
  have h1 := Int.mul_le_mul_of_nonneg_right htd hb0.1
  have h2 := Int.mul_le_mul_of_nonneg_left hb0.2 (show 0 ≤ d by omega)
  omega
 have hLn : 0 ≤ L / d := Int.ediv_nonneg hL0.1 (by omega)
 have key : t * n = d * (4096 * q) + L := by rw [← hL, hnab]; grind
 have k1 : t * n / d = 4096 * q + L / d := by rw [key, Int.mul_add_ediv_left _ _ (by omega : d ≠ 0)]
 have k2 : t * n % d = L % d := by rw [key, Int.mul_add_emod_self_left]
 unfold curve_product.f
 rw [if_neg (by omega), e1, e2, w64 (n := a) (by omega) (by omega), w64 (n := t * a) (by omega) (by omega), Int.tdiv_eq_ediv_of_nonneg m1.1, Int.tmod_eq_emod_of_nonneg m1.1, hq, hr, w64 (n := q) (by omega) (by omega), w64 (n := r * 4096) (by omega) (by omega), w64 (n := t * b) (by omega) (by omega), hL, w64 (n := L) (by omega) (by omega), Int.tdiv_eq_ediv_of_nonneg hL0.1, Int.tmod_eq_emod_of_nonneg hL0.1, w64 (n := L / d) (by omega) (by omega), w64 (n := q * 4096) (by omega) (by omega), w64 (by omega) (by omega), k1, k2]
 rw [Int.mul_comm q 4096]
end Go.Proofs.YtlhhpogaaneamaaDoor.X
namespace Go.Proofs.YtlhhpogaaneamaaDoor.X
open Go.RowKit Go.Proofs.YtlhhpogaaneamaaDoorW.PrintWords Go.Proofs.YtlhhpogaaneamaaDoorW.PrintLast Go.Proofs.YtlhhpogaaneamaaDoorW.PrintMore
attribute [local go_sem] max2_int min2_int max_two min_two
set_option linter.unusedVariables false
set_option linter.unusedSimpArgs false
theorem eqA57 (d : Nat) (w : World) (x0 y0 : Int) (x1 y1 : Int) :
  (Op.equalIn (d + 2) 57 (.agg #[.int .i64 x0, .int .i64 x1]) (.agg #[.int .i64 y0, .int .i64 y1])).run Tryd.prog w = .ok (x0 == y0 && (x1 == y1)) w := by
 refine eqA_of Tryd.underlying57 (by kernel_rfl) ?_
 refine eqf_cons (by rfl) (by go_simp; rfl) (by go_simp; rfl) (by go_simp) ?_
 exact eqf_last (by rfl) (by go_simp; rfl) (by go_simp; rfl) (by go_simp)
end Go.Proofs.YtlhhpogaaneamaaDoor.X
namespace Go.Proofs.YtlhhpogaaneamaaDoor.X
open Go.RowKit Go.Proofs.YtlhhpogaaneamaaDoorW.PrintWords Go.Proofs.YtlhhpogaaneamaaDoorW.PrintLast Go.Proofs.YtlhhpogaaneamaaDoorW.PrintMore
attribute [local go_sem] max2_int min2_int max_two min_two
set_option linter.unusedVariables false
set_option linter.unusedSimpArgs false
attribute [local go_sem high] eqA57
def ref_Same.l0 : Nat → List (S57) → List (S57) → Int → Option (Bool)
 | 0, _, _, _ => none
 | k + 1, x0, x1, x5 => if x5 < (x0.length : Int) then (if 0 ≤ x5 then (if x5 < (x1.length : Int) then (if (!(((rd_T57 x0 x5).f0) == ((rd_T57 x1 x5).f0)) || (!(((rd_T57 x0 x5).f1) == ((rd_T57 x1 x5).f1)))) = true then (some false) else (ref_Same.l0 k x0 x1 (wrap64 (x5 + 1)))) else (none)) else (none)) else (some true)
def ref_Same.f (k : Nat) (l0 : List (S57)) (l1 : List (S57)) : Option (Bool) := if (l0.length : Int) = (l1.length : Int) then (ref_Same.l0 k l0 l1 0) else (some false)
set_option maxHeartbeats 8000000 in
set_option maxRecDepth 100000 in
theorem ref_Same.calls (k : Nat) (A0 : Option Addr) (c0 : Nat) (l0 : List (S57)) (A1 : Option Addr) (c1 : Nat) (l1 : List (S57)) (r : Bool) (w : World) (hr0 : Kd.C k57 w A0 l0.length l0) (hc0 : l0.length ≤ c0) (hr1 : Kd.C k57 w A1 l1.length l1) (hc1 : l1.length ≤ c1) (h : ref_Same.f k l0 l1 = some r) :
  Calls Tryd.prog 45 #[.slice A0 l0.length c0, .slice A1 l1.length c1] w fun e w' => e = .returned (.bool r) ∧ Drawn0 w w' := by
 have hu57 := Tryd.underlying57
 have HR0 := Aside0.mk hr0
 have HC0 := Aside0.mk hc0
 clear hr0 hc0
 have HR1 := Aside0.mk hr1
 have HC1 := Aside0.mk hc1
 clear hr1 hc1
 have H : (if (l0.length : Int) = (l1.length : Int) then (ref_Same.l0 k l0 l1 0) else (some false)) = some r := h
 clear h
 by_cases c3 : (l0.length : Int) = (l1.length : Int)
 ·
  rw [if_pos c3] at H
  have c3b0 : ((l0.length : Int) == (l1.length : Int)) = true := beq_iff_eq.mpr c3
  have c3b1 : ((l0.length : Int) != (l1.length : Int)) = false := bne_eq_false_iff_eq.mpr c3
  have c3b2 : (l0.length == l1.length) = true := by first | simpa using c3 | (simp at c3 ⊢; omega)
  clear c3
  have H' := Aside0.mk H
  clear H
  go_enter Tryd.func45, Tryd.ntmps45
  go_wp2
  repeat (go_quiet (fail); try go_wp2)
  go_loopg [5] k (fun kq v5 w' => ∃ (x5_1 : Int), v5 = .int .i64 x5_1 ∧ Aside0 (ref_Same.l0 kq l0 l1 x5_1 = some r) ∧ Aside0 (kq ≤ k) ∧ Drawn0 w w')
  case atStart => exact ⟨(0), (by first | rfl | (simp; done) | (simp [*]; done)), H', ⟨Nat.le_refl _⟩, by repeat (first | exact Drawn0.refl _ | apply Drawn0.step)⟩
  case round =>
   clear H'
   try clear c1
   try clear p2
   try clear c3
   try clear c3b0
   try clear c3b1
   try clear c3b2
   obtain ⟨x5_1, rfl, HA, HK1, ⟨m1, rfl⟩⟩ := hrel
   cases gk with
   | zero => exact absurd HA.out (by simp [ref_Same.l0])
   | succ k1 =>
    have H := HA.out
    clear HA
    simp only [ref_Same.l0] at H
    by_cases c4 : x5_1 < (l0.length : Int)
    ·
     rw [if_pos c4] at H
     have c4b0 : decide (x5_1 < (l0.length : Int)) = true := decide_eq_true c4
     clear c4
     by_cases c5 : 0 ≤ x5_1
     ·
      rw [if_pos c5] at H
      have c5b0 : decide (0 ≤ x5_1) = true := decide_eq_true c5
      clear c5
      by_cases c6 : x5_1 < (l1.length : Int)
      ·
       rw [if_pos c6] at H
       have c6b0 : decide (x5_1 < (l1.length : Int)) = true := decide_eq_true c6
       clear c6
       by_cases c7 : (!(((rd_T57 l0 x5_1).f0) == ((rd_T57 l1 x5_1).f0)) || (!(((rd_T57 l0 x5_1).f1) == ((rd_T57 l1 x5_1).f1)))) = true
       ·
        rw [if_pos c7] at H
        have c7b0 : (!(((rd_T57 l0 x5_1).f0) == ((rd_T57 l1 x5_1).f0)) || (!(((rd_T57 l0 x5_1).f1) == ((rd_T57 l1 x5_1).f1)))) = true := c7
        clear c7
        obtain rfl := Option.some.inj H
        have p130 : 0 ≤ (x5_1 : Int) := of_decide_eq_true (by first | (with_reducible assumption) | assumption)
        have q130 : x5_1 < (l0.length : Int) := of_decide_eq_true (by first | (with_reducible assumption) | assumption)
        obtain ⟨ad130, e130, hx130_0, hx130_1⟩ := at_T57 HR0.out x5_1 p130 q130
        cases e130
        replace p130 := eq_true p130
        replace q130 := eq_true q130
        have p131 : 0 ≤ (x5_1 : Int) := of_decide_eq_true (by first | (with_reducible assumption) | assumption)
        have q131 : x5_1 < (l1.length : Int) := of_decide_eq_true (by first | (with_reducible assumption) | assumption)
        obtain ⟨ad131, e131, hx131_0, hx131_1⟩ := at_T57 HR1.out x5_1 p131 q131
        cases e131
        replace p131 := eq_true p131
        replace q131 := eq_true q131
        go_wp2
        repeat (go_quiet (fail); try go_wp2)
        go_ret
        exact ⟨by first | rfl | (simp; done) | (simp [*]; done), by repeat (first | exact Drawn0.refl _ | apply Drawn0.step)⟩
       ·
        rw [if_neg c7] at H
        have c7b0 : (!(((rd_T57 l0 x5_1).f0) == ((rd_T57 l1 x5_1).f0)) || (!(((rd_T57 l0 x5_1).f1) == ((rd_T57 l1 x5_1).f1)))) = false := by simpa using c7
        clear c7
        have H' := Aside0.mk H
        clear H
        have p130 : 0 ≤ (x5_1 : Int) := of_decide_eq_true (by first | (with_reducible assumption) | assumption)
        have q130 : x5_1 < (l0.length : Int) := of_decide_eq_true (by first | (with_reducible assumption) | assumption)
        obtain ⟨ad130, e130, hx130_0, hx130_1⟩ := at_T57 HR0.out x5_1 p130 q130
        cases e130
        replace p130 := eq_true p130
        replace q130 := eq_true q130
        have p131 : 0 ≤ (x5_1 : Int) := of_decide_eq_true (by first | (with_reducible assumption) | assumption)
        have q131 : x5_1 < (l1.length : Int) := of_decide_eq_true (by first | (with_reducible assumption) | assumption)
        obtain ⟨ad131, e131, hx131_0, hx131_1⟩ := at_T57 HR1.out x5_1 p131 q131
        cases e131
        replace p131 := eq_true p131
        replace q131 := eq_true q131
        go_wp2
        repeat (go_quiet (fail); try go_wp2)
        go_roundg k1
        case measure => have := HK1.out; omega
        case rel => exact ⟨(wrap64 (x5_1 + 1)), (by first | rfl | (simp; done) | (simp [*]; done)), H', ⟨by have := HK1.out; omega⟩, by repeat (first | exact Drawn0.refl _ | apply Drawn0.step)⟩
      ·
       rw [if_neg c6] at H
       exact absurd H (by simp)
     ·
      rw [if_neg c5] at H
      exact absurd H (by simp)
    ·
     rw [if_neg c4] at H
     have c4b0 : decide (x5_1 < (l0.length : Int)) = false := decide_eq_false c4
     clear c4
     obtain rfl := Option.some.inj H
     go_wp2
     repeat (go_quiet (fail); try go_wp2)
     go_ret
     exact ⟨by first | rfl | (simp; done) | (simp [*]; done), by repeat (first | exact Drawn0.refl _ | apply Drawn0.step)⟩
 ·
  rw [if_neg c3] at H
  have c3b0 : ((l0.length : Int) == (l1.length : Int)) = false := beq_eq_false_iff_ne.mpr c3
  have c3b1 : ((l0.length : Int) != (l1.length : Int)) = true := bne_iff_ne.mpr c3
  have c3b2 : (l0.length == l1.length) = false := by first | simpa using c3 | (simp at c3 ⊢; omega)
  obtain rfl := Option.some.inj H
  go_enter Tryd.func45, Tryd.ntmps45
  go_wp2
  repeat (go_quiet (fail); try go_wp2)
  go_ret
  exact ⟨by first | rfl | (simp; done) | (simp [*]; done), by repeat (first | exact Drawn0.refl _ | apply Drawn0.step)⟩
def law_same.f (k : Nat) (l0 : List (S57)) (a1 : Int) (l2 : List (S57)) (a3 : Int) : Option (Bool) := if a1 = a3 then ((ref_Same.f k l0 l2).bind fun t132 => (some t132)) else (some false)
set_option maxHeartbeats 8000000 in
set_option maxRecDepth 100000 in
theorem law_same.calls (k : Nat) (A0 : Option Addr) (c0 : Nat) (l0 : List (S57)) (a1 : Int) (A2 : Option Addr) (c2 : Nat) (l2 : List (S57)) (a3 : Int) (r : Bool) (w : World) (hr0 : Kd.C k57 w A0 l0.length l0) (hc0 : l0.length ≤ c0) (hr2 : Kd.C k57 w A2 l2.length l2) (hc2 : l2.length ≤ c2) (h : law_same.f k l0 a1 l2 a3 = some r) :
  Calls Tryd.prog 55 #[.slice A0 l0.length c0, .int .i64 a1, .slice A2 l2.length c2, .int .i64 a3] w fun e w' => e = .returned (.bool r) ∧ Drawn0 w w' := by
 have HR0 := Aside0.mk hr0
 have HC0 := Aside0.mk hc0
 clear hr0 hc0
 have HR2 := Aside0.mk hr2
 have HC2 := Aside0.mk hc2
 clear hr2 hc2
 have H : (if a1 = a3 then ((ref_Same.f k l0 l2).bind fun t132 => (some t132)) else (some false)) = some r := h
 clear h
 by_cases c5 : a1 = a3
 ·
  rw [if_pos c5] at H
  have c5b0 : (a1 == a3) = true := beq_iff_eq.mpr c5
  have c5b1 : (a1 != a3) = false := bne_eq_false_iff_eq.mpr c5
  clear c5
  replace H := Option.bind_eq_some_iff.mp H
  obtain ⟨t132, A60, H⟩ := H
  replace H : (some t132) = some r := H
  have A6 := Aside0.mk A60
  clear A60
  obtain rfl := Option.some.inj H
  go_enter Tryd.func55, Tryd.ntmps55
  go_wp2_with (first | (go_at_call 45; (with_reducible refine (ref_Same.calls k _ _ l0 _ _ l2 t132 _ ?side1 ?side2 ?side3 ?side4 A6.out).mono ?_); (case side1 => repeat (first | exact HR0.out | (with_reducible refine Kd.C_alloc ?_ _) | (with_reducible refine Kd.C_drewN ?_ _) | (with_reducible refine Kd.C_drew ?_))); (case side2 => exact HC0.out); (case side3 => repeat (first | exact HR2.out | (with_reducible refine Kd.C_alloc ?_ _) | (with_reducible refine Kd.C_drewN ?_ _) | (with_reducible refine Kd.C_drew ?_))); (case side4 => exact HC2.out); rintro e w' ⟨rfl, ⟨nd, rfl⟩⟩))
  go_ret
  exact ⟨by first | rfl | (simp; done) | (simp [*]; done), by repeat (first | exact Drawn0.refl _ | apply Drawn0.step)⟩
 ·
  rw [if_neg c5] at H
  have c5b0 : (a1 == a3) = false := beq_eq_false_iff_ne.mpr c5
  have c5b1 : (a1 != a3) = true := bne_iff_ne.mpr c5
  obtain rfl := Option.some.inj H
  go_enter Tryd.func55, Tryd.ntmps55
  go_wp2
  go_ret
  exact ⟨by first | rfl | (simp; done) | (simp [*]; done), by repeat (first | exact Drawn0.refl _ | apply Drawn0.step)⟩
def law_of.l0 : Nat → List Int → List (S57) → Int → Option ((List (S57)))
 | 0, _, _, _ => none
 | k + 1, x0, x2, x3 => if (wrap64 (x3 + 1)) < (x0.length : Int) then (if 0 ≤ x3 then (if x3 < (x0.length : Int) then (if 0 ≤ (wrap64 (x3 + 1)) then (if x2.length < 8796093022208 then (law_of.l0 k x0 (x2 ++ [(⟨rd x0 x3, rd x0 (wrap64 (x3 + 1))⟩ : S57)]) (wrap64 (x3 + 2))) else (none)) else (none)) else (none)) else (none)) else (some x2)
def law_of.f (k : Nat) (l0 : List Int) : Option ((List (S57))) := law_of.l0 k l0 ([] : List (S57)) 0
def law_of.T4 : Bool × List (List Nat × List Nat) := (true, [([], []), ([], []), ([], []), ([1, 2], [1, 2]), ([3], [3]), ([], []), ([], []), ([6], [6]), ([5, 7], [5, 7]), ([8], [8]), ([4, 9], [4, 9]), ([10], [10]), ([0, 11], [0, 11]), ([12, 12, 0, 1, 2, 3, 4, 5, 6, 7, 8, 9, 10, 11, 12], [0, 12])])
def law_of.B4 : List Nat := [0, 0, 0, 6, 14, 0, 0, 64, 224, 480, 1022, 2046, 4095, 8191]
theorem law_of.tab4 : rtab .any (opsOf Tryd.f62 4) = law_of.T4 := by kernel_rfl
theorem law_of.bits4 : waitsOk law_of.T4.2 law_of.B4 = true := by kernel_rfl
set_option maxHeartbeats 8000000 in
set_option maxRecDepth 100000 in
theorem law_of.calls (k : Nat) (A0 : Option Addr) (c0 : Nat) (l0 : List Int) (r : List (S57)) (w : World) (hr0 : Kd.C (Kd.int .i64) w A0 l0.length l0) (hc0 : l0.length ≤ c0) (h : law_of.f k l0 = some r) :
  Calls Tryd.prog 62 #[.slice A0 l0.length c0] w fun e w' => ∃ v0_ : Value, e = .returned (v0_) ∧ Kd.R k57 57 w' w.heap.size (fun _ => True) v0_ r ∧ Below w.heap.size w w' := by
 have hu57 := Tryd.underlying57
 have HR0 := Aside0.mk hr0
 have HC0 := Aside0.mk hc0
 clear hr0 hc0
 have HB := Aside0.mk (Below.refl w.heap.size w)
 have H : (law_of.l0 k l0 ([] : List (S57)) 0) = some r := h
 clear h
 have H' := Aside0.mk H
 clear H
 go_enter Tryd.func62, Tryd.ntmps62
 go_wp2
 go_loopg [2, 3] k (fun kq v2 v3 w' => ∃ (x2_1 : List (S57)) (x3_1 : Int), v3 = .int .i64 x3_1 ∧ Aside0 (law_of.l0 kq l0 x2_1 x3_1 = some r) ∧ Aside0 (kq ≤ k) ∧ Aside0 (Kd.R k57 57 w' w.heap.size (fun _ => True) v2 x2_1) ∧ Aside0 (Below w.heap.size w w'))
 case atStart => exact ⟨(([] : List (S57))), (0), (by first | rfl | (simp; done) | (simp [*]; done)), H', ⟨Nat.le_refl _⟩, ⟨by first | exact Kd.R_nil _ _ _ _ _ | exact Kd.N_nil _ _ _ _ _ | exact Kd.V_nil _ _ _ _ _ | exact Kd.Q_nil _ _ _ _ _ | exact Kd.S_nil _ _ _ _ _⟩, ⟨by repeat (first | (with_reducible first | exact HB.out | apply below_alloc | apply pw_below_drewN | apply below_drew1) | exact HB.out)⟩⟩
 case round =>
  clear H'
  obtain ⟨x2_1, x3_1, rfl, HA, HK1, HO_2, HB⟩ := hrel
  cases gk with
  | zero => exact absurd HA.out (by simp [law_of.l0])
  | succ k1 =>
   have H := HA.out
   clear HA
   simp only [law_of.l0] at H
   by_cases c2 : (wrap64 (x3_1 + 1)) < (l0.length : Int)
   ·
    rw [if_pos c2] at H
    have c2b0 : decide ((wrap64 (x3_1 + 1)) < (l0.length : Int)) = true := decide_eq_true c2
    clear c2
    by_cases c3 : 0 ≤ x3_1
    ·
     rw [if_pos c3] at H
     have c3b0 : decide (0 ≤ x3_1) = true := decide_eq_true c3
     clear c3
     by_cases c4 : x3_1 < (l0.length : Int)
     ·
      rw [if_pos c4] at H
      have c4b0 : decide (x3_1 < (l0.length : Int)) = true := decide_eq_true c4
      clear c4
      obtain ⟨ji5, hji5⟩ : ∃ j_ : Int, (wrap64 (x3_1 + 1)) = j_ := ⟨_, rfl⟩
      replace H : (if 0 ≤ (ji5) then (if x2_1.length < 8796093022208 then (law_of.l0 k1 l0 (x2_1 ++ [(⟨rd l0 x3_1, rd l0 (ji5)⟩ : S57)]) (wrap64 (x3_1 + 2))) else (none)) else (none)) = some r := by first | (rw [hji5] at H; exact H) | (simp only [hji5] at H ⊢; exact H)
      (try rw [hji5] at c2b0)
      have hji5w : (IntKind.i64.wrap (x3_1 + 1)) = ji5 := (i64_w _).trans hji5
      by_cases c6 : 0 ≤ (ji5)
      ·
       rw [if_pos c6] at H
       have c6b0 : decide (0 ≤ (ji5)) = true := decide_eq_true c6
       clear c6
       by_cases c7 : x2_1.length < 8796093022208
       ·
        rw [if_pos c7] at H
        have LMc7 := Aside0.mk c7
        clear c7
        obtain ⟨y135, hy135⟩ : ∃ y_ : List (S57), y_ = (x2_1 ++ [(⟨rd l0 x3_1, rd l0 (ji5)⟩ : S57)]) := ⟨_, rfl⟩
        replace H : (law_of.l0 k1 l0 y135 (wrap64 (x3_1 + 2))) = some r := by first | (rw [hy135]; with_reducible exact H) | (have H2_ := (Option.bind_some _ _).symm.trans H; rw [hy135]; with_reducible exact H2_) | (have H2_ := (Option.bind_some _ _).symm.trans H; with_reducible exact H2_) | with_reducible exact H | (rw [hy135]; exact H) | exact H
        have Ny135 := Aside0.mk hy135
        clear hy135
        have H' := Aside0.mk H
        clear H
        try go_wp2
        have n0_ := Aside0.mk (Kd.R_drew HO_2.out)
        have n1_ := Aside0.mk (below_drew1 HB.out)
        clear HO_2
        clear HB
        have HO_2 := n0_
        have HB := n1_
        clear n0_ n1_
        have p133 : 0 ≤ (x3_1 : Int) := of_decide_eq_true (by first | (with_reducible assumption) | assumption)
        have q133 : x3_1 < (l0.length : Int) := of_decide_eq_true (by first | (with_reducible assumption) | assumption)
        obtain ⟨ad133, e133, hx133_0⟩ := Kd.at_int HR0.out x3_1 p133 q133
        have hw133_0 := hx133_0
        cases e133
        replace hx133_0 := (HB.out.cell (World.block_lt_of_cell? w _ hx133_0)).trans hx133_0
        replace p133 := eq_true p133
        replace q133 := eq_true q133
        have p134 : 0 ≤ ((ji5) : Int) := of_decide_eq_true (by first | (with_reducible assumption) | assumption)
        have q134 : (ji5) < (l0.length : Int) := of_decide_eq_true (by first | (with_reducible assumption) | assumption)
        obtain ⟨ad134, e134, hx134_0⟩ := Kd.at_int HR0.out (ji5) p134 q134
        have hw134_0 := hx134_0
        obtain rfl : ad133 = ad134 := (by injection e134)
        replace hx134_0 := (HB.out.cell (World.block_lt_of_cell? w _ hx134_0)).trans hx134_0
        replace p134 := eq_true p134
        replace q134 := eq_true q134
        refine start_ (n := 14) (S := fun w' => w'.cell? (ad133.add (x3_1).toNat) = some (.int .i64 (rd l0 x3_1)) ∧ w'.cell? (ad133.add ((ji5)).toNat) = some (.int .i64 (rd l0 (ji5)))) (ds := []) #[false, false, false, false, false, false, false, false, false, false, false, false, false, false] (by kernel_rfl) rfl rfl ⟨((HB.out.cell (World.block_lt_of_cell? w _ hw133_0)).trans hw133_0), ((HB.out.cell (World.block_lt_of_cell? w _ hw134_0)).trans hw134_0)⟩ (fun hHeld => ?_); refine with_tabW law_of.tab4 law_of.bits4 (fun HT_ HW_ => ?_)
        generalize wr.drew = w8 at HO_2 HB hx133_0 hx134_0 hHeld ⊢
        refine pure_ (i := 0) (N := some 11) (v := ?_) (a' := ?_) #[true, false, false, false, false, false, false, false, false, false, false, false, false, false] rfl rfl (any_of HT_.out (by kernel_rfl)) (fun _ _ _ h => h) (Or.inl ⟨by rfl, ?_⟩) ?_ ?_
        rotate_left
        ·
         intro w'
         go_simp
         with_reducible rfl
        rotate_left
        ·
         simp only [Act.put, List.setIfInBounds_toArray, List.set_cons_zero, List.set_cons_succ, i64_w, i32_w]
         rfl
        refine pure_ (i := 1) (N := some 12) (v := ?_) (a' := ?_) #[true, true, false, false, false, false, false, false, false, false, false, false, false, false] rfl rfl (any_of HT_.out (by kernel_rfl)) (fun _ _ _ h => h) (Or.inl ⟨by rfl, ?_⟩) ?_ ?_
        rotate_left
        ·
         intro w'
         go_simp
         with_reducible rfl
        rotate_left
        ·
         simp only [Act.put, List.setIfInBounds_toArray, List.set_cons_zero, List.set_cons_succ, i64_w, i32_w]
         rfl
        refine pure_ (i := 2) (N := some 13) (v := ?_) (a' := ?_) #[true, true, true, false, false, false, false, false, false, false, false, false, false, false] rfl rfl (any_of HT_.out (by kernel_rfl)) (fun _ _ _ h => h) (Or.inl ⟨by rfl, ?_⟩) ?_ ?_
        rotate_left
        ·
         intro w'
         go_simp
         with_reducible rfl
        rotate_left
        ·
         simp only [Act.put, List.setIfInBounds_toArray, List.set_cons_zero, List.set_cons_succ, i64_w, i32_w]
         rfl
        refine pure_ (i := 3) (N := some 14) (v := ?_) (a' := ?_) #[true, true, true, true, false, false, false, false, false, false, false, false, false, false] rfl rfl (any_of HT_.out (by kernel_rfl)) (fun _ _ _ h => h) (Or.inl ⟨by rfl, ?_⟩) ?_ ?_
        rotate_left
        ·
         intro w'
         go_simp
         with_reducible rfl
        rotate_left
        ·
         simp only [Act.put, List.setIfInBounds_toArray, List.set_cons_zero, List.set_cons_succ, i64_w, i32_w]
         rfl
        refine pure_ (i := 5) (N := some 16) (v := ?_) (a' := ?_) #[true, true, true, true, false, true, false, false, false, false, false, false, false, false] rfl rfl (any_of HT_.out (by kernel_rfl)) (fun _ _ _ h => h) (Or.inl ⟨by rfl, ?_⟩) ?_ ?_
        rotate_left
        ·
         intro w'
         go_simp
         with_reducible rfl
        rotate_left
        ·
         simp only [Act.put, List.setIfInBounds_toArray, List.set_cons_zero, List.set_cons_succ, i64_w, i32_w]
         rfl
        refine pure_ (i := 6) (N := some 17) (v := ?_) (a' := ?_) #[true, true, true, true, false, true, true, false, false, false, false, false, false, false] rfl rfl (any_of HT_.out (by kernel_rfl)) (fun _ _ _ h => h) (Or.inl ⟨by rfl, ?_⟩) ?_ ?_
        rotate_left
        ·
         intro w'
         go_simp
         with_reducible rfl
        rotate_left
        ·
         simp only [Act.put, List.setIfInBounds_toArray, List.set_cons_zero, List.set_cons_succ, i64_w, i32_w]
         rfl
        refine pure_ (i := 7) (N := some 18) (v := ?_) (a' := ?_) #[true, true, true, true, false, true, true, true, false, false, false, false, false, false] rfl rfl (any_of HT_.out (by kernel_rfl)) (fun _ _ _ h => h) (Or.inl ⟨by rfl, ?_⟩) ?_ ?_
        rotate_left
        ·
         intro w'
         go_simp
         with_reducible rfl
        rotate_left
        ·
         simp only [Act.put, List.setIfInBounds_toArray, List.set_cons_zero, List.set_cons_succ, i64_w, i32_w]
         rfl
        refine pure_ (i := 8) (N := some 19) (v := ?_) (a' := ?_) #[true, true, true, true, false, true, true, true, true, false, false, false, false, false] rfl rfl (any_of HT_.out (by kernel_rfl)) (fun _ _ _ h => h) (Or.inl ⟨by rfl, ?_⟩) ?_ ?_
        rotate_left
        ·
         intro w'
         go_simp
         with_reducible rfl
        rotate_left
        ·
         simp only [Act.put, List.setIfInBounds_toArray, List.set_cons_zero, List.set_cons_succ, i64_w, i32_w]
         rfl
        refine take_ (i := 4) (N := some 15) (v := ?_) (a' := ?_) #[true, true, true, true, true, true, true, true, true, false, false, false, false, false] rfl rfl (take_ofW HT_.out HW_.out (by kernel_rfl)) (fun _ _ _ h => h) (Or.inl ⟨by rfl, ?_⟩) hHeld ?_ ?_
        rotate_left
        ·
         rintro w' ⟨s0, s1⟩
         go_simp
         with_reducible rfl
        rotate_left
        ·
         simp only [Act.put, List.setIfInBounds_toArray, List.set_cons_zero, List.set_cons_succ, i64_w, i32_w]
         rfl
        refine take_ (i := 9) (N := some 20) (v := ?_) (a' := ?_) #[true, true, true, true, true, true, true, true, true, true, false, false, false, false] rfl rfl (take_ofW HT_.out HW_.out (by kernel_rfl)) (fun _ _ _ h => h) (Or.inl ⟨by rfl, ?_⟩) hHeld ?_ ?_
        rotate_left
        ·
         rintro w' ⟨s0, s1⟩
         go_simp
         with_reducible rfl
        rotate_left
        ·
         simp only [Act.put, List.setIfInBounds_toArray, List.set_cons_zero, List.set_cons_succ, i64_w, i32_w]
         rfl
        refine pure_ (i := 10) (N := some 21) (v := ?_) (a' := ?_) #[true, true, true, true, true, true, true, true, true, true, true, false, false, false] rfl rfl (any_of HT_.out (by kernel_rfl)) (fun _ _ _ h => h) (Or.inl ⟨by rfl, ?_⟩) ?_ ?_
        rotate_left
        ·
         intro w'
         go_simp
         with_reducible rfl
        rotate_left
        ·
         simp only [Act.put, List.setIfInBounds_toArray, List.set_cons_zero, List.set_cons_succ, i64_w, i32_w]
         rfl
        refine one_ (i := 11) (N := some 22) #[true, true, true, true, true, true, true, true, true, true, true, true, false, false] rfl rfl (one_of HT_.out (by kernel_rfl)) (by decide) (fun K hK => ?_)
        refine value_ (w1 := ?_) (v := ?_) (by rfl) rfl ?_ ?_
        rotate_left 2
        ·
         go_simp
         constructor
         ·
          rfl
         ·
          rfl
        refine hK.out _ _ ⟨(World.cell?_alloc_lt _ _ _ (World.block_lt_of_cell? _ _ (((HB.out.cell (World.block_lt_of_cell? w _ hw133_0)).trans hw133_0)))).trans (((HB.out.cell (World.block_lt_of_cell? w _ hw133_0)).trans hw133_0)), (World.cell?_alloc_lt _ _ _ (World.block_lt_of_cell? _ _ (((HB.out.cell (World.block_lt_of_cell? w _ hw134_0)).trans hw134_0)))).trans (((HB.out.cell (World.block_lt_of_cell? w _ hw134_0)).trans hw134_0))⟩ (fun hHeld => ?_)
        clear hK K
        refine norm_ (a' := ?_) ?_ ?_
        rotate_left
        ·
         show Act.put _ (some 22) _ = _
         simp only [Act.put, List.setIfInBounds_toArray, List.set_cons_zero, List.set_cons_succ, i64_w, i32_w]
         rfl
        refine one_ (i := 12) (N := some 23) #[true, true, true, true, true, true, true, true, true, true, true, true, true, false] rfl rfl (one_of HT_.out (by kernel_rfl)) (by decide) (fun K hK => ?_)
        refine Kd.R_append_step k57 (w0 := w) w.heap.size (by rfl) (.tmp 11) (.tmp 22) 23 57 (.agg #[(.int .i64 0), (.int .i64 0)]) 16 rfl Tryd.underlying23 info57 rfl (by decide) (by omega) u2 x2_1 (⟨rd l0 x3_1, rd l0 (ji5)⟩ : S57) [.int .i64 (rd l0 x3_1), .int .i64 (rd l0 (ji5))] (fun _ => True) (fun _ => False) rfl rfl ?aP (fun _ hk => hk.elim) ?aF ?aO ?aB ?aS ?aL ?_
        (case aP => exact k57_mkM _ _ _ (⟨rd l0 x3_1, rd l0 (ji5)⟩ : S57))
        (case aB => exact (by repeat (first | (with_reducible first | exact HB.out | apply below_alloc | apply pw_below_drewN | apply below_drew1) | exact HB.out)))
        (case aF => exact (fun _ _ => trivial))
        (case aO => exact (by (with_reducible repeat (first | apply Kd.R_alloc | apply Kd.R_drewN | apply Kd.R_drew)); exact HO_2.out))
        (case aS => exact (below_size (by repeat (first | (with_reducible first | exact HB.out | apply below_alloc | apply pw_below_drewN | apply below_drew1) | exact HB.out))))
        (case aL => have := LMc7.out; omega)
        intro v136 w9 ho hb hg hat
        rw [← Ny135.out] at ho
        have n0_ := Aside0.mk (hb)
        have n1_ := Aside0.mk (ho)
        clear HB
        clear HO_2
        have HB := n0_
        have HO137 := n1_
        clear n0_ n1_
        clear ho hb hg hat
        refine hK.out _ _ ⟨((HB.out.cell (World.block_lt_of_cell? w _ hw133_0)).trans hw133_0), ((HB.out.cell (World.block_lt_of_cell? w _ hw134_0)).trans hw134_0)⟩ (fun hHeld => ?_)
        clear hK K
        refine norm_ (a' := ?_) ?_ ?_
        rotate_left
        ·
         show Act.put _ (some 23) _ = _
         simp only [Act.put, List.setIfInBounds_toArray, List.set_cons_zero, List.set_cons_succ, i64_w, i32_w]
         rfl
        refine pure_ (i := 13) (N := some 2) (v := ?_) (a' := ?_) #[true, true, true, true, true, true, true, true, true, true, true, true, true, true] rfl rfl (any_of HT_.out (by kernel_rfl)) (fun _ _ _ h => h) (Or.inl ⟨by rfl, ?_⟩) ?_ ?_
        rotate_left
        ·
         intro w'
         go_simp
         with_reducible rfl
        rotate_left
        ·
         simp only [Act.put, List.setIfInBounds_toArray, List.set_cons_zero, List.set_cons_succ, i64_w, i32_w]
         rfl
        refine done_ (done_of HT_.out (by kernel_rfl)) ?_
        try go_wp2
        go_roundg k1
        case measure => have := HK1.out; omega
        case rel => exact ⟨(y135), (wrap64 (x3_1 + 2)), (by first | rfl | (simp; done) | (simp [*]; done)), H', ⟨by have := HK1.out; omega⟩, ⟨by (with_reducible repeat (first | apply Kd.R_alloc | apply Kd.R_drewN | apply Kd.R_drew)); exact HO137.out⟩, ⟨by repeat (first | (with_reducible first | exact HB.out | apply below_alloc | apply pw_below_drewN | apply below_drew1) | exact HB.out)⟩⟩
       ·
        rw [if_neg c7] at H
        exact absurd H (by simp)
      ·
       rw [if_neg c6] at H
       exact absurd H (by simp)
     ·
      rw [if_neg c4] at H
      exact absurd H (by simp)
    ·
     rw [if_neg c3] at H
     exact absurd H (by simp)
   ·
    rw [if_neg c2] at H
    have c2b0 : decide ((wrap64 (x3_1 + 1)) < (l0.length : Int)) = false := decide_eq_false c2
    clear c2
    obtain rfl := Option.some.inj H
    go_wp2
    go_ret
    exact ⟨_, by first | rfl | (simp [errW_none, errW_some] <;> rfl) | (simp [*, errW_none, errW_some] <;> rfl), by (with_reducible repeat (first | apply Kd.R_alloc | apply Kd.R_drewN | apply Kd.R_drew)); exact HO_2.out, by repeat (first | (with_reducible first | exact HB.out | apply below_alloc | apply pw_below_drewN | apply below_drew1) | exact HB.out)⟩
end Go.Proofs.YtlhhpogaaneamaaDoor.X
namespace Go.Proofs.YtlhhpogaaneamaaDoor.X
open Go.RowKit Go.Proofs.YtlhhpogaaneamaaDoorW.PrintWords Go.Proofs.YtlhhpogaaneamaaDoorW.PrintLast Go.Proofs.YtlhhpogaaneamaaDoorW.PrintMore
attribute [local go_sem] max2_int min2_int max_two min_two
set_option linter.unusedVariables false
set_option linter.unusedSimpArgs false
theorem eqA25 (d : Nat) (w : World) (x0 y0 : Int) (x1 y1 : Int) :
  (Op.equalIn (d + 2) 25 (.agg #[.int .i64 x0, .int .i64 x1]) (.agg #[.int .i64 y0, .int .i64 y1])).run Tryd.prog w = .ok (x0 == y0 && (x1 == y1)) w := by
 refine eqA_of Tryd.underlying25 (by kernel_rfl) ?_
 refine eqf_cons (by rfl) (by go_simp; rfl) (by go_simp; rfl) (by go_simp) ?_
 exact eqf_last (by rfl) (by go_simp; rfl) (by go_simp; rfl) (by go_simp)
end Go.Proofs.YtlhhpogaaneamaaDoor.X
