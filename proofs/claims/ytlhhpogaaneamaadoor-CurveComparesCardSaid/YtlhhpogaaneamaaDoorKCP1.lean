/- curveCompares_holds: the declarations of this seat that its proof uses. Conditions: none. -/
import Derived.Test.YtlhhpogaaneamaaDoorKCP0
namespace Go.Proofs.YtlhhpogaaneamaaDoor.X
open Go.RowKit
def Evn {α : Type} (g : Nat → Option α) (r : α) : Prop := ∃ k0, ∀ k, k0 ≤ k → g k = some r
theorem Evn.of {α : Type} {g : Nat → Option α} {r : α} (h : ∀ k, g k = some r) : Evn g r := ⟨0, fun k _ => h k⟩
theorem Evn.bind {α β : Type} {g : Nat → Option α} {f : Nat → α → Option β} {a : α} {r : β} (h : Evn g a) (h' : Evn (fun k => f k a) r) : Evn (fun k => (g k).bind (f k)) r := by
 obtain ⟨k1, h1⟩ := h; obtain ⟨k2, h2⟩ := h'
 exact ⟨max k1 k2, fun k hk => by show (g k).bind (f k) = some r; rw [h1 k (by omega), Option.bind_some]; exact h2 k (by omega)⟩
theorem Evn.step {α : Type} {g : Nat → Option α} {r : α} (h : Evn (fun k => g (k + 1)) r) : Evn g r := by
 obtain ⟨k0, h0⟩ := h
 exact ⟨k0 + 1, fun k hk => by obtain ⟨m, rfl⟩ : ∃ m, k = m + 1 := ⟨k - 1, by omega⟩; exact h0 m (by omega)⟩
theorem Evn.ext {α : Type} {g g' : Nat → Option α} {r : α} (h : Evn g r) (e : ∀ k, g' k = g k) : Evn g' r := by
 obtain ⟨k0, h0⟩ := h
 exact ⟨k0, fun k hk => by rw [e]; exact h0 k hk⟩
theorem Evn.one {α : Type} {g : Nat → Option α} {r : α} (h : Evn g r) : ∃ k, g k = some r := by
 obtain ⟨k0, h0⟩ := h
 exact ⟨k0, h0 k0 (Nat.le_refl _)⟩
theorem w64 {n : Int} (h1 : -9000000000000000000 ≤ n) (h2 : n ≤ 9000000000000000000) : wrap64 n = n := by unfold wrap64; omega
theorem mulb {a b A B : Int} (h1 : 0 ≤ a) (h2 : a ≤ A) (h3 : 0 ≤ b) (h4 : b ≤ B) : 0 ≤ a * b ∧ a * b ≤ A * B :=
 ⟨Int.mul_nonneg h1 h3, Int.le_trans (Int.mul_le_mul_of_nonneg_right h2 h3) (Int.mul_le_mul_of_nonneg_left h4 (by omega))⟩
theorem gcd_pos {n d : Int} (hd : 0 < d) : 0 < (Int.gcd n d : Int) := by
 have : 0 < Int.gcd n d := Int.gcd_pos_of_ne_zero_right _ (by omega)
 omega
theorem div_bounds {n g : Int} (hn : 0 ≤ n) (hg : 0 < g) : 0 ≤ n / g ∧ n / g ≤ n :=
 ⟨Int.ediv_nonneg hn (by omega), Int.ediv_le_self _ hn⟩
theorem gcd_step (a b : Int) : Int.gcd b (a % b) = Int.gcd a b := by
 conv => rhs; rw [← Int.emod_add_mul_ediv a b]
 rw [Int.gcd_comm (a % b + b * (a / b)) b, Int.gcd_add_mul_left_right]
theorem lowest_loop (n d : Int) (hn : 0 ≤ n) (hn' : n ≤ 281474976710656) (hd : 0 ≤ d) (hd' : d ≤ 281474976710656) (m : Nat) : ∀ (k : Nat) (a b : Int), 0 ≤ a → 0 ≤ b → 0 < Int.gcd a b → b.toNat ≤ m → m < k →
  curve_lowest.l0 k n d a b = some (n / (Int.gcd a b : Int), d / (Int.gcd a b : Int)) := by
 induction m with
 | zero =>
  intro k a b ha hb hg hm hk
  obtain ⟨k, rfl⟩ : ∃ j, k = j + 1 := ⟨k - 1, by omega⟩
  obtain rfl : b = 0 := by omega
  have e : (Int.gcd a 0 : Int) = a := by rw [Int.gcd_zero_right]; omega
  have ha0 : 0 < a := by omega
  simp only [curve_lowest.l0]
  rw [if_pos trivial, if_neg (by omega), e, Int.tdiv_eq_ediv_of_nonneg hn, Int.tdiv_eq_ediv_of_nonneg hd]
  have b1 := div_bounds hn ha0; have b2 := div_bounds hd ha0
  rw [w64 (by omega) (by omega), w64 (by omega) (by omega)]
 | succ m ih =>
  intro k a b ha hb hg hm hk
  obtain ⟨k, rfl⟩ : ∃ j, k = j + 1 := ⟨k - 1, by omega⟩
  by_cases h0 : b = 0
  ·
   subst h0
   have e : (Int.gcd a 0 : Int) = a := by rw [Int.gcd_zero_right]; omega
   have ha0 : 0 < a := by omega
   simp only [curve_lowest.l0]
   rw [if_pos trivial, if_neg (by omega), e, Int.tdiv_eq_ediv_of_nonneg hn, Int.tdiv_eq_ediv_of_nonneg hd]
   have b1 := div_bounds hn ha0; have b2 := div_bounds hd ha0
   rw [w64 (by omega) (by omega), w64 (by omega) (by omega)]
  ·
   simp only [curve_lowest.l0]
   have hb0 : 0 < b := by omega
   have e : Int.gcd b (a % b) = Int.gcd a b := gcd_step a b
   rw [if_neg h0, Int.tmod_eq_emod_of_nonneg ha, ih k b (a % b) hb (Int.emod_nonneg _ h0) (by rw [e]; exact hg) (by have := Int.emod_lt_of_pos a hb0; have := Int.emod_nonneg a h0; omega) (by omega), e]
theorem lowest_ev (n d : Int) (hn : 0 ≤ n) (hn' : n ≤ 281474976710656) (hd : 0 < d) (hd' : d ≤ 281474976710656) : Evn (fun k => curve_lowest.f k n d) (lowestI n d) :=
 ⟨d.toNat + 1, fun k hk => by
  unfold curve_lowest.f lowestI
  exact lowest_loop n d hn hn' (by omega) hd' d.toNat k n d hn (by omega) (Int.gcd_pos_of_ne_zero_right _ (by omega)) (Nat.le_refl _) (by omega)⟩
theorem ref_lowest_l0 : ∀ (k : Nat) (n d a b : Int), ref_lowest.l0 k n d a b = curve_lowest.l0 k n d a b
 | 0, _, _, _, _ => rfl
 | k + 1, n, d, a, b => by simp only [ref_lowest.l0, curve_lowest.l0, ref_lowest_l0 k]
theorem ref_lowest_ev (n d : Int) (hn : 0 ≤ n) (hn' : n ≤ 281474976710656) (hd : 0 < d) (hd' : d ≤ 281474976710656) : Evn (fun k => ref_lowest.f k n d) (lowestI n d) :=
 (lowest_ev n d hn hn' hd hd').ext fun k => by unfold ref_lowest.f curve_lowest.f; exact ref_lowest_l0 k n d n d
structure LineOk (l : S57 × S57) : Prop where
 x0 : 0 ≤ l.1.f0
 x1 : l.2.f0 ≤ 16777216
 xx : l.1.f0 < l.2.f0
 y0 : 0 ≤ l.1.f1
 y1 : l.2.f1 ≤ 16777216
 yy : l.1.f1 < l.2.f1
section
variable {l : S57 × S57} {x : Int}
theorem LineOk.wide (h : LineOk l) : 0 < wideI l ∧ wideI l ≤ 16777216 := by have := h.x0; have := h.x1; have := h.xx; unfold wideI; omega
theorem LineOk.high (h : LineOk l) : 0 < highI l ∧ highI l ≤ 16777216 := by have := h.y0; have := h.y1; have := h.yy; unfold highI; omega
theorem LineOk.over (h : LineOk l) (h1 : l.1.f0 ≤ x) (h2 : x ≤ l.2.f0) : 0 ≤ overI l x ∧ overI l x ≤ wideI l * highI l ∧ overI l x ≤ 281474976710656 := by
 have w := h.wide; have hh := h.high
 have a := mulb (a := x - l.1.f0) (b := highI l) (A := wideI l) (B := highI l) (by omega) (by unfold wideI; omega) (by omega) (Int.le_refl _)
 have b := mulb (a := x - l.1.f0) (b := highI l) (A := 16777216) (B := 16777216) (by omega) (by have := h.x0; have := h.x1; omega) (by omega) hh.2
 unfold overI; omega
theorem wide_eq (h : LineOk l) : curve_line_wide.f l.1.f0 l.1.f1 l.2.f0 l.2.f1 = some (wideI l) := by
 have := h.x0; have := h.x1; have := h.xx
 unfold curve_line_wide.f wideI; rw [w64 (by omega) (by omega)]
theorem high_eq (h : LineOk l) : curve_line_high.f l.1.f0 l.1.f1 l.2.f0 l.2.f1 = some (highI l) := by
 have := h.y0; have := h.y1; have := h.yy
 unfold curve_line_high.f highI; rw [w64 (by omega) (by omega)]
theorem over_eq (h : LineOk l) (h1 : l.1.f0 ≤ x) (h2 : x ≤ l.2.f0) : curve_line_over.f l.1.f0 l.1.f1 l.2.f0 l.2.f1 x = some (overI l x) := by
 have := h.x0; have := h.x1
 have o := h.over h1 h2
 unfold curve_line_over.f
 rw [high_eq h, Option.bind_some, w64 (n := x - l.1.f0) (by omega) (by omega)]
 show some (wrap64 (overI l x)) = _
 rw [w64 (by omega) (by omega)]
theorem low_bounds (h : LineOk l) (h1 : l.1.f0 ≤ x) (h2 : x ≤ l.2.f0) : 0 ≤ overI l x / wideI l ∧ overI l x / wideI l ≤ highI l := by
 have o := h.over h1 h2; have w := h.wide
 refine ⟨Int.ediv_nonneg o.1 (by omega), ?_⟩
 have := Int.ediv_le_ediv w.1 o.2.1
 rwa [Int.mul_ediv_cancel_left _ (by omega)] at this
theorem up_bounds (h : LineOk l) (h1 : l.1.f0 ≤ x) (h2 : x ≤ l.2.f0) : 0 ≤ (overI l x + wideI l - 1) / wideI l ∧ (overI l x + wideI l - 1) / wideI l ≤ highI l := by
 have o := h.over h1 h2; have w := h.wide
 refine ⟨Int.ediv_nonneg (by omega) (by omega), ?_⟩
 have e : (overI l x + wideI l - 1) / wideI l < highI l + 1 := by
  apply Int.ediv_lt_of_lt_mul w.1
  rw [Int.add_mul, Int.one_mul, Int.mul_comm (highI l)]; omega
 omega
theorem low_eq (h : LineOk l) (h1 : l.1.f0 ≤ x) (h2 : x ≤ l.2.f0) : curve_line_low.f l.1.f0 l.1.f1 l.2.f0 l.2.f1 x = some (lowI l x) := by
 have o := h.over h1 h2; have w := h.wide; have b := low_bounds h h1 h2; have hh := h.high
 have := h.y0; have := h.y1; have := h.yy
 unfold curve_line_low.f
 rw [over_eq h h1 h2, Option.bind_some, wide_eq h, Option.bind_some, if_neg (by omega), Int.tdiv_eq_ediv_of_nonneg o.1, w64 (n := overI l x / wideI l) (by omega) (by omega), w64 (by omega) (by omega)]
 rfl
theorem up_eq (h : LineOk l) (h1 : l.1.f0 ≤ x) (h2 : x ≤ l.2.f0) : curve_line_up.f l.1.f0 l.1.f1 l.2.f0 l.2.f1 x = some (upI l x) := by
 have o := h.over h1 h2; have w := h.wide; have b := up_bounds h h1 h2; have hh := h.high
 have := h.y0; have := h.y1; have := h.yy
 unfold curve_line_up.f
 rw [over_eq h h1 h2, Option.bind_some, wide_eq h, Option.bind_some, Option.bind_some, if_neg (by omega), w64 (n := overI l x + wideI l) (by omega) (by omega), w64 (n := overI l x + wideI l - 1) (by omega) (by omega),
  Int.tdiv_eq_ediv_of_nonneg (by omega), w64 (n := (overI l x + wideI l - 1) / wideI l) (by omega) (by omega), w64 (by omega) (by omega)]
 rfl
theorem exact_num (h : LineOk l) (h1 : l.1.f0 ≤ x) (h2 : x ≤ l.2.f0) : 0 ≤ l.1.f1 * wideI l ∧ l.1.f1 * wideI l ≤ 281474976710656 ∧ l.1.f1 * wideI l + overI l x ≤ 281474976710656 := by
 have o := h.over h1 h2; have w := h.wide; have hh := h.high
 have a := mulb (a := l.1.f1) (b := wideI l) (A := 16777216) (B := 16777216) h.y0 (by have := h.yy; have := h.y1; omega) (by omega) w.2
 have e : l.1.f1 * wideI l + wideI l * highI l = l.2.f1 * wideI l := by unfold highI; grind
 have a2 := mulb (a := l.2.f1) (b := wideI l) (A := 16777216) (B := 16777216) (by have := h.yy; have := h.y0; omega) h.y1 (by omega) w.2
 omega
theorem exact_ev (h : LineOk l) (h1 : l.1.f0 ≤ x) (h2 : x ≤ l.2.f0) : Evn (fun k => curve_line_exact.f k l.1.f0 l.1.f1 l.2.f0 l.2.f1 x) (exactI l x) := by
 have o := h.over h1 h2; have w := h.wide; have e := exact_num h h1 h2
 have key := lowest_ev (l.1.f1 * wideI l + overI l x) (wideI l) (by omega) (by omega) (by omega) (by omega)
 refine (key.bind (f := fun _ r => some r) (Evn.of fun _ => rfl)).ext fun k => ?_
 unfold curve_line_exact.f
 rw [wide_eq h, Option.bind_some, over_eq h h1 h2, Option.bind_some, Option.bind_some, w64 (n := l.1.f1 * wideI l) (by omega) (by omega), w64 (n := l.1.f1 * wideI l + overI l x) (by omega) (by omega)]
theorem rate_ev (h : LineOk l) : Evn (fun k => curve_line_rate.f k l.1.f0 l.1.f1 l.2.f0 l.2.f1) (rateI l) := by
 have w := h.wide; have hh := h.high
 have key := lowest_ev (highI l) (wideI l) (by omega) (by omega) (by omega) (by omega)
 refine (key.bind (f := fun _ r => some r) (Evn.of fun _ => rfl)).ext fun k => ?_
 unfold curve_line_rate.f
 rw [high_eq h, Option.bind_some, wide_eq h, Option.bind_some]
end
end Go.Proofs.YtlhhpogaaneamaaDoor.X
namespace Go.Proofs.YtlhhpogaaneamaaDoor.X
set_option linter.unusedVariables false
theorem num_den (n d : Int) (hd : 0 < d) : ((n : Rat) / d).num = n / (Int.gcd n d : Int) ∧ (((n:Rat)/d).den : Int) = d / (Int.gcd n d : Int) := by
 rw [← Rat.divInt_eq_div, Rat.num_divInt, Rat.den_divInt]
 have h1 : d.sign = 1 := Int.sign_eq_one_of_pos hd
 rw [h1, Int.one_mul, Int.gcd_comm d n, if_neg (by omega)]
 refine ⟨rfl, ?_⟩
 rw [Int.natCast_ediv]
 congr 1
 omega
theorem rat_eta (r : Rat) : (r.num : Rat) / ((r.den : Int) : Rat) = r := by
 rw [← Rat.divInt_eq_div]; exact Rat.num_divInt_den r
theorem den_pos (r : Rat) : 0 < (r.den : Int) := by have := r.den_pos; omega
theorem cast_pos {a : Int} (h : 0 < a) : (0 : Rat) < (a : Rat) := Rat.intCast_pos.2 h
theorem cast_le {a b : Int} (h : a ≤ b) : (a : Rat) ≤ (b : Rat) := Rat.intCast_le_intCast.2 h
theorem cast_lt {a b : Int} (h : a < b) : (a : Rat) < (b : Rat) := Rat.intCast_lt_intCast.2 h
theorem of_cast_le {a b : Int} (h : (a : Rat) ≤ (b : Rat)) : a ≤ b := Rat.intCast_le_intCast.1 h
theorem of_cast_lt {a b : Int} (h : (a : Rat) < (b : Rat)) : a < b := Rat.intCast_lt_intCast.1 h
theorem div_lt_div_iff (a b c d : Int) (hb : 0 < b) (hd : 0 < d) : (a : Rat) / b < (c : Rat) / d ↔ a * d < c * b := by
 have hb' := cast_pos hb; have hd' := cast_pos hd
 rw [Rat.div_lt_iff hb']
 have e : (c : Rat) / d * b = (c * b) / d := by grind
 rw [e, Rat.lt_div_iff hd', ← Rat.intCast_mul, ← Rat.intCast_mul, Rat.intCast_lt_intCast]
theorem div_eq_div_iff (a b c d : Int) (hb : 0 < b) (hd : 0 < d) : (a : Rat) / b = (c : Rat) / d ↔ a * d = c * b := by
 have h1 := div_lt_div_iff a b c d hb hd; have h2 := div_lt_div_iff c d a b hd hb
 constructor
 ·
  intro h
  have n1 : ¬ a * d < c * b := fun h' => by have := h1.2 h'; grind
  have n2 : ¬ c * b < a * d := fun h' => by have := h2.2 h'; grind
  omega
 ·
  intro h
  have n1 : ¬ (a : Rat) / b < (c : Rat) / d := fun h' => by have := h1.1 h'; omega
  have n2 : ¬ (c : Rat) / d < (a : Rat) / b := fun h' => by have := h2.1 h'; omega
  grind
theorem div_le_div_iff (a b c d : Int) (hb : 0 < b) (hd : 0 < d) : (a : Rat) / b ≤ (c : Rat) / d ↔ a * d ≤ c * b := by
 have h2 := div_lt_div_iff c d a b hd hb
 rw [← Rat.not_lt, h2, Int.not_lt]
theorem rat_eq_iff (r s : Rat) : r = s ↔ r.num = s.num ∧ (r.den : Int) = s.den := by
 constructor
 ·
  rintro rfl; exact ⟨rfl, rfl⟩
 ·
  rintro ⟨h1, h2⟩; exact Rat.ext h1 (by omega)
def px (c : List S57) (i : Nat) : Int := (c.getD i z57).f0
def py (c : List S57) (i : Nat) : Int := (c.getD i z57).f1
structure Good (c : List S57) : Prop where
 len2 : 2 ≤ c.length
 len64 : c.length ≤ 64
 bx : ∀ i, i < c.length → 0 ≤ px c i ∧ px c i ≤ 16777216
 by_ : ∀ i, i < c.length → 0 ≤ py c i ∧ py c i ≤ 16777216
 ix : ∀ i, i + 1 < c.length → px c i < px c (i + 1)
 iy : ∀ i, i + 1 < c.length → py c i < py c (i + 1)
structure Rising (c : List S57) : Prop where
 len2 : 2 ≤ c.length
 ix : ∀ i, i + 1 < c.length → px c i < px c (i + 1)
 iy : ∀ i, i + 1 < c.length → py c i < py c (i + 1)
theorem Good.rising {c : List S57} (h : Good c) : Rising c := ⟨h.len2, h.ix, h.iy⟩
theorem Rising.lt {c : List S57} (h : Rising c) {i j : Nat} (hij : i < j) (hj : j < c.length) : px c i < px c j ∧ py c i < py c j := by
 induction j with
 | zero => omega
 | succ j ih =>
  have a := h.ix j hj; have b := h.iy j hj
  rcases Nat.lt_or_ge i j with h1 | h1
  ·
   have := ih h1 (by omega); omega
  ·
   obtain rfl : i = j := by omega
   exact ⟨a, b⟩
theorem Rising.le {c : List S57} (h : Rising c) {i j : Nat} (hij : i ≤ j) (hj : j < c.length) : px c i ≤ px c j ∧ py c i ≤ py c j := by
 rcases Nat.lt_or_ge i j with h1 | h1
 ·
  have := h.lt h1 hj; omega
 ·
  obtain rfl : i = j := by omega
  exact ⟨Int.le_refl _, Int.le_refl _⟩
def OnAt (c : List S57) (i : Nat) (x v : Rat) : Prop :=
 i + 1 < c.length ∧ (px c i : Rat) ≤ x ∧ x ≤ (px c (i + 1) : Rat) ∧ (v - py c i) * ((px c (i + 1) : Rat) - px c i) = (x - px c i) * ((py c (i + 1) : Rat) - py c i)
def On (c : List S57) (x v : Rat) : Prop := ∃ i, OnAt c i x v
theorem seg_lo {v y0 W x x0 H : Rat} (hW : 0 < W) (hH : 0 < H) (h : (v - y0) * W = (x - x0) * H) (hx : x0 ≤ x) : y0 ≤ v := by
 have h1 : 0 ≤ (x - x0) * H := Rat.mul_nonneg (by grind) (by grind)
 rw [← h] at h1
 by_cases hc : y0 ≤ v
 ·
  exact hc
 ·
  have : (y0 - v) * W > 0 := Rat.mul_pos (by grind) hW
  grind
theorem seg_lo' {v y0 W x x0 H : Rat} (hW : 0 < W) (hH : 0 < H) (h : (v - y0) * W = (x - x0) * H) (hx : x0 < x) : y0 < v := by
 have h1 : 0 < (x - x0) * H := Rat.mul_pos (by grind) (by grind)
 rw [← h] at h1
 by_cases hc : y0 < v
 ·
  exact hc
 ·
  have : 0 ≤ (y0 - v) * W := Rat.mul_nonneg (by grind) (by grind)
  grind
theorem seg_mono {v v' y0 W x x' x0 H : Rat} (hW : 0 < W) (hH : 0 < H) (h : (v - y0) * W = (x - x0) * H) (h' : (v' - y0) * W = (x' - x0) * H) (hx : x < x') : v < v' :=
 seg_lo' (y0 := v) (x0 := x) (x := x') hW hH (by grind) hx
theorem Rising.W {c : List S57} (h : Rising c) {i : Nat} (hi : i + 1 < c.length) : (0 : Rat) < (px c (i + 1) : Rat) - px c i := by have := cast_lt (h.ix i hi); grind
theorem Rising.H {c : List S57} (h : Rising c) {i : Nat} (hi : i + 1 < c.length) : (0 : Rat) < (py c (i + 1) : Rat) - py c i := by have := cast_lt (h.iy i hi); grind
theorem OnAt.bounds {c : List S57} (h : Rising c) {i : Nat} {x v : Rat} (o : OnAt c i x v) : (py c i : Rat) ≤ v ∧ v ≤ (py c (i + 1) : Rat) := by
 obtain ⟨hi, h1, h2, h3⟩ := o
 exact ⟨seg_lo (h.W hi) (h.H hi) h3 h1, seg_lo (y0 := v) (v := py c (i + 1)) (x := px c (i + 1)) (x0 := x) (h.W hi) (h.H hi) (by grind) h2⟩
theorem OnAt.lt_right {c : List S57} (h : Rising c) {i : Nat} {x v : Rat} (o : OnAt c i x v) (hx : x < (px c (i + 1) : Rat)) : v < (py c (i + 1) : Rat) := by
 obtain ⟨hi, h1, h2, h3⟩ := o
 exact seg_lo' (y0 := v) (v := py c (i + 1)) (x := px c (i + 1)) (x0 := x) (h.W hi) (h.H hi) (by grind) hx
theorem OnAt.lt_left {c : List S57} (h : Rising c) {i : Nat} {x v : Rat} (o : OnAt c i x v) (hx : (px c i : Rat) < x) : (py c i : Rat) < v := by
 obtain ⟨hi, h1, h2, h3⟩ := o
 exact seg_lo' (h.W hi) (h.H hi) h3 hx
theorem OnAt.at_left {c : List S57} (h : Rising c) {i : Nat} {v : Rat} (o : OnAt c i (px c i) v) : v = py c i := by
 obtain ⟨hi, h1, h2, h3⟩ := o
 have := h.W hi
 grind
theorem OnAt.at_right {c : List S57} (h : Rising c) {i : Nat} {v : Rat} (o : OnAt c i (px c (i + 1)) v) : v = py c (i + 1) := by
 obtain ⟨hi, h1, h2, h3⟩ := o
 have := h.W hi
 grind
theorem On.unique {c : List S57} (h : Rising c) {x v v' : Rat} (o : On c x v) (o' : On c x v') : v = v' := by
 obtain ⟨i, o⟩ := o; obtain ⟨j, o'⟩ := o'
 have key : ∀ {i j : Nat} {v v' : Rat}, OnAt c i x v → OnAt c j x v' → i < j → v = v' := by
  intro i j v v' o o' hij
  have h3 := cast_le (h.le (i := i + 1) (j := j) hij (by have := o'.1; omega)).1
  have e1 : x = px c (i + 1) := by have := o.2.2.1; have := o'.2.1; grind
  have e2 : x = px c j := by have := o.2.2.1; have := o'.2.1; grind
  have e3 : px c (i + 1) = px c j := by rw [← Rat.intCast_inj]; grind
  have e4 : i + 1 = j := by
   rcases Nat.lt_or_ge (i + 1) j with h1 | h1
   ·
    have := h.lt h1 (by have := o'.1; omega); omega
   ·
    omega
  subst e4
  subst e2
  rw [o.at_right h, o'.at_left h]
 rcases Nat.lt_trichotomy i j with hij | rfl | hij
 ·
  exact key o o' hij
 ·
  have h1 := o.2.2.2; have h2 := o'.2.2.2; have := h.W o.1
  grind
 ·
  exact (key o' o hij).symm
theorem on_at {c : List S57} (h : Rising c) {i : Nat} (hi : i + 1 < c.length) {x : Rat} (h1 : (px c i : Rat) ≤ x) (h2 : x ≤ (px c (i + 1) : Rat)) :
  OnAt c i x (py c i + (x - px c i) * (((py c (i + 1) : Rat) - py c i) / ((px c (i + 1) : Rat) - px c i))) := by
 refine ⟨hi, h1, h2, ?_⟩
 have := h.W hi
 have hne : (px c (i + 1) : Rat) - px c i ≠ 0 := by grind
 grind
theorem On.range {c : List S57} (h : Rising c) {x v : Rat} (o : On c x v) : (px c 0 : Rat) ≤ x ∧ x ≤ (px c (c.length - 1) : Rat) := by
 obtain ⟨i, hi, h1, h2, _⟩ := o
 have a := cast_le (h.le (i := 0) (j := i) (by omega) (by omega)).1
 have b := cast_le (h.le (i := i + 1) (j := c.length - 1) (by omega) (by omega)).1
 grind
end Go.Proofs.YtlhhpogaaneamaaDoor.X
namespace Go.Proofs.YtlhhpogaaneamaaDoor.X
open Go.RowKit
set_option linter.unusedVariables false
theorem getD_of {c : List S57} {i : Nat} (h : i < c.length) : c.getD i z57 = c[i] := by
 rw [List.getD_eq_getElem?_getD, List.getElem?_eq_getElem h]; rfl
theorem linesOf_len (c : List S57) : (linesOf c).length = c.length - 1 := by simp [linesOf]
theorem linesOf_at {c : List S57} {i : Nat} (h : i + 1 < c.length) : (linesOf c)[i]? = some (c.getD i z57, c.getD (i + 1) z57) := by
 unfold linesOf
 rw [List.getElem?_eq_getElem (by simp; omega), List.getElem_zip, getD_of (by omega), getD_of h]
 simp
theorem mem_linesOf {c : List S57} {l : S57 × S57} : l ∈ linesOf c ↔ ∃ i, i + 1 < c.length ∧ l = (c.getD i z57, c.getD (i + 1) z57) := by
 constructor
 ·
  intro h
  obtain ⟨i, hi, rfl⟩ := List.getElem_of_mem h
  have hl : i + 1 < c.length := by rw [linesOf_len] at hi; omega
  refine ⟨i, hl, ?_⟩
  have := linesOf_at hl
  rw [List.getElem?_eq_getElem hi] at this
  exact Option.some.inj this
 ·
  rintro ⟨i, hi, rfl⟩
  have := linesOf_at hi
  exact List.mem_of_getElem? this
theorem rises_all : ∀ c : List S57, incB c = (linesOf c).all (fun l => decide (l.1.f0 < l.2.f0) && decide (l.1.f1 < l.2.f1))
 | [] => rfl
 | [_] => rfl
 | p :: q :: r => by
  have ih := rises_all (q :: r)
  simp only [incB, linesOf, List.tail_cons, List.zip_cons_cons, List.all_cons] at ih ⊢
  rw [ih]
theorem good_of {c : List S57} (h : goodB c = true) : Good c := by
 unfold goodB at h
 simp only [Bool.and_eq_true, decide_eq_true_eq] at h
 obtain ⟨⟨⟨h2, h64⟩, hr⟩, hi⟩ := h
 unfold rightB at hr
 rw [List.all_eq_true] at hr
 rw [rises_all, List.all_eq_true] at hi
 have hb : ∀ i, i < c.length → okp (c.getD i z57) = true := fun i hi => by rw [getD_of hi]; exact hr _ (List.getElem_mem hi)
 have hs : ∀ i, i + 1 < c.length → px c i < px c (i + 1) ∧ py c i < py c (i + 1) := fun i hl => by
  have := hi _ (mem_linesOf.2 ⟨i, hl, rfl⟩)
  simp only [Bool.and_eq_true, decide_eq_true_eq] at this
  exact this
 refine ⟨h2, h64, fun i hi => ?_, fun i hi => ?_, fun i hi => (hs i hi).1, fun i hi => (hs i hi).2⟩
 ·
  have := hb i hi; simp only [okp, okc, Bool.and_eq_true, decide_eq_true_eq] at this; exact this.1
 ·
  have := hb i hi; simp only [okp, okc, Bool.and_eq_true, decide_eq_true_eq] at this; exact this.2
theorem good_iff {c : List S57} : goodB c = true ↔ Good c := by
 constructor
 ·
  exact good_of
 ·
  intro h
  unfold goodB
  simp only [Bool.and_eq_true, decide_eq_true_eq]
  refine ⟨⟨⟨h.len2, h.len64⟩, ?_⟩, ?_⟩
  ·
   unfold rightB
   rw [List.all_eq_true]
   intro p hp
   obtain ⟨i, hi, rfl⟩ := List.getElem_of_mem hp
   have a := h.bx i hi; have b := h.by_ i hi
   unfold px at a; unfold py at b
   rw [getD_of hi] at a b
   simp only [okp, okc, Bool.and_eq_true, decide_eq_true_eq]
   exact ⟨a, b⟩
  ·
   rw [rises_all, List.all_eq_true]
   intro l hl
   obtain ⟨i, hi, rfl⟩ := mem_linesOf.1 hl
   have a := h.ix i hi; have b := h.iy i hi
   simp only [Bool.and_eq_true, decide_eq_true_eq]
   exact ⟨a, b⟩
theorem headD_eq {c : List S57} (h : 0 < c.length) : (c.headD z57) = c.getD 0 z57 := by
 cases c with
 | nil => simp at h
 | cons p r => rfl
theorem lastD_eq {c : List S57} (h : 0 < c.length) : (c.getLastD z57) = c.getD (c.length - 1) z57 := by
 rw [getD_of (by omega), List.getLastD_eq_getLast?, List.getLast?_eq_getElem?, List.getElem?_eq_getElem (by omega)]; rfl
theorem inB_iff {c : List S57} (h : Good c) {x : Int} : inB c x = true ↔ px c 0 ≤ x ∧ x ≤ px c (c.length - 1) := by
 have := h.len2
 unfold inB px
 rw [headD_eq (by omega), lastD_eq (by omega)]
 simp
theorem good_line {c : List S57} (h : Good c) {l : S57 × S57} (hl : l ∈ linesOf c) : LineOk l := by
 obtain ⟨i, hi, rfl⟩ := mem_linesOf.1 hl
 exact ⟨(h.bx i (by omega)).1, (h.bx (i + 1) hi).2, h.ix i hi, (h.by_ i (by omega)).1, (h.by_ (i + 1) hi).2, h.iy i hi⟩
theorem line_int {c : List S57} (k : Nat) (x : Int) (h0 : px c 0 ≤ x) (hk : x ≤ px c (k + 1)) : ∃ i, i ≤ k ∧ px c i ≤ x ∧ x ≤ px c (i + 1) := by
 induction k with
 | zero => exact ⟨0, by omega, h0, hk⟩
 | succ k ih =>
  by_cases e : x ≤ px c (k + 1)
  ·
   obtain ⟨i, h1, h2⟩ := ih e
   exact ⟨i, by omega, h2⟩
  ·
   exact ⟨k + 1, by omega, by omega, hk⟩
theorem lineAt_of {c : List S57} (h : Good c) {x : Int} (h0 : px c 0 ≤ x) (h1 : x ≤ px c (c.length - 1)) : ∃ l, lineAt c x = some l ∧ l ∈ linesOf c ∧ l.1.f0 ≤ x ∧ x ≤ l.2.f0 := by
 have := h.len2
 obtain ⟨i, hi, ha, hb⟩ := line_int (c := c) (c.length - 2) x h0 (by rw [show c.length - 2 + 1 = c.length - 1 by omega]; exact h1)
 have hm := mem_linesOf.2 ⟨i, (show i + 1 < c.length by omega), rfl⟩
 have hs : ((linesOf c).find? (hasB x)).isSome = true := by
  rw [List.find?_isSome]
  exact ⟨_, hm, by unfold hasB; simp only [Bool.and_eq_true, decide_eq_true_eq]; exact ⟨ha, hb⟩⟩
 obtain ⟨l, hl⟩ := Option.isSome_iff_exists.1 hs
 refine ⟨l, hl, List.mem_of_find?_eq_some hl, ?_⟩
 have := List.find?_some hl
 unfold hasB at this
 simpa using this
end Go.Proofs.YtlhhpogaaneamaaDoor.X
namespace Go.Proofs.YtlhhpogaaneamaaDoor.X
open Go.RowKit Go.Proofs.YtlhhpogaaneamaaDoorW.PrintWords Go.Proofs.YtlhhpogaaneamaaDoorW.PrintLast Go.Proofs.YtlhhpogaaneamaaDoorW.PrintMore
set_option linter.unusedVariables false
theorem product_eq {t n d : Int} (ht : 0 ≤ t) (htd : t ≤ d) (hn : 0 ≤ n) (hn' : n ≤ 16777216) (hd : 0 < d) (hd' : d ≤ 281474976710656) :
  curve_product.f t n d = some (t * n / d, t * n % d == 0) := by
 obtain ⟨a, ha⟩ : ∃ a, n / 4096 = a := ⟨_, rfl⟩
 obtain ⟨b, hb⟩ : ∃ b, n % 4096 = b := ⟨_, rfl⟩
 have ha0 : 0 ≤ a ∧ a ≤ 4096 := by omega
 have hb0 : 0 ≤ b ∧ b ≤ 4095 := by omega
 have hnab : n = 4096 * a + b := by omega
 have e1 : Int.tdiv n 4096 = a := by rw [Int.tdiv_eq_ediv_of_nonneg hn]; exact ha
 have e2 : Int.tmod n 4096 = b := by rw [Int.tmod_eq_emod_of_nonneg hn]; exact hb
 have m1 := mulb ht (show t ≤ 281474976710656 by omega) ha0.1 ha0.2
 have m2 := mulb ht (show t ≤ 281474976710656 by omega) hb0.1 hb0.2
 obtain ⟨q, hq⟩ : ∃ q, t * a / d = q := ⟨_, rfl⟩
 obtain ⟨r, hr⟩ : ∃ r, t * a % d = r := ⟨_, rfl⟩
 have hqr : t * a = d * q + r := by rw [← hq, ← hr]; exact (Int.mul_ediv_add_emod (t * a) d).symm
 have hr0 : 0 ≤ r ∧ r < d := ⟨hr ▸ Int.emod_nonneg _ (by omega), hr ▸ Int.emod_lt_of_pos _ hd⟩
 have hq0 : 0 ≤ q ∧ q ≤ a := by
  refine ⟨hq ▸ Int.ediv_nonneg m1.1 (by omega), ?_⟩
  rw [← hq]
  refine Int.ediv_le_of_le_mul hd ?_
  have := Int.mul_le_mul_of_nonneg_right htd ha0.1
  rw [Int.mul_comm a d]; exact this
 obtain ⟨L, hL⟩ : ∃ L, r * 4096 + t * b = L := ⟨_, rfl⟩
 have hL0 : 0 ≤ L ∧ L ≤ 2305843009213693952 := by omega
 have hLb : L / d ≤ 8191 := by
  refine Int.ediv_le_of_le_mul hd ?_
  have h1 := Int.mul_le_mul_of_nonneg_right htd hb0.1
  have h2 := Int.mul_le_mul_of_nonneg_left hb0.2 (show 0 ≤ d by omega)
  omega
 have hLn : 0 ≤ L / d := Int.ediv_nonneg hL0.1 (by omega)
 have key : t * n = d * (4096 * q) + L := by rw [← hL, hnab]; grind
 have k1 : t * n / d = 4096 * q + L / d := by rw [key, Int.mul_add_ediv_left _ _ (by omega : d ≠ 0)]
 have k2 : t * n % d = L % d := by rw [key, Int.mul_add_emod_self_left]
 unfold curve_product.f
 rw [if_neg (by omega), e1, e2, w64 (n := a) (by omega) (by omega), w64 (n := t * a) (by omega) (by omega), Int.tdiv_eq_ediv_of_nonneg m1.1, Int.tmod_eq_emod_of_nonneg m1.1, hq, hr, w64 (n := q) (by omega) (by omega), w64 (n := r * 4096) (by omega) (by omega), w64 (n := t * b) (by omega) (by omega), hL, w64 (n := L) (by omega) (by omega), Int.tdiv_eq_ediv_of_nonneg hL0.1, Int.tmod_eq_emod_of_nonneg hL0.1, w64 (n := L / d) (by omega) (by omega), w64 (n := q * 4096) (by omega) (by omega), w64 (by omega) (by omega), k1, k2]
 rw [Int.mul_comm q 4096]
end Go.Proofs.YtlhhpogaaneamaaDoor.X
namespace Go.Proofs.YtlhhpogaaneamaaDoor.X
open Go.RowKit
set_option linter.unusedVariables false
def lineV (l : S57 × S57) (x : Int) : Rat := ((l.1.f1 * wideI l + overI l x : Int) : Rat) / ((wideI l : Int) : Rat)
def valR (c : List S57) (x : Int) : Rat := match lineAt c x with | some l => lineV l x | none => 0
theorem lineV_on {c : List S57} (h : Good c) {i : Nat} (hi : i + 1 < c.length) {x : Int} (h1 : px c i ≤ x) (h2 : x ≤ px c (i + 1)) :
  OnAt c i x (lineV (c.getD i z57, c.getD (i + 1) z57) x) := by
 have hw := h.rising.W hi
 refine ⟨hi, cast_le h1, cast_le h2, ?_⟩
 unfold lineV
 have e : ((wideI (c.getD i z57, c.getD (i + 1) z57) : Int) : Rat) = (px c (i + 1) : Rat) - px c i := by
  show (((px c (i + 1) - px c i : Int)) : Rat) = _
  rw [Rat.intCast_sub]
 have e2 : ((((c.getD i z57, c.getD (i + 1) z57) : S57 × S57).1.f1 * wideI (c.getD i z57, c.getD (i + 1) z57) + overI (c.getD i z57, c.getD (i + 1) z57) x : Int) : Rat) =
   (py c i : Rat) * ((px c (i + 1) : Rat) - px c i) + ((x : Rat) - px c i) * ((py c (i + 1) : Rat) - py c i) := by
  show ((py c i * (px c (i + 1) - px c i) + (x - px c i) * (py c (i + 1) - py c i) : Int) : Rat) = _
  simp only [Rat.intCast_add, Rat.intCast_mul, Rat.intCast_sub]
 rw [e2, e]
 have hne : (px c (i + 1) : Rat) - px c i ≠ 0 := by grind
 grind
theorem valR_line {c : List S57} {x : Int} {l : S57 × S57} (hl : lineAt c x = some l) : valR c x = lineV l x := by unfold valR; rw [hl]
theorem valR_on {c : List S57} (h : Good c) {x : Int} (h0 : px c 0 ≤ x) (h1 : x ≤ px c (c.length - 1)) : On c x (valR c x) := by
 obtain ⟨l, hl, hm, ha, hb⟩ := lineAt_of h h0 h1
 obtain ⟨i, hi, rfl⟩ := mem_linesOf.1 hm
 rw [valR_line hl]
 exact ⟨i, lineV_on h hi ha hb⟩
theorem valR_eq {c : List S57} (h : Good c) {x : Int} {v : Rat} (o : On c x v) : valR c x = v := by
 have r := o.range h.rising
 exact (valR_on h (of_cast_le r.1) (of_cast_le r.2)).unique h.rising o
theorem exactI_eq {l : S57 × S57} {x : Int} (hw : 0 < wideI l) : exactI l x = ((lineV l x).num, ((lineV l x).den : Int)) := by
 have := num_den (l.1.f1 * wideI l + overI l x) (wideI l) hw
 unfold exactI lowestI lineV
 rw [this.1, this.2]
section
variable {c : List S57} (h : Good c)
include h
end
end Go.Proofs.YtlhhpogaaneamaaDoor.X
namespace Go.Proofs.YtlhhpogaaneamaaDoor.X
open Go.RowKit Go.Proofs.YtlhhpogaaneamaaDoorW.PrintWords Go.Proofs.YtlhhpogaaneamaaDoorW.PrintLast Go.Proofs.YtlhhpogaaneamaaDoorW.PrintMore
attribute [local go_sem] max2_int min2_int max_two min_two
set_option linter.unusedVariables false
set_option linter.unusedSimpArgs false
theorem eqA57 (d : Nat) (w : World) (x0 y0 : Int) (x1 y1 : Int) :
  (Op.equalIn (d + 2) 57 (.agg #[.int .i64 x0, .int .i64 x1]) (.agg #[.int .i64 y0, .int .i64 y1])).run Tryd.prog w = .ok (x0 == y0 && (x1 == y1)) w := by
 refine eqA_of Tryd.underlying57 (by kernel_rfl) ?_
 refine eqf_cons (by rfl) (by go_simp; rfl) (by go_simp; rfl) (by go_simp) ?_
 exact eqf_last (by rfl) (by go_simp; rfl) (by go_simp; rfl) (by go_simp)
end Go.Proofs.YtlhhpogaaneamaaDoor.X
namespace Go.Proofs.YtlhhpogaaneamaaDoor.X
open Go.RowKit Go.Proofs.YtlhhpogaaneamaaDoorW.PrintWords Go.Proofs.YtlhhpogaaneamaaDoorW.PrintLast Go.Proofs.YtlhhpogaaneamaaDoorW.PrintMore
attribute [local go_sem] max2_int min2_int max_two min_two
set_option linter.unusedVariables false
set_option linter.unusedSimpArgs false
attribute [local go_sem high] eqA57
def ref_Same.l0 : Nat → List (S57) → List (S57) → Int → Option (Bool)
 | 0, _, _, _ => none
 | k + 1, x0, x1, x5 => if x5 < (x0.length : Int) then (if 0 ≤ x5 then (if x5 < (x1.length : Int) then (if (!(((rd_T57 x0 x5).f0) == ((rd_T57 x1 x5).f0)) || (!(((rd_T57 x0 x5).f1) == ((rd_T57 x1 x5).f1)))) = true then (some false) else (ref_Same.l0 k x0 x1 (wrap64 (x5 + 1)))) else (none)) else (none)) else (some true)
def ref_Same.f (k : Nat) (l0 : List (S57)) (l1 : List (S57)) : Option (Bool) := if (l0.length : Int) = (l1.length : Int) then (ref_Same.l0 k l0 l1 0) else (some false)
set_option maxHeartbeats 8000000 in
set_option maxRecDepth 100000 in
theorem ref_Same.calls (k : Nat) (A0 : Option Addr) (c0 : Nat) (l0 : List (S57)) (A1 : Option Addr) (c1 : Nat) (l1 : List (S57)) (r : Bool) (w : World) (hr0 : Kd.C k57 w A0 l0.length l0) (hc0 : l0.length ≤ c0) (hr1 : Kd.C k57 w A1 l1.length l1) (hc1 : l1.length ≤ c1) (h : ref_Same.f k l0 l1 = some r) :
  Calls Tryd.prog 45 #[.slice A0 l0.length c0, .slice A1 l1.length c1] w fun e w' => e = .returned (.bool r) ∧ Drawn0 w w' := by
 have hu57 := Tryd.underlying57
 have HR0 := Aside0.mk hr0
 have HC0 := Aside0.mk hc0
 clear hr0 hc0
 have HR1 := Aside0.mk hr1
 have HC1 := Aside0.mk hc1
 clear hr1 hc1
 have H : (if (l0.length : Int) = (l1.length : Int) then (ref_Same.l0 k l0 l1 0) else (some false)) = some r := h
 clear h
 by_cases c3 : (l0.length : Int) = (l1.length : Int)
 ·
  rw [if_pos c3] at H
  have c3b0 : ((l0.length : Int) == (l1.length : Int)) = true := beq_iff_eq.mpr c3
  have c3b1 : ((l0.length : Int) != (l1.length : Int)) = false := bne_eq_false_iff_eq.mpr c3
  have c3b2 : (l0.length == l1.length) = true := by first | simpa using c3 | (simp at c3 ⊢; omega)
  clear c3
  have H' := Aside0.mk H
  clear H
  go_enter Tryd.func45, Tryd.ntmps45
  go_wp2
  repeat (go_quiet (fail); try go_wp2)
  go_loopg [5] k (fun kq v5 w' => ∃ (x5_1 : Int), v5 = .int .i64 x5_1 ∧ Aside0 (ref_Same.l0 kq l0 l1 x5_1 = some r) ∧ Aside0 (kq ≤ k) ∧ Drawn0 w w')
  case atStart => exact ⟨(0), (by first | rfl | (simp; done) | (simp [*]; done)), H', ⟨Nat.le_refl _⟩, by repeat (first | exact Drawn0.refl _ | apply Drawn0.step)⟩
  case round =>
   clear H'
   try clear c1
   try clear p2
   try clear c3
   try clear c3b0
   try clear c3b1
   try clear c3b2
   obtain ⟨x5_1, rfl, HA, HK1, ⟨m1, rfl⟩⟩ := hrel
   cases gk with
   | zero => exact absurd HA.out (by simp [ref_Same.l0])
   | succ k1 =>
    have H := HA.out
    clear HA
    simp only [ref_Same.l0] at H
    by_cases c4 : x5_1 < (l0.length : Int)
    ·
     rw [if_pos c4] at H
     have c4b0 : decide (x5_1 < (l0.length : Int)) = true := decide_eq_true c4
     clear c4
     by_cases c5 : 0 ≤ x5_1
     ·
      rw [if_pos c5] at H
      have c5b0 : decide (0 ≤ x5_1) = true := decide_eq_true c5
      clear c5
      by_cases c6 : x5_1 < (l1.length : Int)
      ·
       rw [if_pos c6] at H
       have c6b0 : decide (x5_1 < (l1.length : Int)) = true := decide_eq_true c6
       clear c6
       by_cases c7 : (!(((rd_T57 l0 x5_1).f0) == ((rd_T57 l1 x5_1).f0)) || (!(((rd_T57 l0 x5_1).f1) == ((rd_T57 l1 x5_1).f1)))) = true
       ·
        rw [if_pos c7] at H
        have c7b0 : (!(((rd_T57 l0 x5_1).f0) == ((rd_T57 l1 x5_1).f0)) || (!(((rd_T57 l0 x5_1).f1) == ((rd_T57 l1 x5_1).f1)))) = true := c7
        clear c7
        obtain rfl := Option.some.inj H
        have p130 : 0 ≤ (x5_1 : Int) := of_decide_eq_true (by first | (with_reducible assumption) | assumption)
        have q130 : x5_1 < (l0.length : Int) := of_decide_eq_true (by first | (with_reducible assumption) | assumption)
        obtain ⟨ad130, e130, hx130_0, hx130_1⟩ := at_T57 HR0.out x5_1 p130 q130
        cases e130
        replace p130 := eq_true p130
        replace q130 := eq_true q130
        have p131 : 0 ≤ (x5_1 : Int) := of_decide_eq_true (by first | (with_reducible assumption) | assumption)
        have q131 : x5_1 < (l1.length : Int) := of_decide_eq_true (by first | (with_reducible assumption) | assumption)
        obtain ⟨ad131, e131, hx131_0, hx131_1⟩ := at_T57 HR1.out x5_1 p131 q131
        cases e131
        replace p131 := eq_true p131
        replace q131 := eq_true q131
        go_wp2
        repeat (go_quiet (fail); try go_wp2)
        go_ret
        exact ⟨by first | rfl | (simp; done) | (simp [*]; done), by repeat (first | exact Drawn0.refl _ | apply Drawn0.step)⟩
       ·
        rw [if_neg c7] at H
        have c7b0 : (!(((rd_T57 l0 x5_1).f0) == ((rd_T57 l1 x5_1).f0)) || (!(((rd_T57 l0 x5_1).f1) == ((rd_T57 l1 x5_1).f1)))) = false := by simpa using c7
        clear c7
        have H' := Aside0.mk H
        clear H
        have p130 : 0 ≤ (x5_1 : Int) := of_decide_eq_true (by first | (with_reducible assumption) | assumption)
        have q130 : x5_1 < (l0.length : Int) := of_decide_eq_true (by first | (with_reducible assumption) | assumption)
        obtain ⟨ad130, e130, hx130_0, hx130_1⟩ := at_T57 HR0.out x5_1 p130 q130
        cases e130
        replace p130 := eq_true p130
        replace q130 := eq_true q130
        have p131 : 0 ≤ (x5_1 : Int) := of_decide_eq_true (by first | (with_reducible assumption) | assumption)
        have q131 : x5_1 < (l1.length : Int) := of_decide_eq_true (by first | (with_reducible assumption) | assumption)
        obtain ⟨ad131, e131, hx131_0, hx131_1⟩ := at_T57 HR1.out x5_1 p131 q131
        cases e131
        replace p131 := eq_true p131
        replace q131 := eq_true q131
        go_wp2
        repeat (go_quiet (fail); try go_wp2)
        go_roundg k1
        case measure => have := HK1.out; omega
        case rel => exact ⟨(wrap64 (x5_1 + 1)), (by first | rfl | (simp; done) | (simp [*]; done)), H', ⟨by have := HK1.out; omega⟩, by repeat (first | exact Drawn0.refl _ | apply Drawn0.step)⟩
      ·
       rw [if_neg c6] at H
       exact absurd H (by simp)
     ·
      rw [if_neg c5] at H
      exact absurd H (by simp)
    ·
     rw [if_neg c4] at H
     have c4b0 : decide (x5_1 < (l0.length : Int)) = false := decide_eq_false c4
     clear c4
     obtain rfl := Option.some.inj H
     go_wp2
     repeat (go_quiet (fail); try go_wp2)
     go_ret
     exact ⟨by first | rfl | (simp; done) | (simp [*]; done), by repeat (first | exact Drawn0.refl _ | apply Drawn0.step)⟩
 ·
  rw [if_neg c3] at H
  have c3b0 : ((l0.length : Int) == (l1.length : Int)) = false := beq_eq_false_iff_ne.mpr c3
  have c3b1 : ((l0.length : Int) != (l1.length : Int)) = true := bne_iff_ne.mpr c3
  have c3b2 : (l0.length == l1.length) = false := by first | simpa using c3 | (simp at c3 ⊢; omega)
  obtain rfl := Option.some.inj H
  go_enter Tryd.func45, Tryd.ntmps45
  go_wp2
  repeat (go_quiet (fail); try go_wp2)
  go_ret
  exact ⟨by first | rfl | (simp; done) | (simp [*]; done), by repeat (first | exact Drawn0.refl _ | apply Drawn0.step)⟩
def law_same.f (k : Nat) (l0 : List (S57)) (a1 : Int) (l2 : List (S57)) (a3 : Int) : Option (Bool) := if a1 = a3 then ((ref_Same.f k l0 l2).bind fun t132 => (some t132)) else (some false)
set_option maxHeartbeats 8000000 in
set_option maxRecDepth 100000 in
theorem law_same.calls (k : Nat) (A0 : Option Addr) (c0 : Nat) (l0 : List (S57)) (a1 : Int) (A2 : Option Addr) (c2 : Nat) (l2 : List (S57)) (a3 : Int) (r : Bool) (w : World) (hr0 : Kd.C k57 w A0 l0.length l0) (hc0 : l0.length ≤ c0) (hr2 : Kd.C k57 w A2 l2.length l2) (hc2 : l2.length ≤ c2) (h : law_same.f k l0 a1 l2 a3 = some r) :
  Calls Tryd.prog 55 #[.slice A0 l0.length c0, .int .i64 a1, .slice A2 l2.length c2, .int .i64 a3] w fun e w' => e = .returned (.bool r) ∧ Drawn0 w w' := by
 have HR0 := Aside0.mk hr0
 have HC0 := Aside0.mk hc0
 clear hr0 hc0
 have HR2 := Aside0.mk hr2
 have HC2 := Aside0.mk hc2
 clear hr2 hc2
 have H : (if a1 = a3 then ((ref_Same.f k l0 l2).bind fun t132 => (some t132)) else (some false)) = some r := h
 clear h
 by_cases c5 : a1 = a3
 ·
  rw [if_pos c5] at H
  have c5b0 : (a1 == a3) = true := beq_iff_eq.mpr c5
  have c5b1 : (a1 != a3) = false := bne_eq_false_iff_eq.mpr c5
  clear c5
  replace H := Option.bind_eq_some_iff.mp H
  obtain ⟨t132, A60, H⟩ := H
  replace H : (some t132) = some r := H
  have A6 := Aside0.mk A60
  clear A60
  obtain rfl := Option.some.inj H
  go_enter Tryd.func55, Tryd.ntmps55
  go_wp2_with (first | (go_at_call 45; (with_reducible refine (ref_Same.calls k _ _ l0 _ _ l2 t132 _ ?side1 ?side2 ?side3 ?side4 A6.out).mono ?_); (case side1 => repeat (first | exact HR0.out | (with_reducible refine Kd.C_alloc ?_ _) | (with_reducible refine Kd.C_drewN ?_ _) | (with_reducible refine Kd.C_drew ?_))); (case side2 => exact HC0.out); (case side3 => repeat (first | exact HR2.out | (with_reducible refine Kd.C_alloc ?_ _) | (with_reducible refine Kd.C_drewN ?_ _) | (with_reducible refine Kd.C_drew ?_))); (case side4 => exact HC2.out); rintro e w' ⟨rfl, ⟨nd, rfl⟩⟩))
  go_ret
  exact ⟨by first | rfl | (simp; done) | (simp [*]; done), by repeat (first | exact Drawn0.refl _ | apply Drawn0.step)⟩
 ·
  rw [if_neg c5] at H
  have c5b0 : (a1 == a3) = false := beq_eq_false_iff_ne.mpr c5
  have c5b1 : (a1 != a3) = true := bne_iff_ne.mpr c5
  obtain rfl := Option.some.inj H
  go_enter Tryd.func55, Tryd.ntmps55
  go_wp2
  go_ret
  exact ⟨by first | rfl | (simp; done) | (simp [*]; done), by repeat (first | exact Drawn0.refl _ | apply Drawn0.step)⟩
def law_of.l0 : Nat → List Int → List (S57) → Int → Option ((List (S57)))
 | 0, _, _, _ => none
 | k + 1, x0, x2, x3 => if (wrap64 (x3 + 1)) < (x0.length : Int) then (if 0 ≤ x3 then (if x3 < (x0.length : Int) then (if 0 ≤ (wrap64 (x3 + 1)) then (if x2.length < 8796093022208 then (law_of.l0 k x0 (x2 ++ [(⟨rd x0 x3, rd x0 (wrap64 (x3 + 1))⟩ : S57)]) (wrap64 (x3 + 2))) else (none)) else (none)) else (none)) else (none)) else (some x2)
def law_of.f (k : Nat) (l0 : List Int) : Option ((List (S57))) := law_of.l0 k l0 ([] : List (S57)) 0
def law_of.T4 : Bool × List (List Nat × List Nat) := (true, [([], []), ([], []), ([], []), ([1, 2], [1, 2]), ([3], [3]), ([], []), ([], []), ([6], [6]), ([5, 7], [5, 7]), ([8], [8]), ([4, 9], [4, 9]), ([10], [10]), ([0, 11], [0, 11]), ([12, 12, 0, 1, 2, 3, 4, 5, 6, 7, 8, 9, 10, 11, 12], [0, 12])])
def law_of.B4 : List Nat := [0, 0, 0, 6, 14, 0, 0, 64, 224, 480, 1022, 2046, 4095, 8191]
theorem law_of.tab4 : rtab .any (opsOf Tryd.f62 4) = law_of.T4 := by kernel_rfl
theorem law_of.bits4 : waitsOk law_of.T4.2 law_of.B4 = true := by kernel_rfl
set_option maxHeartbeats 8000000 in
set_option maxRecDepth 100000 in
theorem law_of.calls (k : Nat) (A0 : Option Addr) (c0 : Nat) (l0 : List Int) (r : List (S57)) (w : World) (hr0 : Kd.C (Kd.int .i64) w A0 l0.length l0) (hc0 : l0.length ≤ c0) (h : law_of.f k l0 = some r) :
  Calls Tryd.prog 62 #[.slice A0 l0.length c0] w fun e w' => ∃ v0_ : Value, e = .returned (v0_) ∧ Kd.R k57 57 w' w.heap.size (fun _ => True) v0_ r ∧ Below w.heap.size w w' := by
 have hu57 := Tryd.underlying57
 have HR0 := Aside0.mk hr0
 have HC0 := Aside0.mk hc0
 clear hr0 hc0
 have HB := Aside0.mk (Below.refl w.heap.size w)
 have H : (law_of.l0 k l0 ([] : List (S57)) 0) = some r := h
 clear h
 have H' := Aside0.mk H
 clear H
 go_enter Tryd.func62, Tryd.ntmps62
 go_wp2
 go_loopg [2, 3] k (fun kq v2 v3 w' => ∃ (x2_1 : List (S57)) (x3_1 : Int), v3 = .int .i64 x3_1 ∧ Aside0 (law_of.l0 kq l0 x2_1 x3_1 = some r) ∧ Aside0 (kq ≤ k) ∧ Aside0 (Kd.R k57 57 w' w.heap.size (fun _ => True) v2 x2_1) ∧ Aside0 (Below w.heap.size w w'))
 case atStart => exact ⟨(([] : List (S57))), (0), (by first | rfl | (simp; done) | (simp [*]; done)), H', ⟨Nat.le_refl _⟩, ⟨by first | exact Kd.R_nil _ _ _ _ _ | exact Kd.N_nil _ _ _ _ _ | exact Kd.V_nil _ _ _ _ _ | exact Kd.Q_nil _ _ _ _ _ | exact Kd.S_nil _ _ _ _ _⟩, ⟨by repeat (first | (with_reducible first | exact HB.out | apply below_alloc | apply pw_below_drewN | apply below_drew1) | exact HB.out)⟩⟩
 case round =>
  clear H'
  obtain ⟨x2_1, x3_1, rfl, HA, HK1, HO_2, HB⟩ := hrel
  cases gk with
  | zero => exact absurd HA.out (by simp [law_of.l0])
  | succ k1 =>
   have H := HA.out
   clear HA
   simp only [law_of.l0] at H
   by_cases c2 : (wrap64 (x3_1 + 1)) < (l0.length : Int)
   ·
    rw [if_pos c2] at H
    have c2b0 : decide ((wrap64 (x3_1 + 1)) < (l0.length : Int)) = true := decide_eq_true c2
    clear c2
    by_cases c3 : 0 ≤ x3_1
    ·
     rw [if_pos c3] at H
     have c3b0 : decide (0 ≤ x3_1) = true := decide_eq_true c3
     clear c3
     by_cases c4 : x3_1 < (l0.length : Int)
     ·
      rw [if_pos c4] at H
      have c4b0 : decide (x3_1 < (l0.length : Int)) = true := decide_eq_true c4
      clear c4
      obtain ⟨ji5, hji5⟩ : ∃ j_ : Int, (wrap64 (x3_1 + 1)) = j_ := ⟨_, rfl⟩
      replace H : (if 0 ≤ (ji5) then (if x2_1.length < 8796093022208 then (law_of.l0 k1 l0 (x2_1 ++ [(⟨rd l0 x3_1, rd l0 (ji5)⟩ : S57)]) (wrap64 (x3_1 + 2))) else (none)) else (none)) = some r := by first | (rw [hji5] at H; exact H) | (simp only [hji5] at H ⊢; exact H)
      (try rw [hji5] at c2b0)
      have hji5w : (IntKind.i64.wrap (x3_1 + 1)) = ji5 := (i64_w _).trans hji5
      by_cases c6 : 0 ≤ (ji5)
      ·
       rw [if_pos c6] at H
       have c6b0 : decide (0 ≤ (ji5)) = true := decide_eq_true c6
       clear c6
       by_cases c7 : x2_1.length < 8796093022208
       ·
        rw [if_pos c7] at H
        have LMc7 := Aside0.mk c7
        clear c7
        obtain ⟨y135, hy135⟩ : ∃ y_ : List (S57), y_ = (x2_1 ++ [(⟨rd l0 x3_1, rd l0 (ji5)⟩ : S57)]) := ⟨_, rfl⟩
        replace H : (law_of.l0 k1 l0 y135 (wrap64 (x3_1 + 2))) = some r := by first | (rw [hy135]; with_reducible exact H) | (have H2_ := (Option.bind_some _ _).symm.trans H; rw [hy135]; with_reducible exact H2_) | (have H2_ := (Option.bind_some _ _).symm.trans H; with_reducible exact H2_) | with_reducible exact H | (rw [hy135]; exact H) | exact H
        have Ny135 := Aside0.mk hy135
        clear hy135
        have H' := Aside0.mk H
        clear H
        try go_wp2
        have n0_ := Aside0.mk (Kd.R_drew HO_2.out)
        have n1_ := Aside0.mk (below_drew1 HB.out)
        clear HO_2
        clear HB
        have HO_2 := n0_
        have HB := n1_
        clear n0_ n1_
        have p133 : 0 ≤ (x3_1 : Int) := of_decide_eq_true (by first | (with_reducible assumption) | assumption)
        have q133 : x3_1 < (l0.length : Int) := of_decide_eq_true (by first | (with_reducible assumption) | assumption)
        obtain ⟨ad133, e133, hx133_0⟩ := Kd.at_int HR0.out x3_1 p133 q133
        have hw133_0 := hx133_0
        cases e133
        replace hx133_0 := (HB.out.cell (World.block_lt_of_cell? w _ hx133_0)).trans hx133_0
        replace p133 := eq_true p133
        replace q133 := eq_true q133
        have p134 : 0 ≤ ((ji5) : Int) := of_decide_eq_true (by first | (with_reducible assumption) | assumption)
        have q134 : (ji5) < (l0.length : Int) := of_decide_eq_true (by first | (with_reducible assumption) | assumption)
        obtain ⟨ad134, e134, hx134_0⟩ := Kd.at_int HR0.out (ji5) p134 q134
        have hw134_0 := hx134_0
        obtain rfl : ad133 = ad134 := (by injection e134)
        replace hx134_0 := (HB.out.cell (World.block_lt_of_cell? w _ hx134_0)).trans hx134_0
        replace p134 := eq_true p134
        replace q134 := eq_true q134
        refine start_ (n := 14) (S := fun w' => w'.cell? (ad133.add (x3_1).toNat) = some (.int .i64 (rd l0 x3_1)) ∧ w'.cell? (ad133.add ((ji5)).toNat) = some (.int .i64 (rd l0 (ji5)))) (ds := []) #[false, false, false, false, false, false, false, false, false, false, false, false, false, false] (by kernel_rfl) rfl rfl ⟨((HB.out.cell (World.block_lt_of_cell? w _ hw133_0)).trans hw133_0), ((HB.out.cell (World.block_lt_of_cell? w _ hw134_0)).trans hw134_0)⟩ (fun hHeld => ?_); refine with_tabW law_of.tab4 law_of.bits4 (fun HT_ HW_ => ?_)
        generalize wr.drew = w8 at HO_2 HB hx133_0 hx134_0 hHeld ⊢
        refine pure_ (i := 0) (N := some 11) (v := ?_) (a' := ?_) #[true, false, false, false, false, false, false, false, false, false, false, false, false, false] rfl rfl (any_of HT_.out (by kernel_rfl)) (fun _ _ _ h => h) (Or.inl ⟨by rfl, ?_⟩) ?_ ?_
        rotate_left
        ·
         intro w'
         go_simp
         with_reducible rfl
        rotate_left
        ·
         simp only [Act.put, List.setIfInBounds_toArray, List.set_cons_zero, List.set_cons_succ, i64_w, i32_w]
         rfl
        refine pure_ (i := 1) (N := some 12) (v := ?_) (a' := ?_) #[true, true, false, false, false, false, false, false, false, false, false, false, false, false] rfl rfl (any_of HT_.out (by kernel_rfl)) (fun _ _ _ h => h) (Or.inl ⟨by rfl, ?_⟩) ?_ ?_
        rotate_left
        ·
         intro w'
         go_simp
         with_reducible rfl
        rotate_left
        ·
         simp only [Act.put, List.setIfInBounds_toArray, List.set_cons_zero, List.set_cons_succ, i64_w, i32_w]
         rfl
        refine pure_ (i := 2) (N := some 13) (v := ?_) (a' := ?_) #[true, true, true, false, false, false, false, false, false, false, false, false, false, false] rfl rfl (any_of HT_.out (by kernel_rfl)) (fun _ _ _ h => h) (Or.inl ⟨by rfl, ?_⟩) ?_ ?_
        rotate_left
        ·
         intro w'
         go_simp
         with_reducible rfl
        rotate_left
        ·
         simp only [Act.put, List.setIfInBounds_toArray, List.set_cons_zero, List.set_cons_succ, i64_w, i32_w]
         rfl
        refine pure_ (i := 3) (N := some 14) (v := ?_) (a' := ?_) #[true, true, true, true, false, false, false, false, false, false, false, false, false, false] rfl rfl (any_of HT_.out (by kernel_rfl)) (fun _ _ _ h => h) (Or.inl ⟨by rfl, ?_⟩) ?_ ?_
        rotate_left
        ·
         intro w'
         go_simp
         with_reducible rfl
        rotate_left
        ·
         simp only [Act.put, List.setIfInBounds_toArray, List.set_cons_zero, List.set_cons_succ, i64_w, i32_w]
         rfl
        refine pure_ (i := 5) (N := some 16) (v := ?_) (a' := ?_) #[true, true, true, true, false, true, false, false, false, false, false, false, false, false] rfl rfl (any_of HT_.out (by kernel_rfl)) (fun _ _ _ h => h) (Or.inl ⟨by rfl, ?_⟩) ?_ ?_
        rotate_left
        ·
         intro w'
         go_simp
         with_reducible rfl
        rotate_left
        ·
         simp only [Act.put, List.setIfInBounds_toArray, List.set_cons_zero, List.set_cons_succ, i64_w, i32_w]
         rfl
        refine pure_ (i := 6) (N := some 17) (v := ?_) (a' := ?_) #[true, true, true, true, false, true, true, false, false, false, false, false, false, false] rfl rfl (any_of HT_.out (by kernel_rfl)) (fun _ _ _ h => h) (Or.inl ⟨by rfl, ?_⟩) ?_ ?_
        rotate_left
        ·
         intro w'
         go_simp
         with_reducible rfl
        rotate_left
        ·
         simp only [Act.put, List.setIfInBounds_toArray, List.set_cons_zero, List.set_cons_succ, i64_w, i32_w]
         rfl
        refine pure_ (i := 7) (N := some 18) (v := ?_) (a' := ?_) #[true, true, true, true, false, true, true, true, false, false, false, false, false, false] rfl rfl (any_of HT_.out (by kernel_rfl)) (fun _ _ _ h => h) (Or.inl ⟨by rfl, ?_⟩) ?_ ?_
        rotate_left
        ·
         intro w'
         go_simp
         with_reducible rfl
        rotate_left
        ·
         simp only [Act.put, List.setIfInBounds_toArray, List.set_cons_zero, List.set_cons_succ, i64_w, i32_w]
         rfl
        refine pure_ (i := 8) (N := some 19) (v := ?_) (a' := ?_) #[true, true, true, true, false, true, true, true, true, false, false, false, false, false] rfl rfl (any_of HT_.out (by kernel_rfl)) (fun _ _ _ h => h) (Or.inl ⟨by rfl, ?_⟩) ?_ ?_
        rotate_left
        ·
         intro w'
         go_simp
         with_reducible rfl
        rotate_left
        ·
         simp only [Act.put, List.setIfInBounds_toArray, List.set_cons_zero, List.set_cons_succ, i64_w, i32_w]
         rfl
        refine take_ (i := 4) (N := some 15) (v := ?_) (a' := ?_) #[true, true, true, true, true, true, true, true, true, false, false, false, false, false] rfl rfl (take_ofW HT_.out HW_.out (by kernel_rfl)) (fun _ _ _ h => h) (Or.inl ⟨by rfl, ?_⟩) hHeld ?_ ?_
        rotate_left
        ·
         rintro w' ⟨s0, s1⟩
         go_simp
         with_reducible rfl
        rotate_left
        ·
         simp only [Act.put, List.setIfInBounds_toArray, List.set_cons_zero, List.set_cons_succ, i64_w, i32_w]
         rfl
        refine take_ (i := 9) (N := some 20) (v := ?_) (a' := ?_) #[true, true, true, true, true, true, true, true, true, true, false, false, false, false] rfl rfl (take_ofW HT_.out HW_.out (by kernel_rfl)) (fun _ _ _ h => h) (Or.inl ⟨by rfl, ?_⟩) hHeld ?_ ?_
        rotate_left
        ·
         rintro w' ⟨s0, s1⟩
         go_simp
         with_reducible rfl
        rotate_left
        ·
         simp only [Act.put, List.setIfInBounds_toArray, List.set_cons_zero, List.set_cons_succ, i64_w, i32_w]
         rfl
        refine pure_ (i := 10) (N := some 21) (v := ?_) (a' := ?_) #[true, true, true, true, true, true, true, true, true, true, true, false, false, false] rfl rfl (any_of HT_.out (by kernel_rfl)) (fun _ _ _ h => h) (Or.inl ⟨by rfl, ?_⟩) ?_ ?_
        rotate_left
        ·
         intro w'
         go_simp
         with_reducible rfl
        rotate_left
        ·
         simp only [Act.put, List.setIfInBounds_toArray, List.set_cons_zero, List.set_cons_succ, i64_w, i32_w]
         rfl
        refine one_ (i := 11) (N := some 22) #[true, true, true, true, true, true, true, true, true, true, true, true, false, false] rfl rfl (one_of HT_.out (by kernel_rfl)) (by decide) (fun K hK => ?_)
        refine value_ (w1 := ?_) (v := ?_) (by rfl) rfl ?_ ?_
        rotate_left 2
        ·
         go_simp
         constructor
         ·
          rfl
         ·
          rfl
        refine hK.out _ _ ⟨(World.cell?_alloc_lt _ _ _ (World.block_lt_of_cell? _ _ (((HB.out.cell (World.block_lt_of_cell? w _ hw133_0)).trans hw133_0)))).trans (((HB.out.cell (World.block_lt_of_cell? w _ hw133_0)).trans hw133_0)), (World.cell?_alloc_lt _ _ _ (World.block_lt_of_cell? _ _ (((HB.out.cell (World.block_lt_of_cell? w _ hw134_0)).trans hw134_0)))).trans (((HB.out.cell (World.block_lt_of_cell? w _ hw134_0)).trans hw134_0))⟩ (fun hHeld => ?_)
        clear hK K
        refine norm_ (a' := ?_) ?_ ?_
        rotate_left
        ·
         show Act.put _ (some 22) _ = _
         simp only [Act.put, List.setIfInBounds_toArray, List.set_cons_zero, List.set_cons_succ, i64_w, i32_w]
         rfl
        refine one_ (i := 12) (N := some 23) #[true, true, true, true, true, true, true, true, true, true, true, true, true, false] rfl rfl (one_of HT_.out (by kernel_rfl)) (by decide) (fun K hK => ?_)
        refine Kd.R_append_step k57 (w0 := w) w.heap.size (by rfl) (.tmp 11) (.tmp 22) 23 57 (.agg #[(.int .i64 0), (.int .i64 0)]) 16 rfl Tryd.underlying23 info57 rfl (by decide) (by omega) u2 x2_1 (⟨rd l0 x3_1, rd l0 (ji5)⟩ : S57) [.int .i64 (rd l0 x3_1), .int .i64 (rd l0 (ji5))] (fun _ => True) (fun _ => False) rfl rfl ?aP (fun _ hk => hk.elim) ?aF ?aO ?aB ?aS ?aL ?_
        (case aP => exact k57_mkM _ _ _ (⟨rd l0 x3_1, rd l0 (ji5)⟩ : S57))
        (case aB => exact (by repeat (first | (with_reducible first | exact HB.out | apply below_alloc | apply pw_below_drewN | apply below_drew1) | exact HB.out)))
        (case aF => exact (fun _ _ => trivial))
        (case aO => exact (by (with_reducible repeat (first | apply Kd.R_alloc | apply Kd.R_drewN | apply Kd.R_drew)); exact HO_2.out))
        (case aS => exact (below_size (by repeat (first | (with_reducible first | exact HB.out | apply below_alloc | apply pw_below_drewN | apply below_drew1) | exact HB.out))))
        (case aL => have := LMc7.out; omega)
        intro v136 w9 ho hb hg hat
        rw [← Ny135.out] at ho
        have n0_ := Aside0.mk (hb)
        have n1_ := Aside0.mk (ho)
        clear HB
        clear HO_2
        have HB := n0_
        have HO137 := n1_
        clear n0_ n1_
        clear ho hb hg hat
        refine hK.out _ _ ⟨((HB.out.cell (World.block_lt_of_cell? w _ hw133_0)).trans hw133_0), ((HB.out.cell (World.block_lt_of_cell? w _ hw134_0)).trans hw134_0)⟩ (fun hHeld => ?_)
        clear hK K
        refine norm_ (a' := ?_) ?_ ?_
        rotate_left
        ·
         show Act.put _ (some 23) _ = _
         simp only [Act.put, List.setIfInBounds_toArray, List.set_cons_zero, List.set_cons_succ, i64_w, i32_w]
         rfl
        refine pure_ (i := 13) (N := some 2) (v := ?_) (a' := ?_) #[true, true, true, true, true, true, true, true, true, true, true, true, true, true] rfl rfl (any_of HT_.out (by kernel_rfl)) (fun _ _ _ h => h) (Or.inl ⟨by rfl, ?_⟩) ?_ ?_
        rotate_left
        ·
         intro w'
         go_simp
         with_reducible rfl
        rotate_left
        ·
         simp only [Act.put, List.setIfInBounds_toArray, List.set_cons_zero, List.set_cons_succ, i64_w, i32_w]
         rfl
        refine done_ (done_of HT_.out (by kernel_rfl)) ?_
        try go_wp2
        go_roundg k1
        case measure => have := HK1.out; omega
        case rel => exact ⟨(y135), (wrap64 (x3_1 + 2)), (by first | rfl | (simp; done) | (simp [*]; done)), H', ⟨by have := HK1.out; omega⟩, ⟨by (with_reducible repeat (first | apply Kd.R_alloc | apply Kd.R_drewN | apply Kd.R_drew)); exact HO137.out⟩, ⟨by repeat (first | (with_reducible first | exact HB.out | apply below_alloc | apply pw_below_drewN | apply below_drew1) | exact HB.out)⟩⟩
       ·
        rw [if_neg c7] at H
        exact absurd H (by simp)
      ·
       rw [if_neg c6] at H
       exact absurd H (by simp)
     ·
      rw [if_neg c4] at H
      exact absurd H (by simp)
    ·
     rw [if_neg c3] at H
     exact absurd H (by simp)
   ·
    rw [if_neg c2] at H
    have c2b0 : decide ((wrap64 (x3_1 + 1)) < (l0.length : Int)) = false := decide_eq_false c2
    clear c2
    obtain rfl := Option.some.inj H
    go_wp2
    go_ret
    exact ⟨_, by first | rfl | (simp [errW_none, errW_some] <;> rfl) | (simp [*, errW_none, errW_some] <;> rfl), by (with_reducible repeat (first | apply Kd.R_alloc | apply Kd.R_drewN | apply Kd.R_drew)); exact HO_2.out, by repeat (first | (with_reducible first | exact HB.out | apply below_alloc | apply pw_below_drewN | apply below_drew1) | exact HB.out)⟩
def law_few.l0 : Nat → List (List (S57)) → Int → Int → Option (Bool)
 | 0, _, _, _ => none
 | k + 1, x5, x6, x7 => if x7 < x6 then (if 0 ≤ x7 then (if x7 < (x5.length : Int) then (if ((rd_L2 x5 x7).length : Int) > 1000 then (some false) else (law_few.l0 k x5 x6 (wrap64 (x7 + 1)))) else (none)) else (none)) else (some true)
def law_few.f (k : Nat) (l0 : List (List (S57))) : Option (Bool) := law_few.l0 k l0 (l0.length : Int) 0
set_option maxHeartbeats 8000000 in
set_option maxRecDepth 100000 in
theorem law_few.calls (k : Nat) (A0 : Option Addr) (c0 : Nat) (l0 : List (List (S57))) (r : Bool) (w : World) (hr0 : Kd.C (Kd.slice 57 k57) w A0 l0.length l0) (hc0 : l0.length ≤ c0) (h : law_few.f k l0 = some r) :
  Calls Tryd.prog 19 #[.slice A0 l0.length c0] w fun e w' => e = .returned (.bool r) ∧ Drawn0 w w' := by
 have HR0 := Aside0.mk hr0
 have HC0 := Aside0.mk hc0
 clear hr0 hc0
 have H : (law_few.l0 k l0 (l0.length : Int) 0) = some r := h
 clear h
 have H' := Aside0.mk H
 clear H
 go_enter Tryd.func19, Tryd.ntmps19
 go_wp2
 go_loopg [7] k (fun kq v7 w' => ∃ (x7_1 : Int), v7 = .int .i64 x7_1 ∧ Aside0 (law_few.l0 kq l0 (l0.length : Int) x7_1 = some r) ∧ Aside0 (kq ≤ k) ∧ Drawn0 w w')
 case atStart => exact ⟨(0), (by first | rfl | (simp; done) | (simp [*]; done)), H', ⟨Nat.le_refl _⟩, by repeat (first | exact Drawn0.refl _ | apply Drawn0.step)⟩
 case round =>
  clear H'
  try clear c1
  obtain ⟨x7_1, rfl, HA, HK1, ⟨m1, rfl⟩⟩ := hrel
  cases gk with
  | zero => exact absurd HA.out (by simp [law_few.l0])
  | succ k1 =>
   have H := HA.out
   clear HA
   simp only [law_few.l0] at H
   by_cases c2 : x7_1 < (l0.length : Int)
   ·
    rw [if_pos c2] at H
    have c2b0 : decide (x7_1 < (l0.length : Int)) = true := decide_eq_true c2
    clear c2
    by_cases c3 : 0 ≤ x7_1
    ·
     rw [if_pos c3] at H
     have c3b0 : decide (0 ≤ x7_1) = true := decide_eq_true c3
     clear c3
     by_cases c4 : x7_1 < (l0.length : Int)
     ·
      rw [if_pos c4] at H
      have c4b0 : decide (x7_1 < (l0.length : Int)) = true := decide_eq_true c4
      clear c4
      by_cases c5 : ((rd_L2 l0 x7_1).length : Int) > 1000
      ·
       rw [if_pos c5] at H
       have c5b0 : decide (1000 < ((rd_L2 l0 x7_1).length : Int)) = true := decide_eq_true c5
       have c5b1 : decide (1000 < (rd_L2 l0 x7_1).length) = true := decide_eq_true (by omega)
       clear c5
       obtain rfl := Option.some.inj H
       have p138 : 0 ≤ (x7_1 : Int) := of_decide_eq_true (by first | (with_reducible assumption) | assumption)
       have q138 : x7_1 < (l0.length : Int) := of_decide_eq_true (by first | (with_reducible assumption) | assumption)
       obtain ⟨ad138, A138_0, c138_0, e138, hx138_0, hl138_0, hi138_0⟩ := at_L2 HR0.out x7_1 p138 q138
       cases e138
       have HR138_0 := Aside0.mk hi138_0
       have HC138_0 := Aside0.mk hl138_0
       clear hi138_0 hl138_0
       replace p138 := eq_true p138
       replace q138 := eq_true q138
       go_wp2
       go_ret
       exact ⟨by first | rfl | (simp; done) | (simp [*]; done), by repeat (first | exact Drawn0.refl _ | apply Drawn0.step)⟩
      ·
       rw [if_neg c5] at H
       have c5b0 : decide (1000 < ((rd_L2 l0 x7_1).length : Int)) = false := decide_eq_false c5
       have c5b1 : decide (1000 < (rd_L2 l0 x7_1).length) = false := decide_eq_false (by omega)
       clear c5
       have H' := Aside0.mk H
       clear H
       have p138 : 0 ≤ (x7_1 : Int) := of_decide_eq_true (by first | (with_reducible assumption) | assumption)
       have q138 : x7_1 < (l0.length : Int) := of_decide_eq_true (by first | (with_reducible assumption) | assumption)
       obtain ⟨ad138, A138_0, c138_0, e138, hx138_0, hl138_0, hi138_0⟩ := at_L2 HR0.out x7_1 p138 q138
       cases e138
       have HR138_0 := Aside0.mk hi138_0
       have HC138_0 := Aside0.mk hl138_0
       clear hi138_0 hl138_0
       replace p138 := eq_true p138
       replace q138 := eq_true q138
       go_wp2
       go_roundg k1
       case measure => have := HK1.out; omega
       case rel => exact ⟨(wrap64 (x7_1 + 1)), (by first | rfl | (simp; done) | (simp [*]; done)), H', ⟨by have := HK1.out; omega⟩, by repeat (first | exact Drawn0.refl _ | apply Drawn0.step)⟩
     ·
      rw [if_neg c4] at H
      exact absurd H (by simp)
    ·
     rw [if_neg c3] at H
     exact absurd H (by simp)
   ·
    rw [if_neg c2] at H
    have c2b0 : decide (x7_1 < (l0.length : Int)) = false := decide_eq_false c2
    clear c2
    obtain rfl := Option.some.inj H
    go_wp2
    go_ret
    exact ⟨by first | rfl | (simp; done) | (simp [*]; done), by repeat (first | exact Drawn0.refl _ | apply Drawn0.step)⟩
def ref_Order.j0 : Nat → Int → Int → Option (Int)
 | 0, _, _ => none
 | k + 1, x5, x6 => if x5 < x6 then (some (-1)) else (if x5 > x6 then (some 1) else (some 0))
def ref_Order.f (k : Nat) (a0_0 : Int) (a0_1 : Int) (a1_0 : Int) (a1_1 : Int) : Option (Int) := if a0_1 = 0 then (none) else (if a1_1 = 0 then (none) else (if (wrap64 (Int.tdiv a0_0 a0_1)) = (wrap64 (Int.tdiv a1_0 a1_1)) then (ref_Order.j0 k (wrap64 ((Int.tmod a0_0 a0_1) * a1_1)) (wrap64 ((Int.tmod a1_0 a1_1) * a0_1))) else (ref_Order.j0 k (wrap64 (Int.tdiv a0_0 a0_1)) (wrap64 (Int.tdiv a1_0 a1_1)))))
set_option maxHeartbeats 8000000 in
set_option maxRecDepth 100000 in
theorem ref_Order.calls (k : Nat) (a0_0 : Int) (a0_1 : Int) (a1_0 : Int) (a1_1 : Int) (r : Int) (w : World) (h : ref_Order.f k a0_0 a0_1 a1_0 a1_1 = some r) :
  Calls Tryd.prog 53 #[.agg #[.int .i64 a0_0, .int .i64 a0_1], .agg #[.int .i64 a1_0, .int .i64 a1_1]] w fun e w' => e = .returned (.int .i64 r) ∧ Below w.heap.size w w' := by
 have hu25 := Tryd.underlying25
 have HB := Aside0.mk (Below.refl w.heap.size w)
 have H : (if a0_1 = 0 then (none) else (if a1_1 = 0 then (none) else (if (wrap64 (Int.tdiv a0_0 a0_1)) = (wrap64 (Int.tdiv a1_0 a1_1)) then (ref_Order.j0 k (wrap64 ((Int.tmod a0_0 a0_1) * a1_1)) (wrap64 ((Int.tmod a1_0 a1_1) * a0_1))) else (ref_Order.j0 k (wrap64 (Int.tdiv a0_0 a0_1)) (wrap64 (Int.tdiv a1_0 a1_1)))))) = some r := h
 clear h
 by_cases c3 : a0_1 = 0
 ·
  rw [if_pos c3] at H
  exact absurd H (by simp)
 ·
  rw [if_neg c3] at H
  have c3b0 : (a0_1 == 0) = false := beq_eq_false_iff_ne.mpr c3
  have c3b1 : (a0_1 != 0) = true := bne_iff_ne.mpr c3
  by_cases c4 : a1_1 = 0
  ·
   rw [if_pos c4] at H
   exact absurd H (by simp)
  ·
   rw [if_neg c4] at H
   have c4b0 : (a1_1 == 0) = false := beq_eq_false_iff_ne.mpr c4
   have c4b1 : (a1_1 != 0) = true := bne_iff_ne.mpr c4
   have HC5 := Aside0.mk H
   clear H
   go_enter Tryd.func53, Tryd.ntmps53
   go_upto_if 19 with (first | ((with_reducible refine gate_dst (N := 2) rfl ?_); refine box_event ?hg (N := 2) ?hd (cs := #[.int .i64 a0_0, .int .i64 a0_1]) (t := 25) ?hr ?_; (case hd => rfl); (case hg => rfl); (case hr => first | (go_simp; done) | (go_simp; rfl)); intro gb139 hg w6 hbox hb; have n0_ := Aside0.mk (below_step (by repeat (first | (with_reducible first | exact HB.out | apply below_alloc | apply pw_below_drewN | apply below_drew1) | exact HB.out)) hb); have n1_ := Aside0.mk (hbox); have n2_ := Aside0.mk ((by rw [hg]; exact (below_size (by repeat (first | (with_reducible first | exact HB.out | apply below_alloc | apply pw_below_drewN | apply below_drew1) | exact HB.out))) : w.heap.size ≤ gb139)); have n3_ := Aside0.mk ((by rw [hg]; exact (below_size (by repeat (first | (with_reducible first | exact HB.out | apply below_alloc | apply pw_below_drewN | apply below_drew1) | exact HB.out))) : w.heap.size ≤ gb139)); clear HB; have HB := n0_; have BK139 := n1_; have GW139 := n2_; have GE139 := n3_; clear n0_ n1_ n2_ n3_; clear hb hbox hg) | ((with_reducible refine gate_dst (N := 3) rfl ?_); refine box_event ?hg (N := 3) ?hd (cs := #[.int .i64 a1_0, .int .i64 a1_1]) (t := 25) ?hr ?_; (case hd => rfl); (case hg => rfl); (case hr => first | (go_simp; done) | (go_simp; rfl)); intro gb140 hg w7 hbox hb; have n0_ := Aside0.mk (blk_below (g := gb139) (o := .cells #[.int .i64 a0_0, .int .i64 a0_1] 25 (0, 0)) (by (with_reducible repeat (first | refine blk_drewN ?_ _ | refine blk_drew ?_ | refine blk_alloc ?_ _)); exact BK139.out) hb); have n1_ := Aside0.mk (below_step (by repeat (first | (with_reducible first | exact HB.out | apply below_alloc | apply pw_below_drewN | apply below_drew1 | refine below_set ?_ GE139.out) | exact HB.out)) hb); have n2_ := Aside0.mk (hbox); have n3_ := Aside0.mk ((by rw [hg]; exact (below_size (by repeat (first | (with_reducible first | exact HB.out | apply below_alloc | apply pw_below_drewN | apply below_drew1 | refine below_set ?_ GE139.out) | exact HB.out))) : w.heap.size ≤ gb140)); have n4_ := Aside0.mk ((by rw [hg]; exact (below_size (by repeat (first | (with_reducible first | exact HB.out | apply below_alloc | apply pw_below_drewN | apply below_drew1 | refine below_set ?_ GE139.out) | exact HB.out))) : w.heap.size ≤ gb140)); have n5_ := Aside0.mk ((by rw [hg]; exact Nat.ne_of_lt (blk_lt (g := gb139) (o := .cells #[.int .i64 a0_0, .int .i64 a0_1] 25 (0, 0)) (by (with_reducible repeat (first | refine blk_drewN ?_ _ | refine blk_drew ?_ | refine blk_alloc ?_ _)); exact BK139.out)) : gb139 ≠ gb140)); have n6_ := Aside0.mk ((by rw [hg]; exact Nat.ne_of_gt (blk_lt (g := gb139) (o := .cells #[.int .i64 a0_0, .int .i64 a0_1] 25 (0, 0)) (by (with_reducible repeat (first | refine blk_drewN ?_ _ | refine blk_drew ?_ | refine blk_alloc ?_ _)); exact BK139.out)) : gb140 ≠ gb139)); clear BK139; clear HB; have BK139 := n0_; have HB := n1_; have BK140 := n2_; have GW140 := n3_; have GE140 := n4_; have NB139_140 := n5_; have NB140_139 := n6_; clear n0_ n1_ n2_ n3_ n4_ n5_ n6_; clear hb hbox hg; have hnb8 := NB139_140.out; have hnc8 := NB140_139.out; have hcz9_0 : w7.cell? ⟨gb139, 0, none⟩ = some (.int .i64 a0_0) := (blk_cell BK139.out 0).trans rfl; have hcz9_1 : w7.cell? ⟨gb139, 1, none⟩ = some (.int .i64 a0_1) := (blk_cell BK139.out 1).trans rfl; have hfz9_0 := blk_frozen BK139.out 0; have hfz9_1 := blk_frozen BK139.out 1; have hcz10_0 : w7.cell? ⟨gb140, 0, none⟩ = some (.int .i64 a1_0) := (blk_cell BK140.out 0).trans rfl; have hcz10_1 : w7.cell? ⟨gb140, 1, none⟩ = some (.int .i64 a1_1) := (blk_cell BK140.out 1).trans rfl; have hfz10_0 := blk_frozen BK140.out 0; have hfz10_1 := blk_frozen BK140.out 1))
   repeat (go_quiet (first | ((with_reducible refine gate_dst (N := 2) rfl ?_); refine box_event ?hg (N := 2) ?hd (cs := #[.int .i64 a0_0, .int .i64 a0_1]) (t := 25) ?hr ?_; (case hd => rfl); (case hg => rfl); (case hr => first | (go_simp; done) | (go_simp; rfl)); intro gb139 hg w6 hbox hb; have n0_ := Aside0.mk (below_step (by repeat (first | (with_reducible first | exact HB.out | apply below_alloc | apply pw_below_drewN | apply below_drew1) | exact HB.out)) hb); have n1_ := Aside0.mk (hbox); have n2_ := Aside0.mk ((by rw [hg]; exact (below_size (by repeat (first | (with_reducible first | exact HB.out | apply below_alloc | apply pw_below_drewN | apply below_drew1) | exact HB.out))) : w.heap.size ≤ gb139)); have n3_ := Aside0.mk ((by rw [hg]; exact (below_size (by repeat (first | (with_reducible first | exact HB.out | apply below_alloc | apply pw_below_drewN | apply below_drew1) | exact HB.out))) : w.heap.size ≤ gb139)); clear HB; have HB := n0_; have BK139 := n1_; have GW139 := n2_; have GE139 := n3_; clear n0_ n1_ n2_ n3_; clear hb hbox hg) | ((with_reducible refine gate_dst (N := 3) rfl ?_); refine box_event ?hg (N := 3) ?hd (cs := #[.int .i64 a1_0, .int .i64 a1_1]) (t := 25) ?hr ?_; (case hd => rfl); (case hg => rfl); (case hr => first | (go_simp; done) | (go_simp; rfl)); intro gb140 hg w7 hbox hb; have n0_ := Aside0.mk (blk_below (g := gb139) (o := .cells #[.int .i64 a0_0, .int .i64 a0_1] 25 (0, 0)) (by (with_reducible repeat (first | refine blk_drewN ?_ _ | refine blk_drew ?_ | refine blk_alloc ?_ _)); exact BK139.out) hb); have n1_ := Aside0.mk (below_step (by repeat (first | (with_reducible first | exact HB.out | apply below_alloc | apply pw_below_drewN | apply below_drew1 | refine below_set ?_ GE139.out) | exact HB.out)) hb); have n2_ := Aside0.mk (hbox); have n3_ := Aside0.mk ((by rw [hg]; exact (below_size (by repeat (first | (with_reducible first | exact HB.out | apply below_alloc | apply pw_below_drewN | apply below_drew1 | refine below_set ?_ GE139.out) | exact HB.out))) : w.heap.size ≤ gb140)); have n4_ := Aside0.mk ((by rw [hg]; exact (below_size (by repeat (first | (with_reducible first | exact HB.out | apply below_alloc | apply pw_below_drewN | apply below_drew1 | refine below_set ?_ GE139.out) | exact HB.out))) : w.heap.size ≤ gb140)); have n5_ := Aside0.mk ((by rw [hg]; exact Nat.ne_of_lt (blk_lt (g := gb139) (o := .cells #[.int .i64 a0_0, .int .i64 a0_1] 25 (0, 0)) (by (with_reducible repeat (first | refine blk_drewN ?_ _ | refine blk_drew ?_ | refine blk_alloc ?_ _)); exact BK139.out)) : gb139 ≠ gb140)); have n6_ := Aside0.mk ((by rw [hg]; exact Nat.ne_of_gt (blk_lt (g := gb139) (o := .cells #[.int .i64 a0_0, .int .i64 a0_1] 25 (0, 0)) (by (with_reducible repeat (first | refine blk_drewN ?_ _ | refine blk_drew ?_ | refine blk_alloc ?_ _)); exact BK139.out)) : gb140 ≠ gb139)); clear BK139; clear HB; have BK139 := n0_; have HB := n1_; have BK140 := n2_; have GW140 := n3_; have GE140 := n4_; have NB139_140 := n5_; have NB140_139 := n6_; clear n0_ n1_ n2_ n3_ n4_ n5_ n6_; clear hb hbox hg; have hnb8 := NB139_140.out; have hnc8 := NB140_139.out; have hcz9_0 : w7.cell? ⟨gb139, 0, none⟩ = some (.int .i64 a0_0) := (blk_cell BK139.out 0).trans rfl; have hcz9_1 : w7.cell? ⟨gb139, 1, none⟩ = some (.int .i64 a0_1) := (blk_cell BK139.out 1).trans rfl; have hfz9_0 := blk_frozen BK139.out 0; have hfz9_1 := blk_frozen BK139.out 1; have hcz10_0 : w7.cell? ⟨gb140, 0, none⟩ = some (.int .i64 a1_0) := (blk_cell BK140.out 0).trans rfl; have hcz10_1 : w7.cell? ⟨gb140, 1, none⟩ = some (.int .i64 a1_1) := (blk_cell BK140.out 1).trans rfl; have hfz10_0 := blk_frozen BK140.out 0; have hfz10_1 := blk_frozen BK140.out 1)); go_upto_if 19 with (first | ((with_reducible refine gate_dst (N := 2) rfl ?_); refine box_event ?hg (N := 2) ?hd (cs := #[.int .i64 a0_0, .int .i64 a0_1]) (t := 25) ?hr ?_; (case hd => rfl); (case hg => rfl); (case hr => first | (go_simp; done) | (go_simp; rfl)); intro gb139 hg w6 hbox hb; have n0_ := Aside0.mk (below_step (by repeat (first | (with_reducible first | exact HB.out | apply below_alloc | apply pw_below_drewN | apply below_drew1) | exact HB.out)) hb); have n1_ := Aside0.mk (hbox); have n2_ := Aside0.mk ((by rw [hg]; exact (below_size (by repeat (first | (with_reducible first | exact HB.out | apply below_alloc | apply pw_below_drewN | apply below_drew1) | exact HB.out))) : w.heap.size ≤ gb139)); have n3_ := Aside0.mk ((by rw [hg]; exact (below_size (by repeat (first | (with_reducible first | exact HB.out | apply below_alloc | apply pw_below_drewN | apply below_drew1) | exact HB.out))) : w.heap.size ≤ gb139)); clear HB; have HB := n0_; have BK139 := n1_; have GW139 := n2_; have GE139 := n3_; clear n0_ n1_ n2_ n3_; clear hb hbox hg) | ((with_reducible refine gate_dst (N := 3) rfl ?_); refine box_event ?hg (N := 3) ?hd (cs := #[.int .i64 a1_0, .int .i64 a1_1]) (t := 25) ?hr ?_; (case hd => rfl); (case hg => rfl); (case hr => first | (go_simp; done) | (go_simp; rfl)); intro gb140 hg w7 hbox hb; have n0_ := Aside0.mk (blk_below (g := gb139) (o := .cells #[.int .i64 a0_0, .int .i64 a0_1] 25 (0, 0)) (by (with_reducible repeat (first | refine blk_drewN ?_ _ | refine blk_drew ?_ | refine blk_alloc ?_ _)); exact BK139.out) hb); have n1_ := Aside0.mk (below_step (by repeat (first | (with_reducible first | exact HB.out | apply below_alloc | apply pw_below_drewN | apply below_drew1 | refine below_set ?_ GE139.out) | exact HB.out)) hb); have n2_ := Aside0.mk (hbox); have n3_ := Aside0.mk ((by rw [hg]; exact (below_size (by repeat (first | (with_reducible first | exact HB.out | apply below_alloc | apply pw_below_drewN | apply below_drew1 | refine below_set ?_ GE139.out) | exact HB.out))) : w.heap.size ≤ gb140)); have n4_ := Aside0.mk ((by rw [hg]; exact (below_size (by repeat (first | (with_reducible first | exact HB.out | apply below_alloc | apply pw_below_drewN | apply below_drew1 | refine below_set ?_ GE139.out) | exact HB.out))) : w.heap.size ≤ gb140)); have n5_ := Aside0.mk ((by rw [hg]; exact Nat.ne_of_lt (blk_lt (g := gb139) (o := .cells #[.int .i64 a0_0, .int .i64 a0_1] 25 (0, 0)) (by (with_reducible repeat (first | refine blk_drewN ?_ _ | refine blk_drew ?_ | refine blk_alloc ?_ _)); exact BK139.out)) : gb139 ≠ gb140)); have n6_ := Aside0.mk ((by rw [hg]; exact Nat.ne_of_gt (blk_lt (g := gb139) (o := .cells #[.int .i64 a0_0, .int .i64 a0_1] 25 (0, 0)) (by (with_reducible repeat (first | refine blk_drewN ?_ _ | refine blk_drew ?_ | refine blk_alloc ?_ _)); exact BK139.out)) : gb140 ≠ gb139)); clear BK139; clear HB; have BK139 := n0_; have HB := n1_; have BK140 := n2_; have GW140 := n3_; have GE140 := n4_; have NB139_140 := n5_; have NB140_139 := n6_; clear n0_ n1_ n2_ n3_ n4_ n5_ n6_; clear hb hbox hg; have hnb8 := NB139_140.out; have hnc8 := NB140_139.out; have hcz9_0 : w7.cell? ⟨gb139, 0, none⟩ = some (.int .i64 a0_0) := (blk_cell BK139.out 0).trans rfl; have hcz9_1 : w7.cell? ⟨gb139, 1, none⟩ = some (.int .i64 a0_1) := (blk_cell BK139.out 1).trans rfl; have hfz9_0 := blk_frozen BK139.out 0; have hfz9_1 := blk_frozen BK139.out 1; have hcz10_0 : w7.cell? ⟨gb140, 0, none⟩ = some (.int .i64 a1_0) := (blk_cell BK140.out 0).trans rfl; have hcz10_1 : w7.cell? ⟨gb140, 1, none⟩ = some (.int .i64 a1_1) := (blk_cell BK140.out 1).trans rfl; have hfz10_0 := blk_frozen BK140.out 0; have hfz10_1 := blk_frozen BK140.out 1)))
   (try simp only [Act.put, List.setIfInBounds_toArray, List.set_cons_zero, List.set_cons_succ])
   go_cut [5, 6] (fun v5 v6 wc => ∃ (kq : Nat) (x5_4 : Int) (x6_4 : Int), v5 = .int .i64 x5_4 ∧ v6 = .int .i64 x6_4 ∧ Aside0 (ref_Order.j0 kq x5_4 x6_4 = some r) ∧ Aside0 (kq ≤ k) ∧ Aside0 (wc.heap[gb139]? = some (.cells #[.int .i64 a0_0, .int .i64 a0_1] 25 (0, 0))) ∧ Aside0 (wc.heap[gb140]? = some (.cells #[.int .i64 a1_0, .int .i64 a1_1] 25 (0, 0))) ∧ Aside0 (Below w.heap.size w wc))
   case first =>
    have H := HC5.out
    clear HC5
    by_cases c11 : (wrap64 (Int.tdiv a0_0 a0_1)) = (wrap64 (Int.tdiv a1_0 a1_1))
    ·
     rw [if_pos c11] at H
     have c11b0 : ((wrap64 (Int.tdiv a0_0 a0_1)) == (wrap64 (Int.tdiv a1_0 a1_1))) = true := beq_iff_eq.mpr c11
     have c11b1 : ((wrap64 (Int.tdiv a0_0 a0_1)) != (wrap64 (Int.tdiv a1_0 a1_1))) = false := bne_eq_false_iff_eq.mpr c11
     clear c11
     (first | rw [c11b0] | (simp only [i64_w, i32_w]; rw [c11b0]) | skip)
     have H' := Aside0.mk H
     clear H
     have hnb12 := NB139_140.out
     have hnc12 := NB140_139.out
     have hcz13_0 : w7.cell? ⟨gb139, 0, none⟩ = some (.int .i64 a0_0) := (blk_cell BK139.out 0).trans rfl
     have hcz13_1 : w7.cell? ⟨gb139, 1, none⟩ = some (.int .i64 a0_1) := (blk_cell BK139.out 1).trans rfl
     have hfz13_0 := blk_frozen BK139.out 0
     have hfz13_1 := blk_frozen BK139.out 1
     have hcz14_0 : w7.cell? ⟨gb140, 0, none⟩ = some (.int .i64 a1_0) := (blk_cell BK140.out 0).trans rfl
     have hcz14_1 : w7.cell? ⟨gb140, 1, none⟩ = some (.int .i64 a1_1) := (blk_cell BK140.out 1).trans rfl
     have hfz14_0 := blk_frozen BK140.out 0
     have hfz14_1 := blk_frozen BK140.out 1
     go_wp2
     repeat (go_quiet (fail); try go_wp2)
     go_meet
     case rel => exact ⟨_, (wrap64 ((Int.tmod a0_0 a0_1) * a1_1)), (wrap64 ((Int.tmod a1_0 a1_1) * a0_1)), (by first | rfl | (simp; done) | (simp [*]; done)), (by first | rfl | (simp; done) | (simp [*]; done)), H', ⟨by first | omega | exact Nat.le_refl _⟩, ⟨by (with_reducible repeat (first | refine blk_drewN ?_ _ | refine blk_drew ?_ | refine blk_alloc ?_ _)); exact BK139.out⟩, ⟨by (with_reducible repeat (first | refine blk_drewN ?_ _ | refine blk_drew ?_ | refine blk_alloc ?_ _)); exact BK140.out⟩, ⟨by repeat (first | (with_reducible first | exact HB.out | apply below_alloc | apply pw_below_drewN | apply below_drew1 | refine below_set ?_ GE139.out | refine below_set ?_ GE140.out) | exact HB.out)⟩⟩
    ·
     rw [if_neg c11] at H
     have c11b0 : ((wrap64 (Int.tdiv a0_0 a0_1)) == (wrap64 (Int.tdiv a1_0 a1_1))) = false := beq_eq_false_iff_ne.mpr c11
     have c11b1 : ((wrap64 (Int.tdiv a0_0 a0_1)) != (wrap64 (Int.tdiv a1_0 a1_1))) = true := bne_iff_ne.mpr c11
     (first | rw [c11b0] | (simp only [i64_w, i32_w]; rw [c11b0]) | skip)
     have H' := Aside0.mk H
     clear H
     go_wp2
     repeat (go_quiet (fail); try go_wp2)
     go_meet
     case rel => exact ⟨_, (wrap64 (Int.tdiv a0_0 a0_1)), (wrap64 (Int.tdiv a1_0 a1_1)), (by first | rfl | (simp; done) | (simp [*]; done)), (by first | rfl | (simp; done) | (simp [*]; done)), H', ⟨by first | omega | exact Nat.le_refl _⟩, ⟨by (with_reducible repeat (first | refine blk_drewN ?_ _ | refine blk_drew ?_ | refine blk_alloc ?_ _)); exact BK139.out⟩, ⟨by (with_reducible repeat (first | refine blk_drewN ?_ _ | refine blk_drew ?_ | refine blk_alloc ?_ _)); exact BK140.out⟩, ⟨by repeat (first | (with_reducible first | exact HB.out | apply below_alloc | apply pw_below_drewN | apply below_drew1 | refine below_set ?_ GE139.out | refine below_set ?_ GE140.out) | exact HB.out)⟩⟩
   case rest =>
    clear HC5
    try clear c1
    try clear p2
    try clear c3
    try clear c3b0
    try clear c3b1
    try clear c4
    try clear c4b0
    try clear c4b1
    try clear c5
    try clear p6
    try clear c8
    try clear c11
    try clear c11b0
    try clear c11b1
    try clear c12
    try clear hcz10_0
    try clear hcz10_1
    try clear hcz13_0
    try clear hcz13_1
    try clear hcz14_0
    try clear hcz14_1
    try clear hcz9_0
    try clear hcz9_1
    try clear hfz10_0
    try clear hfz10_1
    try clear hfz13_0
    try clear hfz13_1
    try clear hfz14_0
    try clear hfz14_1
    try clear hfz9_0
    try clear hfz9_1
    obtain ⟨kq, x5_4, x6_4, rfl, rfl, HA, HJ4, BK139, BK140, HB⟩ := hcut
    cases kq with
    | zero => exact absurd HA.out (by simp [ref_Order.j0])
    | succ kj4 =>
     have H := HA.out
     clear HA
     simp only [ref_Order.j0] at H
     by_cases c15 : x5_4 < x6_4
     ·
      rw [if_pos c15] at H
      have c15b0 : decide (x5_4 < x6_4) = true := decide_eq_true c15
      clear c15
      obtain rfl := Option.some.inj H
      go_wp2
      repeat (go_quiet (fail); try go_wp2)
      go_ret
      exact ⟨by first | rfl | (simp [errW_none, errW_some] <;> rfl) | (simp [*, errW_none, errW_some] <;> rfl), by repeat (first | (with_reducible first | exact HB.out | apply below_alloc | apply pw_below_drewN | apply below_drew1 | refine below_set ?_ GE139.out | refine below_set ?_ GE140.out) | exact HB.out)⟩
     ·
      rw [if_neg c15] at H
      have c15b0 : decide (x5_4 < x6_4) = false := decide_eq_false c15
      clear c15
      by_cases c16 : x5_4 > x6_4
      ·
       rw [if_pos c16] at H
       have c16b0 : decide (x6_4 < x5_4) = true := decide_eq_true c16
       clear c16
       obtain rfl := Option.some.inj H
       go_wp2
       repeat (go_quiet (fail); try go_wp2)
       go_ret
       exact ⟨by first | rfl | (simp [errW_none, errW_some] <;> rfl) | (simp [*, errW_none, errW_some] <;> rfl), by repeat (first | (with_reducible first | exact HB.out | apply below_alloc | apply pw_below_drewN | apply below_drew1 | refine below_set ?_ GE139.out | refine below_set ?_ GE140.out) | exact HB.out)⟩
      ·
       rw [if_neg c16] at H
       have c16b0 : decide (x6_4 < x5_4) = false := decide_eq_false c16
       clear c16
       obtain rfl := Option.some.inj H
       go_wp2
       repeat (go_quiet (fail); try go_wp2)
       go_ret
       exact ⟨by first | rfl | (simp [errW_none, errW_some] <;> rfl) | (simp [*, errW_none, errW_some] <;> rfl), by repeat (first | (with_reducible first | exact HB.out | apply below_alloc | apply pw_below_drewN | apply below_drew1 | refine below_set ?_ GE139.out | refine below_set ?_ GE140.out) | exact HB.out)⟩
end Go.Proofs.YtlhhpogaaneamaaDoor.X
namespace Go.Proofs.YtlhhpogaaneamaaDoor.X
open Go.RowKit Go.Proofs.YtlhhpogaaneamaaDoorW.PrintWords Go.Proofs.YtlhhpogaaneamaaDoorW.PrintLast Go.Proofs.YtlhhpogaaneamaaDoorW.PrintMore
attribute [local go_sem] max2_int min2_int max_two min_two
set_option linter.unusedVariables false
set_option linter.unusedSimpArgs false
def ref_at.f (k : Nat) (l0 : List (S57)) (a1 : Int) : Option (Int × Int) := (ref_line.f k l0 a1).bind fun t162 => (if 0 ≤ (wrap64 (t162 + 1)) then (if (wrap64 (t162 + 1)) < (l0.length : Int) then (if 0 ≤ t162 then (if t162 < (l0.length : Int) then ((ref_lowest.f k (wrap64 ((wrap64 (((rd_T57 l0 t162).f1) * (wrap64 (((rd_T57 l0 (wrap64 (t162 + 1))).f0) - ((rd_T57 l0 t162).f0))))) + (wrap64 ((wrap64 (a1 - ((rd_T57 l0 t162).f0))) * (wrap64 (((rd_T57 l0 (wrap64 (t162 + 1))).f1) - ((rd_T57 l0 t162).f1))))))) (wrap64 (((rd_T57 l0 (wrap64 (t162 + 1))).f0) - ((rd_T57 l0 t162).f0)))).bind fun bt169 => (some (bt169.1, bt169.2))) else (none)) else (none)) else (none)) else (none))
def ref_at.T2 : Bool × List (List Nat × List Nat) := (true, [([], []), ([], []), ([1], [1]), ([0, 2], [0, 2]), ([3], [3]), ([4], [4]), ([], []), ([], []), ([6, 7], [6, 7]), ([8], [8]), ([9], [9]), ([5, 10], [5, 10]), ([11, 0, 1, 2, 3, 4, 5, 6, 7, 8, 9, 10, 11], [11])])
def ref_at.B2 : List Nat := [0, 0, 2, 7, 15, 31, 0, 0, 192, 448, 960, 2047, 4095]
theorem ref_at.tab2 : rtab .any (opsOf Tryd.f68 2) = ref_at.T2 := by kernel_rfl
theorem ref_at.bits2 : waitsOk ref_at.T2.2 ref_at.B2 = true := by kernel_rfl
def ref_at.T3 : Bool × List (List Nat × List Nat) := (true, [([], []), ([], []), ([1], [1]), ([0, 2], [0, 2]), ([3], [3]), ([4], [4]), ([], []), ([], []), ([6, 7], [6, 7]), ([8], [8]), ([9], [9]), ([5, 10], [5, 10]), ([11, 0, 1, 2, 3, 4, 5, 6, 7, 8, 9, 10, 11], [11])])
def ref_at.B3 : List Nat := [0, 0, 2, 7, 15, 31, 0, 0, 192, 448, 960, 2047, 4095]
theorem ref_at.tab3 : rtab .any (opsOf Tryd.f68 3) = ref_at.T3 := by kernel_rfl
theorem ref_at.bits3 : waitsOk ref_at.T3.2 ref_at.B3 = true := by kernel_rfl
def ref_at.T4 : Bool × List (List Nat × List Nat) := (true, [([], []), ([], []), ([0, 1], [0, 1]), ([2], [2]), ([3], [3]), ([], []), ([4, 5], [4, 5]), ([], []), ([], []), ([], []), ([8, 9], [8, 9]), ([10], [10]), ([11], [11]), ([7, 12], [7, 12]), ([], []), ([13, 14], [13, 14]), ([6, 15], [6, 15]), ([], []), ([16, 17], [16, 17]), ([18, 18, 0, 1, 2, 3, 4, 5, 6, 7, 8, 9, 10, 11, 12, 13, 14, 15, 16, 17, 18], [18])])
def ref_at.B4 : List Nat := [0, 0, 3, 7, 15, 0, 63, 0, 0, 0, 768, 1792, 3840, 8064, 0, 32640, 65535, 0, 262143, 524287]
theorem ref_at.tab4 : rtab .any (opsOf Tryd.f68 4) = ref_at.T4 := by kernel_rfl
theorem ref_at.bits4 : waitsOk ref_at.T4.2 ref_at.B4 = true := by kernel_rfl
set_option maxHeartbeats 8000000 in
set_option maxRecDepth 100000 in
theorem ref_at.calls (k : Nat) (A0 : Option Addr) (c0 : Nat) (l0 : List (S57)) (a1 : Int) (r1 : Int) (r2 : Int) (w : World) (hr0 : Kd.C k57 w A0 l0.length l0) (hc0 : l0.length ≤ c0) (h : ref_at.f k l0 a1 = some (r1, r2)) :
  Calls Tryd.prog 68 #[.slice A0 l0.length c0, .int .i64 a1] w fun e w' => e = .returned (.agg #[.int .i64 r1, .int .i64 r2]) ∧ Below w.heap.size w w' := by
 have hu25 := Tryd.underlying25
 have HR0 := Aside0.mk hr0
 have HC0 := Aside0.mk hc0
 clear hr0 hc0
 have HB := Aside0.mk (Below.refl w.heap.size w)
 have H : ((ref_line.f k l0 a1).bind fun t162 => (if 0 ≤ (wrap64 (t162 + 1)) then (if (wrap64 (t162 + 1)) < (l0.length : Int) then (if 0 ≤ t162 then (if t162 < (l0.length : Int) then ((ref_lowest.f k (wrap64 ((wrap64 (((rd_T57 l0 t162).f1) * (wrap64 (((rd_T57 l0 (wrap64 (t162 + 1))).f0) - ((rd_T57 l0 t162).f0))))) + (wrap64 ((wrap64 (a1 - ((rd_T57 l0 t162).f0))) * (wrap64 (((rd_T57 l0 (wrap64 (t162 + 1))).f1) - ((rd_T57 l0 t162).f1))))))) (wrap64 (((rd_T57 l0 (wrap64 (t162 + 1))).f0) - ((rd_T57 l0 t162).f0)))).bind fun bt169 => (some (bt169.1, bt169.2))) else (none)) else (none)) else (none)) else (none))) = some (r1, r2) := h
 clear h
 replace H := Option.bind_eq_some_iff.mp H
 obtain ⟨t162, A30, H⟩ := H
 replace H : (if 0 ≤ (wrap64 (t162 + 1)) then (if (wrap64 (t162 + 1)) < (l0.length : Int) then (if 0 ≤ t162 then (if t162 < (l0.length : Int) then ((ref_lowest.f k (wrap64 ((wrap64 (((rd_T57 l0 t162).f1) * (wrap64 (((rd_T57 l0 (wrap64 (t162 + 1))).f0) - ((rd_T57 l0 t162).f0))))) + (wrap64 ((wrap64 (a1 - ((rd_T57 l0 t162).f0))) * (wrap64 (((rd_T57 l0 (wrap64 (t162 + 1))).f1) - ((rd_T57 l0 t162).f1))))))) (wrap64 (((rd_T57 l0 (wrap64 (t162 + 1))).f0) - ((rd_T57 l0 t162).f0)))).bind fun bt169 => (some (bt169.1, bt169.2))) else (none)) else (none)) else (none)) else (none)) = some (r1, r2) := H
 have A3 := Aside0.mk A30
 clear A30
 obtain ⟨ji4, hji4⟩ : ∃ j_ : Int, (wrap64 (t162 + 1)) = j_ := ⟨_, rfl⟩
 replace H : (if 0 ≤ (ji4) then (if (ji4) < (l0.length : Int) then (if 0 ≤ t162 then (if t162 < (l0.length : Int) then ((ref_lowest.f k (wrap64 ((wrap64 (((rd_T57 l0 t162).f1) * (wrap64 (((rd_T57 l0 (ji4)).f0) - ((rd_T57 l0 t162).f0))))) + (wrap64 ((wrap64 (a1 - ((rd_T57 l0 t162).f0))) * (wrap64 (((rd_T57 l0 (ji4)).f1) - ((rd_T57 l0 t162).f1))))))) (wrap64 (((rd_T57 l0 (ji4)).f0) - ((rd_T57 l0 t162).f0)))).bind fun bt169 => (some (bt169.1, bt169.2))) else (none)) else (none)) else (none)) else (none)) = some (r1, r2) := by first | (rw [hji4] at H; exact H) | (simp only [hji4] at H ⊢; exact H)
 (try rw [hji4] at A3)
 have hji4w : (IntKind.i64.wrap (t162 + 1)) = ji4 := (i64_w _).trans hji4
 by_cases c5 : 0 ≤ (ji4)
 ·
  rw [if_pos c5] at H
  have c5b0 : decide (0 ≤ (ji4)) = true := decide_eq_true c5
  clear c5
  by_cases c6 : (ji4) < (l0.length : Int)
  ·
   rw [if_pos c6] at H
   have c6b0 : decide ((ji4) < (l0.length : Int)) = true := decide_eq_true c6
   clear c6
   by_cases c7 : 0 ≤ t162
   ·
    rw [if_pos c7] at H
    have c7b0 : decide (0 ≤ t162) = true := decide_eq_true c7
    clear c7
    by_cases c8 : t162 < (l0.length : Int)
    ·
     rw [if_pos c8] at H
     have c8b0 : decide (t162 < (l0.length : Int)) = true := decide_eq_true c8
     clear c8
     replace H := Option.bind_eq_some_iff.mp H
     obtain ⟨⟨t169, t170⟩, A90, H⟩ := H
     replace H : (some (t169, t170)) = some (r1, r2) := H
     have A9 := Aside0.mk A90
     clear A90
     simp only [Option.some.injEq, Prod.mk.injEq] at H
     obtain ⟨rfl, rfl⟩ := H
     go_enter Tryd.func68, Tryd.ntmps68
     try go_wp2_with (first | ((with_reducible refine gate_dst (N := 4) rfl ?_); refine box_event ?hg (N := 4) ?hd (cs := #[.int .i64 0, .int .i64 0]) (t := 25) ?hr ?_; (case hd => rfl); (case hg => rfl); (case hr => first | (go_simp; done) | (go_simp; rfl)); intro gb161 hg w10 hbox hb; have n0_ := Aside0.mk (below_step (by repeat (first | (with_reducible first | exact HB.out | apply below_alloc | apply pw_below_drewN | apply below_drew1) | exact HB.out)) hb); have n1_ := Aside0.mk (hbox); have n2_ := Aside0.mk ((by rw [hg]; exact (below_size (by repeat (first | (with_reducible first | exact HB.out | apply below_alloc | apply pw_below_drewN | apply below_drew1) | exact HB.out))) : w.heap.size ≤ gb161)); have n3_ := Aside0.mk ((by rw [hg]; exact (below_size (by repeat (first | (with_reducible first | exact HB.out | apply below_alloc | apply pw_below_drewN | apply below_drew1) | exact HB.out))) : w.heap.size ≤ gb161)); clear HB; have HB := n0_; have BK161 := n1_; have GW161 := n2_; have GE161 := n3_; clear n0_ n1_ n2_ n3_; clear hb hbox hg) | ((with_reducible refine gate_callee (f := 75) rfl ?_); refine goesL_ (some 10) rfl rfl Tryd.func75 (by kernel_rfl) rfl #[.slice A0 l0.length c0, .int .i64 a1] rfl (by (try simp only [List.map_toArray, List.map_cons, List.map_nil]); first | done | rfl | (simp only [List.length_drop, List.length_take]; rfl)) ?_; (with_reducible refine (ref_line.calls k _ _ l0 a1 t162 _ ?side1 ?side2 A3.out).mono ?_); (case side1 => repeat (first | exact (Kd.C_below HR0.out HB.out) | (with_reducible refine Kd.C_alloc ?_ _) | (with_reducible refine Kd.C_drewN ?_ _) | (with_reducible refine Kd.C_drew ?_))); (case side2 => exact HC0.out); rintro e w' ⟨rfl, ⟨nd, rfl⟩⟩; refine ⟨_, rfl, ?_⟩; (try (rw [drewN_self w10]; generalize hq_ : World.drewN w10 _ = w10; have n0_ : Aside0 (w10.heap[gb161]? = some (.cells #[.int .i64 0, .int .i64 0] 25 (0, 0))) := ⟨by rw [← hq_]; exact (by (with_reducible repeat (first | refine blk_drewN ?_ _ | refine blk_drew ?_ | refine blk_alloc ?_ _)); exact BK161.out)⟩; have n1_ : Aside0 (Below w.heap.size w w10) := ⟨by rw [← hq_]; exact (by repeat (first | (with_reducible first | exact HB.out | apply below_alloc | apply pw_below_drewN | apply below_drew1 | refine below_set ?_ GE161.out) | exact HB.out))⟩; clear BK161 HB hq_; have BK161 := n0_; have HB := n1_; clear n0_ n1_))))
     have n0_ := Aside0.mk (blk_drew BK161.out)
     have n1_ := Aside0.mk (below_drew1 HB.out)
     clear BK161
     clear HB
     have BK161 := n0_
     have HB := n1_
     clear n0_ n1_
     have p163 : 0 ≤ ((ji4) : Int) := of_decide_eq_true (by first | (with_reducible assumption) | assumption)
     have q163 : (ji4) < (l0.length : Int) := of_decide_eq_true (by first | (with_reducible assumption) | assumption)
     obtain ⟨ad163, e163, hx163_0, hx163_1⟩ := at_T57 HR0.out (ji4) p163 q163
     have hw163_1 := hx163_1
     have hw163_0 := hx163_0
     cases e163
     replace hx163_0 := (HB.out.cell (World.block_lt_of_cell? w _ hx163_0)).trans hx163_0
     replace hx163_1 := (HB.out.cell (World.block_lt_of_cell? w _ hx163_1)).trans hx163_1
     replace p163 := eq_true p163
     replace q163 := eq_true q163
     have p164 : 0 ≤ (t162 : Int) := of_decide_eq_true (by first | (with_reducible assumption) | assumption)
     have q164 : t162 < (l0.length : Int) := of_decide_eq_true (by first | (with_reducible assumption) | assumption)
     obtain ⟨ad164, e164, hx164_0, hx164_1⟩ := at_T57 HR0.out t162 p164 q164
     have hw164_1 := hx164_1
     have hw164_0 := hx164_0
     obtain rfl : ad163 = ad164 := (by injection e164)
     replace hx164_0 := (HB.out.cell (World.block_lt_of_cell? w _ hx164_0)).trans hx164_0
     replace hx164_1 := (HB.out.cell (World.block_lt_of_cell? w _ hx164_1)).trans hx164_1
     replace p164 := eq_true p164
     replace q164 := eq_true q164
     refine start_ (n := 13) (S := fun w' => w'.cell? (ad163.add (((ji4)).toNat * 2)) = some (.int .i64 ((rd_T57 l0 (ji4)).f0)) ∧ w'.cell? ⟨(ad163.add (((ji4)).toNat * 2)).block, (ad163.add (((ji4)).toNat * 2)).off + 1, none⟩ = some (.int .i64 ((rd_T57 l0 (ji4)).f1)) ∧ w'.cell? (ad163.add ((t162).toNat * 2)) = some (.int .i64 ((rd_T57 l0 t162).f0)) ∧ w'.cell? ⟨(ad163.add ((t162).toNat * 2)).block, (ad163.add ((t162).toNat * 2)).off + 1, none⟩ = some (.int .i64 ((rd_T57 l0 t162).f1))) (ds := []) #[false, false, false, false, false, false, false, false, false, false, false, false, false] (by kernel_rfl) rfl rfl ⟨((HB.out.cell (World.block_lt_of_cell? w _ hw163_0)).trans hw163_0), ((HB.out.cell (World.block_lt_of_cell? w _ hw163_1)).trans hw163_1), ((HB.out.cell (World.block_lt_of_cell? w _ hw164_0)).trans hw164_0), ((HB.out.cell (World.block_lt_of_cell? w _ hw164_1)).trans hw164_1)⟩ (fun hHeld => ?_); refine with_tabW ref_at.tab2 ref_at.bits2 (fun HT_ HW_ => ?_)
     generalize w10.drew = w11 at BK161 HB hx163_0 hx163_1 hx164_0 hx164_1 hHeld ⊢
     refine pure_ (i := 0) (N := some 11) (v := ?_) (a' := ?_) #[true, false, false, false, false, false, false, false, false, false, false, false, false] rfl rfl (any_of HT_.out (by kernel_rfl)) (fun _ _ _ h => h) (Or.inl ⟨by rfl, ?_⟩) ?_ ?_
     rotate_left
     ·
      intro w'
      go_simp
      with_reducible rfl
     rotate_left
     ·
      simp only [Act.put, List.setIfInBounds_toArray, List.set_cons_zero, List.set_cons_succ, i64_w, i32_w]
      rfl
     refine pure_ (i := 1) (N := some 12) (v := ?_) (a' := ?_) #[true, true, false, false, false, false, false, false, false, false, false, false, false] rfl rfl (any_of HT_.out (by kernel_rfl)) (fun _ _ _ h => h) (Or.inl ⟨by rfl, ?_⟩) ?_ ?_
     rotate_left
     ·
      intro w'
      go_simp
      with_reducible rfl
     rotate_left
     ·
      simp only [Act.put, List.setIfInBounds_toArray, List.set_cons_zero, List.set_cons_succ, i64_w, i32_w]
      rfl
     refine pure_ (i := 2) (N := some 13) (v := ?_) (a' := ?_) #[true, true, true, false, false, false, false, false, false, false, false, false, false] rfl rfl (any_of HT_.out (by kernel_rfl)) (fun _ _ _ h => h) (Or.inl ⟨by rfl, ?_⟩) ?_ ?_
     rotate_left
     ·
      intro w'
      go_simp
      with_reducible rfl
     rotate_left
     ·
      simp only [Act.put, List.setIfInBounds_toArray, List.set_cons_zero, List.set_cons_succ, i64_w, i32_w]
      rfl
     refine pure_ (i := 3) (N := some 14) (v := ?_) (a' := ?_) #[true, true, true, true, false, false, false, false, false, false, false, false, false] rfl rfl (any_of HT_.out (by kernel_rfl)) (fun _ _ _ h => h) (Or.inl ⟨by rfl, ?_⟩) ?_ ?_
     rotate_left
     ·
      intro w'
      go_simp
      with_reducible rfl
     rotate_left
     ·
      simp only [Act.put, List.setIfInBounds_toArray, List.set_cons_zero, List.set_cons_succ, i64_w, i32_w]
      rfl
     refine pure_ (i := 4) (N := some 15) (v := ?_) (a' := ?_) #[true, true, true, true, true, false, false, false, false, false, false, false, false] rfl rfl (any_of HT_.out (by kernel_rfl)) (fun _ _ _ h => h) (Or.inl ⟨by rfl, ?_⟩) ?_ ?_
     rotate_left
     ·
      intro w'
      go_simp
      with_reducible rfl
     rotate_left
     ·
      simp only [Act.put, List.setIfInBounds_toArray, List.set_cons_zero, List.set_cons_succ, i64_w, i32_w]
      rfl
     refine pure_ (i := 6) (N := some 17) (v := ?_) (a' := ?_) #[true, true, true, true, true, false, true, false, false, false, false, false, false] rfl rfl (any_of HT_.out (by kernel_rfl)) (fun _ _ _ h => h) (Or.inl ⟨by rfl, ?_⟩) ?_ ?_
     rotate_left
     ·
      intro w'
      go_simp
      with_reducible rfl
     rotate_left
     ·
      simp only [Act.put, List.setIfInBounds_toArray, List.set_cons_zero, List.set_cons_succ, i64_w, i32_w]
      rfl
     refine pure_ (i := 7) (N := some 18) (v := ?_) (a' := ?_) #[true, true, true, true, true, false, true, true, false, false, false, false, false] rfl rfl (any_of HT_.out (by kernel_rfl)) (fun _ _ _ h => h) (Or.inl ⟨by rfl, ?_⟩) ?_ ?_
     rotate_left
     ·
      intro w'
      go_simp
      with_reducible rfl
     rotate_left
     ·
      simp only [Act.put, List.setIfInBounds_toArray, List.set_cons_zero, List.set_cons_succ, i64_w, i32_w]
      rfl
     refine pure_ (i := 8) (N := some 19) (v := ?_) (a' := ?_) #[true, true, true, true, true, false, true, true, true, false, false, false, false] rfl rfl (any_of HT_.out (by kernel_rfl)) (fun _ _ _ h => h) (Or.inl ⟨by rfl, ?_⟩) ?_ ?_
     rotate_left
     ·
      intro w'
      go_simp
      with_reducible rfl
     rotate_left
     ·
      simp only [Act.put, List.setIfInBounds_toArray, List.set_cons_zero, List.set_cons_succ, i64_w, i32_w]
      rfl
     refine pure_ (i := 9) (N := some 20) (v := ?_) (a' := ?_) #[true, true, true, true, true, false, true, true, true, true, false, false, false] rfl rfl (any_of HT_.out (by kernel_rfl)) (fun _ _ _ h => h) (Or.inl ⟨by rfl, ?_⟩) ?_ ?_
     rotate_left
     ·
      intro w'
      go_simp
      with_reducible rfl
     rotate_left
     ·
      simp only [Act.put, List.setIfInBounds_toArray, List.set_cons_zero, List.set_cons_succ, i64_w, i32_w]
      rfl
     refine take_ (i := 5) (N := some 16) (v := ?_) (a' := ?_) #[true, true, true, true, true, true, true, true, true, true, false, false, false] rfl rfl (take_ofW HT_.out HW_.out (by kernel_rfl)) (fun _ _ _ h => h) (Or.inl ⟨by rfl, ?_⟩) hHeld ?_ ?_
     rotate_left
     ·
      rintro w' ⟨s0, s1, s2, s3⟩
      go_simp
      with_reducible rfl
     rotate_left
     ·
      simp only [Act.put, List.setIfInBounds_toArray, List.set_cons_zero, List.set_cons_succ, i64_w, i32_w]
      rfl
     refine take_ (i := 10) (N := some 21) (v := ?_) (a' := ?_) #[true, true, true, true, true, true, true, true, true, true, true, false, false] rfl rfl (take_ofW HT_.out HW_.out (by kernel_rfl)) (fun _ _ _ h => h) (Or.inl ⟨by rfl, ?_⟩) hHeld ?_ ?_
     rotate_left
     ·
      rintro w' ⟨s0, s1, s2, s3⟩
      go_simp
      with_reducible rfl
     rotate_left
     ·
      simp only [Act.put, List.setIfInBounds_toArray, List.set_cons_zero, List.set_cons_succ, i64_w, i32_w]
      rfl
     refine pure_ (i := 11) (N := some 22) (v := ?_) (a' := ?_) #[true, true, true, true, true, true, true, true, true, true, true, true, false] rfl rfl (any_of HT_.out (by kernel_rfl)) (fun _ _ _ h => h) (Or.inl ⟨by rfl, ?_⟩) ?_ ?_
     rotate_left
     ·
      intro w'
      go_simp
      with_reducible rfl
     rotate_left
     ·
      simp only [Act.put, List.setIfInBounds_toArray, List.set_cons_zero, List.set_cons_succ, i64_w, i32_w]
      rfl
     refine pure_ (i := 12) (N := some 6) (v := ?_) (a' := ?_) #[true, true, true, true, true, true, true, true, true, true, true, true, true] rfl rfl (any_of HT_.out (by kernel_rfl)) (fun _ _ _ h => h) (Or.inl ⟨by rfl, ?_⟩) ?_ ?_
     rotate_left
     ·
      intro w'
      go_simp
      with_reducible rfl
     rotate_left
     ·
      simp only [Act.put, List.setIfInBounds_toArray, List.set_cons_zero, List.set_cons_succ, i64_w, i32_w]
      rfl
     refine done_ (done_of HT_.out (by kernel_rfl)) ?_
     try go_wp2
     have n0_ := Aside0.mk (blk_drew BK161.out)
     have n1_ := Aside0.mk (below_drew1 HB.out)
     clear BK161
     clear HB
     have BK161 := n0_
     have HB := n1_
     clear n0_ n1_
     have p165 : 0 ≤ ((ji4) : Int) := of_decide_eq_true (by first | (with_reducible assumption) | assumption)
     have q165 : (ji4) < (l0.length : Int) := of_decide_eq_true (by first | (with_reducible assumption) | assumption)
     obtain ⟨ad165, e165, hx165_0, hx165_1⟩ := at_T57 HR0.out (ji4) p165 q165
     have hw165_1 := hx165_1
     have hw165_0 := hx165_0
     obtain rfl : ad163 = ad165 := (by injection e165)
     replace hx165_0 := (HB.out.cell (World.block_lt_of_cell? w _ hx165_0)).trans hx165_0
     replace hx165_1 := (HB.out.cell (World.block_lt_of_cell? w _ hx165_1)).trans hx165_1
     replace p165 := eq_true p165
     replace q165 := eq_true q165
     have p166 : 0 ≤ (t162 : Int) := of_decide_eq_true (by first | (with_reducible assumption) | assumption)
     have q166 : t162 < (l0.length : Int) := of_decide_eq_true (by first | (with_reducible assumption) | assumption)
     obtain ⟨ad166, e166, hx166_0, hx166_1⟩ := at_T57 HR0.out t162 p166 q166
     have hw166_1 := hx166_1
     have hw166_0 := hx166_0
     obtain rfl : ad163 = ad166 := (by injection e166)
     replace hx166_0 := (HB.out.cell (World.block_lt_of_cell? w _ hx166_0)).trans hx166_0
     replace hx166_1 := (HB.out.cell (World.block_lt_of_cell? w _ hx166_1)).trans hx166_1
     replace p166 := eq_true p166
     replace q166 := eq_true q166
     refine start_ (n := 13) (S := fun w' => w'.cell? (ad163.add (((ji4)).toNat * 2)) = some (.int .i64 ((rd_T57 l0 (ji4)).f0)) ∧ w'.cell? ⟨(ad163.add (((ji4)).toNat * 2)).block, (ad163.add (((ji4)).toNat * 2)).off + 1, none⟩ = some (.int .i64 ((rd_T57 l0 (ji4)).f1)) ∧ w'.cell? (ad163.add ((t162).toNat * 2)) = some (.int .i64 ((rd_T57 l0 t162).f0)) ∧ w'.cell? ⟨(ad163.add ((t162).toNat * 2)).block, (ad163.add ((t162).toNat * 2)).off + 1, none⟩ = some (.int .i64 ((rd_T57 l0 t162).f1))) (ds := []) #[false, false, false, false, false, false, false, false, false, false, false, false, false] (by kernel_rfl) rfl rfl ⟨((HB.out.cell (World.block_lt_of_cell? w _ hw165_0)).trans hw165_0), ((HB.out.cell (World.block_lt_of_cell? w _ hw165_1)).trans hw165_1), ((HB.out.cell (World.block_lt_of_cell? w _ hw166_0)).trans hw166_0), ((HB.out.cell (World.block_lt_of_cell? w _ hw166_1)).trans hw166_1)⟩ (fun hHeld => ?_); refine with_tabW ref_at.tab3 ref_at.bits3 (fun HT_ HW_ => ?_)
     generalize w11.drew = w12 at BK161 HB hx165_0 hx165_1 hx166_0 hx166_1 hHeld ⊢
     refine pure_ (i := 0) (N := some 23) (v := ?_) (a' := ?_) #[true, false, false, false, false, false, false, false, false, false, false, false, false] rfl rfl (any_of HT_.out (by kernel_rfl)) (fun _ _ _ h => h) (Or.inl ⟨by rfl, ?_⟩) ?_ ?_
     rotate_left
     ·
      intro w'
      go_simp
      with_reducible rfl
     rotate_left
     ·
      simp only [Act.put, List.setIfInBounds_toArray, List.set_cons_zero, List.set_cons_succ, i64_w, i32_w]
      rfl
     refine pure_ (i := 1) (N := some 24) (v := ?_) (a' := ?_) #[true, true, false, false, false, false, false, false, false, false, false, false, false] rfl rfl (any_of HT_.out (by kernel_rfl)) (fun _ _ _ h => h) (Or.inl ⟨by rfl, ?_⟩) ?_ ?_
     rotate_left
     ·
      intro w'
      go_simp
      with_reducible rfl
     rotate_left
     ·
      simp only [Act.put, List.setIfInBounds_toArray, List.set_cons_zero, List.set_cons_succ, i64_w, i32_w]
      rfl
     refine pure_ (i := 2) (N := some 25) (v := ?_) (a' := ?_) #[true, true, true, false, false, false, false, false, false, false, false, false, false] rfl rfl (any_of HT_.out (by kernel_rfl)) (fun _ _ _ h => h) (Or.inl ⟨by rfl, ?_⟩) ?_ ?_
     rotate_left
     ·
      intro w'
      go_simp
      with_reducible rfl
     rotate_left
     ·
      simp only [Act.put, List.setIfInBounds_toArray, List.set_cons_zero, List.set_cons_succ, i64_w, i32_w]
      rfl
     refine pure_ (i := 3) (N := some 26) (v := ?_) (a' := ?_) #[true, true, true, true, false, false, false, false, false, false, false, false, false] rfl rfl (any_of HT_.out (by kernel_rfl)) (fun _ _ _ h => h) (Or.inl ⟨by rfl, ?_⟩) ?_ ?_
     rotate_left
     ·
      intro w'
      go_simp
      with_reducible rfl
     rotate_left
     ·
      simp only [Act.put, List.setIfInBounds_toArray, List.set_cons_zero, List.set_cons_succ, i64_w, i32_w]
      rfl
     refine pure_ (i := 4) (N := some 27) (v := ?_) (a' := ?_) #[true, true, true, true, true, false, false, false, false, false, false, false, false] rfl rfl (any_of HT_.out (by kernel_rfl)) (fun _ _ _ h => h) (Or.inl ⟨by rfl, ?_⟩) ?_ ?_
     rotate_left
     ·
      intro w'
      go_simp
      with_reducible rfl
     rotate_left
     ·
      simp only [Act.put, List.setIfInBounds_toArray, List.set_cons_zero, List.set_cons_succ, i64_w, i32_w]
      rfl
     refine pure_ (i := 6) (N := some 29) (v := ?_) (a' := ?_) #[true, true, true, true, true, false, true, false, false, false, false, false, false] rfl rfl (any_of HT_.out (by kernel_rfl)) (fun _ _ _ h => h) (Or.inl ⟨by rfl, ?_⟩) ?_ ?_
     rotate_left
     ·
      intro w'
      go_simp
      with_reducible rfl
     rotate_left
     ·
      simp only [Act.put, List.setIfInBounds_toArray, List.set_cons_zero, List.set_cons_succ, i64_w, i32_w]
      rfl
     refine pure_ (i := 7) (N := some 30) (v := ?_) (a' := ?_) #[true, true, true, true, true, false, true, true, false, false, false, false, false] rfl rfl (any_of HT_.out (by kernel_rfl)) (fun _ _ _ h => h) (Or.inl ⟨by rfl, ?_⟩) ?_ ?_
     rotate_left
     ·
      intro w'
      go_simp
      with_reducible rfl
     rotate_left
     ·
      simp only [Act.put, List.setIfInBounds_toArray, List.set_cons_zero, List.set_cons_succ, i64_w, i32_w]
      rfl
     refine pure_ (i := 8) (N := some 31) (v := ?_) (a' := ?_) #[true, true, true, true, true, false, true, true, true, false, false, false, false] rfl rfl (any_of HT_.out (by kernel_rfl)) (fun _ _ _ h => h) (Or.inl ⟨by rfl, ?_⟩) ?_ ?_
     rotate_left
     ·
      intro w'
      go_simp
      with_reducible rfl
     rotate_left
     ·
      simp only [Act.put, List.setIfInBounds_toArray, List.set_cons_zero, List.set_cons_succ, i64_w, i32_w]
      rfl
     refine pure_ (i := 9) (N := some 32) (v := ?_) (a' := ?_) #[true, true, true, true, true, false, true, true, true, true, false, false, false] rfl rfl (any_of HT_.out (by kernel_rfl)) (fun _ _ _ h => h) (Or.inl ⟨by rfl, ?_⟩) ?_ ?_
     rotate_left
     ·
      intro w'
      go_simp
      with_reducible rfl
     rotate_left
     ·
      simp only [Act.put, List.setIfInBounds_toArray, List.set_cons_zero, List.set_cons_succ, i64_w, i32_w]
      rfl
     refine take_ (i := 5) (N := some 28) (v := ?_) (a' := ?_) #[true, true, true, true, true, true, true, true, true, true, false, false, false] rfl rfl (take_ofW HT_.out HW_.out (by kernel_rfl)) (fun _ _ _ h => h) (Or.inl ⟨by rfl, ?_⟩) hHeld ?_ ?_
     rotate_left
     ·
      rintro w' ⟨s0, s1, s2, s3⟩
      go_simp
      with_reducible rfl
     rotate_left
     ·
      simp only [Act.put, List.setIfInBounds_toArray, List.set_cons_zero, List.set_cons_succ, i64_w, i32_w]
      rfl
     refine take_ (i := 10) (N := some 33) (v := ?_) (a' := ?_) #[true, true, true, true, true, true, true, true, true, true, true, false, false] rfl rfl (take_ofW HT_.out HW_.out (by kernel_rfl)) (fun _ _ _ h => h) (Or.inl ⟨by rfl, ?_⟩) hHeld ?_ ?_
     rotate_left
     ·
      rintro w' ⟨s0, s1, s2, s3⟩
      go_simp
      with_reducible rfl
     rotate_left
     ·
      simp only [Act.put, List.setIfInBounds_toArray, List.set_cons_zero, List.set_cons_succ, i64_w, i32_w]
      rfl
     refine pure_ (i := 11) (N := some 34) (v := ?_) (a' := ?_) #[true, true, true, true, true, true, true, true, true, true, true, true, false] rfl rfl (any_of HT_.out (by kernel_rfl)) (fun _ _ _ h => h) (Or.inl ⟨by rfl, ?_⟩) ?_ ?_
     rotate_left
     ·
      intro w'
      go_simp
      with_reducible rfl
     rotate_left
     ·
      simp only [Act.put, List.setIfInBounds_toArray, List.set_cons_zero, List.set_cons_succ, i64_w, i32_w]
      rfl
     refine pure_ (i := 12) (N := some 7) (v := ?_) (a' := ?_) #[true, true, true, true, true, true, true, true, true, true, true, true, true] rfl rfl (any_of HT_.out (by kernel_rfl)) (fun _ _ _ h => h) (Or.inl ⟨by rfl, ?_⟩) ?_ ?_
     rotate_left
     ·
      intro w'
      go_simp
      with_reducible rfl
     rotate_left
     ·
      simp only [Act.put, List.setIfInBounds_toArray, List.set_cons_zero, List.set_cons_succ, i64_w, i32_w]
      rfl
     refine done_ (done_of HT_.out (by kernel_rfl)) ?_
     try go_wp2
     have n0_ := Aside0.mk (blk_drew BK161.out)
     have n1_ := Aside0.mk (below_drew1 HB.out)
     clear BK161
     clear HB
     have BK161 := n0_
     have HB := n1_
     clear n0_ n1_
     have p167 : 0 ≤ (t162 : Int) := of_decide_eq_true (by first | (with_reducible assumption) | assumption)
     have q167 : t162 < (l0.length : Int) := of_decide_eq_true (by first | (with_reducible assumption) | assumption)
     obtain ⟨ad167, e167, hx167_0, hx167_1⟩ := at_T57 HR0.out t162 p167 q167
     have hw167_1 := hx167_1
     have hw167_0 := hx167_0
     obtain rfl : ad163 = ad167 := (by injection e167)
     replace hx167_0 := (HB.out.cell (World.block_lt_of_cell? w _ hx167_0)).trans hx167_0
     replace hx167_1 := (HB.out.cell (World.block_lt_of_cell? w _ hx167_1)).trans hx167_1
     replace p167 := eq_true p167
     replace q167 := eq_true q167
     have p168 : 0 ≤ (t162 : Int) := of_decide_eq_true (by first | (with_reducible assumption) | assumption)
     have q168 : t162 < (l0.length : Int) := of_decide_eq_true (by first | (with_reducible assumption) | assumption)
     obtain ⟨ad168, e168, hx168_0, hx168_1⟩ := at_T57 HR0.out t162 p168 q168
     have hw168_1 := hx168_1
     have hw168_0 := hx168_0
     obtain rfl : ad163 = ad168 := (by injection e168)
     replace hx168_0 := (HB.out.cell (World.block_lt_of_cell? w _ hx168_0)).trans hx168_0
     replace hx168_1 := (HB.out.cell (World.block_lt_of_cell? w _ hx168_1)).trans hx168_1
     replace p168 := eq_true p168
     replace q168 := eq_true q168
     refine start_ (n := 20) (S := fun w' => w'.cell? (ad163.add ((t162).toNat * 2)) = some (.int .i64 ((rd_T57 l0 t162).f0)) ∧ w'.cell? ⟨(ad163.add ((t162).toNat * 2)).block, (ad163.add ((t162).toNat * 2)).off + 1, none⟩ = some (.int .i64 ((rd_T57 l0 t162).f1)) ∧ w'.cell? (ad163.add ((t162).toNat * 2)) = some (.int .i64 ((rd_T57 l0 t162).f0)) ∧ w'.cell? ⟨(ad163.add ((t162).toNat * 2)).block, (ad163.add ((t162).toNat * 2)).off + 1, none⟩ = some (.int .i64 ((rd_T57 l0 t162).f1))) (ds := []) #[false, false, false, false, false, false, false, false, false, false, false, false, false, false, false, false, false, false, false, false] (by kernel_rfl) rfl rfl ⟨((HB.out.cell (World.block_lt_of_cell? w _ hw167_0)).trans hw167_0), ((HB.out.cell (World.block_lt_of_cell? w _ hw167_1)).trans hw167_1), ((HB.out.cell (World.block_lt_of_cell? w _ hw168_0)).trans hw168_0), ((HB.out.cell (World.block_lt_of_cell? w _ hw168_1)).trans hw168_1)⟩ (fun hHeld => ?_); refine with_tabW ref_at.tab4 ref_at.bits4 (fun HT_ HW_ => ?_)
     generalize w12.drew = w13 at BK161 HB hx167_0 hx167_1 hx168_0 hx168_1 hHeld ⊢
     refine pure_ (i := 0) (N := some 35) (v := ?_) (a' := ?_) #[true, false, false, false, false, false, false, false, false, false, false, false, false, false, false, false, false, false, false, false] rfl rfl (any_of HT_.out (by kernel_rfl)) (fun _ _ _ h => h) (Or.inl ⟨by rfl, ?_⟩) ?_ ?_
     rotate_left
     ·
      intro w'
      go_simp
      with_reducible rfl
     rotate_left
     ·
      simp only [Act.put, List.setIfInBounds_toArray, List.set_cons_zero, List.set_cons_succ, i64_w, i32_w]
      rfl
     refine pure_ (i := 1) (N := some 36) (v := ?_) (a' := ?_) #[true, true, false, false, false, false, false, false, false, false, false, false, false, false, false, false, false, false, false, false] rfl rfl (any_of HT_.out (by kernel_rfl)) (fun _ _ _ h => h) (Or.inl ⟨by rfl, ?_⟩) ?_ ?_
     rotate_left
     ·
      intro w'
      go_simp
      with_reducible rfl
     rotate_left
     ·
      simp only [Act.put, List.setIfInBounds_toArray, List.set_cons_zero, List.set_cons_succ, i64_w, i32_w]
      rfl
     refine pure_ (i := 2) (N := some 37) (v := ?_) (a' := ?_) #[true, true, true, false, false, false, false, false, false, false, false, false, false, false, false, false, false, false, false, false] rfl rfl (any_of HT_.out (by kernel_rfl)) (fun _ _ _ h => h) (Or.inl ⟨by rfl, ?_⟩) ?_ ?_
     rotate_left
     ·
      intro w'
      go_simp
      with_reducible rfl
     rotate_left
     ·
      simp only [Act.put, List.setIfInBounds_toArray, List.set_cons_zero, List.set_cons_succ, i64_w, i32_w]
      rfl
     refine pure_ (i := 3) (N := some 38) (v := ?_) (a' := ?_) #[true, true, true, true, false, false, false, false, false, false, false, false, false, false, false, false, false, false, false, false] rfl rfl (any_of HT_.out (by kernel_rfl)) (fun _ _ _ h => h) (Or.inl ⟨by rfl, ?_⟩) ?_ ?_
     rotate_left
     ·
      intro w'
      go_simp
      with_reducible rfl
     rotate_left
     ·
      simp only [Act.put, List.setIfInBounds_toArray, List.set_cons_zero, List.set_cons_succ, i64_w, i32_w]
      rfl
     refine pure_ (i := 5) (N := some 40) (v := ?_) (a' := ?_) #[true, true, true, true, false, true, false, false, false, false, false, false, false, false, false, false, false, false, false, false] rfl rfl (any_of HT_.out (by kernel_rfl)) (fun _ _ _ h => h) (Or.inl ⟨by rfl, ?_⟩) ?_ ?_
     rotate_left
     ·
      intro w'
      go_simp
      with_reducible rfl
     rotate_left
     ·
      simp only [Act.put, List.setIfInBounds_toArray, List.set_cons_zero, List.set_cons_succ, i64_w, i32_w]
      rfl
     refine pure_ (i := 7) (N := some 42) (v := ?_) (a' := ?_) #[true, true, true, true, false, true, false, true, false, false, false, false, false, false, false, false, false, false, false, false] rfl rfl (any_of HT_.out (by kernel_rfl)) (fun _ _ _ h => h) (Or.inl ⟨by rfl, ?_⟩) ?_ ?_
     rotate_left
     ·
      intro w'
      go_simp
      with_reducible rfl
     rotate_left
     ·
      simp only [Act.put, List.setIfInBounds_toArray, List.set_cons_zero, List.set_cons_succ, i64_w, i32_w]
      rfl
     refine pure_ (i := 8) (N := some 43) (v := ?_) (a' := ?_) #[true, true, true, true, false, true, false, true, true, false, false, false, false, false, false, false, false, false, false, false] rfl rfl (any_of HT_.out (by kernel_rfl)) (fun _ _ _ h => h) (Or.inl ⟨by rfl, ?_⟩) ?_ ?_
     rotate_left
     ·
      intro w'
      go_simp
      with_reducible rfl
     rotate_left
     ·
      simp only [Act.put, List.setIfInBounds_toArray, List.set_cons_zero, List.set_cons_succ, i64_w, i32_w]
      rfl
     refine pure_ (i := 9) (N := some 44) (v := ?_) (a' := ?_) #[true, true, true, true, false, true, false, true, true, true, false, false, false, false, false, false, false, false, false, false] rfl rfl (any_of HT_.out (by kernel_rfl)) (fun _ _ _ h => h) (Or.inl ⟨by rfl, ?_⟩) ?_ ?_
     rotate_left
     ·
      intro w'
      go_simp
      with_reducible rfl
     rotate_left
     ·
      simp only [Act.put, List.setIfInBounds_toArray, List.set_cons_zero, List.set_cons_succ, i64_w, i32_w]
      rfl
     refine pure_ (i := 10) (N := some 45) (v := ?_) (a' := ?_) #[true, true, true, true, false, true, false, true, true, true, true, false, false, false, false, false, false, false, false, false] rfl rfl (any_of HT_.out (by kernel_rfl)) (fun _ _ _ h => h) (Or.inl ⟨by rfl, ?_⟩) ?_ ?_
     rotate_left
     ·
      intro w'
      go_simp
      with_reducible rfl
     rotate_left
     ·
      simp only [Act.put, List.setIfInBounds_toArray, List.set_cons_zero, List.set_cons_succ, i64_w, i32_w]
      rfl
     refine pure_ (i := 11) (N := some 46) (v := ?_) (a' := ?_) #[true, true, true, true, false, true, false, true, true, true, true, true, false, false, false, false, false, false, false, false] rfl rfl (any_of HT_.out (by kernel_rfl)) (fun _ _ _ h => h) (Or.inl ⟨by rfl, ?_⟩) ?_ ?_
     rotate_left
     ·
      intro w'
      go_simp
      with_reducible rfl
     rotate_left
     ·
      simp only [Act.put, List.setIfInBounds_toArray, List.set_cons_zero, List.set_cons_succ, i64_w, i32_w]
      rfl
     refine pure_ (i := 14) (N := some 49) (v := ?_) (a' := ?_) #[true, true, true, true, false, true, false, true, true, true, true, true, false, false, true, false, false, false, false, false] rfl rfl (any_of HT_.out (by kernel_rfl)) (fun _ _ _ h => h) (Or.inl ⟨by rfl, ?_⟩) ?_ ?_
     rotate_left
     ·
      intro w'
      go_simp
      with_reducible rfl
     rotate_left
     ·
      simp only [Act.put, List.setIfInBounds_toArray, List.set_cons_zero, List.set_cons_succ, i64_w, i32_w]
      rfl
     refine pure_ (i := 17) (N := some 52) (v := ?_) (a' := ?_) #[true, true, true, true, false, true, false, true, true, true, true, true, false, false, true, false, false, true, false, false] rfl rfl (any_of HT_.out (by kernel_rfl)) (fun _ _ _ h => h) (Or.inl ⟨by rfl, ?_⟩) ?_ ?_
     rotate_left
     ·
      intro w'
      go_simp
      with_reducible rfl
     rotate_left
     ·
      simp only [Act.put, List.setIfInBounds_toArray, List.set_cons_zero, List.set_cons_succ, i64_w, i32_w]
      rfl
     refine take_ (i := 4) (N := some 39) (v := ?_) (a' := ?_) #[true, true, true, true, true, true, false, true, true, true, true, true, false, false, true, false, false, true, false, false] rfl rfl (take_ofW HT_.out HW_.out (by kernel_rfl)) (fun _ _ _ h => h) (Or.inl ⟨by rfl, ?_⟩) hHeld ?_ ?_
     rotate_left
     ·
      rintro w' ⟨s0, s1, s2, s3⟩
      go_simp
      with_reducible rfl
     rotate_left
     ·
      simp only [Act.put, List.setIfInBounds_toArray, List.set_cons_zero, List.set_cons_succ, i64_w, i32_w]
      rfl
     refine pure_ (i := 6) (N := some 41) (v := ?_) (a' := ?_) #[true, true, true, true, true, true, true, true, true, true, true, true, false, false, true, false, false, true, false, false] rfl rfl (any_of HT_.out (by kernel_rfl)) (fun _ _ _ h => h) (Or.inl ⟨by rfl, ?_⟩) ?_ ?_
     rotate_left
     ·
      intro w'
      go_simp
      with_reducible rfl
     rotate_left
     ·
      simp only [Act.put, List.setIfInBounds_toArray, List.set_cons_zero, List.set_cons_succ, i64_w, i32_w]
      rfl
     refine take_ (i := 12) (N := some 47) (v := ?_) (a' := ?_) #[true, true, true, true, true, true, true, true, true, true, true, true, true, false, true, false, false, true, false, false] rfl rfl (take_ofW HT_.out HW_.out (by kernel_rfl)) (fun _ _ _ h => h) (Or.inl ⟨by rfl, ?_⟩) hHeld ?_ ?_
     rotate_left
     ·
      rintro w' ⟨s0, s1, s2, s3⟩
      go_simp
      with_reducible rfl
     rotate_left
     ·
      simp only [Act.put, List.setIfInBounds_toArray, List.set_cons_zero, List.set_cons_succ, i64_w, i32_w]
      rfl
     refine pure_ (i := 13) (N := some 48) (v := ?_) (a' := ?_) #[true, true, true, true, true, true, true, true, true, true, true, true, true, true, true, false, false, true, false, false] rfl rfl (any_of HT_.out (by kernel_rfl)) (fun _ _ _ h => h) (Or.inl ⟨by rfl, ?_⟩) ?_ ?_
     rotate_left
     ·
      intro w'
      go_simp
      with_reducible rfl
     rotate_left
     ·
      simp only [Act.put, List.setIfInBounds_toArray, List.set_cons_zero, List.set_cons_succ, i64_w, i32_w]
      rfl
     refine pure_ (i := 15) (N := some 50) (v := ?_) (a' := ?_) #[true, true, true, true, true, true, true, true, true, true, true, true, true, true, true, true, false, true, false, false] rfl rfl (any_of HT_.out (by kernel_rfl)) (fun _ _ _ h => h) (Or.inl ⟨by rfl, ?_⟩) ?_ ?_
     rotate_left
     ·
      intro w'
      go_simp
      with_reducible rfl
     rotate_left
     ·
      simp only [Act.put, List.setIfInBounds_toArray, List.set_cons_zero, List.set_cons_succ, i64_w, i32_w]
      rfl
     refine pure_ (i := 16) (N := some 51) (v := ?_) (a' := ?_) #[true, true, true, true, true, true, true, true, true, true, true, true, true, true, true, true, true, true, false, false] rfl rfl (any_of HT_.out (by kernel_rfl)) (fun _ _ _ h => h) (Or.inl ⟨by rfl, ?_⟩) ?_ ?_
     rotate_left
     ·
      intro w'
      go_simp
      with_reducible rfl
     rotate_left
     ·
      simp only [Act.put, List.setIfInBounds_toArray, List.set_cons_zero, List.set_cons_succ, i64_w, i32_w]
      rfl
     refine one_ (i := 18) (N := some 53) #[true, true, true, true, true, true, true, true, true, true, true, true, true, true, true, true, true, true, true, false] rfl rfl (one_of HT_.out (by kernel_rfl)) (by decide) (fun K hK => ?_)
     refine goes_ Tryd.func76 (by kernel_rfl) rfl #[.int .i64 (wrap64 ((wrap64 (((rd_T57 l0 t162).f1) * (wrap64 (((rd_T57 l0 (ji4)).f0) - ((rd_T57 l0 t162).f0))))) + (wrap64 ((wrap64 (a1 - ((rd_T57 l0 t162).f0))) * (wrap64 (((rd_T57 l0 (ji4)).f1) - ((rd_T57 l0 t162).f1))))))), .int .i64 (wrap64 (((rd_T57 l0 (ji4)).f0) - ((rd_T57 l0 t162).f0)))] (by rfl) rfl rfl (by (try simp only [List.map_toArray, List.map_cons, List.map_nil]); first | done | (simp only [hji4]; rfl) | rfl | (simp only [List.length_drop, List.length_take]; rfl)) ?_
     with_reducible refine (ref_lowest.calls k (wrap64 ((wrap64 (((rd_T57 l0 t162).f1) * (wrap64 (((rd_T57 l0 (ji4)).f0) - ((rd_T57 l0 t162).f0))))) + (wrap64 ((wrap64 (a1 - ((rd_T57 l0 t162).f0))) * (wrap64 (((rd_T57 l0 (ji4)).f1) - ((rd_T57 l0 t162).f1))))))) (wrap64 (((rd_T57 l0 (ji4)).f0) - ((rd_T57 l0 t162).f0))) t169 t170 _ A9.out).mono ?_
     rintro e w14 ⟨rfl, hb⟩
     refine ⟨_, rfl, ?_⟩
     have n0_ := Aside0.mk (blk_below (g := gb161) (o := .cells #[.int .i64 0, .int .i64 0] 25 (0, 0)) (by (with_reducible repeat (first | refine blk_drewN ?_ _ | refine blk_drew ?_ | refine blk_alloc ?_ _)); exact BK161.out) hb)
     have n1_ := Aside0.mk (below_step (by repeat (first | (with_reducible first | exact HB.out | apply below_alloc | apply pw_below_drewN | apply below_drew1 | refine below_set ?_ GE161.out) | exact HB.out)) hb)
     clear BK161
     clear HB
     have BK161 := n0_
     have HB := n1_
     clear n0_ n1_
     (try clear hb)
     (try clear hb2)
     (try clear hk)
     (try clear hi)
     refine hK.out _ _ ⟨((HB.out.cell (World.block_lt_of_cell? w _ hw167_0)).trans hw167_0), ((HB.out.cell (World.block_lt_of_cell? w _ hw167_1)).trans hw167_1), ((HB.out.cell (World.block_lt_of_cell? w _ hw168_0)).trans hw168_0), ((HB.out.cell (World.block_lt_of_cell? w _ hw168_1)).trans hw168_1)⟩ (fun hHeld => ?_)
     clear hK K
     refine norm_ (a' := ?_) ?_ ?_
     rotate_left
     ·
      show Act.put _ (some 53) _ = _
      simp only [Act.put, List.setIfInBounds_toArray, List.set_cons_zero, List.set_cons_succ, i64_w, i32_w]
      rfl
     refine one_ (i := 19) (N := none) #[true, true, true, true, true, true, true, true, true, true, true, true, true, true, true, true, true, true, true, true] rfl rfl (one_of HT_.out (by kernel_rfl)) (by decide) (fun K hK => ?_)
     have hs15 : w14.cell? ⟨gb161, 0, none⟩ = some (.int .i64 0) := (blk_cell BK161.out 0).trans rfl
     have hfs15 := blk_frozen BK161.out 0
     have hs16 : w14.cell? ⟨gb161, 1, none⟩ = some (.int .i64 0) := (blk_cell BK161.out 1).trans rfl
     have hfs16 := blk_frozen BK161.out 1
     refine skip_ (w1 := ?_) (by rfl) rfl ?_ ?_
     rotate_left
     ·
      go_simp
      rfl
     refine hK.out _ _ ⟨((cell_far (p := ⟨gb161, _, none⟩) (by first | exact Nat.ne_of_lt (Nat.lt_of_lt_of_le (by have := World.block_lt_of_cell? _ _ hw167_0; first | rwa [add_block] at this | exact this) GW161.out) | (rw [add_block]; exact Nat.ne_of_lt (Nat.lt_of_lt_of_le (by have := World.block_lt_of_cell? _ _ hw167_0; first | rwa [add_block] at this | exact this) GW161.out)) | (show (Addr.add _ _).block ≠ _; rw [add_block]; exact Nat.ne_of_lt (Nat.lt_of_lt_of_le (by have := World.block_lt_of_cell? _ _ hw167_0; first | rwa [add_block] at this | exact this) GW161.out)) | (dsimp only; exact Nat.ne_of_lt (Nat.lt_of_lt_of_le (by have := World.block_lt_of_cell? _ _ hw167_0; first | rwa [add_block] at this | exact this) GW161.out))) _).trans (((cell_far (p := ⟨gb161, _, none⟩) (by first | exact Nat.ne_of_lt (Nat.lt_of_lt_of_le (by have := World.block_lt_of_cell? _ _ hw167_0; first | rwa [add_block] at this | exact this) GW161.out) | (rw [add_block]; exact Nat.ne_of_lt (Nat.lt_of_lt_of_le (by have := World.block_lt_of_cell? _ _ hw167_0; first | rwa [add_block] at this | exact this) GW161.out)) | (show (Addr.add _ _).block ≠ _; rw [add_block]; exact Nat.ne_of_lt (Nat.lt_of_lt_of_le (by have := World.block_lt_of_cell? _ _ hw167_0; first | rwa [add_block] at this | exact this) GW161.out)) | (dsimp only; exact Nat.ne_of_lt (Nat.lt_of_lt_of_le (by have := World.block_lt_of_cell? _ _ hw167_0; first | rwa [add_block] at this | exact this) GW161.out))) _).trans (hHeld.1)))), ((cell_far (p := ⟨gb161, _, none⟩) (by first | exact Nat.ne_of_lt (Nat.lt_of_lt_of_le (by have := World.block_lt_of_cell? _ _ hw167_1; first | rwa [add_block] at this | exact this) GW161.out) | (rw [add_block]; exact Nat.ne_of_lt (Nat.lt_of_lt_of_le (by have := World.block_lt_of_cell? _ _ hw167_1; first | rwa [add_block] at this | exact this) GW161.out)) | (show (Addr.add _ _).block ≠ _; rw [add_block]; exact Nat.ne_of_lt (Nat.lt_of_lt_of_le (by have := World.block_lt_of_cell? _ _ hw167_1; first | rwa [add_block] at this | exact this) GW161.out)) | (dsimp only; exact Nat.ne_of_lt (Nat.lt_of_lt_of_le (by have := World.block_lt_of_cell? _ _ hw167_1; first | rwa [add_block] at this | exact this) GW161.out))) _).trans (((cell_far (p := ⟨gb161, _, none⟩) (by first | exact Nat.ne_of_lt (Nat.lt_of_lt_of_le (by have := World.block_lt_of_cell? _ _ hw167_1; first | rwa [add_block] at this | exact this) GW161.out) | (rw [add_block]; exact Nat.ne_of_lt (Nat.lt_of_lt_of_le (by have := World.block_lt_of_cell? _ _ hw167_1; first | rwa [add_block] at this | exact this) GW161.out)) | (show (Addr.add _ _).block ≠ _; rw [add_block]; exact Nat.ne_of_lt (Nat.lt_of_lt_of_le (by have := World.block_lt_of_cell? _ _ hw167_1; first | rwa [add_block] at this | exact this) GW161.out)) | (dsimp only; exact Nat.ne_of_lt (Nat.lt_of_lt_of_le (by have := World.block_lt_of_cell? _ _ hw167_1; first | rwa [add_block] at this | exact this) GW161.out))) _).trans (hHeld.2.1)))), ((cell_far (p := ⟨gb161, _, none⟩) (by first | exact Nat.ne_of_lt (Nat.lt_of_lt_of_le (by have := World.block_lt_of_cell? _ _ hw168_0; first | rwa [add_block] at this | exact this) GW161.out) | (rw [add_block]; exact Nat.ne_of_lt (Nat.lt_of_lt_of_le (by have := World.block_lt_of_cell? _ _ hw168_0; first | rwa [add_block] at this | exact this) GW161.out)) | (show (Addr.add _ _).block ≠ _; rw [add_block]; exact Nat.ne_of_lt (Nat.lt_of_lt_of_le (by have := World.block_lt_of_cell? _ _ hw168_0; first | rwa [add_block] at this | exact this) GW161.out)) | (dsimp only; exact Nat.ne_of_lt (Nat.lt_of_lt_of_le (by have := World.block_lt_of_cell? _ _ hw168_0; first | rwa [add_block] at this | exact this) GW161.out))) _).trans (((cell_far (p := ⟨gb161, _, none⟩) (by first | exact Nat.ne_of_lt (Nat.lt_of_lt_of_le (by have := World.block_lt_of_cell? _ _ hw168_0; first | rwa [add_block] at this | exact this) GW161.out) | (rw [add_block]; exact Nat.ne_of_lt (Nat.lt_of_lt_of_le (by have := World.block_lt_of_cell? _ _ hw168_0; first | rwa [add_block] at this | exact this) GW161.out)) | (show (Addr.add _ _).block ≠ _; rw [add_block]; exact Nat.ne_of_lt (Nat.lt_of_lt_of_le (by have := World.block_lt_of_cell? _ _ hw168_0; first | rwa [add_block] at this | exact this) GW161.out)) | (dsimp only; exact Nat.ne_of_lt (Nat.lt_of_lt_of_le (by have := World.block_lt_of_cell? _ _ hw168_0; first | rwa [add_block] at this | exact this) GW161.out))) _).trans (hHeld.2.2.1)))), ((cell_far (p := ⟨gb161, _, none⟩) (by first | exact Nat.ne_of_lt (Nat.lt_of_lt_of_le (by have := World.block_lt_of_cell? _ _ hw168_1; first | rwa [add_block] at this | exact this) GW161.out) | (rw [add_block]; exact Nat.ne_of_lt (Nat.lt_of_lt_of_le (by have := World.block_lt_of_cell? _ _ hw168_1; first | rwa [add_block] at this | exact this) GW161.out)) | (show (Addr.add _ _).block ≠ _; rw [add_block]; exact Nat.ne_of_lt (Nat.lt_of_lt_of_le (by have := World.block_lt_of_cell? _ _ hw168_1; first | rwa [add_block] at this | exact this) GW161.out)) | (dsimp only; exact Nat.ne_of_lt (Nat.lt_of_lt_of_le (by have := World.block_lt_of_cell? _ _ hw168_1; first | rwa [add_block] at this | exact this) GW161.out))) _).trans (((cell_far (p := ⟨gb161, _, none⟩) (by first | exact Nat.ne_of_lt (Nat.lt_of_lt_of_le (by have := World.block_lt_of_cell? _ _ hw168_1; first | rwa [add_block] at this | exact this) GW161.out) | (rw [add_block]; exact Nat.ne_of_lt (Nat.lt_of_lt_of_le (by have := World.block_lt_of_cell? _ _ hw168_1; first | rwa [add_block] at this | exact this) GW161.out)) | (show (Addr.add _ _).block ≠ _; rw [add_block]; exact Nat.ne_of_lt (Nat.lt_of_lt_of_le (by have := World.block_lt_of_cell? _ _ hw168_1; first | rwa [add_block] at this | exact this) GW161.out)) | (dsimp only; exact Nat.ne_of_lt (Nat.lt_of_lt_of_le (by have := World.block_lt_of_cell? _ _ hw168_1; first | rwa [add_block] at this | exact this) GW161.out))) _).trans (hHeld.2.2.2))))⟩ (fun hHeld => ?_)
     clear hK K
     refine done_ (done_of HT_.out (by kernel_rfl)) ?_
     try go_wp2
     refine bodyPost_ret (results_cell_row rfl _ _ gb161 25 #[.int .i64 t169, .int .i64 t170] (0, 0) _ rfl (by (with_reducible repeat (first | refine blk_drewN ?_ _ | refine blk_drew ?_ | refine blk_alloc ?_ _)); refine blk_put (cs := #[.int .i64 t169, .int .i64 0]) ?_ 1 _ rfl; (with_reducible repeat (first | refine blk_drewN ?_ _ | refine blk_drew ?_ | refine blk_alloc ?_ _)); refine blk_put (cs := #[.int .i64 0, .int .i64 0]) ?_ 0 _ rfl; (with_reducible repeat (first | refine blk_drewN ?_ _ | refine blk_drew ?_ | refine blk_alloc ?_ _)); exact BK161.out) Tryd.underlying25 rfl (by kernel_rfl)) rfl ?_
     exact ⟨by first | rfl | (simp [errW_none, errW_some] <;> rfl) | (simp only [← hji4]; first | rfl | (simp [errW_none, errW_some] <;> rfl)) | (simp [*, errW_none, errW_some] <;> rfl), by repeat (first | (with_reducible first | exact HB.out | apply below_alloc | apply pw_below_drewN | apply below_drew1 | refine below_set ?_ GE161.out) | exact HB.out)⟩
    ·
     rw [if_neg c8] at H
     exact absurd H (by simp)
   ·
    rw [if_neg c7] at H
    exact absurd H (by simp)
  ·
   rw [if_neg c6] at H
   exact absurd H (by simp)
 ·
  rw [if_neg c5] at H
  exact absurd H (by simp)
def ref_Exact.f (k : Nat) (l0 : List (S57)) (a1 : Int) : Option (Int × Int × Int) := (ref_Valid.f k l0).bind fun t172 => (if t172 = true then ((ref_In.f l0 a1).bind fun t173 => (if t173 = true then ((ref_at.f k l0 a1).bind fun bt174 => (some (bt174.1, bt174.2, 0))) else (some (0, 0, 1)))) else (some (0, 0, 10)))
def ref_High.f (k : Nat) (l0 : List (S57)) (a1 : Int) : Option (Int × Int) := (ref_Exact.f k l0 a1).bind fun bt180 => (if bt180.2.2 = 0 then (if bt180.2.1 = 0 then (none) else (some (wrap64 (Int.tdiv (wrap64 ((wrap64 (bt180.1 + bt180.2.1)) - 1)) bt180.2.1), 0))) else (some (0, bt180.2.2)))
end Go.Proofs.YtlhhpogaaneamaaDoor.X
namespace Go.Proofs.YtlhhpogaaneamaaDoor.X
open Go.RowKit Go.Proofs.YtlhhpogaaneamaaDoorW.PrintWords Go.Proofs.YtlhhpogaaneamaaDoorW.PrintLast Go.Proofs.YtlhhpogaaneamaaDoorW.PrintMore
attribute [local go_sem] max2_int min2_int max_two min_two
set_option linter.unusedVariables false
set_option linter.unusedSimpArgs false
def ref_Last.l0 : Nat → List (S57) → Int → Int → Int → Option (Int × Bool × Int)
 | 0, _, _, _, _ => none
 | k + 1, x0, x1, x7, x8 => if x7 < x8 then ((ref_High.f k x0 (wrap64 (Int.tdiv (wrap64 ((wrap64 (x7 + x8)) + 1)) 2))).bind fun bt206 => (if bt206.1 ≤ x1 then (ref_Last.l0 k x0 x1 (wrap64 (Int.tdiv (wrap64 ((wrap64 (x7 + x8)) + 1)) 2)) x8) else (ref_Last.l0 k x0 x1 x7 (wrap64 ((wrap64 (Int.tdiv (wrap64 ((wrap64 (x7 + x8)) + 1)) 2)) - 1))))) else (some (x7, true, 0))
def ref_Last.f (k : Nat) (l0 : List (S57)) (a1 : Int) : Option (Int × Bool × Int) := (ref_Valid.f k l0).bind fun t202 => (if t202 = true then (if 0 < (l0.length : Int) then (if a1 < ((rd_T57 l0 0).f1) then (some (0, false, 0)) else ((ref_From.f l0).bind fun t204 => ((ref_To.f l0).bind fun t205 => (ref_Last.l0 k l0 a1 t204 t205)))) else (none)) else (some (0, false, 10)))
mutual
def ref_above.l0 : Nat → List (S57) → List (S57) → List (S57) → Int → Int → Int → Option (Bool)
 | 0, _, _, _, _, _, _ => none
 | k + 1, x0, x1, x2, x7, x8, x9 => if x9 ≤ (x2.length : Int) then (if x9 = (x2.length : Int) then (ref_above.j1 k x0 x1 x2 x7 x8 x9 x8) else (ref_above.j1 k x0 x1 x2 x7 x8 x9 x7)) else (some false)
def ref_above.j1 : Nat → List (S57) → List (S57) → List (S57) → Int → Int → Int → Int → Option (Bool)
 | 0, _, _, _, _, _, _, _ => none
 | k + 1, x0, x1, x2, x7, x8, x9, x10 => if x9 ≥ 0 then (ref_above.j2 k x0 x1 x2 x7 x8 x9 x10 (decide (x9 < (x2.length : Int)))) else (ref_above.j2 k x0 x1 x2 x7 x8 x9 x10 false)
def ref_above.j2 : Nat → List (S57) → List (S57) → List (S57) → Int → Int → Int → Int → Bool → Option (Bool)
 | 0, _, _, _, _, _, _, _, _ => none
 | k + 1, x0, x1, x2, x7, x8, x9, x10, x40 => if x40 = true then (if 0 ≤ x9 then (if x9 < (x2.length : Int) then (ref_above.j3 k x0 x1 x2 x7 x8 x9 ((rd_T57 x2 x9).f0)) else (none)) else (none)) else (ref_above.j3 k x0 x1 x2 x7 x8 x9 x10)
def ref_above.j3 : Nat → List (S57) → List (S57) → List (S57) → Int → Int → Int → Int → Option (Bool)
 | 0, _, _, _, _, _, _, _ => none
 | k + 1, x0, x1, x2, x7, x8, x9, x10 => if x10 ≥ x7 then (if x10 ≤ x8 then ((ref_at.f k x0 x10).bind fun bt213 => ((ref_at.f k x1 x10).bind fun bt215 => ((ref_Order.f k bt213.1 bt213.2 bt215.1 bt215.2).bind fun t217 => (ref_above.j4 k x0 x1 x2 x7 x8 x9 (decide (t217 > 0)))))) else (ref_above.j4 k x0 x1 x2 x7 x8 x9 false)) else (ref_above.j4 k x0 x1 x2 x7 x8 x9 false)
def ref_above.j4 : Nat → List (S57) → List (S57) → List (S57) → Int → Int → Int → Bool → Option (Bool)
 | 0, _, _, _, _, _, _, _ => none
 | k + 1, x0, x1, x2, x7, x8, x9, x63 => if x63 = true then (some true) else (ref_above.l0 k x0 x1 x2 x7 x8 (wrap64 (x9 + 1)))
end
def ref_above.f (k : Nat) (l0 : List (S57)) (l1 : List (S57)) (l2 : List (S57)) : Option (Bool) := (ref_From.f l0).bind fun t208 => ((ref_From.f l1).bind fun t209 => ((ref_To.f l0).bind fun t210 => ((ref_To.f l1).bind fun t211 => (ref_above.l0 k l0 l1 l2 (mx t208 t209) (mn t210 t211) (-1)))))
set_option maxHeartbeats 8000000 in
set_option maxRecDepth 100000 in
theorem ref_above.calls (k : Nat) (A0 : Option Addr) (c0 : Nat) (l0 : List (S57)) (A1 : Option Addr) (c1 : Nat) (l1 : List (S57)) (A2 : Option Addr) (c2 : Nat) (l2 : List (S57)) (r : Bool) (w : World) (hr0 : Kd.C k57 w A0 l0.length l0) (hc0 : l0.length ≤ c0) (hr1 : Kd.C k57 w A1 l1.length l1) (hc1 : l1.length ≤ c1) (hr2 : Kd.C k57 w A2 l2.length l2) (hc2 : l2.length ≤ c2) (h : ref_above.f k l0 l1 l2 = some r) :
  Calls Tryd.prog 84 #[.slice A0 l0.length c0, .slice A1 l1.length c1, .slice A2 l2.length c2] w fun e w' => e = .returned (.bool r) ∧ Below w.heap.size w w' := by
 have HR0 := Aside0.mk hr0
 have HC0 := Aside0.mk hc0
 clear hr0 hc0
 have HR1 := Aside0.mk hr1
 have HC1 := Aside0.mk hc1
 clear hr1 hc1
 have HR2 := Aside0.mk hr2
 have HC2 := Aside0.mk hc2
 clear hr2 hc2
 have HB := Aside0.mk (Below.refl w.heap.size w)
 have H : ((ref_From.f l0).bind fun t208 => ((ref_From.f l1).bind fun t209 => ((ref_To.f l0).bind fun t210 => ((ref_To.f l1).bind fun t211 => (ref_above.l0 k l0 l1 l2 (mx t208 t209) (mn t210 t211) (-1)))))) = some r := h
 clear h
 replace H := Option.bind_eq_some_iff.mp H
 obtain ⟨t208, A40, H⟩ := H
 replace H : ((ref_From.f l1).bind fun t209 => ((ref_To.f l0).bind fun t210 => ((ref_To.f l1).bind fun t211 => (ref_above.l0 k l0 l1 l2 (mx t208 t209) (mn t210 t211) (-1))))) = some r := H
 have A4 := Aside0.mk A40
 clear A40
 replace H := Option.bind_eq_some_iff.mp H
 obtain ⟨t209, A50, H⟩ := H
 replace H : ((ref_To.f l0).bind fun t210 => ((ref_To.f l1).bind fun t211 => (ref_above.l0 k l0 l1 l2 (mx t208 t209) (mn t210 t211) (-1)))) = some r := H
 have A5 := Aside0.mk A50
 clear A50
 obtain ⟨ji6, hji6⟩ : ∃ j_ : Int, (mx t208 t209) = j_ := ⟨_, rfl⟩
 replace H : ((ref_To.f l0).bind fun t210 => ((ref_To.f l1).bind fun t211 => (ref_above.l0 k l0 l1 l2 ji6 (mn t210 t211) (-1)))) = some r := by first | (rw [hji6] at H; exact H) | (simp only [hji6] at H ⊢; exact H)
 (try rw [hji6] at A4)
 (try rw [hji6] at A5)
 have hji6_ : (if t208 < t209 then t209 else t208) = ji6 := hji6
 replace H := Option.bind_eq_some_iff.mp H
 obtain ⟨t210, A70, H⟩ := H
 replace H : ((ref_To.f l1).bind fun t211 => (ref_above.l0 k l0 l1 l2 ji6 (mn t210 t211) (-1))) = some r := H
 have A7 := Aside0.mk A70
 clear A70
 replace H := Option.bind_eq_some_iff.mp H
 obtain ⟨t211, A80, H⟩ := H
 replace H : (ref_above.l0 k l0 l1 l2 ji6 (mn t210 t211) (-1)) = some r := H
 have A8 := Aside0.mk A80
 clear A80
 obtain ⟨ji9, hji9⟩ : ∃ j_ : Int, (mn t210 t211) = j_ := ⟨_, rfl⟩
 replace H : (ref_above.l0 k l0 l1 l2 ji6 ji9 (-1)) = some r := by first | (rw [hji9] at H; exact H) | (simp only [hji9] at H ⊢; exact H)
 (try rw [hji9] at A4)
 (try rw [hji9] at A5)
 (try rw [hji9] at A7)
 (try rw [hji9] at A8)
 have hji9_ : (if t211 < t210 then t211 else t210) = ji9 := hji9
 have H' := Aside0.mk H
 clear H
 go_enter Tryd.func84, Tryd.ntmps84
 go_wp2_with (first | ((with_reducible refine gate_callee (f := 47) rfl ?_); refine goesL_ (some 12) rfl rfl Tryd.func47 (by kernel_rfl) rfl #[.slice A0 l0.length c0] rfl (by (try simp only [List.map_toArray, List.map_cons, List.map_nil]); first | done | rfl | (simp only [List.length_drop, List.length_take]; rfl)) ?_; (with_reducible refine (ref_From.calls _ _ l0 t208 _ ?side1 ?side2 A4.out).mono ?_); (case side1 => repeat (first | exact HR0.out | (with_reducible refine Kd.C_alloc ?_ _) | (with_reducible refine Kd.C_drewN ?_ _) | (with_reducible refine Kd.C_drew ?_))); (case side2 => exact HC0.out); rintro e w' ⟨rfl, ⟨nd, rfl⟩⟩; refine ⟨_, rfl, ?_⟩) | ((with_reducible refine gate_callee (f := 47) rfl ?_); refine goesL_ (some 14) rfl rfl Tryd.func47 (by kernel_rfl) rfl #[.slice A1 l1.length c1] rfl (by (try simp only [List.map_toArray, List.map_cons, List.map_nil]); first | done | rfl | (simp only [List.length_drop, List.length_take]; rfl)) ?_; (with_reducible refine (ref_From.calls _ _ l1 t209 _ ?side1 ?side2 A5.out).mono ?_); (case side1 => repeat (first | exact HR1.out | (with_reducible refine Kd.C_alloc ?_ _) | (with_reducible refine Kd.C_drewN ?_ _) | (with_reducible refine Kd.C_drew ?_))); (case side2 => exact HC1.out); rintro e w' ⟨rfl, ⟨nd, rfl⟩⟩; refine ⟨_, rfl, ?_⟩) | ((with_reducible refine gate_callee (f := 48) rfl ?_); refine goesL_ (some 17) rfl rfl Tryd.func48 (by kernel_rfl) rfl #[.slice A0 l0.length c0] rfl (by (try simp only [List.map_toArray, List.map_cons, List.map_nil]); first | done | rfl | (simp only [List.length_drop, List.length_take]; rfl)) ?_; (with_reducible refine (ref_To.calls _ _ l0 t210 _ ?side1 ?side2 A7.out).mono ?_); (case side1 => repeat (first | exact HR0.out | (with_reducible refine Kd.C_alloc ?_ _) | (with_reducible refine Kd.C_drewN ?_ _) | (with_reducible refine Kd.C_drew ?_))); (case side2 => exact HC0.out); rintro e w' ⟨rfl, ⟨nd, rfl⟩⟩; refine ⟨_, rfl, ?_⟩) | ((with_reducible refine gate_callee (f := 48) rfl ?_); refine goesL_ (some 19) rfl rfl Tryd.func48 (by kernel_rfl) rfl #[.slice A1 l1.length c1] rfl (by (try simp only [List.map_toArray, List.map_cons, List.map_nil]); first | done | rfl | (simp only [List.length_drop, List.length_take]; rfl)) ?_; (with_reducible refine (ref_To.calls _ _ l1 t211 _ ?side1 ?side2 A8.out).mono ?_); (case side1 => repeat (first | exact HR1.out | (with_reducible refine Kd.C_alloc ?_ _) | (with_reducible refine Kd.C_drewN ?_ _) | (with_reducible refine Kd.C_drew ?_))); (case side2 => exact HC1.out); rintro e w' ⟨rfl, ⟨nd, rfl⟩⟩; refine ⟨_, rfl, ?_⟩))
 go_loopg [9] k (fun kq v9 w' => ∃ (x9_1 : Int), v9 = .int .i64 x9_1 ∧ Aside0 (ref_above.l0 kq l0 l1 l2 ji6 ji9 x9_1 = some r) ∧ Aside0 (kq ≤ k) ∧ Aside0 (Below w.heap.size w w'))
 case atStart => exact ⟨((-1)), (by first | rfl | (simp; done) | (simp [*]; done)), H', ⟨Nat.le_refl _⟩, ⟨by repeat (first | (with_reducible first | exact HB.out | apply below_alloc | apply pw_below_drewN | apply below_drew1) | exact HB.out)⟩⟩
 case round =>
  clear H'
  try clear c1
  try clear c2
  try clear p2
  try clear c4
  try clear c8
  obtain ⟨x9_1, rfl, HA, HK1, HB⟩ := hrel
  cases gk with
  | zero => exact absurd HA.out (by simp [ref_above.l0])
  | succ k1 =>
   have H := HA.out
   clear HA
   simp only [ref_above.l0] at H
   by_cases c10 : x9_1 ≤ (l2.length : Int)
   ·
    rw [if_pos c10] at H
    have c10b0 : decide (x9_1 ≤ (l2.length : Int)) = true := decide_eq_true c10
    clear c10
    have HC11 := Aside0.mk H
    clear H
    go_upto_if 31 with (fail)
    go_cut [10] (fun v10 wc => ∃ (kq : Nat) (x10_10 : Int), v10 = .int .i64 x10_10 ∧ Aside0 (ref_above.j1 kq l0 l1 l2 ji6 ji9 x9_1 x10_10 = some r) ∧ Aside0 (kq ≤ k1) ∧ Aside0 (Below w.heap.size w wc))
    case first =>
     have H := HC11.out
     clear HC11
     by_cases c12 : x9_1 = (l2.length : Int)
     ·
      rw [if_pos c12] at H
      have c12b0 : (x9_1 == (l2.length : Int)) = true := beq_iff_eq.mpr c12
      have c12b1 : (x9_1 != (l2.length : Int)) = false := bne_eq_false_iff_eq.mpr c12
      clear c12
      (first | rw [c12b0] | (simp only [i64_w, i32_w]; rw [c12b0]) | skip)
      have H' := Aside0.mk H
      clear H
      go_wp2
      go_meet
      case rel => exact ⟨_, (ji9), (by first | rfl | (simp; done) | (simp only [← hji9] <;> (first | rfl | simp)) | (simp [*]; done)), H', ⟨by have := HK1.out; first | omega | exact Nat.le_refl _⟩, ⟨by repeat (first | (with_reducible first | exact HB.out | apply below_alloc | apply pw_below_drewN | apply below_drew1) | exact HB.out)⟩⟩
     ·
      rw [if_neg c12] at H
      have c12b0 : (x9_1 == (l2.length : Int)) = false := beq_eq_false_iff_ne.mpr c12
      have c12b1 : (x9_1 != (l2.length : Int)) = true := bne_iff_ne.mpr c12
      (first | rw [c12b0] | (simp only [i64_w, i32_w]; rw [c12b0]) | skip)
      have H' := Aside0.mk H
      clear H
      go_wp2
      go_meet
      case rel => exact ⟨_, (ji6), (by first | rfl | (simp; done) | (simp only [← hji6] <;> (first | rfl | simp)) | (simp [*]; done)), H', ⟨by have := HK1.out; first | omega | exact Nat.le_refl _⟩, ⟨by repeat (first | (with_reducible first | exact HB.out | apply below_alloc | apply pw_below_drewN | apply below_drew1) | exact HB.out)⟩⟩
    case rest =>
     clear HC11
     try clear c1
     try clear c2
     try clear p2
     try clear c4
     try clear c8
     try clear c10
     try clear c10b0
     try clear c12
     try clear c12b0
     try clear c12b1
     try clear p2
     obtain ⟨kq, x10_10, rfl, HA, HJ10, HB⟩ := hcut
     cases kq with
     | zero => exact absurd HA.out (by simp [ref_above.j1])
     | succ kj10 =>
      have H := HA.out
      clear HA
      simp only [ref_above.j1] at H
      have HC13 := Aside0.mk H
      clear H
      go_upto_region 9 with (fail)
      go_cut [40] (fun v40 wc => ∃ (kq : Nat) (x40_12 : Bool), v40 = .bool x40_12 ∧ Aside0 (ref_above.j2 kq l0 l1 l2 ji6 ji9 x9_1 x10_10 x40_12 = some r) ∧ Aside0 (kq ≤ kj10) ∧ Aside0 (Below w.heap.size w wc))
      case first =>
       have H := HC13.out
       clear HC13
       by_cases c14 : x9_1 ≥ 0
       ·
        rw [if_pos c14] at H
        have c14b0 : decide (0 ≤ x9_1) = true := decide_eq_true c14
        clear c14
        (first | rw [c14b0] | (simp only [i64_w, i32_w]; rw [c14b0]) | skip)
        have H' := Aside0.mk H
        clear H
        go_wp2
        go_meet
        case rel => exact ⟨_, (decide (x9_1 < (l2.length : Int))), (by first | rfl | (simp; done) | (simp [*]; done)), H', ⟨by have := HK1.out; have := HJ10.out; first | omega | exact Nat.le_refl _⟩, ⟨by repeat (first | (with_reducible first | exact HB.out | apply below_alloc | apply pw_below_drewN | apply below_drew1) | exact HB.out)⟩⟩
       ·
        rw [if_neg c14] at H
        have c14b0 : decide (0 ≤ x9_1) = false := decide_eq_false c14
        clear c14
        (first | rw [c14b0] | (simp only [i64_w, i32_w]; rw [c14b0]) | skip)
        have H' := Aside0.mk H
        clear H
        go_wp2
        go_meet
        case rel => exact ⟨_, (false), (by first | rfl | (simp; done) | (simp [*]; done)), H', ⟨by have := HK1.out; have := HJ10.out; first | omega | exact Nat.le_refl _⟩, ⟨by repeat (first | (with_reducible first | exact HB.out | apply below_alloc | apply pw_below_drewN | apply below_drew1) | exact HB.out)⟩⟩
      case rest =>
       clear HC13
       try clear c1
       try clear c2
       try clear p2
       try clear c4
       try clear c8
       try clear c10
       try clear c10b0
       try clear c12
       try clear c12b0
       try clear c12b1
       try clear c14
       try clear c14b0
       try clear p2
       obtain ⟨kq, x40_12, rfl, HA, HJ12, HB⟩ := hcut
       cases kq with
       | zero => exact absurd HA.out (by simp [ref_above.j2])
       | succ kj12 =>
        have H := HA.out
        clear HA
        simp only [ref_above.j2] at H
        have HC15 := Aside0.mk H
        clear H
        go_upto_if 40 with (fail)
        go_cut [10] (fun v10 wc => ∃ (kq : Nat) (x10_14 : Int), v10 = .int .i64 x10_14 ∧ Aside0 (ref_above.j3 kq l0 l1 l2 ji6 ji9 x9_1 x10_14 = some r) ∧ Aside0 (kq ≤ kj12) ∧ Aside0 (Below w.heap.size w wc))
        case first =>
         have H := HC15.out
         clear HC15
         by_cases c16 : x40_12 = true
         ·
          subst c16
          have H1 : (if 0 ≤ x9_1 then (if x9_1 < (l2.length : Int) then (ref_above.j3 kj12 l0 l1 l2 ji6 ji9 x9_1 ((rd_T57 l2 x9_1).f0)) else (none)) else (none)) = some r := by rw [if_pos rfl] at H; exact H
          clear H
          have H := H1
          clear H1
          by_cases c17 : 0 ≤ x9_1
          ·
           rw [if_pos c17] at H
           have c17b0 : decide (0 ≤ x9_1) = true := decide_eq_true c17
           clear c17
           (first | rw [c17b0] | (simp only [i64_w, i32_w]; rw [c17b0]) | skip)
           by_cases c18 : x9_1 < (l2.length : Int)
           ·
            rw [if_pos c18] at H
            have c18b0 : decide (x9_1 < (l2.length : Int)) = true := decide_eq_true c18
            clear c18
            have H' := Aside0.mk H
            clear H
            have p212 : 0 ≤ (x9_1 : Int) := of_decide_eq_true (by first | (with_reducible assumption) | assumption)
            have q212 : x9_1 < (l2.length : Int) := of_decide_eq_true (by first | (with_reducible assumption) | assumption)
            obtain ⟨ad212, e212, hx212_0, hx212_1⟩ := at_T57 HR2.out x9_1 p212 q212
            cases e212
            replace hx212_0 := (HB.out.cell (World.block_lt_of_cell? w _ hx212_0)).trans hx212_0
            replace hx212_1 := (HB.out.cell (World.block_lt_of_cell? w _ hx212_1)).trans hx212_1
            replace p212 := eq_true p212
            replace q212 := eq_true q212
            go_wp2
            go_meet
            case rel => exact ⟨_, ((rd_T57 l2 x9_1).f0), (by first | rfl | (simp; done) | (simp [*]; done)), H', ⟨by have := HK1.out; have := HJ10.out; have := HJ12.out; first | omega | exact Nat.le_refl _⟩, ⟨by repeat (first | (with_reducible first | exact HB.out | apply below_alloc | apply pw_below_drewN | apply below_drew1) | exact HB.out)⟩⟩
           ·
            rw [if_neg c18] at H
            exact absurd H (by simp)
          ·
           rw [if_neg c17] at H
           exact absurd H (by simp)
         ·
          replace c16 := Bool.eq_false_iff.mpr c16
          subst c16
          have H1 : (ref_above.j3 kj12 l0 l1 l2 ji6 ji9 x9_1 x10_10) = some r := by rw [if_neg (show ¬ (false = true) by decide)] at H; exact H
          clear H
          have H := H1
          clear H1
          have H' := Aside0.mk H
          clear H
          go_wp2
          go_meet
          case rel => exact ⟨_, (x10_10), (by first | rfl | (simp; done) | (simp [*]; done)), H', ⟨by have := HK1.out; have := HJ10.out; have := HJ12.out; first | omega | exact Nat.le_refl _⟩, ⟨by repeat (first | (with_reducible first | exact HB.out | apply below_alloc | apply pw_below_drewN | apply below_drew1) | exact HB.out)⟩⟩
        case rest =>
         clear HC15
         try clear c1
         try clear c2
         try clear p2
         try clear q2
         try clear hx2
         try clear c4
         try clear c8
         try clear c10
         try clear c10b0
         try clear c12
         try clear c12b0
         try clear c12b1
         try clear c14
         try clear c14b0
         try clear c16
         try clear c17
         try clear c17b0
         try clear c18
         try clear c18b0
         try clear hx212_0
         try clear hx212_1
         try clear p2
         try clear p212
         try clear q212
         obtain ⟨kq, x10_14, rfl, HA, HJ14, HB⟩ := hcut
         cases kq with
         | zero => exact absurd HA.out (by simp [ref_above.j3])
         | succ kj14 =>
          have H := HA.out
          clear HA
          simp only [ref_above.j3] at H
          have HC19 := Aside0.mk H
          clear H
          go_upto_region 11 with (fail)
          go_cut [63] (fun v63 wc => ∃ (kq : Nat) (x63_18 : Bool), v63 = .bool x63_18 ∧ Aside0 (ref_above.j4 kq l0 l1 l2 ji6 ji9 x9_1 x63_18 = some r) ∧ Aside0 (kq ≤ kj14) ∧ Aside0 (Below w.heap.size w wc))
          case first =>
           have H := HC19.out
           clear HC19
           by_cases c20 : x10_14 ≥ ji6
           ·
            rw [if_pos c20] at H
            have c20b0 : decide (ji6 ≤ x10_14) = true := decide_eq_true c20
            clear c20
            (first | rw [c20b0] | (simp only [i64_w, i32_w]; rw [c20b0]) | skip)
            by_cases c21 : x10_14 ≤ ji9
            ·
             rw [if_pos c21] at H
             have c21b0 : decide (x10_14 ≤ ji9) = true := decide_eq_true c21
             clear c21
             replace H := Option.bind_eq_some_iff.mp H
             obtain ⟨⟨t213, t214⟩, A220, H⟩ := H
             replace H : ((ref_at.f kj14 l1 x10_14).bind fun bt215 => ((ref_Order.f kj14 t213 t214 bt215.1 bt215.2).bind fun t217 => (ref_above.j4 kj14 l0 l1 l2 ji6 ji9 x9_1 (decide (t217 > 0))))) = some r := H
             have A22 := Aside0.mk A220
             clear A220
             replace H := Option.bind_eq_some_iff.mp H
             obtain ⟨⟨t215, t216⟩, A230, H⟩ := H
             replace H : ((ref_Order.f kj14 t213 t214 t215 t216).bind fun t217 => (ref_above.j4 kj14 l0 l1 l2 ji6 ji9 x9_1 (decide (t217 > 0)))) = some r := H
             have A23 := Aside0.mk A230
             clear A230
             replace H := Option.bind_eq_some_iff.mp H
             obtain ⟨t217, A240, H⟩ := H
             replace H : (ref_above.j4 kj14 l0 l1 l2 ji6 ji9 x9_1 (decide (t217 > 0))) = some r := H
             have A24 := Aside0.mk A240
             clear A240
             have H' := Aside0.mk H
             clear H
             go_wp2_with (first | (go_at_call 68; (with_reducible refine (ref_at.calls kj14 _ _ l0 x10_14 t213 t214 _ ?side1 ?side2 A22.out).mono ?_); (case side1 => repeat (first | exact (Kd.C_below HR0.out HB.out) | (with_reducible refine Kd.C_alloc ?_ _) | (with_reducible refine Kd.C_drewN ?_ _) | (with_reducible refine Kd.C_drew ?_))); (case side2 => exact HC0.out); rintro e w25 ⟨rfl, hb⟩; have n0_ := Aside0.mk (below_step (by repeat (first | (with_reducible first | exact HB.out | apply below_alloc | apply pw_below_drewN | apply below_drew1) | exact HB.out)) hb); clear HB; have HB := n0_; clear n0_; (try clear hb); (try clear hb2); (try clear hk); (try clear hi)) | (go_at_call 68; (with_reducible refine (ref_at.calls kj14 _ _ l1 x10_14 t215 t216 _ ?side1 ?side2 A23.out).mono ?_); (case side1 => repeat (first | exact (Kd.C_below HR1.out HB.out) | (with_reducible refine Kd.C_alloc ?_ _) | (with_reducible refine Kd.C_drewN ?_ _) | (with_reducible refine Kd.C_drew ?_))); (case side2 => exact HC1.out); rintro e w26 ⟨rfl, hb⟩; have n0_ := Aside0.mk (below_step (by repeat (first | (with_reducible first | exact HB.out | apply below_alloc | apply pw_below_drewN | apply below_drew1) | exact HB.out)) hb); clear HB; have HB := n0_; clear n0_; (try clear hb); (try clear hb2); (try clear hk); (try clear hi)) | (go_at_call 53; (with_reducible refine (ref_Order.calls kj14 t213 t214 t215 t216 t217 _ A24.out).mono ?_); rintro e w27 ⟨rfl, hb⟩; have n0_ := Aside0.mk (below_step (by repeat (first | (with_reducible first | exact HB.out | apply below_alloc | apply pw_below_drewN | apply below_drew1) | exact HB.out)) hb); clear HB; have HB := n0_; clear n0_; (try clear hb); (try clear hb2); (try clear hk); (try clear hi)))
             go_meet
             case rel => exact ⟨_, (decide (t217 > 0)), (by first | rfl | (simp; done) | (simp [*]; done)), H', ⟨by have := HK1.out; have := HJ10.out; have := HJ12.out; have := HJ14.out; first | omega | exact Nat.le_refl _⟩, ⟨by repeat (first | (with_reducible first | exact HB.out | apply below_alloc | apply pw_below_drewN | apply below_drew1) | exact HB.out)⟩⟩
            ·
             rw [if_neg c21] at H
             have c21b0 : decide (x10_14 ≤ ji9) = false := decide_eq_false c21
             clear c21
             have H' := Aside0.mk H
             clear H
             go_wp2
             go_meet
             case rel => exact ⟨_, (false), (by first | rfl | (simp; done) | (simp [*]; done)), H', ⟨by have := HK1.out; have := HJ10.out; have := HJ12.out; have := HJ14.out; first | omega | exact Nat.le_refl _⟩, ⟨by repeat (first | (with_reducible first | exact HB.out | apply below_alloc | apply pw_below_drewN | apply below_drew1) | exact HB.out)⟩⟩
           ·
            rw [if_neg c20] at H
            have c20b0 : decide (ji6 ≤ x10_14) = false := decide_eq_false c20
            clear c20
            (first | rw [c20b0] | (simp only [i64_w, i32_w]; rw [c20b0]) | skip)
            have H' := Aside0.mk H
            clear H
            go_wp2
            go_meet
            case rel => exact ⟨_, (false), (by first | rfl | (simp; done) | (simp [*]; done)), H', ⟨by have := HK1.out; have := HJ10.out; have := HJ12.out; have := HJ14.out; first | omega | exact Nat.le_refl _⟩, ⟨by repeat (first | (with_reducible first | exact HB.out | apply below_alloc | apply pw_below_drewN | apply below_drew1) | exact HB.out)⟩⟩
          case rest =>
           clear HC19
           try clear c1
           try clear c2
           try clear p2
           try clear q2
           try clear hx2
           try clear c4
           try clear c8
           try clear c10
           try clear c10b0
           try clear c12
           try clear c12b0
           try clear c12b1
           try clear c14
           try clear c14b0
           try clear c16
           try clear c17
           try clear c17b0
           try clear c18
           try clear c18b0
           try clear c20
           try clear c20b0
           try clear c21
           try clear c21b0
           try clear p21
           try clear q21
           try clear hx21
           try clear hx212_0
           try clear hx212_1
           try clear p2
           try clear p212
           try clear q2
           try clear q212
           obtain ⟨kq, x63_18, rfl, HA, HJ18, HB⟩ := hcut
           cases kq with
           | zero => exact absurd HA.out (by simp [ref_above.j4])
           | succ kj18 =>
            have H := HA.out
            clear HA
            simp only [ref_above.j4] at H
            by_cases c28 : x63_18 = true
            ·
             subst c28
             have H1 : (some true) = some r := by rw [if_pos rfl] at H; exact H
             clear H
             have H := H1
             clear H1
             obtain rfl := Option.some.inj H
             go_wp2
             go_ret
             exact ⟨by first | rfl | (simp [errW_none, errW_some] <;> rfl) | (simp only [← hji6, ← hji9]; first | rfl | (simp [errW_none, errW_some] <;> rfl)) | (simp [*, errW_none, errW_some] <;> rfl), by repeat (first | (with_reducible first | exact HB.out | apply below_alloc | apply pw_below_drewN | apply below_drew1) | exact HB.out)⟩
            ·
             replace c28 := Bool.eq_false_iff.mpr c28
             subst c28
             have H1 : (ref_above.l0 kj18 l0 l1 l2 ji6 ji9 (wrap64 (x9_1 + 1))) = some r := by rw [if_neg (show ¬ (false = true) by decide)] at H; exact H
             clear H
             have H := H1
             clear H1
             have H' := Aside0.mk H
             clear H
             go_wp2
             go_roundg kj18
             case measure => have := HK1.out; have := HJ10.out; have := HJ12.out; have := HJ14.out; have := HJ18.out; omega
             case rel => exact ⟨(wrap64 (x9_1 + 1)), (by first | rfl | (simp; done) | (simp [*]; done)), H', ⟨by have := HK1.out; have := HJ10.out; have := HJ12.out; have := HJ14.out; have := HJ18.out; omega⟩, ⟨by repeat (first | (with_reducible first | exact HB.out | apply below_alloc | apply pw_below_drewN | apply below_drew1) | exact HB.out)⟩⟩
   ·
    rw [if_neg c10] at H
    have c10b0 : decide (x9_1 ≤ (l2.length : Int)) = false := decide_eq_false c10
    clear c10
    obtain rfl := Option.some.inj H
    go_wp2
    go_ret
    exact ⟨by first | rfl | (simp [errW_none, errW_some] <;> rfl) | (simp only [← hji6, ← hji9]; first | rfl | (simp [errW_none, errW_some] <;> rfl)) | (simp [*, errW_none, errW_some] <;> rfl), by repeat (first | (with_reducible first | exact HB.out | apply below_alloc | apply pw_below_drewN | apply below_drew1) | exact HB.out)⟩
def ref_Below.j0 : Nat → List (S57) → List (S57) → Bool → Option (Bool × Int)
 | 0, _, _, _ => none
 | k + 1, x0, x1, x13 => if x13 = true then (some (false, 10)) else ((ref_above.f k x0 x1 x0).bind fun t220 => (if t220 = true then (some (false, 0)) else ((ref_above.f k x0 x1 x1).bind fun t221 => (some (!t221, 0)))))
def ref_Below.f (k : Nat) (l0 : List (S57)) (l1 : List (S57)) : Option (Bool × Int) := (ref_Valid.f k l0).bind fun t218 => (if t218 = true then ((ref_Valid.f k l1).bind fun t219 => (ref_Below.j0 k l0 l1 (!t219))) else (ref_Below.j0 k l0 l1 true))
set_option maxHeartbeats 8000000 in
set_option maxRecDepth 100000 in
theorem ref_Below.calls (k : Nat) (A0 : Option Addr) (c0 : Nat) (l0 : List (S57)) (A1 : Option Addr) (c1 : Nat) (l1 : List (S57)) (r1 : Bool) (r2 : Int) (w : World) (hr0 : Kd.C k57 w A0 l0.length l0) (hc0 : l0.length ≤ c0) (hr1 : Kd.C k57 w A1 l1.length l1) (hc1 : l1.length ≤ c1) (h : ref_Below.f k l0 l1 = some (r1, r2)) :
  Calls Tryd.prog 39 #[.slice A0 l0.length c0, .slice A1 l1.length c1] w fun e w' => e = .returned (.tuple #[.bool r1, .int .i64 r2]) ∧ Below w.heap.size w w' := by
 have HR0 := Aside0.mk hr0
 have HC0 := Aside0.mk hc0
 clear hr0 hc0
 have HR1 := Aside0.mk hr1
 have HC1 := Aside0.mk hc1
 clear hr1 hc1
 have HB := Aside0.mk (Below.refl w.heap.size w)
 have H : ((ref_Valid.f k l0).bind fun t218 => (if t218 = true then ((ref_Valid.f k l1).bind fun t219 => (ref_Below.j0 k l0 l1 (!t219))) else (ref_Below.j0 k l0 l1 true))) = some (r1, r2) := h
 clear h
 have HC3 := Aside0.mk H
 clear H
 go_enter Tryd.func39, Tryd.ntmps39
 go_upto_region 1 with (fail)
 go_cut [13] (fun v13 wc => ∃ (kq : Nat) (x13_2 : Bool), v13 = .bool x13_2 ∧ Aside0 (ref_Below.j0 kq l0 l1 x13_2 = some (r1, r2)) ∧ Aside0 (kq ≤ k) ∧ Aside0 (Below w.heap.size w wc))
 case first =>
  have H := HC3.out
  clear HC3
  replace H := Option.bind_eq_some_iff.mp H
  obtain ⟨t218, A40, H⟩ := H
  replace H : (if t218 = true then ((ref_Valid.f k l1).bind fun t219 => (ref_Below.j0 k l0 l1 (!t219))) else (ref_Below.j0 k l0 l1 true)) = some (r1, r2) := H
  have A4 := Aside0.mk A40
  clear A40
  by_cases c5 : t218 = true
  ·
   subst c5
   have H1 : ((ref_Valid.f k l1).bind fun t219 => (ref_Below.j0 k l0 l1 (!t219))) = some (r1, r2) := by rw [if_pos rfl] at H; exact H
   clear H
   have H := H1
   clear H1
   replace H := Option.bind_eq_some_iff.mp H
   obtain ⟨t219, A60, H⟩ := H
   replace H : (ref_Below.j0 k l0 l1 (!t219)) = some (r1, r2) := H
   have A6 := Aside0.mk A60
   clear A60
   have H' := Aside0.mk H
   clear H
   go_wp2_with (first | ((with_reducible refine gate_callee (f := 42) rfl ?_); refine goesL_ (some 7) rfl rfl Tryd.func42 (by kernel_rfl) rfl #[.slice A0 l0.length c0] rfl (by (try simp only [List.map_toArray, List.map_cons, List.map_nil]); first | done | rfl | (simp only [List.length_drop, List.length_take]; rfl)) ?_; (with_reducible refine (ref_Valid.calls k _ _ l0 true _ ?side1 ?side2 A4.out).mono ?_); (case side1 => repeat (first | exact (Kd.C_below HR0.out HB.out) | (with_reducible refine Kd.C_alloc ?_ _) | (with_reducible refine Kd.C_drewN ?_ _) | (with_reducible refine Kd.C_drew ?_))); (case side2 => exact HC0.out); rintro e w' ⟨rfl, ⟨nd, rfl⟩⟩; refine ⟨_, rfl, ?_⟩) | (go_at_call 42; (with_reducible refine (ref_Valid.calls k _ _ l1 t219 _ ?side1 ?side2 A6.out).mono ?_); (case side1 => repeat (first | exact (Kd.C_below HR1.out (by repeat (first | (with_reducible first | exact HB.out | apply below_alloc | apply pw_below_drewN | apply below_drew1) | exact HB.out))) | (with_reducible refine Kd.C_alloc ?_ _) | (with_reducible refine Kd.C_drewN ?_ _) | (with_reducible refine Kd.C_drew ?_))); (case side2 => exact HC1.out); rintro e w' ⟨rfl, ⟨nd, rfl⟩⟩))
   go_meet
   case rel => exact ⟨_, (!t219), (by first | rfl | (simp; done) | (simp [*]; done)), H', ⟨by first | omega | exact Nat.le_refl _⟩, ⟨by repeat (first | (with_reducible first | exact HB.out | apply below_alloc | apply pw_below_drewN | apply below_drew1) | exact HB.out)⟩⟩
  ·
   replace c5 := Bool.eq_false_iff.mpr c5
   subst c5
   have H1 : (ref_Below.j0 k l0 l1 true) = some (r1, r2) := by rw [if_neg (show ¬ (false = true) by decide)] at H; exact H
   clear H
   have H := H1
   clear H1
   have H' := Aside0.mk H
   clear H
   go_wp2_with (first | ((with_reducible refine gate_callee (f := 42) rfl ?_); refine goesL_ (some 7) rfl rfl Tryd.func42 (by kernel_rfl) rfl #[.slice A0 l0.length c0] rfl (by (try simp only [List.map_toArray, List.map_cons, List.map_nil]); first | done | rfl | (simp only [List.length_drop, List.length_take]; rfl)) ?_; (with_reducible refine (ref_Valid.calls k _ _ l0 false _ ?side1 ?side2 A4.out).mono ?_); (case side1 => repeat (first | exact (Kd.C_below HR0.out HB.out) | (with_reducible refine Kd.C_alloc ?_ _) | (with_reducible refine Kd.C_drewN ?_ _) | (with_reducible refine Kd.C_drew ?_))); (case side2 => exact HC0.out); rintro e w' ⟨rfl, ⟨nd, rfl⟩⟩; refine ⟨_, rfl, ?_⟩))
   go_meet
   case rel => exact ⟨_, (true), (by first | rfl | (simp; done) | (simp [*]; done)), H', ⟨by first | omega | exact Nat.le_refl _⟩, ⟨by repeat (first | (with_reducible first | exact HB.out | apply below_alloc | apply pw_below_drewN | apply below_drew1) | exact HB.out)⟩⟩
 case rest =>
  clear HC3
  try clear c1
  try clear p2
  try clear c3
  try clear c4
  try clear c5
  obtain ⟨kq, x13_2, rfl, HA, HJ2, HB⟩ := hcut
  cases kq with
  | zero => exact absurd HA.out (by simp [ref_Below.j0])
  | succ kj2 =>
   have H := HA.out
   clear HA
   simp only [ref_Below.j0] at H
   by_cases c7 : x13_2 = true
   ·
    subst c7
    have H1 : (some (false, 10)) = some (r1, r2) := by rw [if_pos rfl] at H; exact H
    clear H
    have H := H1
    clear H1
    simp only [Option.some.injEq, Prod.mk.injEq] at H
    obtain ⟨rfl, rfl⟩ := H
    go_wp2
    go_ret2
    exact ⟨by first | rfl | (simp [errW_none, errW_some] <;> rfl) | (simp [*, errW_none, errW_some] <;> rfl), by repeat (first | (with_reducible first | exact HB.out | apply below_alloc | apply pw_below_drewN | apply below_drew1) | exact HB.out)⟩
   ·
    replace c7 := Bool.eq_false_iff.mpr c7
    subst c7
    have H1 : ((ref_above.f kj2 l0 l1 l0).bind fun t220 => (if t220 = true then (some (false, 0)) else ((ref_above.f kj2 l0 l1 l1).bind fun t221 => (some (!t221, 0))))) = some (r1, r2) := by rw [if_neg (show ¬ (false = true) by decide)] at H; exact H
    clear H
    have H := H1
    clear H1
    replace H := Option.bind_eq_some_iff.mp H
    obtain ⟨t220, A80, H⟩ := H
    replace H : (if t220 = true then (some (false, 0)) else ((ref_above.f kj2 l0 l1 l1).bind fun t221 => (some (!t221, 0)))) = some (r1, r2) := H
    have A8 := Aside0.mk A80
    clear A80
    by_cases c9 : t220 = true
    ·
     subst c9
     have H1 : (some (false, 0)) = some (r1, r2) := by rw [if_pos rfl] at H; exact H
     clear H
     have H := H1
     clear H1
     simp only [Option.some.injEq, Prod.mk.injEq] at H
     obtain ⟨rfl, rfl⟩ := H
     go_wp2_with (first | ((with_reducible refine gate_callee (f := 84) rfl ?_); refine goesL_ (some 17) rfl rfl Tryd.func84 (by kernel_rfl) rfl #[.slice A0 l0.length c0, .slice A1 l1.length c1, .slice A0 l0.length c0] rfl (by (try simp only [List.map_toArray, List.map_cons, List.map_nil]); first | done | rfl | (simp only [List.length_drop, List.length_take]; rfl)) ?_; (with_reducible refine (ref_above.calls kj2 _ _ l0 _ _ l1 _ _ l0 true _ ?side1 ?side2 ?side3 ?side4 ?side5 ?side6 A8.out).mono ?_); (case side1 => repeat (first | exact (Kd.C_below HR0.out HB.out) | (with_reducible refine Kd.C_alloc ?_ _) | (with_reducible refine Kd.C_drewN ?_ _) | (with_reducible refine Kd.C_drew ?_))); (case side2 => exact HC0.out); (case side3 => repeat (first | exact (Kd.C_below HR1.out HB.out) | (with_reducible refine Kd.C_alloc ?_ _) | (with_reducible refine Kd.C_drewN ?_ _) | (with_reducible refine Kd.C_drew ?_))); (case side4 => exact HC1.out); (case side5 => repeat (first | exact (Kd.C_below HR0.out HB.out) | (with_reducible refine Kd.C_alloc ?_ _) | (with_reducible refine Kd.C_drewN ?_ _) | (with_reducible refine Kd.C_drew ?_))); (case side6 => exact HC0.out); rintro e w10 ⟨rfl, hb⟩; refine ⟨_, rfl, ?_⟩; have n0_ := Aside0.mk (below_step (by repeat (first | (with_reducible first | exact HB.out | apply below_alloc | apply pw_below_drewN | apply below_drew1) | exact HB.out)) hb); clear HB; have HB := n0_; clear n0_; (try clear hb); (try clear hb2); (try clear hk); (try clear hi)))
     go_ret2
     exact ⟨by first | rfl | (simp [errW_none, errW_some] <;> rfl) | (simp [*, errW_none, errW_some] <;> rfl), by repeat (first | (with_reducible first | exact HB.out | apply below_alloc | apply pw_below_drewN | apply below_drew1) | exact HB.out)⟩
    ·
     replace c9 := Bool.eq_false_iff.mpr c9
     subst c9
     have H1 : ((ref_above.f kj2 l0 l1 l1).bind fun t221 => (some (!t221, 0))) = some (r1, r2) := by rw [if_neg (show ¬ (false = true) by decide)] at H; exact H
     clear H
     have H := H1
     clear H1
     replace H := Option.bind_eq_some_iff.mp H
     obtain ⟨t221, A110, H⟩ := H
     replace H : (some (!t221, 0)) = some (r1, r2) := H
     have A11 := Aside0.mk A110
     clear A110
     simp only [Option.some.injEq, Prod.mk.injEq] at H
     obtain ⟨rfl, rfl⟩ := H
     go_wp2_with (first | ((with_reducible refine gate_callee (f := 84) rfl ?_); refine goesL_ (some 17) rfl rfl Tryd.func84 (by kernel_rfl) rfl #[.slice A0 l0.length c0, .slice A1 l1.length c1, .slice A0 l0.length c0] rfl (by (try simp only [List.map_toArray, List.map_cons, List.map_nil]); first | done | rfl | (simp only [List.length_drop, List.length_take]; rfl)) ?_; (with_reducible refine (ref_above.calls kj2 _ _ l0 _ _ l1 _ _ l0 false _ ?side1 ?side2 ?side3 ?side4 ?side5 ?side6 A8.out).mono ?_); (case side1 => repeat (first | exact (Kd.C_below HR0.out HB.out) | (with_reducible refine Kd.C_alloc ?_ _) | (with_reducible refine Kd.C_drewN ?_ _) | (with_reducible refine Kd.C_drew ?_))); (case side2 => exact HC0.out); (case side3 => repeat (first | exact (Kd.C_below HR1.out HB.out) | (with_reducible refine Kd.C_alloc ?_ _) | (with_reducible refine Kd.C_drewN ?_ _) | (with_reducible refine Kd.C_drew ?_))); (case side4 => exact HC1.out); (case side5 => repeat (first | exact (Kd.C_below HR0.out HB.out) | (with_reducible refine Kd.C_alloc ?_ _) | (with_reducible refine Kd.C_drewN ?_ _) | (with_reducible refine Kd.C_drew ?_))); (case side6 => exact HC0.out); rintro e w12 ⟨rfl, hb⟩; refine ⟨_, rfl, ?_⟩; have n0_ := Aside0.mk (below_step (by repeat (first | (with_reducible first | exact HB.out | apply below_alloc | apply pw_below_drewN | apply below_drew1) | exact HB.out)) hb); clear HB; have HB := n0_; clear n0_; (try clear hb); (try clear hb2); (try clear hk); (try clear hi)) | (go_at_call 84; (with_reducible refine (ref_above.calls kj2 _ _ l0 _ _ l1 _ _ l1 t221 _ ?side1 ?side2 ?side3 ?side4 ?side5 ?side6 A11.out).mono ?_); (case side1 => repeat (first | exact (Kd.C_below HR0.out HB.out) | (with_reducible refine Kd.C_alloc ?_ _) | (with_reducible refine Kd.C_drewN ?_ _) | (with_reducible refine Kd.C_drew ?_))); (case side2 => exact HC0.out); (case side3 => repeat (first | exact (Kd.C_below HR1.out HB.out) | (with_reducible refine Kd.C_alloc ?_ _) | (with_reducible refine Kd.C_drewN ?_ _) | (with_reducible refine Kd.C_drew ?_))); (case side4 => exact HC1.out); (case side5 => repeat (first | exact (Kd.C_below HR1.out HB.out) | (with_reducible refine Kd.C_alloc ?_ _) | (with_reducible refine Kd.C_drewN ?_ _) | (with_reducible refine Kd.C_drew ?_))); (case side6 => exact HC1.out); rintro e w13 ⟨rfl, hb⟩; have n0_ := Aside0.mk (below_step (by repeat (first | (with_reducible first | exact HB.out | apply below_alloc | apply pw_below_drewN | apply below_drew1) | exact HB.out)) hb); clear HB; have HB := n0_; clear n0_; (try clear hb); (try clear hb2); (try clear hk); (try clear hi)))
     go_ret2
     exact ⟨by first | rfl | (simp [errW_none, errW_some] <;> rfl) | (simp [*, errW_none, errW_some] <;> rfl), by repeat (first | (with_reducible first | exact HB.out | apply below_alloc | apply pw_below_drewN | apply below_drew1) | exact HB.out)⟩
def ref_Share.l0 : Nat → Int → Int → Int → Int → Int → Int → Option (Int × Bool)
 | 0, _, _, _, _, _, _ => none
 | k + 1, x0, x1, x2, x8, x9, x10 => if x10 > 0 then (if x10 = 0 then (none) else (if (Int.tmod (wrap64 (Int.tdiv x1 x10)) 2) = 1 then (if x2 = 0 then (none) else (ref_Share.l0 k x0 x1 x2 (wrap64 ((wrap64 (2 * x8)) + (wrap64 (Int.tdiv (wrap64 ((wrap64 (2 * x9)) + x0)) x2)))) (Int.tmod (wrap64 ((wrap64 (2 * x9)) + x0)) x2) (wrap64 (Int.tdiv x10 2)))) else (if x2 = 0 then (none) else (ref_Share.l0 k x0 x1 x2 (wrap64 ((wrap64 (2 * x8)) + (wrap64 (Int.tdiv (wrap64 (2 * x9)) x2)))) (Int.tmod (wrap64 (2 * x9)) x2) (wrap64 (Int.tdiv x10 2)))))) else (some (x8, decide (x9 > 0)))
def ref_Share.f (k : Nat) (a0 : Int) (a1 : Int) (a2 : Int) : Option (Int × Bool) := ref_Share.l0 k a0 a1 a2 0 0 16777216
set_option maxHeartbeats 8000000 in
set_option maxRecDepth 100000 in
theorem ref_Share.calls (k : Nat) (a0 : Int) (a1 : Int) (a2 : Int) (r1 : Int) (r2 : Bool) (w : World) (h : ref_Share.f k a0 a1 a2 = some (r1, r2)) :
  Calls Tryd.prog 88 #[.int .i64 a0, .int .i64 a1, .int .i64 a2] w fun e w' => e = .returned (.tuple #[.int .i64 r1, .bool r2]) ∧ Drawn0 w w' := by
 have H : (ref_Share.l0 k a0 a1 a2 0 0 16777216) = some (r1, r2) := h
 clear h
 have H' := Aside0.mk H
 clear H
 go_enter Tryd.func88, Tryd.ntmps88
 go_wp2
 go_loopg [8, 9, 10] k (fun kq v8 v9 v10 w' => ∃ (x8_1 : Int) (x9_1 : Int) (x10_1 : Int), v8 = .int .i64 x8_1 ∧ v9 = .int .i64 x9_1 ∧ v10 = .int .i64 x10_1 ∧ Aside0 (ref_Share.l0 kq a0 a1 a2 x8_1 x9_1 x10_1 = some (r1, r2)) ∧ Aside0 (kq ≤ k) ∧ Drawn0 w w')
 case atStart => exact ⟨(0), (0), (16777216), (by first | rfl | (simp; done) | (simp [*]; done)), (by first | rfl | (simp; done) | (simp [*]; done)), (by first | rfl | (simp; done) | (simp [*]; done)), H', ⟨Nat.le_refl _⟩, by repeat (first | exact Drawn0.refl _ | apply Drawn0.step)⟩
 case round =>
  clear H'
  try clear p2
  obtain ⟨x8_1, x9_1, x10_1, rfl, rfl, rfl, HA, HK1, ⟨m1, rfl⟩⟩ := hrel
  cases gk with
  | zero => exact absurd HA.out (by simp [ref_Share.l0])
  | succ k1 =>
   have H := HA.out
   clear HA
   simp only [ref_Share.l0] at H
   by_cases c4 : x10_1 > 0
   ·
    rw [if_pos c4] at H
    have c4b0 : decide (0 < x10_1) = true := decide_eq_true c4
    clear c4
    by_cases c5 : x10_1 = 0
    ·
     rw [if_pos c5] at H
     exact absurd H (by simp)
    ·
     rw [if_neg c5] at H
     have c5b0 : (x10_1 == 0) = false := beq_eq_false_iff_ne.mpr c5
     have c5b1 : (x10_1 != 0) = true := bne_iff_ne.mpr c5
     by_cases c6 : (Int.tmod (wrap64 (Int.tdiv a1 x10_1)) 2) = 1
     ·
      rw [if_pos c6] at H
      have c6b0 : ((Int.tmod (wrap64 (Int.tdiv a1 x10_1)) 2) == 1) = true := beq_iff_eq.mpr c6
      have c6b1 : ((Int.tmod (wrap64 (Int.tdiv a1 x10_1)) 2) != 1) = false := bne_eq_false_iff_eq.mpr c6
      clear c6
      by_cases c7 : a2 = 0
      ·
       rw [if_pos c7] at H
       exact absurd H (by simp)
      ·
       rw [if_neg c7] at H
       have c7b0 : (a2 == 0) = false := beq_eq_false_iff_ne.mpr c7
       have c7b1 : (a2 != 0) = true := bne_iff_ne.mpr c7
       have H' := Aside0.mk H
       clear H
       go_wp2
       go_roundg k1
       case measure => have := HK1.out; omega
       case rel => exact ⟨(wrap64 ((wrap64 (2 * x8_1)) + (wrap64 (Int.tdiv (wrap64 ((wrap64 (2 * x9_1)) + a0)) a2)))), (Int.tmod (wrap64 ((wrap64 (2 * x9_1)) + a0)) a2), (wrap64 (Int.tdiv x10_1 2)), (by first | rfl | (simp; done) | (simp [*]; done)), (by first | rfl | (simp; done) | (simp [*]; done)), (by first | rfl | (simp; done) | (simp [*]; done)), H', ⟨by have := HK1.out; omega⟩, by repeat (first | exact Drawn0.refl _ | apply Drawn0.step)⟩
     ·
      rw [if_neg c6] at H
      have c6b0 : ((Int.tmod (wrap64 (Int.tdiv a1 x10_1)) 2) == 1) = false := beq_eq_false_iff_ne.mpr c6
      have c6b1 : ((Int.tmod (wrap64 (Int.tdiv a1 x10_1)) 2) != 1) = true := bne_iff_ne.mpr c6
      by_cases c8 : a2 = 0
      ·
       rw [if_pos c8] at H
       exact absurd H (by simp)
      ·
       rw [if_neg c8] at H
       have c8b0 : (a2 == 0) = false := beq_eq_false_iff_ne.mpr c8
       have c8b1 : (a2 != 0) = true := bne_iff_ne.mpr c8
       have H' := Aside0.mk H
       clear H
       go_wp2
       go_roundg k1
       case measure => have := HK1.out; omega
       case rel => exact ⟨(wrap64 ((wrap64 (2 * x8_1)) + (wrap64 (Int.tdiv (wrap64 (2 * x9_1)) a2)))), (Int.tmod (wrap64 (2 * x9_1)) a2), (wrap64 (Int.tdiv x10_1 2)), (by first | rfl | (simp; done) | (simp [*]; done)), (by first | rfl | (simp; done) | (simp [*]; done)), (by first | rfl | (simp; done) | (simp [*]; done)), H', ⟨by have := HK1.out; omega⟩, by repeat (first | exact Drawn0.refl _ | apply Drawn0.step)⟩
   ·
    rw [if_neg c4] at H
    have c4b0 : decide (0 < x10_1) = false := decide_eq_false c4
    clear c4
    simp only [Option.some.injEq, Prod.mk.injEq] at H
    obtain ⟨rfl, rfl⟩ := H
    go_wp2
    go_ret2
    exact ⟨by first | rfl | (simp; done) | (simp [*]; done), by repeat (first | exact Drawn0.refl _ | apply Drawn0.step)⟩
end Go.Proofs.YtlhhpogaaneamaaDoor.X
