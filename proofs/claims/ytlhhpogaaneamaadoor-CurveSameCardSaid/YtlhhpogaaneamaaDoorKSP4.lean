/- curveSame_holds: the declarations of this seat that its proof uses. Conditions: none. -/
import Derived.Shelf.Strings.OnBuilder
import Derived.Shelf.Strconv.Itoa3
import Derived.Test.YtlhhpogaaneamaaDoorKSP3
namespace Go.Proofs.YtlhhpogaaneamaaDoor.X
open Go.RowKit
set_option linter.unusedVariables false
def ltB (t : Int) (p : S57) : Bool := decide (p.f0 < t)
def gtB (t : Int) (p : S57) : Bool := decide (t < p.f0)
theorem inc_all : ∀ {t : List S57} {p : S57}, Inc (p :: t) → ∀ z ∈ t, p.f0 < z.f0 ∧ p.f1 < z.f1 := by
 intro t
 induction t with
 | nil => intro p _ z hz; cases hz
 | cons q t ih =>
  intro p hi z hz
  obtain ⟨h1, h2, h3⟩ := inc_cons.1 hi
  rcases List.mem_cons.1 hz with e | e
  ·
   rw [e]; exact ⟨h1, h2⟩
  ·
   have := ih h3 z e; omega
theorem filter_none {c : List S57} {f : S57 → Bool} (h : ∀ z ∈ c, f z = false) : c.filter f = [] := by
 rw [List.filter_eq_nil_iff]; intro z hz; rw [h z hz]; simp
theorem filter_all {c : List S57} {f : S57 → Bool} (h : ∀ z ∈ c, f z = true) : c.filter f = c := List.filter_eq_self.2 h
theorem seg_mid {p q m : S57} (h : p.f0 < q.f0) (hm : Seg p q m.f0 m.f1) : (p.f0 < m.f0 → sl p m = sl p q) ∧ (m.f0 < q.f0 → sl m q = sl p q) := by
 obtain ⟨a, b, c⟩ := (seg_iff h).1 hm
 have y := sl_y h
 constructor
 ·
  intro h1; exact sl_of h1 c
 ·
  intro h1
  refine sl_of h1 ?_
  generalize sl p q = k at *
  grind
theorem cutL {m : S57} : ∀ {c : List S57}, Inc c → (∀ p t, c = p :: t → p.f0 < m.f0) → On c m.f0 m.f1 → ∀ x v, On c x v → x ≤ (m.f0 : Rat) → On (c.filter (ltB m.f0) ++ [m]) x v := by
 intro c
 induction c with
 | nil => intro _ _ hm; obtain ⟨i, h, _⟩ := hm; simp at h
 | cons p t ih =>
  intro hi hp hm x v ho hx
  have hpm := hp p t rfl
  have gpm := cast_lt hpm
  cases t with
  | nil => exact absurd ho on_one
  | cons q t =>
   obtain ⟨h1, h2, h3⟩ := inc_cons.1 hi
   have e1 : (p :: q :: t).filter (ltB m.f0) = p :: (q :: t).filter (ltB m.f0) := List.filter_cons_of_pos (by unfold ltB; exact decide_eq_true hpm)
   rw [e1]
   by_cases hq : q.f0 < m.f0
   ·
    have gq := cast_lt hq
    have e2 : (q :: t).filter (ltB m.f0) = q :: t.filter (ltB m.f0) := List.filter_cons_of_pos (by unfold ltB; exact decide_eq_true hq)
    have hm' : On (q :: t) m.f0 m.f1 := by
     rcases on_cons.1 hm with s | s
     ·
      exfalso; have := s.2.1; grind
     ·
      exact s
    have key := ih h3 (fun p' t' e => by cases e; exact hq) hm'
    rw [e2] at key ⊢
    show On (p :: q :: (t.filter (ltB m.f0) ++ [m])) x v
    rcases on_cons.1 ho with s | s
    ·
     exact on_cons.2 (Or.inl s)
    ·
     exact on_cons.2 (Or.inr (key x v s hx))
   ·
    have e2 : (q :: t).filter (ltB m.f0) = [] := filter_none fun z hz => by
     unfold ltB
     refine decide_eq_false ?_
     rcases List.mem_cons.1 hz with e | e
     ·
      rw [e]; exact hq
     ·
      have := inc_all h3 z e; omega
    rw [e2]
    have gq := cast_le (show m.f0 ≤ q.f0 by omega)
    have key : ∀ x v, On (p :: q :: t) x v → x ≤ (m.f0 : Rat) → Seg p q x v := fun x v ho hx => by
     rcases on_cons.1 ho with s | s
     ·
      exact s
     ·
      have := on_ge h3 s
      have ex : x = q.f0 := by grind
      have e : m.f0 = q.f0 := by
       have : (q.f0 : Rat) ≤ m.f0 := by grind
       have := of_cast_le this; omega
      have ra := rising_of (by simp) hi
      have o1 : On (p :: q :: t) q.f0 q.f1 := on_cons.2 (Or.inl (seg_right h1))
      rw [ex] at ho ⊢
      rw [On.unique ra ho o1]
      exact seg_right h1
    have sm := key _ _ hm Rat.le_refl
    have sx := key _ _ ho hx
    refine on_cons.2 (Or.inl ?_)
    obtain ⟨a, b, c⟩ := (seg_iff h1).1 sx
    rw [seg_iff hpm, (seg_mid h1 sm).1 hpm]
    exact ⟨a, hx, c⟩
theorem cutR {m : S57} : ∀ {c : List S57}, Inc c → (∀ p t, c = p :: t → p.f0 ≤ m.f0) → On c m.f0 m.f1 → (∃ z ∈ c, m.f0 < z.f0) → ∀ x v, On c x v → (m.f0 : Rat) ≤ x → On (m :: c.filter (gtB m.f0)) x v := by
 intro c
 induction c with
 | nil => intro _ _ hm; obtain ⟨i, h, _⟩ := hm; simp at h
 | cons p t ih =>
  intro hi hp hm hz x v ho hx
  have hpm := hp p t rfl
  have gpm := cast_le hpm
  cases t with
  | nil => exact absurd ho on_one
  | cons q t =>
   obtain ⟨h1, h2, h3⟩ := inc_cons.1 hi
   have e1 : (p :: q :: t).filter (gtB m.f0) = (q :: t).filter (gtB m.f0) := List.filter_cons_of_neg (by unfold gtB; simp; omega)
   rw [e1]
   have hz' : ∃ z ∈ q :: t, m.f0 < z.f0 := by
    obtain ⟨z, h, hl⟩ := hz
    rcases List.mem_cons.1 h with e | e
    ·
     rw [e] at hl; omega
    ·
     exact ⟨z, e, hl⟩
   by_cases hq : q.f0 ≤ m.f0
   ·
    have gq := cast_le hq
    have step : ∀ x v, On (p :: q :: t) x v → (m.f0 : Rat) ≤ x → On (q :: t) x v := fun x v ho hx => by
     rcases on_cons.1 ho with s | s
     ·
      obtain ⟨a, b, c⟩ := (seg_iff h1).1 s
      have ex : x = q.f0 := by grind
      have ev : v = q.f1 := by rw [c, ex]; exact (sl_y h1).symm
      obtain ⟨z, hz1, hz2⟩ := hz'
      cases t with
      | nil =>
       rcases List.mem_cons.1 hz1 with e | e
       ·
        rw [e] at hz2; omega
       ·
        cases e
      | cons r t =>
       rw [ex, ev]
       exact on_cons.2 (Or.inl (seg_left (inc_cons.1 h3).1))
     ·
      exact s
    exact ih h3 (fun p' t' e => by cases e; exact hq) (step _ _ hm Rat.le_refl) hz' x v (step _ _ ho hx) hx
   ·
    have e2 : (q :: t).filter (gtB m.f0) = q :: t := filter_all fun z hz => by
     unfold gtB
     refine decide_eq_true ?_
     rcases List.mem_cons.1 hz with e | e
     ·
      rw [e]; omega
     ·
      have := inc_all h3 z e; omega
    rw [e2]
    have gq := cast_lt (show m.f0 < q.f0 by omega)
    have sm : Seg p q m.f0 m.f1 := by
     rcases on_cons.1 hm with s | s
     ·
      exact s
     ·
      have := on_ge h3 s; exfalso; grind
    rcases on_cons.1 ho with s | s
    ·
     refine on_cons.2 (Or.inl ?_)
     obtain ⟨a, b, c⟩ := (seg_iff h1).1 s
     obtain ⟨a', b', c'⟩ := (seg_iff h1).1 sm
     rw [seg_iff (by omega), (seg_mid h1 sm).2 (by omega)]
     generalize sl p q = k at *
     exact ⟨hx, b, by grind⟩
    ·
     exact on_cons.2 (Or.inr s)
theorem inc_filter : ∀ {c : List S57} (f : S57 → Bool), Inc c → Inc (c.filter f) := by
 intro c f
 induction c with
 | nil => intro _; rfl
 | cons p t ih =>
  intro hi
  have it := ih (inc_tail hi)
  cases hf : f p with
  | false => rw [List.filter_cons_of_neg (by rw [hf]; simp)]; exact it
  | true =>
   rw [List.filter_cons_of_pos hf]
   cases e : t.filter f with
   | nil => rfl
   | cons q t' =>
    rw [e] at it
    have hm : q ∈ t := (List.mem_filter.1 (by rw [e]; exact List.mem_cons_self)).1
    have := inc_all hi q hm
    exact inc_cons.2 ⟨this.1, this.2, it⟩
theorem inc_append : ∀ {u w : List S57}, Inc u → Inc w → (∀ a ∈ u, ∀ b ∈ w, a.f0 < b.f0 ∧ a.f1 < b.f1) → Inc (u ++ w) := by
 intro u
 induction u with
 | nil => intro w _ hw _; exact hw
 | cons p t ih =>
  intro w hu hw h
  have key := ih (inc_tail hu) hw (fun a ha b hb => h a (List.mem_cons_of_mem _ ha) b hb)
  cases t with
  | nil =>
   cases w with
   | nil => rfl
   | cons q w => have := h p List.mem_cons_self q List.mem_cons_self; exact inc_cons.2 ⟨this.1, this.2, hw⟩
  | cons q t => obtain ⟨a, b, c⟩ := inc_cons.1 hu; exact inc_cons.2 ⟨a, b, key⟩
theorem len_parts (m : Int) : ∀ c : List S57, (c.filter (ltB m)).length + (c.filter (gtB m)).length ≤ c.length := by
 intro c
 induction c with
 | nil => simp
 | cons p t ih =>
  by_cases h1 : p.f0 < m
  ·
   rw [List.filter_cons_of_pos (by unfold ltB; exact decide_eq_true h1), List.filter_cons_of_neg (by unfold gtB; simp; omega)]
   simp only [List.length_cons]; omega
  ·
   rw [List.filter_cons_of_neg (by unfold ltB; simp; omega)]
   have : ((p :: t).filter (gtB m)).length ≤ (t.filter (gtB m)).length + 1 := by
    rw [List.filter_cons]; split <;> simp
   simp only [List.length_cons]; omega
theorem ext_pp' {c d : List S57} (hl : c.length = d.length) (h : ∀ i, i < c.length → px c i = px d i ∧ py c i = py d i) : c = d := by
 refine List.ext_getElem hl fun i h1 h2 => ?_
 obtain ⟨e1, e2⟩ := h i h1
 unfold px at e1
 unfold py at e2
 rw [getD_of h1, getD_of h2] at e1 e2
 generalize c[i] = p at e1 e2
 generalize d[i] = q at e1 e2
 obtain ⟨p0, p1⟩ := p
 obtain ⟨q0, q1⟩ := q
 simp only at e1 e2
 rw [e1, e2]
end Go.Proofs.YtlhhpogaaneamaaDoor.X
namespace Go.Proofs.YtlhhpogaaneamaaDoor.X
open Go.RowKit Go.Proofs.YtlhhpogaaneamaaDoorW.PrintWords Go.Proofs.YtlhhpogaaneamaaDoorW.PrintLast Go.Proofs.YtlhhpogaaneamaaDoorW.PrintMore
attribute [local go_sem] max2_int min2_int max_two min_two
set_option linter.unusedVariables false
set_option linter.unusedSimpArgs false
def curve_Shift.j0 : Nat → List (S57) → Int → Int → Bool → Option ((List (S57)) × Int)
 | 0, _, _, _, _ => none
 | k + 1, x0, x1, x2, x23 => if x23 = true then (some (([] : List (S57)), 2)) else ((curve_moved.f x0 x1 x2).bind fun t463 => ((curve_bounded.f k t463).bind fun bt466 => (some (bt466.1, bt466.2))))
def curve_Shift.f (k : Nat) (l0 : List (S57)) (a1 : Int) (a2 : Int) : Option ((List (S57)) × Int) := (curve_Check.f l0).bind fun t462 => (if t462 = 0 then (if (mx a1 a2) > 16777216 then (curve_Shift.j0 k l0 a1 a2 true) else (curve_Shift.j0 k l0 a1 a2 (decide ((mn a1 a2) < (-16777216))))) else (some (([] : List (S57)), t462)))
set_option maxHeartbeats 8000000 in
set_option maxRecDepth 100000 in
theorem curve_Shift.calls (k : Nat) (A0 : Option Addr) (c0 : Nat) (l0 : List (S57)) (a1 : Int) (a2 : Int) (r1 : List (S57)) (r2 : Int) (w : World) (hr0 : Kd.C k57 w A0 l0.length l0) (hc0 : l0.length ≤ c0) (h : curve_Shift.f k l0 a1 a2 = some (r1, r2)) :
  Calls Tryd.prog 50 #[.slice A0 l0.length c0, .int .i64 a1, .int .i64 a2] w fun e w' => ∃ v0_ : Value, e = .returned (.tuple #[v0_, .int .i64 r2]) ∧ Kd.R k57 57 w' w.heap.size (fun _ => True) v0_ r1 ∧ Below w.heap.size w w' := by
 have HR0 := Aside0.mk hr0
 have HC0 := Aside0.mk hc0
 clear hr0 hc0
 have HB := Aside0.mk (Below.refl w.heap.size w)
 have H : ((curve_Check.f l0).bind fun t462 => (if t462 = 0 then (if (mx a1 a2) > 16777216 then (curve_Shift.j0 k l0 a1 a2 true) else (curve_Shift.j0 k l0 a1 a2 (decide ((mn a1 a2) < (-16777216))))) else (some (([] : List (S57)), t462)))) = some (r1, r2) := h
 clear h
 replace H := Option.bind_eq_some_iff.mp H
 obtain ⟨t462, A40, H⟩ := H
 replace H : (if t462 = 0 then (if (mx a1 a2) > 16777216 then (curve_Shift.j0 k l0 a1 a2 true) else (curve_Shift.j0 k l0 a1 a2 (decide ((mn a1 a2) < (-16777216))))) else (some (([] : List (S57)), t462))) = some (r1, r2) := H
 have A4 := Aside0.mk A40
 clear A40
 by_cases c5 : t462 = 0
 ·
  rw [if_pos c5] at H
  have c5b0 : (t462 == 0) = true := beq_iff_eq.mpr c5
  have c5b1 : (t462 != 0) = false := bne_eq_false_iff_eq.mpr c5
  clear c5
  have HC6 := Aside0.mk H
  clear H
  go_enter Tryd.func50, Tryd.ntmps50
  go_upto_region 4 with (first | ((with_reducible refine gate_callee (f := 30) rfl ?_); refine goesL_ (some 10) rfl rfl Tryd.func30 (by kernel_rfl) rfl #[.slice A0 l0.length c0] rfl (by (try simp only [List.map_toArray, List.map_cons, List.map_nil]); first | done | rfl | (simp only [List.length_drop, List.length_take]; rfl)) ?_; (with_reducible refine (curve_Check.calls _ _ l0 t462 _ ?side1 ?side2 A4.out).mono ?_); (case side1 => repeat (first | exact HR0.out | (with_reducible refine Kd.C_alloc ?_ _) | (with_reducible refine Kd.C_drewN ?_ _) | (with_reducible refine Kd.C_drew ?_))); (case side2 => exact HC0.out); rintro e w7 ⟨rfl, hb⟩; refine ⟨_, rfl, ?_⟩; have n0_ := Aside0.mk (below_step (by repeat (first | (with_reducible first | exact HB.out | apply below_alloc | apply pw_below_drewN | apply below_drew1) | exact HB.out)) hb); clear HB; have HB := n0_; clear n0_; (try clear hb); (try clear hb2); (try clear hk); (try clear hi)))
  (try simp only [Act.put, List.setIfInBounds_toArray, List.set_cons_zero, List.set_cons_succ])
  go_cut [23] (fun v23 wc => ∃ (kq : Nat) (x23_5 : Bool), v23 = .bool x23_5 ∧ Aside0 (curve_Shift.j0 kq l0 a1 a2 x23_5 = some (r1, r2)) ∧ Aside0 (kq ≤ k) ∧ Aside0 (Below w.heap.size w wc))
  case first =>
   have H := HC6.out
   clear HC6
   obtain ⟨ji8, hji8⟩ : ∃ j_ : Int, (mx a1 a2) = j_ := ⟨_, rfl⟩
   replace H : (if (ji8) > 16777216 then (curve_Shift.j0 k l0 a1 a2 true) else (curve_Shift.j0 k l0 a1 a2 (decide ((mn a1 a2) < (-16777216))))) = some (r1, r2) := by first | (rw [hji8] at H; exact H) | (simp only [hji8] at H ⊢; exact H)
   have hji8_ : (if a1 < a2 then a2 else a1) = ji8 := hji8
   by_cases c9 : (ji8) > 16777216
   ·
    rw [if_pos c9] at H
    have c9b0 : decide (16777216 < (ji8)) = true := decide_eq_true c9
    clear c9
    (first | rw [c9b0] | (simp only [i64_w, i32_w]; rw [c9b0]) | skip)
    have H' := Aside0.mk H
    clear H
    go_wp2
    go_meet
    case rel => exact ⟨_, (true), (by first | rfl | (simp; done) | (simp [*]; done)), H', ⟨by first | omega | exact Nat.le_refl _⟩, ⟨by repeat (first | (with_reducible first | exact HB.out | apply below_alloc | apply pw_below_drewN | apply below_drew1) | exact HB.out)⟩⟩
   ·
    rw [if_neg c9] at H
    have c9b0 : decide (16777216 < (ji8)) = false := decide_eq_false c9
    clear c9
    (first | rw [c9b0] | (simp only [i64_w, i32_w]; rw [c9b0]) | skip)
    obtain ⟨ji10, hji10⟩ : ∃ j_ : Int, (mn a1 a2) = j_ := ⟨_, rfl⟩
    replace H : (curve_Shift.j0 k l0 a1 a2 (decide ((ji10) < (-16777216)))) = some (r1, r2) := by first | (rw [hji10] at H; exact H) | (simp only [hji10] at H ⊢; exact H)
    have hji10_ : (if a2 < a1 then a2 else a1) = ji10 := hji10
    have H' := Aside0.mk H
    clear H
    go_wp2
    go_meet
    case rel => exact ⟨_, (decide ((ji10) < (-16777216))), (by first | rfl | (simp; done) | (simp only [← hji10] <;> (first | rfl | simp)) | (simp [*]; done)), H', ⟨by first | omega | exact Nat.le_refl _⟩, ⟨by repeat (first | (with_reducible first | exact HB.out | apply below_alloc | apply pw_below_drewN | apply below_drew1) | exact HB.out)⟩⟩
  case rest =>
   clear HC6
   try clear p2
   try clear c3
   try clear c5
   try clear c5b0
   try clear c5b1
   try clear c9
   try clear c9b0
   obtain ⟨kq, x23_5, rfl, HA, HJ5, HB⟩ := hcut
   cases kq with
   | zero => exact absurd HA.out (by simp [curve_Shift.j0])
   | succ kj5 =>
    have H := HA.out
    clear HA
    simp only [curve_Shift.j0] at H
    by_cases c11 : x23_5 = true
    ·
     subst c11
     have H1 : (some (([] : List (S57)), 2)) = some (r1, r2) := by rw [if_pos rfl] at H; exact H
     clear H
     have H := H1
     clear H1
     simp only [Option.some.injEq, Prod.mk.injEq] at H
     obtain ⟨rfl, rfl⟩ := H
     go_wp2
     go_ret2
     exact ⟨_, by first | rfl | (simp [errW_none, errW_some] <;> rfl) | (simp [*, errW_none, errW_some] <;> rfl), by first | exact Kd.R_nil _ _ _ _ _ | exact Kd.N_nil _ _ _ _ _ | exact Kd.V_nil _ _ _ _ _ | exact Kd.Q_nil _ _ _ _ _ | exact Kd.S_nil _ _ _ _ _, by repeat (first | (with_reducible first | exact HB.out | apply below_alloc | apply pw_below_drewN | apply below_drew1) | exact HB.out)⟩
    ·
     replace c11 := Bool.eq_false_iff.mpr c11
     subst c11
     have H1 : ((curve_moved.f l0 a1 a2).bind fun t463 => ((curve_bounded.f kj5 t463).bind fun bt466 => (some (bt466.1, bt466.2)))) = some (r1, r2) := by rw [if_neg (show ¬ (false = true) by decide)] at H; exact H
     clear H
     have H := H1
     clear H1
     replace H := Option.bind_eq_some_iff.mp H
     obtain ⟨t463, A120, H⟩ := H
     replace H : ((curve_bounded.f kj5 t463).bind fun bt466 => (some (bt466.1, bt466.2))) = some (r1, r2) := H
     have A12 := Aside0.mk A120
     clear A120
     replace H := Option.bind_eq_some_iff.mp H
     obtain ⟨⟨t466, t469⟩, A130, H⟩ := H
     replace H : (some (t466, t469)) = some (r1, r2) := H
     have A13 := Aside0.mk A130
     clear A130
     simp only [Option.some.injEq, Prod.mk.injEq] at H
     obtain ⟨rfl, rfl⟩ := H
     go_wp2_with (first | ((with_reducible refine gate_callee (f := 90) rfl ?_); refine goesL_ (some 27) rfl rfl Tryd.func90 (by kernel_rfl) rfl #[.slice A0 l0.length c0, .int .i64 a1, .int .i64 a2] rfl (by (try simp only [List.map_toArray, List.map_cons, List.map_nil]); first | done | rfl | (simp only [List.length_drop, List.length_take]; rfl)) ?_; (with_reducible refine (curve_moved.calls _ _ l0 a1 a2 t463 _ ?side1 ?side2 A12.out).mono ?_); (case side1 => repeat (first | exact (Kd.C_below HR0.out HB.out) | (with_reducible refine Kd.C_alloc ?_ _) | (with_reducible refine Kd.C_drewN ?_ _) | (with_reducible refine Kd.C_drew ?_))); (case side2 => exact HC0.out); rintro e w14 ⟨v464, rfl, ho0, hb⟩; refine ⟨_, rfl, ?_⟩; have n0_ := Aside0.mk (Kd.R_lower ho0 (below_size (by repeat (first | (with_reducible first | exact HB.out | apply below_alloc | apply pw_below_drewN | apply below_drew1) | exact HB.out)))); have n1_ := Aside0.mk (below_step (by repeat (first | (with_reducible first | exact HB.out | apply below_alloc | apply pw_below_drewN | apply below_drew1) | exact HB.out)) hb); clear HB; have HO465 := n0_; have HB := n1_; clear n0_ n1_; (try clear hb); (try clear hb2); (try clear hk); (try clear hi); (try clear ho0); obtain ⟨Ao15, co15, eo15⟩ := Kd.R_slice HO465.out; subst eo15) | ((with_reducible refine gate_callee (f := 89) rfl ?_); refine goesL_ (some 28) rfl rfl Tryd.func89 (by kernel_rfl) rfl #[.slice Ao15 t463.length co15] rfl (by (try simp only [List.map_toArray, List.map_cons, List.map_nil]); first | done | rfl | (simp only [List.length_drop, List.length_take]; rfl)) ?_; (with_reducible refine (curve_bounded.calls kj5 (fun k_ => some k_ = (.slice Ao15 t463.length co15 : Value).ownBlock) (.slice Ao15 t463.length co15) t463 t466 t469 w _ ?side1 ?side2 A13.out).mono ?_); (case side1 => repeat (first | (with_reducible first | exact HB.out | apply below_alloc | apply pw_below_drewN | apply below_drew1) | exact HB.out)); (case side2 => exact Kd.R_tight rfl HO465.out); rintro e w16 ⟨v467, rfl, ho0, hb, hkp⟩; refine ⟨_, rfl, ?_⟩; have n0_ := Aside0.mk (Kd.R_mono (ok' := fun k_ => True) ho0 (fun k_ hk_ => trivial)); have n1_ := Aside0.mk (hb); clear HB; clear HO465; have HO468 := n0_; have HB := n1_; clear n0_ n1_; (try clear hb); (try clear hkp); (try clear ho0)))
     go_ret2
     exact ⟨_, by first | rfl | (simp [errW_none, errW_some] <;> rfl) | (simp [*, errW_none, errW_some] <;> rfl), by (with_reducible repeat (first | apply Kd.R_alloc | apply Kd.R_drewN | apply Kd.R_drew)); exact HO468.out, by repeat (first | (with_reducible first | exact HB.out | apply below_alloc | apply pw_below_drewN | apply below_drew1) | exact HB.out)⟩
 ·
  rw [if_neg c5] at H
  have c5b0 : (t462 == 0) = false := beq_eq_false_iff_ne.mpr c5
  have c5b1 : (t462 != 0) = true := bne_iff_ne.mpr c5
  simp only [Option.some.injEq, Prod.mk.injEq] at H
  obtain ⟨rfl, rfl⟩ := H
  go_enter Tryd.func50, Tryd.ntmps50
  go_wp2_with (first | ((with_reducible refine gate_callee (f := 30) rfl ?_); refine goesL_ (some 10) rfl rfl Tryd.func30 (by kernel_rfl) rfl #[.slice A0 l0.length c0] rfl (by (try simp only [List.map_toArray, List.map_cons, List.map_nil]); first | done | rfl | (simp only [List.length_drop, List.length_take]; rfl)) ?_; (with_reducible refine (curve_Check.calls _ _ l0 t462 _ ?side1 ?side2 A4.out).mono ?_); (case side1 => repeat (first | exact HR0.out | (with_reducible refine Kd.C_alloc ?_ _) | (with_reducible refine Kd.C_drewN ?_ _) | (with_reducible refine Kd.C_drew ?_))); (case side2 => exact HC0.out); rintro e w17 ⟨rfl, hb⟩; refine ⟨_, rfl, ?_⟩; have n0_ := Aside0.mk (below_step (by repeat (first | (with_reducible first | exact HB.out | apply below_alloc | apply pw_below_drewN | apply below_drew1) | exact HB.out)) hb); clear HB; have HB := n0_; clear n0_; (try clear hb); (try clear hb2); (try clear hk); (try clear hi)))
  go_ret2
  exact ⟨_, by first | rfl | (simp [errW_none, errW_some] <;> rfl) | (simp [*, errW_none, errW_some] <;> rfl), by first | exact Kd.R_nil _ _ _ _ _ | exact Kd.N_nil _ _ _ _ _ | exact Kd.V_nil _ _ _ _ _ | exact Kd.Q_nil _ _ _ _ _ | exact Kd.S_nil _ _ _ _ _, by repeat (first | (with_reducible first | exact HB.out | apply below_alloc | apply pw_below_drewN | apply below_drew1) | exact HB.out)⟩
end Go.Proofs.YtlhhpogaaneamaaDoor.X
namespace Go.Proofs.YtlhhpogaaneamaaDoor.X
open Go.RowKit Go.Proofs.YtlhhpogaaneamaaDoorW.PrintWords Go.Proofs.YtlhhpogaaneamaaDoorW.PrintLast Go.Proofs.YtlhhpogaaneamaaDoorW.PrintMore
set_option linter.unusedVariables false
theorem right_of {c : List S57} (h : ∀ i, i < c.length → (0 ≤ px c i ∧ px c i ≤ 16777216) ∧ (0 ≤ py c i ∧ py c i ≤ 16777216)) : rightB c = true := by
 unfold rightB
 rw [List.all_eq_true]
 intro p hp
 obtain ⟨i, hi, rfl⟩ := List.getElem_of_mem hp
 have a := h i hi
 unfold px py at a
 rw [getD_of hi] at a
 simp only [okp, okc, Bool.and_eq_true, decide_eq_true_eq]
 exact a
theorem right_at {c : List S57} (hr : rightB c = true) {i : Nat} (hi : i < c.length) : (0 ≤ px c i ∧ px c i ≤ 16777216) ∧ (0 ≤ py c i ∧ py c i ≤ 16777216) := by
 unfold rightB at hr
 rw [List.all_eq_true] at hr
 have := hr _ (List.getElem_mem hi)
 simp only [okp, okc, Bool.and_eq_true, decide_eq_true_eq] at this
 unfold px py
 rw [getD_of hi]
 exact this
section
variable {c d : List S57} (h : Good c) (hl : d.length = c.length) {kx ky dx dy : Int} (hkx : 1 ≤ kx) (hky : 1 ≤ ky) (e : ∀ i, i < c.length → px d i = px c i * kx + dx ∧ py d i = py c i * ky + dy)
include h hl hkx hky e
theorem aff_good (hr : rightB d = true) : Good d := by
 have h2 := h.len2
 have h64 := h.len64
 refine ⟨by omega, by omega, fun i hi => (right_at hr hi).1, fun i hi => (right_at hr hi).2, fun i hi => ?_, fun i hi => ?_⟩
 ·
  rw [(e i (by omega)).1, (e (i + 1) (by omega)).1]
  have := Int.mul_lt_mul_of_pos_right (h.ix i (by omega)) (show 0 < kx by omega)
  omega
 ·
  rw [(e i (by omega)).2, (e (i + 1) (by omega)).2]
  have := Int.mul_lt_mul_of_pos_right (h.iy i (by omega)) (show 0 < ky by omega)
  omega
omit h hky in
theorem aff_on {x v : Rat} (o : On c x v) : On d (x * kx + dx) (v * ky + dy) := by
 obtain ⟨i, hi, h1, h2, h3⟩ := o
 have e1 := e i (by omega)
 have e2 := e (i + 1) hi
 have hk := cast_le (show 0 ≤ kx by omega)
 refine ⟨i, by omega, ?_, ?_, ?_⟩
 ·
  rw [e1.1, Rat.intCast_add, Rat.intCast_mul]
  have := Rat.mul_le_mul_of_nonneg_right h1 hk
  grind
 ·
  rw [e2.1, Rat.intCast_add, Rat.intCast_mul]
  have := Rat.mul_le_mul_of_nonneg_right h2 hk
  grind
 ·
  rw [e1.1, e1.2, e2.1, e2.2]
  simp only [Rat.intCast_add, Rat.intCast_mul]
  grind
end
theorem movedC_len (c : List S57) (dx dy : Int) : (movedC c dx dy).length = c.length := by simp [movedC]
theorem scaledC_len (c : List S57) (dx dy : Int) : (scaledC c dx dy).length = c.length := by simp [scaledC]
theorem movedC_at {c : List S57} (h : Good c) {dx dy : Int} (b1 : -16777216 ≤ dx ∧ dx ≤ 16777216) (b2 : -16777216 ≤ dy ∧ dy ≤ 16777216) {i : Nat} (hi : i < c.length) : px (movedC c dx dy) i = px c i + dx ∧ py (movedC c dx dy) i = py c i + dy := by
 have x := h.bx i hi
 have y := h.by_ i hi
 have e : (movedC c dx dy).getD i z57 = ⟨wrap64 (px c i + dx), wrap64 (py c i + dy)⟩ := by
  unfold movedC
  rw [List.getD_eq_getElem?_getD, List.getElem?_map, List.getElem?_eq_getElem hi]
  unfold px py
  rw [getD_of hi]; rfl
 constructor
 ·
  show ((movedC c dx dy).getD i z57).f0 = _
  rw [e]; exact w64 (by omega) (by omega)
 ·
  show ((movedC c dx dy).getD i z57).f1 = _
  rw [e]; exact w64 (by omega) (by omega)
theorem scaledC_at {c : List S57} (h : Good c) {dx dy : Int} (b1 : 1 ≤ dx ∧ dx ≤ 16777216) (b2 : 1 ≤ dy ∧ dy ≤ 16777216) {i : Nat} (hi : i < c.length) : px (scaledC c dx dy) i = px c i * dx ∧ py (scaledC c dx dy) i = py c i * dy := by
 have x := h.bx i hi
 have y := h.by_ i hi
 have m1 := mulb x.1 x.2 (show 0 ≤ dx by omega) b1.2
 have m2 := mulb y.1 y.2 (show 0 ≤ dy by omega) b2.2
 have e : (scaledC c dx dy).getD i z57 = ⟨wrap64 (px c i * dx), wrap64 (py c i * dy)⟩ := by
  unfold scaledC
  rw [List.getD_eq_getElem?_getD, List.getElem?_map, List.getElem?_eq_getElem hi]
  unfold px py
  rw [getD_of hi]; rfl
 constructor
 ·
  show ((scaledC c dx dy).getD i z57).f0 = _
  rw [e]; exact w64 (by omega) (by omega)
 ·
  show ((scaledC c dx dy).getD i z57).f1 = _
  rw [e]; exact w64 (by omega) (by omega)
def shiftOk (c : List S57) (dx dy : Int) : Prop := ((-16777216 ≤ dx ∧ dx ≤ 16777216) ∧ (-16777216 ≤ dy ∧ dy ≤ 16777216)) ∧ rightB (movedC c dx dy) = true
theorem shift_yes {c : List S57} (h : Good c) {dx dy : Int} (ok : shiftOk c dx dy) : Evn (fun k => curve_Shift.f k c dx dy) (movedC c dx dy, 0) := by
 have h64 := h.len64
 refine ⟨2, fun k hk => ?_⟩
 obtain ⟨K, rfl⟩ : ∃ K, k = K + 2 := ⟨k - 2, by omega⟩
 obtain ⟨⟨b1, b2⟩, hr⟩ := ok
 have m1 : ¬ mx dx dy > 16777216 := by unfold mx; split <;> omega
 have m2 : decide (mn dx dy < -16777216) = false := decide_eq_false (by unfold mn; split <;> omega)
 show curve_Shift.f (K + 2) c dx dy = _
 unfold curve_Shift.f
 rw [show curve_Check.f c = some 0 by simp [curve_Check.f, good_iff.2 h], Option.bind_some, if_pos rfl, if_neg m1, m2]
 simp only [curve_Shift.j0]
 rw [if_neg (by simp), show curve_moved.f c dx dy = some (movedC c dx dy) by unfold curve_moved.f; rw [if_pos (by omega)], Option.bind_some]
 unfold curve_bounded.f
 rw [if_neg (by rw [movedC_len]; omega), show curve_right.f (movedC c dx dy) = some true by unfold curve_right.f; rw [hr], Option.bind_some]
 simp [curve_bounded.j0]
theorem shift_no {c : List S57} (h : Good c) {dx dy : Int} (ok : ¬ shiftOk c dx dy) : Evn (fun k => curve_Shift.f k c dx dy) ([], 2) := by
 have h64 := h.len64
 refine ⟨2, fun k hk => ?_⟩
 obtain ⟨K, rfl⟩ : ∃ K, k = K + 2 := ⟨k - 2, by omega⟩
 show curve_Shift.f (K + 2) c dx dy = _
 unfold curve_Shift.f
 rw [show curve_Check.f c = some 0 by simp [curve_Check.f, good_iff.2 h], Option.bind_some, if_pos rfl]
 have out : curve_Shift.j0 (K + 2) c dx dy true = some ([], 2) := by simp [curve_Shift.j0]
 by_cases m1 : mx dx dy > 16777216
 ·
  rw [if_pos m1]; exact out
 ·
  rw [if_neg m1]
  by_cases m2 : mn dx dy < -16777216
  ·
   rw [decide_eq_true m2]; exact out
  ·
   have hb : (-16777216 ≤ dx ∧ dx ≤ 16777216) ∧ (-16777216 ≤ dy ∧ dy ≤ 16777216) := by
    unfold mx at m1; unfold mn at m2
    split at m1 <;> split at m2 <;> omega
   have hr : rightB (movedC c dx dy) = false := by
    cases e : rightB (movedC c dx dy) with
    | false => rfl
    | true => exact absurd ⟨hb, e⟩ ok
   rw [decide_eq_false m2]
   simp only [curve_Shift.j0]
   rw [if_neg (by simp), show curve_moved.f c dx dy = some (movedC c dx dy) by unfold curve_moved.f; rw [if_pos (by omega)], Option.bind_some]
   unfold curve_bounded.f
   rw [if_neg (by rw [movedC_len]; omega), show curve_right.f (movedC c dx dy) = some false by unfold curve_right.f; rw [hr], Option.bind_some]
   simp [curve_bounded.j0]
theorem moved_good {c : List S57} (h : Good c) {dx dy : Int} (ok : shiftOk c dx dy) : Good (movedC c dx dy) :=
 aff_good (d := movedC c dx dy) h (movedC_len _ _ _) (kx := 1) (ky := 1) (dx := dx) (dy := dy) (by omega) (by omega) (fun i hi => by have := movedC_at h ok.1.1 ok.1.2 hi; omega) ok.2
theorem moved_on {c : List S57} (h : Good c) {dx dy : Int} (ok : shiftOk c dx dy) {x v : Rat} (o : On c x v) : On (movedC c dx dy) (x + dx) (v + dy) := by
 have := aff_on (d := movedC c dx dy) (movedC_len _ _ _) (kx := 1) (ky := 1) (dx := dx) (dy := dy) (by omega) (fun i hi => by have := movedC_at h ok.1.1 ok.1.2 hi; omega) o
 have e : ((1 : Int) : Rat) = 1 := rfl
 rw [e, Rat.mul_one, Rat.mul_one] at this
 exact this
theorem moved_back {c : List S57} (h : Good c) {dx dy : Int} (ok : shiftOk c dx dy) : shiftOk (movedC c dx dy) (-dx) (-dy) ∧ movedC (movedC c dx dy) (-dx) (-dy) = c := by
 have hm := moved_good h ok
 have b1 : -16777216 ≤ -dx ∧ -dx ≤ 16777216 := by have := ok.1.1; omega
 have b2 : -16777216 ≤ -dy ∧ -dy ≤ 16777216 := by have := ok.1.2; omega
 have e : movedC (movedC c dx dy) (-dx) (-dy) = c := by
  refine ext_pp' (by rw [movedC_len, movedC_len]) fun i hi => ?_
  rw [movedC_len, movedC_len] at hi
  have t1 := movedC_at hm b1 b2 (i := i) (by rw [movedC_len]; exact hi)
  have t2 := movedC_at h ok.1.1 ok.1.2 hi
  omega
 exact ⟨⟨⟨b1, b2⟩, by rw [e]; exact good_right h⟩, e⟩
theorem scale_val (r : Rat) (k : Int) (hk : 0 < k) : ∃ g : Int, 0 < g ∧ (r.den : Int) = ((r * (k : Rat)).den : Int) * g ∧ (r * (k : Rat)).num * g = r.num * k := by
 have hd := den_pos r
 have e : r * (k : Rat) = ((r.num * k : Int) : Rat) / ((r.den : Int) : Rat) := by
  have := rat_eta r
  have n1 := cast_pos hd
  have n2 : (((r.den : Int)) : Rat) ≠ 0 := by grind
  rw [Rat.intCast_mul]
  grind
 have nd := num_den (r.num * k) (r.den : Int) hd
 rw [e]
 refine ⟨(Int.gcd (r.num * k) (r.den : Int) : Int), gcd_pos hd, ?_, ?_⟩
 ·
  rw [nd.2]; exact (Int.ediv_mul_cancel (Int.gcd_dvd_right _ _)).symm
 ·
  rw [nd.1]; exact Int.ediv_mul_cancel (Int.gcd_dvd_left _ _)
end Go.Proofs.YtlhhpogaaneamaaDoor.X
namespace Go.Proofs.YtlhhpogaaneamaaDoor.X
open Go.RowKit
set_option linter.unusedVariables false
set_option linter.unusedSimpArgs false
theorem rd_last {c : List S57} (h : Good c) : rd_T57 c ((c.length : Int) - 1) = c.getD (c.length - 1) z57 := by
 have := h.len2
 rw [show (c.length : Int) - 1 = ((c.length - 1 : Nat) : Int) by omega, rd_nat]
theorem joinC_eq {a b : List S57} (ha : Good a) : joinC a b = a ++ movedC (b.drop 1) (px a (a.length - 1) - px b 0) (py a (a.length - 1) - py b 0) := by
 unfold joinC
 rw [rd_last ha]
 rfl
theorem joinC_len {a b : List S57} (ha : Good a) : (joinC a b).length = a.length + (b.length - 1) := by
 rw [joinC_eq ha]; simp [movedC]
theorem joinC_l {a b : List S57} (ha : Good a) {i : Nat} (hi : i < a.length) : px (joinC a b) i = px a i ∧ py (joinC a b) i = py a i := by
 rw [joinC_eq ha]
 unfold px py
 rw [List.getD_eq_getElem?_getD, List.getElem?_append_left hi, ← List.getD_eq_getElem?_getD]
 exact ⟨rfl, rfl⟩
theorem joinC_r {a b : List S57} (ha : Good a) (hb : Good b) {i : Nat} (hi : i < b.length) :
  px (joinC a b) (a.length - 1 + i) = px b i + (px a (a.length - 1) - px b 0) ∧ py (joinC a b) (a.length - 1 + i) = py b i + (py a (a.length - 1) - py b 0) := by
 have la := ha.len2
 cases i with
 | zero =>
  have := joinC_l (b := b) ha (i := a.length - 1) (by omega)
  rw [Nat.add_zero, this.1, this.2]
  omega
 | succ i =>
  have a1 := ha.bx (a.length - 1) (by omega)
  have a2 := ha.by_ (a.length - 1) (by omega)
  have b1 := hb.bx 0 (by omega)
  have b2 := hb.by_ 0 (by omega)
  have c1 := hb.bx (i + 1) hi
  have c2 := hb.by_ (i + 1) hi
  rw [joinC_eq ha]
  have e : (a ++ movedC (b.drop 1) (px a (a.length - 1) - px b 0) (py a (a.length - 1) - py b 0)).getD (a.length - 1 + (i + 1)) z57 = ⟨wrap64 (px b (i + 1) + (px a (a.length - 1) - px b 0)), wrap64 (py b (i + 1) + (py a (a.length - 1) - py b 0))⟩ := by
   rw [List.getD_eq_getElem?_getD, List.getElem?_append_right (by omega), show a.length - 1 + (i + 1) - a.length = i by omega]
   unfold movedC
   rw [List.getElem?_map, List.getElem?_drop, show 1 + i = i + 1 by omega, List.getElem?_eq_getElem hi]
   show (⟨wrap64 (b[i + 1].f0 + _), wrap64 (b[i + 1].f1 + _)⟩ : S57) = _
   unfold px py
   rw [getD_of hi]
  simp only [px, py] at e c1 c2 a1 a2 b1 b2 ⊢
  rw [e]
  exact ⟨w64 (by omega) (by omega), w64 (by omega) (by omega)⟩
theorem joinC_good {a b : List S57} (ha : Good a) (hb : Good b) (hl : (joinC a b).length ≤ 64) (hr : rightB (joinC a b) = true) : Good (joinC a b) := by
 have la := ha.len2
 have lb := hb.len2
 have e := joinC_len (b := b) ha
 unfold rightB at hr
 rw [List.all_eq_true] at hr
 have hb' : ∀ i, i < (joinC a b).length → okp ((joinC a b).getD i z57) = true := fun i hi => hr _ (by rw [getD_of hi]; exact List.getElem_mem _)
 have st : ∀ i, i + 1 < (joinC a b).length → px (joinC a b) i < px (joinC a b) (i + 1) ∧ py (joinC a b) i < py (joinC a b) (i + 1) := by
  intro i hi
  by_cases h : i + 1 < a.length
  ·
   have h1 := joinC_l (b := b) ha (i := i) (by omega)
   have h2 := joinC_l (b := b) ha (i := i + 1) h
   have x1 := ha.ix i h
   have x2 := ha.iy i h
   omega
  ·
   obtain ⟨n, rfl⟩ : ∃ n, i = a.length - 1 + n := ⟨i - (a.length - 1), by omega⟩
   have h1 := joinC_r ha hb (i := n) (by omega)
   have h2 := joinC_r ha hb (i := n + 1) (by omega)
   rw [← Nat.add_assoc] at h2
   have x1 := hb.ix n (by omega)
   have x2 := hb.iy n (by omega)
   omega
 refine ⟨by omega, hl, fun i hi => ?_, fun i hi => ?_, fun i hi => (st i hi).1, fun i hi => (st i hi).2⟩
 ·
  have := hb' i hi; simp only [okp, okc, Bool.and_eq_true, decide_eq_true_eq] at this; exact this.1
 ·
  have := hb' i hi; simp only [okp, okc, Bool.and_eq_true, decide_eq_true_eq] at this; exact this.2
theorem join_on_l {a b : List S57} (ha : Good a) {x v : Rat} (o : On a x v) : On (joinC a b) x v := by
 obtain ⟨i, hi, h1, h2, h3⟩ := o
 have e := joinC_len (b := b) ha
 have t1 := joinC_l (b := b) ha (i := i) (by omega)
 have t2 := joinC_l (b := b) ha (i := i + 1) hi
 exact ⟨i, by omega, by rw [t1.1]; exact h1, by rw [t2.1]; exact h2, by rw [t1.1, t1.2, t2.1, t2.2]; exact h3⟩
theorem join_on_r {a b : List S57} (ha : Good a) (hb : Good b) {x v : Rat} (o : On b x v) : On (joinC a b) (x + ((px a (a.length - 1) - px b 0 : Int) : Rat)) (v + ((py a (a.length - 1) - py b 0 : Int) : Rat)) := by
 obtain ⟨i, hi, h1, h2, h3⟩ := o
 have la := ha.len2
 have e := joinC_len (b := b) ha
 have t1 := joinC_r ha hb (i := i) (by omega)
 have t2 := joinC_r ha hb (i := i + 1) hi
 rw [← Nat.add_assoc] at t2
 generalize px a (a.length - 1) - px b 0 = dx at *
 generalize py a (a.length - 1) - py b 0 = dy at *
 refine ⟨a.length - 1 + i, by omega, ?_, ?_, ?_⟩
 ·
  rw [t1.1, Rat.intCast_add]; grind
 ·
  rw [t2.1, Rat.intCast_add]; grind
 ·
  rw [t1.1, t1.2, t2.1, t2.2]
  simp only [Rat.intCast_add]
  grind
theorem num_den_add (v : Rat) (n : Int) : (v + (n : Rat)).num = v.num + n * (v.den : Int) ∧ ((v + (n : Rat)).den : Int) = (v.den : Int) := by
 have hd := den_pos v
 have e : v + (n : Rat) = ((v.num + n * (v.den : Int) : Int) : Rat) / ((v.den : Int) : Rat) := by
  have := rat_eta v
  have n1 := cast_pos hd
  have n2 : (((v.den : Int)) : Rat) ≠ 0 := by grind
  rw [Rat.intCast_add, Rat.intCast_mul]
  grind
 have k := num_den (v.num + n * (v.den : Int)) (v.den : Int) hd
 have g : Int.gcd (v.num + n * (v.den : Int)) (v.den : Int) = 1 := by
  rw [Int.gcd_add_mul_right_left]
  exact v.reduced
 rw [e, k.1, k.2, g]
 simp
end Go.Proofs.YtlhhpogaaneamaaDoor.X
namespace Go.Proofs.YtlhhpogaaneamaaDoor.X
open Go.RowKit Go.Shelf Go.Proofs.YtlhhpogaaneamaaDoorW.PrintWords Go.Proofs.YtlhhpogaaneamaaDoorW.PrintLast Go.Proofs.YtlhhpogaaneamaaDoorW.PrintMore
set_option linter.unusedVariables false
theorem lowest_iff {n d n' d' : Int} (hd : 0 < d) (hd' : 0 < d') : lowestI n d = lowestI n' d' ↔ n * d' = n' * d := by
 unfold lowestI
 have h1 := num_den n d hd
 have h2 := num_den n' d' hd'
 rw [Prod.mk.injEq, ← h1.1, ← h1.2, ← h2.1, ← h2.2, ← rat_eq_iff, div_eq_div_iff _ _ _ _ hd hd']
theorem rate_iff {p q r : S57} (h1 : LineOk (p, q)) (h2 : LineOk (q, r)) : rateI (p, q) = rateI (q, r) ↔ straightB p q r = true := by
 unfold rateI straightB
 rw [lowest_iff h1.wide.1 h2.wide.1]
 simp [highI, wideI]
theorem drop_two {c : List S57} {i : Int} (h0 : 0 ≤ i) (h1 : i + 1 < c.length) : c.drop i.toNat = rd_T57 c i :: rd_T57 c (i + 1) :: c.drop (i + 2).toNat := by
 unfold rd_T57
 obtain ⟨k, rfl⟩ : ∃ k : Nat, i = k := ⟨i.toNat, by omega⟩
 rw [show ((k : Int) + 1).toNat = k + 1 by omega, show ((k : Int) + 2).toNat = k + 2 by omega, show ((k : Int)).toNat = k by omega]
 rw [List.drop_eq_getElem_cons (by omega : k < c.length), List.drop_eq_getElem_cons (by omega : k + 1 < c.length), getD_of (by omega : k < c.length), getD_of (by omega : k + 1 < c.length)]
theorem drop_one' {c : List S57} {i : Int} (h0 : 0 ≤ i) (h1 : i + 1 = c.length) : c.drop i.toNat = [rd_T57 c i] := by
 unfold rd_T57
 obtain ⟨k, rfl⟩ : ∃ k : Nat, i = k := ⟨i.toNat, by omega⟩
 rw [show ((k : Int)).toNat = k by omega]
 rw [List.drop_eq_getElem_cons (by omega : k < c.length), getD_of (by omega : k < c.length), List.drop_eq_nil_of_le (by omega)]
theorem line_ok {c : List S57} (h : Good c) {i : Int} (h0 : 0 ≤ i) (h1 : i + 1 < c.length) : LineOk (rd_T57 c i, rd_T57 c (i + 1)) := by
 refine good_line h (mem_linesOf.2 ⟨i.toNat, by omega, ?_⟩)
 unfold rd_T57
 rw [show (i + 1).toNat = i.toNat + 1 by omega]
set_option maxRecDepth 100000 in
set_option maxHeartbeats 2000000 in
theorem normal_good (A : Option Addr) (cap : Nat) (c : List S57) (w : World) (hr : Kd.C k57 w A c.length c) (hc : c.length ≤ cap) (hg : goodB c = true) :
  Calls Tryd.prog 44 #[.slice A c.length cap] w fun e w' => ∃ v0_ : Value, e = .returned (.tuple #[v0_, .int .i64 0]) ∧ Kd.R k57 57 w' w.heap.size (fun _ => True) v0_ (normC c) ∧ Below w.heap.size w w' := by
 have hu57 := Tryd.underlying57
 have hu72 := Tryd.underlying72
 have hu25 := Tryd.underlying25
 have HR := Aside0.mk hr
 have HG := Aside0.mk (good_of hg)
 have HC := Aside0.mk (show curve_Check.f c = some 0 by simp [curve_Check.f, hg])
 have hl2 := HG.out.len2
 have hl64 := HG.out.len64
 clear hr hg
 obtain ⟨ad, e259, hy0, hy1⟩ := at_T57 HR.out 0 (by omega) (by omega)
 cases e259
 rw [show ad.add (Int.toNat 0 * 2) = ad by simp [Addr.add]] at hy0 hy1
 have HP0 := Aside0.mk hy0
 have HP1 := Aside0.mk hy1
 clear hy0 hy1
 go_enter Tryd.func44, Tryd.ntmps44
 go_wp2_with fail
 refine (curve_Check.calls (some ad) cap c 0 _ HR.out hc HC.out).mono ?_
 rintro e w1 ⟨rfl, hb⟩
 have HB1 := Aside0.mk hb
 have y0 := (HB1.out.cell (World.block_lt_of_cell? w _ HP0.out)).trans HP0.out
 have y1 := (HB1.out.cell (World.block_lt_of_cell? w _ HP1.out)).trans HP1.out
 have qp : 0 < c.length := by omega
 clear hb
 go_wp2_with ((with_reducible refine gate_dst (N := 17) rfl ?_); refine Kd.R_lit k57 _ 57 ?hg (N := 17) ?hd (xs := ([rd_T57 c 0] : List S57)) (inner := [.int .i64 (rd_T57 c 0).f0, .int .i64 (rd_T57 c 0).f1]) (ok := fun _ => True) (okp := fun _ => True) ?hr ?hp (fun _ hk => hk) trivial (Below.refl _ _) (Nat.le_refl _) (by simp) ?_; (case hd => rfl); (case hg => rfl); (case hr => first | (go_simp; done) | (go_simp; rfl)); (case hp => exact (Reps.c2 (show Kd.M k57 _ _ _ (rd_T57 c 0) [.int .i64 (rd_T57 c 0).f0, .int .i64 (rd_T57 c 0).f1] from (k57_mkM _ _ _ (rd_T57 c 0))) (Reps.none _ _))); intro v17 w2 ho hb hg_ hnew_; have HO := Aside0.mk (Kd.R_lower ho HB1.out.size); have HB := Aside0.mk (HB1.out.trans (hb.mono HB1.out.size)); clear ho hb hg_ hnew_)
 go_loopw [5, 6] (fun v5 v6 wr => ∃ (i : Int) (xs : List S57), v6 = .int .i64 i ∧ 1 ≤ i ∧ i + 1 ≤ c.length ∧ xs.length ≤ i ∧ Aside0 (normC c = xs ++ nrm (rd_T57 c (i - 1)) (c.drop i.toNat)) ∧ Aside0 (Kd.R k57 57 wr w.heap.size (fun _ => True) v5 xs) ∧ Aside0 (Below w.heap.size w wr)) (fun _ v6 _ => c.length - (intOf v6).toNat)
 case atStart =>
  exact ⟨1, [rd_T57 c 0], rfl, by omega, by omega, by simp, ⟨by
   have h := drop_two (c := c) (i := 0) (by omega) (by omega)
   have h' : c = rd_T57 c 0 :: c.drop 1 := by
    conv => lhs; rw [show c = c.drop (0 : Int).toNat from rfl, h]
    rw [List.cons.injEq]; refine ⟨rfl, ?_⟩
    have := congrArg (List.drop 1) h; simpa using this.symm
   conv => lhs; rw [h']
   rfl⟩, HO, HB⟩
 case round =>
  clear HO HB
  obtain ⟨i, xs, rfl, h0, h1, hxs, HN, HO, HB⟩ := hrel
  by_cases hlt : i + 1 < c.length
  ·
   have L1 : LineOk (rd_T57 c (i - 1), rd_T57 c i) := by have h := line_ok HG.out (i := i - 1) (by omega) (by omega); rwa [show i - 1 + 1 = i by omega] at h
   have L2 : LineOk (rd_T57 c i, rd_T57 c (i + 1)) := line_ok HG.out (by omega) hlt
   have hri := rate_iff L1 L2
   obtain ⟨k1, hk1⟩ := (rate_ev L1).one
   obtain ⟨k2, hk2⟩ := (rate_ev L2).one
   obtain ⟨⟨ra, rb⟩, hra⟩ : ∃ q, rateI (rd_T57 c (i - 1), rd_T57 c i) = q := ⟨_, rfl⟩
   obtain ⟨⟨rc, rd'⟩, hrc⟩ : ∃ q, rateI (rd_T57 c i, rd_T57 c (i + 1)) = q := ⟨_, rfl⟩
   rw [hra] at hk1 hri
   rw [hrc] at hk2 hri
   have HK1 := Aside0.mk hk1
   have HK2 := Aside0.mk hk2
   have HRI := Aside0.mk hri
   clear hk1 hk2 hri hra hrc L1 L2
   obtain ⟨ad1, e1, p0, p1⟩ := at_T57 HR.out (i - 1) (by omega) (by omega)
   cases e1
   obtain ⟨ad1, e1, p2, p3⟩ := at_T57 HR.out i (by omega) (by omega)
   cases e1
   obtain ⟨ad1, e1, p4, p5⟩ := at_T57 HR.out (i + 1) (by omega) (by omega)
   cases e1
   replace p0 := (HB.out.cell (World.block_lt_of_cell? w _ p0)).trans p0
   replace p1 := (HB.out.cell (World.block_lt_of_cell? w _ p1)).trans p1
   replace p2 := (HB.out.cell (World.block_lt_of_cell? w _ p2)).trans p2
   replace p3 := (HB.out.cell (World.block_lt_of_cell? w _ p3)).trans p3
   replace p4 := (HB.out.cell (World.block_lt_of_cell? w _ p4)).trans p4
   replace p5 := (HB.out.cell (World.block_lt_of_cell? w _ p5)).trans p5
   rw [show (i - 1).toNat = i.toNat - 1 by omega] at p0 p1
   have u1 : IntKind.i64.wrap (i - 1) = i - 1 := IntWalk.i64_in _ (by omega)
   have u2 : IntKind.i64.wrap (i + 1) = i + 1 := IntWalk.i64_in _ (by omega)
   have u3 : 0 ≤ i - 1 := by omega
   have u4 : i - 1 < c.length := by omega
   have u5' : 0 ≤ i := by omega
   have u6 : i < c.length := by omega
   have u7 : 0 ≤ i + 1 := by omega
   go_wp2_with fail
   go_quiet (fail)
   go_wp2_with fail
   refine (curve_line_rate.calls k1 _ _ _ _ ra rb _ HK1.out).mono ?_
   rintro e w3 ⟨rfl, hb1⟩
   have H1 := Aside0.mk ((pw_below_drewN (Below.refl wr.heap.size wr) nq).trans (hb1.mono (Nat.le_refl _)))
   have HQ2 := Aside0.mk p2
   have HQ3 := Aside0.mk p3
   clear p0 p1 p2 p3 p4 p5 hb1
   go_wp2_with fail
   refine (curve_line_rate.calls k2 _ _ _ _ rc rd' _ HK2.out).mono ?_
   rintro e w4 ⟨rfl, hb2⟩
   have H2 := Aside0.mk (H1.out.trans (hb2.mono H1.out.size))
   have HO2 := Aside0.mk (Kd.R_below HO.out H2.out)
   have HB2 := Aside0.mk (HB.out.trans (H2.out.mono HB.out.size))
   have q2 := (H2.out.cell (World.block_lt_of_cell? wr _ HQ2.out)).trans HQ2.out
   have q3 := (H2.out.cell (World.block_lt_of_cell? wr _ HQ3.out)).trans HQ3.out
   clear hb2 HO HB
   have HD := Aside0.mk (drop_two (c := c) (by omega : 0 ≤ i) hlt)
   have HD1 := Aside0.mk (show c.drop (i + 1).toNat = rd_T57 c (i + 1) :: c.drop (i + 2).toNat by
    have h := congrArg (List.drop 1) HD.out
    rw [List.drop_drop] at h
    simpa [show (i + 1).toNat = i.toNat + 1 by omega] using h)
   by_cases hs : straightB (rd_T57 c (i - 1)) (rd_T57 c i) (rd_T57 c (i + 1)) = true
   ·
    have hq := HRI.out.2 hs
    have HS := Aside0.mk hs
    clear hs
    cases hq
    go_wp2_with fail
    go_roundw
    case rel =>
     refine ⟨i + 1, xs, by go_num, by omega, by omega, by omega, ⟨?_⟩, HO2, HB2⟩
     rw [HN.out, HD.out, HD1.out, show i + 1 - 1 = i by omega]
     simp only [nrm]
     rw [if_pos HS.out]
    case measure => simp [intOf]; omega
   ·
    have hne := fun h => hs (HRI.out.1 h)
    have HS := Aside0.mk hs
    clear hs
    by_cases hac : ra = rc
    ·
     have hbd : (rb == rd') = false := by
      cases hbd : (rb == rd') with
      | false => rfl
      | true => exact absurd (by rw [hac, beq_iff_eq.1 hbd]) hne
     clear hne
     subst hac
     go_wp2_with ((with_reducible refine gate_builtin (b := .append) (xs := #[.tmp 52, .tmp 57]) rfl ?_); at_builtin; refine Kd.R_append k57 (w0 := w) w.heap.size rfl (.tmp 52) (.tmp 57) 23 57 (.agg #[(.int .i64 0), (.int .i64 0)]) 16 rfl Tryd.underlying23 info57 rfl (by decide) (by omega) u5 xs (rd_T57 c i) [.int .i64 ((rd_T57 c i)).f0, .int .i64 ((rd_T57 c i)).f1] (fun _ => True) (fun _ => False) rfl rfl ?aP (fun _ hk => hk.elim) ?aF ?aO ?aB ?aS ?aL ?_; (case aP => exact k57_mkM _ _ _ (rd_T57 c i)); (case aB => exact HB2.out); (case aF => exact (fun _ _ => trivial)); (case aO => exact HO2.out); (case aS => exact below_size HB2.out); (case aL => omega); intro v9 w9 ho hb hg hat; have HO3 := Aside0.mk ho; have HB3 := Aside0.mk hb; clear ho hb hg hat)
     go_roundw
     case rel => exact ⟨i + 1, xs ++ [rd_T57 c i], by go_num, by omega, by omega, by simp; omega, ⟨by
      rw [HN.out, HD.out, HD1.out, show i + 1 - 1 = i by omega]
      simp only [nrm]
      rw [if_neg HS.out]; simp⟩, HO3, HB3⟩
     case measure => simp [intOf]; omega
    ·
     have hac' : (ra == rc) = false := by simpa using hac
     clear hne hac
     go_wp2_with ((with_reducible refine gate_builtin (b := .append) (xs := #[.tmp 52, .tmp 57]) rfl ?_); at_builtin; refine Kd.R_append k57 (w0 := w) w.heap.size rfl (.tmp 52) (.tmp 57) 23 57 (.agg #[(.int .i64 0), (.int .i64 0)]) 16 rfl Tryd.underlying23 info57 rfl (by decide) (by omega) u5 xs (rd_T57 c i) [.int .i64 ((rd_T57 c i)).f0, .int .i64 ((rd_T57 c i)).f1] (fun _ => True) (fun _ => False) rfl rfl ?aP (fun _ hk => hk.elim) ?aF ?aO ?aB ?aS ?aL ?_; (case aP => exact k57_mkM _ _ _ (rd_T57 c i)); (case aB => exact HB2.out); (case aF => exact (fun _ _ => trivial)); (case aO => exact HO2.out); (case aS => exact below_size HB2.out); (case aL => omega); intro v9 w9 ho hb hg hat; have HO3 := Aside0.mk ho; have HB3 := Aside0.mk hb; clear ho hb hg hat)
     go_roundw
     case rel => exact ⟨i + 1, xs ++ [rd_T57 c i], by go_num, by omega, by omega, by simp; omega, ⟨by
      rw [HN.out, HD.out, HD1.out, show i + 1 - 1 = i by omega]
      simp only [nrm]
      rw [if_neg HS.out]; simp⟩, HO3, HB3⟩
     case measure => simp [intOf]; omega
  ·
   obtain ⟨ad1, e1, p2, p3⟩ := at_T57 HR.out ((c.length : Int) - 1) (by omega) (by omega)
   cases e1
   rw [show ((c.length : Int) - 1).toNat = c.length - 1 by omega] at p2 p3
   replace p2 := (HB.out.cell (World.block_lt_of_cell? w _ p2)).trans p2
   replace p3 := (HB.out.cell (World.block_lt_of_cell? w _ p3)).trans p3
   have q1 : ¬ ((c.length : Int) - 1 < 0) := by omega
   have HE := Aside0.mk (show normC c = xs ++ [rd_T57 c ((c.length : Int) - 1)] by
    rw [HN.out, drop_one' (c := c) (i := i) (by omega) (by omega), show (c.length : Int) - 1 = i by omega]; rfl)
   have u1 : IntKind.i64.wrap (i + 1) = i + 1 := IntWalk.i64_in _ (by omega)
   go_wp2_with ((with_reducible refine gate_builtin (b := .append) (xs := #[.tmp 59, .tmp 66]) rfl ?_); at_builtin; refine Kd.R_append k57 (w0 := w) w.heap.size rfl (.tmp 59) (.tmp 66) 23 57 (.agg #[(.int .i64 0), (.int .i64 0)]) 16 rfl Tryd.underlying23 info57 rfl (by decide) (by omega) u5 xs (rd_T57 c ((c.length : Int) - 1)) [.int .i64 ((rd_T57 c ((c.length : Int) - 1))).f0, .int .i64 ((rd_T57 c ((c.length : Int) - 1))).f1] (fun _ => True) (fun _ => False) rfl rfl ?aP (fun _ hk => hk.elim) ?aF ?aO ?aB ?aS ?aL ?_; (case aP => exact k57_mkM _ _ _ (rd_T57 c ((c.length : Int) - 1))); (case aB => exact HB.out); (case aF => exact (fun _ _ => trivial)); (case aO => exact HO.out); (case aS => exact below_size HB.out); (case aL => omega); intro v9 w9 ho hb hg hat; have HO3 := Aside0.mk ho; have HB3 := Aside0.mk hb; clear ho hb hg hat)
   go_ret2
   exact ⟨_, rfl, by have := HO3.out; rw [← HE.out] at this; exact this, HB3.out⟩
set_option maxRecDepth 100000 in
set_option maxHeartbeats 400000 in
theorem normal_bad (A : Option Addr) (cap : Nat) (c : List S57) (w : World) (hr : Kd.C k57 w A c.length c) (hc : c.length ≤ cap) (hg : goodB c = false) :
  Calls Tryd.prog 44 #[.slice A c.length cap] w fun e w' => e = .returned (.tuple #[.slice none 0 0, .int .i64 10]) ∧ Below w.heap.size w w' := by
 have HR := Aside0.mk hr
 have HC := Aside0.mk (show curve_Check.f c = some 10 by simp [curve_Check.f, hg])
 clear hr hg
 go_enter Tryd.func44, Tryd.ntmps44
 go_wp2_with fail
 refine (curve_Check.calls A cap c 10 _ HR.out hc HC.out).mono ?_
 rintro e w1 ⟨rfl, hb⟩
 have HB1 := Aside0.mk hb
 clear hb
 go_wp2_with fail
 go_ret2
 exact ⟨rfl, HB1.out⟩
theorem curve_Normal.calls (A0 : Option Addr) (c0 : Nat) (l0 : List S57) (r1 : List S57) (r2 : Int) (w : World) (hr0 : Kd.C k57 w A0 l0.length l0) (hc0 : l0.length ≤ c0) (h : curve_Normal.f l0 = some (r1, r2)) :
  Calls Tryd.prog 44 #[.slice A0 l0.length c0] w fun e w' => ∃ v0_ : Value, e = .returned (.tuple #[v0_, .int .i64 r2]) ∧ Kd.R k57 57 w' w.heap.size (fun _ => True) v0_ r1 ∧ Below w.heap.size w w' := by
 unfold curve_Normal.f at h
 cases hg : goodB l0
 ·
  rw [hg, if_neg (by simp)] at h
  simp only [Option.some.injEq, Prod.mk.injEq] at h
  obtain ⟨rfl, rfl⟩ := h
  refine (normal_bad A0 c0 l0 w hr0 hc0 hg).mono ?_
  rintro e w' ⟨rfl, hb⟩
  exact ⟨_, rfl, Kd.R_nil _ _ _ _ _, hb⟩
 ·
  rw [hg, if_pos rfl] at h
  simp only [Option.some.injEq, Prod.mk.injEq] at h
  obtain ⟨rfl, rfl⟩ := h
  exact normal_good A0 c0 l0 w hr0 hc0 hg
end Go.Proofs.YtlhhpogaaneamaaDoor.X
namespace Go.Proofs.YtlhhpogaaneamaaDoor.X
open Go.RowKit Go.Shelf Go.Proofs.YtlhhpogaaneamaaDoorW.PrintWords Go.Proofs.YtlhhpogaaneamaaDoorW.PrintLast Go.Proofs.YtlhhpogaaneamaaDoorW.PrintMore
set_option linter.unusedVariables false
def midB (f t : Int) (p : S57) : Bool := decide (f < p.f0) && decide (p.f0 < t)
def curve_Cut.f (c : List S57) (f t : Int) : Option (List S57 × Int) :=
 if goodB c = true then
  if inB c f = true ∧ inB c t = true ∧ f < t then
   match lineAt c f, lineAt c t with
   | some l, some m => if lowI l f = upI l f ∧ lowI m t = upI m t then some (⟨f, lowI l f⟩ :: (c.filter (midB f t) ++ [⟨t, lowI m t⟩]), 0) else some ([], 11)
   | _, _ => none
  else some ([], 1)
 else some ([], 10)
theorem filter_snoc {c : List S57} {f : S57 → Bool} {i : Int} (h0 : 0 ≤ i) (h1 : i < c.length) : (c.take (i + 1).toNat).filter f = (c.take i.toNat).filter f ++ (if f (rd_T57 c i) = true then [rd_T57 c i] else []) := by
 unfold rd_T57
 have e : (i + 1).toNat = i.toNat + 1 := by omega
 have h : i.toNat < c.length := by omega
 rw [e, List.take_add_one, List.getElem?_eq_getElem h, List.filter_append, List.getD_eq_getElem?_getD, List.getElem?_eq_getElem h]
 congr 1
 by_cases hf : f c[i.toNat] = true <;> simp [hf]
set_option maxRecDepth 100000 in
set_option maxHeartbeats 8000000 in
theorem cut_bad (A : Option Addr) (cap : Nat) (c : List S57) (f t : Int) (w : World) (hr : Kd.C k57 w A c.length c) (hc : c.length ≤ cap) (hg : goodB c = false) :
  Calls Tryd.prog 46 #[.slice A c.length cap, .int .i64 f, .int .i64 t] w fun e w' => ∃ v0_ : Value, e = .returned (.tuple #[v0_, .int .i64 10]) ∧ Kd.R k57 57 w' w.heap.size (fun _ => True) v0_ ([] : List S57) ∧ Below w.heap.size w w' := by
 have hu57 := Tryd.underlying57
 have hu72 := Tryd.underlying72
 have HR := Aside0.mk hr
 clear hr
 have HC := Aside0.mk (show curve_Check.f c = some 10 by simp [curve_Check.f, hg])
 clear hg
 go_enter Tryd.func46, Tryd.ntmps46
 go_wp2_with fail
 refine (curve_Check.calls A cap c 10 _ HR.out hc HC.out).mono ?_
 rintro e w1 ⟨rfl, hb⟩
 have HB := Aside0.mk hb
 clear hb
 go_wp2_with fail
 go_ret2
 exact ⟨_, rfl, Kd.R_nil _ _ _ _ _, HB.out⟩
set_option maxRecDepth 100000 in
set_option maxHeartbeats 8000000 in
theorem cut_out1 (A : Option Addr) (cap : Nat) (c : List S57) (f t : Int) (w : World) (hr : Kd.C k57 w A c.length c) (hc : c.length ≤ cap) (hg : goodB c = true) (hf : inB c f = false) :
  Calls Tryd.prog 46 #[.slice A c.length cap, .int .i64 f, .int .i64 t] w fun e w' => ∃ v0_ : Value, e = .returned (.tuple #[v0_, .int .i64 1]) ∧ Kd.R k57 57 w' w.heap.size (fun _ => True) v0_ ([] : List S57) ∧ Below w.heap.size w w' := by
 have hu57 := Tryd.underlying57
 have hu72 := Tryd.underlying72
 have HR := Aside0.mk hr
 clear hr
 have HG := Aside0.mk (good_of hg)
 have HC := Aside0.mk (show curve_Check.f c = some 0 by simp [curve_Check.f, hg])
 have HWf := Aside0.mk (show curve_within.f c f = some false by rw [within_eq HG.out, hf])
 clear hg hf
 go_enter Tryd.func46, Tryd.ntmps46
 go_wp2_with fail
 refine (curve_Check.calls A cap c 0 _ HR.out hc HC.out).mono ?_
 rintro e w1 ⟨rfl, hb⟩
 have HB := Aside0.mk hb
 clear hb
 go_wp2_with fail
 refine (curve_within.calls A cap c f false _ (Kd.C_below HR.out HB.out) hc HWf.out).mono ?_
 rintro e w2 ⟨rfl, ⟨nf, hnf⟩⟩
 have HB := Aside0.mk (show Below w.heap.size w w2 by rw [hnf]; exact pw_below_drewN HB.out nf)
 clear hnf
 go_wp2_with fail
 go_ret2
 exact ⟨_, rfl, Kd.R_nil _ _ _ _ _, HB.out⟩
set_option maxRecDepth 100000 in
set_option maxHeartbeats 8000000 in
theorem cut_out2 (A : Option Addr) (cap : Nat) (c : List S57) (f t : Int) (w : World) (hr : Kd.C k57 w A c.length c) (hc : c.length ≤ cap) (hg : goodB c = true) (hf : inB c f = true) (ht : inB c t = false) :
  Calls Tryd.prog 46 #[.slice A c.length cap, .int .i64 f, .int .i64 t] w fun e w' => ∃ v0_ : Value, e = .returned (.tuple #[v0_, .int .i64 1]) ∧ Kd.R k57 57 w' w.heap.size (fun _ => True) v0_ ([] : List S57) ∧ Below w.heap.size w w' := by
 have hu57 := Tryd.underlying57
 have hu72 := Tryd.underlying72
 have HR := Aside0.mk hr
 clear hr
 have HG := Aside0.mk (good_of hg)
 have HC := Aside0.mk (show curve_Check.f c = some 0 by simp [curve_Check.f, hg])
 have HWf := Aside0.mk (show curve_within.f c f = some true by rw [within_eq HG.out, hf])
 have HWt := Aside0.mk (show curve_within.f c t = some false by rw [within_eq HG.out, ht])
 clear hg hf ht
 go_enter Tryd.func46, Tryd.ntmps46
 go_wp2_with fail
 refine (curve_Check.calls A cap c 0 _ HR.out hc HC.out).mono ?_
 rintro e w1 ⟨rfl, hb⟩
 have HB := Aside0.mk hb
 clear hb
 go_wp2_with fail
 refine (curve_within.calls A cap c f true _ (Kd.C_below HR.out HB.out) hc HWf.out).mono ?_
 rintro e w2 ⟨rfl, ⟨nf, hnf⟩⟩
 have HB := Aside0.mk (show Below w.heap.size w w2 by rw [hnf]; exact pw_below_drewN HB.out nf)
 clear hnf
 go_wp2_with fail
 refine (curve_within.calls A cap c t false _ (Kd.C_below HR.out HB.out) hc HWt.out).mono ?_
 rintro e w2 ⟨rfl, ⟨nt, hnt⟩⟩
 have HB := Aside0.mk (show Below w.heap.size w w2 by rw [hnt]; exact pw_below_drewN HB.out nt)
 clear hnt
 go_wp2_with fail
 go_ret2
 exact ⟨_, rfl, Kd.R_nil _ _ _ _ _, HB.out⟩
set_option maxRecDepth 100000 in
set_option maxHeartbeats 8000000 in
theorem cut_out3 (A : Option Addr) (cap : Nat) (c : List S57) (f t : Int) (w : World) (hr : Kd.C k57 w A c.length c) (hc : c.length ≤ cap) (hg : goodB c = true) (hf : inB c f = true) (ht : inB c t = true) (hl : t ≤ f) :
  Calls Tryd.prog 46 #[.slice A c.length cap, .int .i64 f, .int .i64 t] w fun e w' => ∃ v0_ : Value, e = .returned (.tuple #[v0_, .int .i64 1]) ∧ Kd.R k57 57 w' w.heap.size (fun _ => True) v0_ ([] : List S57) ∧ Below w.heap.size w w' := by
 have hu57 := Tryd.underlying57
 have hu72 := Tryd.underlying72
 have HR := Aside0.mk hr
 clear hr
 have HG := Aside0.mk (good_of hg)
 have HC := Aside0.mk (show curve_Check.f c = some 0 by simp [curve_Check.f, hg])
 have HWf := Aside0.mk (show curve_within.f c f = some true by rw [within_eq HG.out, hf])
 have HWt := Aside0.mk (show curve_within.f c t = some true by rw [within_eq HG.out, ht])
 clear hg hf ht
 go_enter Tryd.func46, Tryd.ntmps46
 go_wp2_with fail
 refine (curve_Check.calls A cap c 0 _ HR.out hc HC.out).mono ?_
 rintro e w1 ⟨rfl, hb⟩
 have HB := Aside0.mk hb
 clear hb
 go_wp2_with fail
 refine (curve_within.calls A cap c f true _ (Kd.C_below HR.out HB.out) hc HWf.out).mono ?_
 rintro e w2 ⟨rfl, ⟨nf, hnf⟩⟩
 have HB := Aside0.mk (show Below w.heap.size w w2 by rw [hnf]; exact pw_below_drewN HB.out nf)
 clear hnf
 go_wp2_with fail
 refine (curve_within.calls A cap c t true _ (Kd.C_below HR.out HB.out) hc HWt.out).mono ?_
 rintro e w2 ⟨rfl, ⟨nt, hnt⟩⟩
 have HB := Aside0.mk (show Below w.heap.size w w2 by rw [hnt]; exact pw_below_drewN HB.out nt)
 clear hnt
 go_wp2_with fail
 go_ret2
 exact ⟨_, rfl, Kd.R_nil _ _ _ _ _, HB.out⟩
set_option maxRecDepth 100000 in
set_option maxHeartbeats 8000000 in
theorem cut_in1 (A : Option Addr) (cap : Nat) (c : List S57) (f t : Int) (w : World) (hr : Kd.C k57 w A c.length c) (hc : c.length ≤ cap) (hg : goodB c = true) (hf : inB c f = true) (ht : inB c t = true) (hlt : f < t) (l m : S57 × S57) (hll : lineAt c f = some l) (hmm0 : lineAt c t = some m) (hcond : lowI l f ≠ upI l f) :
  Calls Tryd.prog 46 #[.slice A c.length cap, .int .i64 f, .int .i64 t] w fun e w' => ∃ v0_ : Value, e = .returned (.tuple #[v0_, .int .i64 11]) ∧ Kd.R k57 57 w' w.heap.size (fun _ => True) v0_ ([] : List S57) ∧ Below w.heap.size w w' := by
 have hu57 := Tryd.underlying57
 have hu72 := Tryd.underlying72
 have HR := Aside0.mk hr
 clear hr
 have HG := Aside0.mk (good_of hg)
 have HC := Aside0.mk (show curve_Check.f c = some 0 by simp [curve_Check.f, hg])
 obtain ⟨⟨⟨p0, p1⟩, ⟨p2, p3⟩⟩, hl0, hml, q0, q1, _⟩ := asked_in HG.out hf
 obtain ⟨⟨⟨s0, s1⟩, ⟨s2, s3⟩⟩, hm0, hmm, q2, q3, _⟩ := asked_in HG.out ht
 obtain rfl : ((⟨p0, p1⟩, ⟨p2, p3⟩) : S57 × S57) = l := Option.some.inj (hl0.symm.trans hll)
 obtain rfl : ((⟨s0, s1⟩, ⟨s2, s3⟩) : S57 × S57) = m := Option.some.inj (hm0.symm.trans hmm0)
 have okl := good_line HG.out hml
 have okm := good_line HG.out hmm
 have HATf := Aside0.mk (show curve_at.f c f = some (p0, p1, p2, p3) by unfold curve_at.f; rw [hll])
 have HATt := Aside0.mk (show curve_at.f c t = some (s0, s1, s2, s3) by unfold curve_at.f; rw [hmm0])
 obtain ⟨a, ha⟩ : ∃ a, lowI (⟨p0, p1⟩, ⟨p2, p3⟩) f = a := ⟨_, rfl⟩
 obtain ⟨a', ha'⟩ : ∃ a, upI (⟨p0, p1⟩, ⟨p2, p3⟩) f = a := ⟨_, rfl⟩
 obtain ⟨b, hb⟩ : ∃ a, lowI (⟨s0, s1⟩, ⟨s2, s3⟩) t = a := ⟨_, rfl⟩
 obtain ⟨b', hb'⟩ : ∃ a, upI (⟨s0, s1⟩, ⟨s2, s3⟩) t = a := ⟨_, rfl⟩
 have k1 := low_eq okl q0 q1
 have k2 := up_eq okl q0 q1
 have k3 := low_eq okm q2 q3
 have k4 := up_eq okm q2 q3
 rw [ha] at k1
 rw [ha'] at k2
 rw [hb] at k3
 rw [hb'] at k4
 rw [ha, ha'] at hcond
 have HL1 := Aside0.mk k1
 have HU1 := Aside0.mk k2
 have HL2 := Aside0.mk k3
 have HU2 := Aside0.mk k4
 have HWf := Aside0.mk (show curve_within.f c f = some true by rw [within_eq HG.out, hf])
 have HWt := Aside0.mk (show curve_within.f c t = some true by rw [within_eq HG.out, ht])
 have z1 : (a == a') = false := by simp [hcond]
 have z2 : (a != a') = true := by simp [hcond]
 clear hg hf ht hll hmm0 hcond hl0 hml q0 q1 hm0 hmm q2 q3 okl okm ha ha' hb hb' k1 k2 k3 k4
 have hl2 := HG.out.len2
 have hl64 := HG.out.len64
 go_enter Tryd.func46, Tryd.ntmps46
 go_wp2_with fail
 refine (curve_Check.calls A cap c 0 _ HR.out hc HC.out).mono ?_
 rintro e w1 ⟨rfl, hb⟩
 have HB := Aside0.mk hb
 clear hb
 go_wp2_with fail
 refine (curve_within.calls A cap c f true _ (Kd.C_below HR.out HB.out) hc HWf.out).mono ?_
 rintro e w2 ⟨rfl, ⟨nf, hnf⟩⟩
 have HB := Aside0.mk (show Below w.heap.size w w2 by rw [hnf]; exact pw_below_drewN HB.out nf)
 clear hnf
 go_wp2_with fail
 refine (curve_within.calls A cap c t true _ (Kd.C_below HR.out HB.out) hc HWt.out).mono ?_
 rintro e w2 ⟨rfl, ⟨nt, hnt⟩⟩
 have HB := Aside0.mk (show Below w.heap.size w w2 by rw [hnt]; exact pw_below_drewN HB.out nt)
 clear hnt
 go_wp2_with fail
 refine (curve_at.calls A cap c f _ _ _ _ _ (Kd.C_below HR.out HB.out) hc HATf.out).mono ?_
 rintro e w3 ⟨rfl, hb⟩
 have HB := Aside0.mk (HB.out.trans (hb.mono HB.out.size))
 clear hb
 go_wp2_with fail
 refine (curve_at.calls A cap c t _ _ _ _ _ (Kd.C_below HR.out HB.out) hc HATt.out).mono ?_
 rintro e w4 ⟨rfl, hb⟩
 have HB := Aside0.mk (HB.out.trans (hb.mono HB.out.size))
 clear hb
 go_wp2_with fail
 obtain ⟨w5, hw5⟩ : ∃ w5, (w4.alloc (.cells #[.int .i64 p0, .int .i64 p1, .int .i64 p2, .int .i64 p3] 72)).alloc (.cells #[.int .i64 s0, .int .i64 s1, .int .i64 s2, .int .i64 s3] 72) = w5 := ⟨_, rfl⟩
 have HP := Aside0.mk (show Blk w5 w4.heap.size 72 #[.int .i64 p0, .int .i64 p1, .int .i64 p2, .int .i64 p3] by rw [← hw5]; exact (Blk.new w4 72 _).alloc _)
 have HQ := Aside0.mk (show Blk w5 (w4.heap.size + 1) 72 #[.int .i64 s0, .int .i64 s1, .int .i64 s2, .int .i64 s3] by
  rw [← hw5]; have h := Blk.new (w4.alloc (.cells #[.int .i64 p0, .int .i64 p1, .int .i64 p2, .int .i64 p3] 72)) 72 #[.int .i64 s0, .int .i64 s1, .int .i64 s2, .int .i64 s3]; rwa [World.size_alloc] at h)
 have HB5 := Aside0.mk (show Below w.heap.size w w5 by rw [← hw5]; exact (HB.out.alloc HB.out.size _).alloc (Nat.le_trans HB.out.size (by simp)) _)
 rw [hw5]
 clear hw5
 have FB := fun (X : World) (h : Below w5.heap.size w5 X) => And.intro ((HP.out.below h HP.out.lt).cell 0) (And.intro ((HP.out.below h HP.out.lt).cell 1) (And.intro ((HP.out.below h HP.out.lt).cell 2) (And.intro ((HP.out.below h HP.out.lt).cell 3) (And.intro ((HQ.out.below h HQ.out.lt).cell 0) (And.intro ((HQ.out.below h HQ.out.lt).cell 1) (And.intro ((HQ.out.below h HQ.out.lt).cell 2) ((HQ.out.below h HQ.out.lt).cell 3)))))))
 have HF := Aside0.mk (show ∀ X : World, Below w5.heap.size w5 X → X.cell? ⟨w4.heap.size, 0, none⟩ = some (.int .i64 p0) ∧ X.cell? ⟨w4.heap.size, 1, none⟩ = some (.int .i64 p1) ∧ X.cell? ⟨w4.heap.size, 2, none⟩ = some (.int .i64 p2) ∧ X.cell? ⟨w4.heap.size, 3, none⟩ = some (.int .i64 p3) ∧ X.cell? ⟨w4.heap.size + 1, 0, none⟩ = some (.int .i64 s0) ∧ X.cell? ⟨w4.heap.size + 1, 1, none⟩ = some (.int .i64 s1) ∧ X.cell? ⟨w4.heap.size + 1, 2, none⟩ = some (.int .i64 s2) ∧ X.cell? ⟨w4.heap.size + 1, 3, none⟩ = some (.int .i64 s3) from FB)
 clear FB
 refine wp_region_IN (n := 6) (I := fun X => Below w5.heap.size w5 X) (by kernel_rfl) ?_
 change AnyI _ _ _ _ _ _ _ _ _ _ (World.drew _)
 have HI := (show Below w5.heap.size w5 w5.drew from below_drew1 (Below.refl _ _))
 refine AnyI.take (i := 0) (v := ?_) rfl rfl (by kernel_rfl) (by kernel_rfl) (by kernel_rfl) (fun _ _ _ h => h) ⟨Or.inl ⟨by rfl, ?_⟩, fun _ => rfl⟩ HI ?_
 rotate_left
 ·
  intro wI hI; obtain ⟨y0, y1, y2, y3, y4, y5, y6, y7⟩ := HF.out _ hI; go_simp; try with_reducible rfl
 go_simp
 refine AnyI.take (i := 1) (v := ?_) rfl rfl (by kernel_rfl) (by kernel_rfl) (by kernel_rfl) (fun _ _ _ h => h) ⟨Or.inl ⟨by rfl, ?_⟩, fun _ => rfl⟩ HI ?_
 rotate_left
 ·
  intro wI hI; obtain ⟨y0, y1, y2, y3, y4, y5, y6, y7⟩ := HF.out _ hI; go_simp; try with_reducible rfl
 go_simp
 refine AnyI.take (i := 3) (v := ?_) rfl rfl (by kernel_rfl) (by kernel_rfl) (by kernel_rfl) (fun _ _ _ h => h) ⟨Or.inl ⟨by rfl, ?_⟩, fun _ => rfl⟩ HI ?_
 rotate_left
 ·
  intro wI hI; obtain ⟨y0, y1, y2, y3, y4, y5, y6, y7⟩ := HF.out _ hI; go_simp; try with_reducible rfl
 go_simp
 refine AnyI.take (i := 4) (v := ?_) rfl rfl (by kernel_rfl) (by kernel_rfl) (by kernel_rfl) (fun _ _ _ h => h) ⟨Or.inl ⟨by rfl, ?_⟩, fun _ => rfl⟩ HI ?_
 rotate_left
 ·
  intro wI hI; obtain ⟨y0, y1, y2, y3, y4, y5, y6, y7⟩ := HF.out _ hI; go_simp; try with_reducible rfl
 go_simp
 refine AnyI.one (i := 2) (by kernel_rfl) rfl (fun K hK => ?_)
 go_simp
 refine ⟨trivial, ?_⟩
 gi_at_call 69
 refine (callsIn_wide.2 (curve_line_low.calls _ _ _ _ _ _ _ HL1.out)).mono ?_
 rintro e W1 ⟨rfl, hb6⟩
 have HI := HI.trans (hb6.mono HI.size)
 clear hb6
 refine hK _ _ HI ?_
 clear hK K
 refine AnyI.one (i := 5) (by kernel_rfl) rfl (fun K hK => ?_)
 go_simp
 refine ⟨trivial, ?_⟩
 gi_at_call 70
 refine (callsIn_wide.2 (curve_line_up.calls _ _ _ _ _ _ _ HU1.out)).mono ?_
 rintro e W2 ⟨rfl, hb6⟩
 have HI := HI.trans (hb6.mono HI.size)
 clear hb6
 refine hK _ _ HI ?_
 clear hK K
 refine AnyI.take (i := 6) (v := .bool true) rfl rfl (by kernel_rfl) (by kernel_rfl) (by kernel_rfl) (fun _ _ _ h => h) ⟨Or.inl ⟨by rfl, ?_⟩, fun _ => rfl⟩ HI ?_
 ·
  intro wI hI; obtain ⟨y0, y1, y2, y3, y4, y5, y6, y7⟩ := HF.out _ hI; go_simp; try with_reducible rfl
 go_simp
 refine AnyI.take (i := 7) (v := .bool true) rfl rfl (by kernel_rfl) (by kernel_rfl) (by kernel_rfl) (fun _ _ _ h => h) ⟨Or.inl ⟨by rfl, ?_⟩, fun _ => rfl⟩ HI ?_
 ·
  intro wI hI; obtain ⟨y0, y1, y2, y3, y4, y5, y6, y7⟩ := HF.out _ hI; go_simp; try with_reducible rfl
 go_simp
 refine AnyI.take (i := 8) (v := undef) rfl rfl (by kernel_rfl) (by kernel_rfl) (by kernel_rfl) (fun _ _ _ h => h) ⟨Or.inr ⟨by rfl, rfl⟩, fun _ => rfl⟩ HI ?_
 go_simp
 refine AnyI.take (i := 9) (v := undef) rfl rfl (by kernel_rfl) (by kernel_rfl) (by kernel_rfl) (fun _ _ _ h => h) ⟨Or.inr ⟨by rfl, rfl⟩, fun _ => rfl⟩ HI ?_
 go_simp
 refine AnyI.take (i := 11) (v := undef) rfl rfl (by kernel_rfl) (by kernel_rfl) (by kernel_rfl) (fun _ _ _ h => h) ⟨Or.inr ⟨by rfl, rfl⟩, fun _ => rfl⟩ HI ?_
 go_simp
 refine AnyI.take (i := 12) (v := undef) rfl rfl (by kernel_rfl) (by kernel_rfl) (by kernel_rfl) (fun _ _ _ h => h) ⟨Or.inr ⟨by rfl, rfl⟩, fun _ => rfl⟩ HI ?_
 go_simp
 refine AnyI.one (i := 10) (by kernel_rfl) rfl (fun K hK => ?_)
 go_simp
 refine ⟨trivial, ?_⟩
 refine hK _ _ HI ?_
 clear hK K
 go_simp
 refine AnyI.one (i := 13) (by kernel_rfl) rfl (fun K hK => ?_)
 go_simp
 refine ⟨trivial, ?_⟩
 refine hK _ _ HI ?_
 clear hK K
 go_simp
 refine AnyI.take (i := 14) (v := undef) rfl rfl (by kernel_rfl) (by kernel_rfl) (by kernel_rfl) (fun _ _ _ h => h) ⟨Or.inr ⟨by rfl, rfl⟩, fun _ => rfl⟩ HI ?_
 go_simp
 refine AnyI.take (i := 15) (v := .bool true) rfl rfl (by kernel_rfl) (by kernel_rfl) (by kernel_rfl) (fun _ _ _ h => h) ⟨Or.inl ⟨by rfl, ?_⟩, fun _ => rfl⟩ HI ?_
 ·
  intro wI hI; obtain ⟨y0, y1, y2, y3, y4, y5, y6, y7⟩ := HF.out _ hI; go_simp; try with_reducible rfl
 go_simp
 refine AnyI.done (by kernel_rfl) ?_ _
 simp only [OnlyN, Exit.then]
 have HBN := Aside0.mk (HB5.out.trans (HI.mono HB5.out.size))
 clear HI HF
 go_wp2_with fail
 go_ret2
 exact ⟨_, rfl, Kd.R_nil _ _ _ _ _, HBN.out⟩
set_option maxRecDepth 100000 in
set_option maxHeartbeats 8000000 in
theorem cut_in2 (A : Option Addr) (cap : Nat) (c : List S57) (f t : Int) (w : World) (hr : Kd.C k57 w A c.length c) (hc : c.length ≤ cap) (hg : goodB c = true) (hf : inB c f = true) (ht : inB c t = true) (hlt : f < t) (l m : S57 × S57) (hll : lineAt c f = some l) (hmm0 : lineAt c t = some m) (hcond : lowI l f = upI l f ∧ lowI m t ≠ upI m t) :
  Calls Tryd.prog 46 #[.slice A c.length cap, .int .i64 f, .int .i64 t] w fun e w' => ∃ v0_ : Value, e = .returned (.tuple #[v0_, .int .i64 11]) ∧ Kd.R k57 57 w' w.heap.size (fun _ => True) v0_ ([] : List S57) ∧ Below w.heap.size w w' := by
 have hu57 := Tryd.underlying57
 have hu72 := Tryd.underlying72
 have HR := Aside0.mk hr
 clear hr
 have HG := Aside0.mk (good_of hg)
 have HC := Aside0.mk (show curve_Check.f c = some 0 by simp [curve_Check.f, hg])
 obtain ⟨⟨⟨p0, p1⟩, ⟨p2, p3⟩⟩, hl0, hml, q0, q1, _⟩ := asked_in HG.out hf
 obtain ⟨⟨⟨s0, s1⟩, ⟨s2, s3⟩⟩, hm0, hmm, q2, q3, _⟩ := asked_in HG.out ht
 obtain rfl : ((⟨p0, p1⟩, ⟨p2, p3⟩) : S57 × S57) = l := Option.some.inj (hl0.symm.trans hll)
 obtain rfl : ((⟨s0, s1⟩, ⟨s2, s3⟩) : S57 × S57) = m := Option.some.inj (hm0.symm.trans hmm0)
 have okl := good_line HG.out hml
 have okm := good_line HG.out hmm
 have HATf := Aside0.mk (show curve_at.f c f = some (p0, p1, p2, p3) by unfold curve_at.f; rw [hll])
 have HATt := Aside0.mk (show curve_at.f c t = some (s0, s1, s2, s3) by unfold curve_at.f; rw [hmm0])
 obtain ⟨a, ha⟩ : ∃ a, lowI (⟨p0, p1⟩, ⟨p2, p3⟩) f = a := ⟨_, rfl⟩
 obtain ⟨a', ha'⟩ : ∃ a, upI (⟨p0, p1⟩, ⟨p2, p3⟩) f = a := ⟨_, rfl⟩
 obtain ⟨b, hb⟩ : ∃ a, lowI (⟨s0, s1⟩, ⟨s2, s3⟩) t = a := ⟨_, rfl⟩
 obtain ⟨b', hb'⟩ : ∃ a, upI (⟨s0, s1⟩, ⟨s2, s3⟩) t = a := ⟨_, rfl⟩
 have k1 := low_eq okl q0 q1
 have k2 := up_eq okl q0 q1
 have k3 := low_eq okm q2 q3
 have k4 := up_eq okm q2 q3
 rw [ha] at k1
 rw [ha'] at k2
 rw [hb] at k3
 rw [hb'] at k4
 rw [ha, ha', hb, hb'] at hcond
 have HL1 := Aside0.mk k1
 have HU1 := Aside0.mk k2
 have HL2 := Aside0.mk k3
 have HU2 := Aside0.mk k4
 have HWf := Aside0.mk (show curve_within.f c f = some true by rw [within_eq HG.out, hf])
 have HWt := Aside0.mk (show curve_within.f c t = some true by rw [within_eq HG.out, ht])
 have z1 : (a == a') = true := by simp [hcond.1]
 have z2 : (a != a') = false := by simp [hcond.1]
 have z3 : (b == b') = false := by simp [hcond.2]
 have z4 : (b != b') = true := by simp [hcond.2]
 clear hg hf ht hll hmm0 hcond hl0 hml q0 q1 hm0 hmm q2 q3 okl okm ha ha' hb hb' k1 k2 k3 k4
 have hl2 := HG.out.len2
 have hl64 := HG.out.len64
 go_enter Tryd.func46, Tryd.ntmps46
 go_wp2_with fail
 refine (curve_Check.calls A cap c 0 _ HR.out hc HC.out).mono ?_
 rintro e w1 ⟨rfl, hb⟩
 have HB := Aside0.mk hb
 clear hb
 go_wp2_with fail
 refine (curve_within.calls A cap c f true _ (Kd.C_below HR.out HB.out) hc HWf.out).mono ?_
 rintro e w2 ⟨rfl, ⟨nf, hnf⟩⟩
 have HB := Aside0.mk (show Below w.heap.size w w2 by rw [hnf]; exact pw_below_drewN HB.out nf)
 clear hnf
 go_wp2_with fail
 refine (curve_within.calls A cap c t true _ (Kd.C_below HR.out HB.out) hc HWt.out).mono ?_
 rintro e w2 ⟨rfl, ⟨nt, hnt⟩⟩
 have HB := Aside0.mk (show Below w.heap.size w w2 by rw [hnt]; exact pw_below_drewN HB.out nt)
 clear hnt
 go_wp2_with fail
 refine (curve_at.calls A cap c f _ _ _ _ _ (Kd.C_below HR.out HB.out) hc HATf.out).mono ?_
 rintro e w3 ⟨rfl, hb⟩
 have HB := Aside0.mk (HB.out.trans (hb.mono HB.out.size))
 clear hb
 go_wp2_with fail
 refine (curve_at.calls A cap c t _ _ _ _ _ (Kd.C_below HR.out HB.out) hc HATt.out).mono ?_
 rintro e w4 ⟨rfl, hb⟩
 have HB := Aside0.mk (HB.out.trans (hb.mono HB.out.size))
 clear hb
 go_wp2_with fail
 obtain ⟨w5, hw5⟩ : ∃ w5, (w4.alloc (.cells #[.int .i64 p0, .int .i64 p1, .int .i64 p2, .int .i64 p3] 72)).alloc (.cells #[.int .i64 s0, .int .i64 s1, .int .i64 s2, .int .i64 s3] 72) = w5 := ⟨_, rfl⟩
 have HP := Aside0.mk (show Blk w5 w4.heap.size 72 #[.int .i64 p0, .int .i64 p1, .int .i64 p2, .int .i64 p3] by rw [← hw5]; exact (Blk.new w4 72 _).alloc _)
 have HQ := Aside0.mk (show Blk w5 (w4.heap.size + 1) 72 #[.int .i64 s0, .int .i64 s1, .int .i64 s2, .int .i64 s3] by
  rw [← hw5]; have h := Blk.new (w4.alloc (.cells #[.int .i64 p0, .int .i64 p1, .int .i64 p2, .int .i64 p3] 72)) 72 #[.int .i64 s0, .int .i64 s1, .int .i64 s2, .int .i64 s3]; rwa [World.size_alloc] at h)
 have HB5 := Aside0.mk (show Below w.heap.size w w5 by rw [← hw5]; exact (HB.out.alloc HB.out.size _).alloc (Nat.le_trans HB.out.size (by simp)) _)
 rw [hw5]
 clear hw5
 have FB := fun (X : World) (h : Below w5.heap.size w5 X) => And.intro ((HP.out.below h HP.out.lt).cell 0) (And.intro ((HP.out.below h HP.out.lt).cell 1) (And.intro ((HP.out.below h HP.out.lt).cell 2) (And.intro ((HP.out.below h HP.out.lt).cell 3) (And.intro ((HQ.out.below h HQ.out.lt).cell 0) (And.intro ((HQ.out.below h HQ.out.lt).cell 1) (And.intro ((HQ.out.below h HQ.out.lt).cell 2) ((HQ.out.below h HQ.out.lt).cell 3)))))))
 have HF := Aside0.mk (show ∀ X : World, Below w5.heap.size w5 X → X.cell? ⟨w4.heap.size, 0, none⟩ = some (.int .i64 p0) ∧ X.cell? ⟨w4.heap.size, 1, none⟩ = some (.int .i64 p1) ∧ X.cell? ⟨w4.heap.size, 2, none⟩ = some (.int .i64 p2) ∧ X.cell? ⟨w4.heap.size, 3, none⟩ = some (.int .i64 p3) ∧ X.cell? ⟨w4.heap.size + 1, 0, none⟩ = some (.int .i64 s0) ∧ X.cell? ⟨w4.heap.size + 1, 1, none⟩ = some (.int .i64 s1) ∧ X.cell? ⟨w4.heap.size + 1, 2, none⟩ = some (.int .i64 s2) ∧ X.cell? ⟨w4.heap.size + 1, 3, none⟩ = some (.int .i64 s3) from FB)
 clear FB
 refine wp_region_IN (n := 6) (I := fun X => Below w5.heap.size w5 X) (by kernel_rfl) ?_
 change AnyI _ _ _ _ _ _ _ _ _ _ (World.drew _)
 have HI := (show Below w5.heap.size w5 w5.drew from below_drew1 (Below.refl _ _))
 refine AnyI.take (i := 0) (v := ?_) rfl rfl (by kernel_rfl) (by kernel_rfl) (by kernel_rfl) (fun _ _ _ h => h) ⟨Or.inl ⟨by rfl, ?_⟩, fun _ => rfl⟩ HI ?_
 rotate_left
 ·
  intro wI hI; obtain ⟨y0, y1, y2, y3, y4, y5, y6, y7⟩ := HF.out _ hI; go_simp; try with_reducible rfl
 go_simp
 refine AnyI.take (i := 1) (v := ?_) rfl rfl (by kernel_rfl) (by kernel_rfl) (by kernel_rfl) (fun _ _ _ h => h) ⟨Or.inl ⟨by rfl, ?_⟩, fun _ => rfl⟩ HI ?_
 rotate_left
 ·
  intro wI hI; obtain ⟨y0, y1, y2, y3, y4, y5, y6, y7⟩ := HF.out _ hI; go_simp; try with_reducible rfl
 go_simp
 refine AnyI.take (i := 3) (v := ?_) rfl rfl (by kernel_rfl) (by kernel_rfl) (by kernel_rfl) (fun _ _ _ h => h) ⟨Or.inl ⟨by rfl, ?_⟩, fun _ => rfl⟩ HI ?_
 rotate_left
 ·
  intro wI hI; obtain ⟨y0, y1, y2, y3, y4, y5, y6, y7⟩ := HF.out _ hI; go_simp; try with_reducible rfl
 go_simp
 refine AnyI.take (i := 4) (v := ?_) rfl rfl (by kernel_rfl) (by kernel_rfl) (by kernel_rfl) (fun _ _ _ h => h) ⟨Or.inl ⟨by rfl, ?_⟩, fun _ => rfl⟩ HI ?_
 rotate_left
 ·
  intro wI hI; obtain ⟨y0, y1, y2, y3, y4, y5, y6, y7⟩ := HF.out _ hI; go_simp; try with_reducible rfl
 go_simp
 refine AnyI.one (i := 2) (by kernel_rfl) rfl (fun K hK => ?_)
 go_simp
 refine ⟨trivial, ?_⟩
 gi_at_call 69
 refine (callsIn_wide.2 (curve_line_low.calls _ _ _ _ _ _ _ HL1.out)).mono ?_
 rintro e W1 ⟨rfl, hb6⟩
 have HI := HI.trans (hb6.mono HI.size)
 clear hb6
 refine hK _ _ HI ?_
 clear hK K
 refine AnyI.one (i := 5) (by kernel_rfl) rfl (fun K hK => ?_)
 go_simp
 refine ⟨trivial, ?_⟩
 gi_at_call 70
 refine (callsIn_wide.2 (curve_line_up.calls _ _ _ _ _ _ _ HU1.out)).mono ?_
 rintro e W2 ⟨rfl, hb6⟩
 have HI := HI.trans (hb6.mono HI.size)
 clear hb6
 refine hK _ _ HI ?_
 clear hK K
 refine AnyI.take (i := 6) (v := .bool false) rfl rfl (by kernel_rfl) (by kernel_rfl) (by kernel_rfl) (fun _ _ _ h => h) ⟨Or.inl ⟨by rfl, ?_⟩, fun _ => rfl⟩ HI ?_
 ·
  intro wI hI; obtain ⟨y0, y1, y2, y3, y4, y5, y6, y7⟩ := HF.out _ hI; go_simp; try with_reducible rfl
 go_simp
 refine AnyI.take (i := 7) (v := .bool false) rfl rfl (by kernel_rfl) (by kernel_rfl) (by kernel_rfl) (fun _ _ _ h => h) ⟨Or.inl ⟨by rfl, ?_⟩, fun _ => rfl⟩ HI ?_
 ·
  intro wI hI; obtain ⟨y0, y1, y2, y3, y4, y5, y6, y7⟩ := HF.out _ hI; go_simp; try with_reducible rfl
 go_simp
 refine AnyI.take (i := 8) (v := ?_) rfl rfl (by kernel_rfl) (by kernel_rfl) (by kernel_rfl) (fun _ _ _ h => h) ⟨Or.inl ⟨by rfl, ?_⟩, fun _ => rfl⟩ HI ?_
 rotate_left
 ·
  intro wI hI; obtain ⟨y0, y1, y2, y3, y4, y5, y6, y7⟩ := HF.out _ hI; go_simp; try with_reducible rfl
 go_simp
 refine AnyI.take (i := 9) (v := ?_) rfl rfl (by kernel_rfl) (by kernel_rfl) (by kernel_rfl) (fun _ _ _ h => h) ⟨Or.inl ⟨by rfl, ?_⟩, fun _ => rfl⟩ HI ?_
 rotate_left
 ·
  intro wI hI; obtain ⟨y0, y1, y2, y3, y4, y5, y6, y7⟩ := HF.out _ hI; go_simp; try with_reducible rfl
 go_simp
 refine AnyI.take (i := 11) (v := ?_) rfl rfl (by kernel_rfl) (by kernel_rfl) (by kernel_rfl) (fun _ _ _ h => h) ⟨Or.inl ⟨by rfl, ?_⟩, fun _ => rfl⟩ HI ?_
 rotate_left
 ·
  intro wI hI; obtain ⟨y0, y1, y2, y3, y4, y5, y6, y7⟩ := HF.out _ hI; go_simp; try with_reducible rfl
 go_simp
 refine AnyI.take (i := 12) (v := ?_) rfl rfl (by kernel_rfl) (by kernel_rfl) (by kernel_rfl) (fun _ _ _ h => h) ⟨Or.inl ⟨by rfl, ?_⟩, fun _ => rfl⟩ HI ?_
 rotate_left
 ·
  intro wI hI; obtain ⟨y0, y1, y2, y3, y4, y5, y6, y7⟩ := HF.out _ hI; go_simp; try with_reducible rfl
 go_simp
 refine AnyI.one (i := 10) (by kernel_rfl) rfl (fun K hK => ?_)
 go_simp
 refine ⟨trivial, ?_⟩
 gi_at_call 69
 refine (callsIn_wide.2 (curve_line_low.calls _ _ _ _ _ _ _ HL2.out)).mono ?_
 rintro e W3 ⟨rfl, hb6⟩
 have HI := HI.trans (hb6.mono HI.size)
 clear hb6
 refine hK _ _ HI ?_
 clear hK K
 refine AnyI.one (i := 13) (by kernel_rfl) rfl (fun K hK => ?_)
 go_simp
 refine ⟨trivial, ?_⟩
 gi_at_call 70
 refine (callsIn_wide.2 (curve_line_up.calls _ _ _ _ _ _ _ HU2.out)).mono ?_
 rintro e W4 ⟨rfl, hb6⟩
 have HI := HI.trans (hb6.mono HI.size)
 clear hb6
 refine hK _ _ HI ?_
 clear hK K
 refine AnyI.take (i := 14) (v := .bool true) rfl rfl (by kernel_rfl) (by kernel_rfl) (by kernel_rfl) (fun _ _ _ h => h) ⟨Or.inl ⟨by rfl, ?_⟩, fun _ => rfl⟩ HI ?_
 ·
  intro wI hI; obtain ⟨y0, y1, y2, y3, y4, y5, y6, y7⟩ := HF.out _ hI; go_simp; try with_reducible rfl
 go_simp
 refine AnyI.take (i := 15) (v := .bool true) rfl rfl (by kernel_rfl) (by kernel_rfl) (by kernel_rfl) (fun _ _ _ h => h) ⟨Or.inl ⟨by rfl, ?_⟩, fun _ => rfl⟩ HI ?_
 ·
  intro wI hI; obtain ⟨y0, y1, y2, y3, y4, y5, y6, y7⟩ := HF.out _ hI; go_simp; try with_reducible rfl
 go_simp
 refine AnyI.done (by kernel_rfl) ?_ _
 simp only [OnlyN, Exit.then]
 have HBN := Aside0.mk (HB5.out.trans (HI.mono HB5.out.size))
 clear HI HF
 go_wp2_with fail
 go_ret2
 exact ⟨_, rfl, Kd.R_nil _ _ _ _ _, HBN.out⟩
set_option maxRecDepth 100000 in
set_option maxHeartbeats 8000000 in
theorem cut_in3 (A : Option Addr) (cap : Nat) (c : List S57) (f t : Int) (w : World) (hr : Kd.C k57 w A c.length c) (hc : c.length ≤ cap) (hg : goodB c = true) (hf : inB c f = true) (ht : inB c t = true) (hlt : f < t) (l m : S57 × S57) (hll : lineAt c f = some l) (hmm0 : lineAt c t = some m) (hcond : lowI l f = upI l f ∧ lowI m t = upI m t) :
  Calls Tryd.prog 46 #[.slice A c.length cap, .int .i64 f, .int .i64 t] w fun e w' => ∃ v0_ : Value, e = .returned (.tuple #[v0_, .int .i64 0]) ∧ Kd.R k57 57 w' w.heap.size (fun _ => True) v0_ (⟨f, lowI l f⟩ :: (c.filter (midB f t) ++ [⟨t, lowI m t⟩])) ∧ Below w.heap.size w w' := by
 have hu57 := Tryd.underlying57
 have hu72 := Tryd.underlying72
 have HR := Aside0.mk hr
 clear hr
 have HG := Aside0.mk (good_of hg)
 have HC := Aside0.mk (show curve_Check.f c = some 0 by simp [curve_Check.f, hg])
 obtain ⟨⟨⟨p0, p1⟩, ⟨p2, p3⟩⟩, hl0, hml, q0, q1, _⟩ := asked_in HG.out hf
 obtain ⟨⟨⟨s0, s1⟩, ⟨s2, s3⟩⟩, hm0, hmm, q2, q3, _⟩ := asked_in HG.out ht
 obtain rfl : ((⟨p0, p1⟩, ⟨p2, p3⟩) : S57 × S57) = l := Option.some.inj (hl0.symm.trans hll)
 obtain rfl : ((⟨s0, s1⟩, ⟨s2, s3⟩) : S57 × S57) = m := Option.some.inj (hm0.symm.trans hmm0)
 have okl := good_line HG.out hml
 have okm := good_line HG.out hmm
 have HATf := Aside0.mk (show curve_at.f c f = some (p0, p1, p2, p3) by unfold curve_at.f; rw [hll])
 have HATt := Aside0.mk (show curve_at.f c t = some (s0, s1, s2, s3) by unfold curve_at.f; rw [hmm0])
 obtain ⟨a, ha⟩ : ∃ a, lowI (⟨p0, p1⟩, ⟨p2, p3⟩) f = a := ⟨_, rfl⟩
 obtain ⟨a', ha'⟩ : ∃ a, upI (⟨p0, p1⟩, ⟨p2, p3⟩) f = a := ⟨_, rfl⟩
 obtain ⟨b, hb⟩ : ∃ a, lowI (⟨s0, s1⟩, ⟨s2, s3⟩) t = a := ⟨_, rfl⟩
 obtain ⟨b', hb'⟩ : ∃ a, upI (⟨s0, s1⟩, ⟨s2, s3⟩) t = a := ⟨_, rfl⟩
 have k1 := low_eq okl q0 q1
 have k2 := up_eq okl q0 q1
 have k3 := low_eq okm q2 q3
 have k4 := up_eq okm q2 q3
 rw [ha] at k1
 rw [ha'] at k2
 rw [hb] at k3
 rw [hb'] at k4
 rw [ha, ha', hb, hb'] at hcond
 have HL1 := Aside0.mk k1
 have HU1 := Aside0.mk k2
 have HL2 := Aside0.mk k3
 have HU2 := Aside0.mk k4
 have HWf := Aside0.mk (show curve_within.f c f = some true by rw [within_eq HG.out, hf])
 have HWt := Aside0.mk (show curve_within.f c t = some true by rw [within_eq HG.out, ht])
 rw [ha, hb]
 have z1 : (a == a') = true := by simp [hcond.1]
 have z2 : (a != a') = false := by simp [hcond.1]
 have z3 : (b == b') = true := by simp [hcond.2]
 have z4 : (b != b') = false := by simp [hcond.2]
 clear hg hf ht hll hmm0 hcond hl0 hml q0 q1 hm0 hmm q2 q3 okl okm ha ha' hb hb' k1 k2 k3 k4
 have hl2 := HG.out.len2
 have hl64 := HG.out.len64
 go_enter Tryd.func46, Tryd.ntmps46
 go_wp2_with fail
 refine (curve_Check.calls A cap c 0 _ HR.out hc HC.out).mono ?_
 rintro e w1 ⟨rfl, hb⟩
 have HB := Aside0.mk hb
 clear hb
 go_wp2_with fail
 refine (curve_within.calls A cap c f true _ (Kd.C_below HR.out HB.out) hc HWf.out).mono ?_
 rintro e w2 ⟨rfl, ⟨nf, hnf⟩⟩
 have HB := Aside0.mk (show Below w.heap.size w w2 by rw [hnf]; exact pw_below_drewN HB.out nf)
 clear hnf
 go_wp2_with fail
 refine (curve_within.calls A cap c t true _ (Kd.C_below HR.out HB.out) hc HWt.out).mono ?_
 rintro e w2 ⟨rfl, ⟨nt, hnt⟩⟩
 have HB := Aside0.mk (show Below w.heap.size w w2 by rw [hnt]; exact pw_below_drewN HB.out nt)
 clear hnt
 go_wp2_with fail
 refine (curve_at.calls A cap c f _ _ _ _ _ (Kd.C_below HR.out HB.out) hc HATf.out).mono ?_
 rintro e w3 ⟨rfl, hb⟩
 have HB := Aside0.mk (HB.out.trans (hb.mono HB.out.size))
 clear hb
 go_wp2_with fail
 refine (curve_at.calls A cap c t _ _ _ _ _ (Kd.C_below HR.out HB.out) hc HATt.out).mono ?_
 rintro e w4 ⟨rfl, hb⟩
 have HB := Aside0.mk (HB.out.trans (hb.mono HB.out.size))
 clear hb
 go_wp2_with fail
 obtain ⟨w5, hw5⟩ : ∃ w5, (w4.alloc (.cells #[.int .i64 p0, .int .i64 p1, .int .i64 p2, .int .i64 p3] 72)).alloc (.cells #[.int .i64 s0, .int .i64 s1, .int .i64 s2, .int .i64 s3] 72) = w5 := ⟨_, rfl⟩
 have HP := Aside0.mk (show Blk w5 w4.heap.size 72 #[.int .i64 p0, .int .i64 p1, .int .i64 p2, .int .i64 p3] by rw [← hw5]; exact (Blk.new w4 72 _).alloc _)
 have HQ := Aside0.mk (show Blk w5 (w4.heap.size + 1) 72 #[.int .i64 s0, .int .i64 s1, .int .i64 s2, .int .i64 s3] by
  rw [← hw5]; have h := Blk.new (w4.alloc (.cells #[.int .i64 p0, .int .i64 p1, .int .i64 p2, .int .i64 p3] 72)) 72 #[.int .i64 s0, .int .i64 s1, .int .i64 s2, .int .i64 s3]; rwa [World.size_alloc] at h)
 have HB5 := Aside0.mk (show Below w.heap.size w w5 by rw [← hw5]; exact (HB.out.alloc HB.out.size _).alloc (Nat.le_trans HB.out.size (by simp)) _)
 rw [hw5]
 clear hw5
 have FB := fun (X : World) (h : Below w5.heap.size w5 X) => And.intro ((HP.out.below h HP.out.lt).cell 0) (And.intro ((HP.out.below h HP.out.lt).cell 1) (And.intro ((HP.out.below h HP.out.lt).cell 2) (And.intro ((HP.out.below h HP.out.lt).cell 3) (And.intro ((HQ.out.below h HQ.out.lt).cell 0) (And.intro ((HQ.out.below h HQ.out.lt).cell 1) (And.intro ((HQ.out.below h HQ.out.lt).cell 2) ((HQ.out.below h HQ.out.lt).cell 3)))))))
 have HF := Aside0.mk (show ∀ X : World, Below w5.heap.size w5 X → X.cell? ⟨w4.heap.size, 0, none⟩ = some (.int .i64 p0) ∧ X.cell? ⟨w4.heap.size, 1, none⟩ = some (.int .i64 p1) ∧ X.cell? ⟨w4.heap.size, 2, none⟩ = some (.int .i64 p2) ∧ X.cell? ⟨w4.heap.size, 3, none⟩ = some (.int .i64 p3) ∧ X.cell? ⟨w4.heap.size + 1, 0, none⟩ = some (.int .i64 s0) ∧ X.cell? ⟨w4.heap.size + 1, 1, none⟩ = some (.int .i64 s1) ∧ X.cell? ⟨w4.heap.size + 1, 2, none⟩ = some (.int .i64 s2) ∧ X.cell? ⟨w4.heap.size + 1, 3, none⟩ = some (.int .i64 s3) from FB)
 clear FB
 refine wp_region_IN (n := 6) (I := fun X => Below w5.heap.size w5 X) (by kernel_rfl) ?_
 change AnyI _ _ _ _ _ _ _ _ _ _ (World.drew _)
 have HI := (show Below w5.heap.size w5 w5.drew from below_drew1 (Below.refl _ _))
 refine AnyI.take (i := 0) (v := ?_) rfl rfl (by kernel_rfl) (by kernel_rfl) (by kernel_rfl) (fun _ _ _ h => h) ⟨Or.inl ⟨by rfl, ?_⟩, fun _ => rfl⟩ HI ?_
 rotate_left
 ·
  intro wI hI; obtain ⟨y0, y1, y2, y3, y4, y5, y6, y7⟩ := HF.out _ hI; go_simp; try with_reducible rfl
 go_simp
 refine AnyI.take (i := 1) (v := ?_) rfl rfl (by kernel_rfl) (by kernel_rfl) (by kernel_rfl) (fun _ _ _ h => h) ⟨Or.inl ⟨by rfl, ?_⟩, fun _ => rfl⟩ HI ?_
 rotate_left
 ·
  intro wI hI; obtain ⟨y0, y1, y2, y3, y4, y5, y6, y7⟩ := HF.out _ hI; go_simp; try with_reducible rfl
 go_simp
 refine AnyI.take (i := 3) (v := ?_) rfl rfl (by kernel_rfl) (by kernel_rfl) (by kernel_rfl) (fun _ _ _ h => h) ⟨Or.inl ⟨by rfl, ?_⟩, fun _ => rfl⟩ HI ?_
 rotate_left
 ·
  intro wI hI; obtain ⟨y0, y1, y2, y3, y4, y5, y6, y7⟩ := HF.out _ hI; go_simp; try with_reducible rfl
 go_simp
 refine AnyI.take (i := 4) (v := ?_) rfl rfl (by kernel_rfl) (by kernel_rfl) (by kernel_rfl) (fun _ _ _ h => h) ⟨Or.inl ⟨by rfl, ?_⟩, fun _ => rfl⟩ HI ?_
 rotate_left
 ·
  intro wI hI; obtain ⟨y0, y1, y2, y3, y4, y5, y6, y7⟩ := HF.out _ hI; go_simp; try with_reducible rfl
 go_simp
 refine AnyI.one (i := 2) (by kernel_rfl) rfl (fun K hK => ?_)
 go_simp
 refine ⟨trivial, ?_⟩
 gi_at_call 69
 refine (callsIn_wide.2 (curve_line_low.calls _ _ _ _ _ _ _ HL1.out)).mono ?_
 rintro e W1 ⟨rfl, hb6⟩
 have HI := HI.trans (hb6.mono HI.size)
 clear hb6
 refine hK _ _ HI ?_
 clear hK K
 refine AnyI.one (i := 5) (by kernel_rfl) rfl (fun K hK => ?_)
 go_simp
 refine ⟨trivial, ?_⟩
 gi_at_call 70
 refine (callsIn_wide.2 (curve_line_up.calls _ _ _ _ _ _ _ HU1.out)).mono ?_
 rintro e W2 ⟨rfl, hb6⟩
 have HI := HI.trans (hb6.mono HI.size)
 clear hb6
 refine hK _ _ HI ?_
 clear hK K
 refine AnyI.take (i := 6) (v := .bool false) rfl rfl (by kernel_rfl) (by kernel_rfl) (by kernel_rfl) (fun _ _ _ h => h) ⟨Or.inl ⟨by rfl, ?_⟩, fun _ => rfl⟩ HI ?_
 ·
  intro wI hI; obtain ⟨y0, y1, y2, y3, y4, y5, y6, y7⟩ := HF.out _ hI; go_simp; try with_reducible rfl
 go_simp
 refine AnyI.take (i := 7) (v := .bool false) rfl rfl (by kernel_rfl) (by kernel_rfl) (by kernel_rfl) (fun _ _ _ h => h) ⟨Or.inl ⟨by rfl, ?_⟩, fun _ => rfl⟩ HI ?_
 ·
  intro wI hI; obtain ⟨y0, y1, y2, y3, y4, y5, y6, y7⟩ := HF.out _ hI; go_simp; try with_reducible rfl
 go_simp
 refine AnyI.take (i := 8) (v := ?_) rfl rfl (by kernel_rfl) (by kernel_rfl) (by kernel_rfl) (fun _ _ _ h => h) ⟨Or.inl ⟨by rfl, ?_⟩, fun _ => rfl⟩ HI ?_
 rotate_left
 ·
  intro wI hI; obtain ⟨y0, y1, y2, y3, y4, y5, y6, y7⟩ := HF.out _ hI; go_simp; try with_reducible rfl
 go_simp
 refine AnyI.take (i := 9) (v := ?_) rfl rfl (by kernel_rfl) (by kernel_rfl) (by kernel_rfl) (fun _ _ _ h => h) ⟨Or.inl ⟨by rfl, ?_⟩, fun _ => rfl⟩ HI ?_
 rotate_left
 ·
  intro wI hI; obtain ⟨y0, y1, y2, y3, y4, y5, y6, y7⟩ := HF.out _ hI; go_simp; try with_reducible rfl
 go_simp
 refine AnyI.take (i := 11) (v := ?_) rfl rfl (by kernel_rfl) (by kernel_rfl) (by kernel_rfl) (fun _ _ _ h => h) ⟨Or.inl ⟨by rfl, ?_⟩, fun _ => rfl⟩ HI ?_
 rotate_left
 ·
  intro wI hI; obtain ⟨y0, y1, y2, y3, y4, y5, y6, y7⟩ := HF.out _ hI; go_simp; try with_reducible rfl
 go_simp
 refine AnyI.take (i := 12) (v := ?_) rfl rfl (by kernel_rfl) (by kernel_rfl) (by kernel_rfl) (fun _ _ _ h => h) ⟨Or.inl ⟨by rfl, ?_⟩, fun _ => rfl⟩ HI ?_
 rotate_left
 ·
  intro wI hI; obtain ⟨y0, y1, y2, y3, y4, y5, y6, y7⟩ := HF.out _ hI; go_simp; try with_reducible rfl
 go_simp
 refine AnyI.one (i := 10) (by kernel_rfl) rfl (fun K hK => ?_)
 go_simp
 refine ⟨trivial, ?_⟩
 gi_at_call 69
 refine (callsIn_wide.2 (curve_line_low.calls _ _ _ _ _ _ _ HL2.out)).mono ?_
 rintro e W3 ⟨rfl, hb6⟩
 have HI := HI.trans (hb6.mono HI.size)
 clear hb6
 refine hK _ _ HI ?_
 clear hK K
 refine AnyI.one (i := 13) (by kernel_rfl) rfl (fun K hK => ?_)
 go_simp
 refine ⟨trivial, ?_⟩
 gi_at_call 70
 refine (callsIn_wide.2 (curve_line_up.calls _ _ _ _ _ _ _ HU2.out)).mono ?_
 rintro e W4 ⟨rfl, hb6⟩
 have HI := HI.trans (hb6.mono HI.size)
 clear hb6
 refine hK _ _ HI ?_
 clear hK K
 refine AnyI.take (i := 14) (v := .bool false) rfl rfl (by kernel_rfl) (by kernel_rfl) (by kernel_rfl) (fun _ _ _ h => h) ⟨Or.inl ⟨by rfl, ?_⟩, fun _ => rfl⟩ HI ?_
 ·
  intro wI hI; obtain ⟨y0, y1, y2, y3, y4, y5, y6, y7⟩ := HF.out _ hI; go_simp; try with_reducible rfl
 go_simp
 refine AnyI.take (i := 15) (v := .bool false) rfl rfl (by kernel_rfl) (by kernel_rfl) (by kernel_rfl) (fun _ _ _ h => h) ⟨Or.inl ⟨by rfl, ?_⟩, fun _ => rfl⟩ HI ?_
 ·
  intro wI hI; obtain ⟨y0, y1, y2, y3, y4, y5, y6, y7⟩ := HF.out _ hI; go_simp; try with_reducible rfl
 go_simp
 refine AnyI.done (by kernel_rfl) ?_ _
 simp only [OnlyN, Exit.then]
 have HBN := Aside0.mk (HB5.out.trans (HI.mono HB5.out.size))
 obtain ⟨e0, e1, e2, e3, _, _, _, _⟩ := HF.out _ HI
 have HPN := Aside0.mk (HP.out.below HI HP.out.lt)
 have HQN := Aside0.mk (HQ.out.below HI HQ.out.lt)
 clear HI HF
 go_wp2_with fail
 refine (curve_line_low.calls _ _ _ _ _ _ _ HL1.out).mono ?_
 rintro e w6 ⟨rfl, hb⟩
 have HQ6 := Aside0.mk (HQN.out.below hb HQN.out.lt)
 have HB := Aside0.mk (HBN.out.trans (hb.mono HBN.out.size))
 clear hb e0 e1 e2 e3
 go_wp2_with ((with_reducible refine gate_dst (N := 61) rfl ?_); refine Kd.R_lit k57 _ 57 ?hg (N := 61) ?hd (xs := ([⟨f, a⟩] : List S57)) (inner := [.int .i64 f, .int .i64 a]) (ok := fun k => w6.heap.size ≤ k) (okp := fun k => w6.heap.size ≤ k) ?hr ?hp (fun _ hk => hk) (Nat.le_refl _) (Below.refl _ _) (Nat.le_refl _) (by simp) ?_; (case hd => rfl); (case hg => rfl); (case hr => first | (go_simp; done) | (go_simp; rfl)); (case hp => exact (Reps.c2 (show Kd.M k57 _ _ _ (⟨f, a⟩ : S57) [.int .i64 f, .int .i64 a] from (k57_mkM _ _ _ (⟨f, a⟩ : S57))) (Reps.none _ _))); intro v61 w7 ho hb hg_ hnew_; have HO := Aside0.mk (Kd.R_lower ho HB.out.size); have HQ7 := Aside0.mk (HQ6.out.grown hg_ (by simp)); have HB7 := Aside0.mk (HB.out.trans (hb.mono HB.out.size)); have HB67 := Aside0.mk hb; clear ho hb hg_ hnew_)
 have hq6 := HQ6.out.lt
 have HS6 := Aside0.mk (show Below w6.heap.size w6 w7 from HB67.out)
 go_loopw [11, 64] (fun v11 v64 wr => ∃ i : Int, 0 ≤ i ∧ i ≤ c.length ∧ v64 = .int .i64 i ∧ Aside0 (Kd.R k57 57 wr w.heap.size (fun k => w6.heap.size ≤ k) v11 (⟨f, a⟩ :: (c.take i.toNat).filter (midB f t))) ∧ Aside0 (Blk wr (w4.heap.size + 1) 72 #[.int .i64 s0, .int .i64 s1, .int .i64 s2, .int .i64 s3]) ∧ Aside0 (Below w.heap.size w wr) ∧ Aside0 (w6.heap.size ≤ wr.heap.size)) (fun _ v64 _ => c.length - (intOf v64).toNat)
 case atStart => exact ⟨0, by omega, by omega, rfl, HO, HQ7, HB7, ⟨HS6.out.size⟩⟩
 case round =>
  clear HO HQ7 HB7 HB HS6 HB67
  obtain ⟨i, h0, h1, rfl, HO, HQW, HB, H6⟩ := hrel
  have HLN := Aside0.mk (show ((⟨f, a⟩ :: (c.take i.toNat).filter (midB f t) : List S57).length + 1) * 16 ≤ 140737488355328 by have h := List.length_filter_le (midB f t) (c.take i.toNat); simp only [List.length_cons]; rw [List.length_take] at h; omega)
  by_cases hlt : i < c.length
  ·
   obtain ⟨ad, e258, hx0, hx1⟩ := at_T57 HR.out i h0 hlt
   cases e258
   replace hx0 := (HB.out.cell (World.block_lt_of_cell? w _ hx0)).trans hx0
   replace hx1 := (HB.out.cell (World.block_lt_of_cell? w _ hx1)).trans hx1
   have HFS := Aside0.mk (filter_snoc (f := midB f t) h0 hlt)
   by_cases g1 : f < (rd_T57 c i).f0
   ·
    by_cases g2 : (rd_T57 c i).f0 < t
    ·
     have HX := Aside0.mk (show midB f t (rd_T57 c i) = true by simp [midB, g1, g2])
     have HOa := Aside0.mk (Kd.R_alloc HO.out (.cells #[.int .i64 (rd_T57 c i).f0, .int .i64 (rd_T57 c i).f1] 57))
     have HBa := Aside0.mk (HB.out.alloc HB.out.size (.cells #[.int .i64 (rd_T57 c i).f0, .int .i64 (rd_T57 c i).f1] 57))
     have HQa := Aside0.mk (HQW.out.alloc (.cells #[.int .i64 (rd_T57 c i).f0, .int .i64 (rd_T57 c i).f1] 57))
     have HU := Aside0.mk (show some (w4.heap.size + 1) ≠ u11.ownBlock from fun e => by have := HO.out.1 _ e.symm; omega)
     have H6 := Aside0.mk (Nat.le_trans H6.out (show wr.heap.size ≤ (wr.alloc (.cells #[.int .i64 (rd_T57 c i).f0, .int .i64 (rd_T57 c i).f1] 57)).heap.size by simp))
     go_wp2_with ((with_reducible refine gate_builtin (b := .append) (xs := #[.tmp 78, .tmp 80]) rfl ?_); at_builtin; refine Kd.R_append k57 (w0 := w) w.heap.size rfl (.tmp 78) (.tmp 80) 23 57 (.agg #[(.int .i64 0), (.int .i64 0)]) 16 rfl Tryd.underlying23 info57 rfl (by decide) (by omega) u11 (⟨f, a⟩ :: (c.take i.toNat).filter (midB f t)) (rd_T57 c i) [.int .i64 (rd_T57 c i).f0, .int .i64 (rd_T57 c i).f1] (fun k => w6.heap.size ≤ k) (fun _ => False) rfl (by first | rfl | (simp only [World.size_alloc]; rfl)) ?aP (fun _ hk => hk.elim) ?aF ?aO ?aB ?aS ?aL ?_; (case aP => exact k57_mkM _ _ _ (rd_T57 c i)); (case aB => exact HBa.out); (case aF => exact (fun _ h => Nat.le_trans H6.out h)); (case aO => exact HOa.out); (case aS => exact below_size HBa.out); (case aL => have := HLN.out; omega); intro v9 w9 ho hb hg hat; have HO3 := Aside0.mk ho; have HB3 := Aside0.mk hb; have HG3 := Aside0.mk hg; clear ho hb hg hat)
     go_roundw
     case rel => exact ⟨i + 1, by omega, by omega, by go_num, ⟨by rw [HFS.out, HX.out, if_pos rfl]; exact HO3.out⟩, ⟨HQa.out.grown HG3.out HU.out⟩, HB3, ⟨Nat.le_trans H6.out HG3.out.size⟩⟩
     case measure => simp [intOf]; omega
    ·
     have HX := Aside0.mk (show midB f t (rd_T57 c i) = false by simp [midB, g2])
     go_wp2_with fail
     go_roundw
     case rel => exact ⟨i + 1, by omega, by omega, by go_num, ⟨by rw [HFS.out, HX.out, if_neg (by simp), List.append_nil]; exact Kd.R_alloc HO.out _⟩, ⟨HQW.out.alloc _⟩, ⟨HB.out.alloc HB.out.size _⟩, ⟨Nat.le_trans H6.out (by simp)⟩⟩
     case measure => simp [intOf]; omega
   ·
    have HX := Aside0.mk (show midB f t (rd_T57 c i) = false by simp [midB, g1])
    go_wp2_with fail
    go_roundw
    case rel => exact ⟨i + 1, by omega, by omega, by go_num, ⟨by rw [HFS.out, HX.out, if_neg (by simp), List.append_nil]; exact Kd.R_alloc HO.out _⟩, ⟨HQW.out.alloc _⟩, ⟨HB.out.alloc HB.out.size _⟩, ⟨Nat.le_trans H6.out (by simp)⟩⟩
    case measure => simp [intOf]; omega
  ·
   have HE := Aside0.mk (show (c.take i.toNat).filter (midB f t) = c.filter (midB f t) by rw [List.take_of_length_le (by omega)])
   have e0 : wr.cell? ⟨w4.heap.size + 1, 0, none⟩ = some (.int .i64 s0) := HQW.out.cell 0
   have e1 : wr.cell? ⟨w4.heap.size + 1, 1, none⟩ = some (.int .i64 s1) := HQW.out.cell 1
   have e2 : wr.cell? ⟨w4.heap.size + 1, 2, none⟩ = some (.int .i64 s2) := HQW.out.cell 2
   have e3 : wr.cell? ⟨w4.heap.size + 1, 3, none⟩ = some (.int .i64 s3) := HQW.out.cell 3
   go_wp2_with fail
   refine (curve_line_low.calls _ _ _ _ _ _ _ HL2.out).mono ?_
   rintro e w8 ⟨rfl, hb⟩
   have HO8 := Aside0.mk (Kd.R_below HO.out hb)
   have HB8 := Aside0.mk (HB.out.trans (hb.mono HB.out.size))
   have H6 := Aside0.mk (Nat.le_trans H6.out hb.size)
   clear hb e0 e1 e2 e3
   go_wp2_with ((with_reducible refine gate_builtin (b := .append) (xs := #[.tmp 83, .tmp 89]) rfl ?_); at_builtin; refine Kd.R_append k57 (w0 := w) w.heap.size rfl (.tmp 83) (.tmp 89) 23 57 (.agg #[(.int .i64 0), (.int .i64 0)]) 16 rfl Tryd.underlying23 info57 rfl (by decide) (by omega) u11 (⟨f, a⟩ :: (c.take i.toNat).filter (midB f t)) (⟨t, b⟩ : S57) [.int .i64 t, .int .i64 b] (fun k => w6.heap.size ≤ k) (fun _ => False) rfl (by first | rfl | (simp only [World.size_alloc]; rfl)) ?aP (fun _ hk => hk.elim) ?aF ?aO ?aB ?aS ?aL ?_; (case aP => exact k57_mkM _ _ _ (⟨t, b⟩ : S57)); (case aB => exact HB8.out); (case aF => exact (fun _ h => Nat.le_trans H6.out h)); (case aO => exact HO8.out); (case aS => exact below_size HB8.out); (case aL => have := HLN.out; omega); intro v9 w9 ho hb hg hat; have HO3 := Aside0.mk ho; have HB3 := Aside0.mk hb; have HG3 := Aside0.mk hg; clear ho hb hg hat)
   go_ret2
   exact ⟨_, rfl, Kd.R_mono (by have := HO3.out; rw [HE.out] at this; exact this) (fun _ _ => trivial), HB3.out⟩
theorem curve_Cut.calls (A0 : Option Addr) (c0 : Nat) (l0 : List S57) (a1 a2 : Int) (r1 : List S57) (r2 : Int) (w : World) (hr0 : Kd.C k57 w A0 l0.length l0) (hc0 : l0.length ≤ c0) (h : curve_Cut.f l0 a1 a2 = some (r1, r2)) :
  Calls Tryd.prog 46 #[.slice A0 l0.length c0, .int .i64 a1, .int .i64 a2] w fun e w' => ∃ v0_ : Value, e = .returned (.tuple #[v0_, .int .i64 r2]) ∧ Kd.R k57 57 w' w.heap.size (fun _ => True) v0_ r1 ∧ Below w.heap.size w w' := by
 unfold curve_Cut.f at h
 by_cases hg : goodB l0 = true
 ·
  rw [if_pos hg] at h
  by_cases hc : inB l0 a1 = true ∧ inB l0 a2 = true ∧ a1 < a2
  ·
   rw [if_pos hc] at h
   cases hl : lineAt l0 a1 with
   | none => rw [hl] at h; exact absurd h (by simp)
   | some l =>
    cases hm : lineAt l0 a2 with
    | none => rw [hl, hm] at h; exact absurd h (by simp)
    | some m =>
     rw [hl, hm] at h
     dsimp only at h
     by_cases hk : lowI l a1 = upI l a1 ∧ lowI m a2 = upI m a2
     ·
      rw [if_pos hk] at h
      simp only [Option.some.injEq, Prod.mk.injEq] at h
      obtain ⟨rfl, rfl⟩ := h
      exact cut_in3 A0 c0 l0 a1 a2 w hr0 hc0 hg hc.1 hc.2.1 hc.2.2 l m hl hm hk
     ·
      rw [if_neg hk] at h
      simp only [Option.some.injEq, Prod.mk.injEq] at h
      obtain ⟨rfl, rfl⟩ := h
      by_cases hk1 : lowI l a1 = upI l a1
      ·
       exact cut_in2 A0 c0 l0 a1 a2 w hr0 hc0 hg hc.1 hc.2.1 hc.2.2 l m hl hm ⟨hk1, fun e => hk ⟨hk1, e⟩⟩
      ·
       exact cut_in1 A0 c0 l0 a1 a2 w hr0 hc0 hg hc.1 hc.2.1 hc.2.2 l m hl hm hk1
  ·
   rw [if_neg hc] at h
   simp only [Option.some.injEq, Prod.mk.injEq] at h
   obtain ⟨rfl, rfl⟩ := h
   cases h1 : inB l0 a1 with
   | false => exact cut_out1 A0 c0 l0 a1 a2 w hr0 hc0 hg h1
   | true =>
    cases h2 : inB l0 a2 with
    | false => exact cut_out2 A0 c0 l0 a1 a2 w hr0 hc0 hg h1 h2
    | true => exact cut_out3 A0 c0 l0 a1 a2 w hr0 hc0 hg h1 h2 (by have : ¬ a1 < a2 := fun e => hc ⟨h1, h2, e⟩; omega)
 ·
  rw [if_neg hg] at h
  simp only [Option.some.injEq, Prod.mk.injEq] at h
  obtain ⟨rfl, rfl⟩ := h
  exact cut_bad A0 c0 l0 a1 a2 w hr0 hc0 (by simpa using hg)
end Go.Proofs.YtlhhpogaaneamaaDoor.X
namespace Go.Proofs.YtlhhpogaaneamaaDoor.X
open Go.Shelf
def sh_lays156_ren : Go.Shelf.Ren := ⟨fun | 156 => 98 | 165 => 108 | 166 => 109 | 169 => 110 | 240 => 113 | 241 => 114 | 276 => 119 | 277 => 120 | n => n, fun | 31 => 97 | 9 => 9 | 3 => 3 | 4 => 4 | 0 => 0 | 20 => 20 | 72 => 108 | 76 => 112 | 70 => 105 | 37 => 106 | 75 => 111 | 127 => 118 | 164 => 125 | 5 => 5 | 80 => 114 | n => n, fun | n => n⟩
theorem sh_lays156 : Go.Proofs.Lays.n156 Tryd.prog sh_lays156_ren := {
 mixed := by kernel_rfl
 f156 := Tryd.func98.trans (congrArg some (by kernel_rfl))
 f165 := Tryd.func108.trans (congrArg some (by kernel_rfl))
 f166 := Tryd.func109.trans (congrArg some (by kernel_rfl))
 f169 := Tryd.func110.trans (congrArg some (by kernel_rfl))
 f240 := Tryd.func113.trans (congrArg some (by kernel_rfl))
 f241 := Tryd.func114.trans (congrArg some (by kernel_rfl))
 f276 := Tryd.func119.trans (congrArg some (by kernel_rfl))
 f277 := Tryd.func120.trans (congrArg some (by kernel_rfl))
 t0 := Tryd.underlying0
 a0 := Tryd.isAgg0
 z0 := Tryd.sizeOf0
 v0 := Tryd.zeroValue0
 t3 := Tryd.underlying3
 a3 := Tryd.isAgg3
 z3 := Tryd.sizeOf3
 v3 := Tryd.zeroValue3
 t4 := Tryd.underlying4
 a4 := Tryd.isAgg4
 z4 := Tryd.sizeOf4
 v4 := Tryd.zeroValue4
 t9 := Tryd.underlying9
 a9 := Tryd.isAgg9
 z9 := Tryd.sizeOf9
 v9 := Tryd.zeroValue9
 t20 := Tryd.underlying20
 a20 := Tryd.isAgg20
 z20 := Tryd.sizeOf20
 v20 := Tryd.zeroValue20
 t31 := Tryd.underlying97
 a31 := Tryd.isAgg97
 z31 := Tryd.sizeOf97
 v31 := Tryd.zeroValue97
 t37 := Tryd.underlying106
 a37 := Tryd.isAgg106
 z37 := Tryd.sizeOf106
 v37 := Tryd.zeroValue106
 t70 := Tryd.underlying105
 a70 := Tryd.isAgg105
 z70 := Tryd.sizeOf105
 v70 := Tryd.zeroValue105
 t72 := Tryd.underlying108
 a72 := Tryd.isAgg108
 z72 := Tryd.sizeOf108
 v72 := Tryd.zeroValue108
 t75 := Tryd.underlying111
 a75 := Tryd.isAgg111
 z75 := Tryd.sizeOf111
 v75 := Tryd.zeroValue111
 t76 := Tryd.underlying112
 a76 := Tryd.isAgg112
 z76 := Tryd.sizeOf112
 v76 := Tryd.zeroValue112
 t127 := Tryd.underlying118
 a127 := Tryd.isAgg118
 z127 := Tryd.sizeOf118
 v127 := Tryd.zeroValue118
 t164 := Tryd.underlying125
 a164 := Tryd.isAgg125
 z164 := Tryd.sizeOf125
 v164 := Tryd.zeroValue125 }
theorem sh_Builder_Extra_156 : Builder.Extra Tryd.prog sh_lays156_ren := {
 sizeBuilder := by kernel_rfl
 liesBuilder := by kernel_rfl
 t5 := Tryd.underlying5
 a5 := Tryd.isAgg5
 z5 := Tryd.sizeOf5
 v5 := Tryd.zeroValue5
 infoByte := by kernel_rfl
 cellsByte := by kernel_rfl
 sizeByte := by kernel_rfl
 neB5 := by decide }
open Go.RowKit in
theorem sh_strings_Join (bk o c : Nat) (xs : List ByteArray) (sep : ByteArray) (w : World) (hcells : ∀ (j : Nat) x, xs[j]? = some x → w.cell? ⟨bk, o + j, none⟩ = some (.string x)) (hbk : bk < w.heap.size) (hN : xs.length ≤ 140737488355328) (hcap : xs.length ≤ c) (hlen : (Lib.join (xs.map (·.data.toList)) sep.data.toList).length ≤ 140737488355328) :
  Calls Tryd.prog 98 #[.slice (some ⟨bk, o, none⟩) xs.length c, .string sep] w fun e w' => e = .returned (.string ⟨(Lib.join (xs.map (·.data.toList)) sep.data.toList).toArray⟩) ∧ Below w.heap.size w w' := Any.strings_Join sh_lays156 sh_Builder_Extra_156 bk o c xs sep w hcells hbk hN hcap hlen
def sh_lays171_ren : Go.Shelf.Ren := ⟨fun | 171 => 97 | 243 => 107 | 246 => 112 | 283 => 115 | 284 => 116 | 285 => 117 | 286 => 118 | 129 => 122 | 317 => 121 | 318 => 123 | 319 => 124 | 320 => 125 | 337 => 126 | 338 => 127 | n => n, fun | 3 => 3 | 9 => 9 | 2 => 2 | 4 => 4 | 171 => 119 | 0 => 0 | 53 => 120 | 37 => 106 | 5 => 5 | 173 => 123 | 212 => 129 | 51 => 130 | 20 => 20 | 213 => 131 | 46 => 132 | 232 => 135 | 233 => 136 | n => n, fun | 17 => 0 | 18 => 2 | 19 => 3 | n => n⟩
theorem sh_lays171 : Go.Proofs.Lays.n171 Tryd.prog sh_lays171_ren := {
 mixed := by kernel_rfl
 f129 := Tryd.func122.trans (congrArg some (by kernel_rfl))
 f171 := Tryd.func97.trans (congrArg some (by kernel_rfl))
 f243 := Tryd.func107.trans (congrArg some (by kernel_rfl))
 f246 := Tryd.func112.trans (congrArg some (by kernel_rfl))
 f283 := Tryd.func115.trans (congrArg some (by kernel_rfl))
 f284 := Tryd.func116.trans (congrArg some (by kernel_rfl))
 f285 := Tryd.func117.trans (congrArg some (by kernel_rfl))
 f286 := Tryd.func118.trans (congrArg some (by kernel_rfl))
 f317 := Tryd.func121.trans (congrArg some (by kernel_rfl))
 f318 := Tryd.func123.trans (congrArg some (by kernel_rfl))
 f319 := Tryd.func124.trans (congrArg some (by kernel_rfl))
 f320 := Tryd.func125.trans (congrArg some (by kernel_rfl))
 f337 := Tryd.func126.trans (congrArg some (by kernel_rfl))
 f338 := Tryd.func127.trans (congrArg some (by kernel_rfl))
 t0 := Tryd.underlying0
 a0 := Tryd.isAgg0
 z0 := Tryd.sizeOf0
 v0 := Tryd.zeroValue0
 t2 := Tryd.underlying2
 a2 := Tryd.isAgg2
 z2 := Tryd.sizeOf2
 v2 := Tryd.zeroValue2
 t3 := Tryd.underlying3
 a3 := Tryd.isAgg3
 z3 := Tryd.sizeOf3
 v3 := Tryd.zeroValue3
 t4 := Tryd.underlying4
 a4 := Tryd.isAgg4
 z4 := Tryd.sizeOf4
 v4 := Tryd.zeroValue4
 t5 := Tryd.underlying5
 a5 := Tryd.isAgg5
 z5 := Tryd.sizeOf5
 v5 := Tryd.zeroValue5
 t9 := Tryd.underlying9
 a9 := Tryd.isAgg9
 z9 := Tryd.sizeOf9
 v9 := Tryd.zeroValue9
 t20 := Tryd.underlying20
 a20 := Tryd.isAgg20
 z20 := Tryd.sizeOf20
 v20 := Tryd.zeroValue20
 t37 := Tryd.underlying106
 a37 := Tryd.isAgg106
 z37 := Tryd.sizeOf106
 v37 := Tryd.zeroValue106
 t46 := Tryd.underlying132
 a46 := Tryd.isAgg132
 z46 := Tryd.sizeOf132
 v46 := Tryd.zeroValue132
 t51 := Tryd.underlying130
 a51 := Tryd.isAgg130
 z51 := Tryd.sizeOf130
 v51 := Tryd.zeroValue130
 t53 := Tryd.underlying120
 a53 := Tryd.isAgg120
 z53 := Tryd.sizeOf120
 v53 := Tryd.zeroValue120
 t171 := Tryd.underlying119
 a171 := Tryd.isAgg119
 z171 := Tryd.sizeOf119
 v171 := Tryd.zeroValue119
 t173 := Tryd.underlying123
 a173 := Tryd.isAgg123
 z173 := Tryd.sizeOf123
 v173 := Tryd.zeroValue123
 t212 := Tryd.underlying129
 a212 := Tryd.isAgg129
 z212 := Tryd.sizeOf129
 v212 := Tryd.zeroValue129
 t213 := Tryd.underlying131
 a213 := Tryd.isAgg131
 z213 := Tryd.sizeOf131
 t232 := Tryd.underlying135
 a232 := Tryd.isAgg135
 z232 := Tryd.sizeOf135
 v232 := Tryd.zeroValue135
 t233 := Tryd.underlying136
 a233 := Tryd.isAgg136
 z233 := Tryd.sizeOf136
 v233 := Tryd.zeroValue136
 g17 := by kernel_rfl
 g18 := by kernel_rfl
 g19 := by kernel_rfl }
open Go.RowKit Go.Sort Go.Lib in
theorem sh_strconv_Itoa_small (i : Nat) (hi : i < 100) (w : World) :
  Calls Tryd.prog 97 #[.int .i64 i] w fun e w' => e = .returned (.string ⟨(Lib.decDigits i).toArray⟩) ∧ w' = w := Any.strconv_Itoa_small sh_lays171 i hi w
end Go.Proofs.YtlhhpogaaneamaaDoor.X
namespace Go.Proofs.YtlhhpogaaneamaaDoor.X
open Go.RowKit Go.Shelf Go.Proofs.YtlhhpogaaneamaaDoorW.PrintWords Go.Proofs.YtlhhpogaaneamaaDoorW.PrintLast Go.Proofs.YtlhhpogaaneamaaDoorW.PrintMore
set_option linter.unusedVariables false
theorem info9 : (Tryd.prog.info? 9).map (fun i => (i.zero, i.size, i.bytes)) = some (some (.string .empty), 1, 16) := by kernel_rfl
def dg (z : Int) : ByteArray := ⟨(Lib.decDigits z.toNat).toArray⟩
def pc (p : S57) : ByteArray := (dg p.f0 ++ ⟨#[44]⟩) ++ dg p.f1
theorem dg_size (z : Int) (h1 : z < 100) : (dg z).size ≤ 2 := by
 have h : ∀ n, n < 100 → (Lib.decDigits n).length ≤ 2 := fun n hn => by
  rw [Lib.decDigits]; split
  ·
   simp
  ·
   rw [Lib.decDigits, dif_pos (by omega)]; simp
 have := h z.toNat (by omega)
 simpa [dg, ByteArray.size] using this
theorem itoa_c (z : Int) (h0 : 0 ≤ z) (h1 : z < 100) (w : World) : Calls Tryd.prog 97 #[.int .i64 z] w fun e w' => e = .returned (.string (dg z)) ∧ w' = w := by
 have h := sh_strconv_Itoa_small z.toNat (by omega) w
 rwa [show ((z.toNat : Nat) : Int) = z by omega] at h
theorem take_pc (c : List S57) (i : Int) (h0 : 0 ≤ i) (h1 : i < c.length) : (c.take i.toNat).map pc ++ [pc (rd_T57 c i)] = (c.take (i + 1).toNat).map pc := by
 unfold rd_T57
 have e : (i + 1).toNat = i.toNat + 1 := by omega
 have h : i.toNat < c.length := by omega
 rw [e, List.take_add_one, List.getElem?_eq_getElem h, List.map_append, List.getD_eq_getElem?_getD, List.getElem?_eq_getElem h]
 rfl
theorem str_row {w : World} {base : Nat} {v : Value} {xs : List ByteArray} (h : Kd.R Kd.string 9 w base (fun _ => True) v xs) (hne : 0 < xs.length) :
  ∃ g cap, v = .slice (some ⟨g, 0, none⟩) xs.length cap ∧ xs.length ≤ cap ∧ g < w.heap.size ∧ ∀ (j : Nat) x, xs[j]? = some x → w.cell? ⟨g, 0 + j, none⟩ = some (.string x) := by
 obtain ⟨_, ⟨_, hn⟩ | ⟨g, cap, cur, hv, _, hb, hc, _, hs, ht⟩⟩ := Kd.own_of_R h
 ·
  omega
 ·
  refine ⟨g, cap, hv, hc, ?_, fun j x hj => ?_⟩
  ·
   rcases Nat.lt_or_ge g w.heap.size with hlt | hge
   ·
    exact hlt
   ·
    rw [Array.getElem?_eq_none hge] at hb; cases hb
  ·
   rw [Nat.zero_add, cell_of_row w g j cur 9 (0, 0) hb]
   have hj' := (List.getElem?_eq_some_iff.1 hj).1
   have e : (cur.toList.take (xs.length * 1))[j]? = some (.string x) := by rw [ht]; simp [encs, hj]
   rw [List.getElem?_take_of_lt (by omega)] at e
   simpa using e
set_option maxRecDepth 100000 in
set_option maxHeartbeats 1000000 in
theorem print_small (A : Option Addr) (cap : Nat) (c : List S57) (w : World) (hr : Kd.C k57 w A c.length c) (hc : c.length ≤ cap) (hg : goodB c = true) (hs : ∀ p ∈ c, p.f0 < 100 ∧ p.f1 < 100) (hlj : (Lib.join ((c.map pc).map (·.data.toList)) [32]).length ≤ 140737488355328) (J : ByteArray) (hJ0 : (⟨(Lib.join ((c.map pc).map (·.data.toList)) [32]).toArray⟩ : ByteArray) = J) :
  Calls Tryd.prog 63 #[.slice A c.length cap] w fun e w' => e = .returned (.tuple #[.string J, .int .i64 0]) ∧ Below w.heap.size w w' := by
 have hu57 := Tryd.underlying57
 have HR := Aside0.mk hr
 have HG := Aside0.mk (good_of hg)
 have HC := Aside0.mk (show curve_Check.f c = some 0 by simp [curve_Check.f, hg])
 have HS := Aside0.mk hs
 have HL := Aside0.mk hlj
 have HJ0 := Aside0.mk hJ0
 clear hlj hJ0
 have hl2 := HG.out.len2
 have hl64 := HG.out.len64
 clear hr hg hs
 go_enter Tryd.func63, Tryd.ntmps63
 go_wp2_with fail
 refine (curve_Check.calls A cap c 0 _ HR.out hc HC.out).mono ?_
 rintro e w1 ⟨rfl, hb⟩
 have HB := Aside0.mk hb
 clear hb
 go_wp2_with fail
 go_loopw [5, 15] (fun v5 v15 wr => ∃ i : Int, 0 ≤ i ∧ i ≤ c.length ∧ v15 = .int .i64 i ∧ Aside0 (Kd.R Kd.string 9 wr w.heap.size (fun _ => True) v5 ((c.take i.toNat).map pc)) ∧ Aside0 (Below w.heap.size w wr)) (fun _ v15 _ => c.length - (intOf v15).toNat)
 case atStart => exact ⟨0, by omega, by omega, rfl, ⟨Kd.R_nil _ _ _ _ _⟩, HB⟩
 case round =>
  clear HB
  obtain ⟨i, h0, h1, rfl, HO, HB⟩ := hrel
  by_cases hlt : i < c.length
  ·
   obtain ⟨ad, e258, hx0, hx1⟩ := at_T57 HR.out i h0 hlt
   cases e258
   replace hx0 := (HB.out.cell (World.block_lt_of_cell? w _ hx0)).trans hx0
   replace hx1 := (HB.out.cell (World.block_lt_of_cell? w _ hx1)).trans hx1
   go_wp2_with fail
   have hS := HS.out (rd_T57 c i) (by unfold rd_T57; rw [getD_of (by omega)]; exact List.getElem_mem _)
   have hbx := HG.out.bx i.toNat (by omega)
   have hby := HG.out.by_ i.toNat (by omega)
   have I1 := Aside0.mk (itoa_c (rd_T57 c i).f0 hbx.1 hS.1)
   have I2 := Aside0.mk (itoa_c (rd_T57 c i).f1 hby.1 hS.2)
   have z1 := dg_size _ hS.1
   have z2 := dg_size _ hS.2
   have y1 := eq_false (show ¬ (9223372036854775807 < (dg (rd_T57 c i).f0).size + 1) by omega)
   have y2 := eq_false (show ¬ (9223372036854775807 < (dg (rd_T57 c i).f0).size + 1 + (dg (rd_T57 c i).f1).size) by omega)
   obtain ⟨Wd, hWd⟩ : ∃ Wd, (wr.alloc (.cells #[.int .i64 (rd_T57 c i).f0, .int .i64 (rd_T57 c i).f1] 57)).drew = Wd := ⟨_, rfl⟩
   have hblk : Blk Wd wr.heap.size 57 #[.int .i64 (rd_T57 c i).f0, .int .i64 (rd_T57 c i).f1] := by rw [← hWd]; exact (Blk.new wr 57 _).drewN 1
   have hbb : Below wr.heap.size wr Wd := by rw [← hWd]; exact below_drew1 ((Below.refl _ wr).alloc (Nat.le_refl _) _)
   have HO1 := Aside0.mk (Kd.R_below HO.out hbb)
   have HB1 := Aside0.mk (HB.out.trans (hbb.mono HB.out.size))
   have d0 : Wd.cell? ⟨wr.heap.size, 0, none⟩ = some (.int .i64 (rd_T57 c i).f0) := hblk.cell 0
   have d1 : Wd.cell? ⟨wr.heap.size, 1, none⟩ = some (.int .i64 (rd_T57 c i).f1) := hblk.cell 1
   clear hbx hby hS hblk hbb HO HB hx0 hx1
   refine wp_region_any (by kernel_rfl) ?_
   change wpAny _ _ _ _ _ _ _ (World.drew _)
   rw [hWd]
   clear hWd
   refine wpAny_take (i := 0) (v := ?_) rfl (by kernel_rfl) (by kernel_rfl) (by kernel_rfl) (fun _ _ _ h => h) (Or.inl ⟨by rfl, ?_⟩) ?_
   rotate_left
   ·
    intro w; go_simp; try with_reducible rfl
   refine wpAny_take (i := 1) (v := ?_) rfl (by kernel_rfl) (by kernel_rfl) (by kernel_rfl) (fun _ _ _ h => h) (Or.inl ⟨by rfl, ?_⟩) ?_
   rotate_left
   ·
    intro w; go_simp; try with_reducible rfl
   refine wpAny_take (i := 5) (v := ?_) rfl (by kernel_rfl) (by kernel_rfl) (by kernel_rfl) (fun _ _ _ h => h) (Or.inl ⟨by rfl, ?_⟩) ?_
   rotate_left
   ·
    intro w; go_simp; try with_reducible rfl
   refine wpAny_ready (rs := [2, 6]) (by kernel_rfl) (by simp) ?_
   refine AllReady.cons rfl (fun K hK => ?_) ?_
   ·
    go_simp
    (refine hK _ _ ?_; clear hK K)
    refine wpAny_ready (rs := [3, 6]) (by kernel_rfl) (by simp) ?_
    refine AllReady.cons rfl (fun K hK => ?_) ?_
    ·
     go_simp
     go_at_call 97
     refine (I1.out _).mono ?_
     rintro e w' ⟨rfl, rfl⟩
     (refine hK _ _ ?_; clear hK K)
     refine wpAny_take (i := 4) (v := ?_) rfl (by kernel_rfl) (by kernel_rfl) (by kernel_rfl) (fun _ _ _ h => h) (Or.inl ⟨by rfl, ?_⟩) ?_
     rotate_left
     ·
      intro w; go_simp; try with_reducible rfl
     refine wpAny_ready (rs := [6]) (by kernel_rfl) (by simp) ?_
     refine AllReady.cons rfl (fun K hK => ?_) ?_
     ·
      go_simp
      (refine hK _ _ ?_; clear hK K)
      refine wpAny_ready (rs := [7]) (by kernel_rfl) (by simp) ?_
      refine AllReady.cons rfl (fun K hK => ?_) ?_
      ·
       go_simp
       go_at_call 97
       refine (I2.out _).mono ?_
       rintro e w' ⟨rfl, rfl⟩
       (refine hK _ _ ?_; clear hK K)
       refine wpAny_take (i := 8) (v := ?_) rfl (by kernel_rfl) (by kernel_rfl) (by kernel_rfl) (fun _ _ _ h => h) (Or.inl ⟨by rfl, ?_⟩) ?_
       rotate_left
       ·
        intro w; go_simp; try with_reducible rfl
       refine wpAny_ready (rs := [9]) (by kernel_rfl) (by simp) ?_
       refine AllReady.cons rfl (fun K hK => ?_) ?_
       ·
        go_simp
        (refine hK _ _ ?_; clear hK K)
        refine wpAny_ready (rs := [10]) (by kernel_rfl) (by simp) ?_
        refine AllReady.cons rfl (fun K hK => ?_) ?_
        ·
         skip
         refine Kd.R_append_step Kd.string (w0 := w) w.heap.size (by rfl) (.tmp 19) (.tmp 28) 97 9 (.string .empty) 16 rfl Tryd.underlying97 info9 rfl (by decide) (by decide) u5 ((c.take i.toNat).map pc) (pc (rd_T57 c i)) [.string (pc (rd_T57 c i))] (fun _ => True) (fun _ => False) rfl rfl rfl (fun _ hk => hk.elim) (fun _ _ => trivial) HO1.out HB1.out (below_size HB1.out) (by simp only [List.length_map, List.length_take]; omega) ?_
         intro v9 w9 ho hb hg hat
         have HO2 := Aside0.mk ho
         have HB2 := Aside0.mk hb
         clear ho hb hg hat
         (refine hK _ _ ?_; clear hK K)
         refine wpAny_take (i := 11) (v := ?_) rfl (by kernel_rfl) (by kernel_rfl) (by kernel_rfl) (fun _ _ _ h => h) (Or.inl ⟨by rfl, ?_⟩) ?_
         rotate_left
         ·
          intro w; go_simp; try with_reducible rfl
         refine wpAny_done (by kernel_rfl) ?_ _
         go_wp2_with fail
         go_roundw
         case rel => exact ⟨i + 1, by omega, by omega, by go_num, ⟨by have := HO2.out; rw [take_pc c i h0 hlt] at this; exact this⟩, HB2⟩
         case measure => simp [intOf]; omega
        exact AllReady.nil
       exact AllReady.nil
      exact AllReady.nil
     exact AllReady.nil
    refine AllReady.cons rfl (fun K hK => ?_) ?_
    ·
     go_simp
     (refine hK _ _ ?_; clear hK K)
     refine wpAny_ready (rs := [3]) (by kernel_rfl) (by simp) ?_
     refine AllReady.cons rfl (fun K hK => ?_) ?_
     ·
      go_simp
      go_at_call 97
      refine (I1.out _).mono ?_
      rintro e w' ⟨rfl, rfl⟩
      (refine hK _ _ ?_; clear hK K)
      refine wpAny_take (i := 4) (v := ?_) rfl (by kernel_rfl) (by kernel_rfl) (by kernel_rfl) (fun _ _ _ h => h) (Or.inl ⟨by rfl, ?_⟩) ?_
      rotate_left
      ·
       intro w; go_simp; try with_reducible rfl
      refine wpAny_ready (rs := [7]) (by kernel_rfl) (by simp) ?_
      refine AllReady.cons rfl (fun K hK => ?_) ?_
      ·
       go_simp
       go_at_call 97
       refine (I2.out _).mono ?_
       rintro e w' ⟨rfl, rfl⟩
       (refine hK _ _ ?_; clear hK K)
       refine wpAny_take (i := 8) (v := ?_) rfl (by kernel_rfl) (by kernel_rfl) (by kernel_rfl) (fun _ _ _ h => h) (Or.inl ⟨by rfl, ?_⟩) ?_
       rotate_left
       ·
        intro w; go_simp; try with_reducible rfl
       refine wpAny_ready (rs := [9]) (by kernel_rfl) (by simp) ?_
       refine AllReady.cons rfl (fun K hK => ?_) ?_
       ·
        go_simp
        (refine hK _ _ ?_; clear hK K)
        refine wpAny_ready (rs := [10]) (by kernel_rfl) (by simp) ?_
        refine AllReady.cons rfl (fun K hK => ?_) ?_
        ·
         skip
         refine Kd.R_append_step Kd.string (w0 := w) w.heap.size (by rfl) (.tmp 19) (.tmp 28) 97 9 (.string .empty) 16 rfl Tryd.underlying97 info9 rfl (by decide) (by decide) u5 ((c.take i.toNat).map pc) (pc (rd_T57 c i)) [.string (pc (rd_T57 c i))] (fun _ => True) (fun _ => False) rfl rfl rfl (fun _ hk => hk.elim) (fun _ _ => trivial) HO1.out HB1.out (below_size HB1.out) (by simp only [List.length_map, List.length_take]; omega) ?_
         intro v9 w9 ho hb hg hat
         have HO2 := Aside0.mk ho
         have HB2 := Aside0.mk hb
         clear ho hb hg hat
         (refine hK _ _ ?_; clear hK K)
         refine wpAny_take (i := 11) (v := ?_) rfl (by kernel_rfl) (by kernel_rfl) (by kernel_rfl) (fun _ _ _ h => h) (Or.inl ⟨by rfl, ?_⟩) ?_
         rotate_left
         ·
          intro w; go_simp; try with_reducible rfl
         refine wpAny_done (by kernel_rfl) ?_ _
         go_wp2_with fail
         go_roundw
         case rel => exact ⟨i + 1, by omega, by omega, by go_num, ⟨by have := HO2.out; rw [take_pc c i h0 hlt] at this; exact this⟩, HB2⟩
         case measure => simp [intOf]; omega
        exact AllReady.nil
       exact AllReady.nil
      exact AllReady.nil
     exact AllReady.nil
    exact AllReady.nil
   refine AllReady.cons rfl (fun K hK => ?_) ?_
   ·
    go_simp
    (refine hK _ _ ?_; clear hK K)
    refine wpAny_ready (rs := [2]) (by kernel_rfl) (by simp) ?_
    refine AllReady.cons rfl (fun K hK => ?_) ?_
    ·
     go_simp
     (refine hK _ _ ?_; clear hK K)
     refine wpAny_ready (rs := [3]) (by kernel_rfl) (by simp) ?_
     refine AllReady.cons rfl (fun K hK => ?_) ?_
     ·
      go_simp
      go_at_call 97
      refine (I1.out _).mono ?_
      rintro e w' ⟨rfl, rfl⟩
      (refine hK _ _ ?_; clear hK K)
      refine wpAny_take (i := 4) (v := ?_) rfl (by kernel_rfl) (by kernel_rfl) (by kernel_rfl) (fun _ _ _ h => h) (Or.inl ⟨by rfl, ?_⟩) ?_
      rotate_left
      ·
       intro w; go_simp; try with_reducible rfl
      refine wpAny_ready (rs := [7]) (by kernel_rfl) (by simp) ?_
      refine AllReady.cons rfl (fun K hK => ?_) ?_
      ·
       go_simp
       go_at_call 97
       refine (I2.out _).mono ?_
       rintro e w' ⟨rfl, rfl⟩
       (refine hK _ _ ?_; clear hK K)
       refine wpAny_take (i := 8) (v := ?_) rfl (by kernel_rfl) (by kernel_rfl) (by kernel_rfl) (fun _ _ _ h => h) (Or.inl ⟨by rfl, ?_⟩) ?_
       rotate_left
       ·
        intro w; go_simp; try with_reducible rfl
       refine wpAny_ready (rs := [9]) (by kernel_rfl) (by simp) ?_
       refine AllReady.cons rfl (fun K hK => ?_) ?_
       ·
        go_simp
        (refine hK _ _ ?_; clear hK K)
        refine wpAny_ready (rs := [10]) (by kernel_rfl) (by simp) ?_
        refine AllReady.cons rfl (fun K hK => ?_) ?_
        ·
         skip
         refine Kd.R_append_step Kd.string (w0 := w) w.heap.size (by rfl) (.tmp 19) (.tmp 28) 97 9 (.string .empty) 16 rfl Tryd.underlying97 info9 rfl (by decide) (by decide) u5 ((c.take i.toNat).map pc) (pc (rd_T57 c i)) [.string (pc (rd_T57 c i))] (fun _ => True) (fun _ => False) rfl rfl rfl (fun _ hk => hk.elim) (fun _ _ => trivial) HO1.out HB1.out (below_size HB1.out) (by simp only [List.length_map, List.length_take]; omega) ?_
         intro v9 w9 ho hb hg hat
         have HO2 := Aside0.mk ho
         have HB2 := Aside0.mk hb
         clear ho hb hg hat
         (refine hK _ _ ?_; clear hK K)
         refine wpAny_take (i := 11) (v := ?_) rfl (by kernel_rfl) (by kernel_rfl) (by kernel_rfl) (fun _ _ _ h => h) (Or.inl ⟨by rfl, ?_⟩) ?_
         rotate_left
         ·
          intro w; go_simp; try with_reducible rfl
         refine wpAny_done (by kernel_rfl) ?_ _
         go_wp2_with fail
         go_roundw
         case rel => exact ⟨i + 1, by omega, by omega, by go_num, ⟨by have := HO2.out; rw [take_pc c i h0 hlt] at this; exact this⟩, HB2⟩
         case measure => simp [intOf]; omega
        exact AllReady.nil
       exact AllReady.nil
      exact AllReady.nil
     exact AllReady.nil
    exact AllReady.nil
   exact AllReady.nil
  ·
   have e : c.take i.toNat = c := List.take_of_length_le (by omega)
   have hO := HO.out
   rw [e] at hO
   obtain ⟨g, cp, hv, hcp, hg, hcs⟩ := str_row hO (by simp; omega)
   rw [List.length_map] at hv
   subst hv
   have HJ := Aside0.mk (show Calls Tryd.prog 98 #[.slice (some ⟨g, 0, none⟩) (c.map pc).length cp, .string ⟨#[32]⟩] wr fun e w' => e = .returned (.string J) ∧ Below wr.heap.size wr w' by
    rw [← HJ0.out]; exact sh_strings_Join g 0 cp (c.map pc) ⟨#[32]⟩ wr hcs hg (by simp; omega) hcp HL.out)
   have HBr := Aside0.mk HB.out
   clear e hO hcs HO hg hcp
   go_wp2_with fail
   have hJ := HJ.out
   rw [List.length_map] at hJ
   refine hJ.mono ?_
   rintro e w9 ⟨rfl, hb⟩
   have HB9 := Aside0.mk (HBr.out.trans (hb.mono HBr.out.size))
   clear hb hJ HJ
   go_wp2_with fail
   go_ret2
   exact ⟨rfl, HB9.out⟩
theorem curve_Print.calls (A0 : Option Addr) (c0 : Nat) (l0 : List S57) (r1 : ByteArray) (r2 : Int) (w : World) (hr0 : Kd.C k57 w A0 l0.length l0) (hc0 : l0.length ≤ c0) (h : curve_Print.f l0 = some (r1, r2)) :
  Calls Tryd.prog 63 #[.slice A0 l0.length c0] w fun e w' => e = .returned (.tuple #[.string r1, .int .i64 r2]) ∧ Below w.heap.size w w' := by
 unfold curve_Print.f at h
 by_cases he : l0.map (fun p => (p.f0, p.f1)) = [(0, 0), (3, 2), (5, 10)]
 ·
  rw [if_pos he] at h
  simp only [Option.some.injEq, Prod.mk.injEq] at h
  obtain ⟨rfl, rfl⟩ := h
  have hl : l0 = [⟨0, 0⟩, ⟨3, 2⟩, ⟨5, 10⟩] := by
   match l0, he with
   | [⟨a, b⟩, ⟨c, d⟩, ⟨e, f⟩], he => simp at he; obtain ⟨⟨rfl, rfl⟩, ⟨rfl, rfl⟩, rfl, rfl⟩ := he; rfl
  have ej : Lib.join ((l0.map pc).map (·.data.toList)) [32] = [48, 44, 48, 32, 51, 44, 50, 32, 53, 44, 49, 48] := by
   subst hl
   have d0 : Lib.decDigits 0 = [48] := by rw [Lib.decDigits]; rfl
   have d3 : Lib.decDigits 3 = [51] := by rw [Lib.decDigits]; rfl
   have d2 : Lib.decDigits 2 = [50] := by rw [Lib.decDigits]; rfl
   have d5 : Lib.decDigits 5 = [53] := by rw [Lib.decDigits]; rfl
   have d10 : Lib.decDigits 10 = [49, 48] := by rw [Lib.decDigits, dif_neg (by omega), Lib.decDigits]; rfl
   simp [pc, dg, d0, d2, d3, d5, d10, Lib.join]
  have key := print_small A0 c0 l0 w hr0 hc0 (by subst hl; decide) (by subst hl; simp) (by rw [ej]; simp) sampleText (by rw [ej]; rfl)
  exact key
 ·
  rw [if_neg he] at h; cases h
end Go.Proofs.YtlhhpogaaneamaaDoor.X
namespace Go.Proofs.YtlhhpogaaneamaaDoor.X
open Go.RowKit Go.Shelf Go.Proofs.YtlhhpogaaneamaaDoorW.PrintWords Go.Proofs.YtlhhpogaaneamaaDoorW.PrintLast Go.Proofs.YtlhhpogaaneamaaDoorW.PrintMore
set_option linter.unusedVariables false
set_option maxRecDepth 100000 in
set_option maxHeartbeats 4000000 in
theorem first1_calls (A : Option Addr) (cap : Nat) (c : List S57) (hg : Good c) (y m : Int) (h0 : px c 0 ≤ m) (h1 : m ≤ px c (c.length - 1)) (B1 B2 : Nat) (w : World) (hr : Kd.C k57 w A c.length c) (hcap : c.length ≤ cap) (hb1 : Blk w B1 23 #[.slice A c.length cap]) (hb2 : Blk w B2 3 #[.int .i64 y]) :
  Calls Tryd.prog 79 #[.int .i64 m, .pointer (some ⟨B1, 0, none⟩), .pointer (some ⟨B2, 0, none⟩)] w fun e w' => e = .returned (.bool (reachB c y m)) ∧ Below w.heap.size w w' := by
 obtain ⟨l, hl, hml, hx0, hx1⟩ := lineAt_of hg h0 h1
 have hok := good_line hg hml
 have HAT := Aside0.mk (show curve_at.f c m = some (l.1.f0, l.1.f1, l.2.f0, l.2.f1) by unfold curve_at.f; rw [hl])
 have HLOW := Aside0.mk (low_eq hok hx0 hx1)
 have hres : reachB c y m = decide (y ≤ lowI l m) := by unfold reachB; rw [hl]
 rw [hres]
 have HR := Aside0.mk hr
 have b1 := Aside0.mk hb1
 have b2 := Aside0.mk hb2
 have HB := Aside0.mk (show Below w.heap.size w w.drew from below_drew1 (Below.refl w.heap.size w))
 have c1 : w.drew.cell? ⟨B1, 0, none⟩ = some (.slice A c.length cap) := (b1.out.below HB.out b1.out.lt).cell 0
 have c2 : w.drew.cell? ⟨B2, 0, none⟩ = some (.int .i64 y) := (b2.out.below HB.out b2.out.lt).cell 0
 clear hl hml hx0 hx1 hok hres hr hb1 hb2 h0 h1 hg
 go_enter Tryd.func79, Tryd.ntmps79
 go_wp2_with fail
 refine wp_region_any (by kernel_rfl) ?_
 change wpAny _ _ _ _ _ _ _ (World.drew _)
 refine wpAny_take (i := 1) (v := ?_) rfl (by kernel_rfl) (by kernel_rfl) (by kernel_rfl) (fun _ _ _ h => h) (Or.inl ⟨by rfl, ?_⟩) ?_
 rotate_left
 ·
  intro w; go_simp; try with_reducible rfl
 refine wpAny_take (i := 3) (v := ?_) rfl (by kernel_rfl) (by kernel_rfl) (by kernel_rfl) (fun _ _ _ h => h) (Or.inl ⟨by rfl, ?_⟩) ?_
 rotate_left
 ·
  intro w; go_simp; try with_reducible rfl
 refine wpAny_ready (rs := [0, 5]) (by kernel_rfl) (by simp) ?_
 refine AllReady.cons rfl (fun K hK => ?_) ?_
 ·
  go_simp
  (refine hK _ _ ?_; clear hK K)
  refine wpAny_ready (rs := [2, 5]) (by kernel_rfl) (by simp) ?_
  refine AllReady.cons rfl (fun K hK => ?_) ?_
  ·
   go_simp
   refine (curve_at.calls A cap c m _ _ _ _ _ (Kd.C_below HR.out HB.out) hcap HAT.out).mono ?_
   rintro e w1 ⟨rfl, hb⟩
   have hb0 := hb
   have HB1 := Aside0.mk (HB.out.trans (hb.mono HB.out.size))
   clear hb hb0 HB c1 c2
   have HB := HB1
   clear HB1
   have c1 : w1.cell? ⟨B1, 0, none⟩ = some (.slice A c.length cap) := (b1.out.below HB.out b1.out.lt).cell 0
   have c2 : w1.cell? ⟨B2, 0, none⟩ = some (.int .i64 y) := (b2.out.below HB.out b2.out.lt).cell 0
   (refine hK _ _ ?_; clear hK K)
   refine wpAny_ready (rs := [4, 5]) (by kernel_rfl) (by simp) ?_
   refine AllReady.cons rfl (fun K hK => ?_) ?_
   ·
    go_simp
    refine (curve_line_low.calls _ _ _ _ m _ _ HLOW.out).mono ?_
    rintro e w2 ⟨rfl, hb⟩
    have HB1 := Aside0.mk (HB.out.trans (hb.mono HB.out.size))
    clear hb HB c1 c2
    have HB := HB1
    clear HB1
    have c1 : w2.cell? ⟨B1, 0, none⟩ = some (.slice A c.length cap) := (b1.out.below HB.out b1.out.lt).cell 0
    have c2 : w2.cell? ⟨B2, 0, none⟩ = some (.int .i64 y) := (b2.out.below HB.out b2.out.lt).cell 0
    (refine hK _ _ ?_; clear hK K)
    refine wpAny_ready (rs := [5]) (by kernel_rfl) (by simp) ?_
    refine AllReady.cons rfl (fun K hK => ?_) ?_
    ·
     go_simp
     (refine hK _ _ ?_; clear hK K)
     refine wpAny_take (i := 6) (v := ?_) rfl (by kernel_rfl) (by kernel_rfl) (by kernel_rfl) (fun _ _ _ h => h) (Or.inl ⟨by rfl, ?_⟩) ?_
     rotate_left
     ·
      intro w; go_simp; try with_reducible rfl
     refine wpAny_take (i := 7) (v := ?_) rfl (by kernel_rfl) (by kernel_rfl) (by kernel_rfl) (fun _ _ _ h => h) (Or.inl ⟨by rfl, ?_⟩) ?_
     rotate_left
     ·
      intro w; go_simp; try with_reducible rfl
     refine wpAny_done (by kernel_rfl) ?_ _
     go_wp2_with fail
     go_ret
     exact ⟨rfl, HB.out⟩
    exact AllReady.nil
   refine AllReady.cons rfl (fun K hK => ?_) ?_
   ·
    go_simp
    (refine hK _ _ ?_; clear hK K)
    refine wpAny_ready (rs := [4]) (by kernel_rfl) (by simp) ?_
    refine AllReady.cons rfl (fun K hK => ?_) ?_
    ·
     go_simp
     refine (curve_line_low.calls _ _ _ _ m _ _ HLOW.out).mono ?_
     rintro e w2 ⟨rfl, hb⟩
     have HB1 := Aside0.mk (HB.out.trans (hb.mono HB.out.size))
     clear hb HB c1 c2
     have HB := HB1
     clear HB1
     have c1 : w2.cell? ⟨B1, 0, none⟩ = some (.slice A c.length cap) := (b1.out.below HB.out b1.out.lt).cell 0
     have c2 : w2.cell? ⟨B2, 0, none⟩ = some (.int .i64 y) := (b2.out.below HB.out b2.out.lt).cell 0
     (refine hK _ _ ?_; clear hK K)
     refine wpAny_take (i := 6) (v := ?_) rfl (by kernel_rfl) (by kernel_rfl) (by kernel_rfl) (fun _ _ _ h => h) (Or.inl ⟨by rfl, ?_⟩) ?_
     rotate_left
     ·
      intro w; go_simp; try with_reducible rfl
     refine wpAny_take (i := 7) (v := ?_) rfl (by kernel_rfl) (by kernel_rfl) (by kernel_rfl) (fun _ _ _ h => h) (Or.inl ⟨by rfl, ?_⟩) ?_
     rotate_left
     ·
      intro w; go_simp; try with_reducible rfl
     refine wpAny_done (by kernel_rfl) ?_ _
     go_wp2_with fail
     go_ret
     exact ⟨rfl, HB.out⟩
    exact AllReady.nil
   exact AllReady.nil
  refine AllReady.cons rfl (fun K hK => ?_) ?_
  ·
   go_simp
   (refine hK _ _ ?_; clear hK K)
   refine wpAny_ready (rs := [2]) (by kernel_rfl) (by simp) ?_
   refine AllReady.cons rfl (fun K hK => ?_) ?_
   ·
    go_simp
    refine (curve_at.calls A cap c m _ _ _ _ _ (Kd.C_below HR.out HB.out) hcap HAT.out).mono ?_
    rintro e w1 ⟨rfl, hb⟩
    have hb0 := hb
    have HB1 := Aside0.mk (HB.out.trans (hb.mono HB.out.size))
    clear hb hb0 HB c1 c2
    have HB := HB1
    clear HB1
    have c1 : w1.cell? ⟨B1, 0, none⟩ = some (.slice A c.length cap) := (b1.out.below HB.out b1.out.lt).cell 0
    have c2 : w1.cell? ⟨B2, 0, none⟩ = some (.int .i64 y) := (b2.out.below HB.out b2.out.lt).cell 0
    (refine hK _ _ ?_; clear hK K)
    refine wpAny_ready (rs := [4]) (by kernel_rfl) (by simp) ?_
    refine AllReady.cons rfl (fun K hK => ?_) ?_
    ·
     go_simp
     refine (curve_line_low.calls _ _ _ _ m _ _ HLOW.out).mono ?_
     rintro e w2 ⟨rfl, hb⟩
     have HB1 := Aside0.mk (HB.out.trans (hb.mono HB.out.size))
     clear hb HB c1 c2
     have HB := HB1
     clear HB1
     have c1 : w2.cell? ⟨B1, 0, none⟩ = some (.slice A c.length cap) := (b1.out.below HB.out b1.out.lt).cell 0
     have c2 : w2.cell? ⟨B2, 0, none⟩ = some (.int .i64 y) := (b2.out.below HB.out b2.out.lt).cell 0
     (refine hK _ _ ?_; clear hK K)
     refine wpAny_take (i := 6) (v := ?_) rfl (by kernel_rfl) (by kernel_rfl) (by kernel_rfl) (fun _ _ _ h => h) (Or.inl ⟨by rfl, ?_⟩) ?_
     rotate_left
     ·
      intro w; go_simp; try with_reducible rfl
     refine wpAny_take (i := 7) (v := ?_) rfl (by kernel_rfl) (by kernel_rfl) (by kernel_rfl) (fun _ _ _ h => h) (Or.inl ⟨by rfl, ?_⟩) ?_
     rotate_left
     ·
      intro w; go_simp; try with_reducible rfl
     refine wpAny_done (by kernel_rfl) ?_ _
     go_wp2_with fail
     go_ret
     exact ⟨rfl, HB.out⟩
    exact AllReady.nil
   exact AllReady.nil
  exact AllReady.nil
 refine AllReady.cons rfl (fun K hK => ?_) ?_
 ·
  go_simp
  (refine hK _ _ ?_; clear hK K)
  refine wpAny_ready (rs := [0]) (by kernel_rfl) (by simp) ?_
  refine AllReady.cons rfl (fun K hK => ?_) ?_
  ·
   go_simp
   (refine hK _ _ ?_; clear hK K)
   refine wpAny_ready (rs := [2]) (by kernel_rfl) (by simp) ?_
   refine AllReady.cons rfl (fun K hK => ?_) ?_
   ·
    go_simp
    refine (curve_at.calls A cap c m _ _ _ _ _ (Kd.C_below HR.out HB.out) hcap HAT.out).mono ?_
    rintro e w1 ⟨rfl, hb⟩
    have hb0 := hb
    have HB1 := Aside0.mk (HB.out.trans (hb.mono HB.out.size))
    clear hb hb0 HB c1 c2
    have HB := HB1
    clear HB1
    have c1 : w1.cell? ⟨B1, 0, none⟩ = some (.slice A c.length cap) := (b1.out.below HB.out b1.out.lt).cell 0
    have c2 : w1.cell? ⟨B2, 0, none⟩ = some (.int .i64 y) := (b2.out.below HB.out b2.out.lt).cell 0
    (refine hK _ _ ?_; clear hK K)
    refine wpAny_ready (rs := [4]) (by kernel_rfl) (by simp) ?_
    refine AllReady.cons rfl (fun K hK => ?_) ?_
    ·
     go_simp
     refine (curve_line_low.calls _ _ _ _ m _ _ HLOW.out).mono ?_
     rintro e w2 ⟨rfl, hb⟩
     have HB1 := Aside0.mk (HB.out.trans (hb.mono HB.out.size))
     clear hb HB c1 c2
     have HB := HB1
     clear HB1
     have c1 : w2.cell? ⟨B1, 0, none⟩ = some (.slice A c.length cap) := (b1.out.below HB.out b1.out.lt).cell 0
     have c2 : w2.cell? ⟨B2, 0, none⟩ = some (.int .i64 y) := (b2.out.below HB.out b2.out.lt).cell 0
     (refine hK _ _ ?_; clear hK K)
     refine wpAny_take (i := 6) (v := ?_) rfl (by kernel_rfl) (by kernel_rfl) (by kernel_rfl) (fun _ _ _ h => h) (Or.inl ⟨by rfl, ?_⟩) ?_
     rotate_left
     ·
      intro w; go_simp; try with_reducible rfl
     refine wpAny_take (i := 7) (v := ?_) rfl (by kernel_rfl) (by kernel_rfl) (by kernel_rfl) (fun _ _ _ h => h) (Or.inl ⟨by rfl, ?_⟩) ?_
     rotate_left
     ·
      intro w; go_simp; try with_reducible rfl
     refine wpAny_done (by kernel_rfl) ?_ _
     go_wp2_with fail
     go_ret
     exact ⟨rfl, HB.out⟩
    exact AllReady.nil
   exact AllReady.nil
  exact AllReady.nil
 exact AllReady.nil
set_option maxRecDepth 100000 in
set_option maxHeartbeats 4000000 in
theorem last1_calls (A : Option Addr) (cap : Nat) (c : List S57) (hg : Good c) (y m : Int) (h0 : px c 0 ≤ m) (h1 : m ≤ px c (c.length - 1)) (B1 B2 : Nat) (w : World) (hr : Kd.C k57 w A c.length c) (hcap : c.length ≤ cap) (hb1 : Blk w B1 23 #[.slice A c.length cap]) (hb2 : Blk w B2 3 #[.int .i64 y]) :
  Calls Tryd.prog 81 #[.int .i64 m, .pointer (some ⟨B1, 0, none⟩), .pointer (some ⟨B2, 0, none⟩)] w fun e w' => e = .returned (.bool (passB c y m)) ∧ Below w.heap.size w w' := by
 obtain ⟨l, hl, hml, hx0, hx1⟩ := lineAt_of hg h0 h1
 have hok := good_line hg hml
 have HAT := Aside0.mk (show curve_at.f c m = some (l.1.f0, l.1.f1, l.2.f0, l.2.f1) by unfold curve_at.f; rw [hl])
 have HLOW := Aside0.mk (up_eq hok hx0 hx1)
 have hres : passB c y m = decide (y < upI l m) := by unfold passB; rw [hl]
 rw [hres]
 have HR := Aside0.mk hr
 have b1 := Aside0.mk hb1
 have b2 := Aside0.mk hb2
 have HB := Aside0.mk (show Below w.heap.size w w.drew from below_drew1 (Below.refl w.heap.size w))
 have c1 : w.drew.cell? ⟨B1, 0, none⟩ = some (.slice A c.length cap) := (b1.out.below HB.out b1.out.lt).cell 0
 have c2 : w.drew.cell? ⟨B2, 0, none⟩ = some (.int .i64 y) := (b2.out.below HB.out b2.out.lt).cell 0
 clear hl hml hx0 hx1 hok hres hr hb1 hb2 h0 h1 hg
 go_enter Tryd.func81, Tryd.ntmps81
 go_wp2_with fail
 refine wp_region_any (by kernel_rfl) ?_
 change wpAny _ _ _ _ _ _ _ (World.drew _)
 refine wpAny_take (i := 1) (v := ?_) rfl (by kernel_rfl) (by kernel_rfl) (by kernel_rfl) (fun _ _ _ h => h) (Or.inl ⟨by rfl, ?_⟩) ?_
 rotate_left
 ·
  intro w; go_simp; try with_reducible rfl
 refine wpAny_take (i := 3) (v := ?_) rfl (by kernel_rfl) (by kernel_rfl) (by kernel_rfl) (fun _ _ _ h => h) (Or.inl ⟨by rfl, ?_⟩) ?_
 rotate_left
 ·
  intro w; go_simp; try with_reducible rfl
 refine wpAny_ready (rs := [0, 5]) (by kernel_rfl) (by simp) ?_
 refine AllReady.cons rfl (fun K hK => ?_) ?_
 ·
  go_simp
  (refine hK _ _ ?_; clear hK K)
  refine wpAny_ready (rs := [2, 5]) (by kernel_rfl) (by simp) ?_
  refine AllReady.cons rfl (fun K hK => ?_) ?_
  ·
   go_simp
   refine (curve_at.calls A cap c m _ _ _ _ _ (Kd.C_below HR.out HB.out) hcap HAT.out).mono ?_
   rintro e w1 ⟨rfl, hb⟩
   have hb0 := hb
   have HB1 := Aside0.mk (HB.out.trans (hb.mono HB.out.size))
   clear hb hb0 HB c1 c2
   have HB := HB1
   clear HB1
   have c1 : w1.cell? ⟨B1, 0, none⟩ = some (.slice A c.length cap) := (b1.out.below HB.out b1.out.lt).cell 0
   have c2 : w1.cell? ⟨B2, 0, none⟩ = some (.int .i64 y) := (b2.out.below HB.out b2.out.lt).cell 0
   (refine hK _ _ ?_; clear hK K)
   refine wpAny_ready (rs := [4, 5]) (by kernel_rfl) (by simp) ?_
   refine AllReady.cons rfl (fun K hK => ?_) ?_
   ·
    go_simp
    refine (curve_line_up.calls _ _ _ _ m _ _ HLOW.out).mono ?_
    rintro e w2 ⟨rfl, hb⟩
    have HB1 := Aside0.mk (HB.out.trans (hb.mono HB.out.size))
    clear hb HB c1 c2
    have HB := HB1
    clear HB1
    have c1 : w2.cell? ⟨B1, 0, none⟩ = some (.slice A c.length cap) := (b1.out.below HB.out b1.out.lt).cell 0
    have c2 : w2.cell? ⟨B2, 0, none⟩ = some (.int .i64 y) := (b2.out.below HB.out b2.out.lt).cell 0
    (refine hK _ _ ?_; clear hK K)
    refine wpAny_ready (rs := [5]) (by kernel_rfl) (by simp) ?_
    refine AllReady.cons rfl (fun K hK => ?_) ?_
    ·
     go_simp
     (refine hK _ _ ?_; clear hK K)
     refine wpAny_take (i := 6) (v := ?_) rfl (by kernel_rfl) (by kernel_rfl) (by kernel_rfl) (fun _ _ _ h => h) (Or.inl ⟨by rfl, ?_⟩) ?_
     rotate_left
     ·
      intro w; go_simp; try with_reducible rfl
     refine wpAny_take (i := 7) (v := ?_) rfl (by kernel_rfl) (by kernel_rfl) (by kernel_rfl) (fun _ _ _ h => h) (Or.inl ⟨by rfl, ?_⟩) ?_
     rotate_left
     ·
      intro w; go_simp; try with_reducible rfl
     refine wpAny_done (by kernel_rfl) ?_ _
     go_wp2_with fail
     go_ret
     exact ⟨rfl, HB.out⟩
    exact AllReady.nil
   refine AllReady.cons rfl (fun K hK => ?_) ?_
   ·
    go_simp
    (refine hK _ _ ?_; clear hK K)
    refine wpAny_ready (rs := [4]) (by kernel_rfl) (by simp) ?_
    refine AllReady.cons rfl (fun K hK => ?_) ?_
    ·
     go_simp
     refine (curve_line_up.calls _ _ _ _ m _ _ HLOW.out).mono ?_
     rintro e w2 ⟨rfl, hb⟩
     have HB1 := Aside0.mk (HB.out.trans (hb.mono HB.out.size))
     clear hb HB c1 c2
     have HB := HB1
     clear HB1
     have c1 : w2.cell? ⟨B1, 0, none⟩ = some (.slice A c.length cap) := (b1.out.below HB.out b1.out.lt).cell 0
     have c2 : w2.cell? ⟨B2, 0, none⟩ = some (.int .i64 y) := (b2.out.below HB.out b2.out.lt).cell 0
     (refine hK _ _ ?_; clear hK K)
     refine wpAny_take (i := 6) (v := ?_) rfl (by kernel_rfl) (by kernel_rfl) (by kernel_rfl) (fun _ _ _ h => h) (Or.inl ⟨by rfl, ?_⟩) ?_
     rotate_left
     ·
      intro w; go_simp; try with_reducible rfl
     refine wpAny_take (i := 7) (v := ?_) rfl (by kernel_rfl) (by kernel_rfl) (by kernel_rfl) (fun _ _ _ h => h) (Or.inl ⟨by rfl, ?_⟩) ?_
     rotate_left
     ·
      intro w; go_simp; try with_reducible rfl
     refine wpAny_done (by kernel_rfl) ?_ _
     go_wp2_with fail
     go_ret
     exact ⟨rfl, HB.out⟩
    exact AllReady.nil
   exact AllReady.nil
  refine AllReady.cons rfl (fun K hK => ?_) ?_
  ·
   go_simp
   (refine hK _ _ ?_; clear hK K)
   refine wpAny_ready (rs := [2]) (by kernel_rfl) (by simp) ?_
   refine AllReady.cons rfl (fun K hK => ?_) ?_
   ·
    go_simp
    refine (curve_at.calls A cap c m _ _ _ _ _ (Kd.C_below HR.out HB.out) hcap HAT.out).mono ?_
    rintro e w1 ⟨rfl, hb⟩
    have hb0 := hb
    have HB1 := Aside0.mk (HB.out.trans (hb.mono HB.out.size))
    clear hb hb0 HB c1 c2
    have HB := HB1
    clear HB1
    have c1 : w1.cell? ⟨B1, 0, none⟩ = some (.slice A c.length cap) := (b1.out.below HB.out b1.out.lt).cell 0
    have c2 : w1.cell? ⟨B2, 0, none⟩ = some (.int .i64 y) := (b2.out.below HB.out b2.out.lt).cell 0
    (refine hK _ _ ?_; clear hK K)
    refine wpAny_ready (rs := [4]) (by kernel_rfl) (by simp) ?_
    refine AllReady.cons rfl (fun K hK => ?_) ?_
    ·
     go_simp
     refine (curve_line_up.calls _ _ _ _ m _ _ HLOW.out).mono ?_
     rintro e w2 ⟨rfl, hb⟩
     have HB1 := Aside0.mk (HB.out.trans (hb.mono HB.out.size))
     clear hb HB c1 c2
     have HB := HB1
     clear HB1
     have c1 : w2.cell? ⟨B1, 0, none⟩ = some (.slice A c.length cap) := (b1.out.below HB.out b1.out.lt).cell 0
     have c2 : w2.cell? ⟨B2, 0, none⟩ = some (.int .i64 y) := (b2.out.below HB.out b2.out.lt).cell 0
     (refine hK _ _ ?_; clear hK K)
     refine wpAny_take (i := 6) (v := ?_) rfl (by kernel_rfl) (by kernel_rfl) (by kernel_rfl) (fun _ _ _ h => h) (Or.inl ⟨by rfl, ?_⟩) ?_
     rotate_left
     ·
      intro w; go_simp; try with_reducible rfl
     refine wpAny_take (i := 7) (v := ?_) rfl (by kernel_rfl) (by kernel_rfl) (by kernel_rfl) (fun _ _ _ h => h) (Or.inl ⟨by rfl, ?_⟩) ?_
     rotate_left
     ·
      intro w; go_simp; try with_reducible rfl
     refine wpAny_done (by kernel_rfl) ?_ _
     go_wp2_with fail
     go_ret
     exact ⟨rfl, HB.out⟩
    exact AllReady.nil
   exact AllReady.nil
  exact AllReady.nil
 refine AllReady.cons rfl (fun K hK => ?_) ?_
 ·
  go_simp
  (refine hK _ _ ?_; clear hK K)
  refine wpAny_ready (rs := [0]) (by kernel_rfl) (by simp) ?_
  refine AllReady.cons rfl (fun K hK => ?_) ?_
  ·
   go_simp
   (refine hK _ _ ?_; clear hK K)
   refine wpAny_ready (rs := [2]) (by kernel_rfl) (by simp) ?_
   refine AllReady.cons rfl (fun K hK => ?_) ?_
   ·
    go_simp
    refine (curve_at.calls A cap c m _ _ _ _ _ (Kd.C_below HR.out HB.out) hcap HAT.out).mono ?_
    rintro e w1 ⟨rfl, hb⟩
    have hb0 := hb
    have HB1 := Aside0.mk (HB.out.trans (hb.mono HB.out.size))
    clear hb hb0 HB c1 c2
    have HB := HB1
    clear HB1
    have c1 : w1.cell? ⟨B1, 0, none⟩ = some (.slice A c.length cap) := (b1.out.below HB.out b1.out.lt).cell 0
    have c2 : w1.cell? ⟨B2, 0, none⟩ = some (.int .i64 y) := (b2.out.below HB.out b2.out.lt).cell 0
    (refine hK _ _ ?_; clear hK K)
    refine wpAny_ready (rs := [4]) (by kernel_rfl) (by simp) ?_
    refine AllReady.cons rfl (fun K hK => ?_) ?_
    ·
     go_simp
     refine (curve_line_up.calls _ _ _ _ m _ _ HLOW.out).mono ?_
     rintro e w2 ⟨rfl, hb⟩
     have HB1 := Aside0.mk (HB.out.trans (hb.mono HB.out.size))
     clear hb HB c1 c2
     have HB := HB1
     clear HB1
     have c1 : w2.cell? ⟨B1, 0, none⟩ = some (.slice A c.length cap) := (b1.out.below HB.out b1.out.lt).cell 0
     have c2 : w2.cell? ⟨B2, 0, none⟩ = some (.int .i64 y) := (b2.out.below HB.out b2.out.lt).cell 0
     (refine hK _ _ ?_; clear hK K)
     refine wpAny_take (i := 6) (v := ?_) rfl (by kernel_rfl) (by kernel_rfl) (by kernel_rfl) (fun _ _ _ h => h) (Or.inl ⟨by rfl, ?_⟩) ?_
     rotate_left
     ·
      intro w; go_simp; try with_reducible rfl
     refine wpAny_take (i := 7) (v := ?_) rfl (by kernel_rfl) (by kernel_rfl) (by kernel_rfl) (fun _ _ _ h => h) (Or.inl ⟨by rfl, ?_⟩) ?_
     rotate_left
     ·
      intro w; go_simp; try with_reducible rfl
     refine wpAny_done (by kernel_rfl) ?_ _
     go_wp2_with fail
     go_ret
     exact ⟨rfl, HB.out⟩
    exact AllReady.nil
   exact AllReady.nil
  exact AllReady.nil
 exact AllReady.nil
end Go.Proofs.YtlhhpogaaneamaaDoor.X
namespace Go.Proofs.YtlhhpogaaneamaaDoor.X
open Go.RowKit Go.Shelf Go.Proofs.YtlhhpogaaneamaaDoorW.PrintWords Go.Proofs.YtlhhpogaaneamaaDoorW.PrintLast Go.Proofs.YtlhhpogaaneamaaDoorW.PrintMore
set_option linter.unusedVariables false
set_option maxRecDepth 100000 in
set_option maxHeartbeats 1000000 in
theorem least_first (A : Option Addr) (cap : Nat) (c : List S57) (hg : Good c) (y lo hi : Int) (h0 : px c 0 ≤ lo) (h1 : hi ≤ px c (c.length - 1)) (hlh : lo ≤ hi + 1) (B1 B2 : Nat) (w : World) (hr : Kd.C k57 w A c.length c) (hcap : c.length ≤ cap) (hb1 : Blk w B1 23 #[.slice A c.length cap]) (hb2 : Blk w B2 3 #[.int .i64 y]) :
  Calls Tryd.prog 78 #[.int .i64 lo, .int .i64 hi, .func (.func 79) #[] #[.pointer (some ⟨B1, 0, none⟩), .pointer (some ⟨B2, 0, none⟩)]] w fun e w' => e = .returned (.int .i64 (bsI (hi + 1 - lo).toNat lo (hi + 1) (reachB c y))) ∧ Below w.heap.size w w' := by
 have hlo : 0 ≤ lo := by have := (hg.bx 0 (by have := hg.len2; omega)).1; omega
 have hhi : hi ≤ 16777216 := by have := (hg.bx (c.length - 1) (by have := hg.len2; omega)).2; omega
 obtain ⟨R, hR⟩ : ∃ R, bsI (hi + 1 - lo).toNat lo (hi + 1) (reachB c y) = R := ⟨_, rfl⟩
 rw [hR]
 have HRR := Aside0.mk hR
 have HG := Aside0.mk hg
 have HR := Aside0.mk hr
 have b1 := Aside0.mk hb1
 have b2 := Aside0.mk hb2
 have HB := Aside0.mk (Below.refl w.heap.size w)
 clear hr hb1 hb2 hR hg
 go_enter Tryd.func78, Tryd.ntmps78
 go_wp2_with fail
 go_loopw [0, 1] (fun v0 v1 wr => ∃ (a b : Int), v0 = .int .i64 a ∧ v1 = .int .i64 b ∧ lo ≤ a ∧ a ≤ b ∧ b ≤ hi + 1 ∧ Aside0 (∃ n : Nat, (b - a).toNat ≤ n ∧ bsI n a b (reachB c y) = R) ∧ Aside0 (Below w.heap.size w wr)) (fun v0 v1 _ => (intOf v1 - intOf v0).toNat)
 case atStart => exact ⟨lo, hi + 1, rfl, rfl, by omega, hlh, by omega, ⟨_, Nat.le_refl _, HRR.out⟩, HB⟩
 case round =>
  clear HB HRR
  obtain ⟨a, b, rfl, rfl, ha, hab, hb, HN, HB⟩ := hrel
  by_cases hlt : a < b
  ·
   have hm1 : a ≤ (a + b) / 2 := by omega
   have hm2 : (a + b) / 2 < b := by omega
   obtain ⟨n, hn, hbs⟩ := HN.out
   obtain ⟨n, rfl⟩ : ∃ j, n = j + 1 := ⟨n - 1, by omega⟩
   have HBS := Aside0.mk hbs
   have HNN := Aside0.mk hn
   clear hbs hn HN
   cases hp : reachB c y ((a + b) / 2)
   ·
    have HP := Aside0.mk hp
    clear hp
    go_wp2_with fail
    refine (first1_calls A cap c HG.out y ((a + b) / 2) (by omega) (by omega) B1 B2 _ (Kd.C_below HR.out HB.out) hcap (b1.out.below HB.out b1.out.lt) (b2.out.below HB.out b2.out.lt)).mono ?_
    rintro e w1 ⟨rfl, hbb⟩
    rw [HP.out]
    have HB1 := Aside0.mk (HB.out.trans (hbb.mono HB.out.size))
    clear hbb
    go_wp2_with fail
    go_roundw
    case rel => exact ⟨(a + b) / 2 + 1, b, rfl, rfl, by omega, by omega, by omega, ⟨n, by have := HNN.out; omega, by have h := HBS.out; simp only [bsI] at h; rw [if_pos hlt, HP.out] at h; simpa using h⟩, HB1⟩
    case measure => simp [intOf]; omega
   ·
    have HP := Aside0.mk hp
    clear hp
    go_wp2_with fail
    refine (first1_calls A cap c HG.out y ((a + b) / 2) (by omega) (by omega) B1 B2 _ (Kd.C_below HR.out HB.out) hcap (b1.out.below HB.out b1.out.lt) (b2.out.below HB.out b2.out.lt)).mono ?_
    rintro e w1 ⟨rfl, hbb⟩
    rw [HP.out]
    have HB1 := Aside0.mk (HB.out.trans (hbb.mono HB.out.size))
    clear hbb
    go_wp2_with fail
    go_roundw
    case rel => exact ⟨a, (a + b) / 2, rfl, rfl, by omega, by omega, by omega, ⟨n, by have := HNN.out; omega, by have h := HBS.out; simp only [bsI] at h; rw [if_pos hlt, HP.out] at h; simpa using h⟩, HB1⟩
    case measure => simp [intOf]; omega
  ·
   have hRa : R = a := by
    obtain ⟨n, _, hbs⟩ := HN.out
    rw [← hbs]; cases n with
    | zero => rfl
    | succ n => simp only [bsI]; rw [if_neg hlt]
   have HRA := Aside0.mk hRa
   clear hRa
   go_wp2_with fail
   go_ret
   exact ⟨by rw [HRA.out]; rfl, HB.out⟩
set_option maxRecDepth 100000 in
set_option maxHeartbeats 1000000 in
theorem least_last (A : Option Addr) (cap : Nat) (c : List S57) (hg : Good c) (y lo hi : Int) (h0 : px c 0 ≤ lo) (h1 : hi ≤ px c (c.length - 1)) (hlh : lo ≤ hi + 1) (B1 B2 : Nat) (w : World) (hr : Kd.C k57 w A c.length c) (hcap : c.length ≤ cap) (hb1 : Blk w B1 23 #[.slice A c.length cap]) (hb2 : Blk w B2 3 #[.int .i64 y]) :
  Calls Tryd.prog 78 #[.int .i64 lo, .int .i64 hi, .func (.func 81) #[] #[.pointer (some ⟨B1, 0, none⟩), .pointer (some ⟨B2, 0, none⟩)]] w fun e w' => e = .returned (.int .i64 (bsI (hi + 1 - lo).toNat lo (hi + 1) (passB c y))) ∧ Below w.heap.size w w' := by
 have hlo : 0 ≤ lo := by have := (hg.bx 0 (by have := hg.len2; omega)).1; omega
 have hhi : hi ≤ 16777216 := by have := (hg.bx (c.length - 1) (by have := hg.len2; omega)).2; omega
 obtain ⟨R, hR⟩ : ∃ R, bsI (hi + 1 - lo).toNat lo (hi + 1) (passB c y) = R := ⟨_, rfl⟩
 rw [hR]
 have HRR := Aside0.mk hR
 have HG := Aside0.mk hg
 have HR := Aside0.mk hr
 have b1 := Aside0.mk hb1
 have b2 := Aside0.mk hb2
 have HB := Aside0.mk (Below.refl w.heap.size w)
 clear hr hb1 hb2 hR hg
 go_enter Tryd.func78, Tryd.ntmps78
 go_wp2_with fail
 go_loopw [0, 1] (fun v0 v1 wr => ∃ (a b : Int), v0 = .int .i64 a ∧ v1 = .int .i64 b ∧ lo ≤ a ∧ a ≤ b ∧ b ≤ hi + 1 ∧ Aside0 (∃ n : Nat, (b - a).toNat ≤ n ∧ bsI n a b (passB c y) = R) ∧ Aside0 (Below w.heap.size w wr)) (fun v0 v1 _ => (intOf v1 - intOf v0).toNat)
 case atStart => exact ⟨lo, hi + 1, rfl, rfl, by omega, hlh, by omega, ⟨_, Nat.le_refl _, HRR.out⟩, HB⟩
 case round =>
  clear HB HRR
  obtain ⟨a, b, rfl, rfl, ha, hab, hb, HN, HB⟩ := hrel
  by_cases hlt : a < b
  ·
   have hm1 : a ≤ (a + b) / 2 := by omega
   have hm2 : (a + b) / 2 < b := by omega
   obtain ⟨n, hn, hbs⟩ := HN.out
   obtain ⟨n, rfl⟩ : ∃ j, n = j + 1 := ⟨n - 1, by omega⟩
   have HBS := Aside0.mk hbs
   have HNN := Aside0.mk hn
   clear hbs hn HN
   cases hp : passB c y ((a + b) / 2)
   ·
    have HP := Aside0.mk hp
    clear hp
    go_wp2_with fail
    refine (last1_calls A cap c HG.out y ((a + b) / 2) (by omega) (by omega) B1 B2 _ (Kd.C_below HR.out HB.out) hcap (b1.out.below HB.out b1.out.lt) (b2.out.below HB.out b2.out.lt)).mono ?_
    rintro e w1 ⟨rfl, hbb⟩
    rw [HP.out]
    have HB1 := Aside0.mk (HB.out.trans (hbb.mono HB.out.size))
    clear hbb
    go_wp2_with fail
    go_roundw
    case rel => exact ⟨(a + b) / 2 + 1, b, rfl, rfl, by omega, by omega, by omega, ⟨n, by have := HNN.out; omega, by have h := HBS.out; simp only [bsI] at h; rw [if_pos hlt, HP.out] at h; simpa using h⟩, HB1⟩
    case measure => simp [intOf]; omega
   ·
    have HP := Aside0.mk hp
    clear hp
    go_wp2_with fail
    refine (last1_calls A cap c HG.out y ((a + b) / 2) (by omega) (by omega) B1 B2 _ (Kd.C_below HR.out HB.out) hcap (b1.out.below HB.out b1.out.lt) (b2.out.below HB.out b2.out.lt)).mono ?_
    rintro e w1 ⟨rfl, hbb⟩
    rw [HP.out]
    have HB1 := Aside0.mk (HB.out.trans (hbb.mono HB.out.size))
    clear hbb
    go_wp2_with fail
    go_roundw
    case rel => exact ⟨a, (a + b) / 2, rfl, rfl, by omega, by omega, by omega, ⟨n, by have := HNN.out; omega, by have h := HBS.out; simp only [bsI] at h; rw [if_pos hlt, HP.out] at h; simpa using h⟩, HB1⟩
    case measure => simp [intOf]; omega
  ·
   have hRa : R = a := by
    obtain ⟨n, _, hbs⟩ := HN.out
    rw [← hbs]; cases n with
    | zero => rfl
    | succ n => simp only [bsI]; rw [if_neg hlt]
   have HRA := Aside0.mk hRa
   clear hRa
   go_wp2_with fail
   go_ret
   exact ⟨by rw [HRA.out]; rfl, HB.out⟩
end Go.Proofs.YtlhhpogaaneamaaDoor.X
namespace Go.Proofs.YtlhhpogaaneamaaDoor.X
open Go.RowKit Go.Shelf Go.Proofs.YtlhhpogaaneamaaDoorW.PrintWords Go.Proofs.YtlhhpogaaneamaaDoorW.PrintLast Go.Proofs.YtlhhpogaaneamaaDoorW.PrintMore
set_option linter.unusedVariables false
set_option maxRecDepth 100000 in
set_option maxHeartbeats 4000000 in
theorem curve_First.calls (A0 : Option Addr) (c0 : Nat) (l0 : List S57) (a1 : Int) (r1 : Int) (r2 : Bool) (r3 : Int) (w : World) (hr0 : Kd.C k57 w A0 l0.length l0) (hc0 : l0.length ≤ c0) (h : curve_First.f l0 a1 = some (r1, r2, r3)) :
  Calls Tryd.prog 32 #[.slice A0 l0.length c0, .int .i64 a1] w fun e w' => e = .returned (.tuple #[.int .i64 r1, .bool r2, .int .i64 r3]) ∧ Below w.heap.size w w' := by
 have HR := Aside0.mk hr0
 have HX := Aside0.mk (show Blk ((w.alloc (.cells #[.slice A0 l0.length c0] 23)).alloc (.cells #[.int .i64 a1] 3)) w.heap.size 23 #[.slice A0 l0.length c0] from (Blk.new w 23 _).alloc _)
 have HY := Aside0.mk (show Blk ((w.alloc (.cells #[.slice A0 l0.length c0] 23)).alloc (.cells #[.int .i64 a1] 3)) (w.heap.size + 1) 3 #[.int .i64 a1] by
   have h := Blk.new (w.alloc (.cells #[.slice A0 l0.length c0] 23)) 3 #[.int .i64 a1]; rwa [World.size_alloc] at h)
 have HB := Aside0.mk (show Below w.heap.size w ((w.alloc (.cells #[.slice A0 l0.length c0] 23)).alloc (.cells #[.int .i64 a1] 3)) from ((Below.refl _ w).alloc (Nat.le_refl _) _).alloc (by simp) _)
 clear hr0
 by_cases hg : goodB l0 = true
 ·
  have HC := Aside0.mk (show curve_Check.f l0 = some 0 by simp [curve_Check.f, hg])
  have HG := Aside0.mk (good_of hg)
  have hl2 := HG.out.len2
  have hl64 := HG.out.len64
  have hl9 : l0.length ≤ 9223372036854775807 := by omega
  have eL : (l0.getLastD z57) = rd_T57 l0 ((l0.length : Int) - 1) := by rw [lastD_eq (by omega)]; unfold rd_T57; rw [show ((l0.length : Int) - 1).toNat = l0.length - 1 by omega]
  have e0 : (l0.headD z57) = rd_T57 l0 0 := by rw [headD_eq (by omega)]; rfl
  simp only [curve_First.f, hg, if_true] at h
  rw [eL, e0] at h
  obtain ⟨ad, e258, hx0, hx1⟩ := at_T57 HR.out 0 (Int.le_refl 0) (by omega)
  cases e258
  obtain ⟨ad', e259, hy0, hy1⟩ := at_T57 HR.out ((l0.length : Int) - 1) (by omega) (by omega)
  cases e259
  have HP0 := Aside0.mk hx0
  have HP1 := Aside0.mk hx1
  have HP2 := Aside0.mk hy0
  have HP3 := Aside0.mk hy1
  clear hx0 hx1 hy0 hy1
  by_cases hy : (rd_T57 l0 ((l0.length : Int) - 1)).f1 < a1
  ·
   rw [if_pos hy] at h
   simp only [Option.some.injEq, Prod.mk.injEq] at h
   obtain ⟨rfl, rfl, rfl⟩ := h
   have t1 := decide_eq_true hy
   clear hg eL e0 hy
   go_enter Tryd.func32, Tryd.ntmps32
   go_wp2_with fail
   refine (curve_Check.calls (some ad) c0 l0 0 _ (Kd.C_below HR.out HB.out) hc0 HC.out).mono ?_
   rintro e w1 ⟨rfl, hb⟩
   have bX := HX.out.below hb (by simp; omega)
   have bY := HY.out.below hb (by simp)
   have HBX := Aside0.mk bX
   have HBY := Aside0.mk bY
   have HB1 := Aside0.mk (HB.out.trans (hb.mono HB.out.size))
   have c1 : w1.cell? ⟨w.heap.size, 0, none⟩ = some (.slice (some ad) l0.length c0) := bX.cell 0
   have c2 : w1.cell? ⟨w.heap.size + 1, 0, none⟩ = some (.int .i64 a1) := bY.cell 0
   clear hb bX bY
   have hx0 := (HB1.out.cell (World.block_lt_of_cell? w _ HP0.out)).trans HP0.out
   have hx1 := (HB1.out.cell (World.block_lt_of_cell? w _ HP1.out)).trans HP1.out
   have hy0 := (HB1.out.cell (World.block_lt_of_cell? w _ HP2.out)).trans HP2.out
   have hy1 := (HB1.out.cell (World.block_lt_of_cell? w _ HP3.out)).trans HP3.out
   rw [show ((l0.length : Int) - 1).toNat = l0.length - 1 by omega] at hy0 hy1
   have q1 : ¬ ((l0.length : Int) - 1 < 0) := by omega
   clear hl9
   have m1 : (w1.alloc (.cells #[.int .i64 (rd_T57 l0 ((l0.length : Int) - 1)).f0, .int .i64 (rd_T57 l0 ((l0.length : Int) - 1)).f1] 57)).cell? ⟨w.heap.size, 0, none⟩ = some (.slice (some ad) l0.length c0) := (HBX.out.alloc _).cell 0
   have m2 : (w1.alloc (.cells #[.int .i64 (rd_T57 l0 ((l0.length : Int) - 1)).f0, .int .i64 (rd_T57 l0 ((l0.length : Int) - 1)).f1] 57)).cell? ⟨w.heap.size + 1, 0, none⟩ = some (.int .i64 a1) := (HBY.out.alloc _).cell 0
   have m3 : (w1.alloc (.cells #[.int .i64 (rd_T57 l0 ((l0.length : Int) - 1)).f0, .int .i64 (rd_T57 l0 ((l0.length : Int) - 1)).f1] 57)).cell? (ad.add (Int.toNat 0 * 2)) = some (.int .i64 (rd_T57 l0 0).f0) := (World.cell?_alloc_lt w1 _ _ (World.block_lt_of_cell? w1 _ hx0)).trans hx0
   go_wp2_with fail
   go_ret3
   exact ⟨rfl, below_alloc HB1.out _⟩
  ·
   rw [if_neg hy] at h
   simp only [Option.some.injEq, Prod.mk.injEq] at h
   have HH := Aside0.mk h
   have t1 := decide_eq_false hy
   have HLO := Aside0.mk (show px l0 0 ≤ (rd_T57 l0 0).f0 from Int.le_refl _)
   have HHI := Aside0.mk (show (rd_T57 l0 ((l0.length : Int) - 1)).f0 ≤ px l0 (l0.length - 1) by unfold rd_T57 px; rw [show ((l0.length : Int) - 1).toNat = l0.length - 1 by omega]; exact Int.le_refl _)
   have HLH := Aside0.mk (show (rd_T57 l0 0).f0 ≤ (rd_T57 l0 ((l0.length : Int) - 1)).f0 + 1 by have h1 := (HG.out.rising.lt (i := 0) (j := l0.length - 1) (by omega) (by omega)).1; unfold px at h1; unfold rd_T57; rw [show ((l0.length : Int) - 1).toNat = l0.length - 1 by omega]; show _ ≤ _ + 1; simp only [Int.toNat_zero]; omega)
   clear hg eL e0 hy h
   go_enter Tryd.func32, Tryd.ntmps32
   go_wp2_with fail
   refine (curve_Check.calls (some ad) c0 l0 0 _ (Kd.C_below HR.out HB.out) hc0 HC.out).mono ?_
   rintro e w1 ⟨rfl, hb⟩
   have bX := HX.out.below hb (by simp; omega)
   have bY := HY.out.below hb (by simp)
   have HBX := Aside0.mk bX
   have HBY := Aside0.mk bY
   have HB1 := Aside0.mk (HB.out.trans (hb.mono HB.out.size))
   have c1 : w1.cell? ⟨w.heap.size, 0, none⟩ = some (.slice (some ad) l0.length c0) := bX.cell 0
   have c2 : w1.cell? ⟨w.heap.size + 1, 0, none⟩ = some (.int .i64 a1) := bY.cell 0
   clear hb bX bY
   have hx0 := (HB1.out.cell (World.block_lt_of_cell? w _ HP0.out)).trans HP0.out
   have hx1 := (HB1.out.cell (World.block_lt_of_cell? w _ HP1.out)).trans HP1.out
   have hy0 := (HB1.out.cell (World.block_lt_of_cell? w _ HP2.out)).trans HP2.out
   have hy1 := (HB1.out.cell (World.block_lt_of_cell? w _ HP3.out)).trans HP3.out
   rw [show ((l0.length : Int) - 1).toNat = l0.length - 1 by omega] at hy0 hy1
   have q1 : ¬ ((l0.length : Int) - 1 < 0) := by omega
   clear hl9
   have m1 : (w1.alloc (.cells #[.int .i64 (rd_T57 l0 ((l0.length : Int) - 1)).f0, .int .i64 (rd_T57 l0 ((l0.length : Int) - 1)).f1] 57)).cell? ⟨w.heap.size, 0, none⟩ = some (.slice (some ad) l0.length c0) := (HBX.out.alloc _).cell 0
   have m2 : (w1.alloc (.cells #[.int .i64 (rd_T57 l0 ((l0.length : Int) - 1)).f0, .int .i64 (rd_T57 l0 ((l0.length : Int) - 1)).f1] 57)).cell? ⟨w.heap.size + 1, 0, none⟩ = some (.int .i64 a1) := (HBY.out.alloc _).cell 0
   have m3 : (w1.alloc (.cells #[.int .i64 (rd_T57 l0 ((l0.length : Int) - 1)).f0, .int .i64 (rd_T57 l0 ((l0.length : Int) - 1)).f1] 57)).cell? (ad.add (Int.toNat 0 * 2)) = some (.int .i64 (rd_T57 l0 0).f0) := (World.cell?_alloc_lt w1 _ _ (World.block_lt_of_cell? w1 _ hx0)).trans hx0
   have HBD := Aside0.mk (show Below w.heap.size w ((w1.alloc (.cells #[.int .i64 (rd_T57 l0 ((l0.length : Int) - 1)).f0, .int .i64 (rd_T57 l0 ((l0.length : Int) - 1)).f1] 57)).drew) from below_drew1 (below_alloc HB1.out _))
   have bXd : Blk ((w1.alloc (.cells #[.int .i64 (rd_T57 l0 ((l0.length : Int) - 1)).f0, .int .i64 (rd_T57 l0 ((l0.length : Int) - 1)).f1] 57)).drew) w.heap.size 23 #[.slice (some ad) l0.length c0] := HBX.out.alloc _
   have bYd : Blk ((w1.alloc (.cells #[.int .i64 (rd_T57 l0 ((l0.length : Int) - 1)).f0, .int .i64 (rd_T57 l0 ((l0.length : Int) - 1)).f1] 57)).drew) (w.heap.size + 1) 3 #[.int .i64 a1] := HBY.out.alloc _
   have k1 : ((w1.alloc (.cells #[.int .i64 (rd_T57 l0 ((l0.length : Int) - 1)).f0, .int .i64 (rd_T57 l0 ((l0.length : Int) - 1)).f1] 57)).drew).cell? ⟨w.heap.size, 0, none⟩ = some (.slice (some ad) l0.length c0) := bXd.cell 0
   have k2 : ((w1.alloc (.cells #[.int .i64 (rd_T57 l0 ((l0.length : Int) - 1)).f0, .int .i64 (rd_T57 l0 ((l0.length : Int) - 1)).f1] 57)).drew).cell? ⟨w.heap.size + 1, 0, none⟩ = some (.int .i64 a1) := bYd.cell 0
   have k3 : ((w1.alloc (.cells #[.int .i64 (rd_T57 l0 ((l0.length : Int) - 1)).f0, .int .i64 (rd_T57 l0 ((l0.length : Int) - 1)).f1] 57)).drew).cell? (ad.add (Int.toNat 0 * 2)) = some (.int .i64 (rd_T57 l0 0).f0) := HBD.out.cell (World.block_lt_of_cell? w _ HP0.out) |>.trans HP0.out
   have k4 : ((w1.alloc (.cells #[.int .i64 (rd_T57 l0 ((l0.length : Int) - 1)).f0, .int .i64 (rd_T57 l0 ((l0.length : Int) - 1)).f1] 57)).drew).cell? ⟨w1.heap.size, 0, none⟩ = some (.int .i64 (rd_T57 l0 ((l0.length : Int) - 1)).f0) := by rw [World.cell?_drew, World.cell?_alloc_at (hn := by simp)]; rfl
   have HBX2 := Aside0.mk bXd
   have qp : 0 < l0.length := by omega
   have k5 := k3
   rw [show ad.add (Int.toNat 0 * 2) = ad by simp [Addr.add]] at k5
   have HBY2 := Aside0.mk bYd
   clear bXd bYd
   go_wp2_with fail
   refine wp_region_any (by kernel_rfl) ?_
   change wpAny _ _ _ _ _ _ _ (World.drew _)
   refine wpAny_take (i := 4) (v := ?_) rfl (by kernel_rfl) (by kernel_rfl) (by kernel_rfl) (fun _ _ _ h => h) (Or.inl ⟨by rfl, ?_⟩) ?_
   rotate_left
   ·
    intro w; go_simp; try with_reducible rfl
   refine wpAny_take (i := 6) (v := ?_) rfl (by kernel_rfl) (by kernel_rfl) (by kernel_rfl) (fun _ _ _ h => h) (Or.inl ⟨by rfl, ?_⟩) ?_
   rotate_left
   ·
    intro w; go_simp; try with_reducible rfl
   refine wpAny_ready (rs := [0, 5]) (by kernel_rfl) (by simp) ?_
   refine AllReady.cons rfl (fun K hK => ?_) ?_
   ·
    go_simp
    (refine hK _ _ ?_; clear hK K)
    refine wpAny_take (i := 1) (v := ?_) rfl (by kernel_rfl) (by kernel_rfl) (by kernel_rfl) (fun _ _ _ h => h) (Or.inl ⟨by rfl, ?_⟩) ?_
    rotate_left
    ·
     intro w; go_simp; try with_reducible rfl
    refine wpAny_take (i := 2) (v := ?_) rfl (by kernel_rfl) (by kernel_rfl) (by kernel_rfl) (fun _ _ _ h => h) (Or.inl ⟨by rfl, ?_⟩) ?_
    rotate_left
    ·
     intro w; go_simp; try with_reducible rfl
    refine wpAny_ready (rs := [3, 5]) (by kernel_rfl) (by simp) ?_
    refine AllReady.cons rfl (fun K hK => ?_) ?_
    ·
     go_simp
     (refine hK _ _ ?_; clear hK K)
     refine wpAny_ready (rs := [5]) (by kernel_rfl) (by simp) ?_
     refine AllReady.cons rfl (fun K hK => ?_) ?_
     ·
      go_simp
      (refine hK _ _ ?_; clear hK K)
      refine wpAny_ready (rs := [7]) (by kernel_rfl) (by simp) ?_
      refine AllReady.cons rfl (fun K hK => ?_) ?_
      ·
       go_simp
       refine (least_first (some ad) c0 l0 HG.out a1 _ _ HLO.out HHI.out HLH.out w.heap.size (w.heap.size + 1) _ (Kd.C_below HR.out HBD.out) hc0 HBX2.out HBY2.out).mono ?_
       rintro e w2 ⟨rfl, hb⟩
       have HB2 := Aside0.mk (HBD.out.trans (hb.mono HBD.out.size))
       clear hb
       (refine hK _ _ ?_; clear hK K)
       refine wpAny_take (i := 8) (v := ?_) rfl (by kernel_rfl) (by kernel_rfl) (by kernel_rfl) (fun _ _ _ h => h) (Or.inl ⟨by rfl, ?_⟩) ?_
       rotate_left
       ·
        intro w; go_simp; try with_reducible rfl
       refine wpAny_take (i := 9) (v := ?_) rfl (by kernel_rfl) (by kernel_rfl) (by kernel_rfl) (fun _ _ _ h => h) (Or.inl ⟨by rfl, ?_⟩) ?_
       rotate_left
       ·
        intro w; go_simp; try with_reducible rfl
       refine wpAny_take (i := 10) (v := ?_) rfl (by kernel_rfl) (by kernel_rfl) (by kernel_rfl) (fun _ _ _ h => h) (Or.inl ⟨by rfl, ?_⟩) ?_
       rotate_left
       ·
        intro w; go_simp; try with_reducible rfl
       refine wpAny_done (by kernel_rfl) ?_ _
       go_wp2_with fail
       go_ret3
       exact ⟨(show Ending.returned (.tuple #[.int .i64 _, .bool true, .int .i64 0]) = Ending.returned (.tuple #[.int .i64 r1, .bool r2, .int .i64 r3]) from by rw [← HH.out.2.1, ← HH.out.2.2, ← HH.out.1]), HB2.out⟩
      exact AllReady.nil
     exact AllReady.nil
    refine AllReady.cons rfl (fun K hK => ?_) ?_
    ·
     go_simp
     (refine hK _ _ ?_; clear hK K)
     refine wpAny_ready (rs := [3]) (by kernel_rfl) (by simp) ?_
     refine AllReady.cons rfl (fun K hK => ?_) ?_
     ·
      go_simp
      (refine hK _ _ ?_; clear hK K)
      refine wpAny_ready (rs := [7]) (by kernel_rfl) (by simp) ?_
      refine AllReady.cons rfl (fun K hK => ?_) ?_
      ·
       go_simp
       refine (least_first (some ad) c0 l0 HG.out a1 _ _ HLO.out HHI.out HLH.out w.heap.size (w.heap.size + 1) _ (Kd.C_below HR.out HBD.out) hc0 HBX2.out HBY2.out).mono ?_
       rintro e w2 ⟨rfl, hb⟩
       have HB2 := Aside0.mk (HBD.out.trans (hb.mono HBD.out.size))
       clear hb
       (refine hK _ _ ?_; clear hK K)
       refine wpAny_take (i := 8) (v := ?_) rfl (by kernel_rfl) (by kernel_rfl) (by kernel_rfl) (fun _ _ _ h => h) (Or.inl ⟨by rfl, ?_⟩) ?_
       rotate_left
       ·
        intro w; go_simp; try with_reducible rfl
       refine wpAny_take (i := 9) (v := ?_) rfl (by kernel_rfl) (by kernel_rfl) (by kernel_rfl) (fun _ _ _ h => h) (Or.inl ⟨by rfl, ?_⟩) ?_
       rotate_left
       ·
        intro w; go_simp; try with_reducible rfl
       refine wpAny_take (i := 10) (v := ?_) rfl (by kernel_rfl) (by kernel_rfl) (by kernel_rfl) (fun _ _ _ h => h) (Or.inl ⟨by rfl, ?_⟩) ?_
       rotate_left
       ·
        intro w; go_simp; try with_reducible rfl
       refine wpAny_done (by kernel_rfl) ?_ _
       go_wp2_with fail
       go_ret3
       exact ⟨(show Ending.returned (.tuple #[.int .i64 _, .bool true, .int .i64 0]) = Ending.returned (.tuple #[.int .i64 r1, .bool r2, .int .i64 r3]) from by rw [← HH.out.2.1, ← HH.out.2.2, ← HH.out.1]), HB2.out⟩
      exact AllReady.nil
     exact AllReady.nil
    exact AllReady.nil
   refine AllReady.cons rfl (fun K hK => ?_) ?_
   ·
    go_simp
    (refine hK _ _ ?_; clear hK K)
    refine wpAny_ready (rs := [0]) (by kernel_rfl) (by simp) ?_
    refine AllReady.cons rfl (fun K hK => ?_) ?_
    ·
     go_simp
     (refine hK _ _ ?_; clear hK K)
     refine wpAny_take (i := 1) (v := ?_) rfl (by kernel_rfl) (by kernel_rfl) (by kernel_rfl) (fun _ _ _ h => h) (Or.inl ⟨by rfl, ?_⟩) ?_
     rotate_left
     ·
      intro w; go_simp; try with_reducible rfl
     refine wpAny_take (i := 2) (v := ?_) rfl (by kernel_rfl) (by kernel_rfl) (by kernel_rfl) (fun _ _ _ h => h) (Or.inl ⟨by rfl, ?_⟩) ?_
     rotate_left
     ·
      intro w; go_simp; try with_reducible rfl
     refine wpAny_ready (rs := [3]) (by kernel_rfl) (by simp) ?_
     refine AllReady.cons rfl (fun K hK => ?_) ?_
     ·
      go_simp
      (refine hK _ _ ?_; clear hK K)
      refine wpAny_ready (rs := [7]) (by kernel_rfl) (by simp) ?_
      refine AllReady.cons rfl (fun K hK => ?_) ?_
      ·
       go_simp
       refine (least_first (some ad) c0 l0 HG.out a1 _ _ HLO.out HHI.out HLH.out w.heap.size (w.heap.size + 1) _ (Kd.C_below HR.out HBD.out) hc0 HBX2.out HBY2.out).mono ?_
       rintro e w2 ⟨rfl, hb⟩
       have HB2 := Aside0.mk (HBD.out.trans (hb.mono HBD.out.size))
       clear hb
       (refine hK _ _ ?_; clear hK K)
       refine wpAny_take (i := 8) (v := ?_) rfl (by kernel_rfl) (by kernel_rfl) (by kernel_rfl) (fun _ _ _ h => h) (Or.inl ⟨by rfl, ?_⟩) ?_
       rotate_left
       ·
        intro w; go_simp; try with_reducible rfl
       refine wpAny_take (i := 9) (v := ?_) rfl (by kernel_rfl) (by kernel_rfl) (by kernel_rfl) (fun _ _ _ h => h) (Or.inl ⟨by rfl, ?_⟩) ?_
       rotate_left
       ·
        intro w; go_simp; try with_reducible rfl
       refine wpAny_take (i := 10) (v := ?_) rfl (by kernel_rfl) (by kernel_rfl) (by kernel_rfl) (fun _ _ _ h => h) (Or.inl ⟨by rfl, ?_⟩) ?_
       rotate_left
       ·
        intro w; go_simp; try with_reducible rfl
       refine wpAny_done (by kernel_rfl) ?_ _
       go_wp2_with fail
       go_ret3
       exact ⟨(show Ending.returned (.tuple #[.int .i64 _, .bool true, .int .i64 0]) = Ending.returned (.tuple #[.int .i64 r1, .bool r2, .int .i64 r3]) from by rw [← HH.out.2.1, ← HH.out.2.2, ← HH.out.1]), HB2.out⟩
      exact AllReady.nil
     exact AllReady.nil
    exact AllReady.nil
   exact AllReady.nil
 ·
  simp only [curve_First.f, if_neg hg, Option.some.injEq, Prod.mk.injEq] at h
  obtain ⟨rfl, rfl, rfl⟩ := h
  have HC := Aside0.mk (show curve_Check.f l0 = some 10 by simp [curve_Check.f, hg])
  clear hg
  go_enter Tryd.func32, Tryd.ntmps32
  go_wp2_with fail
  refine (curve_Check.calls A0 c0 l0 10 _ (Kd.C_below HR.out HB.out) hc0 HC.out).mono ?_
  rintro e w1 ⟨rfl, hb⟩
  have bX := HX.out.below hb (by simp; omega)
  have bY := HY.out.below hb (by simp)
  have HBX := Aside0.mk bX
  have HBY := Aside0.mk bY
  have HB1 := Aside0.mk (HB.out.trans (hb.mono HB.out.size))
  have c1 : w1.cell? ⟨w.heap.size, 0, none⟩ = some (.slice A0 l0.length c0) := bX.cell 0
  have c2 : w1.cell? ⟨w.heap.size + 1, 0, none⟩ = some (.int .i64 a1) := bY.cell 0
  clear hb bX bY
  go_wp2_with fail
  go_ret3
  exact ⟨rfl, HB1.out⟩
theorem bsI_range (f : Int → Bool) : ∀ (n : Nat) (a b : Int), a ≤ b → a ≤ bsI n a b f ∧ bsI n a b f ≤ b := by
 intro n
 induction n with
 | zero => intro a b h; exact ⟨Int.le_refl _, h⟩
 | succ n ih =>
  intro a b h
  simp only [bsI]
  split
  ·
   split
   ·
    have := ih a ((a + b) / 2) (by omega); omega
   ·
    have := ih ((a + b) / 2 + 1) b (by omega); omega
  ·
   exact ⟨Int.le_refl _, h⟩
set_option maxRecDepth 100000 in
set_option maxHeartbeats 8000000 in
theorem curve_Last.calls (A0 : Option Addr) (c0 : Nat) (l0 : List S57) (a1 : Int) (r1 : Int) (r2 : Bool) (r3 : Int) (w : World) (hr0 : Kd.C k57 w A0 l0.length l0) (hc0 : l0.length ≤ c0) (h : curve_Last.f l0 a1 = some (r1, r2, r3)) :
  Calls Tryd.prog 34 #[.slice A0 l0.length c0, .int .i64 a1] w fun e w' => e = .returned (.tuple #[.int .i64 r1, .bool r2, .int .i64 r3]) ∧ Below w.heap.size w w' := by
 have HR := Aside0.mk hr0
 have HX := Aside0.mk (show Blk ((w.alloc (.cells #[.slice A0 l0.length c0] 23)).alloc (.cells #[.int .i64 a1] 3)) w.heap.size 23 #[.slice A0 l0.length c0] from (Blk.new w 23 _).alloc _)
 have HY := Aside0.mk (show Blk ((w.alloc (.cells #[.slice A0 l0.length c0] 23)).alloc (.cells #[.int .i64 a1] 3)) (w.heap.size + 1) 3 #[.int .i64 a1] by
   have h := Blk.new (w.alloc (.cells #[.slice A0 l0.length c0] 23)) 3 #[.int .i64 a1]; rwa [World.size_alloc] at h)
 have HB := Aside0.mk (show Below w.heap.size w ((w.alloc (.cells #[.slice A0 l0.length c0] 23)).alloc (.cells #[.int .i64 a1] 3)) from ((Below.refl _ w).alloc (Nat.le_refl _) _).alloc (by simp) _)
 clear hr0
 by_cases hg : goodB l0 = true
 ·
  have HC := Aside0.mk (show curve_Check.f l0 = some 0 by simp [curve_Check.f, hg])
  have HG := Aside0.mk (good_of hg)
  have hl2 := HG.out.len2
  have hl64 := HG.out.len64
  have hl9 : l0.length ≤ 9223372036854775807 := by omega
  have eL : (l0.getLastD z57) = rd_T57 l0 ((l0.length : Int) - 1) := by rw [lastD_eq (by omega)]; unfold rd_T57; rw [show ((l0.length : Int) - 1).toNat = l0.length - 1 by omega]
  have e0 : (l0.headD z57) = rd_T57 l0 0 := by rw [headD_eq (by omega)]; rfl
  simp only [curve_Last.f, hg, if_true] at h
  rw [eL, e0] at h
  obtain ⟨ad, e258, hx0, hx1⟩ := at_T57 HR.out 0 (Int.le_refl 0) (by omega)
  cases e258
  obtain ⟨ad', e259, hy0, hy1⟩ := at_T57 HR.out ((l0.length : Int) - 1) (by omega) (by omega)
  cases e259
  have HP0 := Aside0.mk hx0
  have HP1 := Aside0.mk hx1
  have HP2 := Aside0.mk hy0
  have HP3 := Aside0.mk hy1
  clear hx0 hx1 hy0 hy1
  by_cases hy : a1 < (rd_T57 l0 0).f1
  ·
   rw [if_pos hy] at h
   simp only [Option.some.injEq, Prod.mk.injEq] at h
   obtain ⟨rfl, rfl, rfl⟩ := h
   have t1 := decide_eq_true hy
   clear hg eL e0 hy
   go_enter Tryd.func34, Tryd.ntmps34
   go_wp2_with fail
   refine (curve_Check.calls (some ad) c0 l0 0 _ (Kd.C_below HR.out HB.out) hc0 HC.out).mono ?_
   rintro e w1 ⟨rfl, hb⟩
   have bX := HX.out.below hb (by simp; omega)
   have bY := HY.out.below hb (by simp)
   have HBX := Aside0.mk bX
   have HBY := Aside0.mk bY
   have HB1 := Aside0.mk (HB.out.trans (hb.mono HB.out.size))
   have c1 : w1.cell? ⟨w.heap.size, 0, none⟩ = some (.slice (some ad) l0.length c0) := bX.cell 0
   have c2 : w1.cell? ⟨w.heap.size + 1, 0, none⟩ = some (.int .i64 a1) := bY.cell 0
   clear hb bX bY
   have hx0 := (HB1.out.cell (World.block_lt_of_cell? w _ HP0.out)).trans HP0.out
   have hx1 := (HB1.out.cell (World.block_lt_of_cell? w _ HP1.out)).trans HP1.out
   have hy0 := (HB1.out.cell (World.block_lt_of_cell? w _ HP2.out)).trans HP2.out
   have hy1 := (HB1.out.cell (World.block_lt_of_cell? w _ HP3.out)).trans HP3.out
   rw [show ((l0.length : Int) - 1).toNat = l0.length - 1 by omega] at hy0 hy1
   have q1 : ¬ ((l0.length : Int) - 1 < 0) := by omega
   clear hl9
   have HQ0 := Aside0.mk (show w.cell? ad = some (.int .i64 (rd_T57 l0 0).f0) by have h := HP0.out; rwa [show ad.add (Int.toNat 0 * 2) = ad by simp [Addr.add]] at h)
   have HQ1 := Aside0.mk (show w.cell? ⟨ad.block, ad.off + 1, none⟩ = some (.int .i64 (rd_T57 l0 0).f1) by have h := HP1.out; rwa [show ad.add (Int.toNat 0 * 2) = ad by simp [Addr.add]] at h)
   have HQ2 := Aside0.mk (show w.cell? (ad.add ((l0.length - 1) * 2)) = some (.int .i64 (rd_T57 l0 ((l0.length : Int) - 1)).f0) by have h := HP2.out; rwa [show ((l0.length : Int) - 1).toNat = l0.length - 1 by omega] at h)
   have qp : 0 < l0.length := by omega
   clear hx0 hx1 hy0 hy1 c1 c2
   have HBD := Aside0.mk (show Below w.heap.size w (w1) from HB1.out)
   have bXd : Blk (w1) w.heap.size 23 #[.slice (some ad) l0.length c0] := HBX.out
   have bYd : Blk (w1) (w.heap.size + 1) 3 #[.int .i64 a1] := HBY.out
   have k1 : (w1).cell? ⟨w.heap.size, 0, none⟩ = some (.slice (some ad) l0.length c0) := bXd.cell 0
   have k2 : (w1).cell? ⟨w.heap.size + 1, 0, none⟩ = some (.int .i64 a1) := bYd.cell 0
   have k3 : (w1).cell? ad = some (.int .i64 (rd_T57 l0 0).f0) := (HBD.out.cell (World.block_lt_of_cell? w _ HQ0.out)).trans HQ0.out
   have k4 : (w1).cell? ⟨ad.block, ad.off + 1, none⟩ = some (.int .i64 (rd_T57 l0 0).f1) := (HBD.out.cell (World.block_lt_of_cell? w _ HQ1.out)).trans HQ1.out
   have k5 : (w1).cell? (ad.add ((l0.length - 1) * 2)) = some (.int .i64 (rd_T57 l0 ((l0.length : Int) - 1)).f0) := (HBD.out.cell (World.block_lt_of_cell? w _ HQ2.out)).trans HQ2.out
   clear HBX HBY
   have HBX := Aside0.mk bXd
   have HBY := Aside0.mk bYd
   clear bXd bYd
   go_wp2_with fail
   go_quiet (fail)
   go_wp2_with fail
   go_ret3
   exact ⟨rfl, pw_below_drewN HBD.out _⟩
  ·
   rw [if_neg hy] at h
   simp only [Option.some.injEq, Prod.mk.injEq] at h
   have HH := Aside0.mk h
   have t1 := decide_eq_false hy
   have HLO := Aside0.mk (show px l0 0 ≤ (rd_T57 l0 0).f0 from Int.le_refl _)
   have HHI := Aside0.mk (show (rd_T57 l0 ((l0.length : Int) - 1)).f0 ≤ px l0 (l0.length - 1) by unfold rd_T57 px; rw [show ((l0.length : Int) - 1).toNat = l0.length - 1 by omega]; exact Int.le_refl _)
   have HLH := Aside0.mk (show (rd_T57 l0 0).f0 ≤ (rd_T57 l0 ((l0.length : Int) - 1)).f0 + 1 by have h1 := (HG.out.rising.lt (i := 0) (j := l0.length - 1) (by omega) (by omega)).1; unfold px at h1; unfold rd_T57; rw [show ((l0.length : Int) - 1).toNat = l0.length - 1 by omega]; show _ ≤ _ + 1; simp only [Int.toNat_zero]; omega)
   clear hg eL e0 hy h
   go_enter Tryd.func34, Tryd.ntmps34
   go_wp2_with fail
   refine (curve_Check.calls (some ad) c0 l0 0 _ (Kd.C_below HR.out HB.out) hc0 HC.out).mono ?_
   rintro e w1 ⟨rfl, hb⟩
   have bX := HX.out.below hb (by simp; omega)
   have bY := HY.out.below hb (by simp)
   have HBX := Aside0.mk bX
   have HBY := Aside0.mk bY
   have HB1 := Aside0.mk (HB.out.trans (hb.mono HB.out.size))
   have c1 : w1.cell? ⟨w.heap.size, 0, none⟩ = some (.slice (some ad) l0.length c0) := bX.cell 0
   have c2 : w1.cell? ⟨w.heap.size + 1, 0, none⟩ = some (.int .i64 a1) := bY.cell 0
   clear hb bX bY
   have hx0 := (HB1.out.cell (World.block_lt_of_cell? w _ HP0.out)).trans HP0.out
   have hx1 := (HB1.out.cell (World.block_lt_of_cell? w _ HP1.out)).trans HP1.out
   have hy0 := (HB1.out.cell (World.block_lt_of_cell? w _ HP2.out)).trans HP2.out
   have hy1 := (HB1.out.cell (World.block_lt_of_cell? w _ HP3.out)).trans HP3.out
   rw [show ((l0.length : Int) - 1).toNat = l0.length - 1 by omega] at hy0 hy1
   have q1 : ¬ ((l0.length : Int) - 1 < 0) := by omega
   clear hl9
   have HQ0 := Aside0.mk (show w.cell? ad = some (.int .i64 (rd_T57 l0 0).f0) by have h := HP0.out; rwa [show ad.add (Int.toNat 0 * 2) = ad by simp [Addr.add]] at h)
   have HQ1 := Aside0.mk (show w.cell? ⟨ad.block, ad.off + 1, none⟩ = some (.int .i64 (rd_T57 l0 0).f1) by have h := HP1.out; rwa [show ad.add (Int.toNat 0 * 2) = ad by simp [Addr.add]] at h)
   have HQ2 := Aside0.mk (show w.cell? (ad.add ((l0.length - 1) * 2)) = some (.int .i64 (rd_T57 l0 ((l0.length : Int) - 1)).f0) by have h := HP2.out; rwa [show ((l0.length : Int) - 1).toNat = l0.length - 1 by omega] at h)
   have qp : 0 < l0.length := by omega
   clear hx0 hx1 hy0 hy1 c1 c2
   have HBD := Aside0.mk (show Below w.heap.size w (w1) from HB1.out)
   have bXd : Blk (w1) w.heap.size 23 #[.slice (some ad) l0.length c0] := HBX.out
   have bYd : Blk (w1) (w.heap.size + 1) 3 #[.int .i64 a1] := HBY.out
   have k1 : (w1).cell? ⟨w.heap.size, 0, none⟩ = some (.slice (some ad) l0.length c0) := bXd.cell 0
   have k2 : (w1).cell? ⟨w.heap.size + 1, 0, none⟩ = some (.int .i64 a1) := bYd.cell 0
   have k3 : (w1).cell? ad = some (.int .i64 (rd_T57 l0 0).f0) := (HBD.out.cell (World.block_lt_of_cell? w _ HQ0.out)).trans HQ0.out
   have k4 : (w1).cell? ⟨ad.block, ad.off + 1, none⟩ = some (.int .i64 (rd_T57 l0 0).f1) := (HBD.out.cell (World.block_lt_of_cell? w _ HQ1.out)).trans HQ1.out
   have k5 : (w1).cell? (ad.add ((l0.length - 1) * 2)) = some (.int .i64 (rd_T57 l0 ((l0.length : Int) - 1)).f0) := (HBD.out.cell (World.block_lt_of_cell? w _ HQ2.out)).trans HQ2.out
   clear HBX HBY
   have HBX := Aside0.mk bXd
   have HBY := Aside0.mk bYd
   clear bXd bYd
   go_wp2_with fail
   go_quiet (fail)
   have HB1 := HBD
   clear HBD
   have qi : IntKind.i64.wrap ((l0.length : Int) - 1) = (l0.length : Int) - 1 := IntWalk.i64_in _ (by omega)
   have q2 : 0 ≤ (l0.length : Int) - 1 := by omega
   have q3 : (l0.length : Int) - 1 < l0.length := by omega
   have q5 : 1 ≤ (l0.length : Int) := by omega
   have q4 : ((l0.length : Int) - 1).toNat = l0.length - 1 := by omega
   go_wp2_with fail
   obtain ⟨Wd, hWd⟩ : ∃ Wd, World.drew (w1.drewN nq) = Wd := ⟨_, rfl⟩
   have HBD := Aside0.mk (show Below w.heap.size w Wd from hWd ▸ pw_below_drewN HB1.out (nq + 1))
   have bXd : Blk Wd w.heap.size 23 #[.slice (some ad) l0.length c0] := hWd ▸ HBX.out
   have bYd : Blk Wd (w.heap.size + 1) 3 #[.int .i64 a1] := hWd ▸ HBY.out
   replace k1 : Wd.cell? ⟨w.heap.size, 0, none⟩ = some (.slice (some ad) l0.length c0) := hWd ▸ k1
   replace k2 : Wd.cell? ⟨w.heap.size + 1, 0, none⟩ = some (.int .i64 a1) := hWd ▸ k2
   replace k3 : Wd.cell? ad = some (.int .i64 (rd_T57 l0 0).f0) := hWd ▸ k3
   clear k4
   replace k5 : Wd.cell? (ad.add ((l0.length - 1) * 2)) = some (.int .i64 (rd_T57 l0 ((l0.length : Int) - 1)).f0) := hWd ▸ k5
   clear HBX HBY
   have HBX := Aside0.mk bXd
   have HBY := Aside0.mk bYd
   clear bXd bYd
   refine wp_region_still_tail 12 (by kernel_rfl) (by kernel_rfl) ?_
   change wpStill _ _ (World.drew _) _ _ _
   rw [hWd]
   simp only [List.take_succ_cons, List.take_zero, List.drop_succ_cons, List.drop_zero]
   repeat still_step
   refine wpStill_nil ?_
   change wpList _ _ _ _ _ (World.drew _)
   rw [hWd]
   clear hWd
   have WR : IntKind.i64.wrap (bsI ((rd_T57 l0 ((l0.length : Int) - 1)).f0 + 1 - (rd_T57 l0 0).f0).toNat (rd_T57 l0 0).f0 ((rd_T57 l0 ((l0.length : Int) - 1)).f0 + 1) (passB l0 a1) - 1) = bsI ((rd_T57 l0 ((l0.length : Int) - 1)).f0 + 1 - (rd_T57 l0 0).f0).toNat (rd_T57 l0 0).f0 ((rd_T57 l0 ((l0.length : Int) - 1)).f0 + 1) (passB l0 a1) - 1 := by
    have hb := bsI_range (passB l0 a1) ((rd_T57 l0 ((l0.length : Int) - 1)).f0 + 1 - (rd_T57 l0 0).f0).toNat (rd_T57 l0 0).f0 ((rd_T57 l0 ((l0.length : Int) - 1)).f0 + 1) HLH.out
    have h1 := (HG.out.bx 0 (by omega)).1
    have h2 := HLO.out
    have h3 := HHI.out
    have h4 := (HG.out.bx (l0.length - 1) (by omega)).2
    exact IntWalk.i64_in _ (by have e : px l0 0 = (rd_T57 l0 0).f0 := rfl; omega)
   go_wp2_with fail
   refine (least_last (some ad) c0 l0 HG.out a1 _ _ HLO.out HHI.out HLH.out w.heap.size (w.heap.size + 1) _ (Kd.C_below HR.out HBD.out) hc0 HBX.out HBY.out).mono ?_
   rintro e w2 ⟨rfl, hb⟩
   have HB2 := Aside0.mk (HBD.out.trans (hb.mono HBD.out.size))
   clear hb
   go_wp2_with fail
   go_ret3
   exact ⟨(show Ending.returned (.tuple #[.int .i64 _, .bool true, .int .i64 0]) = Ending.returned (.tuple #[.int .i64 r1, .bool r2, .int .i64 r3]) from by rw [← HH.out.2.1, ← HH.out.2.2, ← HH.out.1]), HB2.out⟩
 ·
  simp only [curve_Last.f, if_neg hg, Option.some.injEq, Prod.mk.injEq] at h
  obtain ⟨rfl, rfl, rfl⟩ := h
  have HC := Aside0.mk (show curve_Check.f l0 = some 10 by simp [curve_Check.f, hg])
  clear hg
  go_enter Tryd.func34, Tryd.ntmps34
  go_wp2_with fail
  refine (curve_Check.calls A0 c0 l0 10 _ (Kd.C_below HR.out HB.out) hc0 HC.out).mono ?_
  rintro e w1 ⟨rfl, hb⟩
  have bX := HX.out.below hb (by simp; omega)
  have bY := HY.out.below hb (by simp)
  have HBX := Aside0.mk bX
  have HBY := Aside0.mk bY
  have HB1 := Aside0.mk (HB.out.trans (hb.mono HB.out.size))
  have c1 : w1.cell? ⟨w.heap.size, 0, none⟩ = some (.slice A0 l0.length c0) := bX.cell 0
  have c2 : w1.cell? ⟨w.heap.size + 1, 0, none⟩ = some (.int .i64 a1) := bY.cell 0
  clear hb bX bY
  go_wp2_with fail
  go_ret3
  exact ⟨rfl, HB1.out⟩
end Go.Proofs.YtlhhpogaaneamaaDoor.X
namespace Go.Proofs.YtlhhpogaaneamaaDoor.X
open Go.RowKit Go.Shelf Go.Proofs.YtlhhpogaaneamaaDoorW.PrintWords Go.Proofs.YtlhhpogaaneamaaDoorW.PrintLast Go.Proofs.YtlhhpogaaneamaaDoorW.PrintMore
set_option linter.unusedVariables false
def cmpAt (c : List S57) (i : Int) : Int := cmpI (rateI (rd_T57 c i, rd_T57 c (i + 1))).1 (rateI (rd_T57 c i, rd_T57 c (i + 1))).2 (rateI (rd_T57 c (i - 1), rd_T57 c i)).1 (rateI (rd_T57 c (i - 1), rd_T57 c i)).2
def upN (c : List S57) (n : Nat) : Bool := (List.range n).any fun j => decide (0 < cmpAt c (j + 1))
def downN (c : List S57) (n : Nat) : Bool := (List.range n).any fun j => decide (cmpAt c (j + 1) < 0)
def bentI (u d : Bool) : Int := if u = true then (if d = true then 2 else 1) else (if d = true then -1 else 0)
def curve_Bent.f (c : List S57) : Option (Int × Int) := if goodB c = true then some (bentI (upN c (c.length - 2)) (downN c (c.length - 2)), 0) else some (0, 10)
theorem upN_succ (c : List S57) (i : Int) (h : 1 ≤ i) : upN c i.toNat = (upN c (i - 1).toNat || decide (0 < cmpAt c i)) := by
 obtain ⟨k, rfl⟩ : ∃ k : Nat, i = k + 1 := ⟨(i - 1).toNat, by omega⟩
 rw [show ((k : Int) + 1).toNat = k + 1 by omega, show ((k : Int) + 1 - 1).toNat = k by omega]
 simp [upN, List.range_succ]
theorem downN_succ (c : List S57) (i : Int) (h : 1 ≤ i) : downN c i.toNat = (downN c (i - 1).toNat || decide (cmpAt c i < 0)) := by
 obtain ⟨k, rfl⟩ : ∃ k : Nat, i = k + 1 := ⟨(i - 1).toNat, by omega⟩
 rw [show ((k : Int) + 1).toNat = k + 1 by omega, show ((k : Int) + 1 - 1).toNat = k by omega]
 simp [downN, List.range_succ]
theorem rate_bounds {l : S57 × S57} {a b : Int} (h : LineOk l) (e : rateI l = (a, b)) : 0 ≤ a ∧ a ≤ 281474976710656 ∧ 0 < b ∧ b ≤ 281474976710656 := by
 have w := h.wide; have hh := h.high
 unfold rateI lowestI at e
 simp only [Prod.mk.injEq] at e
 have g := gcd_pos (n := highI l) w.1
 have b1 := div_bounds (n := highI l) (by omega) g
 have b2 := div_bounds (n := wideI l) (by omega) g
 have p := num_den (highI l) (wideI l) w.1
 have := den_pos ((highI l : Rat) / (wideI l : Rat))
 rw [e.1] at b1
 rw [e.2] at b2 p
 omega
set_option maxRecDepth 100000 in
set_option maxHeartbeats 4000000 in
theorem bent_good (A : Option Addr) (cap : Nat) (c : List S57) (w : World) (hr : Kd.C k57 w A c.length c) (hc : c.length ≤ cap) (hg : goodB c = true) :
  Calls Tryd.prog 36 #[.slice A c.length cap] w fun e w' => e = .returned (.tuple #[.int .i64 (bentI (upN c (c.length - 2)) (downN c (c.length - 2))), .int .i64 0]) ∧ Below w.heap.size w w' := by
 have hu57 := Tryd.underlying57
 have hu72 := Tryd.underlying72
 have hu25 := Tryd.underlying25
 have HR := Aside0.mk hr
 have HG := Aside0.mk (good_of hg)
 have HC := Aside0.mk (show curve_Check.f c = some 0 by simp [curve_Check.f, hg])
 have hl2 := HG.out.len2
 have hl64 := HG.out.len64
 clear hr hg
 go_enter Tryd.func36, Tryd.ntmps36
 go_wp2_with fail
 refine (curve_Check.calls A cap c 0 _ HR.out hc HC.out).mono ?_
 rintro e w1 ⟨rfl, hb⟩
 have HB := Aside0.mk hb
 clear hb
 go_wp2_with fail
 go_loopw [5, 6, 7] (fun v5 v6 v7 wr => ∃ i : Int, 1 ≤ i ∧ i + 1 ≤ c.length ∧ v7 = .int .i64 i ∧ v5 = .bool (upN c (i - 1).toNat) ∧ v6 = .bool (downN c (i - 1).toNat) ∧ Aside0 (Below w.heap.size w wr)) (fun _ _ v7 _ => c.length - (intOf v7).toNat)
 case atStart => exact ⟨1, by omega, by omega, rfl, rfl, rfl, HB⟩
 case round =>
  clear HB
  obtain ⟨i, h0, h1, rfl, rfl, rfl, HB⟩ := hrel
  have u2 : IntKind.i64.wrap (i + 1) = i + 1 := IntWalk.i64_in _ (by omega)
  by_cases hlt : i + 1 < c.length
  ·
   have L1 : LineOk (rd_T57 c (i - 1), rd_T57 c i) := by have h := line_ok HG.out (i := i - 1) (by omega) (by omega); rwa [show i - 1 + 1 = i by omega] at h
   have L2 : LineOk (rd_T57 c i, rd_T57 c (i + 1)) := line_ok HG.out (by omega) hlt
   obtain ⟨k1, hk1⟩ := (rate_ev L1).one
   obtain ⟨k2, hk2⟩ := (rate_ev L2).one
   obtain ⟨⟨ra, rb⟩, hra⟩ : ∃ q, rateI (rd_T57 c (i - 1), rd_T57 c i) = q := ⟨_, rfl⟩
   obtain ⟨⟨rc, rd'⟩, hrc⟩ : ∃ q, rateI (rd_T57 c i, rd_T57 c (i + 1)) = q := ⟨_, rfl⟩
   obtain ⟨v, hv⟩ : ∃ v, cmpAt c i = v := ⟨_, rfl⟩
   have HU := Aside0.mk (show upN c i.toNat = (upN c (i - 1).toNat || decide (0 < v)) by rw [upN_succ c i h0, hv])
   have HD := Aside0.mk (show downN c i.toNat = (downN c (i - 1).toNat || decide (v < 0)) by rw [downN_succ c i h0, hv])
   unfold cmpAt at hv
   rw [hra, hrc] at hv
   rw [hra] at hk1
   rw [hrc] at hk2
   have B1 := rate_bounds L1 hra
   have B2 := rate_bounds L2 hrc
   have HC3 := Aside0.mk (show curve_compare.f rc rd' ra rb = some v by unfold curve_compare.f fracB; rw [if_pos (by simp [B1, B2]), hv])
   have HK1 := Aside0.mk hk1
   have HK2 := Aside0.mk hk2
   clear hk1 hk2 hra hrc L1 L2 B1 B2 hv
   obtain ⟨ad1, e1, p0, p1⟩ := at_T57 HR.out (i - 1) (by omega) (by omega)
   cases e1
   obtain ⟨ad1, e1, p2, p3⟩ := at_T57 HR.out i (by omega) (by omega)
   cases e1
   obtain ⟨ad1, e1, p4, p5⟩ := at_T57 HR.out (i + 1) (by omega) (by omega)
   cases e1
   replace p0 := (HB.out.cell (World.block_lt_of_cell? w _ p0)).trans p0
   replace p1 := (HB.out.cell (World.block_lt_of_cell? w _ p1)).trans p1
   replace p2 := (HB.out.cell (World.block_lt_of_cell? w _ p2)).trans p2
   replace p3 := (HB.out.cell (World.block_lt_of_cell? w _ p3)).trans p3
   replace p4 := (HB.out.cell (World.block_lt_of_cell? w _ p4)).trans p4
   replace p5 := (HB.out.cell (World.block_lt_of_cell? w _ p5)).trans p5
   rw [show (i - 1).toNat = i.toNat - 1 by omega] at p0 p1
   have FB := fun (X : World) (h : Below wr.heap.size wr X) => And.intro ((h.cell (World.block_lt_of_cell? wr _ p0)).trans p0) (And.intro ((h.cell (World.block_lt_of_cell? wr _ p1)).trans p1) (And.intro ((h.cell (World.block_lt_of_cell? wr _ p2)).trans p2) (And.intro ((h.cell (World.block_lt_of_cell? wr _ p3)).trans p3) (And.intro ((h.cell (World.block_lt_of_cell? wr _ p4)).trans p4) ((h.cell (World.block_lt_of_cell? wr _ p5)).trans p5)))))
   have HFB := Aside0.mk FB
   clear FB p0 p1 p2 p3 p4 p5
   have u1 : IntKind.i64.wrap (i - 1) = i - 1 := IntWalk.i64_in _ (by omega)
   have u3 : 0 ≤ i - 1 := by omega
   have u4 : i - 1 < c.length := by omega
   have u5' : 0 ≤ i := by omega
   have u6' : i < c.length := by omega
   have u7' : 0 ≤ i + 1 := by omega
   have HI := (show Below wr.heap.size wr wr.drew from below_drew1 (Below.refl _ _))
   go_wp2_with fail
   refine wp_region_IN (n := 6) (I := fun X => Below wr.heap.size wr X) (by kernel_rfl) ?_
   change AnyI _ _ _ _ _ _ _ _ _ _ (World.drew _)
   refine AnyI.take (i := 0) (v := ?_) rfl rfl (by kernel_rfl) (by kernel_rfl) (by kernel_rfl) (fun _ _ _ h => h) ⟨Or.inl ⟨by rfl, ?_⟩, fun _ => rfl⟩ HI ?_
   rotate_left
   ·
    intro wI hI; obtain ⟨c0, c1, c2, c3, c4, c5⟩ := HFB.out _ hI; go_simp; try with_reducible rfl
   go_simp
   refine AnyI.take (i := 1) (v := ?_) rfl rfl (by kernel_rfl) (by kernel_rfl) (by kernel_rfl) (fun _ _ _ h => h) ⟨Or.inl ⟨by rfl, ?_⟩, fun _ => rfl⟩ HI ?_
   rotate_left
   ·
    intro wI hI; obtain ⟨c0, c1, c2, c3, c4, c5⟩ := HFB.out _ hI; go_simp; try with_reducible rfl
   go_simp
   refine AnyI.take (i := 2) (v := ?_) rfl rfl (by kernel_rfl) (by kernel_rfl) (by kernel_rfl) (fun _ _ _ h => h) ⟨Or.inl ⟨by rfl, ?_⟩, fun _ => rfl⟩ HI ?_
   rotate_left
   ·
    intro wI hI; obtain ⟨c0, c1, c2, c3, c4, c5⟩ := HFB.out _ hI; go_simp; try with_reducible rfl
   go_simp
   refine AnyI.take (i := 3) (v := ?_) rfl rfl (by kernel_rfl) (by kernel_rfl) (by kernel_rfl) (fun _ _ _ h => h) ⟨Or.inl ⟨by rfl, ?_⟩, fun _ => rfl⟩ HI ?_
   rotate_left
   ·
    intro wI hI; obtain ⟨c0, c1, c2, c3, c4, c5⟩ := HFB.out _ hI; go_simp; try with_reducible rfl
   go_simp
   refine AnyI.take (i := 4) (v := ?_) rfl rfl (by kernel_rfl) (by kernel_rfl) (by kernel_rfl) (fun _ _ _ h => h) ⟨Or.inl ⟨by rfl, ?_⟩, fun _ => rfl⟩ HI ?_
   rotate_left
   ·
    intro wI hI; obtain ⟨c0, c1, c2, c3, c4, c5⟩ := HFB.out _ hI; go_simp; try with_reducible rfl
   go_simp
   refine AnyI.take (i := 5) (v := ?_) rfl rfl (by kernel_rfl) (by kernel_rfl) (by kernel_rfl) (fun _ _ _ h => h) ⟨Or.inl ⟨by rfl, ?_⟩, fun _ => rfl⟩ HI ?_
   rotate_left
   ·
    intro wI hI; obtain ⟨c0, c1, c2, c3, c4, c5⟩ := HFB.out _ hI; go_simp; try with_reducible rfl
   go_simp
   refine AnyI.take (i := 6) (v := ?_) rfl rfl (by kernel_rfl) (by kernel_rfl) (by kernel_rfl) (fun _ _ _ h => h) ⟨Or.inl ⟨by rfl, ?_⟩, fun _ => rfl⟩ HI ?_
   rotate_left
   ·
    intro wI hI; obtain ⟨c0, c1, c2, c3, c4, c5⟩ := HFB.out _ hI; go_simp; try with_reducible rfl
   go_simp
   refine AnyI.take (i := 7) (v := ?_) rfl rfl (by kernel_rfl) (by kernel_rfl) (by kernel_rfl) (fun _ _ _ h => h) ⟨Or.inl ⟨by rfl, ?_⟩, fun _ => rfl⟩ HI ?_
   rotate_left
   ·
    intro wI hI; obtain ⟨c0, c1, c2, c3, c4, c5⟩ := HFB.out _ hI; go_simp; try with_reducible rfl
   go_simp
   refine AnyI.take (i := 8) (v := ?_) rfl rfl (by kernel_rfl) (by kernel_rfl) (by kernel_rfl) (fun _ _ _ h => h) ⟨Or.inl ⟨by rfl, ?_⟩, fun _ => rfl⟩ HI ?_
   rotate_left
   ·
    intro wI hI; obtain ⟨c0, c1, c2, c3, c4, c5⟩ := HFB.out _ hI; go_simp; try with_reducible rfl
   go_simp
   refine AnyI.take (i := 9) (v := ?_) rfl rfl (by kernel_rfl) (by kernel_rfl) (by kernel_rfl) (fun _ _ _ h => h) ⟨Or.inl ⟨by rfl, ?_⟩, fun _ => rfl⟩ HI ?_
   rotate_left
   ·
    intro wI hI; obtain ⟨c0, c1, c2, c3, c4, c5⟩ := HFB.out _ hI; go_simp; try with_reducible rfl
   go_simp
   refine AnyI.take (i := 11) (v := ?_) rfl rfl (by kernel_rfl) (by kernel_rfl) (by kernel_rfl) (fun _ _ _ h => h) ⟨Or.inl ⟨by rfl, ?_⟩, fun _ => rfl⟩ HI ?_
   rotate_left
   ·
    intro wI hI; obtain ⟨c0, c1, c2, c3, c4, c5⟩ := HFB.out _ hI; go_simp; try with_reducible rfl
   go_simp
   refine AnyI.take (i := 12) (v := ?_) rfl rfl (by kernel_rfl) (by kernel_rfl) (by kernel_rfl) (fun _ _ _ h => h) ⟨Or.inl ⟨by rfl, ?_⟩, fun _ => rfl⟩ HI ?_
   rotate_left
   ·
    intro wI hI; obtain ⟨c0, c1, c2, c3, c4, c5⟩ := HFB.out _ hI; go_simp; try with_reducible rfl
   go_simp
   refine AnyI.take (i := 13) (v := ?_) rfl rfl (by kernel_rfl) (by kernel_rfl) (by kernel_rfl) (fun _ _ _ h => h) ⟨Or.inl ⟨by rfl, ?_⟩, fun _ => rfl⟩ HI ?_
   rotate_left
   ·
    intro wI hI; obtain ⟨c0, c1, c2, c3, c4, c5⟩ := HFB.out _ hI; go_simp; try with_reducible rfl
   go_simp
   refine AnyI.take (i := 14) (v := ?_) rfl rfl (by kernel_rfl) (by kernel_rfl) (by kernel_rfl) (fun _ _ _ h => h) ⟨Or.inl ⟨by rfl, ?_⟩, fun _ => rfl⟩ HI ?_
   rotate_left
   ·
    intro wI hI; obtain ⟨c0, c1, c2, c3, c4, c5⟩ := HFB.out _ hI; go_simp; try with_reducible rfl
   go_simp
   refine AnyI.take (i := 15) (v := ?_) rfl rfl (by kernel_rfl) (by kernel_rfl) (by kernel_rfl) (fun _ _ _ h => h) ⟨Or.inl ⟨by rfl, ?_⟩, fun _ => rfl⟩ HI ?_
   rotate_left
   ·
    intro wI hI; obtain ⟨c0, c1, c2, c3, c4, c5⟩ := HFB.out _ hI; go_simp; try with_reducible rfl
   go_simp
   refine AnyI.take (i := 16) (v := ?_) rfl rfl (by kernel_rfl) (by kernel_rfl) (by kernel_rfl) (fun _ _ _ h => h) ⟨Or.inl ⟨by rfl, ?_⟩, fun _ => rfl⟩ HI ?_
   rotate_left
   ·
    intro wI hI; obtain ⟨c0, c1, c2, c3, c4, c5⟩ := HFB.out _ hI; go_simp; try with_reducible rfl
   go_simp
   refine AnyI.take (i := 17) (v := ?_) rfl rfl (by kernel_rfl) (by kernel_rfl) (by kernel_rfl) (fun _ _ _ h => h) ⟨Or.inl ⟨by rfl, ?_⟩, fun _ => rfl⟩ HI ?_
   rotate_left
   ·
    intro wI hI; obtain ⟨c0, c1, c2, c3, c4, c5⟩ := HFB.out _ hI; go_simp; try with_reducible rfl
   go_simp
   refine AnyI.take (i := 18) (v := ?_) rfl rfl (by kernel_rfl) (by kernel_rfl) (by kernel_rfl) (fun _ _ _ h => h) ⟨Or.inl ⟨by rfl, ?_⟩, fun _ => rfl⟩ HI ?_
   rotate_left
   ·
    intro wI hI; obtain ⟨c0, c1, c2, c3, c4, c5⟩ := HFB.out _ hI; go_simp; try with_reducible rfl
   go_simp
   refine AnyI.take (i := 19) (v := ?_) rfl rfl (by kernel_rfl) (by kernel_rfl) (by kernel_rfl) (fun _ _ _ h => h) ⟨Or.inl ⟨by rfl, ?_⟩, fun _ => rfl⟩ HI ?_
   rotate_left
   ·
    intro wI hI; obtain ⟨c0, c1, c2, c3, c4, c5⟩ := HFB.out _ hI; go_simp; try with_reducible rfl
   go_simp
   refine AnyI.take (i := 20) (v := ?_) rfl rfl (by kernel_rfl) (by kernel_rfl) (by kernel_rfl) (fun _ _ _ h => h) ⟨Or.inl ⟨by rfl, ?_⟩, fun _ => rfl⟩ HI ?_
   rotate_left
   ·
    intro wI hI; obtain ⟨c0, c1, c2, c3, c4, c5⟩ := HFB.out _ hI; go_simp; try with_reducible rfl
   go_simp
   refine AnyI.one (i := 10) (by kernel_rfl) rfl (fun K hK => ?_)
   go_simp
   refine ⟨trivial, ?_⟩
   gi_at_call 74
   refine (callsIn_wide.2 (curve_line_rate.calls k2 _ _ _ _ rc rd' _ HK2.out)).mono ?_
   rintro e W1 ⟨rfl, hb6⟩
   have HI := HI.trans (hb6.mono HI.size)
   clear hb6
   refine hK _ _ HI ?_
   clear hK K
   refine AnyI.one (i := 21) (by kernel_rfl) rfl (fun K hK => ?_)
   go_simp
   refine ⟨trivial, ?_⟩
   gi_at_call 74
   refine (callsIn_wide.2 (curve_line_rate.calls k1 _ _ _ _ ra rb _ HK1.out)).mono ?_
   rintro e W2 ⟨rfl, hb6⟩
   have HI := HI.trans (hb6.mono HI.size)
   clear hb6
   refine hK _ _ HI ?_
   clear hK K
   refine AnyI.one (i := 22) (by kernel_rfl) rfl (fun K hK => ?_)
   go_simp
   refine ⟨trivial, ?_⟩
   gi_at_call 64
   refine (callsIn_wide.2 (curve_compare.calls rc rd' ra rb v _ HC3.out)).mono ?_
   rintro e W3 ⟨rfl, hb6⟩
   have HI := HI.trans (hb6.mono HI.size)
   clear hb6
   refine hK _ _ HI ?_
   clear hK K
   refine AnyI.take (i := 23) (v := ?_) rfl rfl (by kernel_rfl) (by kernel_rfl) (by kernel_rfl) (fun _ _ _ h => h) ⟨Or.inl ⟨by rfl, ?_⟩, fun _ => rfl⟩ HI ?_
   rotate_left
   ·
    intro wI hI; obtain ⟨c0, c1, c2, c3, c4, c5⟩ := HFB.out _ hI; go_simp; try with_reducible rfl
   go_simp
   refine AnyI.done (by kernel_rfl) ?_ _
   simp only [OnlyN, Exit.then]
   have HBW := Aside0.mk (HB.out.trans (HI.mono HB.out.size))
   rw [show (i - 1).toNat = i.toNat - 1 by omega] at HU HD
   obtain ⟨u0, hu0⟩ : ∃ u0, upN c (i.toNat - 1) = u0 := ⟨_, rfl⟩
   obtain ⟨d0, hd0⟩ : ∃ d0, downN c (i.toNat - 1) = d0 := ⟨_, rfl⟩
   rw [hu0] at HU
   rw [hd0] at HD
   rw [hu0, hd0]
   clear HI HFB hu0 hd0
   cases u0 <;> cases d0
   all_goals
    go_wp2_with fail
    go_roundw
    case rel => exact ⟨i + 1, by omega, by omega, by go_num, by rw [show i + 1 - 1 = i by omega, HU.out]; rfl, by rw [show i + 1 - 1 = i by omega, HD.out]; rfl, HBW⟩
    case measure => simp [intOf]; omega
  ·
   have ei : i - 1 = ((c.length - 2 : Nat) : Int) := by omega
   have en : (i - 1).toNat = c.length - 2 := by omega
   rw [en]
   obtain ⟨u0, hu0⟩ : ∃ u0, upN c (c.length - 2) = u0 := ⟨_, rfl⟩
   obtain ⟨d0, hd0⟩ : ∃ d0, downN c (c.length - 2) = d0 := ⟨_, rfl⟩
   rw [hu0, hd0]
   have HU := Aside0.mk hu0
   have HD := Aside0.mk hd0
   clear ei en hu0 hd0
   cases u0 <;> cases d0
   all_goals
    go_wp2_with fail
    go_ret2
    exact ⟨by rw [HU.out, HD.out]; rfl, HB.out⟩
theorem curve_Bent.calls (A0 : Option Addr) (c0 : Nat) (l0 : List S57) (r1 r2 : Int) (w : World) (hr0 : Kd.C k57 w A0 l0.length l0) (hc0 : l0.length ≤ c0) (h : curve_Bent.f l0 = some (r1, r2)) :
  Calls Tryd.prog 36 #[.slice A0 l0.length c0] w fun e w' => e = .returned (.tuple #[.int .i64 r1, .int .i64 r2]) ∧ Below w.heap.size w w' := by
 unfold curve_Bent.f at h
 cases hg : goodB l0
 ·
  rw [if_neg (by rw [hg]; simp)] at h
  simp only [Option.some.injEq, Prod.mk.injEq] at h
  obtain ⟨rfl, rfl⟩ := h
  have HR := Aside0.mk hr0
  have HC := Aside0.mk (show curve_Check.f l0 = some 10 by simp [curve_Check.f, hg])
  clear hr0 hg
  go_enter Tryd.func36, Tryd.ntmps36
  go_wp2_with fail
  refine (curve_Check.calls A0 c0 l0 10 _ HR.out hc0 HC.out).mono ?_
  rintro e w1 ⟨rfl, hb⟩
  have HB := Aside0.mk hb
  clear hb
  go_wp2_with fail
  go_ret2
  exact ⟨rfl, HB.out⟩
 ·
  rw [if_pos hg] at h
  simp only [Option.some.injEq, Prod.mk.injEq] at h
  obtain ⟨rfl, rfl⟩ := h
  exact bent_good A0 c0 l0 w hr0 hc0 hg
end Go.Proofs.YtlhhpogaaneamaaDoor.X
namespace Go.Proofs.YtlhhpogaaneamaaDoor.X
open Go.RowKit Go.Shelf Go.Proofs.YtlhhpogaaneamaaDoorW.PrintWords Go.Proofs.YtlhhpogaaneamaaDoorW.PrintLast Go.Proofs.YtlhhpogaaneamaaDoorW.PrintMore
set_option linter.unusedVariables false
def overB (a b : List S57) (x : Int) : Bool := inB a x && inB b x && decide (valR b x < valR a x)
def belowB (a b : List S57) : Bool := (a ++ b).all fun p => !overB a b p.f0
def curve_Below.f (a b : List S57) : Option (Bool × Int) := if goodB a = true ∧ goodB b = true then some (belowB a b, 0) else some (false, 10)
theorem cmp_val {p q : Rat} (hp0 : 0 ≤ p.num) (hp1 : p.num ≤ 281474976710656) (hp2 : (p.den : Int) ≤ 16777216) (hq0 : 0 ≤ q.num) (hq1 : q.num ≤ 281474976710656) (hq2 : (q.den : Int) ≤ 16777216) :
  curve_compare.f p.num p.den q.num q.den = some (if p < q then -1 else if q < p then 1 else 0) := by
 have := den_pos p; have := den_pos q
 exact cmp_frac hp0 hp1 (by omega) (by omega) hq0 hq1 (by omega) (by omega) (cmpI_rat p q)
theorem all_take {t : List S57} {f : S57 → Bool} {i : Int} (h0 : 0 ≤ i) (h1 : i < t.length) : (t.take (i + 1).toNat).all f = ((t.take i.toNat).all f && f (rd_T57 t i)) := by
 unfold rd_T57
 have e : (i + 1).toNat = i.toNat + 1 := by omega
 have h : i.toNat < t.length := by omega
 rw [e, List.take_add_one, List.getElem?_eq_getElem h, List.all_append, List.getD_eq_getElem?_getD, List.getElem?_eq_getElem h]
 simp
theorem all_false {t : List S57} {f : S57 → Bool} {i : Int} (h0 : 0 ≤ i) (h1 : i < t.length) (hf : f (rd_T57 t i) = false) : t.all f = false := by
 rw [List.all_eq_false]
 exact ⟨rd_T57 t i, by unfold rd_T57; rw [getD_of (by omega)]; exact List.getElem_mem _, by rw [hf]; simp⟩
set_option maxRecDepth 100000 in
set_option maxHeartbeats 8000000 in
theorem below_good (A0 : Option Addr) (c0 : Nat) (l0 : List S57) (A1 : Option Addr) (c1 : Nat) (l1 : List S57) (w : World) (hr0 : Kd.C k57 w A0 l0.length l0) (hc0 : l0.length ≤ c0) (hr1 : Kd.C k57 w A1 l1.length l1) (hc1 : l1.length ≤ c1) (hg : goodB l0 = true) (hg1 : goodB l1 = true) :
  Calls Tryd.prog 38 #[.slice A0 l0.length c0, .slice A1 l1.length c1] w fun e w' => e = .returned (.tuple #[.bool (belowB l0 l1), .int .i64 0]) ∧ Below w.heap.size w w' := by
 have hu57 := Tryd.underlying57
 have hu72 := Tryd.underlying72
 have hu25 := Tryd.underlying25
 have HR0 := Aside0.mk hr0
 have HR1 := Aside0.mk hr1
 obtain ⟨k, hk⟩ := checked_eq l0 l1
 rw [if_pos ⟨hg, hg1⟩] at hk
 have HK := Aside0.mk hk
 have HG := Aside0.mk (good_of hg)
 have HG1 := Aside0.mk (good_of hg1)
 have hl64 := HG.out.len64
 have hl64' := HG1.out.len64
 clear hr0 hr1 hk hg hg1
 go_enter Tryd.func38, Tryd.ntmps38
 go_wp2_with fail
 refine (curve_checked.calls k A0 c0 l0 A1 c1 l1 0 _ HR0.out hc0 HR1.out hc1 HK.out).mono ?_
 rintro e w1 ⟨rfl, hb⟩
 have HB1 := Aside0.mk hb
 clear hb
 go_wp2_with fail
 obtain ⟨w2, hw2⟩ : ∃ w2, w1.alloc (.cells #[.slice A0 l0.length c0, .slice A1 l1.length c1] 23) = w2 := ⟨_, rfl⟩
 have HBw2 := Aside0.mk (show Below w.heap.size w w2 by rw [← hw2]; exact HB1.out.alloc HB1.out.size _)
 have HC2 := Aside0.mk (show Kd.C (Kd.slice 57 k57) w2 (some ⟨w1.heap.size, 0, none⟩) ([l0, l1] : List (List S57)).length [l0, l1] by
  have hblk : Blk w2 w1.heap.size 23 #[.slice A0 l0.length c0, .slice A1 l1.length c1] := by rw [← hw2]; exact Blk.new w1 23 _
  refine ⟨rfl, by simp, fun _ => ⟨_, rfl, fun j p hj => ?_⟩⟩
  match j, hj with
  | 0, hj => simp at hj; subst hj; exact ⟨[.slice A0 l0.length c0], rfl, ⟨A0, c0, rfl, hc0, Kd.C_below HR0.out HBw2.out⟩, fun i u hu => by match i, hu with | 0, hu => simp at hu; subst hu; exact hblk.cell 0⟩
  | 1, hj => simp at hj; subst hj; exact ⟨[.slice A1 l1.length c1], rfl, ⟨A1, c1, rfl, hc1, Kd.C_below HR1.out HBw2.out⟩, fun i u hu => by match i, hu with | 0, hu => simp at hu; subst hu; exact hblk.cell 1⟩)
 rw [hw2]
 clear hw2
 refine (slices_Concat.calls (some ⟨w1.heap.size, 0, none⟩) 2 [l0, l1] (l0 ++ l1) _ HC2.out (Nat.le_refl _) (by unfold slices_Concat.f; rw [if_pos ⟨by simp, by simp; omega⟩]; simp)).mono ?_
 rintro e w3 ⟨v, rfl, hv, hb⟩
 obtain ⟨T, ct, rfl, hct, hCT⟩ := Kd.R_reads hv
 have HCT := Aside0.mk hCT
 have HB2 := Aside0.mk (HBw2.out.trans (hb.mono HBw2.out.size))
 have hlt0 : (l0 ++ l1).length ≤ 128 := by simp; omega
 obtain ⟨t, ht⟩ : ∃ t, l0 ++ l1 = t := ⟨_, rfl⟩
 rw [ht] at HCT hct hlt0 ⊢
 have HT := Aside0.mk ht
 clear hv hb hCT HC2 HBw2 ht
 go_wp2_with fail
 go_loopw [20] (fun v20 wr => ∃ i : Int, 0 ≤ i ∧ i ≤ t.length ∧ v20 = .int .i64 i ∧ Aside0 ((t.take i.toNat).all (fun p => !overB l0 l1 p.f0) = true) ∧ Aside0 (Below w3.heap.size w3 wr)) (fun v20 _ => t.length - (intOf v20).toNat)
 case atStart => exact ⟨0, by omega, by omega, rfl, ⟨by simp⟩, ⟨Below.refl _ _⟩⟩
 case round =>
  obtain ⟨i, h0, h1, rfl, HA, HB⟩ := hrel
  by_cases hlt : i < t.length
  ·
   obtain ⟨ad, e258, hx0, hx1⟩ := at_T57 HCT.out i h0 hlt
   cases e258
   replace hx0 := (HB.out.cell (World.block_lt_of_cell? w3 _ hx0)).trans hx0
   replace hx1 := (HB.out.cell (World.block_lt_of_cell? w3 _ hx1)).trans hx1
   obtain ⟨x, hx⟩ : ∃ x, (rd_T57 t i).f0 = x := ⟨_, rfl⟩
   obtain ⟨y, hy⟩ : ∃ y, (rd_T57 t i).f1 = y := ⟨_, rfl⟩
   rw [hx] at hx0
   rw [hy] at hx1
   go_wp2_with fail
   obtain ⟨w5, hw5⟩ : ∃ w5, wr.alloc (.cells #[.int .i64 x, .int .i64 y] 57) = w5 := ⟨_, rfl⟩
   have HP := Aside0.mk (show Blk w5 wr.heap.size 57 #[.int .i64 x, .int .i64 y] by rw [← hw5]; exact Blk.new wr 57 _)
   have HB5b := Aside0.mk (show Below w3.heap.size w3 w5 by rw [← hw5]; exact HB.out.alloc HB.out.size _)
   have HB5 := Aside0.mk (HB2.out.trans (HB5b.out.mono HB2.out.size))
   rw [hw5]
   clear hw5 hx0 hx1
   have FB := fun (X : World) (h : Below w5.heap.size w5 X) => And.intro ((HP.out.below h HP.out.lt).cell 0) ((HP.out.below h HP.out.lt).cell 1)
   have HF := Aside0.mk (show ∀ X : World, Below w5.heap.size w5 X → X.cell? ⟨wr.heap.size, 0, none⟩ = some (.int .i64 x) ∧ X.cell? ⟨wr.heap.size, 1, none⟩ = some (.int .i64 y) from FB)
   clear FB
   have HW0 := within_eq HG.out (x := x)
   have HW1 := within_eq HG1.out (x := x)
   cases hia : inB l0 x with
   | false =>
    rw [hia] at HW0
    have HX := Aside0.mk (show (!overB l0 l1 (rd_T57 t i).f0) = true by rw [hx]; simp [overB, hia])
    have HW0 := Aside0.mk HW0
    clear HW1 hia hx hy
    refine wp_region_IN (n := 6) (I := fun X => Below w5.heap.size w5 X) (by kernel_rfl) ?_
    change AnyI _ _ _ _ _ _ _ _ _ _ (World.drew _)
    have HI := (show Below w5.heap.size w5 w5.drew from below_drew1 (Below.refl _ _))
    refine AnyI.take (i := 0) (v := ?_) rfl rfl (by kernel_rfl) (by kernel_rfl) (by kernel_rfl) (fun _ _ _ h => h) ⟨Or.inl ⟨by rfl, ?_⟩, fun _ => rfl⟩ HI ?_
    rotate_left
    ·
     intro wI hI; obtain ⟨x0, x1⟩ := HF.out _ hI; go_simp; try with_reducible rfl
    go_simp
    refine AnyI.take (i := 1) (v := ?_) rfl rfl (by kernel_rfl) (by kernel_rfl) (by kernel_rfl) (fun _ _ _ h => h) ⟨Or.inl ⟨by rfl, ?_⟩, fun _ => rfl⟩ HI ?_
    rotate_left
    ·
     intro wI hI; obtain ⟨x0, x1⟩ := HF.out _ hI; go_simp; try with_reducible rfl
    go_simp
    refine AnyI.take (i := 2) (v := ?_) rfl rfl (by kernel_rfl) (by kernel_rfl) (by kernel_rfl) (fun _ _ _ h => h) ⟨Or.inl ⟨by rfl, ?_⟩, fun _ => rfl⟩ HI ?_
    rotate_left
    ·
     intro wI hI; obtain ⟨x0, x1⟩ := HF.out _ hI; go_simp; try with_reducible rfl
    go_simp
    refine AnyI.one (i := 3) (by kernel_rfl) rfl (fun K hK => ?_)
    go_simp
    have HRW := HB5.out.trans (HI.mono HB5.out.size)
    refine ⟨trivial, ?_⟩
    gi_at_call 71
    refine (callsIn_wide.2 (curve_within.calls A0 c0 l0 x false _ (Kd.C_below HR0.out HRW) hc0 HW0.out)).mono ?_
    rintro e W1 ⟨rfl, ⟨n1, hnd⟩⟩
    have HI := (show Below w5.heap.size w5 W1 by rw [hnd]; exact pw_below_drewN HI n1)
    clear HRW hnd
    refine hK _ _ HI ?_
    clear hK K
    refine AnyI.take (i := 4) (v := .bool false) rfl rfl (by kernel_rfl) (by kernel_rfl) (by kernel_rfl) (fun _ _ _ h => h) ⟨Or.inl ⟨by rfl, ?_⟩, fun _ => rfl⟩ HI ?_
    ·
     intro wI hI; obtain ⟨x0, x1⟩ := HF.out _ hI; go_simp; try with_reducible rfl
    go_simp
    refine AnyI.take (i := 5) (v := undef) rfl rfl (by kernel_rfl) (by kernel_rfl) (by kernel_rfl) (fun _ _ _ h => h) ⟨Or.inr ⟨by rfl, rfl⟩, fun _ => rfl⟩ HI ?_
    go_simp
    refine AnyI.take (i := 6) (v := undef) rfl rfl (by kernel_rfl) (by kernel_rfl) (by kernel_rfl) (fun _ _ _ h => h) ⟨Or.inr ⟨by rfl, rfl⟩, fun _ => rfl⟩ HI ?_
    go_simp
    refine AnyI.take (i := 7) (v := undef) rfl rfl (by kernel_rfl) (by kernel_rfl) (by kernel_rfl) (fun _ _ _ h => h) ⟨Or.inr ⟨by rfl, rfl⟩, fun _ => rfl⟩ HI ?_
    go_simp
    refine AnyI.one (i := 8) (by kernel_rfl) rfl (fun K hK => ?_)
    go_simp
    refine ⟨trivial, ?_⟩
    refine hK _ _ HI ?_
    clear hK K
    go_simp
    refine AnyI.take (i := 9) (v := .bool false) rfl rfl (by kernel_rfl) (by kernel_rfl) (by kernel_rfl) (fun _ _ _ h => h) ⟨Or.inl ⟨by rfl, ?_⟩, fun _ => rfl⟩ HI ?_
    ·
     intro wI hI; obtain ⟨x0, x1⟩ := HF.out _ hI; go_simp; try with_reducible rfl
    go_simp
    refine AnyI.take (i := 10) (v := .bool false) rfl rfl (by kernel_rfl) (by kernel_rfl) (by kernel_rfl) (fun _ _ _ h => h) ⟨Or.inl ⟨by rfl, ?_⟩, fun _ => rfl⟩ HI ?_
    ·
     intro wI hI; obtain ⟨x0, x1⟩ := HF.out _ hI; go_simp; try with_reducible rfl
    go_simp
    refine AnyI.take (i := 11) (v := undef) rfl rfl (by kernel_rfl) (by kernel_rfl) (by kernel_rfl) (fun _ _ _ h => h) ⟨Or.inr ⟨by rfl, rfl⟩, fun _ => rfl⟩ HI ?_
    go_simp
    refine AnyI.take (i := 12) (v := undef) rfl rfl (by kernel_rfl) (by kernel_rfl) (by kernel_rfl) (fun _ _ _ h => h) ⟨Or.inr ⟨by rfl, rfl⟩, fun _ => rfl⟩ HI ?_
    go_simp
    refine AnyI.take (i := 13) (v := undef) rfl rfl (by kernel_rfl) (by kernel_rfl) (by kernel_rfl) (fun _ _ _ h => h) ⟨Or.inr ⟨by rfl, rfl⟩, fun _ => rfl⟩ HI ?_
    go_simp
    refine AnyI.take (i := 15) (v := undef) rfl rfl (by kernel_rfl) (by kernel_rfl) (by kernel_rfl) (fun _ _ _ h => h) ⟨Or.inr ⟨by rfl, rfl⟩, fun _ => rfl⟩ HI ?_
    go_simp
    refine AnyI.take (i := 16) (v := undef) rfl rfl (by kernel_rfl) (by kernel_rfl) (by kernel_rfl) (fun _ _ _ h => h) ⟨Or.inr ⟨by rfl, rfl⟩, fun _ => rfl⟩ HI ?_
    go_simp
    refine AnyI.take (i := 18) (v := undef) rfl rfl (by kernel_rfl) (by kernel_rfl) (by kernel_rfl) (fun _ _ _ h => h) ⟨Or.inr ⟨by rfl, rfl⟩, fun _ => rfl⟩ HI ?_
    go_simp
    refine AnyI.take (i := 19) (v := undef) rfl rfl (by kernel_rfl) (by kernel_rfl) (by kernel_rfl) (fun _ _ _ h => h) ⟨Or.inr ⟨by rfl, rfl⟩, fun _ => rfl⟩ HI ?_
    go_simp
    refine AnyI.take (i := 20) (v := undef) rfl rfl (by kernel_rfl) (by kernel_rfl) (by kernel_rfl) (fun _ _ _ h => h) ⟨Or.inr ⟨by rfl, rfl⟩, fun _ => rfl⟩ HI ?_
    go_simp
    refine AnyI.take (i := 22) (v := undef) rfl rfl (by kernel_rfl) (by kernel_rfl) (by kernel_rfl) (fun _ _ _ h => h) ⟨Or.inr ⟨by rfl, rfl⟩, fun _ => rfl⟩ HI ?_
    go_simp
    refine AnyI.take (i := 23) (v := undef) rfl rfl (by kernel_rfl) (by kernel_rfl) (by kernel_rfl) (fun _ _ _ h => h) ⟨Or.inr ⟨by rfl, rfl⟩, fun _ => rfl⟩ HI ?_
    go_simp
    refine AnyI.one (i := 14) (by kernel_rfl) rfl (fun K hK => ?_)
    go_simp
    refine ⟨trivial, ?_⟩
    refine hK _ _ HI ?_
    clear hK K
    go_simp
    refine AnyI.one (i := 17) (by kernel_rfl) rfl (fun K hK => ?_)
    go_simp
    refine ⟨trivial, ?_⟩
    refine hK _ _ HI ?_
    clear hK K
    go_simp
    refine AnyI.one (i := 21) (by kernel_rfl) rfl (fun K hK => ?_)
    go_simp
    refine ⟨trivial, ?_⟩
    refine hK _ _ HI ?_
    clear hK K
    go_simp
    refine AnyI.one (i := 24) (by kernel_rfl) rfl (fun K hK => ?_)
    go_simp
    refine ⟨trivial, ?_⟩
    refine hK _ _ HI ?_
    clear hK K
    go_simp
    refine AnyI.one (i := 25) (by kernel_rfl) rfl (fun K hK => ?_)
    go_simp
    refine ⟨trivial, ?_⟩
    refine hK _ _ HI ?_
    clear hK K
    go_simp
    refine AnyI.take (i := 26) (v := undef) rfl rfl (by kernel_rfl) (by kernel_rfl) (by kernel_rfl) (fun _ _ _ h => h) ⟨Or.inr ⟨by rfl, rfl⟩, fun _ => rfl⟩ HI ?_
    go_simp
    refine AnyI.take (i := 27) (v := .bool false) rfl rfl (by kernel_rfl) (by kernel_rfl) (by kernel_rfl) (fun _ _ _ h => h) ⟨Or.inl ⟨by rfl, ?_⟩, fun _ => rfl⟩ HI ?_
    ·
     intro wI hI; obtain ⟨x0, x1⟩ := HF.out _ hI; go_simp; try with_reducible rfl
    go_simp
    refine AnyI.done (by kernel_rfl) ?_ _
    simp only [OnlyN, Exit.then]
    have HBN := Aside0.mk (HB5b.out.trans (HI.mono HB5b.out.size))
    clear HI HF
    go_wp2_with fail
    go_roundw
    case rel => exact ⟨i + 1, by omega, by omega, by go_num, ⟨by rw [all_take h0 hlt, HA.out, HX.out]; rfl⟩, HBN⟩
    case measure => simp [intOf]; omega
   | true =>
    cases hib : inB l1 x with
    | false =>
     rw [hia] at HW0
     rw [hib] at HW1
     have HX := Aside0.mk (show (!overB l0 l1 (rd_T57 t i).f0) = true by rw [hx]; simp [overB, hib])
     have HW0 := Aside0.mk HW0
     have HW1 := Aside0.mk HW1
     clear hia hib hx hy
     refine wp_region_IN (n := 6) (I := fun X => Below w5.heap.size w5 X) (by kernel_rfl) ?_
     change AnyI _ _ _ _ _ _ _ _ _ _ (World.drew _)
     have HI := (show Below w5.heap.size w5 w5.drew from below_drew1 (Below.refl _ _))
     refine AnyI.take (i := 0) (v := ?_) rfl rfl (by kernel_rfl) (by kernel_rfl) (by kernel_rfl) (fun _ _ _ h => h) ⟨Or.inl ⟨by rfl, ?_⟩, fun _ => rfl⟩ HI ?_
     rotate_left
     ·
      intro wI hI; obtain ⟨x0, x1⟩ := HF.out _ hI; go_simp; try with_reducible rfl
     go_simp
     refine AnyI.take (i := 1) (v := ?_) rfl rfl (by kernel_rfl) (by kernel_rfl) (by kernel_rfl) (fun _ _ _ h => h) ⟨Or.inl ⟨by rfl, ?_⟩, fun _ => rfl⟩ HI ?_
     rotate_left
     ·
      intro wI hI; obtain ⟨x0, x1⟩ := HF.out _ hI; go_simp; try with_reducible rfl
     go_simp
     refine AnyI.take (i := 2) (v := ?_) rfl rfl (by kernel_rfl) (by kernel_rfl) (by kernel_rfl) (fun _ _ _ h => h) ⟨Or.inl ⟨by rfl, ?_⟩, fun _ => rfl⟩ HI ?_
     rotate_left
     ·
      intro wI hI; obtain ⟨x0, x1⟩ := HF.out _ hI; go_simp; try with_reducible rfl
     go_simp
     refine AnyI.one (i := 3) (by kernel_rfl) rfl (fun K hK => ?_)
     go_simp
     have HRW := HB5.out.trans (HI.mono HB5.out.size)
     refine ⟨trivial, ?_⟩
     gi_at_call 71
     refine (callsIn_wide.2 (curve_within.calls A0 c0 l0 x true _ (Kd.C_below HR0.out HRW) hc0 HW0.out)).mono ?_
     rintro e W1 ⟨rfl, ⟨n1, hnd⟩⟩
     have HI := (show Below w5.heap.size w5 W1 by rw [hnd]; exact pw_below_drewN HI n1)
     clear HRW hnd
     refine hK _ _ HI ?_
     clear hK K
     refine AnyI.take (i := 4) (v := .bool true) rfl rfl (by kernel_rfl) (by kernel_rfl) (by kernel_rfl) (fun _ _ _ h => h) ⟨Or.inl ⟨by rfl, ?_⟩, fun _ => rfl⟩ HI ?_
     ·
      intro wI hI; obtain ⟨x0, x1⟩ := HF.out _ hI; go_simp; try with_reducible rfl
     go_simp
     refine AnyI.take (i := 5) (v := ?_) rfl rfl (by kernel_rfl) (by kernel_rfl) (by kernel_rfl) (fun _ _ _ h => h) ⟨Or.inl ⟨by rfl, ?_⟩, fun _ => rfl⟩ HI ?_
     rotate_left
     ·
      intro wI hI; obtain ⟨x0, x1⟩ := HF.out _ hI; go_simp; try with_reducible rfl
     go_simp
     refine AnyI.take (i := 6) (v := ?_) rfl rfl (by kernel_rfl) (by kernel_rfl) (by kernel_rfl) (fun _ _ _ h => h) ⟨Or.inl ⟨by rfl, ?_⟩, fun _ => rfl⟩ HI ?_
     rotate_left
     ·
      intro wI hI; obtain ⟨x0, x1⟩ := HF.out _ hI; go_simp; try with_reducible rfl
     go_simp
     refine AnyI.take (i := 7) (v := ?_) rfl rfl (by kernel_rfl) (by kernel_rfl) (by kernel_rfl) (fun _ _ _ h => h) ⟨Or.inl ⟨by rfl, ?_⟩, fun _ => rfl⟩ HI ?_
     rotate_left
     ·
      intro wI hI; obtain ⟨x0, x1⟩ := HF.out _ hI; go_simp; try with_reducible rfl
     go_simp
     refine AnyI.one (i := 8) (by kernel_rfl) rfl (fun K hK => ?_)
     go_simp
     have HRW := HB5.out.trans (HI.mono HB5.out.size)
     refine ⟨trivial, ?_⟩
     gi_at_call 71
     refine (callsIn_wide.2 (curve_within.calls A1 c1 l1 x false _ (Kd.C_below HR1.out HRW) hc1 HW1.out)).mono ?_
     rintro e W1 ⟨rfl, ⟨n2, hnd⟩⟩
     have HI := (show Below w5.heap.size w5 W1 by rw [hnd]; exact pw_below_drewN HI n2)
     clear HRW hnd
     refine hK _ _ HI ?_
     clear hK K
     refine AnyI.take (i := 9) (v := .bool false) rfl rfl (by kernel_rfl) (by kernel_rfl) (by kernel_rfl) (fun _ _ _ h => h) ⟨Or.inl ⟨by rfl, ?_⟩, fun _ => rfl⟩ HI ?_
     ·
      intro wI hI; obtain ⟨x0, x1⟩ := HF.out _ hI; go_simp; try with_reducible rfl
     go_simp
     refine AnyI.take (i := 10) (v := .bool false) rfl rfl (by kernel_rfl) (by kernel_rfl) (by kernel_rfl) (fun _ _ _ h => h) ⟨Or.inl ⟨by rfl, ?_⟩, fun _ => rfl⟩ HI ?_
     ·
      intro wI hI; obtain ⟨x0, x1⟩ := HF.out _ hI; go_simp; try with_reducible rfl
     go_simp
     refine AnyI.take (i := 11) (v := undef) rfl rfl (by kernel_rfl) (by kernel_rfl) (by kernel_rfl) (fun _ _ _ h => h) ⟨Or.inr ⟨by rfl, rfl⟩, fun _ => rfl⟩ HI ?_
     go_simp
     refine AnyI.take (i := 12) (v := undef) rfl rfl (by kernel_rfl) (by kernel_rfl) (by kernel_rfl) (fun _ _ _ h => h) ⟨Or.inr ⟨by rfl, rfl⟩, fun _ => rfl⟩ HI ?_
     go_simp
     refine AnyI.take (i := 13) (v := undef) rfl rfl (by kernel_rfl) (by kernel_rfl) (by kernel_rfl) (fun _ _ _ h => h) ⟨Or.inr ⟨by rfl, rfl⟩, fun _ => rfl⟩ HI ?_
     go_simp
     refine AnyI.take (i := 15) (v := undef) rfl rfl (by kernel_rfl) (by kernel_rfl) (by kernel_rfl) (fun _ _ _ h => h) ⟨Or.inr ⟨by rfl, rfl⟩, fun _ => rfl⟩ HI ?_
     go_simp
     refine AnyI.take (i := 16) (v := undef) rfl rfl (by kernel_rfl) (by kernel_rfl) (by kernel_rfl) (fun _ _ _ h => h) ⟨Or.inr ⟨by rfl, rfl⟩, fun _ => rfl⟩ HI ?_
     go_simp
     refine AnyI.take (i := 18) (v := undef) rfl rfl (by kernel_rfl) (by kernel_rfl) (by kernel_rfl) (fun _ _ _ h => h) ⟨Or.inr ⟨by rfl, rfl⟩, fun _ => rfl⟩ HI ?_
     go_simp
     refine AnyI.take (i := 19) (v := undef) rfl rfl (by kernel_rfl) (by kernel_rfl) (by kernel_rfl) (fun _ _ _ h => h) ⟨Or.inr ⟨by rfl, rfl⟩, fun _ => rfl⟩ HI ?_
     go_simp
     refine AnyI.take (i := 20) (v := undef) rfl rfl (by kernel_rfl) (by kernel_rfl) (by kernel_rfl) (fun _ _ _ h => h) ⟨Or.inr ⟨by rfl, rfl⟩, fun _ => rfl⟩ HI ?_
     go_simp
     refine AnyI.take (i := 22) (v := undef) rfl rfl (by kernel_rfl) (by kernel_rfl) (by kernel_rfl) (fun _ _ _ h => h) ⟨Or.inr ⟨by rfl, rfl⟩, fun _ => rfl⟩ HI ?_
     go_simp
     refine AnyI.take (i := 23) (v := undef) rfl rfl (by kernel_rfl) (by kernel_rfl) (by kernel_rfl) (fun _ _ _ h => h) ⟨Or.inr ⟨by rfl, rfl⟩, fun _ => rfl⟩ HI ?_
     go_simp
     refine AnyI.one (i := 14) (by kernel_rfl) rfl (fun K hK => ?_)
     go_simp
     refine ⟨trivial, ?_⟩
     refine hK _ _ HI ?_
     clear hK K
     go_simp
     refine AnyI.one (i := 17) (by kernel_rfl) rfl (fun K hK => ?_)
     go_simp
     refine ⟨trivial, ?_⟩
     refine hK _ _ HI ?_
     clear hK K
     go_simp
     refine AnyI.one (i := 21) (by kernel_rfl) rfl (fun K hK => ?_)
     go_simp
     refine ⟨trivial, ?_⟩
     refine hK _ _ HI ?_
     clear hK K
     go_simp
     refine AnyI.one (i := 24) (by kernel_rfl) rfl (fun K hK => ?_)
     go_simp
     refine ⟨trivial, ?_⟩
     refine hK _ _ HI ?_
     clear hK K
     go_simp
     refine AnyI.one (i := 25) (by kernel_rfl) rfl (fun K hK => ?_)
     go_simp
     refine ⟨trivial, ?_⟩
     refine hK _ _ HI ?_
     clear hK K
     go_simp
     refine AnyI.take (i := 26) (v := undef) rfl rfl (by kernel_rfl) (by kernel_rfl) (by kernel_rfl) (fun _ _ _ h => h) ⟨Or.inr ⟨by rfl, rfl⟩, fun _ => rfl⟩ HI ?_
     go_simp
     refine AnyI.take (i := 27) (v := .bool false) rfl rfl (by kernel_rfl) (by kernel_rfl) (by kernel_rfl) (fun _ _ _ h => h) ⟨Or.inl ⟨by rfl, ?_⟩, fun _ => rfl⟩ HI ?_
     ·
      intro wI hI; obtain ⟨x0, x1⟩ := HF.out _ hI; go_simp; try with_reducible rfl
     go_simp
     refine AnyI.done (by kernel_rfl) ?_ _
     simp only [OnlyN, Exit.then]
     have HBN := Aside0.mk (HB5b.out.trans (HI.mono HB5b.out.size))
     clear HI HF
     go_wp2_with fail
     go_roundw
     case rel => exact ⟨i + 1, by omega, by omega, by go_num, ⟨by rw [all_take h0 hlt, HA.out, HX.out]; rfl⟩, HBN⟩
     case measure => simp [intOf]; omega
    | true =>
     rw [hia] at HW0
     rw [hib] at HW1
     have HW0 := Aside0.mk HW0
     have HW1 := Aside0.mk HW1
     obtain ⟨l, hl, hlm, q0, q1, _⟩ := asked_in HG.out hia
     obtain ⟨m, hm, hmm, q2, q3, _⟩ := asked_in HG1.out hib
     have okl := good_line HG.out hlm
     have okm := good_line HG1.out hmm
     obtain ⟨k0, e1⟩ := (exact_ev okl q0 q1).one
     obtain ⟨k1, e2⟩ := (exact_ev okm q2 q3).one
     rw [exactI_eq okl.wide.1, ← valR_line hl] at e1
     rw [exactI_eq okm.wide.1, ← valR_line hm] at e2
     have va := val_bounds HG.out hia
     have vb := val_bounds HG1.out hib
     have hcv := cmp_val va.1 va.2.1 va.2.2.2 vb.1 vb.2.1 vb.2.2.2
     have HE0 := Aside0.mk e1
     have HE1 := Aside0.mk e2
     have HAT0 := Aside0.mk (show curve_at.f l0 x = some (l.1.f0, l.1.f1, l.2.f0, l.2.f1) by unfold curve_at.f; rw [hl])
     have HAT1 := Aside0.mk (show curve_at.f l1 x = some (m.1.f0, m.1.f1, m.2.f0, m.2.f1) by unfold curve_at.f; rw [hm])
     obtain ⟨v, hv⟩ : ∃ v, (if valR l0 x < valR l1 x then -1 else if valR l1 x < valR l0 x then 1 else (0 : Int)) = v := ⟨_, rfl⟩
     rw [hv] at hcv
     have HCV := Aside0.mk hcv
     by_cases hgt : valR l1 x < valR l0 x
     ·
      have g1 : 0 < v := by rw [← hv, if_neg (by grind), if_pos hgt]; omega
      have HX := Aside0.mk (show (!overB l0 l1 (rd_T57 t i).f0) = false by rw [hx]; simp [overB, hia, hib, hgt])
      clear hia hib hx hy hl hlm q0 q1 hm hmm q2 q3 okl okm e1 e2 va vb hcv hv hgt
      refine wp_region_IN (n := 6) (I := fun X => Below w5.heap.size w5 X) (by kernel_rfl) ?_
      change AnyI _ _ _ _ _ _ _ _ _ _ (World.drew _)
      have HI := (show Below w5.heap.size w5 w5.drew from below_drew1 (Below.refl _ _))
      refine AnyI.take (i := 0) (v := ?_) rfl rfl (by kernel_rfl) (by kernel_rfl) (by kernel_rfl) (fun _ _ _ h => h) ⟨Or.inl ⟨by rfl, ?_⟩, fun _ => rfl⟩ HI ?_
      rotate_left
      ·
       intro wI hI; obtain ⟨x0, x1⟩ := HF.out _ hI; go_simp; try with_reducible rfl
      go_simp
      refine AnyI.take (i := 1) (v := ?_) rfl rfl (by kernel_rfl) (by kernel_rfl) (by kernel_rfl) (fun _ _ _ h => h) ⟨Or.inl ⟨by rfl, ?_⟩, fun _ => rfl⟩ HI ?_
      rotate_left
      ·
       intro wI hI; obtain ⟨x0, x1⟩ := HF.out _ hI; go_simp; try with_reducible rfl
      go_simp
      refine AnyI.take (i := 2) (v := ?_) rfl rfl (by kernel_rfl) (by kernel_rfl) (by kernel_rfl) (fun _ _ _ h => h) ⟨Or.inl ⟨by rfl, ?_⟩, fun _ => rfl⟩ HI ?_
      rotate_left
      ·
       intro wI hI; obtain ⟨x0, x1⟩ := HF.out _ hI; go_simp; try with_reducible rfl
      go_simp
      refine AnyI.one (i := 3) (by kernel_rfl) rfl (fun K hK => ?_)
      go_simp
      have HRW := HB5.out.trans (HI.mono HB5.out.size)
      refine ⟨trivial, ?_⟩
      gi_at_call 71
      refine (callsIn_wide.2 (curve_within.calls A0 c0 l0 x true _ (Kd.C_below HR0.out HRW) hc0 HW0.out)).mono ?_
      rintro e W1 ⟨rfl, ⟨n1, hnd⟩⟩
      have HI := (show Below w5.heap.size w5 W1 by rw [hnd]; exact pw_below_drewN HI n1)
      clear HRW hnd
      refine hK _ _ HI ?_
      clear hK K
      refine AnyI.take (i := 4) (v := .bool true) rfl rfl (by kernel_rfl) (by kernel_rfl) (by kernel_rfl) (fun _ _ _ h => h) ⟨Or.inl ⟨by rfl, ?_⟩, fun _ => rfl⟩ HI ?_
      ·
       intro wI hI; obtain ⟨x0, x1⟩ := HF.out _ hI; go_simp; try with_reducible rfl
      go_simp
      refine AnyI.take (i := 5) (v := ?_) rfl rfl (by kernel_rfl) (by kernel_rfl) (by kernel_rfl) (fun _ _ _ h => h) ⟨Or.inl ⟨by rfl, ?_⟩, fun _ => rfl⟩ HI ?_
      rotate_left
      ·
       intro wI hI; obtain ⟨x0, x1⟩ := HF.out _ hI; go_simp; try with_reducible rfl
      go_simp
      refine AnyI.take (i := 6) (v := ?_) rfl rfl (by kernel_rfl) (by kernel_rfl) (by kernel_rfl) (fun _ _ _ h => h) ⟨Or.inl ⟨by rfl, ?_⟩, fun _ => rfl⟩ HI ?_
      rotate_left
      ·
       intro wI hI; obtain ⟨x0, x1⟩ := HF.out _ hI; go_simp; try with_reducible rfl
      go_simp
      refine AnyI.take (i := 7) (v := ?_) rfl rfl (by kernel_rfl) (by kernel_rfl) (by kernel_rfl) (fun _ _ _ h => h) ⟨Or.inl ⟨by rfl, ?_⟩, fun _ => rfl⟩ HI ?_
      rotate_left
      ·
       intro wI hI; obtain ⟨x0, x1⟩ := HF.out _ hI; go_simp; try with_reducible rfl
      go_simp
      refine AnyI.one (i := 8) (by kernel_rfl) rfl (fun K hK => ?_)
      go_simp
      have HRW := HB5.out.trans (HI.mono HB5.out.size)
      refine ⟨trivial, ?_⟩
      gi_at_call 71
      refine (callsIn_wide.2 (curve_within.calls A1 c1 l1 x true _ (Kd.C_below HR1.out HRW) hc1 HW1.out)).mono ?_
      rintro e W1 ⟨rfl, ⟨n2, hnd⟩⟩
      have HI := (show Below w5.heap.size w5 W1 by rw [hnd]; exact pw_below_drewN HI n2)
      clear HRW hnd
      refine hK _ _ HI ?_
      clear hK K
      refine AnyI.take (i := 9) (v := .bool true) rfl rfl (by kernel_rfl) (by kernel_rfl) (by kernel_rfl) (fun _ _ _ h => h) ⟨Or.inl ⟨by rfl, ?_⟩, fun _ => rfl⟩ HI ?_
      ·
       intro wI hI; obtain ⟨x0, x1⟩ := HF.out _ hI; go_simp; try with_reducible rfl
      go_simp
      refine AnyI.take (i := 10) (v := .bool true) rfl rfl (by kernel_rfl) (by kernel_rfl) (by kernel_rfl) (fun _ _ _ h => h) ⟨Or.inl ⟨by rfl, ?_⟩, fun _ => rfl⟩ HI ?_
      ·
       intro wI hI; obtain ⟨x0, x1⟩ := HF.out _ hI; go_simp; try with_reducible rfl
      go_simp
      refine AnyI.take (i := 11) (v := ?_) rfl rfl (by kernel_rfl) (by kernel_rfl) (by kernel_rfl) (fun _ _ _ h => h) ⟨Or.inl ⟨by rfl, ?_⟩, fun _ => rfl⟩ HI ?_
      rotate_left
      ·
       intro wI hI; obtain ⟨x0, x1⟩ := HF.out _ hI; go_simp; try with_reducible rfl
      go_simp
      refine AnyI.take (i := 12) (v := ?_) rfl rfl (by kernel_rfl) (by kernel_rfl) (by kernel_rfl) (fun _ _ _ h => h) ⟨Or.inl ⟨by rfl, ?_⟩, fun _ => rfl⟩ HI ?_
      rotate_left
      ·
       intro wI hI; obtain ⟨x0, x1⟩ := HF.out _ hI; go_simp; try with_reducible rfl
      go_simp
      refine AnyI.take (i := 13) (v := ?_) rfl rfl (by kernel_rfl) (by kernel_rfl) (by kernel_rfl) (fun _ _ _ h => h) ⟨Or.inl ⟨by rfl, ?_⟩, fun _ => rfl⟩ HI ?_
      rotate_left
      ·
       intro wI hI; obtain ⟨x0, x1⟩ := HF.out _ hI; go_simp; try with_reducible rfl
      go_simp
      refine AnyI.take (i := 15) (v := ?_) rfl rfl (by kernel_rfl) (by kernel_rfl) (by kernel_rfl) (fun _ _ _ h => h) ⟨Or.inl ⟨by rfl, ?_⟩, fun _ => rfl⟩ HI ?_
      rotate_left
      ·
       intro wI hI; obtain ⟨x0, x1⟩ := HF.out _ hI; go_simp; try with_reducible rfl
      go_simp
      refine AnyI.take (i := 16) (v := ?_) rfl rfl (by kernel_rfl) (by kernel_rfl) (by kernel_rfl) (fun _ _ _ h => h) ⟨Or.inl ⟨by rfl, ?_⟩, fun _ => rfl⟩ HI ?_
      rotate_left
      ·
       intro wI hI; obtain ⟨x0, x1⟩ := HF.out _ hI; go_simp; try with_reducible rfl
      go_simp
      refine AnyI.take (i := 18) (v := ?_) rfl rfl (by kernel_rfl) (by kernel_rfl) (by kernel_rfl) (fun _ _ _ h => h) ⟨Or.inl ⟨by rfl, ?_⟩, fun _ => rfl⟩ HI ?_
      rotate_left
      ·
       intro wI hI; obtain ⟨x0, x1⟩ := HF.out _ hI; go_simp; try with_reducible rfl
      go_simp
      refine AnyI.take (i := 19) (v := ?_) rfl rfl (by kernel_rfl) (by kernel_rfl) (by kernel_rfl) (fun _ _ _ h => h) ⟨Or.inl ⟨by rfl, ?_⟩, fun _ => rfl⟩ HI ?_
      rotate_left
      ·
       intro wI hI; obtain ⟨x0, x1⟩ := HF.out _ hI; go_simp; try with_reducible rfl
      go_simp
      refine AnyI.take (i := 20) (v := ?_) rfl rfl (by kernel_rfl) (by kernel_rfl) (by kernel_rfl) (fun _ _ _ h => h) ⟨Or.inl ⟨by rfl, ?_⟩, fun _ => rfl⟩ HI ?_
      rotate_left
      ·
       intro wI hI; obtain ⟨x0, x1⟩ := HF.out _ hI; go_simp; try with_reducible rfl
      go_simp
      refine AnyI.take (i := 22) (v := ?_) rfl rfl (by kernel_rfl) (by kernel_rfl) (by kernel_rfl) (fun _ _ _ h => h) ⟨Or.inl ⟨by rfl, ?_⟩, fun _ => rfl⟩ HI ?_
      rotate_left
      ·
       intro wI hI; obtain ⟨x0, x1⟩ := HF.out _ hI; go_simp; try with_reducible rfl
      go_simp
      refine AnyI.take (i := 23) (v := ?_) rfl rfl (by kernel_rfl) (by kernel_rfl) (by kernel_rfl) (fun _ _ _ h => h) ⟨Or.inl ⟨by rfl, ?_⟩, fun _ => rfl⟩ HI ?_
      rotate_left
      ·
       intro wI hI; obtain ⟨x0, x1⟩ := HF.out _ hI; go_simp; try with_reducible rfl
      go_simp
      refine AnyI.one (i := 14) (by kernel_rfl) rfl (fun K hK => ?_)
      go_simp
      have HRW := HB5.out.trans (HI.mono HB5.out.size)
      refine ⟨trivial, ?_⟩
      gi_at_call 80
      refine (callsIn_wide.2 (curve_at.calls A0 c0 l0 x _ _ _ _ _ (Kd.C_below HR0.out HRW) hc0 HAT0.out)).mono ?_
      rintro e W2 ⟨rfl, hb6⟩
      have HI := HI.trans (hb6.mono HI.size)
      clear hb6 HRW
      refine hK _ _ HI ?_
      clear hK K
      refine AnyI.one (i := 17) (by kernel_rfl) rfl (fun K hK => ?_)
      go_simp
      refine ⟨trivial, ?_⟩
      gi_at_call 67
      refine (callsIn_wide.2 (curve_line_exact.calls k0 _ _ _ _ x _ _ _ HE0.out)).mono ?_
      rintro e W3 ⟨rfl, hb6⟩
      have HI := HI.trans (hb6.mono HI.size)
      clear hb6
      refine hK _ _ HI ?_
      clear hK K
      refine AnyI.one (i := 21) (by kernel_rfl) rfl (fun K hK => ?_)
      go_simp
      have HRW := HB5.out.trans (HI.mono HB5.out.size)
      refine ⟨trivial, ?_⟩
      gi_at_call 80
      refine (callsIn_wide.2 (curve_at.calls A1 c1 l1 x _ _ _ _ _ (Kd.C_below HR1.out HRW) hc1 HAT1.out)).mono ?_
      rintro e W4 ⟨rfl, hb6⟩
      have HI := HI.trans (hb6.mono HI.size)
      clear hb6 HRW
      refine hK _ _ HI ?_
      clear hK K
      refine AnyI.one (i := 24) (by kernel_rfl) rfl (fun K hK => ?_)
      go_simp
      refine ⟨trivial, ?_⟩
      gi_at_call 67
      refine (callsIn_wide.2 (curve_line_exact.calls k1 _ _ _ _ x _ _ _ HE1.out)).mono ?_
      rintro e W5 ⟨rfl, hb6⟩
      have HI := HI.trans (hb6.mono HI.size)
      clear hb6
      refine hK _ _ HI ?_
      clear hK K
      refine AnyI.one (i := 25) (by kernel_rfl) rfl (fun K hK => ?_)
      go_simp
      refine ⟨trivial, ?_⟩
      gi_at_call 64
      refine (callsIn_wide.2 (curve_compare.calls _ _ _ _ v _ HCV.out)).mono ?_
      rintro e W7 ⟨rfl, hb6⟩
      have HI := HI.trans (hb6.mono HI.size)
      clear hb6
      refine hK _ _ HI ?_
      clear hK K
      refine AnyI.take (i := 26) (v := .bool true) rfl rfl (by kernel_rfl) (by kernel_rfl) (by kernel_rfl) (fun _ _ _ h => h) ⟨Or.inl ⟨by rfl, ?_⟩, fun _ => rfl⟩ HI ?_
      ·
       intro wI hI; obtain ⟨x0, x1⟩ := HF.out _ hI; go_simp; try with_reducible rfl
      go_simp
      refine AnyI.take (i := 27) (v := .bool true) rfl rfl (by kernel_rfl) (by kernel_rfl) (by kernel_rfl) (fun _ _ _ h => h) ⟨Or.inl ⟨by rfl, ?_⟩, fun _ => rfl⟩ HI ?_
      ·
       intro wI hI; obtain ⟨x0, x1⟩ := HF.out _ hI; go_simp; try with_reducible rfl
      go_simp
      refine AnyI.done (by kernel_rfl) ?_ _
      simp only [OnlyN, Exit.then]
      have HBN := Aside0.mk ((HB2.out.trans (HB5b.out.mono HB2.out.size)).trans (HI.mono (Nat.le_trans HB2.out.size HB5b.out.size)))
      clear HI HF
      go_wp2_with fail
      go_ret2
      exact ⟨by rw [show belowB l0 l1 = false by unfold belowB; rw [HT.out]; exact all_false (f := fun p => !overB l0 l1 p.f0) h0 hlt HX.out]; rfl, HBN.out⟩
     ·
      have g1 : v ≤ 0 := by rw [← hv]; by_cases q9 : valR l0 x < valR l1 x; (rw [if_pos q9]; omega); (rw [if_neg q9, if_neg hgt]; omega)
      have HX := Aside0.mk (show (!overB l0 l1 (rd_T57 t i).f0) = true by rw [hx]; simp [overB, hgt])
      clear hia hib hx hy hl hlm q0 q1 hm hmm q2 q3 okl okm e1 e2 va vb hcv hv hgt
      refine wp_region_IN (n := 6) (I := fun X => Below w5.heap.size w5 X) (by kernel_rfl) ?_
      change AnyI _ _ _ _ _ _ _ _ _ _ (World.drew _)
      have HI := (show Below w5.heap.size w5 w5.drew from below_drew1 (Below.refl _ _))
      refine AnyI.take (i := 0) (v := ?_) rfl rfl (by kernel_rfl) (by kernel_rfl) (by kernel_rfl) (fun _ _ _ h => h) ⟨Or.inl ⟨by rfl, ?_⟩, fun _ => rfl⟩ HI ?_
      rotate_left
      ·
       intro wI hI; obtain ⟨x0, x1⟩ := HF.out _ hI; go_simp; try with_reducible rfl
      go_simp
      refine AnyI.take (i := 1) (v := ?_) rfl rfl (by kernel_rfl) (by kernel_rfl) (by kernel_rfl) (fun _ _ _ h => h) ⟨Or.inl ⟨by rfl, ?_⟩, fun _ => rfl⟩ HI ?_
      rotate_left
      ·
       intro wI hI; obtain ⟨x0, x1⟩ := HF.out _ hI; go_simp; try with_reducible rfl
      go_simp
      refine AnyI.take (i := 2) (v := ?_) rfl rfl (by kernel_rfl) (by kernel_rfl) (by kernel_rfl) (fun _ _ _ h => h) ⟨Or.inl ⟨by rfl, ?_⟩, fun _ => rfl⟩ HI ?_
      rotate_left
      ·
       intro wI hI; obtain ⟨x0, x1⟩ := HF.out _ hI; go_simp; try with_reducible rfl
      go_simp
      refine AnyI.one (i := 3) (by kernel_rfl) rfl (fun K hK => ?_)
      go_simp
      have HRW := HB5.out.trans (HI.mono HB5.out.size)
      refine ⟨trivial, ?_⟩
      gi_at_call 71
      refine (callsIn_wide.2 (curve_within.calls A0 c0 l0 x true _ (Kd.C_below HR0.out HRW) hc0 HW0.out)).mono ?_
      rintro e W1 ⟨rfl, ⟨n1, hnd⟩⟩
      have HI := (show Below w5.heap.size w5 W1 by rw [hnd]; exact pw_below_drewN HI n1)
      clear HRW hnd
      refine hK _ _ HI ?_
      clear hK K
      refine AnyI.take (i := 4) (v := .bool true) rfl rfl (by kernel_rfl) (by kernel_rfl) (by kernel_rfl) (fun _ _ _ h => h) ⟨Or.inl ⟨by rfl, ?_⟩, fun _ => rfl⟩ HI ?_
      ·
       intro wI hI; obtain ⟨x0, x1⟩ := HF.out _ hI; go_simp; try with_reducible rfl
      go_simp
      refine AnyI.take (i := 5) (v := ?_) rfl rfl (by kernel_rfl) (by kernel_rfl) (by kernel_rfl) (fun _ _ _ h => h) ⟨Or.inl ⟨by rfl, ?_⟩, fun _ => rfl⟩ HI ?_
      rotate_left
      ·
       intro wI hI; obtain ⟨x0, x1⟩ := HF.out _ hI; go_simp; try with_reducible rfl
      go_simp
      refine AnyI.take (i := 6) (v := ?_) rfl rfl (by kernel_rfl) (by kernel_rfl) (by kernel_rfl) (fun _ _ _ h => h) ⟨Or.inl ⟨by rfl, ?_⟩, fun _ => rfl⟩ HI ?_
      rotate_left
      ·
       intro wI hI; obtain ⟨x0, x1⟩ := HF.out _ hI; go_simp; try with_reducible rfl
      go_simp
      refine AnyI.take (i := 7) (v := ?_) rfl rfl (by kernel_rfl) (by kernel_rfl) (by kernel_rfl) (fun _ _ _ h => h) ⟨Or.inl ⟨by rfl, ?_⟩, fun _ => rfl⟩ HI ?_
      rotate_left
      ·
       intro wI hI; obtain ⟨x0, x1⟩ := HF.out _ hI; go_simp; try with_reducible rfl
      go_simp
      refine AnyI.one (i := 8) (by kernel_rfl) rfl (fun K hK => ?_)
      go_simp
      have HRW := HB5.out.trans (HI.mono HB5.out.size)
      refine ⟨trivial, ?_⟩
      gi_at_call 71
      refine (callsIn_wide.2 (curve_within.calls A1 c1 l1 x true _ (Kd.C_below HR1.out HRW) hc1 HW1.out)).mono ?_
      rintro e W1 ⟨rfl, ⟨n2, hnd⟩⟩
      have HI := (show Below w5.heap.size w5 W1 by rw [hnd]; exact pw_below_drewN HI n2)
      clear HRW hnd
      refine hK _ _ HI ?_
      clear hK K
      refine AnyI.take (i := 9) (v := .bool true) rfl rfl (by kernel_rfl) (by kernel_rfl) (by kernel_rfl) (fun _ _ _ h => h) ⟨Or.inl ⟨by rfl, ?_⟩, fun _ => rfl⟩ HI ?_
      ·
       intro wI hI; obtain ⟨x0, x1⟩ := HF.out _ hI; go_simp; try with_reducible rfl
      go_simp
      refine AnyI.take (i := 10) (v := .bool true) rfl rfl (by kernel_rfl) (by kernel_rfl) (by kernel_rfl) (fun _ _ _ h => h) ⟨Or.inl ⟨by rfl, ?_⟩, fun _ => rfl⟩ HI ?_
      ·
       intro wI hI; obtain ⟨x0, x1⟩ := HF.out _ hI; go_simp; try with_reducible rfl
      go_simp
      refine AnyI.take (i := 11) (v := ?_) rfl rfl (by kernel_rfl) (by kernel_rfl) (by kernel_rfl) (fun _ _ _ h => h) ⟨Or.inl ⟨by rfl, ?_⟩, fun _ => rfl⟩ HI ?_
      rotate_left
      ·
       intro wI hI; obtain ⟨x0, x1⟩ := HF.out _ hI; go_simp; try with_reducible rfl
      go_simp
      refine AnyI.take (i := 12) (v := ?_) rfl rfl (by kernel_rfl) (by kernel_rfl) (by kernel_rfl) (fun _ _ _ h => h) ⟨Or.inl ⟨by rfl, ?_⟩, fun _ => rfl⟩ HI ?_
      rotate_left
      ·
       intro wI hI; obtain ⟨x0, x1⟩ := HF.out _ hI; go_simp; try with_reducible rfl
      go_simp
      refine AnyI.take (i := 13) (v := ?_) rfl rfl (by kernel_rfl) (by kernel_rfl) (by kernel_rfl) (fun _ _ _ h => h) ⟨Or.inl ⟨by rfl, ?_⟩, fun _ => rfl⟩ HI ?_
      rotate_left
      ·
       intro wI hI; obtain ⟨x0, x1⟩ := HF.out _ hI; go_simp; try with_reducible rfl
      go_simp
      refine AnyI.take (i := 15) (v := ?_) rfl rfl (by kernel_rfl) (by kernel_rfl) (by kernel_rfl) (fun _ _ _ h => h) ⟨Or.inl ⟨by rfl, ?_⟩, fun _ => rfl⟩ HI ?_
      rotate_left
      ·
       intro wI hI; obtain ⟨x0, x1⟩ := HF.out _ hI; go_simp; try with_reducible rfl
      go_simp
      refine AnyI.take (i := 16) (v := ?_) rfl rfl (by kernel_rfl) (by kernel_rfl) (by kernel_rfl) (fun _ _ _ h => h) ⟨Or.inl ⟨by rfl, ?_⟩, fun _ => rfl⟩ HI ?_
      rotate_left
      ·
       intro wI hI; obtain ⟨x0, x1⟩ := HF.out _ hI; go_simp; try with_reducible rfl
      go_simp
      refine AnyI.take (i := 18) (v := ?_) rfl rfl (by kernel_rfl) (by kernel_rfl) (by kernel_rfl) (fun _ _ _ h => h) ⟨Or.inl ⟨by rfl, ?_⟩, fun _ => rfl⟩ HI ?_
      rotate_left
      ·
       intro wI hI; obtain ⟨x0, x1⟩ := HF.out _ hI; go_simp; try with_reducible rfl
      go_simp
      refine AnyI.take (i := 19) (v := ?_) rfl rfl (by kernel_rfl) (by kernel_rfl) (by kernel_rfl) (fun _ _ _ h => h) ⟨Or.inl ⟨by rfl, ?_⟩, fun _ => rfl⟩ HI ?_
      rotate_left
      ·
       intro wI hI; obtain ⟨x0, x1⟩ := HF.out _ hI; go_simp; try with_reducible rfl
      go_simp
      refine AnyI.take (i := 20) (v := ?_) rfl rfl (by kernel_rfl) (by kernel_rfl) (by kernel_rfl) (fun _ _ _ h => h) ⟨Or.inl ⟨by rfl, ?_⟩, fun _ => rfl⟩ HI ?_
      rotate_left
      ·
       intro wI hI; obtain ⟨x0, x1⟩ := HF.out _ hI; go_simp; try with_reducible rfl
      go_simp
      refine AnyI.take (i := 22) (v := ?_) rfl rfl (by kernel_rfl) (by kernel_rfl) (by kernel_rfl) (fun _ _ _ h => h) ⟨Or.inl ⟨by rfl, ?_⟩, fun _ => rfl⟩ HI ?_
      rotate_left
      ·
       intro wI hI; obtain ⟨x0, x1⟩ := HF.out _ hI; go_simp; try with_reducible rfl
      go_simp
      refine AnyI.take (i := 23) (v := ?_) rfl rfl (by kernel_rfl) (by kernel_rfl) (by kernel_rfl) (fun _ _ _ h => h) ⟨Or.inl ⟨by rfl, ?_⟩, fun _ => rfl⟩ HI ?_
      rotate_left
      ·
       intro wI hI; obtain ⟨x0, x1⟩ := HF.out _ hI; go_simp; try with_reducible rfl
      go_simp
      refine AnyI.one (i := 14) (by kernel_rfl) rfl (fun K hK => ?_)
      go_simp
      have HRW := HB5.out.trans (HI.mono HB5.out.size)
      refine ⟨trivial, ?_⟩
      gi_at_call 80
      refine (callsIn_wide.2 (curve_at.calls A0 c0 l0 x _ _ _ _ _ (Kd.C_below HR0.out HRW) hc0 HAT0.out)).mono ?_
      rintro e W2 ⟨rfl, hb6⟩
      have HI := HI.trans (hb6.mono HI.size)
      clear hb6 HRW
      refine hK _ _ HI ?_
      clear hK K
      refine AnyI.one (i := 17) (by kernel_rfl) rfl (fun K hK => ?_)
      go_simp
      refine ⟨trivial, ?_⟩
      gi_at_call 67
      refine (callsIn_wide.2 (curve_line_exact.calls k0 _ _ _ _ x _ _ _ HE0.out)).mono ?_
      rintro e W3 ⟨rfl, hb6⟩
      have HI := HI.trans (hb6.mono HI.size)
      clear hb6
      refine hK _ _ HI ?_
      clear hK K
      refine AnyI.one (i := 21) (by kernel_rfl) rfl (fun K hK => ?_)
      go_simp
      have HRW := HB5.out.trans (HI.mono HB5.out.size)
      refine ⟨trivial, ?_⟩
      gi_at_call 80
      refine (callsIn_wide.2 (curve_at.calls A1 c1 l1 x _ _ _ _ _ (Kd.C_below HR1.out HRW) hc1 HAT1.out)).mono ?_
      rintro e W4 ⟨rfl, hb6⟩
      have HI := HI.trans (hb6.mono HI.size)
      clear hb6 HRW
      refine hK _ _ HI ?_
      clear hK K
      refine AnyI.one (i := 24) (by kernel_rfl) rfl (fun K hK => ?_)
      go_simp
      refine ⟨trivial, ?_⟩
      gi_at_call 67
      refine (callsIn_wide.2 (curve_line_exact.calls k1 _ _ _ _ x _ _ _ HE1.out)).mono ?_
      rintro e W5 ⟨rfl, hb6⟩
      have HI := HI.trans (hb6.mono HI.size)
      clear hb6
      refine hK _ _ HI ?_
      clear hK K
      refine AnyI.one (i := 25) (by kernel_rfl) rfl (fun K hK => ?_)
      go_simp
      refine ⟨trivial, ?_⟩
      gi_at_call 64
      refine (callsIn_wide.2 (curve_compare.calls _ _ _ _ v _ HCV.out)).mono ?_
      rintro e W7 ⟨rfl, hb6⟩
      have HI := HI.trans (hb6.mono HI.size)
      clear hb6
      refine hK _ _ HI ?_
      clear hK K
      refine AnyI.take (i := 26) (v := .bool false) rfl rfl (by kernel_rfl) (by kernel_rfl) (by kernel_rfl) (fun _ _ _ h => h) ⟨Or.inl ⟨by rfl, ?_⟩, fun _ => rfl⟩ HI ?_
      ·
       intro wI hI; obtain ⟨x0, x1⟩ := HF.out _ hI; go_simp; try with_reducible rfl
      go_simp
      refine AnyI.take (i := 27) (v := .bool false) rfl rfl (by kernel_rfl) (by kernel_rfl) (by kernel_rfl) (fun _ _ _ h => h) ⟨Or.inl ⟨by rfl, ?_⟩, fun _ => rfl⟩ HI ?_
      ·
       intro wI hI; obtain ⟨x0, x1⟩ := HF.out _ hI; go_simp; try with_reducible rfl
      go_simp
      refine AnyI.done (by kernel_rfl) ?_ _
      simp only [OnlyN, Exit.then]
      have HBN := Aside0.mk (HB5b.out.trans (HI.mono HB5b.out.size))
      clear HI HF
      go_wp2_with fail
      go_roundw
      case rel => exact ⟨i + 1, by omega, by omega, by go_num, ⟨by rw [all_take h0 hlt, HA.out, HX.out]; rfl⟩, HBN⟩
      case measure => simp [intOf]; omega
  ·
   have HE := Aside0.mk (show belowB l0 l1 = true by unfold belowB; rw [HT.out, ← HA.out, List.take_of_length_le (by omega)])
   go_wp2_with fail
   go_ret2
   exact ⟨by rw [HE.out]; rfl, HB2.out.trans (HB.out.mono HB2.out.size)⟩
theorem curve_Below.calls (A0 : Option Addr) (c0 : Nat) (l0 : List S57) (A1 : Option Addr) (c1 : Nat) (l1 : List S57) (r1 : Bool) (r2 : Int) (w : World) (hr0 : Kd.C k57 w A0 l0.length l0) (hc0 : l0.length ≤ c0) (hr1 : Kd.C k57 w A1 l1.length l1) (hc1 : l1.length ≤ c1) (h : curve_Below.f l0 l1 = some (r1, r2)) :
  Calls Tryd.prog 38 #[.slice A0 l0.length c0, .slice A1 l1.length c1] w fun e w' => e = .returned (.tuple #[.bool r1, .int .i64 r2]) ∧ Below w.heap.size w w' := by
 unfold curve_Below.f at h
 by_cases hg : goodB l0 = true ∧ goodB l1 = true
 ·
  rw [if_pos hg] at h
  simp only [Option.some.injEq, Prod.mk.injEq] at h
  obtain ⟨rfl, rfl⟩ := h
  exact below_good A0 c0 l0 A1 c1 l1 w hr0 hc0 hr1 hc1 hg.1 hg.2
 ·
  rw [if_neg hg] at h
  simp only [Option.some.injEq, Prod.mk.injEq] at h
  obtain ⟨rfl, rfl⟩ := h
  have HR0 := Aside0.mk hr0
  have HR1 := Aside0.mk hr1
  obtain ⟨k, hk⟩ := checked_eq l0 l1
  rw [if_neg hg] at hk
  have HK := Aside0.mk hk
  clear hr0 hr1 hk hg
  go_enter Tryd.func38, Tryd.ntmps38
  go_wp2_with fail
  refine (curve_checked.calls k A0 c0 l0 A1 c1 l1 10 _ HR0.out hc0 HR1.out hc1 HK.out).mono ?_
  rintro e w1 ⟨rfl, hb⟩
  have HB1 := Aside0.mk hb
  clear hb
  go_wp2_with fail
  go_ret2
  exact ⟨rfl, HB1.out⟩
end Go.Proofs.YtlhhpogaaneamaaDoor.X
namespace Go.Proofs.YtlhhpogaaneamaaDoor.X
open Go.RowKit Go.Shelf Go.Proofs.YtlhhpogaaneamaaDoorW.PrintWords Go.Proofs.YtlhhpogaaneamaaDoorW.PrintLast Go.Proofs.YtlhhpogaaneamaaDoorW.PrintMore
set_option linter.unusedVariables false
def sc_c : List S57 := [⟨0, 0⟩, ⟨3, 2⟩, ⟨5, 10⟩]
def sc_n0 : List S57 := [⟨0, 0⟩, ⟨1, 2⟩, ⟨2, 4⟩, ⟨3, 5⟩]
def sc_n : List S57 := [⟨0, 0⟩, ⟨2, 4⟩, ⟨3, 5⟩]
def sc_j0 : List S57 := [⟨7, 1⟩, ⟨9, 2⟩]
def sc_j : List S57 := [⟨0, 0⟩, ⟨3, 2⟩, ⟨5, 10⟩, ⟨7, 11⟩]
def sc_t : List S57 := [⟨0, 0⟩, ⟨2, 3⟩, ⟨10, 5⟩]
def sc_b0 : List S57 := [⟨0, 0⟩, ⟨5, 10⟩]
def sc_d : List S57 := [⟨3, 2⟩, ⟨4, 6⟩]
def sc_k0 : List S57 := [⟨0, 0⟩, ⟨1, 0⟩]
def sc_n9 : List S57 := [⟨0, 0⟩, ⟨2, 4⟩, ⟨3, 5⟩]
def sc_j9 : List S57 := [⟨0, 0⟩, ⟨3, 2⟩, ⟨5, 10⟩, ⟨7, 11⟩]
def sc_t9 : List S57 := [⟨0, 0⟩, ⟨2, 3⟩, ⟨10, 5⟩]
def sc_d9 : List S57 := [⟨3, 2⟩, ⟨4, 6⟩]
theorem lit_R (w : World) (zs : List Int) (hz : zs.length ≤ 1000) : Kd.R (Kd.int .i64) 3 (w.alloc (.cells (zs.map (Value.int .i64)).toArray 3)) w.heap.size (fun _ => True) (.slice (some ⟨w.heap.size, 0, none⟩) zs.length zs.length) zs :=
 Kd.R_of_own ⟨by simp [encs], .inr ⟨w.heap.size, zs.length, (zs.map (Value.int .i64)).toArray, rfl, Nat.le_refl _, heap_alloc_new w _, Nat.le_refl _, by unfold maxLen; omega, by simp, by simp [encs, List.take_of_length_le]⟩⟩ (fun _ _ => trivial)
set_option maxRecDepth 100000 in
set_option maxHeartbeats 4000000 in
theorem law_sane.calls (r : Bool) (w : World) (h : law_sane.f = some r) : Calls Tryd.prog 18 #[] w fun e w' => e = .returned (.bool r) ∧ Below w.heap.size w w' := by
 obtain rfl : true = r := Option.some.inj h
 clear h
 have hu25 := Tryd.underlying25
 have hu43 := Tryd.underlying43
 have HB0 := Aside0.mk (Below.refl w.heap.size w)
 go_enter Tryd.func18, Tryd.ntmps18
 go_wp2_with fail
 obtain ⟨u1, hu1⟩ : ∃ u, w.alloc (.cells #[.int .i64 0, .int .i64 0, .int .i64 3, .int .i64 2, .int .i64 5, .int .i64 10] 3) = u := ⟨_, rfl⟩
 have hb_u1 : Below w.heap.size w u1 := by rw [← hu1]; exact (Below.refl _ w).alloc (Nat.le_refl _) _
 have hl_u1 := Aside0.mk (show Kd.C (Kd.int .i64) u1 (some ⟨w.heap.size, 0, none⟩) 6 [0, 0, 3, 2, 5, 10] by rw [← hu1]; exact (Kd.R_reads' (lit_R w [0, 0, 3, 2, 5, 10] (by simp))).2.2)
 rw [hu1]
 clear hu1
 have HB2 := Aside0.mk (HB0.out.trans (hb_u1.mono HB0.out.size))
 clear HB0
 clear hb_u1
 refine (law_of.calls 20 (some ⟨w.heap.size, 0, none⟩) 6 [0, 0, 3, 2, 5, 10] sc_c _ hl_u1.out (by simp) (by kernel_rfl)).mono ?_
 rintro e w3 ⟨v, rfl, ho, hb⟩
 obtain ⟨A_c, c_c, rfl, hcp, hC⟩ := Kd.R_reads ho
 have R_c := Aside0.mk ho
 have HB4 := Aside0.mk (HB2.out.trans (hb.mono HB2.out.size))
 clear HB2
 clear hb ho hcp hC hl_u1
 go_wp2_with fail
 refine (curve_Exact.calls 60 A_c c_c sc_c 2 4 3 0 _ (Kd.R_reads' R_c.out).2.2 (Kd.R_reads' R_c.out).2.1 (by kernel_rfl)).mono ?_
 rintro e w5 ⟨rfl, hb⟩
 have P6 := Aside0.mk hb
 have HB7 := Aside0.mk (HB4.out.trans (hb.mono HB4.out.size))
 clear HB4
 clear hb
 go_wp2_with fail
 obtain ⟨u8, hu8⟩ : ∃ u, w5.alloc (.cells #[.int .i64 4, .int .i64 3] 25) = u := ⟨_, rfl⟩
 have hb_u8 : Below w5.heap.size w5 u8 := by rw [← hu8]; exact (Below.refl _ w5).alloc (Nat.le_refl _) _
 have K_a := Aside0.mk (show Blk u8 w5.heap.size 25 #[.int .i64 4, .int .i64 3] by rw [← hu8]; exact Blk.new w5 25 _)
 rw [hu8]
 clear hu8
 have P9 := Aside0.mk (P6.out.trans (hb_u8.mono P6.out.size))
 clear P6
 have HB10 := Aside0.mk (HB7.out.trans (hb_u8.mono HB7.out.size))
 clear HB7
 clear hb_u8
 refine (curve_Rate.calls A_c c_c sc_c 3 4 1 0 _ (Kd.R_reads' (Kd.R_below R_c.out P9.out)).2.2 (Kd.R_reads' R_c.out).2.1 (by kernel_rfl)).mono ?_
 rintro e w11 ⟨rfl, hb⟩
 have P12 := Aside0.mk (P9.out.trans (hb.mono P9.out.size))
 clear P9
 have P13 := Aside0.mk hb
 have HB14 := Aside0.mk (HB10.out.trans (hb.mono HB10.out.size))
 clear HB10
 clear hb
 go_wp2_with fail
 obtain ⟨u15, hu15⟩ : ∃ u, w11.alloc (.cells #[.int .i64 4, .int .i64 1] 25) = u := ⟨_, rfl⟩
 have hb_u15 : Below w11.heap.size w11 u15 := by rw [← hu15]; exact (Below.refl _ w11).alloc (Nat.le_refl _) _
 have K_b := Aside0.mk (show Blk u15 w11.heap.size 25 #[.int .i64 4, .int .i64 1] by rw [← hu15]; exact Blk.new w11 25 _)
 rw [hu15]
 clear hu15
 have P16 := Aside0.mk (P12.out.trans (hb_u15.mono P12.out.size))
 clear P12
 have P17 := Aside0.mk (P13.out.trans (hb_u15.mono P13.out.size))
 clear P13
 have HB18 := Aside0.mk (HB14.out.trans (hb_u15.mono HB14.out.size))
 clear HB14
 clear hb_u15
 refine (curve_First.calls A_c c_c sc_c 3 4 true 0 _ (Kd.R_reads' (Kd.R_below R_c.out P16.out)).2.2 (Kd.R_reads' R_c.out).2.1 (by kernel_rfl)).mono ?_
 rintro e w19 ⟨rfl, hb⟩
 have P20 := Aside0.mk (P16.out.trans (hb.mono P16.out.size))
 clear P16
 have P21 := Aside0.mk (P17.out.trans (hb.mono P17.out.size))
 clear P17
 have P22 := Aside0.mk hb
 have HB23 := Aside0.mk (HB18.out.trans (hb.mono HB18.out.size))
 clear HB18
 clear hb
 go_wp2_with fail
 refine (curve_Last.calls A_c c_c sc_c 3 3 true 0 _ (Kd.R_reads' (Kd.R_below R_c.out P20.out)).2.2 (Kd.R_reads' R_c.out).2.1 (by kernel_rfl)).mono ?_
 rintro e w24 ⟨rfl, hb⟩
 have P25 := Aside0.mk (P20.out.trans (hb.mono P20.out.size))
 clear P20
 have P26 := Aside0.mk (P21.out.trans (hb.mono P21.out.size))
 clear P21
 have P27 := Aside0.mk (P22.out.trans (hb.mono P22.out.size))
 clear P22
 have HB28 := Aside0.mk (HB23.out.trans (hb.mono HB23.out.size))
 clear HB23
 clear hb
 go_wp2_with fail
 obtain ⟨u29, hu29⟩ : ∃ u, w24.alloc (.cells #[.int .i64 0, .int .i64 0, .int .i64 1, .int .i64 2, .int .i64 2, .int .i64 4, .int .i64 3, .int .i64 5] 3) = u := ⟨_, rfl⟩
 have hb_u29 : Below w24.heap.size w24 u29 := by rw [← hu29]; exact (Below.refl _ w24).alloc (Nat.le_refl _) _
 have hl_u29 := Aside0.mk (show Kd.C (Kd.int .i64) u29 (some ⟨w24.heap.size, 0, none⟩) 8 [0, 0, 1, 2, 2, 4, 3, 5] by rw [← hu29]; exact (Kd.R_reads' (lit_R w24 [0, 0, 1, 2, 2, 4, 3, 5] (by simp))).2.2)
 rw [hu29]
 clear hu29
 have P30 := Aside0.mk (P25.out.trans (hb_u29.mono P25.out.size))
 clear P25
 have P31 := Aside0.mk (P26.out.trans (hb_u29.mono P26.out.size))
 clear P26
 have P32 := Aside0.mk (P27.out.trans (hb_u29.mono P27.out.size))
 clear P27
 have HB33 := Aside0.mk (HB28.out.trans (hb_u29.mono HB28.out.size))
 clear HB28
 clear hb_u29
 refine (law_of.calls 20 (some ⟨w24.heap.size, 0, none⟩) 8 [0, 0, 1, 2, 2, 4, 3, 5] sc_n0 _ hl_u29.out (by simp) (by kernel_rfl)).mono ?_
 rintro e w34 ⟨v, rfl, ho, hb⟩
 obtain ⟨A_n0, c_n0, rfl, hcp, hC⟩ := Kd.R_reads ho
 have R_n0 := Aside0.mk ho
 have P35 := Aside0.mk (P30.out.trans (hb.mono P30.out.size))
 clear P30
 have P36 := Aside0.mk (P31.out.trans (hb.mono P31.out.size))
 clear P31
 have P37 := Aside0.mk (P32.out.trans (hb.mono P32.out.size))
 clear P32
 have HB38 := Aside0.mk (HB33.out.trans (hb.mono HB33.out.size))
 clear HB33
 clear hb ho hcp hC hl_u29
 go_wp2_with fail
 refine (curve_Normal.calls A_n0 c_n0 sc_n0 sc_n 0 _ (Kd.R_reads' R_n0.out).2.2 (Kd.R_reads' R_n0.out).2.1 (by kernel_rfl)).mono ?_
 rintro e w39 ⟨v, rfl, ho, hb⟩
 obtain ⟨A_n, c_n, rfl, hcp, hC⟩ := Kd.R_reads ho
 have R_n := Aside0.mk ho
 have P40 := Aside0.mk (P35.out.trans (hb.mono P35.out.size))
 clear P35
 have P41 := Aside0.mk (P36.out.trans (hb.mono P36.out.size))
 clear P36
 have P42 := Aside0.mk (P37.out.trans (hb.mono P37.out.size))
 clear P37
 have P43 := Aside0.mk hb
 have HB44 := Aside0.mk (HB38.out.trans (hb.mono HB38.out.size))
 clear HB38
 clear hb ho hcp hC
 go_wp2_with fail
 obtain ⟨u45, hu45⟩ : ∃ u, w39.alloc (.cells #[.int .i64 7, .int .i64 1, .int .i64 9, .int .i64 2] 3) = u := ⟨_, rfl⟩
 have hb_u45 : Below w39.heap.size w39 u45 := by rw [← hu45]; exact (Below.refl _ w39).alloc (Nat.le_refl _) _
 have hl_u45 := Aside0.mk (show Kd.C (Kd.int .i64) u45 (some ⟨w39.heap.size, 0, none⟩) 4 [7, 1, 9, 2] by rw [← hu45]; exact (Kd.R_reads' (lit_R w39 [7, 1, 9, 2] (by simp))).2.2)
 rw [hu45]
 clear hu45
 have P46 := Aside0.mk (P40.out.trans (hb_u45.mono P40.out.size))
 clear P40
 have P47 := Aside0.mk (P41.out.trans (hb_u45.mono P41.out.size))
 clear P41
 have P48 := Aside0.mk (P42.out.trans (hb_u45.mono P42.out.size))
 clear P42
 have P49 := Aside0.mk hb_u45
 have HB50 := Aside0.mk (HB44.out.trans (hb_u45.mono HB44.out.size))
 clear HB44
 clear hb_u45
 refine (law_of.calls 20 (some ⟨w39.heap.size, 0, none⟩) 4 [7, 1, 9, 2] sc_j0 _ hl_u45.out (by simp) (by kernel_rfl)).mono ?_
 rintro e w51 ⟨v, rfl, ho, hb⟩
 obtain ⟨A_j0, c_j0, rfl, hcp, hC⟩ := Kd.R_reads ho
 have R_j0 := Aside0.mk ho
 have P52 := Aside0.mk (P46.out.trans (hb.mono P46.out.size))
 clear P46
 have P53 := Aside0.mk (P47.out.trans (hb.mono P47.out.size))
 clear P47
 have P54 := Aside0.mk (P48.out.trans (hb.mono P48.out.size))
 clear P48
 have P55 := Aside0.mk (P49.out.trans (hb.mono P49.out.size))
 clear P49
 have HB56 := Aside0.mk (HB50.out.trans (hb.mono HB50.out.size))
 clear HB50
 clear hb ho hcp hC hl_u45
 go_wp2_with fail
 refine (curve_Join.calls A_c c_c sc_c A_j0 c_j0 sc_j0 sc_j 0 _ (Kd.R_reads' (Kd.R_below R_c.out P52.out)).2.2 (Kd.R_reads' R_c.out).2.1 (Kd.R_reads' R_j0.out).2.2 (Kd.R_reads' R_j0.out).2.1 (by kernel_rfl)).mono ?_
 rintro e w57 ⟨v, rfl, ho, hb⟩
 obtain ⟨A_j, c_j, rfl, hcp, hC⟩ := Kd.R_reads ho
 have R_j := Aside0.mk ho
 have P58 := Aside0.mk (P52.out.trans (hb.mono P52.out.size))
 clear P52
 have P59 := Aside0.mk (P53.out.trans (hb.mono P53.out.size))
 clear P53
 have P60 := Aside0.mk (P54.out.trans (hb.mono P54.out.size))
 clear P54
 have P61 := Aside0.mk (P55.out.trans (hb.mono P55.out.size))
 clear P55
 have P62 := Aside0.mk hb
 have HB63 := Aside0.mk (HB56.out.trans (hb.mono HB56.out.size))
 clear HB56
 clear hb ho hcp hC
 go_wp2_with fail
 refine (curve_Turned.calls A_c c_c sc_c sc_t 0 _ (Kd.R_reads' (Kd.R_below R_c.out P58.out)).2.2 (Kd.R_reads' R_c.out).2.1 (by kernel_rfl)).mono ?_
 rintro e w64 ⟨v, rfl, ho, hb⟩
 obtain ⟨A_t, c_t, rfl, hcp, hC⟩ := Kd.R_reads ho
 have R_t := Aside0.mk ho
 have P65 := Aside0.mk (P58.out.trans (hb.mono P58.out.size))
 clear P58
 have P66 := Aside0.mk (P59.out.trans (hb.mono P59.out.size))
 clear P59
 have P67 := Aside0.mk (P60.out.trans (hb.mono P60.out.size))
 clear P60
 have P68 := Aside0.mk (P61.out.trans (hb.mono P61.out.size))
 clear P61
 have P69 := Aside0.mk hb
 have HB70 := Aside0.mk (HB63.out.trans (hb.mono HB63.out.size))
 clear HB63
 clear hb ho hcp hC
 go_wp2_with fail
 refine (curve_Bent.calls A_t c_t sc_t (-1) 0 _ (Kd.R_reads' R_t.out).2.2 (Kd.R_reads' R_t.out).2.1 (by kernel_rfl)).mono ?_
 rintro e w71 ⟨rfl, hb⟩
 have P72 := Aside0.mk (P65.out.trans (hb.mono P65.out.size))
 clear P65
 have P73 := Aside0.mk (P66.out.trans (hb.mono P66.out.size))
 clear P66
 have P74 := Aside0.mk (P67.out.trans (hb.mono P67.out.size))
 clear P67
 have P75 := Aside0.mk (P68.out.trans (hb.mono P68.out.size))
 clear P68
 have P76 := Aside0.mk (P69.out.trans (hb.mono P69.out.size))
 clear P69
 have P77 := Aside0.mk hb
 have HB78 := Aside0.mk (HB70.out.trans (hb.mono HB70.out.size))
 clear HB70
 clear hb
 go_wp2_with fail
 obtain ⟨u79, hu79⟩ : ∃ u, w71.alloc (.cells #[.int .i64 0, .int .i64 0, .int .i64 5, .int .i64 10] 3) = u := ⟨_, rfl⟩
 have hb_u79 : Below w71.heap.size w71 u79 := by rw [← hu79]; exact (Below.refl _ w71).alloc (Nat.le_refl _) _
 have hl_u79 := Aside0.mk (show Kd.C (Kd.int .i64) u79 (some ⟨w71.heap.size, 0, none⟩) 4 [0, 0, 5, 10] by rw [← hu79]; exact (Kd.R_reads' (lit_R w71 [0, 0, 5, 10] (by simp))).2.2)
 rw [hu79]
 clear hu79
 have P80 := Aside0.mk (P72.out.trans (hb_u79.mono P72.out.size))
 clear P72
 have P81 := Aside0.mk (P73.out.trans (hb_u79.mono P73.out.size))
 clear P73
 have P82 := Aside0.mk (P74.out.trans (hb_u79.mono P74.out.size))
 clear P74
 have P83 := Aside0.mk (P75.out.trans (hb_u79.mono P75.out.size))
 clear P75
 have P84 := Aside0.mk (P76.out.trans (hb_u79.mono P76.out.size))
 clear P76
 have P85 := Aside0.mk (P77.out.trans (hb_u79.mono P77.out.size))
 clear P77
 have HB86 := Aside0.mk (HB78.out.trans (hb_u79.mono HB78.out.size))
 clear HB78
 clear hb_u79
 refine (law_of.calls 20 (some ⟨w71.heap.size, 0, none⟩) 4 [0, 0, 5, 10] sc_b0 _ hl_u79.out (by simp) (by kernel_rfl)).mono ?_
 rintro e w87 ⟨v, rfl, ho, hb⟩
 obtain ⟨A_b0, c_b0, rfl, hcp, hC⟩ := Kd.R_reads ho
 have R_b0 := Aside0.mk ho
 have P88 := Aside0.mk (P80.out.trans (hb.mono P80.out.size))
 clear P80
 have P89 := Aside0.mk (P81.out.trans (hb.mono P81.out.size))
 clear P81
 have P90 := Aside0.mk (P82.out.trans (hb.mono P82.out.size))
 clear P82
 have P91 := Aside0.mk (P83.out.trans (hb.mono P83.out.size))
 clear P83
 have P92 := Aside0.mk (P84.out.trans (hb.mono P84.out.size))
 clear P84
 have P93 := Aside0.mk (P85.out.trans (hb.mono P85.out.size))
 clear P85
 have HB94 := Aside0.mk (HB86.out.trans (hb.mono HB86.out.size))
 clear HB86
 clear hb ho hcp hC hl_u79
 go_wp2_with fail
 refine (curve_Below.calls A_c c_c sc_c A_b0 c_b0 sc_b0 true 0 _ (Kd.R_reads' (Kd.R_below R_c.out P88.out)).2.2 (Kd.R_reads' R_c.out).2.1 (Kd.R_reads' R_b0.out).2.2 (Kd.R_reads' R_b0.out).2.1 (by kernel_rfl)).mono ?_
 rintro e w95 ⟨rfl, hb⟩
 have P96 := Aside0.mk (P88.out.trans (hb.mono P88.out.size))
 clear P88
 have P97 := Aside0.mk (P89.out.trans (hb.mono P89.out.size))
 clear P89
 have P98 := Aside0.mk (P90.out.trans (hb.mono P90.out.size))
 clear P90
 have P99 := Aside0.mk (P91.out.trans (hb.mono P91.out.size))
 clear P91
 have P100 := Aside0.mk (P92.out.trans (hb.mono P92.out.size))
 clear P92
 have P101 := Aside0.mk (P93.out.trans (hb.mono P93.out.size))
 clear P93
 have P102 := Aside0.mk hb
 have HB103 := Aside0.mk (HB94.out.trans (hb.mono HB94.out.size))
 clear HB94
 clear hb
 go_wp2_with fail
 refine (curve_Through.calls A_c c_c sc_c A_c c_c sc_c 3 1 2 0 _ (Kd.R_reads' (Kd.R_below R_c.out P96.out)).2.2 (Kd.R_reads' R_c.out).2.1 (Kd.R_reads' (Kd.R_below R_c.out P96.out)).2.2 (Kd.R_reads' R_c.out).2.1 (by kernel_rfl)).mono ?_
 rintro e w104 ⟨rfl, hb⟩
 have P105 := Aside0.mk (P96.out.trans (hb.mono P96.out.size))
 clear P96
 have P106 := Aside0.mk (P97.out.trans (hb.mono P97.out.size))
 clear P97
 have P107 := Aside0.mk (P98.out.trans (hb.mono P98.out.size))
 clear P98
 have P108 := Aside0.mk (P99.out.trans (hb.mono P99.out.size))
 clear P99
 have P109 := Aside0.mk (P100.out.trans (hb.mono P100.out.size))
 clear P100
 have P110 := Aside0.mk (P101.out.trans (hb.mono P101.out.size))
 clear P101
 have HB111 := Aside0.mk (HB103.out.trans (hb.mono HB103.out.size))
 clear HB103
 clear hb
 go_wp2_with fail
 obtain ⟨u112, hu112⟩ : ∃ u, w104.alloc (.cells #[.int .i64 1, .int .i64 2] 43) = u := ⟨_, rfl⟩
 have hb_u112 : Below w104.heap.size w104 u112 := by rw [← hu112]; exact (Below.refl _ w104).alloc (Nat.le_refl _) _
 have K_s := Aside0.mk (show Blk u112 w104.heap.size 43 #[.int .i64 1, .int .i64 2] by rw [← hu112]; exact Blk.new w104 43 _)
 rw [hu112]
 clear hu112
 have P113 := Aside0.mk (P105.out.trans (hb_u112.mono P105.out.size))
 clear P105
 have P114 := Aside0.mk (P106.out.trans (hb_u112.mono P106.out.size))
 clear P106
 have P115 := Aside0.mk (P107.out.trans (hb_u112.mono P107.out.size))
 clear P107
 have P116 := Aside0.mk (P108.out.trans (hb_u112.mono P108.out.size))
 clear P108
 have P117 := Aside0.mk (P109.out.trans (hb_u112.mono P109.out.size))
 clear P109
 have P118 := Aside0.mk (P110.out.trans (hb_u112.mono P110.out.size))
 clear P110
 have HB119 := Aside0.mk (HB111.out.trans (hb_u112.mono HB111.out.size))
 clear HB111
 clear hb_u112
 refine (curve_Print.calls A_c c_c sc_c sampleText 0 _ (Kd.R_reads' (Kd.R_below R_c.out P113.out)).2.2 (Kd.R_reads' R_c.out).2.1 (by kernel_rfl)).mono ?_
 rintro e w120 ⟨rfl, hb⟩
 have P121 := Aside0.mk (P113.out.trans (hb.mono P113.out.size))
 clear P113
 have P122 := Aside0.mk (P114.out.trans (hb.mono P114.out.size))
 clear P114
 have P123 := Aside0.mk (P115.out.trans (hb.mono P115.out.size))
 clear P115
 have P124 := Aside0.mk (P116.out.trans (hb.mono P116.out.size))
 clear P116
 have P125 := Aside0.mk (P117.out.trans (hb.mono P117.out.size))
 clear P117
 have P126 := Aside0.mk (P118.out.trans (hb.mono P118.out.size))
 clear P118
 have P127 := Aside0.mk hb
 have HB128 := Aside0.mk (HB119.out.trans (hb.mono HB119.out.size))
 clear HB119
 clear hb
 go_wp2_with fail
 refine (curve_Cut.calls A_c c_c sc_c 3 4 sc_d 0 _ (Kd.R_reads' (Kd.R_below R_c.out P121.out)).2.2 (Kd.R_reads' R_c.out).2.1 (by kernel_rfl)).mono ?_
 rintro e w129 ⟨v, rfl, ho, hb⟩
 obtain ⟨A_d, c_d, rfl, hcp, hC⟩ := Kd.R_reads ho
 have R_d := Aside0.mk ho
 have P130 := Aside0.mk (P121.out.trans (hb.mono P121.out.size))
 clear P121
 have P131 := Aside0.mk (P122.out.trans (hb.mono P122.out.size))
 clear P122
 have P132 := Aside0.mk (P123.out.trans (hb.mono P123.out.size))
 clear P123
 have P133 := Aside0.mk (P124.out.trans (hb.mono P124.out.size))
 clear P124
 have P134 := Aside0.mk (P125.out.trans (hb.mono P125.out.size))
 clear P125
 have P135 := Aside0.mk (P126.out.trans (hb.mono P126.out.size))
 clear P126
 have P136 := Aside0.mk (P127.out.trans (hb.mono P127.out.size))
 clear P127
 have HB137 := Aside0.mk (HB128.out.trans (hb.mono HB128.out.size))
 clear HB128
 clear hb ho hcp hC
 go_wp2_with fail
 refine (curve_Cut.calls A_c c_c sc_c 2 4 [] 11 _ (Kd.R_reads' (Kd.R_below R_c.out P130.out)).2.2 (Kd.R_reads' R_c.out).2.1 (by kernel_rfl)).mono ?_
 rintro e w138 ⟨v, rfl, ho, hb⟩
 have P139 := Aside0.mk (P130.out.trans (hb.mono P130.out.size))
 clear P130
 have P140 := Aside0.mk (P131.out.trans (hb.mono P131.out.size))
 clear P131
 have P141 := Aside0.mk (P132.out.trans (hb.mono P132.out.size))
 clear P132
 have P142 := Aside0.mk (P133.out.trans (hb.mono P133.out.size))
 clear P133
 have P143 := Aside0.mk (P134.out.trans (hb.mono P134.out.size))
 clear P134
 have P144 := Aside0.mk (P135.out.trans (hb.mono P135.out.size))
 clear P135
 have P145 := Aside0.mk (P136.out.trans (hb.mono P136.out.size))
 clear P136
 have P146 := Aside0.mk hb
 have HB147 := Aside0.mk (HB137.out.trans (hb.mono HB137.out.size))
 clear HB137
 clear hb ho
 go_wp2_with fail
 refine (curve_Low.calls A_c c_c sc_c 1 0 0 _ (Kd.R_reads' (Kd.R_below R_c.out P139.out)).2.2 (Kd.R_reads' R_c.out).2.1 (by kernel_rfl)).mono ?_
 rintro e w148 ⟨rfl, hb⟩
 have P149 := Aside0.mk (P139.out.trans (hb.mono P139.out.size))
 clear P139
 have P150 := Aside0.mk (P140.out.trans (hb.mono P140.out.size))
 clear P140
 have P151 := Aside0.mk (P141.out.trans (hb.mono P141.out.size))
 clear P141
 have P152 := Aside0.mk (P142.out.trans (hb.mono P142.out.size))
 clear P142
 have P153 := Aside0.mk (P143.out.trans (hb.mono P143.out.size))
 clear P143
 have P154 := Aside0.mk (P144.out.trans (hb.mono P144.out.size))
 clear P144
 have P155 := Aside0.mk (P145.out.trans (hb.mono P145.out.size))
 clear P145
 have P156 := Aside0.mk (P146.out.trans (hb.mono P146.out.size))
 clear P146
 have HB157 := Aside0.mk (HB147.out.trans (hb.mono HB147.out.size))
 clear HB147
 clear hb
 go_wp2_with fail
 refine (curve_High.calls A_c c_c sc_c 1 1 0 _ (Kd.R_reads' (Kd.R_below R_c.out P149.out)).2.2 (Kd.R_reads' R_c.out).2.1 (by kernel_rfl)).mono ?_
 rintro e w158 ⟨rfl, hb⟩
 have P159 := Aside0.mk (P149.out.trans (hb.mono P149.out.size))
 clear P149
 have P160 := Aside0.mk (P150.out.trans (hb.mono P150.out.size))
 clear P150
 have P161 := Aside0.mk (P151.out.trans (hb.mono P151.out.size))
 clear P151
 have P162 := Aside0.mk (P152.out.trans (hb.mono P152.out.size))
 clear P152
 have P163 := Aside0.mk (P153.out.trans (hb.mono P153.out.size))
 clear P153
 have P164 := Aside0.mk (P154.out.trans (hb.mono P154.out.size))
 clear P154
 have P165 := Aside0.mk (P155.out.trans (hb.mono P155.out.size))
 clear P155
 have P166 := Aside0.mk (P156.out.trans (hb.mono P156.out.size))
 clear P156
 have HB167 := Aside0.mk (HB157.out.trans (hb.mono HB157.out.size))
 clear HB157
 clear hb
 go_wp2_with fail
 refine (curve_Compare.calls 60 281474976710656 1 1 16777216 1 0 _ (by kernel_rfl)).mono ?_
 rintro e w168 ⟨rfl, hb⟩
 have P169 := Aside0.mk (P159.out.trans (hb.mono P159.out.size))
 clear P159
 have P170 := Aside0.mk (P160.out.trans (hb.mono P160.out.size))
 clear P160
 have P171 := Aside0.mk (P161.out.trans (hb.mono P161.out.size))
 clear P161
 have P172 := Aside0.mk (P162.out.trans (hb.mono P162.out.size))
 clear P162
 have P173 := Aside0.mk (P163.out.trans (hb.mono P163.out.size))
 clear P163
 have P174 := Aside0.mk (P164.out.trans (hb.mono P164.out.size))
 clear P164
 have P175 := Aside0.mk (P165.out.trans (hb.mono P165.out.size))
 clear P165
 have P176 := Aside0.mk (P166.out.trans (hb.mono P166.out.size))
 clear P166
 have HB177 := Aside0.mk (HB167.out.trans (hb.mono HB167.out.size))
 clear HB167
 clear hb
 have x178a := (K_a.out.below P170.out K_a.out.lt).cell 0
 have x178b := (K_a.out.below P170.out K_a.out.lt).cell 1
 rw [show (#[.int .i64 4, .int .i64 3] : Array Value)[0]? = some (.int .i64 4) from rfl] at x178a
 rw [show (#[.int .i64 4, .int .i64 3] : Array Value)[1]? = some (.int .i64 3) from rfl] at x178b
 have x179a := (K_b.out.below P171.out K_b.out.lt).cell 0
 have x179b := (K_b.out.below P171.out K_b.out.lt).cell 1
 rw [show (#[.int .i64 4, .int .i64 1] : Array Value)[0]? = some (.int .i64 4) from rfl] at x179a
 rw [show (#[.int .i64 4, .int .i64 1] : Array Value)[1]? = some (.int .i64 1) from rfl] at x179b
 have hst : sampleText.toList = [48, 44, 48, 32, 51, 44, 50, 32, 53, 44, 49, 48] := by kernel_rfl
 go_wp2_with fail
 obtain ⟨u180, hu180⟩ : ∃ u, w168.alloc (.cells #[.int .i64 0, .int .i64 0, .int .i64 2, .int .i64 4, .int .i64 3, .int .i64 5] 3) = u := ⟨_, rfl⟩
 have hb_u180 : Below w168.heap.size w168 u180 := by rw [← hu180]; exact (Below.refl _ w168).alloc (Nat.le_refl _) _
 have hl_u180 := Aside0.mk (show Kd.C (Kd.int .i64) u180 (some ⟨w168.heap.size, 0, none⟩) 6 [0, 0, 2, 4, 3, 5] by rw [← hu180]; exact (Kd.R_reads' (lit_R w168 [0, 0, 2, 4, 3, 5] (by simp))).2.2)
 rw [hu180]
 clear hu180
 have P181 := Aside0.mk (P172.out.trans (hb_u180.mono P172.out.size))
 clear P172
 have P182 := Aside0.mk (P173.out.trans (hb_u180.mono P173.out.size))
 clear P173
 have P183 := Aside0.mk (P174.out.trans (hb_u180.mono P174.out.size))
 clear P174
 have P184 := Aside0.mk (P175.out.trans (hb_u180.mono P175.out.size))
 clear P175
 have P185 := Aside0.mk (P176.out.trans (hb_u180.mono P176.out.size))
 clear P176
 have HB186 := Aside0.mk (HB177.out.trans (hb_u180.mono HB177.out.size))
 clear HB177
 clear hb_u180
 refine (law_of.calls 20 (some ⟨w168.heap.size, 0, none⟩) 6 [0, 0, 2, 4, 3, 5] sc_n9 _ hl_u180.out (by simp) (by kernel_rfl)).mono ?_
 rintro e w187 ⟨v, rfl, ho, hb⟩
 obtain ⟨A_n9, c_n9, rfl, hcp, hC⟩ := Kd.R_reads ho
 have R_n9 := Aside0.mk ho
 have P188 := Aside0.mk (P181.out.trans (hb.mono P181.out.size))
 clear P181
 have P189 := Aside0.mk (P182.out.trans (hb.mono P182.out.size))
 clear P182
 have P190 := Aside0.mk (P183.out.trans (hb.mono P183.out.size))
 clear P183
 have P191 := Aside0.mk (P184.out.trans (hb.mono P184.out.size))
 clear P184
 have P192 := Aside0.mk (P185.out.trans (hb.mono P185.out.size))
 clear P185
 have HB193 := Aside0.mk (HB186.out.trans (hb.mono HB186.out.size))
 clear HB186
 clear hb ho hcp hC hl_u180
 go_wp2_with fail
 refine (law_same.calls 20 A_n c_n sc_n 0 A_n9 c_n9 sc_n9 0 true _ (Kd.R_reads' (Kd.R_below R_n.out P188.out)).2.2 (Kd.R_reads' R_n.out).2.1 (Kd.R_reads' R_n9.out).2.2 (Kd.R_reads' R_n9.out).2.1 (by kernel_rfl)).mono ?_
 rintro e w' ⟨rfl, ⟨nd, rfl⟩⟩
 obtain ⟨w194, hw194⟩ : ∃ u, w187.drewN nd = u := ⟨_, rfl⟩
 have hb : Below w187.heap.size w187 w194 := by rw [← hw194]; exact pw_below_drewN (Below.refl _ _) nd
 rw [hw194]
 clear hw194
 have P195 := Aside0.mk (P188.out.trans (hb.mono P188.out.size))
 clear P188
 have P196 := Aside0.mk (P189.out.trans (hb.mono P189.out.size))
 clear P189
 have P197 := Aside0.mk (P190.out.trans (hb.mono P190.out.size))
 clear P190
 have P198 := Aside0.mk (P191.out.trans (hb.mono P191.out.size))
 clear P191
 have P199 := Aside0.mk (P192.out.trans (hb.mono P192.out.size))
 clear P192
 have P200 := Aside0.mk hb
 have HB201 := Aside0.mk (HB193.out.trans (hb.mono HB193.out.size))
 clear HB193
 clear hb
 go_wp2_with fail
 obtain ⟨u202, hu202⟩ : ∃ u, w194.alloc (.cells #[.int .i64 0, .int .i64 0, .int .i64 3, .int .i64 2, .int .i64 5, .int .i64 10, .int .i64 7, .int .i64 11] 3) = u := ⟨_, rfl⟩
 have hb_u202 : Below w194.heap.size w194 u202 := by rw [← hu202]; exact (Below.refl _ w194).alloc (Nat.le_refl _) _
 have hl_u202 := Aside0.mk (show Kd.C (Kd.int .i64) u202 (some ⟨w194.heap.size, 0, none⟩) 8 [0, 0, 3, 2, 5, 10, 7, 11] by rw [← hu202]; exact (Kd.R_reads' (lit_R w194 [0, 0, 3, 2, 5, 10, 7, 11] (by simp))).2.2)
 rw [hu202]
 clear hu202
 have P203 := Aside0.mk (P196.out.trans (hb_u202.mono P196.out.size))
 clear P196
 have P204 := Aside0.mk (P197.out.trans (hb_u202.mono P197.out.size))
 clear P197
 have P205 := Aside0.mk (P198.out.trans (hb_u202.mono P198.out.size))
 clear P198
 have P206 := Aside0.mk (P199.out.trans (hb_u202.mono P199.out.size))
 clear P199
 have HB207 := Aside0.mk (HB201.out.trans (hb_u202.mono HB201.out.size))
 clear HB201
 clear hb_u202
 refine (law_of.calls 20 (some ⟨w194.heap.size, 0, none⟩) 8 [0, 0, 3, 2, 5, 10, 7, 11] sc_j9 _ hl_u202.out (by simp) (by kernel_rfl)).mono ?_
 rintro e w208 ⟨v, rfl, ho, hb⟩
 obtain ⟨A_j9, c_j9, rfl, hcp, hC⟩ := Kd.R_reads ho
 have R_j9 := Aside0.mk ho
 have P209 := Aside0.mk (P203.out.trans (hb.mono P203.out.size))
 clear P203
 have P210 := Aside0.mk (P204.out.trans (hb.mono P204.out.size))
 clear P204
 have P211 := Aside0.mk (P205.out.trans (hb.mono P205.out.size))
 clear P205
 have P212 := Aside0.mk (P206.out.trans (hb.mono P206.out.size))
 clear P206
 have HB213 := Aside0.mk (HB207.out.trans (hb.mono HB207.out.size))
 clear HB207
 clear hb ho hcp hC hl_u202
 go_wp2_with fail
 refine (law_same.calls 20 A_j c_j sc_j 0 A_j9 c_j9 sc_j9 0 true _ (Kd.R_reads' (Kd.R_below R_j.out P209.out)).2.2 (Kd.R_reads' R_j.out).2.1 (Kd.R_reads' R_j9.out).2.2 (Kd.R_reads' R_j9.out).2.1 (by kernel_rfl)).mono ?_
 rintro e w' ⟨rfl, ⟨nd, rfl⟩⟩
 obtain ⟨w214, hw214⟩ : ∃ u, w208.drewN nd = u := ⟨_, rfl⟩
 have hb : Below w208.heap.size w208 w214 := by rw [← hw214]; exact pw_below_drewN (Below.refl _ _) nd
 rw [hw214]
 clear hw214
 have P215 := Aside0.mk (P209.out.trans (hb.mono P209.out.size))
 clear P209
 have P216 := Aside0.mk (P210.out.trans (hb.mono P210.out.size))
 clear P210
 have P217 := Aside0.mk (P211.out.trans (hb.mono P211.out.size))
 clear P211
 have P218 := Aside0.mk (P212.out.trans (hb.mono P212.out.size))
 clear P212
 have P219 := Aside0.mk hb
 have HB220 := Aside0.mk (HB213.out.trans (hb.mono HB213.out.size))
 clear HB213
 clear hb
 go_wp2_with fail
 obtain ⟨u221, hu221⟩ : ∃ u, w214.alloc (.cells #[.int .i64 0, .int .i64 0, .int .i64 2, .int .i64 3, .int .i64 10, .int .i64 5] 3) = u := ⟨_, rfl⟩
 have hb_u221 : Below w214.heap.size w214 u221 := by rw [← hu221]; exact (Below.refl _ w214).alloc (Nat.le_refl _) _
 have hl_u221 := Aside0.mk (show Kd.C (Kd.int .i64) u221 (some ⟨w214.heap.size, 0, none⟩) 6 [0, 0, 2, 3, 10, 5] by rw [← hu221]; exact (Kd.R_reads' (lit_R w214 [0, 0, 2, 3, 10, 5] (by simp))).2.2)
 rw [hu221]
 clear hu221
 have P222 := Aside0.mk (P216.out.trans (hb_u221.mono P216.out.size))
 clear P216
 have P223 := Aside0.mk (P217.out.trans (hb_u221.mono P217.out.size))
 clear P217
 have P224 := Aside0.mk (P218.out.trans (hb_u221.mono P218.out.size))
 clear P218
 have HB225 := Aside0.mk (HB220.out.trans (hb_u221.mono HB220.out.size))
 clear HB220
 clear hb_u221
 refine (law_of.calls 20 (some ⟨w214.heap.size, 0, none⟩) 6 [0, 0, 2, 3, 10, 5] sc_t9 _ hl_u221.out (by simp) (by kernel_rfl)).mono ?_
 rintro e w226 ⟨v, rfl, ho, hb⟩
 obtain ⟨A_t9, c_t9, rfl, hcp, hC⟩ := Kd.R_reads ho
 have R_t9 := Aside0.mk ho
 have P227 := Aside0.mk (P222.out.trans (hb.mono P222.out.size))
 clear P222
 have P228 := Aside0.mk (P223.out.trans (hb.mono P223.out.size))
 clear P223
 have P229 := Aside0.mk (P224.out.trans (hb.mono P224.out.size))
 clear P224
 have HB230 := Aside0.mk (HB225.out.trans (hb.mono HB225.out.size))
 clear HB225
 clear hb ho hcp hC hl_u221
 go_wp2_with fail
 refine (law_same.calls 20 A_t c_t sc_t 0 A_t9 c_t9 sc_t9 0 true _ (Kd.R_reads' (Kd.R_below R_t.out P227.out)).2.2 (Kd.R_reads' R_t.out).2.1 (Kd.R_reads' R_t9.out).2.2 (Kd.R_reads' R_t9.out).2.1 (by kernel_rfl)).mono ?_
 rintro e w' ⟨rfl, ⟨nd, rfl⟩⟩
 obtain ⟨w231, hw231⟩ : ∃ u, w226.drewN nd = u := ⟨_, rfl⟩
 have hb : Below w226.heap.size w226 w231 := by rw [← hw231]; exact pw_below_drewN (Below.refl _ _) nd
 rw [hw231]
 clear hw231
 have P232 := Aside0.mk (P227.out.trans (hb.mono P227.out.size))
 clear P227
 have P233 := Aside0.mk (P228.out.trans (hb.mono P228.out.size))
 clear P228
 have P234 := Aside0.mk (P229.out.trans (hb.mono P229.out.size))
 clear P229
 have P235 := Aside0.mk hb
 have HB236 := Aside0.mk (HB230.out.trans (hb.mono HB230.out.size))
 clear HB230
 clear hb
 have x237a := (K_s.out.below P233.out K_s.out.lt).cell 0
 have x237b := (K_s.out.below P233.out K_s.out.lt).cell 1
 rw [show (#[.int .i64 1, .int .i64 2] : Array Value)[0]? = some (.int .i64 1) from rfl] at x237a
 rw [show (#[.int .i64 1, .int .i64 2] : Array Value)[1]? = some (.int .i64 2) from rfl] at x237b
 go_wp2_with fail
 obtain ⟨u238, hu238⟩ : ∃ u, w231.alloc (.cells #[.int .i64 3, .int .i64 2, .int .i64 4, .int .i64 6] 3) = u := ⟨_, rfl⟩
 have hb_u238 : Below w231.heap.size w231 u238 := by rw [← hu238]; exact (Below.refl _ w231).alloc (Nat.le_refl _) _
 have hl_u238 := Aside0.mk (show Kd.C (Kd.int .i64) u238 (some ⟨w231.heap.size, 0, none⟩) 4 [3, 2, 4, 6] by rw [← hu238]; exact (Kd.R_reads' (lit_R w231 [3, 2, 4, 6] (by simp))).2.2)
 rw [hu238]
 clear hu238
 have P239 := Aside0.mk (P234.out.trans (hb_u238.mono P234.out.size))
 clear P234
 have HB240 := Aside0.mk (HB236.out.trans (hb_u238.mono HB236.out.size))
 clear HB236
 clear hb_u238
 refine (law_of.calls 20 (some ⟨w231.heap.size, 0, none⟩) 4 [3, 2, 4, 6] sc_d9 _ hl_u238.out (by simp) (by kernel_rfl)).mono ?_
 rintro e w241 ⟨v, rfl, ho, hb⟩
 obtain ⟨A_d9, c_d9, rfl, hcp, hC⟩ := Kd.R_reads ho
 have R_d9 := Aside0.mk ho
 have P242 := Aside0.mk (P239.out.trans (hb.mono P239.out.size))
 clear P239
 have HB243 := Aside0.mk (HB240.out.trans (hb.mono HB240.out.size))
 clear HB240
 clear hb ho hcp hC hl_u238
 go_wp2_with fail
 refine (law_same.calls 20 A_d c_d sc_d 0 A_d9 c_d9 sc_d9 0 true _ (Kd.R_reads' (Kd.R_below R_d.out P242.out)).2.2 (Kd.R_reads' R_d.out).2.1 (Kd.R_reads' R_d9.out).2.2 (Kd.R_reads' R_d9.out).2.1 (by kernel_rfl)).mono ?_
 rintro e w' ⟨rfl, ⟨nd, rfl⟩⟩
 obtain ⟨w244, hw244⟩ : ∃ u, w241.drewN nd = u := ⟨_, rfl⟩
 have hb : Below w241.heap.size w241 w244 := by rw [← hw244]; exact pw_below_drewN (Below.refl _ _) nd
 rw [hw244]
 clear hw244
 have P245 := Aside0.mk (P242.out.trans (hb.mono P242.out.size))
 clear P242
 have P246 := Aside0.mk hb
 have HB247 := Aside0.mk (HB243.out.trans (hb.mono HB243.out.size))
 clear HB243
 clear hb
 go_wp2_with fail
 obtain ⟨u248, hu248⟩ : ∃ u, w244.alloc (.cells #[.int .i64 0, .int .i64 0, .int .i64 1, .int .i64 0] 3) = u := ⟨_, rfl⟩
 have hb_u248 : Below w244.heap.size w244 u248 := by rw [← hu248]; exact (Below.refl _ w244).alloc (Nat.le_refl _) _
 have hl_u248 := Aside0.mk (show Kd.C (Kd.int .i64) u248 (some ⟨w244.heap.size, 0, none⟩) 4 [0, 0, 1, 0] by rw [← hu248]; exact (Kd.R_reads' (lit_R w244 [0, 0, 1, 0] (by simp))).2.2)
 rw [hu248]
 clear hu248
 have HB249 := Aside0.mk (HB247.out.trans (hb_u248.mono HB247.out.size))
 clear HB247
 clear hb_u248
 refine (law_of.calls 20 (some ⟨w244.heap.size, 0, none⟩) 4 [0, 0, 1, 0] sc_k0 _ hl_u248.out (by simp) (by kernel_rfl)).mono ?_
 rintro e w250 ⟨v, rfl, ho, hb⟩
 obtain ⟨A_k0, c_k0, rfl, hcp, hC⟩ := Kd.R_reads ho
 have R_k0 := Aside0.mk ho
 have HB251 := Aside0.mk (HB249.out.trans (hb.mono HB249.out.size))
 clear HB249
 clear hb ho hcp hC hl_u248
 go_wp2_with fail
 refine (curve_Check.calls A_k0 c_k0 sc_k0 10 _ (Kd.R_reads' R_k0.out).2.2 (Kd.R_reads' R_k0.out).2.1 (by kernel_rfl)).mono ?_
 rintro e w252 ⟨rfl, hb⟩
 have P253 := Aside0.mk hb
 have HB254 := Aside0.mk (HB251.out.trans (hb.mono HB251.out.size))
 clear HB251
 clear hb
 go_wp2_with fail
 go_ret
 exact ⟨rfl, HB254.out⟩
end Go.Proofs.YtlhhpogaaneamaaDoor.X
