/- curveThrough_holds: the declarations of this seat that its proof uses. Conditions: none. -/
import Derived.Test.YtlhhpogaaneamaaDoorKHP4
namespace Go.Proofs.YtlhhpogaaneamaaDoor.X
open Go.RowKit Go.Proofs.YtlhhpogaaneamaaDoorW.PrintWords Go.Proofs.YtlhhpogaaneamaaDoorW.PrintLast Go.Proofs.YtlhhpogaaneamaaDoorW.PrintMore
set_option linter.unusedVariables false
set_option linter.unusedSimpArgs false
attribute [local go_sem high] eqA43
mutual
def law_CurveThrough.j0 : Nat → List (S57) → List (S57) → List (S57) → Int → Int → Bool → Option (Bool)
 | 0, _, _, _, _, _, _ => none
 | k + 1, x0, x1, x2, x3, x4, x51 => if x51 = true then (some true) else ((curve_Through.f x0 x1 x3).bind fun bt704 => (if bt704.2.2 = 0 then ((curve_Low.f x0 x3).bind fun bt708 => ((curve_High.f x0 x3).bind fun bt710 => (if bt708.2 = 0 then (if bt710.2 = 0 then (if bt704.1 > bt704.2.1 then (law_CurveThrough.j1 k x0 x1 x2 x3 x4 bt708.1 bt710.1 true bt704.1 bt704.2.1) else (law_CurveThrough.j1 k x0 x1 x2 x3 x4 bt708.1 bt710.1 (decide ((wrap64 (bt704.2.1 - bt704.1)) > 1)) bt704.1 bt704.2.1)) else (law_CurveThrough.j1 k x0 x1 x2 x3 x4 bt708.1 bt710.1 true bt704.1 bt704.2.1)) else (law_CurveThrough.j1 k x0 x1 x2 x3 x4 bt708.1 bt710.1 true bt704.1 bt704.2.1)))) else (if bt704.2.2 = 1 then (some (bt704.1 == 0 && (bt704.2.1 == 0))) else (some false))))
def law_CurveThrough.j1 : Nat → List (S57) → List (S57) → List (S57) → Int → Int → Int → Int → Bool → Int → Int → Option (Bool)
 | 0, _, _, _, _, _, _, _, _, _, _ => none
 | k + 1, x0, x1, x2, x3, x4, x13, x15, x100, x708000, x708001 => if x100 = true then (some false) else ((ref_In.f x1 x13).bind fun t712 => (if t712 = true then ((ref_In.f x1 x15).bind fun t713 => (law_CurveThrough.j2 k x0 x1 x2 x3 x4 x13 x15 t713 x708000 x708001)) else (law_CurveThrough.j2 k x0 x1 x2 x3 x4 x13 x15 false x708000 x708001)))
def law_CurveThrough.j2 : Nat → List (S57) → List (S57) → List (S57) → Int → Int → Int → Int → Bool → Int → Int → Option (Bool)
 | 0, _, _, _, _, _, _, _, _, _, _ => none
 | k + 1, x0, x1, x2, x3, x4, x13, x15, x108, x708000, x708001 => if x108 = true then ((curve_Low.f x1 x13).bind fun bt714 => ((curve_High.f x1 x15).bind fun bt716 => (if bt714.2 = 0 then (if bt716.2 = 0 then (if x708000 < bt714.1 then (law_CurveThrough.j3 k x0 x1 x2 x3 x4 true x708000 x708001) else (law_CurveThrough.j3 k x0 x1 x2 x3 x4 (decide (x708001 > bt716.1)) x708000 x708001)) else (law_CurveThrough.j3 k x0 x1 x2 x3 x4 true x708000 x708001)) else (law_CurveThrough.j3 k x0 x1 x2 x3 x4 true x708000 x708001)))) else (law_CurveThrough.j4 k x0 x1 x2 x3 x4 x708000 x708001)
def law_CurveThrough.j4 : Nat → List (S57) → List (S57) → List (S57) → Int → Int → Int → Int → Option (Bool)
 | 0, _, _, _, _, _, _, _ => none
 | k + 1, x0, x1, x2, x3, x4, x708000, x708001 => if x4 > 0 then (if x4 ≤ 16777216 then ((ref_In.f x0 (wrap64 (x3 + x4))).bind fun t718 => (law_CurveThrough.j5 k x0 x1 x2 x3 x4 t718 x708000 x708001)) else (law_CurveThrough.j5 k x0 x1 x2 x3 x4 false x708000 x708001)) else (law_CurveThrough.j5 k x0 x1 x2 x3 x4 false x708000 x708001)
def law_CurveThrough.j5 : Nat → List (S57) → List (S57) → List (S57) → Int → Int → Bool → Int → Int → Option (Bool)
 | 0, _, _, _, _, _, _, _, _ => none
 | k + 1, x0, x1, x2, x3, x4, x151, x708000, x708001 => if x151 = true then ((curve_Through.f x0 x1 (wrap64 (x3 + x4))).bind fun bt719 => (if bt719.2.2 = 0 then (if bt719.1 < x708000 then (law_CurveThrough.j6 k x0 x1 x2 x3 true x708000 x708001) else (law_CurveThrough.j6 k x0 x1 x2 x3 (decide (bt719.2.1 < x708001)) x708000 x708001)) else (if bt719.2.2 = 1 then (law_CurveThrough.j6 k x0 x1 x2 x3 false x708000 x708001) else (law_CurveThrough.j6 k x0 x1 x2 x3 true x708000 x708001)))) else (law_CurveThrough.j7 k x0 x1 x2 x3 x708000 x708001)
def law_CurveThrough.j7 : Nat → List (S57) → List (S57) → List (S57) → Int → Int → Int → Option (Bool)
 | 0, _, _, _, _, _, _ => none
 | k + 1, x0, x1, x2, x3, x708000, x708001 => (curve_Below.f x1 x2).bind fun bt723 => (if bt723.2 = 0 then ((curve_Through.f x0 x2 x3).bind fun bt725 => (if bt723.1 = true then (if bt725.2.2 = 0 then (if bt725.1 < x708000 then (law_CurveThrough.j8 k x0 x1 x2 x3 true x708000 x708001) else (law_CurveThrough.j8 k x0 x1 x2 x3 (decide (bt725.2.1 < x708001)) x708000 x708001)) else (law_CurveThrough.j8 k x0 x1 x2 x3 false x708000 x708001)) else (law_CurveThrough.j8 k x0 x1 x2 x3 false x708000 x708001))) else (some false))
def law_CurveThrough.j8 : Nat → List (S57) → List (S57) → List (S57) → Int → Bool → Int → Int → Option (Bool)
 | 0, _, _, _, _, _, _, _ => none
 | k + 1, x0, x1, x2, x3, x218, x708000, x708001 => if x218 = true then (some false) else ((curve_Below.f x0 x2).bind fun bt729 => (if bt729.2 = 0 then ((curve_Through.f x2 x1 x3).bind fun bt731 => (if bt729.1 = true then (if bt731.2.2 = 0 then (if bt731.1 < x708000 then (law_CurveThrough.j9 k true) else (law_CurveThrough.j9 k (decide (bt731.2.1 < x708001)))) else (law_CurveThrough.j9 k false)) else (law_CurveThrough.j9 k false))) else (some false)))
def law_CurveThrough.j9 : Nat → Bool → Option (Bool)
 | 0, _ => none
 | k + 1, x252 => if x252 = true then (some false) else (some true)
def law_CurveThrough.j6 : Nat → List (S57) → List (S57) → List (S57) → Int → Bool → Int → Int → Option (Bool)
 | 0, _, _, _, _, _, _, _ => none
 | k + 1, x0, x1, x2, x3, x184, x708000, x708001 => if x184 = true then (some false) else (law_CurveThrough.j7 k x0 x1 x2 x3 x708000 x708001)
def law_CurveThrough.j3 : Nat → List (S57) → List (S57) → List (S57) → Int → Int → Bool → Int → Int → Option (Bool)
 | 0, _, _, _, _, _, _, _, _ => none
 | k + 1, x0, x1, x2, x3, x4, x138, x708000, x708001 => if x138 = true then (some false) else (law_CurveThrough.j4 k x0 x1 x2 x3 x4 x708000 x708001)
end
def law_CurveThrough.f (k : Nat) (l0 : List (S57)) (l1 : List (S57)) (l2 : List (S57)) (a3 : Int) (a4 : Int) : Option (Bool) := (law_sane.f).bind fun t699 => (if t699 = true then ((ref_Valid.f k l0).bind fun t700 => (if t700 = true then ((ref_Valid.f k l1).bind fun t701 => (if t701 = true then ((ref_Valid.f k l2).bind fun t702 => (if t702 = true then ((ref_In.f l0 a3).bind fun t703 => (law_CurveThrough.j0 k l0 l1 l2 a3 a4 (!t703))) else (law_CurveThrough.j0 k l0 l1 l2 a3 a4 true))) else (law_CurveThrough.j0 k l0 l1 l2 a3 a4 true))) else (law_CurveThrough.j0 k l0 l1 l2 a3 a4 true))) else (some false))
set_option maxHeartbeats 8000000 in
set_option maxRecDepth 100000 in
theorem law_CurveThrough.calls (k : Nat) (A0 : Option Addr) (c0 : Nat) (l0 : List (S57)) (A1 : Option Addr) (c1 : Nat) (l1 : List (S57)) (A2 : Option Addr) (c2 : Nat) (l2 : List (S57)) (a3 : Int) (a4 : Int) (r : Bool) (w : World) (hr0 : Kd.C k57 w A0 l0.length l0) (hc0 : l0.length ≤ c0) (hr1 : Kd.C k57 w A1 l1.length l1) (hc1 : l1.length ≤ c1) (hr2 : Kd.C k57 w A2 l2.length l2) (hc2 : l2.length ≤ c2) (h : law_CurveThrough.f k l0 l1 l2 a3 a4 = some r) :
  Calls Tryd.prog 13 #[.slice A0 l0.length c0, .slice A1 l1.length c1, .slice A2 l2.length c2, .int .i64 a3, .int .i64 a4] w fun e w' => e = .returned (.bool r) ∧ Below w.heap.size w w' := by
 have hu43 := Tryd.underlying43
 have HR0 := Aside0.mk hr0
 have HC0 := Aside0.mk hc0
 clear hr0 hc0
 have HR1 := Aside0.mk hr1
 have HC1 := Aside0.mk hc1
 clear hr1 hc1
 have HR2 := Aside0.mk hr2
 have HC2 := Aside0.mk hc2
 clear hr2 hc2
 have HB := Aside0.mk (Below.refl w.heap.size w)
 have H : ((law_sane.f).bind fun t699 => (if t699 = true then ((ref_Valid.f k l0).bind fun t700 => (if t700 = true then ((ref_Valid.f k l1).bind fun t701 => (if t701 = true then ((ref_Valid.f k l2).bind fun t702 => (if t702 = true then ((ref_In.f l0 a3).bind fun t703 => (law_CurveThrough.j0 k l0 l1 l2 a3 a4 (!t703))) else (law_CurveThrough.j0 k l0 l1 l2 a3 a4 true))) else (law_CurveThrough.j0 k l0 l1 l2 a3 a4 true))) else (law_CurveThrough.j0 k l0 l1 l2 a3 a4 true))) else (some false))) = some r := h
 clear h
 replace H := Option.bind_eq_some_iff.mp H
 obtain ⟨t699, A60, H⟩ := H
 replace H : (if t699 = true then ((ref_Valid.f k l0).bind fun t700 => (if t700 = true then ((ref_Valid.f k l1).bind fun t701 => (if t701 = true then ((ref_Valid.f k l2).bind fun t702 => (if t702 = true then ((ref_In.f l0 a3).bind fun t703 => (law_CurveThrough.j0 k l0 l1 l2 a3 a4 (!t703))) else (law_CurveThrough.j0 k l0 l1 l2 a3 a4 true))) else (law_CurveThrough.j0 k l0 l1 l2 a3 a4 true))) else (law_CurveThrough.j0 k l0 l1 l2 a3 a4 true))) else (some false)) = some r := H
 have A6 := Aside0.mk A60
 clear A60
 by_cases c7 : t699 = true
 ·
  subst c7
  have H1 : ((ref_Valid.f k l0).bind fun t700 => (if t700 = true then ((ref_Valid.f k l1).bind fun t701 => (if t701 = true then ((ref_Valid.f k l2).bind fun t702 => (if t702 = true then ((ref_In.f l0 a3).bind fun t703 => (law_CurveThrough.j0 k l0 l1 l2 a3 a4 (!t703))) else (law_CurveThrough.j0 k l0 l1 l2 a3 a4 true))) else (law_CurveThrough.j0 k l0 l1 l2 a3 a4 true))) else (law_CurveThrough.j0 k l0 l1 l2 a3 a4 true))) = some r := by rw [if_pos rfl] at H; exact H
  clear H
  have H := H1
  clear H1
  have HC8 := Aside0.mk H
  clear H
  go_enter Tryd.func13, Tryd.ntmps13
  go_upto_region 3 with (first | ((with_reducible refine gate_callee (f := 18) rfl ?_); refine goesL_ (some 31) rfl rfl Tryd.func18 (by kernel_rfl) rfl #[] rfl (by (try simp only [List.map_toArray, List.map_cons, List.map_nil]); first | done | rfl | (simp only [List.length_drop, List.length_take]; rfl)) ?_; (with_reducible refine (law_sane.calls  true _ A6.out).mono ?_); rintro e w9 ⟨rfl, hb⟩; refine ⟨_, rfl, ?_⟩; have n0_ := Aside0.mk (below_step (by repeat (first | (with_reducible first | exact HB.out | apply below_alloc | apply pw_below_drewN | apply below_drew1) | exact HB.out)) hb); clear HB; have HB := n0_; clear n0_; (try clear hb); (try clear hb2); (try clear hk); (try clear hi)))
  (try simp only [Act.put, List.setIfInBounds_toArray, List.set_cons_zero, List.set_cons_succ])
  go_cut [51] (fun v51 wc => ∃ (kq : Nat) (x51_7 : Bool), v51 = .bool x51_7 ∧ Aside0 (law_CurveThrough.j0 kq l0 l1 l2 a3 a4 x51_7 = some r) ∧ Aside0 (kq ≤ k) ∧ Aside0 (Below w.heap.size w wc))
  case first => as_aux_lemma =>
   have H := HC8.out
   clear HC8
   replace H := Option.bind_eq_some_iff.mp H
   obtain ⟨t700, A100, H⟩ := H
   replace H : (if t700 = true then ((ref_Valid.f k l1).bind fun t701 => (if t701 = true then ((ref_Valid.f k l2).bind fun t702 => (if t702 = true then ((ref_In.f l0 a3).bind fun t703 => (law_CurveThrough.j0 k l0 l1 l2 a3 a4 (!t703))) else (law_CurveThrough.j0 k l0 l1 l2 a3 a4 true))) else (law_CurveThrough.j0 k l0 l1 l2 a3 a4 true))) else (law_CurveThrough.j0 k l0 l1 l2 a3 a4 true)) = some r := H
   have A10 := Aside0.mk A100
   clear A100
   by_cases c11 : t700 = true
   ·
    subst c11
    have H1 : ((ref_Valid.f k l1).bind fun t701 => (if t701 = true then ((ref_Valid.f k l2).bind fun t702 => (if t702 = true then ((ref_In.f l0 a3).bind fun t703 => (law_CurveThrough.j0 k l0 l1 l2 a3 a4 (!t703))) else (law_CurveThrough.j0 k l0 l1 l2 a3 a4 true))) else (law_CurveThrough.j0 k l0 l1 l2 a3 a4 true))) = some r := by rw [if_pos rfl] at H; exact H
    clear H
    have H := H1
    clear H1
    replace H := Option.bind_eq_some_iff.mp H
    obtain ⟨t701, A120, H⟩ := H
    replace H : (if t701 = true then ((ref_Valid.f k l2).bind fun t702 => (if t702 = true then ((ref_In.f l0 a3).bind fun t703 => (law_CurveThrough.j0 k l0 l1 l2 a3 a4 (!t703))) else (law_CurveThrough.j0 k l0 l1 l2 a3 a4 true))) else (law_CurveThrough.j0 k l0 l1 l2 a3 a4 true)) = some r := H
    have A12 := Aside0.mk A120
    clear A120
    by_cases c13 : t701 = true
    ·
     subst c13
     have H1 : ((ref_Valid.f k l2).bind fun t702 => (if t702 = true then ((ref_In.f l0 a3).bind fun t703 => (law_CurveThrough.j0 k l0 l1 l2 a3 a4 (!t703))) else (law_CurveThrough.j0 k l0 l1 l2 a3 a4 true))) = some r := by rw [if_pos rfl] at H; exact H
     clear H
     have H := H1
     clear H1
     replace H := Option.bind_eq_some_iff.mp H
     obtain ⟨t702, A140, H⟩ := H
     replace H : (if t702 = true then ((ref_In.f l0 a3).bind fun t703 => (law_CurveThrough.j0 k l0 l1 l2 a3 a4 (!t703))) else (law_CurveThrough.j0 k l0 l1 l2 a3 a4 true)) = some r := H
     have A14 := Aside0.mk A140
     clear A140
     by_cases c15 : t702 = true
     ·
      subst c15
      have H1 : ((ref_In.f l0 a3).bind fun t703 => (law_CurveThrough.j0 k l0 l1 l2 a3 a4 (!t703))) = some r := by rw [if_pos rfl] at H; exact H
      clear H
      have H := H1
      clear H1
      replace H := Option.bind_eq_some_iff.mp H
      obtain ⟨t703, A160, H⟩ := H
      replace H : (law_CurveThrough.j0 k l0 l1 l2 a3 a4 (!t703)) = some r := H
      have A16 := Aside0.mk A160
      clear A160
      have H' := Aside0.mk H
      clear H
      go_wp2_with (first | ((with_reducible refine gate_callee (f := 42) rfl ?_); refine goesL_ (some 34) rfl rfl Tryd.func42 (by kernel_rfl) rfl #[.slice A0 l0.length c0] rfl (by (try simp only [List.map_toArray, List.map_cons, List.map_nil]); first | done | rfl | (simp only [List.length_drop, List.length_take]; rfl)) ?_; (with_reducible refine (ref_Valid.calls k _ _ l0 true _ ?side1 ?side2 A10.out).mono ?_); (case side1 => repeat (first | exact (Kd.C_below HR0.out HB.out) | (with_reducible refine Kd.C_alloc ?_ _) | (with_reducible refine Kd.C_drewN ?_ _) | (with_reducible refine Kd.C_drew ?_))); (case side2 => exact HC0.out); rintro e w' ⟨rfl, ⟨nd, rfl⟩⟩; refine ⟨_, rfl, ?_⟩) | (go_at_call 42; (with_reducible refine (ref_Valid.calls k _ _ l1 true _ ?side1 ?side2 A12.out).mono ?_); (case side1 => repeat (first | exact (Kd.C_below HR1.out (by repeat (first | (with_reducible first | exact HB.out | apply below_alloc | apply pw_below_drewN | apply below_drew1) | exact HB.out))) | (with_reducible refine Kd.C_alloc ?_ _) | (with_reducible refine Kd.C_drewN ?_ _) | (with_reducible refine Kd.C_drew ?_))); (case side2 => exact HC1.out); rintro e w' ⟨rfl, ⟨nd, rfl⟩⟩) | (go_at_call 42; (with_reducible refine (ref_Valid.calls k _ _ l2 true _ ?side1 ?side2 A14.out).mono ?_); (case side1 => repeat (first | exact (Kd.C_below HR2.out (by repeat (first | (with_reducible first | exact HB.out | apply below_alloc | apply pw_below_drewN | apply below_drew1) | exact HB.out))) | (with_reducible refine Kd.C_alloc ?_ _) | (with_reducible refine Kd.C_drewN ?_ _) | (with_reducible refine Kd.C_drew ?_))); (case side2 => exact HC2.out); rintro e w' ⟨rfl, ⟨nd, rfl⟩⟩) | (go_at_call 43; (with_reducible refine (ref_In.calls _ _ l0 a3 t703 _ ?side1 ?side2 A16.out).mono ?_); (case side1 => repeat (first | exact (Kd.C_below HR0.out (by repeat (first | (with_reducible first | exact HB.out | apply below_alloc | apply pw_below_drewN | apply below_drew1) | exact HB.out))) | (with_reducible refine Kd.C_alloc ?_ _) | (with_reducible refine Kd.C_drewN ?_ _) | (with_reducible refine Kd.C_drew ?_))); (case side2 => exact HC0.out); rintro e w' ⟨rfl, ⟨nd, rfl⟩⟩))
      go_meet
      case rel => exact ⟨_, (!t703), (by first | rfl | (simp; done) | (simp [*]; done)), H', ⟨by first | omega | exact Nat.le_refl _⟩, ⟨by repeat (first | (with_reducible first | exact HB.out | apply below_alloc | apply pw_below_drewN | apply below_drew1) | exact HB.out)⟩⟩
     ·
      replace c15 := Bool.eq_false_iff.mpr c15
      subst c15
      have H1 : (law_CurveThrough.j0 k l0 l1 l2 a3 a4 true) = some r := by rw [if_neg (show ¬ (false = true) by decide)] at H; exact H
      clear H
      have H := H1
      clear H1
      have H' := Aside0.mk H
      clear H
      go_wp2_with (first | ((with_reducible refine gate_callee (f := 42) rfl ?_); refine goesL_ (some 34) rfl rfl Tryd.func42 (by kernel_rfl) rfl #[.slice A0 l0.length c0] rfl (by (try simp only [List.map_toArray, List.map_cons, List.map_nil]); first | done | rfl | (simp only [List.length_drop, List.length_take]; rfl)) ?_; (with_reducible refine (ref_Valid.calls k _ _ l0 true _ ?side1 ?side2 A10.out).mono ?_); (case side1 => repeat (first | exact (Kd.C_below HR0.out HB.out) | (with_reducible refine Kd.C_alloc ?_ _) | (with_reducible refine Kd.C_drewN ?_ _) | (with_reducible refine Kd.C_drew ?_))); (case side2 => exact HC0.out); rintro e w' ⟨rfl, ⟨nd, rfl⟩⟩; refine ⟨_, rfl, ?_⟩) | (go_at_call 42; (with_reducible refine (ref_Valid.calls k _ _ l1 true _ ?side1 ?side2 A12.out).mono ?_); (case side1 => repeat (first | exact (Kd.C_below HR1.out (by repeat (first | (with_reducible first | exact HB.out | apply below_alloc | apply pw_below_drewN | apply below_drew1) | exact HB.out))) | (with_reducible refine Kd.C_alloc ?_ _) | (with_reducible refine Kd.C_drewN ?_ _) | (with_reducible refine Kd.C_drew ?_))); (case side2 => exact HC1.out); rintro e w' ⟨rfl, ⟨nd, rfl⟩⟩) | (go_at_call 42; (with_reducible refine (ref_Valid.calls k _ _ l2 false _ ?side1 ?side2 A14.out).mono ?_); (case side1 => repeat (first | exact (Kd.C_below HR2.out (by repeat (first | (with_reducible first | exact HB.out | apply below_alloc | apply pw_below_drewN | apply below_drew1) | exact HB.out))) | (with_reducible refine Kd.C_alloc ?_ _) | (with_reducible refine Kd.C_drewN ?_ _) | (with_reducible refine Kd.C_drew ?_))); (case side2 => exact HC2.out); rintro e w' ⟨rfl, ⟨nd, rfl⟩⟩))
      go_meet
      case rel => exact ⟨_, (true), (by first | rfl | (simp; done) | (simp [*]; done)), H', ⟨by first | omega | exact Nat.le_refl _⟩, ⟨by repeat (first | (with_reducible first | exact HB.out | apply below_alloc | apply pw_below_drewN | apply below_drew1) | exact HB.out)⟩⟩
    ·
     replace c13 := Bool.eq_false_iff.mpr c13
     subst c13
     have H1 : (law_CurveThrough.j0 k l0 l1 l2 a3 a4 true) = some r := by rw [if_neg (show ¬ (false = true) by decide)] at H; exact H
     clear H
     have H := H1
     clear H1
     have H' := Aside0.mk H
     clear H
     go_wp2_with (first | ((with_reducible refine gate_callee (f := 42) rfl ?_); refine goesL_ (some 34) rfl rfl Tryd.func42 (by kernel_rfl) rfl #[.slice A0 l0.length c0] rfl (by (try simp only [List.map_toArray, List.map_cons, List.map_nil]); first | done | rfl | (simp only [List.length_drop, List.length_take]; rfl)) ?_; (with_reducible refine (ref_Valid.calls k _ _ l0 true _ ?side1 ?side2 A10.out).mono ?_); (case side1 => repeat (first | exact (Kd.C_below HR0.out HB.out) | (with_reducible refine Kd.C_alloc ?_ _) | (with_reducible refine Kd.C_drewN ?_ _) | (with_reducible refine Kd.C_drew ?_))); (case side2 => exact HC0.out); rintro e w' ⟨rfl, ⟨nd, rfl⟩⟩; refine ⟨_, rfl, ?_⟩) | (go_at_call 42; (with_reducible refine (ref_Valid.calls k _ _ l1 false _ ?side1 ?side2 A12.out).mono ?_); (case side1 => repeat (first | exact (Kd.C_below HR1.out (by repeat (first | (with_reducible first | exact HB.out | apply below_alloc | apply pw_below_drewN | apply below_drew1) | exact HB.out))) | (with_reducible refine Kd.C_alloc ?_ _) | (with_reducible refine Kd.C_drewN ?_ _) | (with_reducible refine Kd.C_drew ?_))); (case side2 => exact HC1.out); rintro e w' ⟨rfl, ⟨nd, rfl⟩⟩))
     go_meet
     case rel => exact ⟨_, (true), (by first | rfl | (simp; done) | (simp [*]; done)), H', ⟨by first | omega | exact Nat.le_refl _⟩, ⟨by repeat (first | (with_reducible first | exact HB.out | apply below_alloc | apply pw_below_drewN | apply below_drew1) | exact HB.out)⟩⟩
   ·
    replace c11 := Bool.eq_false_iff.mpr c11
    subst c11
    have H1 : (law_CurveThrough.j0 k l0 l1 l2 a3 a4 true) = some r := by rw [if_neg (show ¬ (false = true) by decide)] at H; exact H
    clear H
    have H := H1
    clear H1
    have H' := Aside0.mk H
    clear H
    go_wp2_with (first | ((with_reducible refine gate_callee (f := 42) rfl ?_); refine goesL_ (some 34) rfl rfl Tryd.func42 (by kernel_rfl) rfl #[.slice A0 l0.length c0] rfl (by (try simp only [List.map_toArray, List.map_cons, List.map_nil]); first | done | rfl | (simp only [List.length_drop, List.length_take]; rfl)) ?_; (with_reducible refine (ref_Valid.calls k _ _ l0 false _ ?side1 ?side2 A10.out).mono ?_); (case side1 => repeat (first | exact (Kd.C_below HR0.out HB.out) | (with_reducible refine Kd.C_alloc ?_ _) | (with_reducible refine Kd.C_drewN ?_ _) | (with_reducible refine Kd.C_drew ?_))); (case side2 => exact HC0.out); rintro e w' ⟨rfl, ⟨nd, rfl⟩⟩; refine ⟨_, rfl, ?_⟩))
    go_meet
    case rel => exact ⟨_, (true), (by first | rfl | (simp; done) | (simp [*]; done)), H', ⟨by first | omega | exact Nat.le_refl _⟩, ⟨by repeat (first | (with_reducible first | exact HB.out | apply below_alloc | apply pw_below_drewN | apply below_drew1) | exact HB.out)⟩⟩
  case rest => as_aux_lemma =>
   clear HC8
   try clear c1
   try clear c2
   try clear p2
   try clear c4
   try clear c7
   try clear c11
   try clear c13
   try clear c15
   obtain ⟨kq, x51_7, rfl, HA, HJ7, HB⟩ := hcut
   cases kq with
   | zero => exact absurd HA.out (by simp [law_CurveThrough.j0])
   | succ kj7 =>
    have H := HA.out
    clear HA
    simp only [law_CurveThrough.j0] at H
    by_cases c17 : x51_7 = true
    ·
     subst c17
     have H1 : (some true) = some r := by rw [if_pos rfl] at H; exact H
     clear H
     have H := H1
     clear H1
     obtain rfl := Option.some.inj H
     go_wp2
     go_ret
     exact ⟨by first | rfl | (simp [errW_none, errW_some] <;> rfl) | (simp [*, errW_none, errW_some] <;> rfl), by repeat (first | (with_reducible first | exact HB.out | apply below_alloc | apply pw_below_drewN | apply below_drew1) | exact HB.out)⟩
    ·
     replace c17 := Bool.eq_false_iff.mpr c17
     subst c17
     have H1 : ((curve_Through.f l0 l1 a3).bind fun bt704 => (if bt704.2.2 = 0 then ((curve_Low.f l0 a3).bind fun bt708 => ((curve_High.f l0 a3).bind fun bt710 => (if bt708.2 = 0 then (if bt710.2 = 0 then (if bt704.1 > bt704.2.1 then (law_CurveThrough.j1 kj7 l0 l1 l2 a3 a4 bt708.1 bt710.1 true bt704.1 bt704.2.1) else (law_CurveThrough.j1 kj7 l0 l1 l2 a3 a4 bt708.1 bt710.1 (decide ((wrap64 (bt704.2.1 - bt704.1)) > 1)) bt704.1 bt704.2.1)) else (law_CurveThrough.j1 kj7 l0 l1 l2 a3 a4 bt708.1 bt710.1 true bt704.1 bt704.2.1)) else (law_CurveThrough.j1 kj7 l0 l1 l2 a3 a4 bt708.1 bt710.1 true bt704.1 bt704.2.1)))) else (if bt704.2.2 = 1 then (some (bt704.1 == 0 && (bt704.2.1 == 0))) else (some false)))) = some r := by rw [if_neg (show ¬ (false = true) by decide)] at H; exact H
     clear H
     have H := H1
     clear H1
     replace H := Option.bind_eq_some_iff.mp H
     obtain ⟨⟨t704, t705, t706⟩, A180, H⟩ := H
     replace H : (if t706 = 0 then ((curve_Low.f l0 a3).bind fun bt708 => ((curve_High.f l0 a3).bind fun bt710 => (if bt708.2 = 0 then (if bt710.2 = 0 then (if t704 > t705 then (law_CurveThrough.j1 kj7 l0 l1 l2 a3 a4 bt708.1 bt710.1 true t704 t705) else (law_CurveThrough.j1 kj7 l0 l1 l2 a3 a4 bt708.1 bt710.1 (decide ((wrap64 (t705 - t704)) > 1)) t704 t705)) else (law_CurveThrough.j1 kj7 l0 l1 l2 a3 a4 bt708.1 bt710.1 true t704 t705)) else (law_CurveThrough.j1 kj7 l0 l1 l2 a3 a4 bt708.1 bt710.1 true t704 t705)))) else (if t706 = 1 then (some (t704 == 0 && (t705 == 0))) else (some false))) = some r := H
     have A18 := Aside0.mk A180
     clear A180
     by_cases c19 : t706 = 0
     ·
      rw [if_pos c19] at H
      have c19b0 : (t706 == 0) = true := beq_iff_eq.mpr c19
      have c19b1 : (t706 != 0) = false := bne_eq_false_iff_eq.mpr c19
      clear c19
      replace H := Option.bind_eq_some_iff.mp H
      obtain ⟨⟨t708, t709⟩, A200, H⟩ := H
      replace H : ((curve_High.f l0 a3).bind fun bt710 => (if t709 = 0 then (if bt710.2 = 0 then (if t704 > t705 then (law_CurveThrough.j1 kj7 l0 l1 l2 a3 a4 t708 bt710.1 true t704 t705) else (law_CurveThrough.j1 kj7 l0 l1 l2 a3 a4 t708 bt710.1 (decide ((wrap64 (t705 - t704)) > 1)) t704 t705)) else (law_CurveThrough.j1 kj7 l0 l1 l2 a3 a4 t708 bt710.1 true t704 t705)) else (law_CurveThrough.j1 kj7 l0 l1 l2 a3 a4 t708 bt710.1 true t704 t705))) = some r := H
      have A20 := Aside0.mk A200
      clear A200
      replace H := Option.bind_eq_some_iff.mp H
      obtain ⟨⟨t710, t711⟩, A210, H⟩ := H
      replace H : (if t709 = 0 then (if t711 = 0 then (if t704 > t705 then (law_CurveThrough.j1 kj7 l0 l1 l2 a3 a4 t708 t710 true t704 t705) else (law_CurveThrough.j1 kj7 l0 l1 l2 a3 a4 t708 t710 (decide ((wrap64 (t705 - t704)) > 1)) t704 t705)) else (law_CurveThrough.j1 kj7 l0 l1 l2 a3 a4 t708 t710 true t704 t705)) else (law_CurveThrough.j1 kj7 l0 l1 l2 a3 a4 t708 t710 true t704 t705)) = some r := H
      have A21 := Aside0.mk A210
      clear A210
      have HC22 := Aside0.mk H
      clear H
      go_upto_region 10 with (first | ((with_reducible refine gate_callee (f := 40) rfl ?_); refine goesL_ (some 56) rfl rfl Tryd.func40 (by kernel_rfl) rfl #[.slice A0 l0.length c0, .slice A1 l1.length c1, .int .i64 a3] rfl (by (try simp only [List.map_toArray, List.map_cons, List.map_nil]); first | done | rfl | (simp only [List.length_drop, List.length_take]; rfl)) ?_; (with_reducible refine (curve_Through.calls _ _ l0 _ _ l1 a3 t704 t705 t706 _ ?side1 ?side2 ?side3 ?side4 A18.out).mono ?_); (case side1 => repeat (first | exact (Kd.C_below HR0.out HB.out) | (with_reducible refine Kd.C_alloc ?_ _) | (with_reducible refine Kd.C_drewN ?_ _) | (with_reducible refine Kd.C_drew ?_))); (case side2 => exact HC0.out); (case side3 => repeat (first | exact (Kd.C_below HR1.out HB.out) | (with_reducible refine Kd.C_alloc ?_ _) | (with_reducible refine Kd.C_drewN ?_ _) | (with_reducible refine Kd.C_drew ?_))); (case side4 => exact HC1.out); rintro e w23 ⟨rfl, hb⟩; refine ⟨_, rfl, ?_⟩; have n0_ := Aside0.mk (below_step (by repeat (first | (with_reducible first | exact HB.out | apply below_alloc | apply pw_below_drewN | apply below_drew1) | exact HB.out)) hb); clear HB; have HB := n0_; clear n0_; (try clear hb); (try clear hb2); (try clear hk); (try clear hi)) | ((with_reducible refine gate_dst (N := 11) rfl ?_); refine box_event ?hg (N := 11) ?hd (cs := #[.int .i64 0, .int .i64 0]) (t := 43) ?hr ?_; (case hd => rfl); (case hg => rfl); (case hr => first | (go_simp; done) | (go_simp; rfl)); intro gb707 hg w24 hbox hb; have n0_ := Aside0.mk (below_step (by repeat (first | (with_reducible first | exact HB.out | apply below_alloc | apply pw_below_drewN | apply below_drew1) | exact HB.out)) hb); have n1_ := Aside0.mk (hbox); have n2_ := Aside0.mk ((by rw [hg]; exact (below_size (by repeat (first | (with_reducible first | exact HB.out | apply below_alloc | apply pw_below_drewN | apply below_drew1) | exact HB.out))) : w.heap.size ≤ gb707)); have n3_ := Aside0.mk ((by rw [hg]; exact (below_size (by repeat (first | (with_reducible first | exact HB.out | apply below_alloc | apply pw_below_drewN | apply below_drew1) | exact HB.out))) : w.heap.size ≤ gb707)); clear HB; have HB := n0_; have BK707 := n1_; have GW707 := n2_; have GE707 := n3_; clear n0_ n1_ n2_ n3_; clear hb hbox hg; have hcz25_0 : w24.cell? ⟨gb707, 0, none⟩ = some (.int .i64 0) := (blk_cell BK707.out 0).trans rfl; have hcz25_1 : w24.cell? ⟨gb707, 1, none⟩ = some (.int .i64 0) := (blk_cell BK707.out 1).trans rfl; have hfz25_0 := blk_frozen BK707.out 0; have hfz25_1 := blk_frozen BK707.out 1) | ((with_reducible refine gate_callee (f := 24) rfl ?_); refine goesL_ (some 71) rfl rfl Tryd.func24 (by kernel_rfl) rfl #[.slice A0 l0.length c0, .int .i64 a3] rfl (by (try simp only [List.map_toArray, List.map_cons, List.map_nil]); first | done | rfl | (simp only [List.length_drop, List.length_take]; rfl)) ?_; (with_reducible refine (curve_Low.calls _ _ l0 a3 t708 t709 _ ?side1 ?side2 A20.out).mono ?_); (case side1 => exact Kd.C_below HR0.out (by repeat (first | (with_reducible first | exact HB.out | apply below_alloc | apply pw_below_drewN | apply below_drew1 | refine below_set ?_ GE707.out) | exact HB.out))); (case side2 => exact HC0.out); rintro e w26 ⟨rfl, hb⟩; refine ⟨_, rfl, ?_⟩; have n0_ := Aside0.mk (blk_below (g := gb707) (o := .cells #[.int .i64 t704, .int .i64 t705] 43 (0, 0)) (by (with_reducible repeat (first | refine blk_drewN ?_ _ | refine blk_drew ?_ | refine blk_alloc ?_ _)); refine blk_put (cs := #[.int .i64 t704, .int .i64 0]) ?_ 1 _ rfl; (with_reducible repeat (first | refine blk_drewN ?_ _ | refine blk_drew ?_ | refine blk_alloc ?_ _)); refine blk_put (cs := #[.int .i64 0, .int .i64 0]) ?_ 0 _ rfl; (with_reducible repeat (first | refine blk_drewN ?_ _ | refine blk_drew ?_ | refine blk_alloc ?_ _)); exact BK707.out) hb); have n1_ := Aside0.mk (below_step (by repeat (first | (with_reducible first | exact HB.out | apply below_alloc | apply pw_below_drewN | apply below_drew1 | refine below_set ?_ GE707.out) | exact HB.out)) hb); clear BK707; clear HB; have BK707 := n0_; have HB := n1_; clear n0_ n1_; (try clear hb); (try clear hb2); (try clear hk); (try clear hi)) | ((with_reducible refine gate_callee (f := 26) rfl ?_); refine goesL_ (some 77) rfl rfl Tryd.func26 (by kernel_rfl) rfl #[.slice A0 l0.length c0, .int .i64 a3] rfl (by (try simp only [List.map_toArray, List.map_cons, List.map_nil]); first | done | rfl | (simp only [List.length_drop, List.length_take]; rfl)) ?_; (with_reducible refine (curve_High.calls _ _ l0 a3 t710 t711 _ ?side1 ?side2 A21.out).mono ?_); (case side1 => repeat (first | exact (Kd.C_below HR0.out HB.out) | (with_reducible refine Kd.C_alloc ?_ _) | (with_reducible refine Kd.C_drewN ?_ _) | (with_reducible refine Kd.C_drew ?_))); (case side2 => exact HC0.out); rintro e w27 ⟨rfl, hb⟩; refine ⟨_, rfl, ?_⟩; have n0_ := Aside0.mk (blk_below (g := gb707) (o := .cells #[.int .i64 t704, .int .i64 t705] 43 (0, 0)) (by (with_reducible repeat (first | refine blk_drewN ?_ _ | refine blk_drew ?_ | refine blk_alloc ?_ _)); exact BK707.out) hb); have n1_ := Aside0.mk (below_step (by repeat (first | (with_reducible first | exact HB.out | apply below_alloc | apply pw_below_drewN | apply below_drew1 | refine below_set ?_ GE707.out) | exact HB.out)) hb); clear BK707; clear HB; have BK707 := n0_; have HB := n1_; clear n0_ n1_; (try clear hb); (try clear hb2); (try clear hk); (try clear hi)))
      (try simp only [Act.put, List.setIfInBounds_toArray, List.set_cons_zero, List.set_cons_succ])
      go_cut [100] (fun v100 wc => ∃ (kq : Nat) (x100_21 : Bool), v100 = .bool x100_21 ∧ Aside0 (law_CurveThrough.j1 kq l0 l1 l2 a3 a4 t708 t710 x100_21 t704 t705 = some r) ∧ Aside0 (kq ≤ kj7) ∧ Aside0 (wc.heap[gb707]? = some (.cells #[.int .i64 t704, .int .i64 t705] 43 (0, 0))) ∧ Aside0 (Below w.heap.size w wc))
      case first => as_aux_lemma =>
       have H := HC22.out
       clear HC22
       by_cases c28 : t709 = 0
       ·
        rw [if_pos c28] at H
        have c28b0 : (t709 == 0) = true := beq_iff_eq.mpr c28
        have c28b1 : (t709 != 0) = false := bne_eq_false_iff_eq.mpr c28
        clear c28
        (first | rw [c28b0] | (simp only [i64_w, i32_w]; rw [c28b0]) | skip)
        by_cases c29 : t711 = 0
        ·
         rw [if_pos c29] at H
         have c29b0 : (t711 == 0) = true := beq_iff_eq.mpr c29
         have c29b1 : (t711 != 0) = false := bne_eq_false_iff_eq.mpr c29
         clear c29
         by_cases c30 : t704 > t705
         ·
          rw [if_pos c30] at H
          have c30b0 : decide (t705 < t704) = true := decide_eq_true c30
          clear c30
          have H' := Aside0.mk H
          clear H
          have hcz31_0 : w27.cell? ⟨gb707, 0, none⟩ = some (.int .i64 t704) := (blk_cell BK707.out 0).trans rfl
          have hcz31_1 : w27.cell? ⟨gb707, 1, none⟩ = some (.int .i64 t705) := (blk_cell BK707.out 1).trans rfl
          have hfz31_0 := blk_frozen BK707.out 0
          have hfz31_1 := blk_frozen BK707.out 1
          go_wp2
          go_meet
          case rel => exact ⟨_, (true), (by first | rfl | (simp; done) | (simp [*]; done)), H', ⟨by have := HJ7.out; first | omega | exact Nat.le_refl _⟩, ⟨by (with_reducible repeat (first | refine blk_drewN ?_ _ | refine blk_drew ?_ | refine blk_alloc ?_ _)); exact BK707.out⟩, ⟨by repeat (first | (with_reducible first | exact HB.out | apply below_alloc | apply pw_below_drewN | apply below_drew1 | refine below_set ?_ GE707.out) | exact HB.out)⟩⟩
         ·
          rw [if_neg c30] at H
          have c30b0 : decide (t705 < t704) = false := decide_eq_false c30
          clear c30
          have H' := Aside0.mk H
          clear H
          have hcz32_0 : w27.cell? ⟨gb707, 0, none⟩ = some (.int .i64 t704) := (blk_cell BK707.out 0).trans rfl
          have hcz32_1 : w27.cell? ⟨gb707, 1, none⟩ = some (.int .i64 t705) := (blk_cell BK707.out 1).trans rfl
          have hfz32_0 := blk_frozen BK707.out 0
          have hfz32_1 := blk_frozen BK707.out 1
          go_wp2
          go_meet
          case rel => exact ⟨_, (decide ((wrap64 (t705 - t704)) > 1)), (by first | rfl | (simp; done) | (simp [*]; done)), H', ⟨by have := HJ7.out; first | omega | exact Nat.le_refl _⟩, ⟨by (with_reducible repeat (first | refine blk_drewN ?_ _ | refine blk_drew ?_ | refine blk_alloc ?_ _)); exact BK707.out⟩, ⟨by repeat (first | (with_reducible first | exact HB.out | apply below_alloc | apply pw_below_drewN | apply below_drew1 | refine below_set ?_ GE707.out) | exact HB.out)⟩⟩
        ·
         rw [if_neg c29] at H
         have c29b0 : (t711 == 0) = false := beq_eq_false_iff_ne.mpr c29
         have c29b1 : (t711 != 0) = true := bne_iff_ne.mpr c29
         have H' := Aside0.mk H
         clear H
         go_wp2
         go_meet
         case rel => exact ⟨_, (true), (by first | rfl | (simp; done) | (simp [*]; done)), H', ⟨by have := HJ7.out; first | omega | exact Nat.le_refl _⟩, ⟨by (with_reducible repeat (first | refine blk_drewN ?_ _ | refine blk_drew ?_ | refine blk_alloc ?_ _)); exact BK707.out⟩, ⟨by repeat (first | (with_reducible first | exact HB.out | apply below_alloc | apply pw_below_drewN | apply below_drew1 | refine below_set ?_ GE707.out) | exact HB.out)⟩⟩
       ·
        rw [if_neg c28] at H
        have c28b0 : (t709 == 0) = false := beq_eq_false_iff_ne.mpr c28
        have c28b1 : (t709 != 0) = true := bne_iff_ne.mpr c28
        (first | rw [c28b0] | (simp only [i64_w, i32_w]; rw [c28b0]) | skip)
        have H' := Aside0.mk H
        clear H
        go_wp2
        go_meet
        case rel => exact ⟨_, (true), (by first | rfl | (simp; done) | (simp [*]; done)), H', ⟨by have := HJ7.out; first | omega | exact Nat.le_refl _⟩, ⟨by (with_reducible repeat (first | refine blk_drewN ?_ _ | refine blk_drew ?_ | refine blk_alloc ?_ _)); exact BK707.out⟩, ⟨by repeat (first | (with_reducible first | exact HB.out | apply below_alloc | apply pw_below_drewN | apply below_drew1 | refine below_set ?_ GE707.out) | exact HB.out)⟩⟩
      case rest => as_aux_lemma =>
       clear HC22
       try clear c1
       try clear c2
       try clear p2
       try clear c3
       try clear c4
       try clear p6
       try clear c7
       try clear c11
       try clear c13
       try clear c15
       try clear c17
       try clear c18
       try clear c19
       try clear c19b0
       try clear c19b1
       try clear c24
       try clear c26
       try clear c28
       try clear c28b0
       try clear c28b1
       try clear c29
       try clear c29b0
       try clear c29b1
       try clear c30
       try clear c30b0
       try clear hcz25_0
       try clear hcz25_1
       try clear hcz31_0
       try clear hcz31_1
       try clear hcz32_0
       try clear hcz32_1
       try clear hfz25_0
       try clear hfz25_1
       try clear hfz31_0
       try clear hfz31_1
       try clear hfz32_0
       try clear hfz32_1
       try clear p2
       obtain ⟨kq, x100_21, rfl, HA, HJ21, BK707, HB⟩ := hcut
       cases kq with
       | zero => exact absurd HA.out (by simp [law_CurveThrough.j1])
       | succ kj21 =>
        have H := HA.out
        clear HA
        simp only [law_CurveThrough.j1] at H
        by_cases c33 : x100_21 = true
        ·
         subst c33
         have H1 : (some false) = some r := by rw [if_pos rfl] at H; exact H
         clear H
         have H := H1
         clear H1
         obtain rfl := Option.some.inj H
         go_wp2
         go_ret
         exact ⟨by first | rfl | (simp [errW_none, errW_some] <;> rfl) | (simp [*, errW_none, errW_some] <;> rfl), by repeat (first | (with_reducible first | exact HB.out | apply below_alloc | apply pw_below_drewN | apply below_drew1 | refine below_set ?_ GE707.out) | exact HB.out)⟩
        ·
         replace c33 := Bool.eq_false_iff.mpr c33
         subst c33
         have H1 : ((ref_In.f l1 t708).bind fun t712 => (if t712 = true then ((ref_In.f l1 t710).bind fun t713 => (law_CurveThrough.j2 kj21 l0 l1 l2 a3 a4 t708 t710 t713 t704 t705)) else (law_CurveThrough.j2 kj21 l0 l1 l2 a3 a4 t708 t710 false t704 t705))) = some r := by rw [if_neg (show ¬ (false = true) by decide)] at H; exact H
         clear H
         have H := H1
         clear H1
         have HC34 := Aside0.mk H
         clear H
         go_upto_region 12 with (fail)
         go_cut [108] (fun v108 wc => ∃ (kq : Nat) (x108_33 : Bool), v108 = .bool x108_33 ∧ Aside0 (law_CurveThrough.j2 kq l0 l1 l2 a3 a4 t708 t710 x108_33 t704 t705 = some r) ∧ Aside0 (kq ≤ kj21) ∧ Aside0 (wc.heap[gb707]? = some (.cells #[.int .i64 t704, .int .i64 t705] 43 (0, 0))) ∧ Aside0 (Below w.heap.size w wc))
         case first => as_aux_lemma =>
          have H := HC34.out
          clear HC34
          replace H := Option.bind_eq_some_iff.mp H
          obtain ⟨t712, A350, H⟩ := H
          replace H : (if t712 = true then ((ref_In.f l1 t710).bind fun t713 => (law_CurveThrough.j2 kj21 l0 l1 l2 a3 a4 t708 t710 t713 t704 t705)) else (law_CurveThrough.j2 kj21 l0 l1 l2 a3 a4 t708 t710 false t704 t705)) = some r := H
          have A35 := Aside0.mk A350
          clear A350
          by_cases c36 : t712 = true
          ·
           subst c36
           have H1 : ((ref_In.f l1 t710).bind fun t713 => (law_CurveThrough.j2 kj21 l0 l1 l2 a3 a4 t708 t710 t713 t704 t705)) = some r := by rw [if_pos rfl] at H; exact H
           clear H
           have H := H1
           clear H1
           replace H := Option.bind_eq_some_iff.mp H
           obtain ⟨t713, A370, H⟩ := H
           replace H : (law_CurveThrough.j2 kj21 l0 l1 l2 a3 a4 t708 t710 t713 t704 t705) = some r := H
           have A37 := Aside0.mk A370
           clear A370
           have H' := Aside0.mk H
           clear H
           go_wp2_with (first | ((with_reducible refine gate_callee (f := 43) rfl ?_); refine goesL_ (some 103) rfl rfl Tryd.func43 (by kernel_rfl) rfl #[.slice A1 l1.length c1, .int .i64 t708] rfl (by (try simp only [List.map_toArray, List.map_cons, List.map_nil]); first | done | rfl | (simp only [List.length_drop, List.length_take]; rfl)) ?_; (with_reducible refine (ref_In.calls _ _ l1 t708 true _ ?side1 ?side2 A35.out).mono ?_); (case side1 => repeat (first | exact (Kd.C_below HR1.out HB.out) | (with_reducible refine Kd.C_alloc ?_ _) | (with_reducible refine Kd.C_drewN ?_ _) | (with_reducible refine Kd.C_drew ?_))); (case side2 => exact HC1.out); rintro e w' ⟨rfl, ⟨nd, rfl⟩⟩; refine ⟨_, rfl, ?_⟩) | (go_at_call 43; (with_reducible refine (ref_In.calls _ _ l1 t710 t713 _ ?side1 ?side2 A37.out).mono ?_); (case side1 => repeat (first | exact (Kd.C_below HR1.out (by repeat (first | (with_reducible first | exact HB.out | apply below_alloc | apply pw_below_drewN | apply below_drew1 | refine below_set ?_ GE707.out) | exact HB.out))) | (with_reducible refine Kd.C_alloc ?_ _) | (with_reducible refine Kd.C_drewN ?_ _) | (with_reducible refine Kd.C_drew ?_))); (case side2 => exact HC1.out); rintro e w' ⟨rfl, ⟨nd, rfl⟩⟩))
           go_meet
           case rel => exact ⟨_, (t713), (by first | rfl | (simp; done) | (simp [*]; done)), H', ⟨by have := HJ7.out; have := HJ21.out; first | omega | exact Nat.le_refl _⟩, ⟨by (with_reducible repeat (first | refine blk_drewN ?_ _ | refine blk_drew ?_ | refine blk_alloc ?_ _)); exact BK707.out⟩, ⟨by repeat (first | (with_reducible first | exact HB.out | apply below_alloc | apply pw_below_drewN | apply below_drew1 | refine below_set ?_ GE707.out) | exact HB.out)⟩⟩
          ·
           replace c36 := Bool.eq_false_iff.mpr c36
           subst c36
           have H1 : (law_CurveThrough.j2 kj21 l0 l1 l2 a3 a4 t708 t710 false t704 t705) = some r := by rw [if_neg (show ¬ (false = true) by decide)] at H; exact H
           clear H
           have H := H1
           clear H1
           have H' := Aside0.mk H
           clear H
           go_wp2_with (first | ((with_reducible refine gate_callee (f := 43) rfl ?_); refine goesL_ (some 103) rfl rfl Tryd.func43 (by kernel_rfl) rfl #[.slice A1 l1.length c1, .int .i64 t708] rfl (by (try simp only [List.map_toArray, List.map_cons, List.map_nil]); first | done | rfl | (simp only [List.length_drop, List.length_take]; rfl)) ?_; (with_reducible refine (ref_In.calls _ _ l1 t708 false _ ?side1 ?side2 A35.out).mono ?_); (case side1 => repeat (first | exact (Kd.C_below HR1.out HB.out) | (with_reducible refine Kd.C_alloc ?_ _) | (with_reducible refine Kd.C_drewN ?_ _) | (with_reducible refine Kd.C_drew ?_))); (case side2 => exact HC1.out); rintro e w' ⟨rfl, ⟨nd, rfl⟩⟩; refine ⟨_, rfl, ?_⟩))
           go_meet
           case rel => exact ⟨_, (false), (by first | rfl | (simp; done) | (simp [*]; done)), H', ⟨by have := HJ7.out; have := HJ21.out; first | omega | exact Nat.le_refl _⟩, ⟨by (with_reducible repeat (first | refine blk_drewN ?_ _ | refine blk_drew ?_ | refine blk_alloc ?_ _)); exact BK707.out⟩, ⟨by repeat (first | (with_reducible first | exact HB.out | apply below_alloc | apply pw_below_drewN | apply below_drew1 | refine below_set ?_ GE707.out) | exact HB.out)⟩⟩
         case rest => as_aux_lemma =>
          clear HC34
          try clear c1
          try clear c2
          try clear p2
          try clear c3
          try clear c4
          try clear p6
          try clear c7
          try clear c11
          try clear c13
          try clear c15
          try clear c17
          try clear c18
          try clear c19
          try clear c19b0
          try clear c19b1
          try clear c24
          try clear c26
          try clear c28
          try clear c28b0
          try clear c28b1
          try clear c29
          try clear c29b0
          try clear c29b1
          try clear c30
          try clear c30b0
          try clear c33
          try clear c36
          try clear hcz25_0
          try clear hcz25_1
          try clear hcz31_0
          try clear hcz31_1
          try clear hcz32_0
          try clear hcz32_1
          try clear hfz25_0
          try clear hfz25_1
          try clear hfz31_0
          try clear hfz31_1
          try clear hfz32_0
          try clear hfz32_1
          try clear p2
          try clear p6
          obtain ⟨kq, x108_33, rfl, HA, HJ33, BK707, HB⟩ := hcut
          cases kq with
          | zero => exact absurd HA.out (by simp [law_CurveThrough.j2])
          | succ kj33 =>
           have H := HA.out
           clear HA
           simp only [law_CurveThrough.j2] at H
           have HC38 := Aside0.mk H
           clear H
           go_upto_if 108 with (fail)
           go_cut [] (fun wc => ∃ (kq : Nat), Aside0 (law_CurveThrough.j4 kq l0 l1 l2 a3 a4 t704 t705 = some r) ∧ Aside0 (kq ≤ kj33) ∧ Aside0 (wc.heap[gb707]? = some (.cells #[.int .i64 t704, .int .i64 t705] 43 (0, 0))) ∧ Aside0 (Below w.heap.size w wc))
           case first => as_aux_lemma =>
            have H := HC38.out
            clear HC38
            by_cases c39 : x108_33 = true
            ·
             subst c39
             have H1 : ((curve_Low.f l1 t708).bind fun bt714 => ((curve_High.f l1 t710).bind fun bt716 => (if bt714.2 = 0 then (if bt716.2 = 0 then (if t704 < bt714.1 then (law_CurveThrough.j3 kj33 l0 l1 l2 a3 a4 true t704 t705) else (law_CurveThrough.j3 kj33 l0 l1 l2 a3 a4 (decide (t705 > bt716.1)) t704 t705)) else (law_CurveThrough.j3 kj33 l0 l1 l2 a3 a4 true t704 t705)) else (law_CurveThrough.j3 kj33 l0 l1 l2 a3 a4 true t704 t705)))) = some r := by rw [if_pos rfl] at H; exact H
             clear H
             have H := H1
             clear H1
             replace H := Option.bind_eq_some_iff.mp H
             obtain ⟨⟨t714, t715⟩, A400, H⟩ := H
             replace H : ((curve_High.f l1 t710).bind fun bt716 => (if t715 = 0 then (if bt716.2 = 0 then (if t704 < t714 then (law_CurveThrough.j3 kj33 l0 l1 l2 a3 a4 true t704 t705) else (law_CurveThrough.j3 kj33 l0 l1 l2 a3 a4 (decide (t705 > bt716.1)) t704 t705)) else (law_CurveThrough.j3 kj33 l0 l1 l2 a3 a4 true t704 t705)) else (law_CurveThrough.j3 kj33 l0 l1 l2 a3 a4 true t704 t705))) = some r := H
             have A40 := Aside0.mk A400
             clear A400
             replace H := Option.bind_eq_some_iff.mp H
             obtain ⟨⟨t716, t717⟩, A410, H⟩ := H
             replace H : (if t715 = 0 then (if t717 = 0 then (if t704 < t714 then (law_CurveThrough.j3 kj33 l0 l1 l2 a3 a4 true t704 t705) else (law_CurveThrough.j3 kj33 l0 l1 l2 a3 a4 (decide (t705 > t716)) t704 t705)) else (law_CurveThrough.j3 kj33 l0 l1 l2 a3 a4 true t704 t705)) else (law_CurveThrough.j3 kj33 l0 l1 l2 a3 a4 true t704 t705)) = some r := H
             have A41 := Aside0.mk A410
             clear A410
             have HC42 := Aside0.mk H
             clear H
             go_upto_region 15 with (first | ((with_reducible refine gate_callee (f := 24) rfl ?_); refine goesL_ (some 112) rfl rfl Tryd.func24 (by kernel_rfl) rfl #[.slice A1 l1.length c1, .int .i64 t708] rfl (by (try simp only [List.map_toArray, List.map_cons, List.map_nil]); first | done | rfl | (simp only [List.length_drop, List.length_take]; rfl)) ?_; (with_reducible refine (curve_Low.calls _ _ l1 t708 t714 t715 _ ?side1 ?side2 A40.out).mono ?_); (case side1 => repeat (first | exact (Kd.C_below HR1.out HB.out) | (with_reducible refine Kd.C_alloc ?_ _) | (with_reducible refine Kd.C_drewN ?_ _) | (with_reducible refine Kd.C_drew ?_))); (case side2 => exact HC1.out); rintro e w43 ⟨rfl, hb⟩; refine ⟨_, rfl, ?_⟩; have n0_ := Aside0.mk (blk_below (g := gb707) (o := .cells #[.int .i64 t704, .int .i64 t705] 43 (0, 0)) (by (with_reducible repeat (first | refine blk_drewN ?_ _ | refine blk_drew ?_ | refine blk_alloc ?_ _)); exact BK707.out) hb); have n1_ := Aside0.mk (below_step (by repeat (first | (with_reducible first | exact HB.out | apply below_alloc | apply pw_below_drewN | apply below_drew1 | refine below_set ?_ GE707.out) | exact HB.out)) hb); clear BK707; clear HB; have BK707 := n0_; have HB := n1_; clear n0_ n1_; (try clear hb); (try clear hb2); (try clear hk); (try clear hi)) | ((with_reducible refine gate_callee (f := 26) rfl ?_); refine goesL_ (some 118) rfl rfl Tryd.func26 (by kernel_rfl) rfl #[.slice A1 l1.length c1, .int .i64 t710] rfl (by (try simp only [List.map_toArray, List.map_cons, List.map_nil]); first | done | rfl | (simp only [List.length_drop, List.length_take]; rfl)) ?_; (with_reducible refine (curve_High.calls _ _ l1 t710 t716 t717 _ ?side1 ?side2 A41.out).mono ?_); (case side1 => repeat (first | exact (Kd.C_below HR1.out HB.out) | (with_reducible refine Kd.C_alloc ?_ _) | (with_reducible refine Kd.C_drewN ?_ _) | (with_reducible refine Kd.C_drew ?_))); (case side2 => exact HC1.out); rintro e w44 ⟨rfl, hb⟩; refine ⟨_, rfl, ?_⟩; have n0_ := Aside0.mk (blk_below (g := gb707) (o := .cells #[.int .i64 t704, .int .i64 t705] 43 (0, 0)) (by (with_reducible repeat (first | refine blk_drewN ?_ _ | refine blk_drew ?_ | refine blk_alloc ?_ _)); exact BK707.out) hb); have n1_ := Aside0.mk (below_step (by repeat (first | (with_reducible first | exact HB.out | apply below_alloc | apply pw_below_drewN | apply below_drew1 | refine below_set ?_ GE707.out) | exact HB.out)) hb); clear BK707; clear HB; have BK707 := n0_; have HB := n1_; clear n0_ n1_; (try clear hb); (try clear hb2); (try clear hk); (try clear hi)))
             (try simp only [Act.put, List.setIfInBounds_toArray, List.set_cons_zero, List.set_cons_succ])
             go_cut [138] (fun v138 wc => ∃ (kq : Nat) (x138_41 : Bool), v138 = .bool x138_41 ∧ Aside0 (law_CurveThrough.j3 kq l0 l1 l2 a3 a4 x138_41 t704 t705 = some r) ∧ Aside0 (kq ≤ kj33) ∧ Aside0 (wc.heap[gb707]? = some (.cells #[.int .i64 t704, .int .i64 t705] 43 (0, 0))) ∧ Aside0 (Below w.heap.size w wc))
             case first => as_aux_lemma =>
              have H := HC42.out
              clear HC42
              by_cases c45 : t715 = 0
              ·
               rw [if_pos c45] at H
               have c45b0 : (t715 == 0) = true := beq_iff_eq.mpr c45
               have c45b1 : (t715 != 0) = false := bne_eq_false_iff_eq.mpr c45
               clear c45
               (first | rw [c45b0] | (simp only [i64_w, i32_w]; rw [c45b0]) | skip)
               by_cases c46 : t717 = 0
               ·
                rw [if_pos c46] at H
                have c46b0 : (t717 == 0) = true := beq_iff_eq.mpr c46
                have c46b1 : (t717 != 0) = false := bne_eq_false_iff_eq.mpr c46
                clear c46
                by_cases c47 : t704 < t714
                ·
                 rw [if_pos c47] at H
                 have c47b0 : decide (t704 < t714) = true := decide_eq_true c47
                 clear c47
                 have H' := Aside0.mk H
                 clear H
                 have hcz48_0 : w44.cell? ⟨gb707, 0, none⟩ = some (.int .i64 t704) := (blk_cell BK707.out 0).trans rfl
                 have hcz48_1 : w44.cell? ⟨gb707, 1, none⟩ = some (.int .i64 t705) := (blk_cell BK707.out 1).trans rfl
                 have hfz48_0 := blk_frozen BK707.out 0
                 have hfz48_1 := blk_frozen BK707.out 1
                 go_wp2
                 go_meet
                 case rel => exact ⟨_, (true), (by first | rfl | (simp; done) | (simp [*]; done)), H', ⟨by have := HJ7.out; have := HJ21.out; have := HJ33.out; first | omega | exact Nat.le_refl _⟩, ⟨by (with_reducible repeat (first | refine blk_drewN ?_ _ | refine blk_drew ?_ | refine blk_alloc ?_ _)); exact BK707.out⟩, ⟨by repeat (first | (with_reducible first | exact HB.out | apply below_alloc | apply pw_below_drewN | apply below_drew1 | refine below_set ?_ GE707.out) | exact HB.out)⟩⟩
                ·
                 rw [if_neg c47] at H
                 have c47b0 : decide (t704 < t714) = false := decide_eq_false c47
                 clear c47
                 have H' := Aside0.mk H
                 clear H
                 have hcz49_0 : w44.cell? ⟨gb707, 0, none⟩ = some (.int .i64 t704) := (blk_cell BK707.out 0).trans rfl
                 have hcz49_1 : w44.cell? ⟨gb707, 1, none⟩ = some (.int .i64 t705) := (blk_cell BK707.out 1).trans rfl
                 have hfz49_0 := blk_frozen BK707.out 0
                 have hfz49_1 := blk_frozen BK707.out 1
                 go_wp2
                 go_meet
                 case rel => exact ⟨_, (decide (t705 > t716)), (by first | rfl | (simp; done) | (simp [*]; done)), H', ⟨by have := HJ7.out; have := HJ21.out; have := HJ33.out; first | omega | exact Nat.le_refl _⟩, ⟨by (with_reducible repeat (first | refine blk_drewN ?_ _ | refine blk_drew ?_ | refine blk_alloc ?_ _)); exact BK707.out⟩, ⟨by repeat (first | (with_reducible first | exact HB.out | apply below_alloc | apply pw_below_drewN | apply below_drew1 | refine below_set ?_ GE707.out) | exact HB.out)⟩⟩
               ·
                rw [if_neg c46] at H
                have c46b0 : (t717 == 0) = false := beq_eq_false_iff_ne.mpr c46
                have c46b1 : (t717 != 0) = true := bne_iff_ne.mpr c46
                have H' := Aside0.mk H
                clear H
                go_wp2
                go_meet
                case rel => exact ⟨_, (true), (by first | rfl | (simp; done) | (simp [*]; done)), H', ⟨by have := HJ7.out; have := HJ21.out; have := HJ33.out; first | omega | exact Nat.le_refl _⟩, ⟨by (with_reducible repeat (first | refine blk_drewN ?_ _ | refine blk_drew ?_ | refine blk_alloc ?_ _)); exact BK707.out⟩, ⟨by repeat (first | (with_reducible first | exact HB.out | apply below_alloc | apply pw_below_drewN | apply below_drew1 | refine below_set ?_ GE707.out) | exact HB.out)⟩⟩
              ·
               rw [if_neg c45] at H
               have c45b0 : (t715 == 0) = false := beq_eq_false_iff_ne.mpr c45
               have c45b1 : (t715 != 0) = true := bne_iff_ne.mpr c45
               (first | rw [c45b0] | (simp only [i64_w, i32_w]; rw [c45b0]) | skip)
               have H' := Aside0.mk H
               clear H
               go_wp2
               go_meet
               case rel => exact ⟨_, (true), (by first | rfl | (simp; done) | (simp [*]; done)), H', ⟨by have := HJ7.out; have := HJ21.out; have := HJ33.out; first | omega | exact Nat.le_refl _⟩, ⟨by (with_reducible repeat (first | refine blk_drewN ?_ _ | refine blk_drew ?_ | refine blk_alloc ?_ _)); exact BK707.out⟩, ⟨by repeat (first | (with_reducible first | exact HB.out | apply below_alloc | apply pw_below_drewN | apply below_drew1 | refine below_set ?_ GE707.out) | exact HB.out)⟩⟩
             case rest => as_aux_lemma =>
              clear HC42
              try clear c1
              try clear c2
              try clear p2
              try clear c3
              try clear c4
              try clear p6
              try clear c7
              try clear c11
              try clear c13
              try clear c15
              try clear c17
              try clear c18
              try clear c19
              try clear c19b0
              try clear c19b1
              try clear c24
              try clear c26
              try clear c28
              try clear c28b0
              try clear c28b1
              try clear c29
              try clear c29b0
              try clear c29b1
              try clear c30
              try clear c30b0
              try clear c33
              try clear c36
              try clear c39
              try clear c40
              try clear c42
              try clear c43
              try clear c45
              try clear c45b0
              try clear c45b1
              try clear c46
              try clear c46b0
              try clear c46b1
              try clear c47
              try clear c47b0
              try clear hcz25_0
              try clear hcz25_1
              try clear hcz31_0
              try clear hcz31_1
              try clear hcz32_0
              try clear hcz32_1
              try clear hcz48_0
              try clear hcz48_1
              try clear hcz49_0
              try clear hcz49_1
              try clear hfz25_0
              try clear hfz25_1
              try clear hfz31_0
              try clear hfz31_1
              try clear hfz32_0
              try clear hfz32_1
              try clear hfz48_0
              try clear hfz48_1
              try clear hfz49_0
              try clear hfz49_1
              try clear p2
              try clear p6
              obtain ⟨kq, x138_41, rfl, HA, HJ41, BK707, HB⟩ := hcut
              cases kq with
              | zero => exact absurd HA.out (by simp [law_CurveThrough.j3])
              | succ kj41 =>
               have H := HA.out
               clear HA
               simp only [law_CurveThrough.j3] at H
               by_cases c50 : x138_41 = true
               ·
                subst c50
                have H1 : (some false) = some r := by rw [if_pos rfl] at H; exact H
                clear H
                have H := H1
                clear H1
                obtain rfl := Option.some.inj H
                go_wp2
                go_ret
                exact ⟨by first | rfl | (simp [errW_none, errW_some] <;> rfl) | (simp [*, errW_none, errW_some] <;> rfl), by repeat (first | (with_reducible first | exact HB.out | apply below_alloc | apply pw_below_drewN | apply below_drew1 | refine below_set ?_ GE707.out) | exact HB.out)⟩
               ·
                replace c50 := Bool.eq_false_iff.mpr c50
                subst c50
                have H1 : (law_CurveThrough.j4 kj41 l0 l1 l2 a3 a4 t704 t705) = some r := by rw [if_neg (show ¬ (false = true) by decide)] at H; exact H
                clear H
                have H := H1
                clear H1
                have H' := Aside0.mk H
                clear H
                go_wp2
                go_meet
                case rel => exact ⟨_, H', ⟨by have := HJ7.out; have := HJ21.out; have := HJ33.out; have := HJ41.out; first | omega | exact Nat.le_refl _⟩, ⟨by (with_reducible repeat (first | refine blk_drewN ?_ _ | refine blk_drew ?_ | refine blk_alloc ?_ _)); exact BK707.out⟩, ⟨by repeat (first | (with_reducible first | exact HB.out | apply below_alloc | apply pw_below_drewN | apply below_drew1 | refine below_set ?_ GE707.out) | exact HB.out)⟩⟩
            ·
             replace c39 := Bool.eq_false_iff.mpr c39
             subst c39
             have H1 : (law_CurveThrough.j4 kj33 l0 l1 l2 a3 a4 t704 t705) = some r := by rw [if_neg (show ¬ (false = true) by decide)] at H; exact H
             clear H
             have H := H1
             clear H1
             have H' := Aside0.mk H
             clear H
             go_wp2
             go_meet
             case rel => exact ⟨_, H', ⟨by have := HJ7.out; have := HJ21.out; have := HJ33.out; first | omega | exact Nat.le_refl _⟩, ⟨by (with_reducible repeat (first | refine blk_drewN ?_ _ | refine blk_drew ?_ | refine blk_alloc ?_ _)); exact BK707.out⟩, ⟨by repeat (first | (with_reducible first | exact HB.out | apply below_alloc | apply pw_below_drewN | apply below_drew1 | refine below_set ?_ GE707.out) | exact HB.out)⟩⟩
           case rest => as_aux_lemma =>
            clear HC38
            try clear c1
            try clear c2
            try clear p2
            try clear c3
            try clear c4
            try clear c5
            try clear p6
            try clear c7
            try clear c11
            try clear c13
            try clear c15
            try clear c17
            try clear c18
            try clear c19
            try clear c19b0
            try clear c19b1
            try clear c24
            try clear c26
            try clear c28
            try clear c28b0
            try clear c28b1
            try clear c29
            try clear c29b0
            try clear c29b1
            try clear c30
            try clear c30b0
            try clear c33
            try clear c36
            try clear c39
            try clear c40
            try clear c42
            try clear c43
            try clear c45
            try clear c45b0
            try clear c45b1
            try clear c46
            try clear c46b0
            try clear c46b1
            try clear c47
            try clear c47b0
            try clear c50
            try clear hcz25_0
            try clear hcz25_1
            try clear hcz31_0
            try clear hcz31_1
            try clear hcz32_0
            try clear hcz32_1
            try clear hcz48_0
            try clear hcz48_1
            try clear hcz49_0
            try clear hcz49_1
            try clear hfz25_0
            try clear hfz25_1
            try clear hfz31_0
            try clear hfz31_1
            try clear hfz32_0
            try clear hfz32_1
            try clear hfz48_0
            try clear hfz48_1
            try clear hfz49_0
            try clear hfz49_1
            try clear p2
            try clear p6
            obtain ⟨kq, HA, HJ37, BK707, HB⟩ := hcut
            cases kq with
            | zero => exact absurd HA.out (by simp [law_CurveThrough.j4])
            | succ kj37 =>
             have H := HA.out
             clear HA
             simp only [law_CurveThrough.j4] at H
             have HC51 := Aside0.mk H
             clear H
             go_upto_region 17 with (fail)
             go_cut [151] (fun v151 wc => ∃ (kq : Nat) (x151_50 : Bool), v151 = .bool x151_50 ∧ Aside0 (law_CurveThrough.j5 kq l0 l1 l2 a3 a4 x151_50 t704 t705 = some r) ∧ Aside0 (kq ≤ kj37) ∧ Aside0 (wc.heap[gb707]? = some (.cells #[.int .i64 t704, .int .i64 t705] 43 (0, 0))) ∧ Aside0 (Below w.heap.size w wc))
             case first => as_aux_lemma =>
              have H := HC51.out
              clear HC51
              by_cases c52 : a4 > 0
              ·
               rw [if_pos c52] at H
               have c52b0 : decide (0 < a4) = true := decide_eq_true c52
               clear c52
               (first | rw [c52b0] | (simp only [i64_w, i32_w]; rw [c52b0]) | skip)
               by_cases c53 : a4 ≤ 16777216
               ·
                rw [if_pos c53] at H
                have c53b0 : decide (a4 ≤ 16777216) = true := decide_eq_true c53
                clear c53
                replace H := Option.bind_eq_some_iff.mp H
                obtain ⟨t718, A540, H⟩ := H
                replace H : (law_CurveThrough.j5 kj37 l0 l1 l2 a3 a4 t718 t704 t705) = some r := H
                have A54 := Aside0.mk A540
                clear A540
                have H' := Aside0.mk H
                clear H
                go_wp2_with (first | (go_at_call 43; (with_reducible refine (ref_In.calls _ _ l0 (wrap64 (a3 + a4)) t718 _ ?side1 ?side2 A54.out).mono ?_); (case side1 => repeat (first | exact (Kd.C_below HR0.out HB.out) | (with_reducible refine Kd.C_alloc ?_ _) | (with_reducible refine Kd.C_drewN ?_ _) | (with_reducible refine Kd.C_drew ?_))); (case side2 => exact HC0.out); rintro e w' ⟨rfl, ⟨nd, rfl⟩⟩))
                go_meet
                case rel => exact ⟨_, (t718), (by first | rfl | (simp; done) | (simp [*]; done)), H', ⟨by have := HJ7.out; have := HJ21.out; have := HJ33.out; have := HJ37.out; first | omega | exact Nat.le_refl _⟩, ⟨by (with_reducible repeat (first | refine blk_drewN ?_ _ | refine blk_drew ?_ | refine blk_alloc ?_ _)); exact BK707.out⟩, ⟨by repeat (first | (with_reducible first | exact HB.out | apply below_alloc | apply pw_below_drewN | apply below_drew1 | refine below_set ?_ GE707.out) | exact HB.out)⟩⟩
               ·
                rw [if_neg c53] at H
                have c53b0 : decide (a4 ≤ 16777216) = false := decide_eq_false c53
                clear c53
                have H' := Aside0.mk H
                clear H
                go_wp2
                go_meet
                case rel => exact ⟨_, (false), (by first | rfl | (simp; done) | (simp [*]; done)), H', ⟨by have := HJ7.out; have := HJ21.out; have := HJ33.out; have := HJ37.out; first | omega | exact Nat.le_refl _⟩, ⟨by (with_reducible repeat (first | refine blk_drewN ?_ _ | refine blk_drew ?_ | refine blk_alloc ?_ _)); exact BK707.out⟩, ⟨by repeat (first | (with_reducible first | exact HB.out | apply below_alloc | apply pw_below_drewN | apply below_drew1 | refine below_set ?_ GE707.out) | exact HB.out)⟩⟩
              ·
               rw [if_neg c52] at H
               have c52b0 : decide (0 < a4) = false := decide_eq_false c52
               clear c52
               (first | rw [c52b0] | (simp only [i64_w, i32_w]; rw [c52b0]) | skip)
               have H' := Aside0.mk H
               clear H
               go_wp2
               go_meet
               case rel => exact ⟨_, (false), (by first | rfl | (simp; done) | (simp [*]; done)), H', ⟨by have := HJ7.out; have := HJ21.out; have := HJ33.out; have := HJ37.out; first | omega | exact Nat.le_refl _⟩, ⟨by (with_reducible repeat (first | refine blk_drewN ?_ _ | refine blk_drew ?_ | refine blk_alloc ?_ _)); exact BK707.out⟩, ⟨by repeat (first | (with_reducible first | exact HB.out | apply below_alloc | apply pw_below_drewN | apply below_drew1 | refine below_set ?_ GE707.out) | exact HB.out)⟩⟩
             case rest => as_aux_lemma =>
              clear HC51
              try clear c1
              try clear c2
              try clear p2
              try clear c3
              try clear c4
              try clear c5
              try clear p6
              try clear c7
              try clear c11
              try clear c13
              try clear c15
              try clear c17
              try clear c18
              try clear c19
              try clear c19b0
              try clear c19b1
              try clear c24
              try clear c26
              try clear c28
              try clear c28b0
              try clear c28b1
              try clear c29
              try clear c29b0
              try clear c29b1
              try clear c30
              try clear c30b0
              try clear c33
              try clear c36
              try clear c39
              try clear c40
              try clear c42
              try clear c43
              try clear c45
              try clear c45b0
              try clear c45b1
              try clear c46
              try clear c46b0
              try clear c46b1
              try clear c47
              try clear c47b0
              try clear c50
              try clear c52
              try clear c52b0
              try clear c53
              try clear c53b0
              try clear hcz25_0
              try clear hcz25_1
              try clear hcz31_0
              try clear hcz31_1
              try clear hcz32_0
              try clear hcz32_1
              try clear hcz48_0
              try clear hcz48_1
              try clear hcz49_0
              try clear hcz49_1
              try clear hfz25_0
              try clear hfz25_1
              try clear hfz31_0
              try clear hfz31_1
              try clear hfz32_0
              try clear hfz32_1
              try clear hfz48_0
              try clear hfz48_1
              try clear hfz49_0
              try clear hfz49_1
              try clear p2
              try clear p6
              obtain ⟨kq, x151_50, rfl, HA, HJ50, BK707, HB⟩ := hcut
              cases kq with
              | zero => exact absurd HA.out (by simp [law_CurveThrough.j5])
              | succ kj50 =>
               have H := HA.out
               clear HA
               simp only [law_CurveThrough.j5] at H
               have HC55 := Aside0.mk H
               clear H
               go_upto_if 151 with (fail)
               go_cut [] (fun wc => ∃ (kq : Nat), Aside0 (law_CurveThrough.j7 kq l0 l1 l2 a3 t704 t705 = some r) ∧ Aside0 (kq ≤ kj50) ∧ Aside0 (wc.heap[gb707]? = some (.cells #[.int .i64 t704, .int .i64 t705] 43 (0, 0))) ∧ Aside0 (Below w.heap.size w wc))
               case first => as_aux_lemma =>
                have H := HC55.out
                clear HC55
                by_cases c56 : x151_50 = true
                ·
                 subst c56
                 have H1 : ((curve_Through.f l0 l1 (wrap64 (a3 + a4))).bind fun bt719 => (if bt719.2.2 = 0 then (if bt719.1 < t704 then (law_CurveThrough.j6 kj50 l0 l1 l2 a3 true t704 t705) else (law_CurveThrough.j6 kj50 l0 l1 l2 a3 (decide (bt719.2.1 < t705)) t704 t705)) else (if bt719.2.2 = 1 then (law_CurveThrough.j6 kj50 l0 l1 l2 a3 false t704 t705) else (law_CurveThrough.j6 kj50 l0 l1 l2 a3 true t704 t705)))) = some r := by rw [if_pos rfl] at H; exact H
                 clear H
                 have H := H1
                 clear H1
                 replace H := Option.bind_eq_some_iff.mp H
                 obtain ⟨⟨t719, t720, t721⟩, A570, H⟩ := H
                 replace H : (if t721 = 0 then (if t719 < t704 then (law_CurveThrough.j6 kj50 l0 l1 l2 a3 true t704 t705) else (law_CurveThrough.j6 kj50 l0 l1 l2 a3 (decide (t720 < t705)) t704 t705)) else (if t721 = 1 then (law_CurveThrough.j6 kj50 l0 l1 l2 a3 false t704 t705) else (law_CurveThrough.j6 kj50 l0 l1 l2 a3 true t704 t705))) = some r := H
                 have A57 := Aside0.mk A570
                 clear A570
                 have HC58 := Aside0.mk H
                 clear H
                 go_upto_region 19 with (first | ((with_reducible refine gate_callee (f := 40) rfl ?_); refine goesL_ (some 158) rfl rfl Tryd.func40 (by kernel_rfl) rfl #[.slice A0 l0.length c0, .slice A1 l1.length c1, .int .i64 (wrap64 (a3 + a4))] rfl (by (try simp only [List.map_toArray, List.map_cons, List.map_nil]); first | done | rfl | (simp only [List.length_drop, List.length_take]; rfl)) ?_; (with_reducible refine (curve_Through.calls _ _ l0 _ _ l1 (wrap64 (a3 + a4)) t719 t720 t721 _ ?side1 ?side2 ?side3 ?side4 A57.out).mono ?_); (case side1 => repeat (first | exact (Kd.C_below HR0.out HB.out) | (with_reducible refine Kd.C_alloc ?_ _) | (with_reducible refine Kd.C_drewN ?_ _) | (with_reducible refine Kd.C_drew ?_))); (case side2 => exact HC0.out); (case side3 => repeat (first | exact (Kd.C_below HR1.out HB.out) | (with_reducible refine Kd.C_alloc ?_ _) | (with_reducible refine Kd.C_drewN ?_ _) | (with_reducible refine Kd.C_drew ?_))); (case side4 => exact HC1.out); rintro e w59 ⟨rfl, hb⟩; refine ⟨_, rfl, ?_⟩; have n0_ := Aside0.mk (blk_below (g := gb707) (o := .cells #[.int .i64 t704, .int .i64 t705] 43 (0, 0)) (by (with_reducible repeat (first | refine blk_drewN ?_ _ | refine blk_drew ?_ | refine blk_alloc ?_ _)); exact BK707.out) hb); have n1_ := Aside0.mk (below_step (by repeat (first | (with_reducible first | exact HB.out | apply below_alloc | apply pw_below_drewN | apply below_drew1 | refine below_set ?_ GE707.out) | exact HB.out)) hb); clear BK707; clear HB; have BK707 := n0_; have HB := n1_; clear n0_ n1_; (try clear hb); (try clear hb2); (try clear hk); (try clear hi)) | ((with_reducible refine gate_dst (N := 21) rfl ?_); refine box_event ?hg (N := 21) ?hd (cs := #[.int .i64 0, .int .i64 0]) (t := 43) ?hr ?_; (case hd => rfl); (case hg => rfl); (case hr => first | (go_simp; done) | (go_simp; rfl)); intro gb722 hg w60 hbox hb; have n0_ := Aside0.mk (blk_below (g := gb707) (o := .cells #[.int .i64 t704, .int .i64 t705] 43 (0, 0)) (by (with_reducible repeat (first | refine blk_drewN ?_ _ | refine blk_drew ?_ | refine blk_alloc ?_ _)); exact BK707.out) hb); have n1_ := Aside0.mk (below_step (by repeat (first | (with_reducible first | exact HB.out | apply below_alloc | apply pw_below_drewN | apply below_drew1 | refine below_set ?_ GE707.out) | exact HB.out)) hb); have n2_ := Aside0.mk (hbox); have n3_ := Aside0.mk ((by rw [hg]; exact (below_size (by repeat (first | (with_reducible first | exact HB.out | apply below_alloc | apply pw_below_drewN | apply below_drew1 | refine below_set ?_ GE707.out) | exact HB.out))) : w.heap.size ≤ gb722)); have n4_ := Aside0.mk ((by rw [hg]; exact (below_size (by repeat (first | (with_reducible first | exact HB.out | apply below_alloc | apply pw_below_drewN | apply below_drew1 | refine below_set ?_ GE707.out) | exact HB.out))) : w.heap.size ≤ gb722)); have n5_ := Aside0.mk ((by rw [hg]; exact Nat.ne_of_lt (blk_lt (g := gb707) (o := .cells #[.int .i64 t704, .int .i64 t705] 43 (0, 0)) (by (with_reducible repeat (first | refine blk_drewN ?_ _ | refine blk_drew ?_ | refine blk_alloc ?_ _)); exact BK707.out)) : gb707 ≠ gb722)); have n6_ := Aside0.mk ((by rw [hg]; exact Nat.ne_of_gt (blk_lt (g := gb707) (o := .cells #[.int .i64 t704, .int .i64 t705] 43 (0, 0)) (by (with_reducible repeat (first | refine blk_drewN ?_ _ | refine blk_drew ?_ | refine blk_alloc ?_ _)); exact BK707.out)) : gb722 ≠ gb707)); clear BK707; clear HB; have BK707 := n0_; have HB := n1_; have BK722 := n2_; have GW722 := n3_; have GE722 := n4_; have NB707_722 := n5_; have NB722_707 := n6_; clear n0_ n1_ n2_ n3_ n4_ n5_ n6_; clear hb hbox hg; have hnb61 := NB722_707.out; have hnc61 := NB707_722.out; have hcz62_0 : w60.cell? ⟨gb722, 0, none⟩ = some (.int .i64 0) := (blk_cell BK722.out 0).trans rfl; have hcz62_1 : w60.cell? ⟨gb722, 1, none⟩ = some (.int .i64 0) := (blk_cell BK722.out 1).trans rfl; have hfz62_0 := blk_frozen BK722.out 0; have hfz62_1 := blk_frozen BK722.out 1))
                 (try simp only [Act.put, List.setIfInBounds_toArray, List.set_cons_zero, List.set_cons_succ])
                 go_cut [184] (fun v184 wc => ∃ (kq : Nat) (x184_57 : Bool), v184 = .bool x184_57 ∧ Aside0 (law_CurveThrough.j6 kq l0 l1 l2 a3 x184_57 t704 t705 = some r) ∧ Aside0 (kq ≤ kj50) ∧ Aside0 (wc.heap[gb707]? = some (.cells #[.int .i64 t704, .int .i64 t705] 43 (0, 0))) ∧ Aside0 (wc.heap[gb722]? = some (.cells #[.int .i64 t719, .int .i64 t720] 43 (0, 0))) ∧ Aside0 (Below w.heap.size w wc))
                 case first => as_aux_lemma =>
                  have H := HC58.out
                  clear HC58
                  by_cases c63 : t721 = 0
                  ·
                   rw [if_pos c63] at H
                   have c63b0 : (t721 == 0) = true := beq_iff_eq.mpr c63
                   have c63b1 : (t721 != 0) = false := bne_eq_false_iff_eq.mpr c63
                   clear c63
                   (first | rw [c63b0] | (simp only [i64_w, i32_w]; rw [c63b0]) | skip)
                   by_cases c64 : t719 < t704
                   ·
                    rw [if_pos c64] at H
                    have c64b0 : decide (t719 < t704) = true := decide_eq_true c64
                    clear c64
                    have H' := Aside0.mk H
                    clear H
                    have hnb65 := NB722_707.out
                    have hnc65 := NB707_722.out
                    have hcz66_0 : w60.cell? ⟨gb722, 0, none⟩ = some (.int .i64 0) := (blk_cell BK722.out 0).trans rfl
                    have hcz66_1 : w60.cell? ⟨gb722, 1, none⟩ = some (.int .i64 0) := (blk_cell BK722.out 1).trans rfl
                    have hfz66_0 := blk_frozen BK722.out 0
                    have hfz66_1 := blk_frozen BK722.out 1
                    have hcz67_0 : w60.cell? ⟨gb707, 0, none⟩ = some (.int .i64 t704) := (blk_cell BK707.out 0).trans rfl
                    have hcz67_1 : w60.cell? ⟨gb707, 1, none⟩ = some (.int .i64 t705) := (blk_cell BK707.out 1).trans rfl
                    have hfz67_0 := blk_frozen BK707.out 0
                    have hfz67_1 := blk_frozen BK707.out 1
                    go_wp2
                    go_meet
                    case rel => exact ⟨_, (true), (by first | rfl | (simp; done) | (simp [*]; done)), H', ⟨by have := HJ7.out; have := HJ21.out; have := HJ33.out; have := HJ37.out; have := HJ50.out; first | omega | exact Nat.le_refl _⟩, ⟨by (with_reducible repeat (first | refine blk_drewN ?_ _ | refine blk_drew ?_ | refine blk_alloc ?_ _)); refine blk_far ?_ NB707_722.out _; (with_reducible repeat (first | refine blk_drewN ?_ _ | refine blk_drew ?_ | refine blk_alloc ?_ _)); refine blk_far ?_ NB707_722.out _; (with_reducible repeat (first | refine blk_drewN ?_ _ | refine blk_drew ?_ | refine blk_alloc ?_ _)); exact BK707.out⟩, ⟨by (with_reducible repeat (first | refine blk_drewN ?_ _ | refine blk_drew ?_ | refine blk_alloc ?_ _)); refine blk_put (cs := #[.int .i64 t719, .int .i64 0]) ?_ 1 _ rfl; (with_reducible repeat (first | refine blk_drewN ?_ _ | refine blk_drew ?_ | refine blk_alloc ?_ _)); refine blk_put (cs := #[.int .i64 0, .int .i64 0]) ?_ 0 _ rfl; (with_reducible repeat (first | refine blk_drewN ?_ _ | refine blk_drew ?_ | refine blk_alloc ?_ _)); exact BK722.out⟩, ⟨by repeat (first | (with_reducible first | exact HB.out | apply below_alloc | apply pw_below_drewN | apply below_drew1 | refine below_set ?_ GE707.out | refine below_set ?_ GE722.out) | exact HB.out)⟩⟩
                   ·
                    rw [if_neg c64] at H
                    have c64b0 : decide (t719 < t704) = false := decide_eq_false c64
                    clear c64
                    have H' := Aside0.mk H
                    clear H
                    have hnb68 := NB722_707.out
                    have hnc68 := NB707_722.out
                    have hcz69_0 : w60.cell? ⟨gb722, 0, none⟩ = some (.int .i64 0) := (blk_cell BK722.out 0).trans rfl
                    have hcz69_1 : w60.cell? ⟨gb722, 1, none⟩ = some (.int .i64 0) := (blk_cell BK722.out 1).trans rfl
                    have hfz69_0 := blk_frozen BK722.out 0
                    have hfz69_1 := blk_frozen BK722.out 1
                    have hcz70_0 : w60.cell? ⟨gb707, 0, none⟩ = some (.int .i64 t704) := (blk_cell BK707.out 0).trans rfl
                    have hcz70_1 : w60.cell? ⟨gb707, 1, none⟩ = some (.int .i64 t705) := (blk_cell BK707.out 1).trans rfl
                    have hfz70_0 := blk_frozen BK707.out 0
                    have hfz70_1 := blk_frozen BK707.out 1
                    go_wp2
                    go_meet
                    case rel => exact ⟨_, (decide (t720 < t705)), (by first | rfl | (simp; done) | (simp [*]; done)), H', ⟨by have := HJ7.out; have := HJ21.out; have := HJ33.out; have := HJ37.out; have := HJ50.out; first | omega | exact Nat.le_refl _⟩, ⟨by (with_reducible repeat (first | refine blk_drewN ?_ _ | refine blk_drew ?_ | refine blk_alloc ?_ _)); refine blk_far ?_ NB707_722.out _; (with_reducible repeat (first | refine blk_drewN ?_ _ | refine blk_drew ?_ | refine blk_alloc ?_ _)); refine blk_far ?_ NB707_722.out _; (with_reducible repeat (first | refine blk_drewN ?_ _ | refine blk_drew ?_ | refine blk_alloc ?_ _)); exact BK707.out⟩, ⟨by (with_reducible repeat (first | refine blk_drewN ?_ _ | refine blk_drew ?_ | refine blk_alloc ?_ _)); refine blk_put (cs := #[.int .i64 t719, .int .i64 0]) ?_ 1 _ rfl; (with_reducible repeat (first | refine blk_drewN ?_ _ | refine blk_drew ?_ | refine blk_alloc ?_ _)); refine blk_put (cs := #[.int .i64 0, .int .i64 0]) ?_ 0 _ rfl; (with_reducible repeat (first | refine blk_drewN ?_ _ | refine blk_drew ?_ | refine blk_alloc ?_ _)); exact BK722.out⟩, ⟨by repeat (first | (with_reducible first | exact HB.out | apply below_alloc | apply pw_below_drewN | apply below_drew1 | refine below_set ?_ GE707.out | refine below_set ?_ GE722.out) | exact HB.out)⟩⟩
                  ·
                   rw [if_neg c63] at H
                   have c63b0 : (t721 == 0) = false := beq_eq_false_iff_ne.mpr c63
                   have c63b1 : (t721 != 0) = true := bne_iff_ne.mpr c63
                   (first | rw [c63b0] | (simp only [i64_w, i32_w]; rw [c63b0]) | skip)
                   by_cases c71 : t721 = 1
                   ·
                    rw [if_pos c71] at H
                    have c71b0 : (t721 == 1) = true := beq_iff_eq.mpr c71
                    have c71b1 : (t721 != 1) = false := bne_eq_false_iff_eq.mpr c71
                    clear c71
                    have H' := Aside0.mk H
                    clear H
                    go_wp2
                    go_meet
                    case rel => exact ⟨_, (false), (by first | rfl | (simp; done) | (simp [*]; done)), H', ⟨by have := HJ7.out; have := HJ21.out; have := HJ33.out; have := HJ37.out; have := HJ50.out; first | omega | exact Nat.le_refl _⟩, ⟨by (with_reducible repeat (first | refine blk_drewN ?_ _ | refine blk_drew ?_ | refine blk_alloc ?_ _)); refine blk_far ?_ NB707_722.out _; (with_reducible repeat (first | refine blk_drewN ?_ _ | refine blk_drew ?_ | refine blk_alloc ?_ _)); refine blk_far ?_ NB707_722.out _; (with_reducible repeat (first | refine blk_drewN ?_ _ | refine blk_drew ?_ | refine blk_alloc ?_ _)); exact BK707.out⟩, ⟨by (with_reducible repeat (first | refine blk_drewN ?_ _ | refine blk_drew ?_ | refine blk_alloc ?_ _)); refine blk_put (cs := #[.int .i64 t719, .int .i64 0]) ?_ 1 _ rfl; (with_reducible repeat (first | refine blk_drewN ?_ _ | refine blk_drew ?_ | refine blk_alloc ?_ _)); refine blk_put (cs := #[.int .i64 0, .int .i64 0]) ?_ 0 _ rfl; (with_reducible repeat (first | refine blk_drewN ?_ _ | refine blk_drew ?_ | refine blk_alloc ?_ _)); exact BK722.out⟩, ⟨by repeat (first | (with_reducible first | exact HB.out | apply below_alloc | apply pw_below_drewN | apply below_drew1 | refine below_set ?_ GE707.out | refine below_set ?_ GE722.out) | exact HB.out)⟩⟩
                   ·
                    rw [if_neg c71] at H
                    have c71b0 : (t721 == 1) = false := beq_eq_false_iff_ne.mpr c71
                    have c71b1 : (t721 != 1) = true := bne_iff_ne.mpr c71
                    have H' := Aside0.mk H
                    clear H
                    go_wp2
                    go_meet
                    case rel => exact ⟨_, (true), (by first | rfl | (simp; done) | (simp [*]; done)), H', ⟨by have := HJ7.out; have := HJ21.out; have := HJ33.out; have := HJ37.out; have := HJ50.out; first | omega | exact Nat.le_refl _⟩, ⟨by (with_reducible repeat (first | refine blk_drewN ?_ _ | refine blk_drew ?_ | refine blk_alloc ?_ _)); refine blk_far ?_ NB707_722.out _; (with_reducible repeat (first | refine blk_drewN ?_ _ | refine blk_drew ?_ | refine blk_alloc ?_ _)); refine blk_far ?_ NB707_722.out _; (with_reducible repeat (first | refine blk_drewN ?_ _ | refine blk_drew ?_ | refine blk_alloc ?_ _)); exact BK707.out⟩, ⟨by (with_reducible repeat (first | refine blk_drewN ?_ _ | refine blk_drew ?_ | refine blk_alloc ?_ _)); refine blk_put (cs := #[.int .i64 t719, .int .i64 0]) ?_ 1 _ rfl; (with_reducible repeat (first | refine blk_drewN ?_ _ | refine blk_drew ?_ | refine blk_alloc ?_ _)); refine blk_put (cs := #[.int .i64 0, .int .i64 0]) ?_ 0 _ rfl; (with_reducible repeat (first | refine blk_drewN ?_ _ | refine blk_drew ?_ | refine blk_alloc ?_ _)); exact BK722.out⟩, ⟨by repeat (first | (with_reducible first | exact HB.out | apply below_alloc | apply pw_below_drewN | apply below_drew1 | refine below_set ?_ GE707.out | refine below_set ?_ GE722.out) | exact HB.out)⟩⟩
                 case rest => as_aux_lemma =>
                  clear HC58
                  try clear c1
                  try clear c2
                  try clear p2
                  try clear c3
                  try clear c4
                  try clear c5
                  try clear c6
                  try clear p6
                  try clear c7
                  try clear c11
                  try clear c13
                  try clear c15
                  try clear c17
                  try clear c18
                  try clear c19
                  try clear c19b0
                  try clear c19b1
                  try clear c24
                  try clear c26
                  try clear c28
                  try clear c28b0
                  try clear c28b1
                  try clear c29
                  try clear c29b0
                  try clear c29b1
                  try clear c30
                  try clear c30b0
                  try clear c33
                  try clear c36
                  try clear c39
                  try clear c40
                  try clear c42
                  try clear c43
                  try clear c45
                  try clear c45b0
                  try clear c45b1
                  try clear c46
                  try clear c46b0
                  try clear c46b1
                  try clear c47
                  try clear c47b0
                  try clear c50
                  try clear c52
                  try clear c52b0
                  try clear c53
                  try clear c53b0
                  try clear c56
                  try clear c61
                  try clear c63
                  try clear c63b0
                  try clear c63b1
                  try clear c64
                  try clear c64b0
                  try clear p64
                  try clear c65
                  try clear c68
                  try clear c71
                  try clear c71b0
                  try clear c71b1
                  try clear hcz25_0
                  try clear hcz25_1
                  try clear hcz31_0
                  try clear hcz31_1
                  try clear hcz32_0
                  try clear hcz32_1
                  try clear hcz48_0
                  try clear hcz48_1
                  try clear hcz49_0
                  try clear hcz49_1
                  try clear hcz62_0
                  try clear hcz62_1
                  try clear hcz66_0
                  try clear hcz66_1
                  try clear hcz67_0
                  try clear hcz67_1
                  try clear hcz69_0
                  try clear hcz69_1
                  try clear hcz70_0
                  try clear hcz70_1
                  try clear hfz25_0
                  try clear hfz25_1
                  try clear hfz31_0
                  try clear hfz31_1
                  try clear hfz32_0
                  try clear hfz32_1
                  try clear hfz48_0
                  try clear hfz48_1
                  try clear hfz49_0
                  try clear hfz49_1
                  try clear hfz62_0
                  try clear hfz62_1
                  try clear hfz66_0
                  try clear hfz66_1
                  try clear hfz67_0
                  try clear hfz67_1
                  try clear hfz69_0
                  try clear hfz69_1
                  try clear hfz70_0
                  try clear hfz70_1
                  try clear p2
                  try clear p6
                  obtain ⟨kq, x184_57, rfl, HA, HJ57, BK707, BK722, HB⟩ := hcut
                  cases kq with
                  | zero => exact absurd HA.out (by simp [law_CurveThrough.j6])
                  | succ kj57 =>
                   have H := HA.out
                   clear HA
                   simp only [law_CurveThrough.j6] at H
                   by_cases c72 : x184_57 = true
                   ·
                    subst c72
                    have H1 : (some false) = some r := by rw [if_pos rfl] at H; exact H
                    clear H
                    have H := H1
                    clear H1
                    obtain rfl := Option.some.inj H
                    go_wp2
                    go_ret
                    exact ⟨by first | rfl | (simp [errW_none, errW_some] <;> rfl) | (simp [*, errW_none, errW_some] <;> rfl), by repeat (first | (with_reducible first | exact HB.out | apply below_alloc | apply pw_below_drewN | apply below_drew1 | refine below_set ?_ GE707.out | refine below_set ?_ GE722.out) | exact HB.out)⟩
                   ·
                    replace c72 := Bool.eq_false_iff.mpr c72
                    subst c72
                    have H1 : (law_CurveThrough.j7 kj57 l0 l1 l2 a3 t704 t705) = some r := by rw [if_neg (show ¬ (false = true) by decide)] at H; exact H
                    clear H
                    have H := H1
                    clear H1
                    have H' := Aside0.mk H
                    clear H
                    go_wp2
                    go_meet
                    case rel => exact ⟨_, H', ⟨by have := HJ7.out; have := HJ21.out; have := HJ33.out; have := HJ37.out; have := HJ50.out; have := HJ57.out; first | omega | exact Nat.le_refl _⟩, ⟨by (with_reducible repeat (first | refine blk_drewN ?_ _ | refine blk_drew ?_ | refine blk_alloc ?_ _)); exact BK707.out⟩, ⟨by repeat (first | (with_reducible first | exact HB.out | apply below_alloc | apply pw_below_drewN | apply below_drew1 | refine below_set ?_ GE707.out | refine below_set ?_ GE722.out) | exact HB.out)⟩⟩
                ·
                 replace c56 := Bool.eq_false_iff.mpr c56
                 subst c56
                 have H1 : (law_CurveThrough.j7 kj50 l0 l1 l2 a3 t704 t705) = some r := by rw [if_neg (show ¬ (false = true) by decide)] at H; exact H
                 clear H
                 have H := H1
                 clear H1
                 have H' := Aside0.mk H
                 clear H
                 go_wp2
                 go_meet
                 case rel => exact ⟨_, H', ⟨by have := HJ7.out; have := HJ21.out; have := HJ33.out; have := HJ37.out; have := HJ50.out; first | omega | exact Nat.le_refl _⟩, ⟨by (with_reducible repeat (first | refine blk_drewN ?_ _ | refine blk_drew ?_ | refine blk_alloc ?_ _)); exact BK707.out⟩, ⟨by repeat (first | (with_reducible first | exact HB.out | apply below_alloc | apply pw_below_drewN | apply below_drew1 | refine below_set ?_ GE707.out) | exact HB.out)⟩⟩
               case rest => as_aux_lemma =>
                clear HC55
                try clear c1
                try clear c2
                try clear p2
                try clear c3
                try clear c4
                try clear c5
                try clear c6
                try clear p6
                try clear c7
                try clear c11
                try clear c13
                try clear c15
                try clear c17
                try clear c18
                try clear c19
                try clear c19b0
                try clear c19b1
                try clear c24
                try clear c26
                try clear c28
                try clear c28b0
                try clear c28b1
                try clear c29
                try clear c29b0
                try clear c29b1
                try clear c30
                try clear c30b0
                try clear c33
                try clear c36
                try clear c39
                try clear c40
                try clear c42
                try clear c43
                try clear c45
                try clear c45b0
                try clear c45b1
                try clear c46
                try clear c46b0
                try clear c46b1
                try clear c47
                try clear c47b0
                try clear c50
                try clear c52
                try clear c52b0
                try clear c53
                try clear c53b0
                try clear c56
                try clear c61
                try clear c63
                try clear c63b0
                try clear c63b1
                try clear c64
                try clear c64b0
                try clear p64
                try clear c65
                try clear c68
                try clear c71
                try clear c71b0
                try clear c71b1
                try clear c72
                try clear hcz25_0
                try clear hcz25_1
                try clear hcz31_0
                try clear hcz31_1
                try clear hcz32_0
                try clear hcz32_1
                try clear hcz48_0
                try clear hcz48_1
                try clear hcz49_0
                try clear hcz49_1
                try clear hcz62_0
                try clear hcz62_1
                try clear hcz66_0
                try clear hcz66_1
                try clear hcz67_0
                try clear hcz67_1
                try clear hcz69_0
                try clear hcz69_1
                try clear hcz70_0
                try clear hcz70_1
                try clear hfz25_0
                try clear hfz25_1
                try clear hfz31_0
                try clear hfz31_1
                try clear hfz32_0
                try clear hfz32_1
                try clear hfz48_0
                try clear hfz48_1
                try clear hfz49_0
                try clear hfz49_1
                try clear hfz62_0
                try clear hfz62_1
                try clear hfz66_0
                try clear hfz66_1
                try clear hfz67_0
                try clear hfz67_1
                try clear hfz69_0
                try clear hfz69_1
                try clear hfz70_0
                try clear hfz70_1
                try clear p2
                try clear p6
                try clear p64
                obtain ⟨kq, HA, HJ54, BK707, HB⟩ := hcut
                cases kq with
                | zero => exact absurd HA.out (by simp [law_CurveThrough.j7])
                | succ kj54 =>
                 have H := HA.out
                 clear HA
                 simp only [law_CurveThrough.j7] at H
                 replace H := Option.bind_eq_some_iff.mp H
                 obtain ⟨⟨t723, t724⟩, A730, H⟩ := H
                 replace H : (if t724 = 0 then ((curve_Through.f l0 l2 a3).bind fun bt725 => (if t723 = true then (if bt725.2.2 = 0 then (if bt725.1 < t704 then (law_CurveThrough.j8 kj54 l0 l1 l2 a3 true t704 t705) else (law_CurveThrough.j8 kj54 l0 l1 l2 a3 (decide (bt725.2.1 < t705)) t704 t705)) else (law_CurveThrough.j8 kj54 l0 l1 l2 a3 false t704 t705)) else (law_CurveThrough.j8 kj54 l0 l1 l2 a3 false t704 t705))) else (some false)) = some r := H
                 have A73 := Aside0.mk A730
                 clear A730
                 by_cases c74 : t724 = 0
                 ·
                  rw [if_pos c74] at H
                  have c74b0 : (t724 == 0) = true := beq_iff_eq.mpr c74
                  have c74b1 : (t724 != 0) = false := bne_eq_false_iff_eq.mpr c74
                  clear c74
                  replace H := Option.bind_eq_some_iff.mp H
                  obtain ⟨⟨t725, t726, t727⟩, A750, H⟩ := H
                  replace H : (if t723 = true then (if t727 = 0 then (if t725 < t704 then (law_CurveThrough.j8 kj54 l0 l1 l2 a3 true t704 t705) else (law_CurveThrough.j8 kj54 l0 l1 l2 a3 (decide (t726 < t705)) t704 t705)) else (law_CurveThrough.j8 kj54 l0 l1 l2 a3 false t704 t705)) else (law_CurveThrough.j8 kj54 l0 l1 l2 a3 false t704 t705)) = some r := H
                  have A75 := Aside0.mk A750
                  clear A750
                  have HC76 := Aside0.mk H
                  clear H
                  go_upto_region 25 with (first | ((with_reducible refine gate_callee (f := 38) rfl ?_); refine goesL_ (some 188) rfl rfl Tryd.func38 (by kernel_rfl) rfl #[.slice A1 l1.length c1, .slice A2 l2.length c2] rfl (by (try simp only [List.map_toArray, List.map_cons, List.map_nil]); first | done | rfl | (simp only [List.length_drop, List.length_take]; rfl)) ?_; (with_reducible refine (curve_Below.calls _ _ l1 _ _ l2 t723 t724 _ ?side1 ?side2 ?side3 ?side4 A73.out).mono ?_); (case side1 => repeat (first | exact (Kd.C_below HR1.out HB.out) | (with_reducible refine Kd.C_alloc ?_ _) | (with_reducible refine Kd.C_drewN ?_ _) | (with_reducible refine Kd.C_drew ?_))); (case side2 => exact HC1.out); (case side3 => repeat (first | exact (Kd.C_below HR2.out HB.out) | (with_reducible refine Kd.C_alloc ?_ _) | (with_reducible refine Kd.C_drewN ?_ _) | (with_reducible refine Kd.C_drew ?_))); (case side4 => exact HC2.out); rintro e w77 ⟨rfl, hb⟩; refine ⟨_, rfl, ?_⟩; have n0_ := Aside0.mk (blk_below (g := gb707) (o := .cells #[.int .i64 t704, .int .i64 t705] 43 (0, 0)) (by (with_reducible repeat (first | refine blk_drewN ?_ _ | refine blk_drew ?_ | refine blk_alloc ?_ _)); exact BK707.out) hb); have n1_ := Aside0.mk (below_step (by repeat (first | (with_reducible first | exact HB.out | apply below_alloc | apply pw_below_drewN | apply below_drew1 | refine below_set ?_ GE707.out) | exact HB.out)) hb); clear BK707; clear HB; have BK707 := n0_; have HB := n1_; clear n0_ n1_; (try clear hb); (try clear hb2); (try clear hk); (try clear hi)) | ((with_reducible refine gate_callee (f := 40) rfl ?_); refine goesL_ (some 197) rfl rfl Tryd.func40 (by kernel_rfl) rfl #[.slice A0 l0.length c0, .slice A2 l2.length c2, .int .i64 a3] rfl (by (try simp only [List.map_toArray, List.map_cons, List.map_nil]); first | done | rfl | (simp only [List.length_drop, List.length_take]; rfl)) ?_; (with_reducible refine (curve_Through.calls _ _ l0 _ _ l2 a3 t725 t726 t727 _ ?side1 ?side2 ?side3 ?side4 A75.out).mono ?_); (case side1 => repeat (first | exact (Kd.C_below HR0.out HB.out) | (with_reducible refine Kd.C_alloc ?_ _) | (with_reducible refine Kd.C_drewN ?_ _) | (with_reducible refine Kd.C_drew ?_))); (case side2 => exact HC0.out); (case side3 => repeat (first | exact (Kd.C_below HR2.out HB.out) | (with_reducible refine Kd.C_alloc ?_ _) | (with_reducible refine Kd.C_drewN ?_ _) | (with_reducible refine Kd.C_drew ?_))); (case side4 => exact HC2.out); rintro e w78 ⟨rfl, hb⟩; refine ⟨_, rfl, ?_⟩; have n0_ := Aside0.mk (blk_below (g := gb707) (o := .cells #[.int .i64 t704, .int .i64 t705] 43 (0, 0)) (by (with_reducible repeat (first | refine blk_drewN ?_ _ | refine blk_drew ?_ | refine blk_alloc ?_ _)); exact BK707.out) hb); have n1_ := Aside0.mk (below_step (by repeat (first | (with_reducible first | exact HB.out | apply below_alloc | apply pw_below_drewN | apply below_drew1 | refine below_set ?_ GE707.out) | exact HB.out)) hb); clear BK707; clear HB; have BK707 := n0_; have HB := n1_; clear n0_ n1_; (try clear hb); (try clear hb2); (try clear hk); (try clear hi)) | ((with_reducible refine gate_dst (N := 25) rfl ?_); refine box_event ?hg (N := 25) ?hd (cs := #[.int .i64 0, .int .i64 0]) (t := 43) ?hr ?_; (case hd => rfl); (case hg => rfl); (case hr => first | (go_simp; done) | (go_simp; rfl)); intro gb728 hg w79 hbox hb; have n0_ := Aside0.mk (blk_below (g := gb707) (o := .cells #[.int .i64 t704, .int .i64 t705] 43 (0, 0)) (by (with_reducible repeat (first | refine blk_drewN ?_ _ | refine blk_drew ?_ | refine blk_alloc ?_ _)); exact BK707.out) hb); have n1_ := Aside0.mk (below_step (by repeat (first | (with_reducible first | exact HB.out | apply below_alloc | apply pw_below_drewN | apply below_drew1 | refine below_set ?_ GE707.out) | exact HB.out)) hb); have n2_ := Aside0.mk (hbox); have n3_ := Aside0.mk ((by rw [hg]; exact (below_size (by repeat (first | (with_reducible first | exact HB.out | apply below_alloc | apply pw_below_drewN | apply below_drew1 | refine below_set ?_ GE707.out) | exact HB.out))) : w.heap.size ≤ gb728)); have n4_ := Aside0.mk ((by rw [hg]; exact (below_size (by repeat (first | (with_reducible first | exact HB.out | apply below_alloc | apply pw_below_drewN | apply below_drew1 | refine below_set ?_ GE707.out) | exact HB.out))) : w.heap.size ≤ gb728)); have n5_ := Aside0.mk ((by rw [hg]; exact Nat.ne_of_lt (blk_lt (g := gb707) (o := .cells #[.int .i64 t704, .int .i64 t705] 43 (0, 0)) (by (with_reducible repeat (first | refine blk_drewN ?_ _ | refine blk_drew ?_ | refine blk_alloc ?_ _)); exact BK707.out)) : gb707 ≠ gb728)); have n6_ := Aside0.mk ((by rw [hg]; exact Nat.ne_of_gt (blk_lt (g := gb707) (o := .cells #[.int .i64 t704, .int .i64 t705] 43 (0, 0)) (by (with_reducible repeat (first | refine blk_drewN ?_ _ | refine blk_drew ?_ | refine blk_alloc ?_ _)); exact BK707.out)) : gb728 ≠ gb707)); clear BK707; clear HB; have BK707 := n0_; have HB := n1_; have BK728 := n2_; have GW728 := n3_; have GE728 := n4_; have NB707_728 := n5_; have NB728_707 := n6_; clear n0_ n1_ n2_ n3_ n4_ n5_ n6_; clear hb hbox hg; have hnb80 := NB728_707.out; have hnc80 := NB707_728.out; have hcz81_0 : w79.cell? ⟨gb728, 0, none⟩ = some (.int .i64 0) := (blk_cell BK728.out 0).trans rfl; have hcz81_1 : w79.cell? ⟨gb728, 1, none⟩ = some (.int .i64 0) := (blk_cell BK728.out 1).trans rfl; have hfz81_0 := blk_frozen BK728.out 0; have hfz81_1 := blk_frozen BK728.out 1))
                  (try simp only [Act.put, List.setIfInBounds_toArray, List.set_cons_zero, List.set_cons_succ])
                  go_cut [218] (fun v218 wc => ∃ (kq : Nat) (x218_75 : Bool), v218 = .bool x218_75 ∧ Aside0 (law_CurveThrough.j8 kq l0 l1 l2 a3 x218_75 t704 t705 = some r) ∧ Aside0 (kq ≤ kj54) ∧ Aside0 (wc.heap[gb707]? = some (.cells #[.int .i64 t704, .int .i64 t705] 43 (0, 0))) ∧ Aside0 (wc.heap[gb728]? = some (.cells #[.int .i64 t725, .int .i64 t726] 43 (0, 0))) ∧ Aside0 (Below w.heap.size w wc))
                  case first => as_aux_lemma =>
                   have H := HC76.out
                   clear HC76
                   by_cases c82 : t723 = true
                   ·
                    subst c82
                    have H1 : (if t727 = 0 then (if t725 < t704 then (law_CurveThrough.j8 kj54 l0 l1 l2 a3 true t704 t705) else (law_CurveThrough.j8 kj54 l0 l1 l2 a3 (decide (t726 < t705)) t704 t705)) else (law_CurveThrough.j8 kj54 l0 l1 l2 a3 false t704 t705)) = some r := by rw [if_pos rfl] at H; exact H
                    clear H
                    have H := H1
                    clear H1
                    by_cases c83 : t727 = 0
                    ·
                     rw [if_pos c83] at H
                     have c83b0 : (t727 == 0) = true := beq_iff_eq.mpr c83
                     have c83b1 : (t727 != 0) = false := bne_eq_false_iff_eq.mpr c83
                     clear c83
                     (first | rw [c83b0] | (simp only [i64_w, i32_w]; rw [c83b0]) | skip)
                     by_cases c84 : t725 < t704
                     ·
                      rw [if_pos c84] at H
                      have c84b0 : decide (t725 < t704) = true := decide_eq_true c84
                      clear c84
                      have H' := Aside0.mk H
                      clear H
                      have hnb85 := NB728_707.out
                      have hnc85 := NB707_728.out
                      have hcz86_0 : w79.cell? ⟨gb728, 0, none⟩ = some (.int .i64 0) := (blk_cell BK728.out 0).trans rfl
                      have hcz86_1 : w79.cell? ⟨gb728, 1, none⟩ = some (.int .i64 0) := (blk_cell BK728.out 1).trans rfl
                      have hfz86_0 := blk_frozen BK728.out 0
                      have hfz86_1 := blk_frozen BK728.out 1
                      have hcz87_0 : w79.cell? ⟨gb707, 0, none⟩ = some (.int .i64 t704) := (blk_cell BK707.out 0).trans rfl
                      have hcz87_1 : w79.cell? ⟨gb707, 1, none⟩ = some (.int .i64 t705) := (blk_cell BK707.out 1).trans rfl
                      have hfz87_0 := blk_frozen BK707.out 0
                      have hfz87_1 := blk_frozen BK707.out 1
                      go_wp2
                      go_meet
                      case rel => exact ⟨_, (true), (by first | rfl | (simp; done) | (simp [*]; done)), H', ⟨by have := HJ7.out; have := HJ21.out; have := HJ33.out; have := HJ37.out; have := HJ50.out; have := HJ54.out; first | omega | exact Nat.le_refl _⟩, ⟨by (with_reducible repeat (first | refine blk_drewN ?_ _ | refine blk_drew ?_ | refine blk_alloc ?_ _)); refine blk_far ?_ NB707_728.out _; (with_reducible repeat (first | refine blk_drewN ?_ _ | refine blk_drew ?_ | refine blk_alloc ?_ _)); refine blk_far ?_ NB707_728.out _; (with_reducible repeat (first | refine blk_drewN ?_ _ | refine blk_drew ?_ | refine blk_alloc ?_ _)); exact BK707.out⟩, ⟨by (with_reducible repeat (first | refine blk_drewN ?_ _ | refine blk_drew ?_ | refine blk_alloc ?_ _)); refine blk_put (cs := #[.int .i64 t725, .int .i64 0]) ?_ 1 _ rfl; (with_reducible repeat (first | refine blk_drewN ?_ _ | refine blk_drew ?_ | refine blk_alloc ?_ _)); refine blk_put (cs := #[.int .i64 0, .int .i64 0]) ?_ 0 _ rfl; (with_reducible repeat (first | refine blk_drewN ?_ _ | refine blk_drew ?_ | refine blk_alloc ?_ _)); exact BK728.out⟩, ⟨by repeat (first | (with_reducible first | exact HB.out | apply below_alloc | apply pw_below_drewN | apply below_drew1 | refine below_set ?_ GE707.out | refine below_set ?_ GE728.out) | exact HB.out)⟩⟩
                     ·
                      rw [if_neg c84] at H
                      have c84b0 : decide (t725 < t704) = false := decide_eq_false c84
                      clear c84
                      have H' := Aside0.mk H
                      clear H
                      have hnb88 := NB728_707.out
                      have hnc88 := NB707_728.out
                      have hcz89_0 : w79.cell? ⟨gb728, 0, none⟩ = some (.int .i64 0) := (blk_cell BK728.out 0).trans rfl
                      have hcz89_1 : w79.cell? ⟨gb728, 1, none⟩ = some (.int .i64 0) := (blk_cell BK728.out 1).trans rfl
                      have hfz89_0 := blk_frozen BK728.out 0
                      have hfz89_1 := blk_frozen BK728.out 1
                      have hcz90_0 : w79.cell? ⟨gb707, 0, none⟩ = some (.int .i64 t704) := (blk_cell BK707.out 0).trans rfl
                      have hcz90_1 : w79.cell? ⟨gb707, 1, none⟩ = some (.int .i64 t705) := (blk_cell BK707.out 1).trans rfl
                      have hfz90_0 := blk_frozen BK707.out 0
                      have hfz90_1 := blk_frozen BK707.out 1
                      go_wp2
                      go_meet
                      case rel => exact ⟨_, (decide (t726 < t705)), (by first | rfl | (simp; done) | (simp [*]; done)), H', ⟨by have := HJ7.out; have := HJ21.out; have := HJ33.out; have := HJ37.out; have := HJ50.out; have := HJ54.out; first | omega | exact Nat.le_refl _⟩, ⟨by (with_reducible repeat (first | refine blk_drewN ?_ _ | refine blk_drew ?_ | refine blk_alloc ?_ _)); refine blk_far ?_ NB707_728.out _; (with_reducible repeat (first | refine blk_drewN ?_ _ | refine blk_drew ?_ | refine blk_alloc ?_ _)); refine blk_far ?_ NB707_728.out _; (with_reducible repeat (first | refine blk_drewN ?_ _ | refine blk_drew ?_ | refine blk_alloc ?_ _)); exact BK707.out⟩, ⟨by (with_reducible repeat (first | refine blk_drewN ?_ _ | refine blk_drew ?_ | refine blk_alloc ?_ _)); refine blk_put (cs := #[.int .i64 t725, .int .i64 0]) ?_ 1 _ rfl; (with_reducible repeat (first | refine blk_drewN ?_ _ | refine blk_drew ?_ | refine blk_alloc ?_ _)); refine blk_put (cs := #[.int .i64 0, .int .i64 0]) ?_ 0 _ rfl; (with_reducible repeat (first | refine blk_drewN ?_ _ | refine blk_drew ?_ | refine blk_alloc ?_ _)); exact BK728.out⟩, ⟨by repeat (first | (with_reducible first | exact HB.out | apply below_alloc | apply pw_below_drewN | apply below_drew1 | refine below_set ?_ GE707.out | refine below_set ?_ GE728.out) | exact HB.out)⟩⟩
                    ·
                     rw [if_neg c83] at H
                     have c83b0 : (t727 == 0) = false := beq_eq_false_iff_ne.mpr c83
                     have c83b1 : (t727 != 0) = true := bne_iff_ne.mpr c83
                     (first | rw [c83b0] | (simp only [i64_w, i32_w]; rw [c83b0]) | skip)
                     have H' := Aside0.mk H
                     clear H
                     go_wp2
                     go_meet
                     case rel => exact ⟨_, (false), (by first | rfl | (simp; done) | (simp [*]; done)), H', ⟨by have := HJ7.out; have := HJ21.out; have := HJ33.out; have := HJ37.out; have := HJ50.out; have := HJ54.out; first | omega | exact Nat.le_refl _⟩, ⟨by (with_reducible repeat (first | refine blk_drewN ?_ _ | refine blk_drew ?_ | refine blk_alloc ?_ _)); refine blk_far ?_ NB707_728.out _; (with_reducible repeat (first | refine blk_drewN ?_ _ | refine blk_drew ?_ | refine blk_alloc ?_ _)); refine blk_far ?_ NB707_728.out _; (with_reducible repeat (first | refine blk_drewN ?_ _ | refine blk_drew ?_ | refine blk_alloc ?_ _)); exact BK707.out⟩, ⟨by (with_reducible repeat (first | refine blk_drewN ?_ _ | refine blk_drew ?_ | refine blk_alloc ?_ _)); refine blk_put (cs := #[.int .i64 t725, .int .i64 0]) ?_ 1 _ rfl; (with_reducible repeat (first | refine blk_drewN ?_ _ | refine blk_drew ?_ | refine blk_alloc ?_ _)); refine blk_put (cs := #[.int .i64 0, .int .i64 0]) ?_ 0 _ rfl; (with_reducible repeat (first | refine blk_drewN ?_ _ | refine blk_drew ?_ | refine blk_alloc ?_ _)); exact BK728.out⟩, ⟨by repeat (first | (with_reducible first | exact HB.out | apply below_alloc | apply pw_below_drewN | apply below_drew1 | refine below_set ?_ GE707.out | refine below_set ?_ GE728.out) | exact HB.out)⟩⟩
                   ·
                    replace c82 := Bool.eq_false_iff.mpr c82
                    subst c82
                    have H1 : (law_CurveThrough.j8 kj54 l0 l1 l2 a3 false t704 t705) = some r := by rw [if_neg (show ¬ (false = true) by decide)] at H; exact H
                    clear H
                    have H := H1
                    clear H1
                    have H' := Aside0.mk H
                    clear H
                    go_wp2
                    go_meet
                    case rel => exact ⟨_, (false), (by first | rfl | (simp; done) | (simp [*]; done)), H', ⟨by have := HJ7.out; have := HJ21.out; have := HJ33.out; have := HJ37.out; have := HJ50.out; have := HJ54.out; first | omega | exact Nat.le_refl _⟩, ⟨by (with_reducible repeat (first | refine blk_drewN ?_ _ | refine blk_drew ?_ | refine blk_alloc ?_ _)); refine blk_far ?_ NB707_728.out _; (with_reducible repeat (first | refine blk_drewN ?_ _ | refine blk_drew ?_ | refine blk_alloc ?_ _)); refine blk_far ?_ NB707_728.out _; (with_reducible repeat (first | refine blk_drewN ?_ _ | refine blk_drew ?_ | refine blk_alloc ?_ _)); exact BK707.out⟩, ⟨by (with_reducible repeat (first | refine blk_drewN ?_ _ | refine blk_drew ?_ | refine blk_alloc ?_ _)); refine blk_put (cs := #[.int .i64 t725, .int .i64 0]) ?_ 1 _ rfl; (with_reducible repeat (first | refine blk_drewN ?_ _ | refine blk_drew ?_ | refine blk_alloc ?_ _)); refine blk_put (cs := #[.int .i64 0, .int .i64 0]) ?_ 0 _ rfl; (with_reducible repeat (first | refine blk_drewN ?_ _ | refine blk_drew ?_ | refine blk_alloc ?_ _)); exact BK728.out⟩, ⟨by repeat (first | (with_reducible first | exact HB.out | apply below_alloc | apply pw_below_drewN | apply below_drew1 | refine below_set ?_ GE707.out | refine below_set ?_ GE728.out) | exact HB.out)⟩⟩
                  case rest => as_aux_lemma =>
                   clear HC76
                   try clear c1
                   try clear c2
                   try clear p2
                   try clear c3
                   try clear c4
                   try clear c5
                   try clear c6
                   try clear p6
                   try clear c7
                   try clear c8
                   try clear c11
                   try clear c13
                   try clear c15
                   try clear c17
                   try clear c18
                   try clear c19
                   try clear c19b0
                   try clear c19b1
                   try clear c24
                   try clear c26
                   try clear c28
                   try clear c28b0
                   try clear c28b1
                   try clear c29
                   try clear c29b0
                   try clear c29b1
                   try clear c30
                   try clear c30b0
                   try clear c33
                   try clear c36
                   try clear c38
                   try clear c39
                   try clear c40
                   try clear c42
                   try clear c43
                   try clear c45
                   try clear c45b0
                   try clear c45b1
                   try clear c46
                   try clear c46b0
                   try clear c46b1
                   try clear c47
                   try clear c47b0
                   try clear c50
                   try clear c52
                   try clear c52b0
                   try clear c53
                   try clear c53b0
                   try clear c56
                   try clear c61
                   try clear c63
                   try clear c63b0
                   try clear c63b1
                   try clear c64
                   try clear c64b0
                   try clear p64
                   try clear c65
                   try clear c68
                   try clear c71
                   try clear c71b0
                   try clear c71b1
                   try clear c72
                   try clear c74
                   try clear c74b0
                   try clear c74b1
                   try clear c80
                   try clear c82
                   try clear c83
                   try clear c83b0
                   try clear c83b1
                   try clear c84
                   try clear c84b0
                   try clear c85
                   try clear c88
                   try clear hcz25_0
                   try clear hcz25_1
                   try clear hcz31_0
                   try clear hcz31_1
                   try clear hcz32_0
                   try clear hcz32_1
                   try clear hcz48_0
                   try clear hcz48_1
                   try clear hcz49_0
                   try clear hcz49_1
                   try clear hcz62_0
                   try clear hcz62_1
                   try clear hcz66_0
                   try clear hcz66_1
                   try clear hcz67_0
                   try clear hcz67_1
                   try clear hcz69_0
                   try clear hcz69_1
                   try clear hcz70_0
                   try clear hcz70_1
                   try clear hcz81_0
                   try clear hcz81_1
                   try clear hcz86_0
                   try clear hcz86_1
                   try clear hcz87_0
                   try clear hcz87_1
                   try clear hcz89_0
                   try clear hcz89_1
                   try clear hcz90_0
                   try clear hcz90_1
                   try clear hfz25_0
                   try clear hfz25_1
                   try clear hfz31_0
                   try clear hfz31_1
                   try clear hfz32_0
                   try clear hfz32_1
                   try clear hfz48_0
                   try clear hfz48_1
                   try clear hfz49_0
                   try clear hfz49_1
                   try clear hfz62_0
                   try clear hfz62_1
                   try clear hfz66_0
                   try clear hfz66_1
                   try clear hfz67_0
                   try clear hfz67_1
                   try clear hfz69_0
                   try clear hfz69_1
                   try clear hfz70_0
                   try clear hfz70_1
                   try clear hfz81_0
                   try clear hfz81_1
                   try clear hfz86_0
                   try clear hfz86_1
                   try clear hfz87_0
                   try clear hfz87_1
                   try clear hfz89_0
                   try clear hfz89_1
                   try clear hfz90_0
                   try clear hfz90_1
                   try clear p2
                   try clear p6
                   try clear p64
                   obtain ⟨kq, x218_75, rfl, HA, HJ75, BK707, BK728, HB⟩ := hcut
                   cases kq with
                   | zero => exact absurd HA.out (by simp [law_CurveThrough.j8])
                   | succ kj75 =>
                    have H := HA.out
                    clear HA
                    simp only [law_CurveThrough.j8] at H
                    by_cases c91 : x218_75 = true
                    ·
                     subst c91
                     have H1 : (some false) = some r := by rw [if_pos rfl] at H; exact H
                     clear H
                     have H := H1
                     clear H1
                     obtain rfl := Option.some.inj H
                     go_wp2
                     go_ret
                     exact ⟨by first | rfl | (simp [errW_none, errW_some] <;> rfl) | (simp [*, errW_none, errW_some] <;> rfl), by repeat (first | (with_reducible first | exact HB.out | apply below_alloc | apply pw_below_drewN | apply below_drew1 | refine below_set ?_ GE707.out | refine below_set ?_ GE728.out) | exact HB.out)⟩
                    ·
                     replace c91 := Bool.eq_false_iff.mpr c91
                     subst c91
                     have H1 : ((curve_Below.f l0 l2).bind fun bt729 => (if bt729.2 = 0 then ((curve_Through.f l2 l1 a3).bind fun bt731 => (if bt729.1 = true then (if bt731.2.2 = 0 then (if bt731.1 < t704 then (law_CurveThrough.j9 kj75 true) else (law_CurveThrough.j9 kj75 (decide (bt731.2.1 < t705)))) else (law_CurveThrough.j9 kj75 false)) else (law_CurveThrough.j9 kj75 false))) else (some false))) = some r := by rw [if_neg (show ¬ (false = true) by decide)] at H; exact H
                     clear H
                     have H := H1
                     clear H1
                     replace H := Option.bind_eq_some_iff.mp H
                     obtain ⟨⟨t729, t730⟩, A920, H⟩ := H
                     replace H : (if t730 = 0 then ((curve_Through.f l2 l1 a3).bind fun bt731 => (if t729 = true then (if bt731.2.2 = 0 then (if bt731.1 < t704 then (law_CurveThrough.j9 kj75 true) else (law_CurveThrough.j9 kj75 (decide (bt731.2.1 < t705)))) else (law_CurveThrough.j9 kj75 false)) else (law_CurveThrough.j9 kj75 false))) else (some false)) = some r := H
                     have A92 := Aside0.mk A920
                     clear A920
                     by_cases c93 : t730 = 0
                     ·
                      rw [if_pos c93] at H
                      have c93b0 : (t730 == 0) = true := beq_iff_eq.mpr c93
                      have c93b1 : (t730 != 0) = false := bne_eq_false_iff_eq.mpr c93
                      clear c93
                      replace H := Option.bind_eq_some_iff.mp H
                      obtain ⟨⟨t731, t732, t733⟩, A940, H⟩ := H
                      replace H : (if t729 = true then (if t733 = 0 then (if t731 < t704 then (law_CurveThrough.j9 kj75 true) else (law_CurveThrough.j9 kj75 (decide (t732 < t705)))) else (law_CurveThrough.j9 kj75 false)) else (law_CurveThrough.j9 kj75 false)) = some r := H
                      have A94 := Aside0.mk A940
                      clear A940
                      have HC95 := Aside0.mk H
                      clear H
                      go_upto_region 31 with (first | ((with_reducible refine gate_callee (f := 38) rfl ?_); refine goesL_ (some 222) rfl rfl Tryd.func38 (by kernel_rfl) rfl #[.slice A0 l0.length c0, .slice A2 l2.length c2] rfl (by (try simp only [List.map_toArray, List.map_cons, List.map_nil]); first | done | rfl | (simp only [List.length_drop, List.length_take]; rfl)) ?_; (with_reducible refine (curve_Below.calls _ _ l0 _ _ l2 t729 t730 _ ?side1 ?side2 ?side3 ?side4 A92.out).mono ?_); (case side1 => repeat (first | exact (Kd.C_below HR0.out HB.out) | (with_reducible refine Kd.C_alloc ?_ _) | (with_reducible refine Kd.C_drewN ?_ _) | (with_reducible refine Kd.C_drew ?_))); (case side2 => exact HC0.out); (case side3 => repeat (first | exact (Kd.C_below HR2.out HB.out) | (with_reducible refine Kd.C_alloc ?_ _) | (with_reducible refine Kd.C_drewN ?_ _) | (with_reducible refine Kd.C_drew ?_))); (case side4 => exact HC2.out); rintro e w96 ⟨rfl, hb⟩; refine ⟨_, rfl, ?_⟩; have n0_ := Aside0.mk (blk_below (g := gb707) (o := .cells #[.int .i64 t704, .int .i64 t705] 43 (0, 0)) (by (with_reducible repeat (first | refine blk_drewN ?_ _ | refine blk_drew ?_ | refine blk_alloc ?_ _)); exact BK707.out) hb); have n1_ := Aside0.mk (blk_below (g := gb728) (o := .cells #[.int .i64 t725, .int .i64 t726] 43 (0, 0)) (by (with_reducible repeat (first | refine blk_drewN ?_ _ | refine blk_drew ?_ | refine blk_alloc ?_ _)); exact BK728.out) hb); have n2_ := Aside0.mk (below_step (by repeat (first | (with_reducible first | exact HB.out | apply below_alloc | apply pw_below_drewN | apply below_drew1 | refine below_set ?_ GE707.out | refine below_set ?_ GE728.out) | exact HB.out)) hb); clear BK707; clear BK728; clear HB; have BK707 := n0_; have BK728 := n1_; have HB := n2_; clear n0_ n1_ n2_; (try clear hb); (try clear hb2); (try clear hk); (try clear hi)) | ((with_reducible refine gate_callee (f := 40) rfl ?_); refine goesL_ (some 231) rfl rfl Tryd.func40 (by kernel_rfl) rfl #[.slice A2 l2.length c2, .slice A1 l1.length c1, .int .i64 a3] rfl (by (try simp only [List.map_toArray, List.map_cons, List.map_nil]); first | done | rfl | (simp only [List.length_drop, List.length_take]; rfl)) ?_; (with_reducible refine (curve_Through.calls _ _ l2 _ _ l1 a3 t731 t732 t733 _ ?side1 ?side2 ?side3 ?side4 A94.out).mono ?_); (case side1 => repeat (first | exact (Kd.C_below HR2.out HB.out) | (with_reducible refine Kd.C_alloc ?_ _) | (with_reducible refine Kd.C_drewN ?_ _) | (with_reducible refine Kd.C_drew ?_))); (case side2 => exact HC2.out); (case side3 => repeat (first | exact (Kd.C_below HR1.out HB.out) | (with_reducible refine Kd.C_alloc ?_ _) | (with_reducible refine Kd.C_drewN ?_ _) | (with_reducible refine Kd.C_drew ?_))); (case side4 => exact HC1.out); rintro e w97 ⟨rfl, hb⟩; refine ⟨_, rfl, ?_⟩; have n0_ := Aside0.mk (blk_below (g := gb707) (o := .cells #[.int .i64 t704, .int .i64 t705] 43 (0, 0)) (by (with_reducible repeat (first | refine blk_drewN ?_ _ | refine blk_drew ?_ | refine blk_alloc ?_ _)); exact BK707.out) hb); have n1_ := Aside0.mk (blk_below (g := gb728) (o := .cells #[.int .i64 t725, .int .i64 t726] 43 (0, 0)) (by (with_reducible repeat (first | refine blk_drewN ?_ _ | refine blk_drew ?_ | refine blk_alloc ?_ _)); exact BK728.out) hb); have n2_ := Aside0.mk (below_step (by repeat (first | (with_reducible first | exact HB.out | apply below_alloc | apply pw_below_drewN | apply below_drew1 | refine below_set ?_ GE707.out | refine below_set ?_ GE728.out) | exact HB.out)) hb); clear BK707; clear BK728; clear HB; have BK707 := n0_; have BK728 := n1_; have HB := n2_; clear n0_ n1_ n2_; (try clear hb); (try clear hb2); (try clear hk); (try clear hi)) | ((with_reducible refine gate_dst (N := 29) rfl ?_); refine box_event ?hg (N := 29) ?hd (cs := #[.int .i64 0, .int .i64 0]) (t := 43) ?hr ?_; (case hd => rfl); (case hg => rfl); (case hr => first | (go_simp; done) | (go_simp; rfl)); intro gb734 hg w98 hbox hb; have n0_ := Aside0.mk (blk_below (g := gb707) (o := .cells #[.int .i64 t704, .int .i64 t705] 43 (0, 0)) (by (with_reducible repeat (first | refine blk_drewN ?_ _ | refine blk_drew ?_ | refine blk_alloc ?_ _)); exact BK707.out) hb); have n1_ := Aside0.mk (blk_below (g := gb728) (o := .cells #[.int .i64 t725, .int .i64 t726] 43 (0, 0)) (by (with_reducible repeat (first | refine blk_drewN ?_ _ | refine blk_drew ?_ | refine blk_alloc ?_ _)); exact BK728.out) hb); have n2_ := Aside0.mk (below_step (by repeat (first | (with_reducible first | exact HB.out | apply below_alloc | apply pw_below_drewN | apply below_drew1 | refine below_set ?_ GE707.out | refine below_set ?_ GE728.out) | exact HB.out)) hb); have n3_ := Aside0.mk (hbox); have n4_ := Aside0.mk ((by rw [hg]; exact (below_size (by repeat (first | (with_reducible first | exact HB.out | apply below_alloc | apply pw_below_drewN | apply below_drew1 | refine below_set ?_ GE707.out | refine below_set ?_ GE728.out) | exact HB.out))) : w.heap.size ≤ gb734)); have n5_ := Aside0.mk ((by rw [hg]; exact (below_size (by repeat (first | (with_reducible first | exact HB.out | apply below_alloc | apply pw_below_drewN | apply below_drew1 | refine below_set ?_ GE707.out | refine below_set ?_ GE728.out) | exact HB.out))) : w.heap.size ≤ gb734)); have n6_ := Aside0.mk ((by rw [hg]; exact Nat.ne_of_lt (blk_lt (g := gb707) (o := .cells #[.int .i64 t704, .int .i64 t705] 43 (0, 0)) (by (with_reducible repeat (first | refine blk_drewN ?_ _ | refine blk_drew ?_ | refine blk_alloc ?_ _)); exact BK707.out)) : gb707 ≠ gb734)); have n7_ := Aside0.mk ((by rw [hg]; exact Nat.ne_of_gt (blk_lt (g := gb707) (o := .cells #[.int .i64 t704, .int .i64 t705] 43 (0, 0)) (by (with_reducible repeat (first | refine blk_drewN ?_ _ | refine blk_drew ?_ | refine blk_alloc ?_ _)); exact BK707.out)) : gb734 ≠ gb707)); have n8_ := Aside0.mk ((by rw [hg]; exact Nat.ne_of_lt (blk_lt (g := gb728) (o := .cells #[.int .i64 t725, .int .i64 t726] 43 (0, 0)) (by (with_reducible repeat (first | refine blk_drewN ?_ _ | refine blk_drew ?_ | refine blk_alloc ?_ _)); exact BK728.out)) : gb728 ≠ gb734)); have n9_ := Aside0.mk ((by rw [hg]; exact Nat.ne_of_gt (blk_lt (g := gb728) (o := .cells #[.int .i64 t725, .int .i64 t726] 43 (0, 0)) (by (with_reducible repeat (first | refine blk_drewN ?_ _ | refine blk_drew ?_ | refine blk_alloc ?_ _)); exact BK728.out)) : gb734 ≠ gb728)); clear BK707; clear BK728; clear HB; have BK707 := n0_; have BK728 := n1_; have HB := n2_; have BK734 := n3_; have GW734 := n4_; have GE734 := n5_; have NB707_734 := n6_; have NB734_707 := n7_; have NB728_734 := n8_; have NB734_728 := n9_; clear n0_ n1_ n2_ n3_ n4_ n5_ n6_ n7_ n8_ n9_; clear hb hbox hg; have hnb99 := NB734_707.out; have hnc99 := NB707_734.out; have hnb100 := NB734_728.out; have hnc100 := NB728_734.out; have hcz101_0 : w98.cell? ⟨gb734, 0, none⟩ = some (.int .i64 0) := (blk_cell BK734.out 0).trans rfl; have hcz101_1 : w98.cell? ⟨gb734, 1, none⟩ = some (.int .i64 0) := (blk_cell BK734.out 1).trans rfl; have hfz101_0 := blk_frozen BK734.out 0; have hfz101_1 := blk_frozen BK734.out 1))
                      (try simp only [Act.put, List.setIfInBounds_toArray, List.set_cons_zero, List.set_cons_succ])
                      go_cut [252] (fun v252 wc => ∃ (kq : Nat) (x252_94 : Bool), v252 = .bool x252_94 ∧ Aside0 (law_CurveThrough.j9 kq x252_94 = some r) ∧ Aside0 (kq ≤ kj75) ∧ Aside0 (wc.heap[gb707]? = some (.cells #[.int .i64 t704, .int .i64 t705] 43 (0, 0))) ∧ Aside0 (wc.heap[gb728]? = some (.cells #[.int .i64 t725, .int .i64 t726] 43 (0, 0))) ∧ Aside0 (wc.heap[gb734]? = some (.cells #[.int .i64 t731, .int .i64 t732] 43 (0, 0))) ∧ Aside0 (Below w.heap.size w wc))
                      case first => as_aux_lemma =>
                       have H := HC95.out
                       clear HC95
                       by_cases c102 : t729 = true
                       ·
                        subst c102
                        have H1 : (if t733 = 0 then (if t731 < t704 then (law_CurveThrough.j9 kj75 true) else (law_CurveThrough.j9 kj75 (decide (t732 < t705)))) else (law_CurveThrough.j9 kj75 false)) = some r := by rw [if_pos rfl] at H; exact H
                        clear H
                        have H := H1
                        clear H1
                        by_cases c103 : t733 = 0
                        ·
                         rw [if_pos c103] at H
                         have c103b0 : (t733 == 0) = true := beq_iff_eq.mpr c103
                         have c103b1 : (t733 != 0) = false := bne_eq_false_iff_eq.mpr c103
                         clear c103
                         (first | rw [c103b0] | (simp only [i64_w, i32_w]; rw [c103b0]) | skip)
                         by_cases c104 : t731 < t704
                         ·
                          rw [if_pos c104] at H
                          have c104b0 : decide (t731 < t704) = true := decide_eq_true c104
                          clear c104
                          have H' := Aside0.mk H
                          clear H
                          have hnb105 := NB734_707.out
                          have hnc105 := NB707_734.out
                          have hnb106 := NB734_728.out
                          have hnc106 := NB728_734.out
                          have hcz107_0 : w98.cell? ⟨gb734, 0, none⟩ = some (.int .i64 0) := (blk_cell BK734.out 0).trans rfl
                          have hcz107_1 : w98.cell? ⟨gb734, 1, none⟩ = some (.int .i64 0) := (blk_cell BK734.out 1).trans rfl
                          have hfz107_0 := blk_frozen BK734.out 0
                          have hfz107_1 := blk_frozen BK734.out 1
                          have hnb108 := NB707_728.out
                          have hnc108 := NB728_707.out
                          have hcz109_0 : w98.cell? ⟨gb707, 0, none⟩ = some (.int .i64 t704) := (blk_cell BK707.out 0).trans rfl
                          have hcz109_1 : w98.cell? ⟨gb707, 1, none⟩ = some (.int .i64 t705) := (blk_cell BK707.out 1).trans rfl
                          have hfz109_0 := blk_frozen BK707.out 0
                          have hfz109_1 := blk_frozen BK707.out 1
                          go_wp2
                          go_meet
                          case rel => exact ⟨_, (true), (by first | rfl | (simp; done) | (simp [*]; done)), H', ⟨by have := HJ7.out; have := HJ21.out; have := HJ33.out; have := HJ37.out; have := HJ50.out; have := HJ54.out; have := HJ75.out; first | omega | exact Nat.le_refl _⟩, ⟨by (with_reducible repeat (first | refine blk_drewN ?_ _ | refine blk_drew ?_ | refine blk_alloc ?_ _)); refine blk_far ?_ NB707_734.out _; (with_reducible repeat (first | refine blk_drewN ?_ _ | refine blk_drew ?_ | refine blk_alloc ?_ _)); refine blk_far ?_ NB707_734.out _; (with_reducible repeat (first | refine blk_drewN ?_ _ | refine blk_drew ?_ | refine blk_alloc ?_ _)); exact BK707.out⟩, ⟨by (with_reducible repeat (first | refine blk_drewN ?_ _ | refine blk_drew ?_ | refine blk_alloc ?_ _)); refine blk_far ?_ NB728_734.out _; (with_reducible repeat (first | refine blk_drewN ?_ _ | refine blk_drew ?_ | refine blk_alloc ?_ _)); refine blk_far ?_ NB728_734.out _; (with_reducible repeat (first | refine blk_drewN ?_ _ | refine blk_drew ?_ | refine blk_alloc ?_ _)); exact BK728.out⟩, ⟨by (with_reducible repeat (first | refine blk_drewN ?_ _ | refine blk_drew ?_ | refine blk_alloc ?_ _)); refine blk_put (cs := #[.int .i64 t731, .int .i64 0]) ?_ 1 _ rfl; (with_reducible repeat (first | refine blk_drewN ?_ _ | refine blk_drew ?_ | refine blk_alloc ?_ _)); refine blk_put (cs := #[.int .i64 0, .int .i64 0]) ?_ 0 _ rfl; (with_reducible repeat (first | refine blk_drewN ?_ _ | refine blk_drew ?_ | refine blk_alloc ?_ _)); exact BK734.out⟩, ⟨by repeat (first | (with_reducible first | exact HB.out | apply below_alloc | apply pw_below_drewN | apply below_drew1 | refine below_set ?_ GE707.out | refine below_set ?_ GE728.out | refine below_set ?_ GE734.out) | exact HB.out)⟩⟩
                         ·
                          rw [if_neg c104] at H
                          have c104b0 : decide (t731 < t704) = false := decide_eq_false c104
                          clear c104
                          have H' := Aside0.mk H
                          clear H
                          have hnb110 := NB734_707.out
                          have hnc110 := NB707_734.out
                          have hnb111 := NB734_728.out
                          have hnc111 := NB728_734.out
                          have hcz112_0 : w98.cell? ⟨gb734, 0, none⟩ = some (.int .i64 0) := (blk_cell BK734.out 0).trans rfl
                          have hcz112_1 : w98.cell? ⟨gb734, 1, none⟩ = some (.int .i64 0) := (blk_cell BK734.out 1).trans rfl
                          have hfz112_0 := blk_frozen BK734.out 0
                          have hfz112_1 := blk_frozen BK734.out 1
                          have hnb113 := NB707_728.out
                          have hnc113 := NB728_707.out
                          have hcz114_0 : w98.cell? ⟨gb707, 0, none⟩ = some (.int .i64 t704) := (blk_cell BK707.out 0).trans rfl
                          have hcz114_1 : w98.cell? ⟨gb707, 1, none⟩ = some (.int .i64 t705) := (blk_cell BK707.out 1).trans rfl
                          have hfz114_0 := blk_frozen BK707.out 0
                          have hfz114_1 := blk_frozen BK707.out 1
                          go_wp2
                          go_meet
                          case rel => exact ⟨_, (decide (t732 < t705)), (by first | rfl | (simp; done) | (simp [*]; done)), H', ⟨by have := HJ7.out; have := HJ21.out; have := HJ33.out; have := HJ37.out; have := HJ50.out; have := HJ54.out; have := HJ75.out; first | omega | exact Nat.le_refl _⟩, ⟨by (with_reducible repeat (first | refine blk_drewN ?_ _ | refine blk_drew ?_ | refine blk_alloc ?_ _)); refine blk_far ?_ NB707_734.out _; (with_reducible repeat (first | refine blk_drewN ?_ _ | refine blk_drew ?_ | refine blk_alloc ?_ _)); refine blk_far ?_ NB707_734.out _; (with_reducible repeat (first | refine blk_drewN ?_ _ | refine blk_drew ?_ | refine blk_alloc ?_ _)); exact BK707.out⟩, ⟨by (with_reducible repeat (first | refine blk_drewN ?_ _ | refine blk_drew ?_ | refine blk_alloc ?_ _)); refine blk_far ?_ NB728_734.out _; (with_reducible repeat (first | refine blk_drewN ?_ _ | refine blk_drew ?_ | refine blk_alloc ?_ _)); refine blk_far ?_ NB728_734.out _; (with_reducible repeat (first | refine blk_drewN ?_ _ | refine blk_drew ?_ | refine blk_alloc ?_ _)); exact BK728.out⟩, ⟨by (with_reducible repeat (first | refine blk_drewN ?_ _ | refine blk_drew ?_ | refine blk_alloc ?_ _)); refine blk_put (cs := #[.int .i64 t731, .int .i64 0]) ?_ 1 _ rfl; (with_reducible repeat (first | refine blk_drewN ?_ _ | refine blk_drew ?_ | refine blk_alloc ?_ _)); refine blk_put (cs := #[.int .i64 0, .int .i64 0]) ?_ 0 _ rfl; (with_reducible repeat (first | refine blk_drewN ?_ _ | refine blk_drew ?_ | refine blk_alloc ?_ _)); exact BK734.out⟩, ⟨by repeat (first | (with_reducible first | exact HB.out | apply below_alloc | apply pw_below_drewN | apply below_drew1 | refine below_set ?_ GE707.out | refine below_set ?_ GE728.out | refine below_set ?_ GE734.out) | exact HB.out)⟩⟩
                        ·
                         rw [if_neg c103] at H
                         have c103b0 : (t733 == 0) = false := beq_eq_false_iff_ne.mpr c103
                         have c103b1 : (t733 != 0) = true := bne_iff_ne.mpr c103
                         (first | rw [c103b0] | (simp only [i64_w, i32_w]; rw [c103b0]) | skip)
                         have H' := Aside0.mk H
                         clear H
                         go_wp2
                         go_meet
                         case rel => exact ⟨_, (false), (by first | rfl | (simp; done) | (simp [*]; done)), H', ⟨by have := HJ7.out; have := HJ21.out; have := HJ33.out; have := HJ37.out; have := HJ50.out; have := HJ54.out; have := HJ75.out; first | omega | exact Nat.le_refl _⟩, ⟨by (with_reducible repeat (first | refine blk_drewN ?_ _ | refine blk_drew ?_ | refine blk_alloc ?_ _)); refine blk_far ?_ NB707_734.out _; (with_reducible repeat (first | refine blk_drewN ?_ _ | refine blk_drew ?_ | refine blk_alloc ?_ _)); refine blk_far ?_ NB707_734.out _; (with_reducible repeat (first | refine blk_drewN ?_ _ | refine blk_drew ?_ | refine blk_alloc ?_ _)); exact BK707.out⟩, ⟨by (with_reducible repeat (first | refine blk_drewN ?_ _ | refine blk_drew ?_ | refine blk_alloc ?_ _)); refine blk_far ?_ NB728_734.out _; (with_reducible repeat (first | refine blk_drewN ?_ _ | refine blk_drew ?_ | refine blk_alloc ?_ _)); refine blk_far ?_ NB728_734.out _; (with_reducible repeat (first | refine blk_drewN ?_ _ | refine blk_drew ?_ | refine blk_alloc ?_ _)); exact BK728.out⟩, ⟨by (with_reducible repeat (first | refine blk_drewN ?_ _ | refine blk_drew ?_ | refine blk_alloc ?_ _)); refine blk_put (cs := #[.int .i64 t731, .int .i64 0]) ?_ 1 _ rfl; (with_reducible repeat (first | refine blk_drewN ?_ _ | refine blk_drew ?_ | refine blk_alloc ?_ _)); refine blk_put (cs := #[.int .i64 0, .int .i64 0]) ?_ 0 _ rfl; (with_reducible repeat (first | refine blk_drewN ?_ _ | refine blk_drew ?_ | refine blk_alloc ?_ _)); exact BK734.out⟩, ⟨by repeat (first | (with_reducible first | exact HB.out | apply below_alloc | apply pw_below_drewN | apply below_drew1 | refine below_set ?_ GE707.out | refine below_set ?_ GE728.out | refine below_set ?_ GE734.out) | exact HB.out)⟩⟩
                       ·
                        replace c102 := Bool.eq_false_iff.mpr c102
                        subst c102
                        have H1 : (law_CurveThrough.j9 kj75 false) = some r := by rw [if_neg (show ¬ (false = true) by decide)] at H; exact H
                        clear H
                        have H := H1
                        clear H1
                        have H' := Aside0.mk H
                        clear H
                        go_wp2
                        go_meet
                        case rel => exact ⟨_, (false), (by first | rfl | (simp; done) | (simp [*]; done)), H', ⟨by have := HJ7.out; have := HJ21.out; have := HJ33.out; have := HJ37.out; have := HJ50.out; have := HJ54.out; have := HJ75.out; first | omega | exact Nat.le_refl _⟩, ⟨by (with_reducible repeat (first | refine blk_drewN ?_ _ | refine blk_drew ?_ | refine blk_alloc ?_ _)); refine blk_far ?_ NB707_734.out _; (with_reducible repeat (first | refine blk_drewN ?_ _ | refine blk_drew ?_ | refine blk_alloc ?_ _)); refine blk_far ?_ NB707_734.out _; (with_reducible repeat (first | refine blk_drewN ?_ _ | refine blk_drew ?_ | refine blk_alloc ?_ _)); exact BK707.out⟩, ⟨by (with_reducible repeat (first | refine blk_drewN ?_ _ | refine blk_drew ?_ | refine blk_alloc ?_ _)); refine blk_far ?_ NB728_734.out _; (with_reducible repeat (first | refine blk_drewN ?_ _ | refine blk_drew ?_ | refine blk_alloc ?_ _)); refine blk_far ?_ NB728_734.out _; (with_reducible repeat (first | refine blk_drewN ?_ _ | refine blk_drew ?_ | refine blk_alloc ?_ _)); exact BK728.out⟩, ⟨by (with_reducible repeat (first | refine blk_drewN ?_ _ | refine blk_drew ?_ | refine blk_alloc ?_ _)); refine blk_put (cs := #[.int .i64 t731, .int .i64 0]) ?_ 1 _ rfl; (with_reducible repeat (first | refine blk_drewN ?_ _ | refine blk_drew ?_ | refine blk_alloc ?_ _)); refine blk_put (cs := #[.int .i64 0, .int .i64 0]) ?_ 0 _ rfl; (with_reducible repeat (first | refine blk_drewN ?_ _ | refine blk_drew ?_ | refine blk_alloc ?_ _)); exact BK734.out⟩, ⟨by repeat (first | (with_reducible first | exact HB.out | apply below_alloc | apply pw_below_drewN | apply below_drew1 | refine below_set ?_ GE707.out | refine below_set ?_ GE728.out | refine below_set ?_ GE734.out) | exact HB.out)⟩⟩
                      case rest => as_aux_lemma =>
                       clear HC95
                       try clear c1
                       try clear c2
                       try clear p2
                       try clear c3
                       try clear c4
                       try clear c5
                       try clear c6
                       try clear p6
                       try clear c7
                       try clear c8
                       try clear c9
                       try clear c10
                       try clear c11
                       try clear c13
                       try clear c15
                       try clear c17
                       try clear c18
                       try clear c19
                       try clear c19b0
                       try clear c19b1
                       try clear c24
                       try clear c26
                       try clear c28
                       try clear c28b0
                       try clear c28b1
                       try clear c29
                       try clear c29b0
                       try clear c29b1
                       try clear c30
                       try clear c30b0
                       try clear c33
                       try clear c36
                       try clear c38
                       try clear c39
                       try clear c40
                       try clear c42
                       try clear c43
                       try clear c45
                       try clear c45b0
                       try clear c45b1
                       try clear c46
                       try clear c46b0
                       try clear c46b1
                       try clear c47
                       try clear c47b0
                       try clear c50
                       try clear c52
                       try clear c52b0
                       try clear c53
                       try clear c53b0
                       try clear c56
                       try clear c61
                       try clear c63
                       try clear c63b0
                       try clear c63b1
                       try clear c64
                       try clear c64b0
                       try clear p64
                       try clear c65
                       try clear c68
                       try clear c71
                       try clear c71b0
                       try clear c71b1
                       try clear c72
                       try clear c74
                       try clear c74b0
                       try clear c74b1
                       try clear c80
                       try clear c82
                       try clear c83
                       try clear c83b0
                       try clear c83b1
                       try clear c84
                       try clear c84b0
                       try clear c85
                       try clear c88
                       try clear c91
                       try clear c93
                       try clear c93b0
                       try clear c93b1
                       try clear c99
                       try clear c100
                       try clear c102
                       try clear c103
                       try clear c103b0
                       try clear c103b1
                       try clear c104
                       try clear c104b0
                       try clear c105
                       try clear c106
                       try clear c108
                       try clear c110
                       try clear c111
                       try clear c113
                       try clear hcz101_0
                       try clear hcz101_1
                       try clear hcz107_0
                       try clear hcz107_1
                       try clear hcz109_0
                       try clear hcz109_1
                       try clear hcz112_0
                       try clear hcz112_1
                       try clear hcz114_0
                       try clear hcz114_1
                       try clear hcz25_0
                       try clear hcz25_1
                       try clear hcz31_0
                       try clear hcz31_1
                       try clear hcz32_0
                       try clear hcz32_1
                       try clear hcz48_0
                       try clear hcz48_1
                       try clear hcz49_0
                       try clear hcz49_1
                       try clear hcz62_0
                       try clear hcz62_1
                       try clear hcz66_0
                       try clear hcz66_1
                       try clear hcz67_0
                       try clear hcz67_1
                       try clear hcz69_0
                       try clear hcz69_1
                       try clear hcz70_0
                       try clear hcz70_1
                       try clear hcz81_0
                       try clear hcz81_1
                       try clear hcz86_0
                       try clear hcz86_1
                       try clear hcz87_0
                       try clear hcz87_1
                       try clear hcz89_0
                       try clear hcz89_1
                       try clear hcz90_0
                       try clear hcz90_1
                       try clear hfz101_0
                       try clear hfz101_1
                       try clear hfz107_0
                       try clear hfz107_1
                       try clear hfz109_0
                       try clear hfz109_1
                       try clear hfz112_0
                       try clear hfz112_1
                       try clear hfz114_0
                       try clear hfz114_1
                       try clear hfz25_0
                       try clear hfz25_1
                       try clear hfz31_0
                       try clear hfz31_1
                       try clear hfz32_0
                       try clear hfz32_1
                       try clear hfz48_0
                       try clear hfz48_1
                       try clear hfz49_0
                       try clear hfz49_1
                       try clear hfz62_0
                       try clear hfz62_1
                       try clear hfz66_0
                       try clear hfz66_1
                       try clear hfz67_0
                       try clear hfz67_1
                       try clear hfz69_0
                       try clear hfz69_1
                       try clear hfz70_0
                       try clear hfz70_1
                       try clear hfz81_0
                       try clear hfz81_1
                       try clear hfz86_0
                       try clear hfz86_1
                       try clear hfz87_0
                       try clear hfz87_1
                       try clear hfz89_0
                       try clear hfz89_1
                       try clear hfz90_0
                       try clear hfz90_1
                       try clear p2
                       try clear p6
                       try clear p64
                       obtain ⟨kq, x252_94, rfl, HA, HJ94, BK707, BK728, BK734, HB⟩ := hcut
                       cases kq with
                       | zero => exact absurd HA.out (by simp [law_CurveThrough.j9])
                       | succ kj94 =>
                        have H := HA.out
                        clear HA
                        simp only [law_CurveThrough.j9] at H
                        by_cases c115 : x252_94 = true
                        ·
                         subst c115
                         have H1 : (some false) = some r := by rw [if_pos rfl] at H; exact H
                         clear H
                         have H := H1
                         clear H1
                         obtain rfl := Option.some.inj H
                         go_wp2
                         go_ret
                         exact ⟨by first | rfl | (simp [errW_none, errW_some] <;> rfl) | (simp [*, errW_none, errW_some] <;> rfl), by repeat (first | (with_reducible first | exact HB.out | apply below_alloc | apply pw_below_drewN | apply below_drew1 | refine below_set ?_ GE707.out | refine below_set ?_ GE728.out | refine below_set ?_ GE734.out) | exact HB.out)⟩
                        ·
                         replace c115 := Bool.eq_false_iff.mpr c115
                         subst c115
                         have H1 : (some true) = some r := by rw [if_neg (show ¬ (false = true) by decide)] at H; exact H
                         clear H
                         have H := H1
                         clear H1
                         obtain rfl := Option.some.inj H
                         go_wp2
                         go_ret
                         exact ⟨by first | rfl | (simp [errW_none, errW_some] <;> rfl) | (simp [*, errW_none, errW_some] <;> rfl), by repeat (first | (with_reducible first | exact HB.out | apply below_alloc | apply pw_below_drewN | apply below_drew1 | refine below_set ?_ GE707.out | refine below_set ?_ GE728.out | refine below_set ?_ GE734.out) | exact HB.out)⟩
                     ·
                      rw [if_neg c93] at H
                      have c93b0 : (t730 == 0) = false := beq_eq_false_iff_ne.mpr c93
                      have c93b1 : (t730 != 0) = true := bne_iff_ne.mpr c93
                      obtain rfl := Option.some.inj H
                      go_wp2_with (first | ((with_reducible refine gate_callee (f := 38) rfl ?_); refine goesL_ (some 222) rfl rfl Tryd.func38 (by kernel_rfl) rfl #[.slice A0 l0.length c0, .slice A2 l2.length c2] rfl (by (try simp only [List.map_toArray, List.map_cons, List.map_nil]); first | done | rfl | (simp only [List.length_drop, List.length_take]; rfl)) ?_; (with_reducible refine (curve_Below.calls _ _ l0 _ _ l2 t729 t730 _ ?side1 ?side2 ?side3 ?side4 A92.out).mono ?_); (case side1 => repeat (first | exact (Kd.C_below HR0.out HB.out) | (with_reducible refine Kd.C_alloc ?_ _) | (with_reducible refine Kd.C_drewN ?_ _) | (with_reducible refine Kd.C_drew ?_))); (case side2 => exact HC0.out); (case side3 => repeat (first | exact (Kd.C_below HR2.out HB.out) | (with_reducible refine Kd.C_alloc ?_ _) | (with_reducible refine Kd.C_drewN ?_ _) | (with_reducible refine Kd.C_drew ?_))); (case side4 => exact HC2.out); rintro e w116 ⟨rfl, hb⟩; refine ⟨_, rfl, ?_⟩; have n0_ := Aside0.mk (blk_below (g := gb707) (o := .cells #[.int .i64 t704, .int .i64 t705] 43 (0, 0)) (by (with_reducible repeat (first | refine blk_drewN ?_ _ | refine blk_drew ?_ | refine blk_alloc ?_ _)); exact BK707.out) hb); have n1_ := Aside0.mk (blk_below (g := gb728) (o := .cells #[.int .i64 t725, .int .i64 t726] 43 (0, 0)) (by (with_reducible repeat (first | refine blk_drewN ?_ _ | refine blk_drew ?_ | refine blk_alloc ?_ _)); exact BK728.out) hb); have n2_ := Aside0.mk (below_step (by repeat (first | (with_reducible first | exact HB.out | apply below_alloc | apply pw_below_drewN | apply below_drew1 | refine below_set ?_ GE707.out | refine below_set ?_ GE728.out) | exact HB.out)) hb); clear BK707; clear BK728; clear HB; have BK707 := n0_; have BK728 := n1_; have HB := n2_; clear n0_ n1_ n2_; (try clear hb); (try clear hb2); (try clear hk); (try clear hi)))
                      go_ret
                      exact ⟨by first | rfl | (simp [errW_none, errW_some] <;> rfl) | (simp [*, errW_none, errW_some] <;> rfl), by repeat (first | (with_reducible first | exact HB.out | apply below_alloc | apply pw_below_drewN | apply below_drew1 | refine below_set ?_ GE707.out | refine below_set ?_ GE728.out) | exact HB.out)⟩
                 ·
                  rw [if_neg c74] at H
                  have c74b0 : (t724 == 0) = false := beq_eq_false_iff_ne.mpr c74
                  have c74b1 : (t724 != 0) = true := bne_iff_ne.mpr c74
                  obtain rfl := Option.some.inj H
                  go_wp2_with (first | ((with_reducible refine gate_callee (f := 38) rfl ?_); refine goesL_ (some 188) rfl rfl Tryd.func38 (by kernel_rfl) rfl #[.slice A1 l1.length c1, .slice A2 l2.length c2] rfl (by (try simp only [List.map_toArray, List.map_cons, List.map_nil]); first | done | rfl | (simp only [List.length_drop, List.length_take]; rfl)) ?_; (with_reducible refine (curve_Below.calls _ _ l1 _ _ l2 t723 t724 _ ?side1 ?side2 ?side3 ?side4 A73.out).mono ?_); (case side1 => repeat (first | exact (Kd.C_below HR1.out HB.out) | (with_reducible refine Kd.C_alloc ?_ _) | (with_reducible refine Kd.C_drewN ?_ _) | (with_reducible refine Kd.C_drew ?_))); (case side2 => exact HC1.out); (case side3 => repeat (first | exact (Kd.C_below HR2.out HB.out) | (with_reducible refine Kd.C_alloc ?_ _) | (with_reducible refine Kd.C_drewN ?_ _) | (with_reducible refine Kd.C_drew ?_))); (case side4 => exact HC2.out); rintro e w117 ⟨rfl, hb⟩; refine ⟨_, rfl, ?_⟩; have n0_ := Aside0.mk (blk_below (g := gb707) (o := .cells #[.int .i64 t704, .int .i64 t705] 43 (0, 0)) (by (with_reducible repeat (first | refine blk_drewN ?_ _ | refine blk_drew ?_ | refine blk_alloc ?_ _)); exact BK707.out) hb); have n1_ := Aside0.mk (below_step (by repeat (first | (with_reducible first | exact HB.out | apply below_alloc | apply pw_below_drewN | apply below_drew1 | refine below_set ?_ GE707.out) | exact HB.out)) hb); clear BK707; clear HB; have BK707 := n0_; have HB := n1_; clear n0_ n1_; (try clear hb); (try clear hb2); (try clear hk); (try clear hi)))
                  go_ret
                  exact ⟨by first | rfl | (simp [errW_none, errW_some] <;> rfl) | (simp [*, errW_none, errW_some] <;> rfl), by repeat (first | (with_reducible first | exact HB.out | apply below_alloc | apply pw_below_drewN | apply below_drew1 | refine below_set ?_ GE707.out) | exact HB.out)⟩
     ·
      rw [if_neg c19] at H
      have c19b0 : (t706 == 0) = false := beq_eq_false_iff_ne.mpr c19
      have c19b1 : (t706 != 0) = true := bne_iff_ne.mpr c19
      by_cases c118 : t706 = 1
      ·
       rw [if_pos c118] at H
       have c118b0 : (t706 == 1) = true := beq_iff_eq.mpr c118
       have c118b1 : (t706 != 1) = false := bne_eq_false_iff_eq.mpr c118
       clear c118
       obtain rfl := Option.some.inj H
       go_wp2_with (first | ((with_reducible refine gate_callee (f := 40) rfl ?_); refine goesL_ (some 56) rfl rfl Tryd.func40 (by kernel_rfl) rfl #[.slice A0 l0.length c0, .slice A1 l1.length c1, .int .i64 a3] rfl (by (try simp only [List.map_toArray, List.map_cons, List.map_nil]); first | done | rfl | (simp only [List.length_drop, List.length_take]; rfl)) ?_; (with_reducible refine (curve_Through.calls _ _ l0 _ _ l1 a3 t704 t705 t706 _ ?side1 ?side2 ?side3 ?side4 A18.out).mono ?_); (case side1 => repeat (first | exact (Kd.C_below HR0.out HB.out) | (with_reducible refine Kd.C_alloc ?_ _) | (with_reducible refine Kd.C_drewN ?_ _) | (with_reducible refine Kd.C_drew ?_))); (case side2 => exact HC0.out); (case side3 => repeat (first | exact (Kd.C_below HR1.out HB.out) | (with_reducible refine Kd.C_alloc ?_ _) | (with_reducible refine Kd.C_drewN ?_ _) | (with_reducible refine Kd.C_drew ?_))); (case side4 => exact HC1.out); rintro e w119 ⟨rfl, hb⟩; refine ⟨_, rfl, ?_⟩; have n0_ := Aside0.mk (below_step (by repeat (first | (with_reducible first | exact HB.out | apply below_alloc | apply pw_below_drewN | apply below_drew1) | exact HB.out)) hb); clear HB; have HB := n0_; clear n0_; (try clear hb); (try clear hb2); (try clear hk); (try clear hi)) | ((with_reducible refine gate_dst (N := 11) rfl ?_); refine box_event ?hg (N := 11) ?hd (cs := #[.int .i64 0, .int .i64 0]) (t := 43) ?hr ?_; (case hd => rfl); (case hg => rfl); (case hr => first | (go_simp; done) | (go_simp; rfl)); intro gb707 hg w120 hbox hb; have n0_ := Aside0.mk (below_step (by repeat (first | (with_reducible first | exact HB.out | apply below_alloc | apply pw_below_drewN | apply below_drew1) | exact HB.out)) hb); have n1_ := Aside0.mk (hbox); have n2_ := Aside0.mk ((by rw [hg]; exact (below_size (by repeat (first | (with_reducible first | exact HB.out | apply below_alloc | apply pw_below_drewN | apply below_drew1) | exact HB.out))) : w.heap.size ≤ gb707)); have n3_ := Aside0.mk ((by rw [hg]; exact (below_size (by repeat (first | (with_reducible first | exact HB.out | apply below_alloc | apply pw_below_drewN | apply below_drew1) | exact HB.out))) : w.heap.size ≤ gb707)); clear HB; have HB := n0_; have BK707 := n1_; have GW707 := n2_; have GE707 := n3_; clear n0_ n1_ n2_ n3_; clear hb hbox hg; have hcz121_0 : w120.cell? ⟨gb707, 0, none⟩ = some (.int .i64 0) := (blk_cell BK707.out 0).trans rfl; have hcz121_1 : w120.cell? ⟨gb707, 1, none⟩ = some (.int .i64 0) := (blk_cell BK707.out 1).trans rfl; have hfz121_0 := blk_frozen BK707.out 0; have hfz121_1 := blk_frozen BK707.out 1))
       go_ret
       exact ⟨by first | rfl | (simp [errW_none, errW_some] <;> rfl) | (simp [*, errW_none, errW_some] <;> rfl), by repeat (first | (with_reducible first | exact HB.out | apply below_alloc | apply pw_below_drewN | apply below_drew1 | refine below_set ?_ GE707.out) | exact HB.out)⟩
      ·
       rw [if_neg c118] at H
       have c118b0 : (t706 == 1) = false := beq_eq_false_iff_ne.mpr c118
       have c118b1 : (t706 != 1) = true := bne_iff_ne.mpr c118
       obtain rfl := Option.some.inj H
       go_wp2_with (first | ((with_reducible refine gate_callee (f := 40) rfl ?_); refine goesL_ (some 56) rfl rfl Tryd.func40 (by kernel_rfl) rfl #[.slice A0 l0.length c0, .slice A1 l1.length c1, .int .i64 a3] rfl (by (try simp only [List.map_toArray, List.map_cons, List.map_nil]); first | done | rfl | (simp only [List.length_drop, List.length_take]; rfl)) ?_; (with_reducible refine (curve_Through.calls _ _ l0 _ _ l1 a3 t704 t705 t706 _ ?side1 ?side2 ?side3 ?side4 A18.out).mono ?_); (case side1 => repeat (first | exact (Kd.C_below HR0.out HB.out) | (with_reducible refine Kd.C_alloc ?_ _) | (with_reducible refine Kd.C_drewN ?_ _) | (with_reducible refine Kd.C_drew ?_))); (case side2 => exact HC0.out); (case side3 => repeat (first | exact (Kd.C_below HR1.out HB.out) | (with_reducible refine Kd.C_alloc ?_ _) | (with_reducible refine Kd.C_drewN ?_ _) | (with_reducible refine Kd.C_drew ?_))); (case side4 => exact HC1.out); rintro e w122 ⟨rfl, hb⟩; refine ⟨_, rfl, ?_⟩; have n0_ := Aside0.mk (below_step (by repeat (first | (with_reducible first | exact HB.out | apply below_alloc | apply pw_below_drewN | apply below_drew1) | exact HB.out)) hb); clear HB; have HB := n0_; clear n0_; (try clear hb); (try clear hb2); (try clear hk); (try clear hi)) | ((with_reducible refine gate_dst (N := 11) rfl ?_); refine box_event ?hg (N := 11) ?hd (cs := #[.int .i64 0, .int .i64 0]) (t := 43) ?hr ?_; (case hd => rfl); (case hg => rfl); (case hr => first | (go_simp; done) | (go_simp; rfl)); intro gb707 hg w123 hbox hb; have n0_ := Aside0.mk (below_step (by repeat (first | (with_reducible first | exact HB.out | apply below_alloc | apply pw_below_drewN | apply below_drew1) | exact HB.out)) hb); have n1_ := Aside0.mk (hbox); have n2_ := Aside0.mk ((by rw [hg]; exact (below_size (by repeat (first | (with_reducible first | exact HB.out | apply below_alloc | apply pw_below_drewN | apply below_drew1) | exact HB.out))) : w.heap.size ≤ gb707)); have n3_ := Aside0.mk ((by rw [hg]; exact (below_size (by repeat (first | (with_reducible first | exact HB.out | apply below_alloc | apply pw_below_drewN | apply below_drew1) | exact HB.out))) : w.heap.size ≤ gb707)); clear HB; have HB := n0_; have BK707 := n1_; have GW707 := n2_; have GE707 := n3_; clear n0_ n1_ n2_ n3_; clear hb hbox hg; have hcz124_0 : w123.cell? ⟨gb707, 0, none⟩ = some (.int .i64 0) := (blk_cell BK707.out 0).trans rfl; have hcz124_1 : w123.cell? ⟨gb707, 1, none⟩ = some (.int .i64 0) := (blk_cell BK707.out 1).trans rfl; have hfz124_0 := blk_frozen BK707.out 0; have hfz124_1 := blk_frozen BK707.out 1))
       go_ret
       exact ⟨by first | rfl | (simp [errW_none, errW_some] <;> rfl) | (simp [*, errW_none, errW_some] <;> rfl), by repeat (first | (with_reducible first | exact HB.out | apply below_alloc | apply pw_below_drewN | apply below_drew1 | refine below_set ?_ GE707.out) | exact HB.out)⟩
 ·
  replace c7 := Bool.eq_false_iff.mpr c7
  subst c7
  have H1 : (some false) = some r := by rw [if_neg (show ¬ (false = true) by decide)] at H; exact H
  clear H
  have H := H1
  clear H1
  obtain rfl := Option.some.inj H
  go_enter Tryd.func13, Tryd.ntmps13
  go_wp2_with (first | ((with_reducible refine gate_callee (f := 18) rfl ?_); refine goesL_ (some 31) rfl rfl Tryd.func18 (by kernel_rfl) rfl #[] rfl (by (try simp only [List.map_toArray, List.map_cons, List.map_nil]); first | done | rfl | (simp only [List.length_drop, List.length_take]; rfl)) ?_; (with_reducible refine (law_sane.calls  false _ A6.out).mono ?_); rintro e w125 ⟨rfl, hb⟩; refine ⟨_, rfl, ?_⟩; have n0_ := Aside0.mk (below_step (by repeat (first | (with_reducible first | exact HB.out | apply below_alloc | apply pw_below_drewN | apply below_drew1) | exact HB.out)) hb); clear HB; have HB := n0_; clear n0_; (try clear hb); (try clear hb2); (try clear hk); (try clear hi)))
  go_ret
  exact ⟨by first | rfl | (simp [errW_none, errW_some] <;> rfl) | (simp [*, errW_none, errW_some] <;> rfl), by repeat (first | (with_reducible first | exact HB.out | apply below_alloc | apply pw_below_drewN | apply below_drew1) | exact HB.out)⟩
end Go.Proofs.YtlhhpogaaneamaaDoor.X
namespace Go.Proofs.YtlhhpogaaneamaaDoor.X
open Go.RowKit
set_option linter.unusedVariables false
set_option linter.unusedSimpArgs false
theorem through_cases {a b : List S57} (ha : Good a) (hb : Good b) (x : Int) : curve_Through.f a b x = some (0, 0, 1) ∨
  (inB a x = true ∧ ∃ (lo hi : Int) (u : Rat), curve_Through.f a b x = some (lo, hi, 0) ∧ On b (valR a x) u ∧ (∀ y : Int, y ≤ lo ↔ (y : Rat) ≤ u) ∧ (∀ y : Int, hi ≤ y ↔ u ≤ (y : Rat))) := by
 cases hx : inB a x with
 | false => left; unfold curve_Through.f; rw [if_pos ⟨good_iff.2 ha, good_iff.2 hb⟩, hx]; rfl
 | true =>
  by_cases h0 : (px b 0 : Rat) ≤ valR a x
  ·
   by_cases h1 : valR a x ≤ (px b (b.length - 1) : Rat)
   ·
    exact Or.inr ⟨rfl, through_in_eq ha hb hx h0 h1⟩
   ·
    exact Or.inl (through_out_eq ha hb hx (Or.inr (by grind)))
  ·
   exact Or.inl (through_out_eq ha hb hx (Or.inl (by grind)))
theorem round_le {lo hi lo' hi' : Int} {u u' : Rat} (h1 : ∀ y : Int, y ≤ lo ↔ (y : Rat) ≤ u) (h2 : ∀ y : Int, hi ≤ y ↔ u ≤ (y : Rat)) (h3 : ∀ y : Int, y ≤ lo' ↔ (y : Rat) ≤ u') (h4 : ∀ y : Int, hi' ≤ y ↔ u' ≤ (y : Rat)) (h : u ≤ u') : ¬ lo' < lo ∧ ¬ hi' < hi := by
 have a := (h3 lo).2 (Rat.le_trans ((h1 lo).1 (Int.le_refl _)) h)
 have b := (h2 hi').2 (Rat.le_trans h ((h4 hi').1 (Int.le_refl _)))
 omega
theorem through_j8 {a b c : List S57} (ha : Good a) (hb : Good b) (hc : Good c) {x lo hi : Int} {u : Rat} (hx : inB a x = true) (o : On b (valR a x) u) (h1 : ∀ y : Int, y ≤ lo ↔ (y : Rat) ≤ u) (h2 : ∀ y : Int, hi ≤ y ↔ u ≤ (y : Rat)) (k : Nat) :
  law_CurveThrough.j8 (k + 2) a b c x false lo hi = some true := by
 obtain ⟨r, e, hr⟩ := below_iff ha hc
 have ra := (inB_iff ha).1 hx
 rcases through_cases hc hb x with e2 | ⟨hx2, lo', hi', u', e2, o', h3, h4⟩
 ·
  cases r <;> simp [law_CurveThrough.j8, e, e2, law_CurveThrough.j9]
 ·
  cases r with
  | false => simp [law_CurveThrough.j8, e, e2, law_CurveThrough.j9]
  | true =>
   have rc := (inB_iff hc).1 hx2
   have hv := hr.1 rfl _ _ _ (valR_on ha ra.1 ra.2) (valR_on hc rc.1 rc.2)
   have := round_le h1 h2 h3 h4 (On.le hb.rising o o' hv)
   simp [law_CurveThrough.j8, e, e2, law_CurveThrough.j9, this]
theorem through_j7 {a b c : List S57} (ha : Good a) (hb : Good b) (hc : Good c) {x lo hi : Int} {u : Rat} (hx : inB a x = true) (o : On b (valR a x) u) (h1 : ∀ y : Int, y ≤ lo ↔ (y : Rat) ≤ u) (h2 : ∀ y : Int, hi ≤ y ↔ u ≤ (y : Rat)) (k : Nat) :
  law_CurveThrough.j7 (k + 3) a b c x lo hi = some true := by
 obtain ⟨r, e, hr⟩ := below_iff hb hc
 have key := through_j8 ha hb hc hx o h1 h2 k
 rcases through_cases ha hc x with e2 | ⟨hx2, lo', hi', u', e2, o', h3, h4⟩
 ·
  cases r <;> simp [law_CurveThrough.j7, e, e2, key]
 ·
  cases r with
  | false => simp [law_CurveThrough.j7, e, e2, key]
  | true =>
   have := round_le h1 h2 h3 h4 (hr.1 rfl _ _ _ o o')
   simp [law_CurveThrough.j7, e, e2, key, this]
theorem through_j4 {a b c : List S57} (ha : Good a) (hb : Good b) (hc : Good c) {x lo hi : Int} {u : Rat} (more : Int) (hx : inB a x = true) (o : On b (valR a x) u) (h1 : ∀ y : Int, y ≤ lo ↔ (y : Rat) ≤ u) (h2 : ∀ y : Int, hi ≤ y ↔ u ≤ (y : Rat)) (k : Nat) :
  law_CurveThrough.j4 (k + 6) a b c x more lo hi = some true := by
 have key := fun k => through_j7 ha hb hc hx o h1 h2 k
 have ra := (inB_iff ha).1 hx
 have hl := ha.len2
 have b0 := ha.bx 0 (by omega)
 have b1 := ha.bx (a.length - 1) (by omega)
 by_cases m0 : more > 0
 ·
  by_cases m1 : more ≤ 16777216
  ·
   have ew : wrap64 (x + more) = x + more := w64 (by omega) (by omega)
   cases hi2 : inB a (x + more) with
   | false => simp [law_CurveThrough.j4, m0, m1, ew, in_eq ha, hi2, law_CurveThrough.j5, key]
   | true =>
    have rb := (inB_iff ha).1 hi2
    rcases through_cases ha hb (x + more) with e2 | ⟨hx2, lo', hi', u', e2, o', h3, h4⟩
    ·
     simp [law_CurveThrough.j4, m0, m1, ew, in_eq ha, hi2, law_CurveThrough.j5, law_CurveThrough.j6, key, e2]
    ·
     have := round_le h1 h2 h3 h4 (On.le hb.rising o o' (valR_le ha ra.1 (by omega) rb.2))
     simp [law_CurveThrough.j4, m0, m1, ew, in_eq ha, hi2, law_CurveThrough.j5, law_CurveThrough.j6, key, e2, this]
  ·
   simp [law_CurveThrough.j4, m0, m1, law_CurveThrough.j5, key]
 ·
  simp [law_CurveThrough.j4, m0, law_CurveThrough.j5, key]
theorem through_j0 {a b c : List S57} (ha : Good a) (hb : Good b) (hc : Good c) {x : Int} (more : Int) (hx : inB a x = true) (k : Nat) :
  law_CurveThrough.j0 (k + 10) a b c x more false = some true := by
 rcases through_cases ha hb x with e | ⟨_, lo, hi, u, e, o, h1, h2⟩
 ·
  simp [law_CurveThrough.j0, e]
 ·
  have key := fun k => through_j4 ha hb hc more hx o h1 h2 k
  obtain ⟨low, e1, hlow⟩ := low_in ha hx
  obtain ⟨high, e2, hhigh⟩ := high_in ha hx
  have l1 := (h1 lo).1 (Int.le_refl _)
  have l2 := (h2 hi).1 (Int.le_refl _)
  have l3 : lo ≤ hi := of_cast_le (Rat.le_trans l1 l2)
  have l4 : hi ≤ lo + 1 := by
   refine (h2 _).2 ?_
   have : ¬ ((lo + 1 : Int) : Rat) ≤ u := fun h => by have := (h1 _).2 h; omega
   grind
  have ob := o.range_y hb.rising
  have w : ¬ wrap64 (hi - lo) > 1 := by
   have : hi - lo = 0 ∨ hi - lo = 1 := by omega
   rcases this with h | h <;> rw [h, w64 (by omega) (by omega)] <;> omega
  have w' : ¬ 1 < wrap64 (hi - lo) := w
  have l5 : ¬ hi < lo := by omega
  cases i1 : inB b low with
  | false => simp [law_CurveThrough.j0, e, e1, e2, l5, w', law_CurveThrough.j1, in_eq hb, i1, law_CurveThrough.j2, key]
  | true =>
   cases i2 : inB b high with
   | false => simp [law_CurveThrough.j0, e, e1, e2, l5, w', law_CurveThrough.j1, in_eq hb, i1, i2, law_CurveThrough.j2, key]
   | true =>
    obtain ⟨p, e3, hp⟩ := low_in hb i1
    obtain ⟨q, e4, hq⟩ := high_in hb i2
    have r1 := (inB_iff hb).1 i1
    have r2 := (inB_iff hb).1 i2
    have v1 := On.le hb.rising (valR_on hb r1.1 r1.2) o ((hlow _).1 (Int.le_refl _))
    have v2 := On.le hb.rising o (valR_on hb r2.1 r2.2) ((hhigh _).1 (Int.le_refl _))
    have g1 : ¬ lo < p := by have := (h1 p).2 (Rat.le_trans ((hp p).1 (Int.le_refl _)) v1); omega
    have g2 : ¬ q < hi := by have := (h2 q).2 (Rat.le_trans v2 ((hq q).1 (Int.le_refl _))); omega
    simp [law_CurveThrough.j0, e, e1, e2, l5, w', law_CurveThrough.j1, in_eq hb, i1, i2, law_CurveThrough.j2, e3, e4, g1, g2, law_CurveThrough.j3, key]
theorem through_true (a b c : List S57) (x more : Int) : ∃ k, law_CurveThrough.f k a b c x more = some true := by
 obtain ⟨k1, h1⟩ := (valid_ev a).fix
 obtain ⟨k2, h2⟩ := (valid_ev b).fix
 obtain ⟨k3, h3⟩ := (valid_ev c).fix
 refine ⟨k1 + k2 + k3 + 10, ?_⟩
 have h1' := h1 (k1 + k2 + k3) (by omega) 10
 have h2' := h2 (k1 + k2 + k3) (by omega) 10
 have h3' := h3 (k1 + k2 + k3) (by omega) 10
 have out : ∀ K, law_CurveThrough.j0 (K + 10) a b c x more true = some true := fun K => by simp [law_CurveThrough.j0]
 cases hga : goodB a with
 | false => rw [hga] at h1'; simp [law_CurveThrough.f, law_sane.f, h1', out]
 | true =>
  rw [hga] at h1'
  cases hgb : goodB b with
  | false => rw [hgb] at h2'; simp [law_CurveThrough.f, law_sane.f, h1', h2', out]
  | true =>
   rw [hgb] at h2'
   cases hgc : goodB c with
   | false => rw [hgc] at h3'; simp [law_CurveThrough.f, law_sane.f, h1', h2', h3', out]
   | true =>
    rw [hgc] at h3'
    cases hx : inB a x with
    | false => simp [law_CurveThrough.f, law_sane.f, h1', h2', h3', in_eq (good_of hga), hx, out]
    | true => simp [law_CurveThrough.f, law_sane.f, h1', h2', h3', in_eq (good_of hga), hx, through_j0 (good_of hga) (good_of hgb) (good_of hgc) more hx]
end Go.Proofs.YtlhhpogaaneamaaDoor.X
