/- curveBelow_holds: the declarations of this seat that its proof uses. Conditions: none. -/
import Derived.Test.YtlhhpogaaneamaaDoorKBP4
namespace Go.Proofs.YtlhhpogaaneamaaDoor.X
open Go.RowKit Go.Proofs.YtlhhpogaaneamaaDoorW.PrintWords Go.Proofs.YtlhhpogaaneamaaDoorW.PrintLast Go.Proofs.YtlhhpogaaneamaaDoorW.PrintMore
set_option linter.unusedVariables false
set_option linter.unusedSimpArgs false
attribute [local go_sem high] eqA57
mutual
def law_CurveBelow.j0 : Nat → List (S57) → List (S57) → List (S57) → Int → Bool → Option (Bool)
 | 0, _, _, _, _, _ => none
 | k + 1, x0, x1, x2, x3, x43 => if x43 = true then (some true) else ((curve_Below.f x0 x0).bind fun bt646 => ((curve_Below.f x0 x1).bind fun bt648 => ((curve_Below.f x1 x0).bind fun bt650 => (if bt646.2 = 0 then (if bt648.2 = 0 then (if bt650.2 = 0 then (law_CurveBelow.j1 k x0 x1 x2 x3 bt648.1 bt650.1 (!bt646.1)) else (law_CurveBelow.j1 k x0 x1 x2 x3 bt648.1 bt650.1 true)) else (law_CurveBelow.j1 k x0 x1 x2 x3 bt648.1 bt650.1 true)) else (law_CurveBelow.j1 k x0 x1 x2 x3 bt648.1 bt650.1 true)))))
def law_CurveBelow.j1 : Nat → List (S57) → List (S57) → List (S57) → Int → Bool → Bool → Bool → Option (Bool)
 | 0, _, _, _, _, _, _, _ => none
 | k + 1, x0, x1, x2, x3, x11, x13, x75 => if x75 = true then (some false) else ((ref_In.f x0 x3).bind fun t652 => (if t652 = true then ((ref_In.f x1 x3).bind fun t653 => (law_CurveBelow.j2 k x0 x1 x2 x3 x11 x13 t653)) else (law_CurveBelow.j2 k x0 x1 x2 x3 x11 x13 false)))
def law_CurveBelow.j2 : Nat → List (S57) → List (S57) → List (S57) → Int → Bool → Bool → Bool → Option (Bool)
 | 0, _, _, _, _, _, _, _ => none
 | k + 1, x0, x1, x2, x3, x11, x13, x83 => if x83 = true then ((curve_Exact.f k x0 x3).bind fun bt654 => ((curve_Exact.f k x1 x3).bind fun bt658 => (if bt654.2.2 = 0 then (if bt658.2.2 = 0 then (if bt654.2.1 < 1 then (law_CurveBelow.j3 k x0 x1 x2 x11 x13 true bt654.1 bt654.2.1 bt658.1 bt658.2.1) else (if bt658.2.1 < 1 then (law_CurveBelow.j3 k x0 x1 x2 x11 x13 true bt654.1 bt654.2.1 bt658.1 bt658.2.1) else (if bt654.2.1 > 16777216 then (law_CurveBelow.j3 k x0 x1 x2 x11 x13 true bt654.1 bt654.2.1 bt658.1 bt658.2.1) else (law_CurveBelow.j3 k x0 x1 x2 x11 x13 (decide (bt658.2.1 > 16777216)) bt654.1 bt654.2.1 bt658.1 bt658.2.1)))) else (law_CurveBelow.j3 k x0 x1 x2 x11 x13 true bt654.1 bt654.2.1 bt658.1 bt658.2.1)) else (law_CurveBelow.j3 k x0 x1 x2 x11 x13 true bt654.1 bt654.2.1 bt658.1 bt658.2.1)))) else (law_CurveBelow.j5 k x0 x1 x2 x11 x13)
def law_CurveBelow.j5 : Nat → List (S57) → List (S57) → List (S57) → Bool → Bool → Option (Bool)
 | 0, _, _, _, _, _ => none
 | k + 1, x0, x1, x2, x11, x13 => (ref_From.f x0).bind fun t663 => ((ref_From.f x1).bind fun t664 => (if t663 = t664 then ((ref_To.f x0).bind fun t665 => ((ref_To.f x1).bind fun t666 => (law_CurveBelow.j6 k x0 x1 x2 x11 x13 (t665 != t666)))) else (law_CurveBelow.j6 k x0 x1 x2 x11 x13 true)))
def law_CurveBelow.j6 : Nat → List (S57) → List (S57) → List (S57) → Bool → Bool → Bool → Option (Bool)
 | 0, _, _, _, _, _, _ => none
 | k + 1, x0, x1, x2, x11, x13, x148 => if x148 = true then (some true) else ((curve_Normal.f x0).bind fun bt667 => ((curve_Normal.f x1).bind fun bt671 => (if bt667.2 = 0 then (if bt671.2 = 0 then (if x11 = true then ((ref_Same.f k bt667.1 bt671.1).bind fun t675 => (law_CurveBelow.j7 k x0 x1 x2 x11 (x13 != t675))) else ((ref_Same.f k bt667.1 bt671.1).bind fun t676 => (law_CurveBelow.j7 k x0 x1 x2 x11 (false != t676)))) else (law_CurveBelow.j7 k x0 x1 x2 x11 true)) else (law_CurveBelow.j7 k x0 x1 x2 x11 true))))
def law_CurveBelow.j7 : Nat → List (S57) → List (S57) → List (S57) → Bool → Bool → Option (Bool)
 | 0, _, _, _, _, _ => none
 | k + 1, x0, x1, x2, x11, x174 => if x174 = true then (some false) else ((ref_From.f x1).bind fun t677 => ((ref_From.f x2).bind fun t678 => (if t677 = t678 then ((ref_To.f x1).bind fun t679 => ((ref_To.f x2).bind fun t680 => (law_CurveBelow.j8 k x0 x1 x2 x11 (t679 == t680)))) else (law_CurveBelow.j8 k x0 x1 x2 x11 false))))
def law_CurveBelow.j8 : Nat → List (S57) → List (S57) → List (S57) → Bool → Bool → Option (Bool)
 | 0, _, _, _, _, _ => none
 | k + 1, x0, x1, x2, x11, x186 => if x186 = true then ((curve_Below.f x1 x2).bind fun bt681 => ((curve_Below.f x0 x2).bind fun bt683 => (if bt681.2 = 0 then (if bt683.2 = 0 then (if x11 = true then (if bt681.1 = true then (law_CurveBelow.j9 k x0 x1 x11 (!bt683.1)) else (law_CurveBelow.j9 k x0 x1 x11 false)) else (law_CurveBelow.j9 k x0 x1 x11 false)) else (law_CurveBelow.j9 k x0 x1 x11 true)) else (law_CurveBelow.j9 k x0 x1 x11 true)))) else (law_CurveBelow.j10 k x0 x1 x11)
def law_CurveBelow.j10 : Nat → List (S57) → List (S57) → Bool → Option (Bool)
 | 0, _, _, _ => none
 | k + 1, x0, x1, x11 => if 0 < (x0.length : Int) then (if 0 < (x1.length : Int) then (if (!(((rd_T57 x0 0).f0) == ((rd_T57 x1 0).f0)) || (!(((rd_T57 x0 0).f1) == ((rd_T57 x1 0).f1)))) = true then (law_CurveBelow.j11 k x0 x1 x11 true) else (if 0 ≤ (wrap64 ((x0.length : Int) - 1)) then (if (wrap64 ((x0.length : Int) - 1)) < (x0.length : Int) then (if 0 ≤ (wrap64 ((x1.length : Int) - 1)) then (if (wrap64 ((x1.length : Int) - 1)) < (x1.length : Int) then (law_CurveBelow.j11 k x0 x1 x11 (!(((rd_T57 x0 (wrap64 ((x0.length : Int) - 1))).f0) == ((rd_T57 x1 (wrap64 ((x1.length : Int) - 1))).f0)) || (!(((rd_T57 x0 (wrap64 ((x0.length : Int) - 1))).f1) == ((rd_T57 x1 (wrap64 ((x1.length : Int) - 1))).f1))))) else (none)) else (none)) else (none)) else (none))) else (none)) else (none)
def law_CurveBelow.j11 : Nat → List (S57) → List (S57) → Bool → Bool → Option (Bool)
 | 0, _, _, _, _ => none
 | k + 1, x0, x1, x11, x236 => if x236 = true then (some true) else ((curve_Turned.f x0).bind fun bt689 => ((curve_Turned.f x1).bind fun bt693 => ((curve_Below.f bt693.1 bt689.1).bind fun bt697 => (if bt689.2 = 0 then (if bt693.2 = 0 then (if bt697.2 = 0 then (some (bt697.1 == x11)) else (some false)) else (some false)) else (some false)))))
def law_CurveBelow.j9 : Nat → List (S57) → List (S57) → Bool → Bool → Option (Bool)
 | 0, _, _, _, _ => none
 | k + 1, x0, x1, x11, x214 => if x214 = true then (some false) else (law_CurveBelow.j10 k x0 x1 x11)
def law_CurveBelow.j3 : Nat → List (S57) → List (S57) → List (S57) → Bool → Bool → Bool → Int → Int → Int → Int → Option (Bool)
 | 0, _, _, _, _, _, _, _, _, _, _ => none
 | k + 1, x0, x1, x2, x11, x13, x121, x658000, x658001, x662000, x662001 => if x121 = true then (some false) else ((ref_Order.f k x658000 x658001 x662000 x662001).bind fun t662 => (if x11 = true then (if t662 > 0 then (law_CurveBelow.j4 k x0 x1 x2 x11 x13 true) else (if x13 = true then (law_CurveBelow.j4 k x0 x1 x2 x11 x13 (decide (t662 < 0))) else (law_CurveBelow.j4 k x0 x1 x2 x11 x13 false))) else (if x13 = true then (law_CurveBelow.j4 k x0 x1 x2 x11 x13 (decide (t662 < 0))) else (law_CurveBelow.j4 k x0 x1 x2 x11 x13 false))))
def law_CurveBelow.j4 : Nat → List (S57) → List (S57) → List (S57) → Bool → Bool → Bool → Option (Bool)
 | 0, _, _, _, _, _, _ => none
 | k + 1, x0, x1, x2, x11, x13, x136 => if x136 = true then (some false) else (law_CurveBelow.j5 k x0 x1 x2 x11 x13)
end
def law_CurveBelow.f (k : Nat) (l0 : List (S57)) (l1 : List (S57)) (l2 : List (S57)) (a3 : Int) : Option (Bool) := (law_sane.f).bind fun t642 => (if t642 = true then ((ref_Valid.f k l0).bind fun t643 => (if t643 = true then ((ref_Valid.f k l1).bind fun t644 => (if t644 = true then ((ref_Valid.f k l2).bind fun t645 => (law_CurveBelow.j0 k l0 l1 l2 a3 (!t645))) else (law_CurveBelow.j0 k l0 l1 l2 a3 true))) else (law_CurveBelow.j0 k l0 l1 l2 a3 true))) else (some false))
set_option maxHeartbeats 8000000 in
set_option maxRecDepth 100000 in
theorem law_CurveBelow.calls (k : Nat) (A0 : Option Addr) (c0 : Nat) (l0 : List (S57)) (A1 : Option Addr) (c1 : Nat) (l1 : List (S57)) (A2 : Option Addr) (c2 : Nat) (l2 : List (S57)) (a3 : Int) (r : Bool) (w : World) (hr0 : Kd.C k57 w A0 l0.length l0) (hc0 : l0.length ≤ c0) (hr1 : Kd.C k57 w A1 l1.length l1) (hc1 : l1.length ≤ c1) (hr2 : Kd.C k57 w A2 l2.length l2) (hc2 : l2.length ≤ c2) (h : law_CurveBelow.f k l0 l1 l2 a3 = some r) :
  Calls Tryd.prog 12 #[.slice A0 l0.length c0, .slice A1 l1.length c1, .slice A2 l2.length c2, .int .i64 a3] w fun e w' => e = .returned (.bool r) ∧ Below w.heap.size w w' := by
 have hu25 := Tryd.underlying25
 have hu57 := Tryd.underlying57
 have HR0 := Aside0.mk hr0
 have HC0 := Aside0.mk hc0
 clear hr0 hc0
 have HR1 := Aside0.mk hr1
 have HC1 := Aside0.mk hc1
 clear hr1 hc1
 have HR2 := Aside0.mk hr2
 have HC2 := Aside0.mk hc2
 clear hr2 hc2
 have HB := Aside0.mk (Below.refl w.heap.size w)
 have H : ((law_sane.f).bind fun t642 => (if t642 = true then ((ref_Valid.f k l0).bind fun t643 => (if t643 = true then ((ref_Valid.f k l1).bind fun t644 => (if t644 = true then ((ref_Valid.f k l2).bind fun t645 => (law_CurveBelow.j0 k l0 l1 l2 a3 (!t645))) else (law_CurveBelow.j0 k l0 l1 l2 a3 true))) else (law_CurveBelow.j0 k l0 l1 l2 a3 true))) else (some false))) = some r := h
 clear h
 replace H := Option.bind_eq_some_iff.mp H
 obtain ⟨t642, A50, H⟩ := H
 replace H : (if t642 = true then ((ref_Valid.f k l0).bind fun t643 => (if t643 = true then ((ref_Valid.f k l1).bind fun t644 => (if t644 = true then ((ref_Valid.f k l2).bind fun t645 => (law_CurveBelow.j0 k l0 l1 l2 a3 (!t645))) else (law_CurveBelow.j0 k l0 l1 l2 a3 true))) else (law_CurveBelow.j0 k l0 l1 l2 a3 true))) else (some false)) = some r := H
 have A5 := Aside0.mk A50
 clear A50
 by_cases c6 : t642 = true
 ·
  subst c6
  have H1 : ((ref_Valid.f k l0).bind fun t643 => (if t643 = true then ((ref_Valid.f k l1).bind fun t644 => (if t644 = true then ((ref_Valid.f k l2).bind fun t645 => (law_CurveBelow.j0 k l0 l1 l2 a3 (!t645))) else (law_CurveBelow.j0 k l0 l1 l2 a3 true))) else (law_CurveBelow.j0 k l0 l1 l2 a3 true))) = some r := by rw [if_pos rfl] at H; exact H
  clear H
  have H := H1
  clear H1
  have HC7 := Aside0.mk H
  clear H
  go_enter Tryd.func12, Tryd.ntmps12
  go_upto_region 3 with (first | (go_at_call 18; (with_reducible refine (law_sane.calls  true _ A5.out).mono ?_); rintro e w8 ⟨rfl, hb⟩; have n0_ := Aside0.mk (below_step (by repeat (first | (with_reducible first | exact HB.out | apply below_alloc | apply pw_below_drewN | apply below_drew1) | exact HB.out)) hb); clear HB; have HB := n0_; clear n0_; (try clear hb); (try clear hb2); (try clear hk); (try clear hi)))
  repeat (go_quiet (first | (go_at_call 18; (with_reducible refine (law_sane.calls  true _ A5.out).mono ?_); rintro e w8 ⟨rfl, hb⟩; have n0_ := Aside0.mk (below_step (by repeat (first | (with_reducible first | exact HB.out | apply below_alloc | apply pw_below_drewN | apply below_drew1) | exact HB.out)) hb); clear HB; have HB := n0_; clear n0_; (try clear hb); (try clear hb2); (try clear hk); (try clear hi))); go_upto_region 3 with (first | (go_at_call 18; (with_reducible refine (law_sane.calls  true _ A5.out).mono ?_); rintro e w8 ⟨rfl, hb⟩; have n0_ := Aside0.mk (below_step (by repeat (first | (with_reducible first | exact HB.out | apply below_alloc | apply pw_below_drewN | apply below_drew1) | exact HB.out)) hb); clear HB; have HB := n0_; clear n0_; (try clear hb); (try clear hb2); (try clear hk); (try clear hi))))
  (try simp only [Act.put, List.setIfInBounds_toArray, List.set_cons_zero, List.set_cons_succ])
  go_cut [43] (fun v43 wc => ∃ (kq : Nat) (x43_6 : Bool), v43 = .bool x43_6 ∧ Aside0 (law_CurveBelow.j0 kq l0 l1 l2 a3 x43_6 = some r) ∧ Aside0 (kq ≤ k) ∧ Aside0 (Below w.heap.size w wc))
  case first => as_aux_lemma =>
   have H := HC7.out
   clear HC7
   replace H := Option.bind_eq_some_iff.mp H
   obtain ⟨t643, A90, H⟩ := H
   replace H : (if t643 = true then ((ref_Valid.f k l1).bind fun t644 => (if t644 = true then ((ref_Valid.f k l2).bind fun t645 => (law_CurveBelow.j0 k l0 l1 l2 a3 (!t645))) else (law_CurveBelow.j0 k l0 l1 l2 a3 true))) else (law_CurveBelow.j0 k l0 l1 l2 a3 true)) = some r := H
   have A9 := Aside0.mk A90
   clear A90
   by_cases c10 : t643 = true
   ·
    subst c10
    have H1 : ((ref_Valid.f k l1).bind fun t644 => (if t644 = true then ((ref_Valid.f k l2).bind fun t645 => (law_CurveBelow.j0 k l0 l1 l2 a3 (!t645))) else (law_CurveBelow.j0 k l0 l1 l2 a3 true))) = some r := by rw [if_pos rfl] at H; exact H
    clear H
    have H := H1
    clear H1
    replace H := Option.bind_eq_some_iff.mp H
    obtain ⟨t644, A110, H⟩ := H
    replace H : (if t644 = true then ((ref_Valid.f k l2).bind fun t645 => (law_CurveBelow.j0 k l0 l1 l2 a3 (!t645))) else (law_CurveBelow.j0 k l0 l1 l2 a3 true)) = some r := H
    have A11 := Aside0.mk A110
    clear A110
    by_cases c12 : t644 = true
    ·
     subst c12
     have H1 : ((ref_Valid.f k l2).bind fun t645 => (law_CurveBelow.j0 k l0 l1 l2 a3 (!t645))) = some r := by rw [if_pos rfl] at H; exact H
     clear H
     have H := H1
     clear H1
     replace H := Option.bind_eq_some_iff.mp H
     obtain ⟨t645, A130, H⟩ := H
     replace H : (law_CurveBelow.j0 k l0 l1 l2 a3 (!t645)) = some r := H
     have A13 := Aside0.mk A130
     clear A130
     have H' := Aside0.mk H
     clear H
     go_wp2_with (first | (go_at_call 42; (with_reducible refine (ref_Valid.calls k _ _ l0 true _ ?side1 ?side2 A9.out).mono ?_); (case side1 => repeat (first | exact (Kd.C_below HR0.out HB.out) | (with_reducible refine Kd.C_alloc ?_ _) | (with_reducible refine Kd.C_drewN ?_ _) | (with_reducible refine Kd.C_drew ?_))); (case side2 => exact HC0.out); rintro e w' ⟨rfl, ⟨nd, rfl⟩⟩; (try first | exact ⟨rfl, _, World.drewN_drewN _ _ _⟩ | exact ⟨rfl, _, Eq.trans (World.drewN_drewN _ _ _) (congrArg (World.drewN _) (Nat.add_assoc _ _ _))⟩)) | (go_at_call 42; (with_reducible refine (ref_Valid.calls k _ _ l1 true _ ?side1 ?side2 A11.out).mono ?_); (case side1 => repeat (first | exact (Kd.C_below HR1.out (by repeat (first | (with_reducible first | exact HB.out | apply below_alloc | apply pw_below_drewN | apply below_drew1) | exact HB.out))) | (with_reducible refine Kd.C_alloc ?_ _) | (with_reducible refine Kd.C_drewN ?_ _) | (with_reducible refine Kd.C_drew ?_))); (case side2 => exact HC1.out); rintro e w' ⟨rfl, ⟨nd, rfl⟩⟩; (try first | exact ⟨rfl, _, World.drewN_drewN _ _ _⟩ | exact ⟨rfl, _, Eq.trans (World.drewN_drewN _ _ _) (congrArg (World.drewN _) (Nat.add_assoc _ _ _))⟩)) | (go_at_call 42; (with_reducible refine (ref_Valid.calls k _ _ l2 t645 _ ?side1 ?side2 A13.out).mono ?_); (case side1 => repeat (first | exact (Kd.C_below HR2.out (by repeat (first | (with_reducible first | exact HB.out | apply below_alloc | apply pw_below_drewN | apply below_drew1) | exact HB.out))) | (with_reducible refine Kd.C_alloc ?_ _) | (with_reducible refine Kd.C_drewN ?_ _) | (with_reducible refine Kd.C_drew ?_))); (case side2 => exact HC2.out); rintro e w' ⟨rfl, ⟨nd, rfl⟩⟩; (try first | exact ⟨rfl, _, World.drewN_drewN _ _ _⟩ | exact ⟨rfl, _, Eq.trans (World.drewN_drewN _ _ _) (congrArg (World.drewN _) (Nat.add_assoc _ _ _))⟩)))
     repeat (go_quiet (first | (go_at_call 42; (with_reducible refine (ref_Valid.calls k _ _ l0 true _ ?side1 ?side2 A9.out).mono ?_); (case side1 => repeat (first | exact (Kd.C_below HR0.out HB.out) | (with_reducible refine Kd.C_alloc ?_ _) | (with_reducible refine Kd.C_drewN ?_ _) | (with_reducible refine Kd.C_drew ?_))); (case side2 => exact HC0.out); rintro e w' ⟨rfl, ⟨nd, rfl⟩⟩; (try first | exact ⟨rfl, _, World.drewN_drewN _ _ _⟩ | exact ⟨rfl, _, Eq.trans (World.drewN_drewN _ _ _) (congrArg (World.drewN _) (Nat.add_assoc _ _ _))⟩)) | (go_at_call 42; (with_reducible refine (ref_Valid.calls k _ _ l1 true _ ?side1 ?side2 A11.out).mono ?_); (case side1 => repeat (first | exact (Kd.C_below HR1.out (by repeat (first | (with_reducible first | exact HB.out | apply below_alloc | apply pw_below_drewN | apply below_drew1) | exact HB.out))) | (with_reducible refine Kd.C_alloc ?_ _) | (with_reducible refine Kd.C_drewN ?_ _) | (with_reducible refine Kd.C_drew ?_))); (case side2 => exact HC1.out); rintro e w' ⟨rfl, ⟨nd, rfl⟩⟩; (try first | exact ⟨rfl, _, World.drewN_drewN _ _ _⟩ | exact ⟨rfl, _, Eq.trans (World.drewN_drewN _ _ _) (congrArg (World.drewN _) (Nat.add_assoc _ _ _))⟩)) | (go_at_call 42; (with_reducible refine (ref_Valid.calls k _ _ l2 t645 _ ?side1 ?side2 A13.out).mono ?_); (case side1 => repeat (first | exact (Kd.C_below HR2.out (by repeat (first | (with_reducible first | exact HB.out | apply below_alloc | apply pw_below_drewN | apply below_drew1) | exact HB.out))) | (with_reducible refine Kd.C_alloc ?_ _) | (with_reducible refine Kd.C_drewN ?_ _) | (with_reducible refine Kd.C_drew ?_))); (case side2 => exact HC2.out); rintro e w' ⟨rfl, ⟨nd, rfl⟩⟩; (try first | exact ⟨rfl, _, World.drewN_drewN _ _ _⟩ | exact ⟨rfl, _, Eq.trans (World.drewN_drewN _ _ _) (congrArg (World.drewN _) (Nat.add_assoc _ _ _))⟩))); try go_wp2_with (first | (go_at_call 42; (with_reducible refine (ref_Valid.calls k _ _ l0 true _ ?side1 ?side2 A9.out).mono ?_); (case side1 => repeat (first | exact (Kd.C_below HR0.out HB.out) | (with_reducible refine Kd.C_alloc ?_ _) | (with_reducible refine Kd.C_drewN ?_ _) | (with_reducible refine Kd.C_drew ?_))); (case side2 => exact HC0.out); rintro e w' ⟨rfl, ⟨nd, rfl⟩⟩; (try first | exact ⟨rfl, _, World.drewN_drewN _ _ _⟩ | exact ⟨rfl, _, Eq.trans (World.drewN_drewN _ _ _) (congrArg (World.drewN _) (Nat.add_assoc _ _ _))⟩)) | (go_at_call 42; (with_reducible refine (ref_Valid.calls k _ _ l1 true _ ?side1 ?side2 A11.out).mono ?_); (case side1 => repeat (first | exact (Kd.C_below HR1.out (by repeat (first | (with_reducible first | exact HB.out | apply below_alloc | apply pw_below_drewN | apply below_drew1) | exact HB.out))) | (with_reducible refine Kd.C_alloc ?_ _) | (with_reducible refine Kd.C_drewN ?_ _) | (with_reducible refine Kd.C_drew ?_))); (case side2 => exact HC1.out); rintro e w' ⟨rfl, ⟨nd, rfl⟩⟩; (try first | exact ⟨rfl, _, World.drewN_drewN _ _ _⟩ | exact ⟨rfl, _, Eq.trans (World.drewN_drewN _ _ _) (congrArg (World.drewN _) (Nat.add_assoc _ _ _))⟩)) | (go_at_call 42; (with_reducible refine (ref_Valid.calls k _ _ l2 t645 _ ?side1 ?side2 A13.out).mono ?_); (case side1 => repeat (first | exact (Kd.C_below HR2.out (by repeat (first | (with_reducible first | exact HB.out | apply below_alloc | apply pw_below_drewN | apply below_drew1) | exact HB.out))) | (with_reducible refine Kd.C_alloc ?_ _) | (with_reducible refine Kd.C_drewN ?_ _) | (with_reducible refine Kd.C_drew ?_))); (case side2 => exact HC2.out); rintro e w' ⟨rfl, ⟨nd, rfl⟩⟩; (try first | exact ⟨rfl, _, World.drewN_drewN _ _ _⟩ | exact ⟨rfl, _, Eq.trans (World.drewN_drewN _ _ _) (congrArg (World.drewN _) (Nat.add_assoc _ _ _))⟩))))
     go_meet
     case rel => exact ⟨_, (!t645), (by first | rfl | (simp; done) | (simp [*]; done)), H', ⟨by first | omega | exact Nat.le_refl _⟩, ⟨by repeat (first | (with_reducible first | exact HB.out | apply below_alloc | apply pw_below_drewN | apply below_drew1) | exact HB.out)⟩⟩
    ·
     replace c12 := Bool.eq_false_iff.mpr c12
     subst c12
     have H1 : (law_CurveBelow.j0 k l0 l1 l2 a3 true) = some r := by rw [if_neg (show ¬ (false = true) by decide)] at H; exact H
     clear H
     have H := H1
     clear H1
     have H' := Aside0.mk H
     clear H
     go_wp2_with (first | (go_at_call 42; (with_reducible refine (ref_Valid.calls k _ _ l0 true _ ?side1 ?side2 A9.out).mono ?_); (case side1 => repeat (first | exact (Kd.C_below HR0.out HB.out) | (with_reducible refine Kd.C_alloc ?_ _) | (with_reducible refine Kd.C_drewN ?_ _) | (with_reducible refine Kd.C_drew ?_))); (case side2 => exact HC0.out); rintro e w' ⟨rfl, ⟨nd, rfl⟩⟩; (try first | exact ⟨rfl, _, World.drewN_drewN _ _ _⟩ | exact ⟨rfl, _, Eq.trans (World.drewN_drewN _ _ _) (congrArg (World.drewN _) (Nat.add_assoc _ _ _))⟩)) | (go_at_call 42; (with_reducible refine (ref_Valid.calls k _ _ l1 false _ ?side1 ?side2 A11.out).mono ?_); (case side1 => repeat (first | exact (Kd.C_below HR1.out (by repeat (first | (with_reducible first | exact HB.out | apply below_alloc | apply pw_below_drewN | apply below_drew1) | exact HB.out))) | (with_reducible refine Kd.C_alloc ?_ _) | (with_reducible refine Kd.C_drewN ?_ _) | (with_reducible refine Kd.C_drew ?_))); (case side2 => exact HC1.out); rintro e w' ⟨rfl, ⟨nd, rfl⟩⟩; (try first | exact ⟨rfl, _, World.drewN_drewN _ _ _⟩ | exact ⟨rfl, _, Eq.trans (World.drewN_drewN _ _ _) (congrArg (World.drewN _) (Nat.add_assoc _ _ _))⟩)))
     repeat (go_quiet (first | (go_at_call 42; (with_reducible refine (ref_Valid.calls k _ _ l0 true _ ?side1 ?side2 A9.out).mono ?_); (case side1 => repeat (first | exact (Kd.C_below HR0.out HB.out) | (with_reducible refine Kd.C_alloc ?_ _) | (with_reducible refine Kd.C_drewN ?_ _) | (with_reducible refine Kd.C_drew ?_))); (case side2 => exact HC0.out); rintro e w' ⟨rfl, ⟨nd, rfl⟩⟩; (try first | exact ⟨rfl, _, World.drewN_drewN _ _ _⟩ | exact ⟨rfl, _, Eq.trans (World.drewN_drewN _ _ _) (congrArg (World.drewN _) (Nat.add_assoc _ _ _))⟩)) | (go_at_call 42; (with_reducible refine (ref_Valid.calls k _ _ l1 false _ ?side1 ?side2 A11.out).mono ?_); (case side1 => repeat (first | exact (Kd.C_below HR1.out (by repeat (first | (with_reducible first | exact HB.out | apply below_alloc | apply pw_below_drewN | apply below_drew1) | exact HB.out))) | (with_reducible refine Kd.C_alloc ?_ _) | (with_reducible refine Kd.C_drewN ?_ _) | (with_reducible refine Kd.C_drew ?_))); (case side2 => exact HC1.out); rintro e w' ⟨rfl, ⟨nd, rfl⟩⟩; (try first | exact ⟨rfl, _, World.drewN_drewN _ _ _⟩ | exact ⟨rfl, _, Eq.trans (World.drewN_drewN _ _ _) (congrArg (World.drewN _) (Nat.add_assoc _ _ _))⟩))); try go_wp2_with (first | (go_at_call 42; (with_reducible refine (ref_Valid.calls k _ _ l0 true _ ?side1 ?side2 A9.out).mono ?_); (case side1 => repeat (first | exact (Kd.C_below HR0.out HB.out) | (with_reducible refine Kd.C_alloc ?_ _) | (with_reducible refine Kd.C_drewN ?_ _) | (with_reducible refine Kd.C_drew ?_))); (case side2 => exact HC0.out); rintro e w' ⟨rfl, ⟨nd, rfl⟩⟩; (try first | exact ⟨rfl, _, World.drewN_drewN _ _ _⟩ | exact ⟨rfl, _, Eq.trans (World.drewN_drewN _ _ _) (congrArg (World.drewN _) (Nat.add_assoc _ _ _))⟩)) | (go_at_call 42; (with_reducible refine (ref_Valid.calls k _ _ l1 false _ ?side1 ?side2 A11.out).mono ?_); (case side1 => repeat (first | exact (Kd.C_below HR1.out (by repeat (first | (with_reducible first | exact HB.out | apply below_alloc | apply pw_below_drewN | apply below_drew1) | exact HB.out))) | (with_reducible refine Kd.C_alloc ?_ _) | (with_reducible refine Kd.C_drewN ?_ _) | (with_reducible refine Kd.C_drew ?_))); (case side2 => exact HC1.out); rintro e w' ⟨rfl, ⟨nd, rfl⟩⟩; (try first | exact ⟨rfl, _, World.drewN_drewN _ _ _⟩ | exact ⟨rfl, _, Eq.trans (World.drewN_drewN _ _ _) (congrArg (World.drewN _) (Nat.add_assoc _ _ _))⟩))))
     go_meet
     case rel => exact ⟨_, (true), (by first | rfl | (simp; done) | (simp [*]; done)), H', ⟨by first | omega | exact Nat.le_refl _⟩, ⟨by repeat (first | (with_reducible first | exact HB.out | apply below_alloc | apply pw_below_drewN | apply below_drew1) | exact HB.out)⟩⟩
   ·
    replace c10 := Bool.eq_false_iff.mpr c10
    subst c10
    have H1 : (law_CurveBelow.j0 k l0 l1 l2 a3 true) = some r := by rw [if_neg (show ¬ (false = true) by decide)] at H; exact H
    clear H
    have H := H1
    clear H1
    have H' := Aside0.mk H
    clear H
    go_wp2_with (first | (go_at_call 42; (with_reducible refine (ref_Valid.calls k _ _ l0 false _ ?side1 ?side2 A9.out).mono ?_); (case side1 => repeat (first | exact (Kd.C_below HR0.out HB.out) | (with_reducible refine Kd.C_alloc ?_ _) | (with_reducible refine Kd.C_drewN ?_ _) | (with_reducible refine Kd.C_drew ?_))); (case side2 => exact HC0.out); rintro e w' ⟨rfl, ⟨nd, rfl⟩⟩; (try first | exact ⟨rfl, _, World.drewN_drewN _ _ _⟩ | exact ⟨rfl, _, Eq.trans (World.drewN_drewN _ _ _) (congrArg (World.drewN _) (Nat.add_assoc _ _ _))⟩)))
    repeat (go_quiet (first | (go_at_call 42; (with_reducible refine (ref_Valid.calls k _ _ l0 false _ ?side1 ?side2 A9.out).mono ?_); (case side1 => repeat (first | exact (Kd.C_below HR0.out HB.out) | (with_reducible refine Kd.C_alloc ?_ _) | (with_reducible refine Kd.C_drewN ?_ _) | (with_reducible refine Kd.C_drew ?_))); (case side2 => exact HC0.out); rintro e w' ⟨rfl, ⟨nd, rfl⟩⟩; (try first | exact ⟨rfl, _, World.drewN_drewN _ _ _⟩ | exact ⟨rfl, _, Eq.trans (World.drewN_drewN _ _ _) (congrArg (World.drewN _) (Nat.add_assoc _ _ _))⟩))); try go_wp2_with (first | (go_at_call 42; (with_reducible refine (ref_Valid.calls k _ _ l0 false _ ?side1 ?side2 A9.out).mono ?_); (case side1 => repeat (first | exact (Kd.C_below HR0.out HB.out) | (with_reducible refine Kd.C_alloc ?_ _) | (with_reducible refine Kd.C_drewN ?_ _) | (with_reducible refine Kd.C_drew ?_))); (case side2 => exact HC0.out); rintro e w' ⟨rfl, ⟨nd, rfl⟩⟩; (try first | exact ⟨rfl, _, World.drewN_drewN _ _ _⟩ | exact ⟨rfl, _, Eq.trans (World.drewN_drewN _ _ _) (congrArg (World.drewN _) (Nat.add_assoc _ _ _))⟩))))
    go_meet
    case rel => exact ⟨_, (true), (by first | rfl | (simp; done) | (simp [*]; done)), H', ⟨by first | omega | exact Nat.le_refl _⟩, ⟨by repeat (first | (with_reducible first | exact HB.out | apply below_alloc | apply pw_below_drewN | apply below_drew1) | exact HB.out)⟩⟩
  case rest => as_aux_lemma =>
   clear HC7
   try clear c1
   try clear c2
   try clear p2
   try clear c6
   try clear c10
   try clear c12
   obtain ⟨kq, x43_6, rfl, HA, HJ6, HB⟩ := hcut
   cases kq with
   | zero => exact absurd HA.out (by simp [law_CurveBelow.j0])
   | succ kj6 =>
    have H := HA.out
    clear HA
    simp only [law_CurveBelow.j0] at H
    by_cases c14 : x43_6 = true
    ·
     subst c14
     have H1 : (some true) = some r := by rw [if_pos rfl] at H; exact H
     clear H
     have H := H1
     clear H1
     obtain rfl := Option.some.inj H
     go_wp2
     repeat (go_quiet (fail); try go_wp2)
     go_ret
     exact ⟨by first | rfl | (simp [errW_none, errW_some] <;> rfl) | (simp [*, errW_none, errW_some] <;> rfl), by repeat (first | (with_reducible first | exact HB.out | apply below_alloc | apply pw_below_drewN | apply below_drew1) | exact HB.out)⟩
    ·
     replace c14 := Bool.eq_false_iff.mpr c14
     subst c14
     have H1 : ((curve_Below.f l0 l0).bind fun bt646 => ((curve_Below.f l0 l1).bind fun bt648 => ((curve_Below.f l1 l0).bind fun bt650 => (if bt646.2 = 0 then (if bt648.2 = 0 then (if bt650.2 = 0 then (law_CurveBelow.j1 kj6 l0 l1 l2 a3 bt648.1 bt650.1 (!bt646.1)) else (law_CurveBelow.j1 kj6 l0 l1 l2 a3 bt648.1 bt650.1 true)) else (law_CurveBelow.j1 kj6 l0 l1 l2 a3 bt648.1 bt650.1 true)) else (law_CurveBelow.j1 kj6 l0 l1 l2 a3 bt648.1 bt650.1 true))))) = some r := by rw [if_neg (show ¬ (false = true) by decide)] at H; exact H
     clear H
     have H := H1
     clear H1
     replace H := Option.bind_eq_some_iff.mp H
     obtain ⟨⟨t646, t647⟩, A150, H⟩ := H
     replace H : ((curve_Below.f l0 l1).bind fun bt648 => ((curve_Below.f l1 l0).bind fun bt650 => (if t647 = 0 then (if bt648.2 = 0 then (if bt650.2 = 0 then (law_CurveBelow.j1 kj6 l0 l1 l2 a3 bt648.1 bt650.1 (!t646)) else (law_CurveBelow.j1 kj6 l0 l1 l2 a3 bt648.1 bt650.1 true)) else (law_CurveBelow.j1 kj6 l0 l1 l2 a3 bt648.1 bt650.1 true)) else (law_CurveBelow.j1 kj6 l0 l1 l2 a3 bt648.1 bt650.1 true)))) = some r := H
     have A15 := Aside0.mk A150
     clear A150
     replace H := Option.bind_eq_some_iff.mp H
     obtain ⟨⟨t648, t649⟩, A160, H⟩ := H
     replace H : ((curve_Below.f l1 l0).bind fun bt650 => (if t647 = 0 then (if t649 = 0 then (if bt650.2 = 0 then (law_CurveBelow.j1 kj6 l0 l1 l2 a3 t648 bt650.1 (!t646)) else (law_CurveBelow.j1 kj6 l0 l1 l2 a3 t648 bt650.1 true)) else (law_CurveBelow.j1 kj6 l0 l1 l2 a3 t648 bt650.1 true)) else (law_CurveBelow.j1 kj6 l0 l1 l2 a3 t648 bt650.1 true))) = some r := H
     have A16 := Aside0.mk A160
     clear A160
     replace H := Option.bind_eq_some_iff.mp H
     obtain ⟨⟨t650, t651⟩, A170, H⟩ := H
     replace H : (if t647 = 0 then (if t649 = 0 then (if t651 = 0 then (law_CurveBelow.j1 kj6 l0 l1 l2 a3 t648 t650 (!t646)) else (law_CurveBelow.j1 kj6 l0 l1 l2 a3 t648 t650 true)) else (law_CurveBelow.j1 kj6 l0 l1 l2 a3 t648 t650 true)) else (law_CurveBelow.j1 kj6 l0 l1 l2 a3 t648 t650 true)) = some r := H
     have A17 := Aside0.mk A170
     clear A170
     have HC18 := Aside0.mk H
     clear H
     go_upto_region 8 with (first | (go_at_call 38; (with_reducible refine (curve_Below.calls _ _ l0 _ _ l0 t646 t647 _ ?side1 ?side2 ?side3 ?side4 A15.out).mono ?_); (case side1 => repeat (first | exact (Kd.C_below HR0.out HB.out) | (with_reducible refine Kd.C_alloc ?_ _) | (with_reducible refine Kd.C_drewN ?_ _) | (with_reducible refine Kd.C_drew ?_))); (case side2 => exact HC0.out); (case side3 => repeat (first | exact (Kd.C_below HR0.out HB.out) | (with_reducible refine Kd.C_alloc ?_ _) | (with_reducible refine Kd.C_drewN ?_ _) | (with_reducible refine Kd.C_drew ?_))); (case side4 => exact HC0.out); rintro e w19 ⟨rfl, hb⟩; have n0_ := Aside0.mk (below_step (by repeat (first | (with_reducible first | exact HB.out | apply below_alloc | apply pw_below_drewN | apply below_drew1) | exact HB.out)) hb); clear HB; have HB := n0_; clear n0_; (try clear hb); (try clear hb2); (try clear hk); (try clear hi)) | (go_at_call 38; (with_reducible refine (curve_Below.calls _ _ l0 _ _ l1 t648 t649 _ ?side1 ?side2 ?side3 ?side4 A16.out).mono ?_); (case side1 => repeat (first | exact (Kd.C_below HR0.out HB.out) | (with_reducible refine Kd.C_alloc ?_ _) | (with_reducible refine Kd.C_drewN ?_ _) | (with_reducible refine Kd.C_drew ?_))); (case side2 => exact HC0.out); (case side3 => repeat (first | exact (Kd.C_below HR1.out HB.out) | (with_reducible refine Kd.C_alloc ?_ _) | (with_reducible refine Kd.C_drewN ?_ _) | (with_reducible refine Kd.C_drew ?_))); (case side4 => exact HC1.out); rintro e w20 ⟨rfl, hb⟩; have n0_ := Aside0.mk (below_step (by repeat (first | (with_reducible first | exact HB.out | apply below_alloc | apply pw_below_drewN | apply below_drew1) | exact HB.out)) hb); clear HB; have HB := n0_; clear n0_; (try clear hb); (try clear hb2); (try clear hk); (try clear hi)) | (go_at_call 38; (with_reducible refine (curve_Below.calls _ _ l1 _ _ l0 t650 t651 _ ?side1 ?side2 ?side3 ?side4 A17.out).mono ?_); (case side1 => repeat (first | exact (Kd.C_below HR1.out HB.out) | (with_reducible refine Kd.C_alloc ?_ _) | (with_reducible refine Kd.C_drewN ?_ _) | (with_reducible refine Kd.C_drew ?_))); (case side2 => exact HC1.out); (case side3 => repeat (first | exact (Kd.C_below HR0.out HB.out) | (with_reducible refine Kd.C_alloc ?_ _) | (with_reducible refine Kd.C_drewN ?_ _) | (with_reducible refine Kd.C_drew ?_))); (case side4 => exact HC0.out); rintro e w21 ⟨rfl, hb⟩; have n0_ := Aside0.mk (below_step (by repeat (first | (with_reducible first | exact HB.out | apply below_alloc | apply pw_below_drewN | apply below_drew1) | exact HB.out)) hb); clear HB; have HB := n0_; clear n0_; (try clear hb); (try clear hb2); (try clear hk); (try clear hi)))
     repeat (go_quiet (first | (go_at_call 38; (with_reducible refine (curve_Below.calls _ _ l0 _ _ l0 t646 t647 _ ?side1 ?side2 ?side3 ?side4 A15.out).mono ?_); (case side1 => repeat (first | exact (Kd.C_below HR0.out HB.out) | (with_reducible refine Kd.C_alloc ?_ _) | (with_reducible refine Kd.C_drewN ?_ _) | (with_reducible refine Kd.C_drew ?_))); (case side2 => exact HC0.out); (case side3 => repeat (first | exact (Kd.C_below HR0.out HB.out) | (with_reducible refine Kd.C_alloc ?_ _) | (with_reducible refine Kd.C_drewN ?_ _) | (with_reducible refine Kd.C_drew ?_))); (case side4 => exact HC0.out); rintro e w19 ⟨rfl, hb⟩; have n0_ := Aside0.mk (below_step (by repeat (first | (with_reducible first | exact HB.out | apply below_alloc | apply pw_below_drewN | apply below_drew1) | exact HB.out)) hb); clear HB; have HB := n0_; clear n0_; (try clear hb); (try clear hb2); (try clear hk); (try clear hi)) | (go_at_call 38; (with_reducible refine (curve_Below.calls _ _ l0 _ _ l1 t648 t649 _ ?side1 ?side2 ?side3 ?side4 A16.out).mono ?_); (case side1 => repeat (first | exact (Kd.C_below HR0.out HB.out) | (with_reducible refine Kd.C_alloc ?_ _) | (with_reducible refine Kd.C_drewN ?_ _) | (with_reducible refine Kd.C_drew ?_))); (case side2 => exact HC0.out); (case side3 => repeat (first | exact (Kd.C_below HR1.out HB.out) | (with_reducible refine Kd.C_alloc ?_ _) | (with_reducible refine Kd.C_drewN ?_ _) | (with_reducible refine Kd.C_drew ?_))); (case side4 => exact HC1.out); rintro e w20 ⟨rfl, hb⟩; have n0_ := Aside0.mk (below_step (by repeat (first | (with_reducible first | exact HB.out | apply below_alloc | apply pw_below_drewN | apply below_drew1) | exact HB.out)) hb); clear HB; have HB := n0_; clear n0_; (try clear hb); (try clear hb2); (try clear hk); (try clear hi)) | (go_at_call 38; (with_reducible refine (curve_Below.calls _ _ l1 _ _ l0 t650 t651 _ ?side1 ?side2 ?side3 ?side4 A17.out).mono ?_); (case side1 => repeat (first | exact (Kd.C_below HR1.out HB.out) | (with_reducible refine Kd.C_alloc ?_ _) | (with_reducible refine Kd.C_drewN ?_ _) | (with_reducible refine Kd.C_drew ?_))); (case side2 => exact HC1.out); (case side3 => repeat (first | exact (Kd.C_below HR0.out HB.out) | (with_reducible refine Kd.C_alloc ?_ _) | (with_reducible refine Kd.C_drewN ?_ _) | (with_reducible refine Kd.C_drew ?_))); (case side4 => exact HC0.out); rintro e w21 ⟨rfl, hb⟩; have n0_ := Aside0.mk (below_step (by repeat (first | (with_reducible first | exact HB.out | apply below_alloc | apply pw_below_drewN | apply below_drew1) | exact HB.out)) hb); clear HB; have HB := n0_; clear n0_; (try clear hb); (try clear hb2); (try clear hk); (try clear hi))); go_upto_region 8 with (first | (go_at_call 38; (with_reducible refine (curve_Below.calls _ _ l0 _ _ l0 t646 t647 _ ?side1 ?side2 ?side3 ?side4 A15.out).mono ?_); (case side1 => repeat (first | exact (Kd.C_below HR0.out HB.out) | (with_reducible refine Kd.C_alloc ?_ _) | (with_reducible refine Kd.C_drewN ?_ _) | (with_reducible refine Kd.C_drew ?_))); (case side2 => exact HC0.out); (case side3 => repeat (first | exact (Kd.C_below HR0.out HB.out) | (with_reducible refine Kd.C_alloc ?_ _) | (with_reducible refine Kd.C_drewN ?_ _) | (with_reducible refine Kd.C_drew ?_))); (case side4 => exact HC0.out); rintro e w19 ⟨rfl, hb⟩; have n0_ := Aside0.mk (below_step (by repeat (first | (with_reducible first | exact HB.out | apply below_alloc | apply pw_below_drewN | apply below_drew1) | exact HB.out)) hb); clear HB; have HB := n0_; clear n0_; (try clear hb); (try clear hb2); (try clear hk); (try clear hi)) | (go_at_call 38; (with_reducible refine (curve_Below.calls _ _ l0 _ _ l1 t648 t649 _ ?side1 ?side2 ?side3 ?side4 A16.out).mono ?_); (case side1 => repeat (first | exact (Kd.C_below HR0.out HB.out) | (with_reducible refine Kd.C_alloc ?_ _) | (with_reducible refine Kd.C_drewN ?_ _) | (with_reducible refine Kd.C_drew ?_))); (case side2 => exact HC0.out); (case side3 => repeat (first | exact (Kd.C_below HR1.out HB.out) | (with_reducible refine Kd.C_alloc ?_ _) | (with_reducible refine Kd.C_drewN ?_ _) | (with_reducible refine Kd.C_drew ?_))); (case side4 => exact HC1.out); rintro e w20 ⟨rfl, hb⟩; have n0_ := Aside0.mk (below_step (by repeat (first | (with_reducible first | exact HB.out | apply below_alloc | apply pw_below_drewN | apply below_drew1) | exact HB.out)) hb); clear HB; have HB := n0_; clear n0_; (try clear hb); (try clear hb2); (try clear hk); (try clear hi)) | (go_at_call 38; (with_reducible refine (curve_Below.calls _ _ l1 _ _ l0 t650 t651 _ ?side1 ?side2 ?side3 ?side4 A17.out).mono ?_); (case side1 => repeat (first | exact (Kd.C_below HR1.out HB.out) | (with_reducible refine Kd.C_alloc ?_ _) | (with_reducible refine Kd.C_drewN ?_ _) | (with_reducible refine Kd.C_drew ?_))); (case side2 => exact HC1.out); (case side3 => repeat (first | exact (Kd.C_below HR0.out HB.out) | (with_reducible refine Kd.C_alloc ?_ _) | (with_reducible refine Kd.C_drewN ?_ _) | (with_reducible refine Kd.C_drew ?_))); (case side4 => exact HC0.out); rintro e w21 ⟨rfl, hb⟩; have n0_ := Aside0.mk (below_step (by repeat (first | (with_reducible first | exact HB.out | apply below_alloc | apply pw_below_drewN | apply below_drew1) | exact HB.out)) hb); clear HB; have HB := n0_; clear n0_; (try clear hb); (try clear hb2); (try clear hk); (try clear hi))))
     (try simp only [Act.put, List.setIfInBounds_toArray, List.set_cons_zero, List.set_cons_succ])
     go_cut [75] (fun v75 wc => ∃ (kq : Nat) (x75_17 : Bool), v75 = .bool x75_17 ∧ Aside0 (law_CurveBelow.j1 kq l0 l1 l2 a3 t648 t650 x75_17 = some r) ∧ Aside0 (kq ≤ kj6) ∧ Aside0 (Below w.heap.size w wc))
     case first => as_aux_lemma =>
      have H := HC18.out
      clear HC18
      by_cases c22 : t647 = 0
      ·
       rw [if_pos c22] at H
       have c22b0 : (t647 == 0) = true := beq_iff_eq.mpr c22
       have c22b1 : (t647 != 0) = false := bne_eq_false_iff_eq.mpr c22
       clear c22
       (first | rw [c22b0] | (simp only [i64_w, i32_w]; rw [c22b0]) | skip)
       by_cases c23 : t649 = 0
       ·
        rw [if_pos c23] at H
        have c23b0 : (t649 == 0) = true := beq_iff_eq.mpr c23
        have c23b1 : (t649 != 0) = false := bne_eq_false_iff_eq.mpr c23
        clear c23
        by_cases c24 : t651 = 0
        ·
         rw [if_pos c24] at H
         have c24b0 : (t651 == 0) = true := beq_iff_eq.mpr c24
         have c24b1 : (t651 != 0) = false := bne_eq_false_iff_eq.mpr c24
         clear c24
         have H' := Aside0.mk H
         clear H
         go_wp2
         repeat (go_quiet (fail); try go_wp2)
         go_meet
         case rel => exact ⟨_, (!t646), (by first | rfl | (simp; done) | (simp [*]; done)), H', ⟨by have := HJ6.out; first | omega | exact Nat.le_refl _⟩, ⟨by repeat (first | (with_reducible first | exact HB.out | apply below_alloc | apply pw_below_drewN | apply below_drew1) | exact HB.out)⟩⟩
        ·
         rw [if_neg c24] at H
         have c24b0 : (t651 == 0) = false := beq_eq_false_iff_ne.mpr c24
         have c24b1 : (t651 != 0) = true := bne_iff_ne.mpr c24
         have H' := Aside0.mk H
         clear H
         go_wp2
         repeat (go_quiet (fail); try go_wp2)
         go_meet
         case rel => exact ⟨_, (true), (by first | rfl | (simp; done) | (simp [*]; done)), H', ⟨by have := HJ6.out; first | omega | exact Nat.le_refl _⟩, ⟨by repeat (first | (with_reducible first | exact HB.out | apply below_alloc | apply pw_below_drewN | apply below_drew1) | exact HB.out)⟩⟩
       ·
        rw [if_neg c23] at H
        have c23b0 : (t649 == 0) = false := beq_eq_false_iff_ne.mpr c23
        have c23b1 : (t649 != 0) = true := bne_iff_ne.mpr c23
        have H' := Aside0.mk H
        clear H
        go_wp2
        repeat (go_quiet (fail); try go_wp2)
        go_meet
        case rel => exact ⟨_, (true), (by first | rfl | (simp; done) | (simp [*]; done)), H', ⟨by have := HJ6.out; first | omega | exact Nat.le_refl _⟩, ⟨by repeat (first | (with_reducible first | exact HB.out | apply below_alloc | apply pw_below_drewN | apply below_drew1) | exact HB.out)⟩⟩
      ·
       rw [if_neg c22] at H
       have c22b0 : (t647 == 0) = false := beq_eq_false_iff_ne.mpr c22
       have c22b1 : (t647 != 0) = true := bne_iff_ne.mpr c22
       (first | rw [c22b0] | (simp only [i64_w, i32_w]; rw [c22b0]) | skip)
       have H' := Aside0.mk H
       clear H
       go_wp2
       repeat (go_quiet (fail); try go_wp2)
       go_meet
       case rel => exact ⟨_, (true), (by first | rfl | (simp; done) | (simp [*]; done)), H', ⟨by have := HJ6.out; first | omega | exact Nat.le_refl _⟩, ⟨by repeat (first | (with_reducible first | exact HB.out | apply below_alloc | apply pw_below_drewN | apply below_drew1) | exact HB.out)⟩⟩
     case rest => as_aux_lemma =>
      clear HC18
      try clear c1
      try clear c2
      try clear p2
      try clear c6
      try clear c10
      try clear c12
      try clear c14
      try clear c22
      try clear c22b0
      try clear c22b1
      try clear c23
      try clear c23b0
      try clear c23b1
      try clear c24
      try clear c24b0
      try clear c24b1
      try clear p2
      obtain ⟨kq, x75_17, rfl, HA, HJ17, HB⟩ := hcut
      cases kq with
      | zero => exact absurd HA.out (by simp [law_CurveBelow.j1])
      | succ kj17 =>
       have H := HA.out
       clear HA
       simp only [law_CurveBelow.j1] at H
       by_cases c25 : x75_17 = true
       ·
        subst c25
        have H1 : (some false) = some r := by rw [if_pos rfl] at H; exact H
        clear H
        have H := H1
        clear H1
        obtain rfl := Option.some.inj H
        go_wp2
        repeat (go_quiet (fail); try go_wp2)
        go_ret
        exact ⟨by first | rfl | (simp [errW_none, errW_some] <;> rfl) | (simp [*, errW_none, errW_some] <;> rfl), by repeat (first | (with_reducible first | exact HB.out | apply below_alloc | apply pw_below_drewN | apply below_drew1) | exact HB.out)⟩
       ·
        replace c25 := Bool.eq_false_iff.mpr c25
        subst c25
        have H1 : ((ref_In.f l0 a3).bind fun t652 => (if t652 = true then ((ref_In.f l1 a3).bind fun t653 => (law_CurveBelow.j2 kj17 l0 l1 l2 a3 t648 t650 t653)) else (law_CurveBelow.j2 kj17 l0 l1 l2 a3 t648 t650 false))) = some r := by rw [if_neg (show ¬ (false = true) by decide)] at H; exact H
        clear H
        have H := H1
        clear H1
        have HC26 := Aside0.mk H
        clear H
        go_upto_region 10 with (fail)
        repeat (go_quiet (fail); go_upto_region 10 with (fail))
        go_cut [83] (fun v83 wc => ∃ (kq : Nat) (x83_25 : Bool), v83 = .bool x83_25 ∧ Aside0 (law_CurveBelow.j2 kq l0 l1 l2 a3 t648 t650 x83_25 = some r) ∧ Aside0 (kq ≤ kj17) ∧ Aside0 (Below w.heap.size w wc))
        case first => as_aux_lemma =>
         have H := HC26.out
         clear HC26
         replace H := Option.bind_eq_some_iff.mp H
         obtain ⟨t652, A270, H⟩ := H
         replace H : (if t652 = true then ((ref_In.f l1 a3).bind fun t653 => (law_CurveBelow.j2 kj17 l0 l1 l2 a3 t648 t650 t653)) else (law_CurveBelow.j2 kj17 l0 l1 l2 a3 t648 t650 false)) = some r := H
         have A27 := Aside0.mk A270
         clear A270
         by_cases c28 : t652 = true
         ·
          subst c28
          have H1 : ((ref_In.f l1 a3).bind fun t653 => (law_CurveBelow.j2 kj17 l0 l1 l2 a3 t648 t650 t653)) = some r := by rw [if_pos rfl] at H; exact H
          clear H
          have H := H1
          clear H1
          replace H := Option.bind_eq_some_iff.mp H
          obtain ⟨t653, A290, H⟩ := H
          replace H : (law_CurveBelow.j2 kj17 l0 l1 l2 a3 t648 t650 t653) = some r := H
          have A29 := Aside0.mk A290
          clear A290
          have H' := Aside0.mk H
          clear H
          go_wp2_with (first | (go_at_call 43; (with_reducible refine (ref_In.calls _ _ l0 a3 true _ ?side1 ?side2 A27.out).mono ?_); (case side1 => repeat (first | exact (Kd.C_below HR0.out HB.out) | (with_reducible refine Kd.C_alloc ?_ _) | (with_reducible refine Kd.C_drewN ?_ _) | (with_reducible refine Kd.C_drew ?_))); (case side2 => exact HC0.out); rintro e w' ⟨rfl, ⟨nd, rfl⟩⟩; (try first | exact ⟨rfl, _, World.drewN_drewN _ _ _⟩ | exact ⟨rfl, _, Eq.trans (World.drewN_drewN _ _ _) (congrArg (World.drewN _) (Nat.add_assoc _ _ _))⟩)) | (go_at_call 43; (with_reducible refine (ref_In.calls _ _ l1 a3 t653 _ ?side1 ?side2 A29.out).mono ?_); (case side1 => repeat (first | exact (Kd.C_below HR1.out (by repeat (first | (with_reducible first | exact HB.out | apply below_alloc | apply pw_below_drewN | apply below_drew1) | exact HB.out))) | (with_reducible refine Kd.C_alloc ?_ _) | (with_reducible refine Kd.C_drewN ?_ _) | (with_reducible refine Kd.C_drew ?_))); (case side2 => exact HC1.out); rintro e w' ⟨rfl, ⟨nd, rfl⟩⟩; (try first | exact ⟨rfl, _, World.drewN_drewN _ _ _⟩ | exact ⟨rfl, _, Eq.trans (World.drewN_drewN _ _ _) (congrArg (World.drewN _) (Nat.add_assoc _ _ _))⟩)))
          repeat (go_quiet (first | (go_at_call 43; (with_reducible refine (ref_In.calls _ _ l0 a3 true _ ?side1 ?side2 A27.out).mono ?_); (case side1 => repeat (first | exact (Kd.C_below HR0.out HB.out) | (with_reducible refine Kd.C_alloc ?_ _) | (with_reducible refine Kd.C_drewN ?_ _) | (with_reducible refine Kd.C_drew ?_))); (case side2 => exact HC0.out); rintro e w' ⟨rfl, ⟨nd, rfl⟩⟩; (try first | exact ⟨rfl, _, World.drewN_drewN _ _ _⟩ | exact ⟨rfl, _, Eq.trans (World.drewN_drewN _ _ _) (congrArg (World.drewN _) (Nat.add_assoc _ _ _))⟩)) | (go_at_call 43; (with_reducible refine (ref_In.calls _ _ l1 a3 t653 _ ?side1 ?side2 A29.out).mono ?_); (case side1 => repeat (first | exact (Kd.C_below HR1.out (by repeat (first | (with_reducible first | exact HB.out | apply below_alloc | apply pw_below_drewN | apply below_drew1) | exact HB.out))) | (with_reducible refine Kd.C_alloc ?_ _) | (with_reducible refine Kd.C_drewN ?_ _) | (with_reducible refine Kd.C_drew ?_))); (case side2 => exact HC1.out); rintro e w' ⟨rfl, ⟨nd, rfl⟩⟩; (try first | exact ⟨rfl, _, World.drewN_drewN _ _ _⟩ | exact ⟨rfl, _, Eq.trans (World.drewN_drewN _ _ _) (congrArg (World.drewN _) (Nat.add_assoc _ _ _))⟩))); try go_wp2_with (first | (go_at_call 43; (with_reducible refine (ref_In.calls _ _ l0 a3 true _ ?side1 ?side2 A27.out).mono ?_); (case side1 => repeat (first | exact (Kd.C_below HR0.out HB.out) | (with_reducible refine Kd.C_alloc ?_ _) | (with_reducible refine Kd.C_drewN ?_ _) | (with_reducible refine Kd.C_drew ?_))); (case side2 => exact HC0.out); rintro e w' ⟨rfl, ⟨nd, rfl⟩⟩; (try first | exact ⟨rfl, _, World.drewN_drewN _ _ _⟩ | exact ⟨rfl, _, Eq.trans (World.drewN_drewN _ _ _) (congrArg (World.drewN _) (Nat.add_assoc _ _ _))⟩)) | (go_at_call 43; (with_reducible refine (ref_In.calls _ _ l1 a3 t653 _ ?side1 ?side2 A29.out).mono ?_); (case side1 => repeat (first | exact (Kd.C_below HR1.out (by repeat (first | (with_reducible first | exact HB.out | apply below_alloc | apply pw_below_drewN | apply below_drew1) | exact HB.out))) | (with_reducible refine Kd.C_alloc ?_ _) | (with_reducible refine Kd.C_drewN ?_ _) | (with_reducible refine Kd.C_drew ?_))); (case side2 => exact HC1.out); rintro e w' ⟨rfl, ⟨nd, rfl⟩⟩; (try first | exact ⟨rfl, _, World.drewN_drewN _ _ _⟩ | exact ⟨rfl, _, Eq.trans (World.drewN_drewN _ _ _) (congrArg (World.drewN _) (Nat.add_assoc _ _ _))⟩))))
          go_meet
          case rel => exact ⟨_, (t653), (by first | rfl | (simp; done) | (simp [*]; done)), H', ⟨by have := HJ6.out; have := HJ17.out; first | omega | exact Nat.le_refl _⟩, ⟨by repeat (first | (with_reducible first | exact HB.out | apply below_alloc | apply pw_below_drewN | apply below_drew1) | exact HB.out)⟩⟩
         ·
          replace c28 := Bool.eq_false_iff.mpr c28
          subst c28
          have H1 : (law_CurveBelow.j2 kj17 l0 l1 l2 a3 t648 t650 false) = some r := by rw [if_neg (show ¬ (false = true) by decide)] at H; exact H
          clear H
          have H := H1
          clear H1
          have H' := Aside0.mk H
          clear H
          go_wp2_with (first | (go_at_call 43; (with_reducible refine (ref_In.calls _ _ l0 a3 false _ ?side1 ?side2 A27.out).mono ?_); (case side1 => repeat (first | exact (Kd.C_below HR0.out HB.out) | (with_reducible refine Kd.C_alloc ?_ _) | (with_reducible refine Kd.C_drewN ?_ _) | (with_reducible refine Kd.C_drew ?_))); (case side2 => exact HC0.out); rintro e w' ⟨rfl, ⟨nd, rfl⟩⟩; (try first | exact ⟨rfl, _, World.drewN_drewN _ _ _⟩ | exact ⟨rfl, _, Eq.trans (World.drewN_drewN _ _ _) (congrArg (World.drewN _) (Nat.add_assoc _ _ _))⟩)))
          repeat (go_quiet (first | (go_at_call 43; (with_reducible refine (ref_In.calls _ _ l0 a3 false _ ?side1 ?side2 A27.out).mono ?_); (case side1 => repeat (first | exact (Kd.C_below HR0.out HB.out) | (with_reducible refine Kd.C_alloc ?_ _) | (with_reducible refine Kd.C_drewN ?_ _) | (with_reducible refine Kd.C_drew ?_))); (case side2 => exact HC0.out); rintro e w' ⟨rfl, ⟨nd, rfl⟩⟩; (try first | exact ⟨rfl, _, World.drewN_drewN _ _ _⟩ | exact ⟨rfl, _, Eq.trans (World.drewN_drewN _ _ _) (congrArg (World.drewN _) (Nat.add_assoc _ _ _))⟩))); try go_wp2_with (first | (go_at_call 43; (with_reducible refine (ref_In.calls _ _ l0 a3 false _ ?side1 ?side2 A27.out).mono ?_); (case side1 => repeat (first | exact (Kd.C_below HR0.out HB.out) | (with_reducible refine Kd.C_alloc ?_ _) | (with_reducible refine Kd.C_drewN ?_ _) | (with_reducible refine Kd.C_drew ?_))); (case side2 => exact HC0.out); rintro e w' ⟨rfl, ⟨nd, rfl⟩⟩; (try first | exact ⟨rfl, _, World.drewN_drewN _ _ _⟩ | exact ⟨rfl, _, Eq.trans (World.drewN_drewN _ _ _) (congrArg (World.drewN _) (Nat.add_assoc _ _ _))⟩))))
          go_meet
          case rel => exact ⟨_, (false), (by first | rfl | (simp; done) | (simp [*]; done)), H', ⟨by have := HJ6.out; have := HJ17.out; first | omega | exact Nat.le_refl _⟩, ⟨by repeat (first | (with_reducible first | exact HB.out | apply below_alloc | apply pw_below_drewN | apply below_drew1) | exact HB.out)⟩⟩
        case rest => as_aux_lemma =>
         clear HC26
         try clear c1
         try clear c2
         try clear p2
         try clear c6
         try clear c10
         try clear c12
         try clear c14
         try clear c22
         try clear c22b0
         try clear c22b1
         try clear c23
         try clear c23b0
         try clear c23b1
         try clear c24
         try clear c24b0
         try clear c24b1
         try clear c25
         try clear c28
         try clear p2
         obtain ⟨kq, x83_25, rfl, HA, HJ25, HB⟩ := hcut
         cases kq with
         | zero => exact absurd HA.out (by simp [law_CurveBelow.j2])
         | succ kj25 =>
          have H := HA.out
          clear HA
          simp only [law_CurveBelow.j2] at H
          have HC30 := Aside0.mk H
          clear H
          go_upto_if 83 with (fail)
          repeat (go_quiet (fail); go_upto_if 83 with (fail))
          go_cut [] (fun wc => ∃ (kq : Nat), Aside0 (law_CurveBelow.j5 kq l0 l1 l2 t648 t650 = some r) ∧ Aside0 (kq ≤ kj25) ∧ Aside0 (Below w.heap.size w wc))
          case first => as_aux_lemma =>
           have H := HC30.out
           clear HC30
           by_cases c31 : x83_25 = true
           ·
            subst c31
            have H1 : ((curve_Exact.f kj25 l0 a3).bind fun bt654 => ((curve_Exact.f kj25 l1 a3).bind fun bt658 => (if bt654.2.2 = 0 then (if bt658.2.2 = 0 then (if bt654.2.1 < 1 then (law_CurveBelow.j3 kj25 l0 l1 l2 t648 t650 true bt654.1 bt654.2.1 bt658.1 bt658.2.1) else (if bt658.2.1 < 1 then (law_CurveBelow.j3 kj25 l0 l1 l2 t648 t650 true bt654.1 bt654.2.1 bt658.1 bt658.2.1) else (if bt654.2.1 > 16777216 then (law_CurveBelow.j3 kj25 l0 l1 l2 t648 t650 true bt654.1 bt654.2.1 bt658.1 bt658.2.1) else (law_CurveBelow.j3 kj25 l0 l1 l2 t648 t650 (decide (bt658.2.1 > 16777216)) bt654.1 bt654.2.1 bt658.1 bt658.2.1)))) else (law_CurveBelow.j3 kj25 l0 l1 l2 t648 t650 true bt654.1 bt654.2.1 bt658.1 bt658.2.1)) else (law_CurveBelow.j3 kj25 l0 l1 l2 t648 t650 true bt654.1 bt654.2.1 bt658.1 bt658.2.1)))) = some r := by rw [if_pos rfl] at H; exact H
            clear H
            have H := H1
            clear H1
            replace H := Option.bind_eq_some_iff.mp H
            obtain ⟨⟨t654, t655, t656⟩, A320, H⟩ := H
            replace H : ((curve_Exact.f kj25 l1 a3).bind fun bt658 => (if t656 = 0 then (if bt658.2.2 = 0 then (if t655 < 1 then (law_CurveBelow.j3 kj25 l0 l1 l2 t648 t650 true t654 t655 bt658.1 bt658.2.1) else (if bt658.2.1 < 1 then (law_CurveBelow.j3 kj25 l0 l1 l2 t648 t650 true t654 t655 bt658.1 bt658.2.1) else (if t655 > 16777216 then (law_CurveBelow.j3 kj25 l0 l1 l2 t648 t650 true t654 t655 bt658.1 bt658.2.1) else (law_CurveBelow.j3 kj25 l0 l1 l2 t648 t650 (decide (bt658.2.1 > 16777216)) t654 t655 bt658.1 bt658.2.1)))) else (law_CurveBelow.j3 kj25 l0 l1 l2 t648 t650 true t654 t655 bt658.1 bt658.2.1)) else (law_CurveBelow.j3 kj25 l0 l1 l2 t648 t650 true t654 t655 bt658.1 bt658.2.1))) = some r := H
            have A32 := Aside0.mk A320
            clear A320
            replace H := Option.bind_eq_some_iff.mp H
            obtain ⟨⟨t658, t659, t660⟩, A330, H⟩ := H
            replace H : (if t656 = 0 then (if t660 = 0 then (if t655 < 1 then (law_CurveBelow.j3 kj25 l0 l1 l2 t648 t650 true t654 t655 t658 t659) else (if t659 < 1 then (law_CurveBelow.j3 kj25 l0 l1 l2 t648 t650 true t654 t655 t658 t659) else (if t655 > 16777216 then (law_CurveBelow.j3 kj25 l0 l1 l2 t648 t650 true t654 t655 t658 t659) else (law_CurveBelow.j3 kj25 l0 l1 l2 t648 t650 (decide (t659 > 16777216)) t654 t655 t658 t659)))) else (law_CurveBelow.j3 kj25 l0 l1 l2 t648 t650 true t654 t655 t658 t659)) else (law_CurveBelow.j3 kj25 l0 l1 l2 t648 t650 true t654 t655 t658 t659)) = some r := H
            have A33 := Aside0.mk A330
            clear A330
            have HC34 := Aside0.mk H
            clear H
            go_upto_region 13 with (first | (go_at_call 22; (with_reducible refine (curve_Exact.calls kj25 _ _ l0 a3 t654 t655 t656 _ ?side1 ?side2 A32.out).mono ?_); (case side1 => repeat (first | exact (Kd.C_below HR0.out HB.out) | (with_reducible refine Kd.C_alloc ?_ _) | (with_reducible refine Kd.C_drewN ?_ _) | (with_reducible refine Kd.C_drew ?_))); (case side2 => exact HC0.out); rintro e w35 ⟨rfl, hb⟩; have n0_ := Aside0.mk (below_step (by repeat (first | (with_reducible first | exact HB.out | apply below_alloc | apply pw_below_drewN | apply below_drew1) | exact HB.out)) hb); clear HB; have HB := n0_; clear n0_; (try clear hb); (try clear hb2); (try clear hk); (try clear hi)) | ((with_reducible refine gate_dst (N := 15) rfl ?_); (try (refine gate_guard (by rfl) ?_; dsimp only)); refine box_event ?hg (N := 15) ?hd (cs := #[.int .i64 0, .int .i64 0]) (t := 25) ?hr ?_; (case hd => rfl); (case hg => rfl); (case hr => first | (go_simp; done) | (go_simp; rfl)); intro gb657 hg w36 hbox hb; have n0_ := Aside0.mk (below_step (by repeat (first | (with_reducible first | exact HB.out | apply below_alloc | apply pw_below_drewN | apply below_drew1) | exact HB.out)) hb); have n1_ := Aside0.mk (hbox); have n2_ := Aside0.mk ((by rw [hg]; exact (below_size (by repeat (first | (with_reducible first | exact HB.out | apply below_alloc | apply pw_below_drewN | apply below_drew1) | exact HB.out))) : w.heap.size ≤ gb657)); have n3_ := Aside0.mk ((by rw [hg]; exact (below_size (by repeat (first | (with_reducible first | exact HB.out | apply below_alloc | apply pw_below_drewN | apply below_drew1) | exact HB.out))) : w.heap.size ≤ gb657)); clear HB; have HB := n0_; have BK657 := n1_; have GW657 := n2_; have GE657 := n3_; clear n0_ n1_ n2_ n3_; clear hb hbox hg; have hcz37_0 : w36.cell? ⟨gb657, 0, none⟩ = some (.int .i64 0) := (blk_cell BK657.out 0).trans rfl; have hcz37_1 : w36.cell? ⟨gb657, 1, none⟩ = some (.int .i64 0) := (blk_cell BK657.out 1).trans rfl; have hfz37_0 := blk_frozen BK657.out 0; have hfz37_1 := blk_frozen BK657.out 1) | (go_at_call 22; (with_reducible refine (curve_Exact.calls kj25 _ _ l1 a3 t658 t659 t660 _ ?side1 ?side2 A33.out).mono ?_); (case side1 => exact Kd.C_below HR1.out (by repeat (first | (with_reducible first | exact HB.out | apply below_alloc | apply pw_below_drewN | apply below_drew1 | refine below_set ?_ GE657.out) | exact HB.out))); (case side2 => exact HC1.out); rintro e w38 ⟨rfl, hb⟩; have n0_ := Aside0.mk (blk_below (g := gb657) (o := .cells #[.int .i64 t654, .int .i64 t655] 25 (0, 0)) (by (with_reducible repeat (first | refine blk_drewN ?_ _ | refine blk_drew ?_ | refine blk_alloc ?_ _)); refine blk_put (cs := #[.int .i64 t654, .int .i64 0]) ?_ 1 _ rfl; (with_reducible repeat (first | refine blk_drewN ?_ _ | refine blk_drew ?_ | refine blk_alloc ?_ _)); refine blk_put (cs := #[.int .i64 0, .int .i64 0]) ?_ 0 _ rfl; (with_reducible repeat (first | refine blk_drewN ?_ _ | refine blk_drew ?_ | refine blk_alloc ?_ _)); exact BK657.out) hb); have n1_ := Aside0.mk (below_step (by repeat (first | (with_reducible first | exact HB.out | apply below_alloc | apply pw_below_drewN | apply below_drew1 | refine below_set ?_ GE657.out) | exact HB.out)) hb); clear BK657; clear HB; have BK657 := n0_; have HB := n1_; clear n0_ n1_; (try clear hb); (try clear hb2); (try clear hk); (try clear hi)) | ((with_reducible refine gate_dst (N := 17) rfl ?_); (try (refine gate_guard (by rfl) ?_; dsimp only)); refine box_event ?hg (N := 17) ?hd (cs := #[.int .i64 0, .int .i64 0]) (t := 25) ?hr ?_; (case hd => rfl); (case hg => rfl); (case hr => first | (go_simp; done) | (go_simp; rfl)); intro gb661 hg w39 hbox hb; have n0_ := Aside0.mk (blk_below (g := gb657) (o := .cells #[.int .i64 t654, .int .i64 t655] 25 (0, 0)) (by (with_reducible repeat (first | refine blk_drewN ?_ _ | refine blk_drew ?_ | refine blk_alloc ?_ _)); exact BK657.out) hb); have n1_ := Aside0.mk (below_step (by repeat (first | (with_reducible first | exact HB.out | apply below_alloc | apply pw_below_drewN | apply below_drew1 | refine below_set ?_ GE657.out) | exact HB.out)) hb); have n2_ := Aside0.mk (hbox); have n3_ := Aside0.mk ((by rw [hg]; exact (below_size (by repeat (first | (with_reducible first | exact HB.out | apply below_alloc | apply pw_below_drewN | apply below_drew1 | refine below_set ?_ GE657.out) | exact HB.out))) : w.heap.size ≤ gb661)); have n4_ := Aside0.mk ((by rw [hg]; exact (below_size (by repeat (first | (with_reducible first | exact HB.out | apply below_alloc | apply pw_below_drewN | apply below_drew1 | refine below_set ?_ GE657.out) | exact HB.out))) : w.heap.size ≤ gb661)); have n5_ := Aside0.mk ((by rw [hg]; exact Nat.ne_of_lt (blk_lt (g := gb657) (o := .cells #[.int .i64 t654, .int .i64 t655] 25 (0, 0)) (by (with_reducible repeat (first | refine blk_drewN ?_ _ | refine blk_drew ?_ | refine blk_alloc ?_ _)); exact BK657.out)) : gb657 ≠ gb661)); have n6_ := Aside0.mk ((by rw [hg]; exact Nat.ne_of_gt (blk_lt (g := gb657) (o := .cells #[.int .i64 t654, .int .i64 t655] 25 (0, 0)) (by (with_reducible repeat (first | refine blk_drewN ?_ _ | refine blk_drew ?_ | refine blk_alloc ?_ _)); exact BK657.out)) : gb661 ≠ gb657)); clear BK657; clear HB; have BK657 := n0_; have HB := n1_; have BK661 := n2_; have GW661 := n3_; have GE661 := n4_; have NB657_661 := n5_; have NB661_657 := n6_; clear n0_ n1_ n2_ n3_ n4_ n5_ n6_; clear hb hbox hg; have hnb40 := NB661_657.out; have hnc40 := NB657_661.out; have hcz41_0 : w39.cell? ⟨gb661, 0, none⟩ = some (.int .i64 0) := (blk_cell BK661.out 0).trans rfl; have hcz41_1 : w39.cell? ⟨gb661, 1, none⟩ = some (.int .i64 0) := (blk_cell BK661.out 1).trans rfl; have hfz41_0 := blk_frozen BK661.out 0; have hfz41_1 := blk_frozen BK661.out 1))
            repeat (go_quiet (first | (go_at_call 22; (with_reducible refine (curve_Exact.calls kj25 _ _ l0 a3 t654 t655 t656 _ ?side1 ?side2 A32.out).mono ?_); (case side1 => repeat (first | exact (Kd.C_below HR0.out HB.out) | (with_reducible refine Kd.C_alloc ?_ _) | (with_reducible refine Kd.C_drewN ?_ _) | (with_reducible refine Kd.C_drew ?_))); (case side2 => exact HC0.out); rintro e w35 ⟨rfl, hb⟩; have n0_ := Aside0.mk (below_step (by repeat (first | (with_reducible first | exact HB.out | apply below_alloc | apply pw_below_drewN | apply below_drew1) | exact HB.out)) hb); clear HB; have HB := n0_; clear n0_; (try clear hb); (try clear hb2); (try clear hk); (try clear hi)) | ((with_reducible refine gate_dst (N := 15) rfl ?_); (try (refine gate_guard (by rfl) ?_; dsimp only)); refine box_event ?hg (N := 15) ?hd (cs := #[.int .i64 0, .int .i64 0]) (t := 25) ?hr ?_; (case hd => rfl); (case hg => rfl); (case hr => first | (go_simp; done) | (go_simp; rfl)); intro gb657 hg w36 hbox hb; have n0_ := Aside0.mk (below_step (by repeat (first | (with_reducible first | exact HB.out | apply below_alloc | apply pw_below_drewN | apply below_drew1) | exact HB.out)) hb); have n1_ := Aside0.mk (hbox); have n2_ := Aside0.mk ((by rw [hg]; exact (below_size (by repeat (first | (with_reducible first | exact HB.out | apply below_alloc | apply pw_below_drewN | apply below_drew1) | exact HB.out))) : w.heap.size ≤ gb657)); have n3_ := Aside0.mk ((by rw [hg]; exact (below_size (by repeat (first | (with_reducible first | exact HB.out | apply below_alloc | apply pw_below_drewN | apply below_drew1) | exact HB.out))) : w.heap.size ≤ gb657)); clear HB; have HB := n0_; have BK657 := n1_; have GW657 := n2_; have GE657 := n3_; clear n0_ n1_ n2_ n3_; clear hb hbox hg; have hcz37_0 : w36.cell? ⟨gb657, 0, none⟩ = some (.int .i64 0) := (blk_cell BK657.out 0).trans rfl; have hcz37_1 : w36.cell? ⟨gb657, 1, none⟩ = some (.int .i64 0) := (blk_cell BK657.out 1).trans rfl; have hfz37_0 := blk_frozen BK657.out 0; have hfz37_1 := blk_frozen BK657.out 1) | (go_at_call 22; (with_reducible refine (curve_Exact.calls kj25 _ _ l1 a3 t658 t659 t660 _ ?side1 ?side2 A33.out).mono ?_); (case side1 => exact Kd.C_below HR1.out (by repeat (first | (with_reducible first | exact HB.out | apply below_alloc | apply pw_below_drewN | apply below_drew1 | refine below_set ?_ GE657.out) | exact HB.out))); (case side2 => exact HC1.out); rintro e w38 ⟨rfl, hb⟩; have n0_ := Aside0.mk (blk_below (g := gb657) (o := .cells #[.int .i64 t654, .int .i64 t655] 25 (0, 0)) (by (with_reducible repeat (first | refine blk_drewN ?_ _ | refine blk_drew ?_ | refine blk_alloc ?_ _)); refine blk_put (cs := #[.int .i64 t654, .int .i64 0]) ?_ 1 _ rfl; (with_reducible repeat (first | refine blk_drewN ?_ _ | refine blk_drew ?_ | refine blk_alloc ?_ _)); refine blk_put (cs := #[.int .i64 0, .int .i64 0]) ?_ 0 _ rfl; (with_reducible repeat (first | refine blk_drewN ?_ _ | refine blk_drew ?_ | refine blk_alloc ?_ _)); exact BK657.out) hb); have n1_ := Aside0.mk (below_step (by repeat (first | (with_reducible first | exact HB.out | apply below_alloc | apply pw_below_drewN | apply below_drew1 | refine below_set ?_ GE657.out) | exact HB.out)) hb); clear BK657; clear HB; have BK657 := n0_; have HB := n1_; clear n0_ n1_; (try clear hb); (try clear hb2); (try clear hk); (try clear hi)) | ((with_reducible refine gate_dst (N := 17) rfl ?_); (try (refine gate_guard (by rfl) ?_; dsimp only)); refine box_event ?hg (N := 17) ?hd (cs := #[.int .i64 0, .int .i64 0]) (t := 25) ?hr ?_; (case hd => rfl); (case hg => rfl); (case hr => first | (go_simp; done) | (go_simp; rfl)); intro gb661 hg w39 hbox hb; have n0_ := Aside0.mk (blk_below (g := gb657) (o := .cells #[.int .i64 t654, .int .i64 t655] 25 (0, 0)) (by (with_reducible repeat (first | refine blk_drewN ?_ _ | refine blk_drew ?_ | refine blk_alloc ?_ _)); exact BK657.out) hb); have n1_ := Aside0.mk (below_step (by repeat (first | (with_reducible first | exact HB.out | apply below_alloc | apply pw_below_drewN | apply below_drew1 | refine below_set ?_ GE657.out) | exact HB.out)) hb); have n2_ := Aside0.mk (hbox); have n3_ := Aside0.mk ((by rw [hg]; exact (below_size (by repeat (first | (with_reducible first | exact HB.out | apply below_alloc | apply pw_below_drewN | apply below_drew1 | refine below_set ?_ GE657.out) | exact HB.out))) : w.heap.size ≤ gb661)); have n4_ := Aside0.mk ((by rw [hg]; exact (below_size (by repeat (first | (with_reducible first | exact HB.out | apply below_alloc | apply pw_below_drewN | apply below_drew1 | refine below_set ?_ GE657.out) | exact HB.out))) : w.heap.size ≤ gb661)); have n5_ := Aside0.mk ((by rw [hg]; exact Nat.ne_of_lt (blk_lt (g := gb657) (o := .cells #[.int .i64 t654, .int .i64 t655] 25 (0, 0)) (by (with_reducible repeat (first | refine blk_drewN ?_ _ | refine blk_drew ?_ | refine blk_alloc ?_ _)); exact BK657.out)) : gb657 ≠ gb661)); have n6_ := Aside0.mk ((by rw [hg]; exact Nat.ne_of_gt (blk_lt (g := gb657) (o := .cells #[.int .i64 t654, .int .i64 t655] 25 (0, 0)) (by (with_reducible repeat (first | refine blk_drewN ?_ _ | refine blk_drew ?_ | refine blk_alloc ?_ _)); exact BK657.out)) : gb661 ≠ gb657)); clear BK657; clear HB; have BK657 := n0_; have HB := n1_; have BK661 := n2_; have GW661 := n3_; have GE661 := n4_; have NB657_661 := n5_; have NB661_657 := n6_; clear n0_ n1_ n2_ n3_ n4_ n5_ n6_; clear hb hbox hg; have hnb40 := NB661_657.out; have hnc40 := NB657_661.out; have hcz41_0 : w39.cell? ⟨gb661, 0, none⟩ = some (.int .i64 0) := (blk_cell BK661.out 0).trans rfl; have hcz41_1 : w39.cell? ⟨gb661, 1, none⟩ = some (.int .i64 0) := (blk_cell BK661.out 1).trans rfl; have hfz41_0 := blk_frozen BK661.out 0; have hfz41_1 := blk_frozen BK661.out 1)); go_upto_region 13 with (first | (go_at_call 22; (with_reducible refine (curve_Exact.calls kj25 _ _ l0 a3 t654 t655 t656 _ ?side1 ?side2 A32.out).mono ?_); (case side1 => repeat (first | exact (Kd.C_below HR0.out HB.out) | (with_reducible refine Kd.C_alloc ?_ _) | (with_reducible refine Kd.C_drewN ?_ _) | (with_reducible refine Kd.C_drew ?_))); (case side2 => exact HC0.out); rintro e w35 ⟨rfl, hb⟩; have n0_ := Aside0.mk (below_step (by repeat (first | (with_reducible first | exact HB.out | apply below_alloc | apply pw_below_drewN | apply below_drew1) | exact HB.out)) hb); clear HB; have HB := n0_; clear n0_; (try clear hb); (try clear hb2); (try clear hk); (try clear hi)) | ((with_reducible refine gate_dst (N := 15) rfl ?_); (try (refine gate_guard (by rfl) ?_; dsimp only)); refine box_event ?hg (N := 15) ?hd (cs := #[.int .i64 0, .int .i64 0]) (t := 25) ?hr ?_; (case hd => rfl); (case hg => rfl); (case hr => first | (go_simp; done) | (go_simp; rfl)); intro gb657 hg w36 hbox hb; have n0_ := Aside0.mk (below_step (by repeat (first | (with_reducible first | exact HB.out | apply below_alloc | apply pw_below_drewN | apply below_drew1) | exact HB.out)) hb); have n1_ := Aside0.mk (hbox); have n2_ := Aside0.mk ((by rw [hg]; exact (below_size (by repeat (first | (with_reducible first | exact HB.out | apply below_alloc | apply pw_below_drewN | apply below_drew1) | exact HB.out))) : w.heap.size ≤ gb657)); have n3_ := Aside0.mk ((by rw [hg]; exact (below_size (by repeat (first | (with_reducible first | exact HB.out | apply below_alloc | apply pw_below_drewN | apply below_drew1) | exact HB.out))) : w.heap.size ≤ gb657)); clear HB; have HB := n0_; have BK657 := n1_; have GW657 := n2_; have GE657 := n3_; clear n0_ n1_ n2_ n3_; clear hb hbox hg; have hcz37_0 : w36.cell? ⟨gb657, 0, none⟩ = some (.int .i64 0) := (blk_cell BK657.out 0).trans rfl; have hcz37_1 : w36.cell? ⟨gb657, 1, none⟩ = some (.int .i64 0) := (blk_cell BK657.out 1).trans rfl; have hfz37_0 := blk_frozen BK657.out 0; have hfz37_1 := blk_frozen BK657.out 1) | (go_at_call 22; (with_reducible refine (curve_Exact.calls kj25 _ _ l1 a3 t658 t659 t660 _ ?side1 ?side2 A33.out).mono ?_); (case side1 => exact Kd.C_below HR1.out (by repeat (first | (with_reducible first | exact HB.out | apply below_alloc | apply pw_below_drewN | apply below_drew1 | refine below_set ?_ GE657.out) | exact HB.out))); (case side2 => exact HC1.out); rintro e w38 ⟨rfl, hb⟩; have n0_ := Aside0.mk (blk_below (g := gb657) (o := .cells #[.int .i64 t654, .int .i64 t655] 25 (0, 0)) (by (with_reducible repeat (first | refine blk_drewN ?_ _ | refine blk_drew ?_ | refine blk_alloc ?_ _)); refine blk_put (cs := #[.int .i64 t654, .int .i64 0]) ?_ 1 _ rfl; (with_reducible repeat (first | refine blk_drewN ?_ _ | refine blk_drew ?_ | refine blk_alloc ?_ _)); refine blk_put (cs := #[.int .i64 0, .int .i64 0]) ?_ 0 _ rfl; (with_reducible repeat (first | refine blk_drewN ?_ _ | refine blk_drew ?_ | refine blk_alloc ?_ _)); exact BK657.out) hb); have n1_ := Aside0.mk (below_step (by repeat (first | (with_reducible first | exact HB.out | apply below_alloc | apply pw_below_drewN | apply below_drew1 | refine below_set ?_ GE657.out) | exact HB.out)) hb); clear BK657; clear HB; have BK657 := n0_; have HB := n1_; clear n0_ n1_; (try clear hb); (try clear hb2); (try clear hk); (try clear hi)) | ((with_reducible refine gate_dst (N := 17) rfl ?_); (try (refine gate_guard (by rfl) ?_; dsimp only)); refine box_event ?hg (N := 17) ?hd (cs := #[.int .i64 0, .int .i64 0]) (t := 25) ?hr ?_; (case hd => rfl); (case hg => rfl); (case hr => first | (go_simp; done) | (go_simp; rfl)); intro gb661 hg w39 hbox hb; have n0_ := Aside0.mk (blk_below (g := gb657) (o := .cells #[.int .i64 t654, .int .i64 t655] 25 (0, 0)) (by (with_reducible repeat (first | refine blk_drewN ?_ _ | refine blk_drew ?_ | refine blk_alloc ?_ _)); exact BK657.out) hb); have n1_ := Aside0.mk (below_step (by repeat (first | (with_reducible first | exact HB.out | apply below_alloc | apply pw_below_drewN | apply below_drew1 | refine below_set ?_ GE657.out) | exact HB.out)) hb); have n2_ := Aside0.mk (hbox); have n3_ := Aside0.mk ((by rw [hg]; exact (below_size (by repeat (first | (with_reducible first | exact HB.out | apply below_alloc | apply pw_below_drewN | apply below_drew1 | refine below_set ?_ GE657.out) | exact HB.out))) : w.heap.size ≤ gb661)); have n4_ := Aside0.mk ((by rw [hg]; exact (below_size (by repeat (first | (with_reducible first | exact HB.out | apply below_alloc | apply pw_below_drewN | apply below_drew1 | refine below_set ?_ GE657.out) | exact HB.out))) : w.heap.size ≤ gb661)); have n5_ := Aside0.mk ((by rw [hg]; exact Nat.ne_of_lt (blk_lt (g := gb657) (o := .cells #[.int .i64 t654, .int .i64 t655] 25 (0, 0)) (by (with_reducible repeat (first | refine blk_drewN ?_ _ | refine blk_drew ?_ | refine blk_alloc ?_ _)); exact BK657.out)) : gb657 ≠ gb661)); have n6_ := Aside0.mk ((by rw [hg]; exact Nat.ne_of_gt (blk_lt (g := gb657) (o := .cells #[.int .i64 t654, .int .i64 t655] 25 (0, 0)) (by (with_reducible repeat (first | refine blk_drewN ?_ _ | refine blk_drew ?_ | refine blk_alloc ?_ _)); exact BK657.out)) : gb661 ≠ gb657)); clear BK657; clear HB; have BK657 := n0_; have HB := n1_; have BK661 := n2_; have GW661 := n3_; have GE661 := n4_; have NB657_661 := n5_; have NB661_657 := n6_; clear n0_ n1_ n2_ n3_ n4_ n5_ n6_; clear hb hbox hg; have hnb40 := NB661_657.out; have hnc40 := NB657_661.out; have hcz41_0 : w39.cell? ⟨gb661, 0, none⟩ = some (.int .i64 0) := (blk_cell BK661.out 0).trans rfl; have hcz41_1 : w39.cell? ⟨gb661, 1, none⟩ = some (.int .i64 0) := (blk_cell BK661.out 1).trans rfl; have hfz41_0 := blk_frozen BK661.out 0; have hfz41_1 := blk_frozen BK661.out 1)))
            (try simp only [Act.put, List.setIfInBounds_toArray, List.set_cons_zero, List.set_cons_succ])
            go_cut [121] (fun v121 wc => ∃ (kq : Nat) (x121_33 : Bool), v121 = .bool x121_33 ∧ Aside0 (law_CurveBelow.j3 kq l0 l1 l2 t648 t650 x121_33 t654 t655 t658 t659 = some r) ∧ Aside0 (kq ≤ kj25) ∧ Aside0 (wc.heap[gb657]? = some (.cells #[.int .i64 t654, .int .i64 t655] 25 (0, 0))) ∧ Aside0 (wc.heap[gb661]? = some (.cells #[.int .i64 t658, .int .i64 t659] 25 (0, 0))) ∧ Aside0 (Below w.heap.size w wc))
            case first => as_aux_lemma =>
             have H := HC34.out
             clear HC34
             by_cases c42 : t656 = 0
             ·
              rw [if_pos c42] at H
              have c42b0 : (t656 == 0) = true := beq_iff_eq.mpr c42
              have c42b1 : (t656 != 0) = false := bne_eq_false_iff_eq.mpr c42
              clear c42
              (first | rw [c42b0] | (simp only [i64_w, i32_w]; rw [c42b0]) | skip)
              by_cases c43 : t660 = 0
              ·
               rw [if_pos c43] at H
               have c43b0 : (t660 == 0) = true := beq_iff_eq.mpr c43
               have c43b1 : (t660 != 0) = false := bne_eq_false_iff_eq.mpr c43
               clear c43
               by_cases c44 : t655 < 1
               ·
                rw [if_pos c44] at H
                have c44b0 : decide (t655 < 1) = true := decide_eq_true c44
                clear c44
                have H' := Aside0.mk H
                clear H
                have hnb45 := NB657_661.out
                have hnc45 := NB661_657.out
                have hcz46_0 : w39.cell? ⟨gb657, 0, none⟩ = some (.int .i64 t654) := (blk_cell BK657.out 0).trans rfl
                have hcz46_1 : w39.cell? ⟨gb657, 1, none⟩ = some (.int .i64 t655) := (blk_cell BK657.out 1).trans rfl
                have hfz46_0 := blk_frozen BK657.out 0
                have hfz46_1 := blk_frozen BK657.out 1
                go_wp2
                repeat (go_quiet (fail); try go_wp2)
                go_meet
                case rel => exact ⟨_, (true), (by first | rfl | (simp; done) | (simp [*]; done)), H', ⟨by have := HJ6.out; have := HJ17.out; have := HJ25.out; first | omega | exact Nat.le_refl _⟩, ⟨by (with_reducible repeat (first | refine blk_drewN ?_ _ | refine blk_drew ?_ | refine blk_alloc ?_ _)); refine blk_far ?_ NB657_661.out _; (with_reducible repeat (first | refine blk_drewN ?_ _ | refine blk_drew ?_ | refine blk_alloc ?_ _)); refine blk_far ?_ NB657_661.out _; (with_reducible repeat (first | refine blk_drewN ?_ _ | refine blk_drew ?_ | refine blk_alloc ?_ _)); exact BK657.out⟩, ⟨by (with_reducible repeat (first | refine blk_drewN ?_ _ | refine blk_drew ?_ | refine blk_alloc ?_ _)); refine blk_put (cs := #[.int .i64 t658, .int .i64 0]) ?_ 1 _ rfl; (with_reducible repeat (first | refine blk_drewN ?_ _ | refine blk_drew ?_ | refine blk_alloc ?_ _)); refine blk_put (cs := #[.int .i64 0, .int .i64 0]) ?_ 0 _ rfl; (with_reducible repeat (first | refine blk_drewN ?_ _ | refine blk_drew ?_ | refine blk_alloc ?_ _)); exact BK661.out⟩, ⟨by repeat (first | (with_reducible first | exact HB.out | apply below_alloc | apply pw_below_drewN | apply below_drew1 | refine below_set ?_ GE657.out | refine below_set ?_ GE661.out) | exact HB.out)⟩⟩
               ·
                rw [if_neg c44] at H
                have c44b0 : decide (t655 < 1) = false := decide_eq_false c44
                clear c44
                by_cases c47 : t659 < 1
                ·
                 rw [if_pos c47] at H
                 have c47b0 : decide (t659 < 1) = true := decide_eq_true c47
                 clear c47
                 have H' := Aside0.mk H
                 clear H
                 have hnb48 := NB657_661.out
                 have hnc48 := NB661_657.out
                 have hcz49_0 : w39.cell? ⟨gb657, 0, none⟩ = some (.int .i64 t654) := (blk_cell BK657.out 0).trans rfl
                 have hcz49_1 : w39.cell? ⟨gb657, 1, none⟩ = some (.int .i64 t655) := (blk_cell BK657.out 1).trans rfl
                 have hfz49_0 := blk_frozen BK657.out 0
                 have hfz49_1 := blk_frozen BK657.out 1
                 have hcz50_0 : w39.cell? ⟨gb661, 0, none⟩ = some (.int .i64 0) := (blk_cell BK661.out 0).trans rfl
                 have hcz50_1 : w39.cell? ⟨gb661, 1, none⟩ = some (.int .i64 0) := (blk_cell BK661.out 1).trans rfl
                 have hfz50_0 := blk_frozen BK661.out 0
                 have hfz50_1 := blk_frozen BK661.out 1
                 go_wp2
                 repeat (go_quiet (fail); try go_wp2)
                 go_meet
                 case rel => exact ⟨_, (true), (by first | rfl | (simp; done) | (simp [*]; done)), H', ⟨by have := HJ6.out; have := HJ17.out; have := HJ25.out; first | omega | exact Nat.le_refl _⟩, ⟨by (with_reducible repeat (first | refine blk_drewN ?_ _ | refine blk_drew ?_ | refine blk_alloc ?_ _)); refine blk_far ?_ NB657_661.out _; (with_reducible repeat (first | refine blk_drewN ?_ _ | refine blk_drew ?_ | refine blk_alloc ?_ _)); refine blk_far ?_ NB657_661.out _; (with_reducible repeat (first | refine blk_drewN ?_ _ | refine blk_drew ?_ | refine blk_alloc ?_ _)); exact BK657.out⟩, ⟨by (with_reducible repeat (first | refine blk_drewN ?_ _ | refine blk_drew ?_ | refine blk_alloc ?_ _)); refine blk_put (cs := #[.int .i64 t658, .int .i64 0]) ?_ 1 _ rfl; (with_reducible repeat (first | refine blk_drewN ?_ _ | refine blk_drew ?_ | refine blk_alloc ?_ _)); refine blk_put (cs := #[.int .i64 0, .int .i64 0]) ?_ 0 _ rfl; (with_reducible repeat (first | refine blk_drewN ?_ _ | refine blk_drew ?_ | refine blk_alloc ?_ _)); exact BK661.out⟩, ⟨by repeat (first | (with_reducible first | exact HB.out | apply below_alloc | apply pw_below_drewN | apply below_drew1 | refine below_set ?_ GE657.out | refine below_set ?_ GE661.out) | exact HB.out)⟩⟩
                ·
                 rw [if_neg c47] at H
                 have c47b0 : decide (t659 < 1) = false := decide_eq_false c47
                 clear c47
                 by_cases c51 : t655 > 16777216
                 ·
                  rw [if_pos c51] at H
                  have c51b0 : decide (16777216 < t655) = true := decide_eq_true c51
                  clear c51
                  have H' := Aside0.mk H
                  clear H
                  have hnb52 := NB657_661.out
                  have hnc52 := NB661_657.out
                  have hcz53_0 : w39.cell? ⟨gb657, 0, none⟩ = some (.int .i64 t654) := (blk_cell BK657.out 0).trans rfl
                  have hcz53_1 : w39.cell? ⟨gb657, 1, none⟩ = some (.int .i64 t655) := (blk_cell BK657.out 1).trans rfl
                  have hfz53_0 := blk_frozen BK657.out 0
                  have hfz53_1 := blk_frozen BK657.out 1
                  have hcz54_0 : w39.cell? ⟨gb661, 0, none⟩ = some (.int .i64 0) := (blk_cell BK661.out 0).trans rfl
                  have hcz54_1 : w39.cell? ⟨gb661, 1, none⟩ = some (.int .i64 0) := (blk_cell BK661.out 1).trans rfl
                  have hfz54_0 := blk_frozen BK661.out 0
                  have hfz54_1 := blk_frozen BK661.out 1
                  go_wp2
                  repeat (go_quiet (fail); try go_wp2)
                  go_meet
                  case rel => exact ⟨_, (true), (by first | rfl | (simp; done) | (simp [*]; done)), H', ⟨by have := HJ6.out; have := HJ17.out; have := HJ25.out; first | omega | exact Nat.le_refl _⟩, ⟨by (with_reducible repeat (first | refine blk_drewN ?_ _ | refine blk_drew ?_ | refine blk_alloc ?_ _)); refine blk_far ?_ NB657_661.out _; (with_reducible repeat (first | refine blk_drewN ?_ _ | refine blk_drew ?_ | refine blk_alloc ?_ _)); refine blk_far ?_ NB657_661.out _; (with_reducible repeat (first | refine blk_drewN ?_ _ | refine blk_drew ?_ | refine blk_alloc ?_ _)); exact BK657.out⟩, ⟨by (with_reducible repeat (first | refine blk_drewN ?_ _ | refine blk_drew ?_ | refine blk_alloc ?_ _)); refine blk_put (cs := #[.int .i64 t658, .int .i64 0]) ?_ 1 _ rfl; (with_reducible repeat (first | refine blk_drewN ?_ _ | refine blk_drew ?_ | refine blk_alloc ?_ _)); refine blk_put (cs := #[.int .i64 0, .int .i64 0]) ?_ 0 _ rfl; (with_reducible repeat (first | refine blk_drewN ?_ _ | refine blk_drew ?_ | refine blk_alloc ?_ _)); exact BK661.out⟩, ⟨by repeat (first | (with_reducible first | exact HB.out | apply below_alloc | apply pw_below_drewN | apply below_drew1 | refine below_set ?_ GE657.out | refine below_set ?_ GE661.out) | exact HB.out)⟩⟩
                 ·
                  rw [if_neg c51] at H
                  have c51b0 : decide (16777216 < t655) = false := decide_eq_false c51
                  clear c51
                  have H' := Aside0.mk H
                  clear H
                  have hnb55 := NB657_661.out
                  have hnc55 := NB661_657.out
                  have hcz56_0 : w39.cell? ⟨gb657, 0, none⟩ = some (.int .i64 t654) := (blk_cell BK657.out 0).trans rfl
                  have hcz56_1 : w39.cell? ⟨gb657, 1, none⟩ = some (.int .i64 t655) := (blk_cell BK657.out 1).trans rfl
                  have hfz56_0 := blk_frozen BK657.out 0
                  have hfz56_1 := blk_frozen BK657.out 1
                  have hcz57_0 : w39.cell? ⟨gb661, 0, none⟩ = some (.int .i64 0) := (blk_cell BK661.out 0).trans rfl
                  have hcz57_1 : w39.cell? ⟨gb661, 1, none⟩ = some (.int .i64 0) := (blk_cell BK661.out 1).trans rfl
                  have hfz57_0 := blk_frozen BK661.out 0
                  have hfz57_1 := blk_frozen BK661.out 1
                  go_wp2
                  repeat (go_quiet (fail); try go_wp2)
                  go_meet
                  case rel => exact ⟨_, (decide (t659 > 16777216)), (by first | rfl | (simp; done) | (simp [*]; done)), H', ⟨by have := HJ6.out; have := HJ17.out; have := HJ25.out; first | omega | exact Nat.le_refl _⟩, ⟨by (with_reducible repeat (first | refine blk_drewN ?_ _ | refine blk_drew ?_ | refine blk_alloc ?_ _)); refine blk_far ?_ NB657_661.out _; (with_reducible repeat (first | refine blk_drewN ?_ _ | refine blk_drew ?_ | refine blk_alloc ?_ _)); refine blk_far ?_ NB657_661.out _; (with_reducible repeat (first | refine blk_drewN ?_ _ | refine blk_drew ?_ | refine blk_alloc ?_ _)); exact BK657.out⟩, ⟨by (with_reducible repeat (first | refine blk_drewN ?_ _ | refine blk_drew ?_ | refine blk_alloc ?_ _)); refine blk_put (cs := #[.int .i64 t658, .int .i64 0]) ?_ 1 _ rfl; (with_reducible repeat (first | refine blk_drewN ?_ _ | refine blk_drew ?_ | refine blk_alloc ?_ _)); refine blk_put (cs := #[.int .i64 0, .int .i64 0]) ?_ 0 _ rfl; (with_reducible repeat (first | refine blk_drewN ?_ _ | refine blk_drew ?_ | refine blk_alloc ?_ _)); exact BK661.out⟩, ⟨by repeat (first | (with_reducible first | exact HB.out | apply below_alloc | apply pw_below_drewN | apply below_drew1 | refine below_set ?_ GE657.out | refine below_set ?_ GE661.out) | exact HB.out)⟩⟩
              ·
               rw [if_neg c43] at H
               have c43b0 : (t660 == 0) = false := beq_eq_false_iff_ne.mpr c43
               have c43b1 : (t660 != 0) = true := bne_iff_ne.mpr c43
               have H' := Aside0.mk H
               clear H
               go_wp2
               repeat (go_quiet (fail); try go_wp2)
               go_meet
               case rel => exact ⟨_, (true), (by first | rfl | (simp; done) | (simp [*]; done)), H', ⟨by have := HJ6.out; have := HJ17.out; have := HJ25.out; first | omega | exact Nat.le_refl _⟩, ⟨by (with_reducible repeat (first | refine blk_drewN ?_ _ | refine blk_drew ?_ | refine blk_alloc ?_ _)); refine blk_far ?_ NB657_661.out _; (with_reducible repeat (first | refine blk_drewN ?_ _ | refine blk_drew ?_ | refine blk_alloc ?_ _)); refine blk_far ?_ NB657_661.out _; (with_reducible repeat (first | refine blk_drewN ?_ _ | refine blk_drew ?_ | refine blk_alloc ?_ _)); exact BK657.out⟩, ⟨by (with_reducible repeat (first | refine blk_drewN ?_ _ | refine blk_drew ?_ | refine blk_alloc ?_ _)); refine blk_put (cs := #[.int .i64 t658, .int .i64 0]) ?_ 1 _ rfl; (with_reducible repeat (first | refine blk_drewN ?_ _ | refine blk_drew ?_ | refine blk_alloc ?_ _)); refine blk_put (cs := #[.int .i64 0, .int .i64 0]) ?_ 0 _ rfl; (with_reducible repeat (first | refine blk_drewN ?_ _ | refine blk_drew ?_ | refine blk_alloc ?_ _)); exact BK661.out⟩, ⟨by repeat (first | (with_reducible first | exact HB.out | apply below_alloc | apply pw_below_drewN | apply below_drew1 | refine below_set ?_ GE657.out | refine below_set ?_ GE661.out) | exact HB.out)⟩⟩
             ·
              rw [if_neg c42] at H
              have c42b0 : (t656 == 0) = false := beq_eq_false_iff_ne.mpr c42
              have c42b1 : (t656 != 0) = true := bne_iff_ne.mpr c42
              (first | rw [c42b0] | (simp only [i64_w, i32_w]; rw [c42b0]) | skip)
              have H' := Aside0.mk H
              clear H
              go_wp2
              repeat (go_quiet (fail); try go_wp2)
              go_meet
              case rel => exact ⟨_, (true), (by first | rfl | (simp; done) | (simp [*]; done)), H', ⟨by have := HJ6.out; have := HJ17.out; have := HJ25.out; first | omega | exact Nat.le_refl _⟩, ⟨by (with_reducible repeat (first | refine blk_drewN ?_ _ | refine blk_drew ?_ | refine blk_alloc ?_ _)); refine blk_far ?_ NB657_661.out _; (with_reducible repeat (first | refine blk_drewN ?_ _ | refine blk_drew ?_ | refine blk_alloc ?_ _)); refine blk_far ?_ NB657_661.out _; (with_reducible repeat (first | refine blk_drewN ?_ _ | refine blk_drew ?_ | refine blk_alloc ?_ _)); exact BK657.out⟩, ⟨by (with_reducible repeat (first | refine blk_drewN ?_ _ | refine blk_drew ?_ | refine blk_alloc ?_ _)); refine blk_put (cs := #[.int .i64 t658, .int .i64 0]) ?_ 1 _ rfl; (with_reducible repeat (first | refine blk_drewN ?_ _ | refine blk_drew ?_ | refine blk_alloc ?_ _)); refine blk_put (cs := #[.int .i64 0, .int .i64 0]) ?_ 0 _ rfl; (with_reducible repeat (first | refine blk_drewN ?_ _ | refine blk_drew ?_ | refine blk_alloc ?_ _)); exact BK661.out⟩, ⟨by repeat (first | (with_reducible first | exact HB.out | apply below_alloc | apply pw_below_drewN | apply below_drew1 | refine below_set ?_ GE657.out | refine below_set ?_ GE661.out) | exact HB.out)⟩⟩
            case rest => as_aux_lemma =>
             clear HC34
             try clear c1
             try clear c2
             try clear p2
             try clear c3
             try clear c4
             try clear c5
             try clear c6
             try clear c10
             try clear c12
             try clear c14
             try clear c22
             try clear c22b0
             try clear c22b1
             try clear c23
             try clear c23b0
             try clear c23b1
             try clear c24
             try clear c24b0
             try clear c24b1
             try clear c25
             try clear c28
             try clear c31
             try clear c40
             try clear c42
             try clear c42b0
             try clear c42b1
             try clear c43
             try clear c43b0
             try clear c43b1
             try clear c44
             try clear c44b0
             try clear c45
             try clear c47
             try clear c47b0
             try clear c48
             try clear c51
             try clear c51b0
             try clear c52
             try clear c55
             try clear hcz37_0
             try clear hcz37_1
             try clear hcz41_0
             try clear hcz41_1
             try clear hcz46_0
             try clear hcz46_1
             try clear hcz49_0
             try clear hcz49_1
             try clear hcz50_0
             try clear hcz50_1
             try clear hcz53_0
             try clear hcz53_1
             try clear hcz54_0
             try clear hcz54_1
             try clear hcz56_0
             try clear hcz56_1
             try clear hcz57_0
             try clear hcz57_1
             try clear hfz37_0
             try clear hfz37_1
             try clear hfz41_0
             try clear hfz41_1
             try clear hfz46_0
             try clear hfz46_1
             try clear hfz49_0
             try clear hfz49_1
             try clear hfz50_0
             try clear hfz50_1
             try clear hfz53_0
             try clear hfz53_1
             try clear hfz54_0
             try clear hfz54_1
             try clear hfz56_0
             try clear hfz56_1
             try clear hfz57_0
             try clear hfz57_1
             try clear p2
             obtain ⟨kq, x121_33, rfl, HA, HJ33, BK657, BK661, HB⟩ := hcut
             cases kq with
             | zero => exact absurd HA.out (by simp [law_CurveBelow.j3])
             | succ kj33 =>
              have H := HA.out
              clear HA
              simp only [law_CurveBelow.j3] at H
              by_cases c58 : x121_33 = true
              ·
               subst c58
               have H1 : (some false) = some r := by rw [if_pos rfl] at H; exact H
               clear H
               have H := H1
               clear H1
               obtain rfl := Option.some.inj H
               go_wp2
               repeat (go_quiet (fail); try go_wp2)
               go_ret
               exact ⟨by first | rfl | (simp [errW_none, errW_some] <;> rfl) | (simp [*, errW_none, errW_some] <;> rfl), by repeat (first | (with_reducible first | exact HB.out | apply below_alloc | apply pw_below_drewN | apply below_drew1 | refine below_set ?_ GE657.out | refine below_set ?_ GE661.out) | exact HB.out)⟩
              ·
               replace c58 := Bool.eq_false_iff.mpr c58
               subst c58
               have H1 : ((ref_Order.f kj33 t654 t655 t658 t659).bind fun t662 => (if t648 = true then (if t662 > 0 then (law_CurveBelow.j4 kj33 l0 l1 l2 t648 t650 true) else (if t650 = true then (law_CurveBelow.j4 kj33 l0 l1 l2 t648 t650 (decide (t662 < 0))) else (law_CurveBelow.j4 kj33 l0 l1 l2 t648 t650 false))) else (if t650 = true then (law_CurveBelow.j4 kj33 l0 l1 l2 t648 t650 (decide (t662 < 0))) else (law_CurveBelow.j4 kj33 l0 l1 l2 t648 t650 false)))) = some r := by rw [if_neg (show ¬ (false = true) by decide)] at H; exact H
               clear H
               have H := H1
               clear H1
               replace H := Option.bind_eq_some_iff.mp H
               obtain ⟨t662, A590, H⟩ := H
               replace H : (if t648 = true then (if t662 > 0 then (law_CurveBelow.j4 kj33 l0 l1 l2 t648 t650 true) else (if t650 = true then (law_CurveBelow.j4 kj33 l0 l1 l2 t648 t650 (decide (t662 < 0))) else (law_CurveBelow.j4 kj33 l0 l1 l2 t648 t650 false))) else (if t650 = true then (law_CurveBelow.j4 kj33 l0 l1 l2 t648 t650 (decide (t662 < 0))) else (law_CurveBelow.j4 kj33 l0 l1 l2 t648 t650 false))) = some r := H
               have A59 := Aside0.mk A590
               clear A590
               have HC60 := Aside0.mk H
               clear H
               have hnb61 := NB657_661.out
               have hnc61 := NB661_657.out
               have hcz62_0 : wc.cell? ⟨gb657, 0, none⟩ = some (.int .i64 t654) := (blk_cell BK657.out 0).trans rfl
               have hcz62_1 : wc.cell? ⟨gb657, 1, none⟩ = some (.int .i64 t655) := (blk_cell BK657.out 1).trans rfl
               have hfz62_0 := blk_frozen BK657.out 0
               have hfz62_1 := blk_frozen BK657.out 1
               have hcz63_0 : wc.cell? ⟨gb661, 0, none⟩ = some (.int .i64 t658) := (blk_cell BK661.out 0).trans rfl
               have hcz63_1 : wc.cell? ⟨gb661, 1, none⟩ = some (.int .i64 t659) := (blk_cell BK661.out 1).trans rfl
               have hfz63_0 := blk_frozen BK661.out 0
               have hfz63_1 := blk_frozen BK661.out 1
               go_upto_region 16 with (first | (go_at_call 53; (with_reducible refine (ref_Order.calls kj33 t654 t655 t658 t659 t662 _ A59.out).mono ?_); rintro e w64 ⟨rfl, hb⟩; have n0_ := Aside0.mk (blk_below (g := gb657) (o := .cells #[.int .i64 t654, .int .i64 t655] 25 (0, 0)) (by (with_reducible repeat (first | refine blk_drewN ?_ _ | refine blk_drew ?_ | refine blk_alloc ?_ _)); exact BK657.out) hb); have n1_ := Aside0.mk (blk_below (g := gb661) (o := .cells #[.int .i64 t658, .int .i64 t659] 25 (0, 0)) (by (with_reducible repeat (first | refine blk_drewN ?_ _ | refine blk_drew ?_ | refine blk_alloc ?_ _)); exact BK661.out) hb); have n2_ := Aside0.mk (below_step (by repeat (first | (with_reducible first | exact HB.out | apply below_alloc | apply pw_below_drewN | apply below_drew1 | refine below_set ?_ GE657.out | refine below_set ?_ GE661.out) | exact HB.out)) hb); clear BK657; clear BK661; clear HB; have BK657 := n0_; have BK661 := n1_; have HB := n2_; clear n0_ n1_ n2_; (try clear hb); (try clear hb2); (try clear hk); (try clear hi)))
               repeat (go_quiet (first | (go_at_call 53; (with_reducible refine (ref_Order.calls kj33 t654 t655 t658 t659 t662 _ A59.out).mono ?_); rintro e w64 ⟨rfl, hb⟩; have n0_ := Aside0.mk (blk_below (g := gb657) (o := .cells #[.int .i64 t654, .int .i64 t655] 25 (0, 0)) (by (with_reducible repeat (first | refine blk_drewN ?_ _ | refine blk_drew ?_ | refine blk_alloc ?_ _)); exact BK657.out) hb); have n1_ := Aside0.mk (blk_below (g := gb661) (o := .cells #[.int .i64 t658, .int .i64 t659] 25 (0, 0)) (by (with_reducible repeat (first | refine blk_drewN ?_ _ | refine blk_drew ?_ | refine blk_alloc ?_ _)); exact BK661.out) hb); have n2_ := Aside0.mk (below_step (by repeat (first | (with_reducible first | exact HB.out | apply below_alloc | apply pw_below_drewN | apply below_drew1 | refine below_set ?_ GE657.out | refine below_set ?_ GE661.out) | exact HB.out)) hb); clear BK657; clear BK661; clear HB; have BK657 := n0_; have BK661 := n1_; have HB := n2_; clear n0_ n1_ n2_; (try clear hb); (try clear hb2); (try clear hk); (try clear hi))); go_upto_region 16 with (first | (go_at_call 53; (with_reducible refine (ref_Order.calls kj33 t654 t655 t658 t659 t662 _ A59.out).mono ?_); rintro e w64 ⟨rfl, hb⟩; have n0_ := Aside0.mk (blk_below (g := gb657) (o := .cells #[.int .i64 t654, .int .i64 t655] 25 (0, 0)) (by (with_reducible repeat (first | refine blk_drewN ?_ _ | refine blk_drew ?_ | refine blk_alloc ?_ _)); exact BK657.out) hb); have n1_ := Aside0.mk (blk_below (g := gb661) (o := .cells #[.int .i64 t658, .int .i64 t659] 25 (0, 0)) (by (with_reducible repeat (first | refine blk_drewN ?_ _ | refine blk_drew ?_ | refine blk_alloc ?_ _)); exact BK661.out) hb); have n2_ := Aside0.mk (below_step (by repeat (first | (with_reducible first | exact HB.out | apply below_alloc | apply pw_below_drewN | apply below_drew1 | refine below_set ?_ GE657.out | refine below_set ?_ GE661.out) | exact HB.out)) hb); clear BK657; clear BK661; clear HB; have BK657 := n0_; have BK661 := n1_; have HB := n2_; clear n0_ n1_ n2_; (try clear hb); (try clear hb2); (try clear hk); (try clear hi))))
               (try simp only [Act.put, List.setIfInBounds_toArray, List.set_cons_zero, List.set_cons_succ])
               go_cut [136] (fun v136 wc => ∃ (kq : Nat) (x136_59 : Bool), v136 = .bool x136_59 ∧ Aside0 (law_CurveBelow.j4 kq l0 l1 l2 t648 t650 x136_59 = some r) ∧ Aside0 (kq ≤ kj33) ∧ Aside0 (wc.heap[gb657]? = some (.cells #[.int .i64 t654, .int .i64 t655] 25 (0, 0))) ∧ Aside0 (wc.heap[gb661]? = some (.cells #[.int .i64 t658, .int .i64 t659] 25 (0, 0))) ∧ Aside0 (Below w.heap.size w wc))
               case first => as_aux_lemma =>
                have H := HC60.out
                clear HC60
                by_cases c65 : t648 = true
                ·
                 subst c65
                 have H1 : (if t662 > 0 then (law_CurveBelow.j4 kj33 l0 l1 l2 true t650 true) else (if t650 = true then (law_CurveBelow.j4 kj33 l0 l1 l2 true t650 (decide (t662 < 0))) else (law_CurveBelow.j4 kj33 l0 l1 l2 true t650 false))) = some r := by rw [if_pos rfl] at H; exact H
                 clear H
                 have H := H1
                 clear H1
                 by_cases c66 : t662 > 0
                 ·
                  rw [if_pos c66] at H
                  have c66b0 : decide (0 < t662) = true := decide_eq_true c66
                  clear c66
                  (first | rw [c66b0] | (simp only [i64_w, i32_w]; rw [c66b0]) | skip)
                  have H' := Aside0.mk H
                  clear H
                  go_wp2
                  repeat (go_quiet (fail); try go_wp2)
                  go_meet
                  case rel => exact ⟨_, (true), (by first | rfl | (simp; done) | (simp [*]; done)), H', ⟨by have := HJ6.out; have := HJ17.out; have := HJ25.out; have := HJ33.out; first | omega | exact Nat.le_refl _⟩, ⟨by (with_reducible repeat (first | refine blk_drewN ?_ _ | refine blk_drew ?_ | refine blk_alloc ?_ _)); exact BK657.out⟩, ⟨by (with_reducible repeat (first | refine blk_drewN ?_ _ | refine blk_drew ?_ | refine blk_alloc ?_ _)); exact BK661.out⟩, ⟨by repeat (first | (with_reducible first | exact HB.out | apply below_alloc | apply pw_below_drewN | apply below_drew1 | refine below_set ?_ GE657.out | refine below_set ?_ GE661.out) | exact HB.out)⟩⟩
                 ·
                  rw [if_neg c66] at H
                  have c66b0 : decide (0 < t662) = false := decide_eq_false c66
                  clear c66
                  (first | rw [c66b0] | (simp only [i64_w, i32_w]; rw [c66b0]) | skip)
                  by_cases c67 : t650 = true
                  ·
                   subst c67
                   have H1 : (law_CurveBelow.j4 kj33 l0 l1 l2 true true (decide (t662 < 0))) = some r := by rw [if_pos rfl] at H; exact H
                   clear H
                   have H := H1
                   clear H1
                   have H' := Aside0.mk H
                   clear H
                   go_wp2
                   repeat (go_quiet (fail); try go_wp2)
                   go_meet
                   case rel => exact ⟨_, (decide (t662 < 0)), (by first | rfl | (simp; done) | (simp [*]; done)), H', ⟨by have := HJ6.out; have := HJ17.out; have := HJ25.out; have := HJ33.out; first | omega | exact Nat.le_refl _⟩, ⟨by (with_reducible repeat (first | refine blk_drewN ?_ _ | refine blk_drew ?_ | refine blk_alloc ?_ _)); exact BK657.out⟩, ⟨by (with_reducible repeat (first | refine blk_drewN ?_ _ | refine blk_drew ?_ | refine blk_alloc ?_ _)); exact BK661.out⟩, ⟨by repeat (first | (with_reducible first | exact HB.out | apply below_alloc | apply pw_below_drewN | apply below_drew1 | refine below_set ?_ GE657.out | refine below_set ?_ GE661.out) | exact HB.out)⟩⟩
                  ·
                   replace c67 := Bool.eq_false_iff.mpr c67
                   subst c67
                   have H1 : (law_CurveBelow.j4 kj33 l0 l1 l2 true false false) = some r := by rw [if_neg (show ¬ (false = true) by decide)] at H; exact H
                   clear H
                   have H := H1
                   clear H1
                   have H' := Aside0.mk H
                   clear H
                   go_wp2
                   repeat (go_quiet (fail); try go_wp2)
                   go_meet
                   case rel => exact ⟨_, (false), (by first | rfl | (simp; done) | (simp [*]; done)), H', ⟨by have := HJ6.out; have := HJ17.out; have := HJ25.out; have := HJ33.out; first | omega | exact Nat.le_refl _⟩, ⟨by (with_reducible repeat (first | refine blk_drewN ?_ _ | refine blk_drew ?_ | refine blk_alloc ?_ _)); exact BK657.out⟩, ⟨by (with_reducible repeat (first | refine blk_drewN ?_ _ | refine blk_drew ?_ | refine blk_alloc ?_ _)); exact BK661.out⟩, ⟨by repeat (first | (with_reducible first | exact HB.out | apply below_alloc | apply pw_below_drewN | apply below_drew1 | refine below_set ?_ GE657.out | refine below_set ?_ GE661.out) | exact HB.out)⟩⟩
                ·
                 replace c65 := Bool.eq_false_iff.mpr c65
                 subst c65
                 have H1 : (if t650 = true then (law_CurveBelow.j4 kj33 l0 l1 l2 false t650 (decide (t662 < 0))) else (law_CurveBelow.j4 kj33 l0 l1 l2 false t650 false)) = some r := by rw [if_neg (show ¬ (false = true) by decide)] at H; exact H
                 clear H
                 have H := H1
                 clear H1
                 by_cases c68 : t650 = true
                 ·
                  subst c68
                  have H1 : (law_CurveBelow.j4 kj33 l0 l1 l2 false true (decide (t662 < 0))) = some r := by rw [if_pos rfl] at H; exact H
                  clear H
                  have H := H1
                  clear H1
                  have H' := Aside0.mk H
                  clear H
                  go_wp2
                  repeat (go_quiet (fail); try go_wp2)
                  go_meet
                  case rel => exact ⟨_, (decide (t662 < 0)), (by first | rfl | (simp; done) | (simp [*]; done)), H', ⟨by have := HJ6.out; have := HJ17.out; have := HJ25.out; have := HJ33.out; first | omega | exact Nat.le_refl _⟩, ⟨by (with_reducible repeat (first | refine blk_drewN ?_ _ | refine blk_drew ?_ | refine blk_alloc ?_ _)); exact BK657.out⟩, ⟨by (with_reducible repeat (first | refine blk_drewN ?_ _ | refine blk_drew ?_ | refine blk_alloc ?_ _)); exact BK661.out⟩, ⟨by repeat (first | (with_reducible first | exact HB.out | apply below_alloc | apply pw_below_drewN | apply below_drew1 | refine below_set ?_ GE657.out | refine below_set ?_ GE661.out) | exact HB.out)⟩⟩
                 ·
                  replace c68 := Bool.eq_false_iff.mpr c68
                  subst c68
                  have H1 : (law_CurveBelow.j4 kj33 l0 l1 l2 false false false) = some r := by rw [if_neg (show ¬ (false = true) by decide)] at H; exact H
                  clear H
                  have H := H1
                  clear H1
                  have H' := Aside0.mk H
                  clear H
                  go_wp2
                  repeat (go_quiet (fail); try go_wp2)
                  go_meet
                  case rel => exact ⟨_, (false), (by first | rfl | (simp; done) | (simp [*]; done)), H', ⟨by have := HJ6.out; have := HJ17.out; have := HJ25.out; have := HJ33.out; first | omega | exact Nat.le_refl _⟩, ⟨by (with_reducible repeat (first | refine blk_drewN ?_ _ | refine blk_drew ?_ | refine blk_alloc ?_ _)); exact BK657.out⟩, ⟨by (with_reducible repeat (first | refine blk_drewN ?_ _ | refine blk_drew ?_ | refine blk_alloc ?_ _)); exact BK661.out⟩, ⟨by repeat (first | (with_reducible first | exact HB.out | apply below_alloc | apply pw_below_drewN | apply below_drew1 | refine below_set ?_ GE657.out | refine below_set ?_ GE661.out) | exact HB.out)⟩⟩
               case rest => as_aux_lemma =>
                clear HC60
                try clear c1
                try clear c2
                try clear p2
                try clear c3
                try clear c4
                try clear c5
                try clear c6
                try clear c10
                try clear c12
                try clear c14
                try clear c22
                try clear c22b0
                try clear c22b1
                try clear c23
                try clear c23b0
                try clear c23b1
                try clear c24
                try clear c24b0
                try clear c24b1
                try clear c25
                try clear c28
                try clear c31
                try clear c40
                try clear c42
                try clear c42b0
                try clear c42b1
                try clear c43
                try clear c43b0
                try clear c43b1
                try clear c44
                try clear c44b0
                try clear c45
                try clear c47
                try clear c47b0
                try clear c48
                try clear c51
                try clear c51b0
                try clear c52
                try clear c55
                try clear c58
                try clear c61
                try clear c65
                try clear c66
                try clear c66b0
                try clear c67
                try clear c68
                try clear hcz37_0
                try clear hcz37_1
                try clear hcz41_0
                try clear hcz41_1
                try clear hcz46_0
                try clear hcz46_1
                try clear hcz49_0
                try clear hcz49_1
                try clear hcz50_0
                try clear hcz50_1
                try clear hcz53_0
                try clear hcz53_1
                try clear hcz54_0
                try clear hcz54_1
                try clear hcz56_0
                try clear hcz56_1
                try clear hcz57_0
                try clear hcz57_1
                try clear hcz62_0
                try clear hcz62_1
                try clear hcz63_0
                try clear hcz63_1
                try clear hfz37_0
                try clear hfz37_1
                try clear hfz41_0
                try clear hfz41_1
                try clear hfz46_0
                try clear hfz46_1
                try clear hfz49_0
                try clear hfz49_1
                try clear hfz50_0
                try clear hfz50_1
                try clear hfz53_0
                try clear hfz53_1
                try clear hfz54_0
                try clear hfz54_1
                try clear hfz56_0
                try clear hfz56_1
                try clear hfz57_0
                try clear hfz57_1
                try clear hfz62_0
                try clear hfz62_1
                try clear hfz63_0
                try clear hfz63_1
                try clear p2
                obtain ⟨kq, x136_59, rfl, HA, HJ59, BK657, BK661, HB⟩ := hcut
                cases kq with
                | zero => exact absurd HA.out (by simp [law_CurveBelow.j4])
                | succ kj59 =>
                 have H := HA.out
                 clear HA
                 simp only [law_CurveBelow.j4] at H
                 by_cases c69 : x136_59 = true
                 ·
                  subst c69
                  have H1 : (some false) = some r := by rw [if_pos rfl] at H; exact H
                  clear H
                  have H := H1
                  clear H1
                  obtain rfl := Option.some.inj H
                  go_wp2
                  repeat (go_quiet (fail); try go_wp2)
                  go_ret
                  exact ⟨by first | rfl | (simp [errW_none, errW_some] <;> rfl) | (simp [*, errW_none, errW_some] <;> rfl), by repeat (first | (with_reducible first | exact HB.out | apply below_alloc | apply pw_below_drewN | apply below_drew1 | refine below_set ?_ GE657.out | refine below_set ?_ GE661.out) | exact HB.out)⟩
                 ·
                  replace c69 := Bool.eq_false_iff.mpr c69
                  subst c69
                  have H1 : (law_CurveBelow.j5 kj59 l0 l1 l2 t648 t650) = some r := by rw [if_neg (show ¬ (false = true) by decide)] at H; exact H
                  clear H
                  have H := H1
                  clear H1
                  have H' := Aside0.mk H
                  clear H
                  go_wp2
                  repeat (go_quiet (fail); try go_wp2)
                  go_meet
                  case rel => exact ⟨_, H', ⟨by have := HJ6.out; have := HJ17.out; have := HJ25.out; have := HJ33.out; have := HJ59.out; first | omega | exact Nat.le_refl _⟩, ⟨by repeat (first | (with_reducible first | exact HB.out | apply below_alloc | apply pw_below_drewN | apply below_drew1 | refine below_set ?_ GE657.out | refine below_set ?_ GE661.out) | exact HB.out)⟩⟩
           ·
            replace c31 := Bool.eq_false_iff.mpr c31
            subst c31
            have H1 : (law_CurveBelow.j5 kj25 l0 l1 l2 t648 t650) = some r := by rw [if_neg (show ¬ (false = true) by decide)] at H; exact H
            clear H
            have H := H1
            clear H1
            have H' := Aside0.mk H
            clear H
            go_wp2
            repeat (go_quiet (fail); try go_wp2)
            go_meet
            case rel => exact ⟨_, H', ⟨by have := HJ6.out; have := HJ17.out; have := HJ25.out; first | omega | exact Nat.le_refl _⟩, ⟨by repeat (first | (with_reducible first | exact HB.out | apply below_alloc | apply pw_below_drewN | apply below_drew1) | exact HB.out)⟩⟩
          case rest => as_aux_lemma =>
           clear HC30
           try clear c1
           try clear c2
           try clear p2
           try clear c3
           try clear c4
           try clear c5
           try clear c6
           try clear c10
           try clear c12
           try clear c14
           try clear c22
           try clear c22b0
           try clear c22b1
           try clear c23
           try clear c23b0
           try clear c23b1
           try clear c24
           try clear c24b0
           try clear c24b1
           try clear c25
           try clear c28
           try clear c31
           try clear c40
           try clear c42
           try clear c42b0
           try clear c42b1
           try clear c43
           try clear c43b0
           try clear c43b1
           try clear c44
           try clear c44b0
           try clear c45
           try clear c47
           try clear c47b0
           try clear c48
           try clear c51
           try clear c51b0
           try clear c52
           try clear c55
           try clear c58
           try clear c61
           try clear c65
           try clear c66
           try clear c66b0
           try clear c67
           try clear c68
           try clear c69
           try clear hcz37_0
           try clear hcz37_1
           try clear hcz41_0
           try clear hcz41_1
           try clear hcz46_0
           try clear hcz46_1
           try clear hcz49_0
           try clear hcz49_1
           try clear hcz50_0
           try clear hcz50_1
           try clear hcz53_0
           try clear hcz53_1
           try clear hcz54_0
           try clear hcz54_1
           try clear hcz56_0
           try clear hcz56_1
           try clear hcz57_0
           try clear hcz57_1
           try clear hcz62_0
           try clear hcz62_1
           try clear hcz63_0
           try clear hcz63_1
           try clear hfz37_0
           try clear hfz37_1
           try clear hfz41_0
           try clear hfz41_1
           try clear hfz46_0
           try clear hfz46_1
           try clear hfz49_0
           try clear hfz49_1
           try clear hfz50_0
           try clear hfz50_1
           try clear hfz53_0
           try clear hfz53_1
           try clear hfz54_0
           try clear hfz54_1
           try clear hfz56_0
           try clear hfz56_1
           try clear hfz57_0
           try clear hfz57_1
           try clear hfz62_0
           try clear hfz62_1
           try clear hfz63_0
           try clear hfz63_1
           try clear p2
           obtain ⟨kq, HA, HJ29, HB⟩ := hcut
           cases kq with
           | zero => exact absurd HA.out (by simp [law_CurveBelow.j5])
           | succ kj29 =>
            have H := HA.out
            clear HA
            simp only [law_CurveBelow.j5] at H
            have HC70 := Aside0.mk H
            clear H
            go_upto_region 18 with (fail)
            repeat (go_quiet (fail); go_upto_region 18 with (fail))
            go_cut [148] (fun v148 wc => ∃ (kq : Nat) (x148_69 : Bool), v148 = .bool x148_69 ∧ Aside0 (law_CurveBelow.j6 kq l0 l1 l2 t648 t650 x148_69 = some r) ∧ Aside0 (kq ≤ kj29) ∧ Aside0 (Below w.heap.size w wc))
            case first => as_aux_lemma =>
             have H := HC70.out
             clear HC70
             replace H := Option.bind_eq_some_iff.mp H
             obtain ⟨t663, A710, H⟩ := H
             replace H : ((ref_From.f l1).bind fun t664 => (if t663 = t664 then ((ref_To.f l0).bind fun t665 => ((ref_To.f l1).bind fun t666 => (law_CurveBelow.j6 kj29 l0 l1 l2 t648 t650 (t665 != t666)))) else (law_CurveBelow.j6 kj29 l0 l1 l2 t648 t650 true))) = some r := H
             have A71 := Aside0.mk A710
             clear A710
             replace H := Option.bind_eq_some_iff.mp H
             obtain ⟨t664, A720, H⟩ := H
             replace H : (if t663 = t664 then ((ref_To.f l0).bind fun t665 => ((ref_To.f l1).bind fun t666 => (law_CurveBelow.j6 kj29 l0 l1 l2 t648 t650 (t665 != t666)))) else (law_CurveBelow.j6 kj29 l0 l1 l2 t648 t650 true)) = some r := H
             have A72 := Aside0.mk A720
             clear A720
             by_cases c73 : t663 = t664
             ·
              rw [if_pos c73] at H
              have c73b0 : (t663 == t664) = true := beq_iff_eq.mpr c73
              have c73b1 : (t663 != t664) = false := bne_eq_false_iff_eq.mpr c73
              clear c73
              (first | rw [c73b0] | (simp only [i64_w, i32_w]; rw [c73b0]) | skip)
              replace H := Option.bind_eq_some_iff.mp H
              obtain ⟨t665, A740, H⟩ := H
              replace H : ((ref_To.f l1).bind fun t666 => (law_CurveBelow.j6 kj29 l0 l1 l2 t648 t650 (t665 != t666))) = some r := H
              have A74 := Aside0.mk A740
              clear A740
              replace H := Option.bind_eq_some_iff.mp H
              obtain ⟨t666, A750, H⟩ := H
              replace H : (law_CurveBelow.j6 kj29 l0 l1 l2 t648 t650 (t665 != t666)) = some r := H
              have A75 := Aside0.mk A750
              clear A750
              have H' := Aside0.mk H
              clear H
              go_wp2_with (first | (go_at_call 47; (with_reducible refine (ref_From.calls _ _ l0 t663 _ ?side1 ?side2 A71.out).mono ?_); (case side1 => repeat (first | exact (Kd.C_below HR0.out HB.out) | (with_reducible refine Kd.C_alloc ?_ _) | (with_reducible refine Kd.C_drewN ?_ _) | (with_reducible refine Kd.C_drew ?_))); (case side2 => exact HC0.out); rintro e w' ⟨rfl, ⟨nd, rfl⟩⟩; (try first | exact ⟨rfl, _, World.drewN_drewN _ _ _⟩ | exact ⟨rfl, _, Eq.trans (World.drewN_drewN _ _ _) (congrArg (World.drewN _) (Nat.add_assoc _ _ _))⟩)) | (go_at_call 47; (with_reducible refine (ref_From.calls _ _ l1 t664 _ ?side1 ?side2 A72.out).mono ?_); (case side1 => repeat (first | exact (Kd.C_below HR1.out (by repeat (first | (with_reducible first | exact HB.out | apply below_alloc | apply pw_below_drewN | apply below_drew1) | exact HB.out))) | (with_reducible refine Kd.C_alloc ?_ _) | (with_reducible refine Kd.C_drewN ?_ _) | (with_reducible refine Kd.C_drew ?_))); (case side2 => exact HC1.out); rintro e w' ⟨rfl, ⟨nd, rfl⟩⟩; (try first | exact ⟨rfl, _, World.drewN_drewN _ _ _⟩ | exact ⟨rfl, _, Eq.trans (World.drewN_drewN _ _ _) (congrArg (World.drewN _) (Nat.add_assoc _ _ _))⟩)) | (go_at_call 48; (with_reducible refine (ref_To.calls _ _ l0 t665 _ ?side1 ?side2 A74.out).mono ?_); (case side1 => repeat (first | exact (Kd.C_below HR0.out (by repeat (first | (with_reducible first | exact HB.out | apply below_alloc | apply pw_below_drewN | apply below_drew1) | exact HB.out))) | (with_reducible refine Kd.C_alloc ?_ _) | (with_reducible refine Kd.C_drewN ?_ _) | (with_reducible refine Kd.C_drew ?_))); (case side2 => exact HC0.out); rintro e w' ⟨rfl, ⟨nd, rfl⟩⟩; (try first | exact ⟨rfl, _, World.drewN_drewN _ _ _⟩ | exact ⟨rfl, _, Eq.trans (World.drewN_drewN _ _ _) (congrArg (World.drewN _) (Nat.add_assoc _ _ _))⟩)) | (go_at_call 48; (with_reducible refine (ref_To.calls _ _ l1 t666 _ ?side1 ?side2 A75.out).mono ?_); (case side1 => repeat (first | exact (Kd.C_below HR1.out (by repeat (first | (with_reducible first | exact HB.out | apply below_alloc | apply pw_below_drewN | apply below_drew1) | exact HB.out))) | (with_reducible refine Kd.C_alloc ?_ _) | (with_reducible refine Kd.C_drewN ?_ _) | (with_reducible refine Kd.C_drew ?_))); (case side2 => exact HC1.out); rintro e w' ⟨rfl, ⟨nd, rfl⟩⟩; (try first | exact ⟨rfl, _, World.drewN_drewN _ _ _⟩ | exact ⟨rfl, _, Eq.trans (World.drewN_drewN _ _ _) (congrArg (World.drewN _) (Nat.add_assoc _ _ _))⟩)))
              repeat (go_quiet (first | (go_at_call 47; (with_reducible refine (ref_From.calls _ _ l0 t663 _ ?side1 ?side2 A71.out).mono ?_); (case side1 => repeat (first | exact (Kd.C_below HR0.out HB.out) | (with_reducible refine Kd.C_alloc ?_ _) | (with_reducible refine Kd.C_drewN ?_ _) | (with_reducible refine Kd.C_drew ?_))); (case side2 => exact HC0.out); rintro e w' ⟨rfl, ⟨nd, rfl⟩⟩; (try first | exact ⟨rfl, _, World.drewN_drewN _ _ _⟩ | exact ⟨rfl, _, Eq.trans (World.drewN_drewN _ _ _) (congrArg (World.drewN _) (Nat.add_assoc _ _ _))⟩)) | (go_at_call 47; (with_reducible refine (ref_From.calls _ _ l1 t664 _ ?side1 ?side2 A72.out).mono ?_); (case side1 => repeat (first | exact (Kd.C_below HR1.out (by repeat (first | (with_reducible first | exact HB.out | apply below_alloc | apply pw_below_drewN | apply below_drew1) | exact HB.out))) | (with_reducible refine Kd.C_alloc ?_ _) | (with_reducible refine Kd.C_drewN ?_ _) | (with_reducible refine Kd.C_drew ?_))); (case side2 => exact HC1.out); rintro e w' ⟨rfl, ⟨nd, rfl⟩⟩; (try first | exact ⟨rfl, _, World.drewN_drewN _ _ _⟩ | exact ⟨rfl, _, Eq.trans (World.drewN_drewN _ _ _) (congrArg (World.drewN _) (Nat.add_assoc _ _ _))⟩)) | (go_at_call 48; (with_reducible refine (ref_To.calls _ _ l0 t665 _ ?side1 ?side2 A74.out).mono ?_); (case side1 => repeat (first | exact (Kd.C_below HR0.out (by repeat (first | (with_reducible first | exact HB.out | apply below_alloc | apply pw_below_drewN | apply below_drew1) | exact HB.out))) | (with_reducible refine Kd.C_alloc ?_ _) | (with_reducible refine Kd.C_drewN ?_ _) | (with_reducible refine Kd.C_drew ?_))); (case side2 => exact HC0.out); rintro e w' ⟨rfl, ⟨nd, rfl⟩⟩; (try first | exact ⟨rfl, _, World.drewN_drewN _ _ _⟩ | exact ⟨rfl, _, Eq.trans (World.drewN_drewN _ _ _) (congrArg (World.drewN _) (Nat.add_assoc _ _ _))⟩)) | (go_at_call 48; (with_reducible refine (ref_To.calls _ _ l1 t666 _ ?side1 ?side2 A75.out).mono ?_); (case side1 => repeat (first | exact (Kd.C_below HR1.out (by repeat (first | (with_reducible first | exact HB.out | apply below_alloc | apply pw_below_drewN | apply below_drew1) | exact HB.out))) | (with_reducible refine Kd.C_alloc ?_ _) | (with_reducible refine Kd.C_drewN ?_ _) | (with_reducible refine Kd.C_drew ?_))); (case side2 => exact HC1.out); rintro e w' ⟨rfl, ⟨nd, rfl⟩⟩; (try first | exact ⟨rfl, _, World.drewN_drewN _ _ _⟩ | exact ⟨rfl, _, Eq.trans (World.drewN_drewN _ _ _) (congrArg (World.drewN _) (Nat.add_assoc _ _ _))⟩))); try go_wp2_with (first | (go_at_call 47; (with_reducible refine (ref_From.calls _ _ l0 t663 _ ?side1 ?side2 A71.out).mono ?_); (case side1 => repeat (first | exact (Kd.C_below HR0.out HB.out) | (with_reducible refine Kd.C_alloc ?_ _) | (with_reducible refine Kd.C_drewN ?_ _) | (with_reducible refine Kd.C_drew ?_))); (case side2 => exact HC0.out); rintro e w' ⟨rfl, ⟨nd, rfl⟩⟩; (try first | exact ⟨rfl, _, World.drewN_drewN _ _ _⟩ | exact ⟨rfl, _, Eq.trans (World.drewN_drewN _ _ _) (congrArg (World.drewN _) (Nat.add_assoc _ _ _))⟩)) | (go_at_call 47; (with_reducible refine (ref_From.calls _ _ l1 t664 _ ?side1 ?side2 A72.out).mono ?_); (case side1 => repeat (first | exact (Kd.C_below HR1.out (by repeat (first | (with_reducible first | exact HB.out | apply below_alloc | apply pw_below_drewN | apply below_drew1) | exact HB.out))) | (with_reducible refine Kd.C_alloc ?_ _) | (with_reducible refine Kd.C_drewN ?_ _) | (with_reducible refine Kd.C_drew ?_))); (case side2 => exact HC1.out); rintro e w' ⟨rfl, ⟨nd, rfl⟩⟩; (try first | exact ⟨rfl, _, World.drewN_drewN _ _ _⟩ | exact ⟨rfl, _, Eq.trans (World.drewN_drewN _ _ _) (congrArg (World.drewN _) (Nat.add_assoc _ _ _))⟩)) | (go_at_call 48; (with_reducible refine (ref_To.calls _ _ l0 t665 _ ?side1 ?side2 A74.out).mono ?_); (case side1 => repeat (first | exact (Kd.C_below HR0.out (by repeat (first | (with_reducible first | exact HB.out | apply below_alloc | apply pw_below_drewN | apply below_drew1) | exact HB.out))) | (with_reducible refine Kd.C_alloc ?_ _) | (with_reducible refine Kd.C_drewN ?_ _) | (with_reducible refine Kd.C_drew ?_))); (case side2 => exact HC0.out); rintro e w' ⟨rfl, ⟨nd, rfl⟩⟩; (try first | exact ⟨rfl, _, World.drewN_drewN _ _ _⟩ | exact ⟨rfl, _, Eq.trans (World.drewN_drewN _ _ _) (congrArg (World.drewN _) (Nat.add_assoc _ _ _))⟩)) | (go_at_call 48; (with_reducible refine (ref_To.calls _ _ l1 t666 _ ?side1 ?side2 A75.out).mono ?_); (case side1 => repeat (first | exact (Kd.C_below HR1.out (by repeat (first | (with_reducible first | exact HB.out | apply below_alloc | apply pw_below_drewN | apply below_drew1) | exact HB.out))) | (with_reducible refine Kd.C_alloc ?_ _) | (with_reducible refine Kd.C_drewN ?_ _) | (with_reducible refine Kd.C_drew ?_))); (case side2 => exact HC1.out); rintro e w' ⟨rfl, ⟨nd, rfl⟩⟩; (try first | exact ⟨rfl, _, World.drewN_drewN _ _ _⟩ | exact ⟨rfl, _, Eq.trans (World.drewN_drewN _ _ _) (congrArg (World.drewN _) (Nat.add_assoc _ _ _))⟩))))
              go_meet
              case rel => exact ⟨_, ((t665 != t666)), (by first | rfl | (simp; done) | (simp [*]; done)), H', ⟨by have := HJ6.out; have := HJ17.out; have := HJ25.out; have := HJ29.out; first | omega | exact Nat.le_refl _⟩, ⟨by repeat (first | (with_reducible first | exact HB.out | apply below_alloc | apply pw_below_drewN | apply below_drew1) | exact HB.out)⟩⟩
             ·
              rw [if_neg c73] at H
              have c73b0 : (t663 == t664) = false := beq_eq_false_iff_ne.mpr c73
              have c73b1 : (t663 != t664) = true := bne_iff_ne.mpr c73
              (first | rw [c73b0] | (simp only [i64_w, i32_w]; rw [c73b0]) | skip)
              have H' := Aside0.mk H
              clear H
              go_wp2_with (first | (go_at_call 47; (with_reducible refine (ref_From.calls _ _ l0 t663 _ ?side1 ?side2 A71.out).mono ?_); (case side1 => repeat (first | exact (Kd.C_below HR0.out HB.out) | (with_reducible refine Kd.C_alloc ?_ _) | (with_reducible refine Kd.C_drewN ?_ _) | (with_reducible refine Kd.C_drew ?_))); (case side2 => exact HC0.out); rintro e w' ⟨rfl, ⟨nd, rfl⟩⟩; (try first | exact ⟨rfl, _, World.drewN_drewN _ _ _⟩ | exact ⟨rfl, _, Eq.trans (World.drewN_drewN _ _ _) (congrArg (World.drewN _) (Nat.add_assoc _ _ _))⟩)) | (go_at_call 47; (with_reducible refine (ref_From.calls _ _ l1 t664 _ ?side1 ?side2 A72.out).mono ?_); (case side1 => repeat (first | exact (Kd.C_below HR1.out (by repeat (first | (with_reducible first | exact HB.out | apply below_alloc | apply pw_below_drewN | apply below_drew1) | exact HB.out))) | (with_reducible refine Kd.C_alloc ?_ _) | (with_reducible refine Kd.C_drewN ?_ _) | (with_reducible refine Kd.C_drew ?_))); (case side2 => exact HC1.out); rintro e w' ⟨rfl, ⟨nd, rfl⟩⟩; (try first | exact ⟨rfl, _, World.drewN_drewN _ _ _⟩ | exact ⟨rfl, _, Eq.trans (World.drewN_drewN _ _ _) (congrArg (World.drewN _) (Nat.add_assoc _ _ _))⟩)))
              repeat (go_quiet (first | (go_at_call 47; (with_reducible refine (ref_From.calls _ _ l0 t663 _ ?side1 ?side2 A71.out).mono ?_); (case side1 => repeat (first | exact (Kd.C_below HR0.out HB.out) | (with_reducible refine Kd.C_alloc ?_ _) | (with_reducible refine Kd.C_drewN ?_ _) | (with_reducible refine Kd.C_drew ?_))); (case side2 => exact HC0.out); rintro e w' ⟨rfl, ⟨nd, rfl⟩⟩; (try first | exact ⟨rfl, _, World.drewN_drewN _ _ _⟩ | exact ⟨rfl, _, Eq.trans (World.drewN_drewN _ _ _) (congrArg (World.drewN _) (Nat.add_assoc _ _ _))⟩)) | (go_at_call 47; (with_reducible refine (ref_From.calls _ _ l1 t664 _ ?side1 ?side2 A72.out).mono ?_); (case side1 => repeat (first | exact (Kd.C_below HR1.out (by repeat (first | (with_reducible first | exact HB.out | apply below_alloc | apply pw_below_drewN | apply below_drew1) | exact HB.out))) | (with_reducible refine Kd.C_alloc ?_ _) | (with_reducible refine Kd.C_drewN ?_ _) | (with_reducible refine Kd.C_drew ?_))); (case side2 => exact HC1.out); rintro e w' ⟨rfl, ⟨nd, rfl⟩⟩; (try first | exact ⟨rfl, _, World.drewN_drewN _ _ _⟩ | exact ⟨rfl, _, Eq.trans (World.drewN_drewN _ _ _) (congrArg (World.drewN _) (Nat.add_assoc _ _ _))⟩))); try go_wp2_with (first | (go_at_call 47; (with_reducible refine (ref_From.calls _ _ l0 t663 _ ?side1 ?side2 A71.out).mono ?_); (case side1 => repeat (first | exact (Kd.C_below HR0.out HB.out) | (with_reducible refine Kd.C_alloc ?_ _) | (with_reducible refine Kd.C_drewN ?_ _) | (with_reducible refine Kd.C_drew ?_))); (case side2 => exact HC0.out); rintro e w' ⟨rfl, ⟨nd, rfl⟩⟩; (try first | exact ⟨rfl, _, World.drewN_drewN _ _ _⟩ | exact ⟨rfl, _, Eq.trans (World.drewN_drewN _ _ _) (congrArg (World.drewN _) (Nat.add_assoc _ _ _))⟩)) | (go_at_call 47; (with_reducible refine (ref_From.calls _ _ l1 t664 _ ?side1 ?side2 A72.out).mono ?_); (case side1 => repeat (first | exact (Kd.C_below HR1.out (by repeat (first | (with_reducible first | exact HB.out | apply below_alloc | apply pw_below_drewN | apply below_drew1) | exact HB.out))) | (with_reducible refine Kd.C_alloc ?_ _) | (with_reducible refine Kd.C_drewN ?_ _) | (with_reducible refine Kd.C_drew ?_))); (case side2 => exact HC1.out); rintro e w' ⟨rfl, ⟨nd, rfl⟩⟩; (try first | exact ⟨rfl, _, World.drewN_drewN _ _ _⟩ | exact ⟨rfl, _, Eq.trans (World.drewN_drewN _ _ _) (congrArg (World.drewN _) (Nat.add_assoc _ _ _))⟩))))
              go_meet
              case rel => exact ⟨_, (true), (by first | rfl | (simp; done) | (simp [*]; done)), H', ⟨by have := HJ6.out; have := HJ17.out; have := HJ25.out; have := HJ29.out; first | omega | exact Nat.le_refl _⟩, ⟨by repeat (first | (with_reducible first | exact HB.out | apply below_alloc | apply pw_below_drewN | apply below_drew1) | exact HB.out)⟩⟩
            case rest => as_aux_lemma =>
             clear HC70
             try clear c1
             try clear c2
             try clear p2
             try clear c3
             try clear c4
             try clear c5
             try clear c6
             try clear c7
             try clear c10
             try clear c12
             try clear c14
             try clear c22
             try clear c22b0
             try clear c22b1
             try clear c23
             try clear c23b0
             try clear c23b1
             try clear c24
             try clear c24b0
             try clear c24b1
             try clear c25
             try clear c28
             try clear c31
             try clear c40
             try clear c42
             try clear c42b0
             try clear c42b1
             try clear c43
             try clear c43b0
             try clear c43b1
             try clear c44
             try clear c44b0
             try clear c45
             try clear c47
             try clear c47b0
             try clear c48
             try clear c51
             try clear c51b0
             try clear c52
             try clear c55
             try clear c58
             try clear c61
             try clear c65
             try clear c66
             try clear c66b0
             try clear c67
             try clear c68
             try clear c69
             try clear c73
             try clear c73b0
             try clear c73b1
             try clear hcz37_0
             try clear hcz37_1
             try clear hcz41_0
             try clear hcz41_1
             try clear hcz46_0
             try clear hcz46_1
             try clear hcz49_0
             try clear hcz49_1
             try clear hcz50_0
             try clear hcz50_1
             try clear hcz53_0
             try clear hcz53_1
             try clear hcz54_0
             try clear hcz54_1
             try clear hcz56_0
             try clear hcz56_1
             try clear hcz57_0
             try clear hcz57_1
             try clear hcz62_0
             try clear hcz62_1
             try clear hcz63_0
             try clear hcz63_1
             try clear hfz37_0
             try clear hfz37_1
             try clear hfz41_0
             try clear hfz41_1
             try clear hfz46_0
             try clear hfz46_1
             try clear hfz49_0
             try clear hfz49_1
             try clear hfz50_0
             try clear hfz50_1
             try clear hfz53_0
             try clear hfz53_1
             try clear hfz54_0
             try clear hfz54_1
             try clear hfz56_0
             try clear hfz56_1
             try clear hfz57_0
             try clear hfz57_1
             try clear hfz62_0
             try clear hfz62_1
             try clear hfz63_0
             try clear hfz63_1
             try clear p2
             obtain ⟨kq, x148_69, rfl, HA, HJ69, HB⟩ := hcut
             cases kq with
             | zero => exact absurd HA.out (by simp [law_CurveBelow.j6])
             | succ kj69 =>
              have H := HA.out
              clear HA
              simp only [law_CurveBelow.j6] at H
              by_cases c76 : x148_69 = true
              ·
               subst c76
               have H1 : (some true) = some r := by rw [if_pos rfl] at H; exact H
               clear H
               have H := H1
               clear H1
               obtain rfl := Option.some.inj H
               go_wp2
               repeat (go_quiet (fail); try go_wp2)
               go_ret
               exact ⟨by first | rfl | (simp [errW_none, errW_some] <;> rfl) | (simp [*, errW_none, errW_some] <;> rfl), by repeat (first | (with_reducible first | exact HB.out | apply below_alloc | apply pw_below_drewN | apply below_drew1) | exact HB.out)⟩
              ·
               replace c76 := Bool.eq_false_iff.mpr c76
               subst c76
               have H1 : ((curve_Normal.f l0).bind fun bt667 => ((curve_Normal.f l1).bind fun bt671 => (if bt667.2 = 0 then (if bt671.2 = 0 then (if t648 = true then ((ref_Same.f kj69 bt667.1 bt671.1).bind fun t675 => (law_CurveBelow.j7 kj69 l0 l1 l2 t648 (t650 != t675))) else ((ref_Same.f kj69 bt667.1 bt671.1).bind fun t676 => (law_CurveBelow.j7 kj69 l0 l1 l2 t648 (false != t676)))) else (law_CurveBelow.j7 kj69 l0 l1 l2 t648 true)) else (law_CurveBelow.j7 kj69 l0 l1 l2 t648 true)))) = some r := by rw [if_neg (show ¬ (false = true) by decide)] at H; exact H
               clear H
               have H := H1
               clear H1
               replace H := Option.bind_eq_some_iff.mp H
               obtain ⟨⟨t667, t668⟩, A770, H⟩ := H
               replace H : ((curve_Normal.f l1).bind fun bt671 => (if t668 = 0 then (if bt671.2 = 0 then (if t648 = true then ((ref_Same.f kj69 t667 bt671.1).bind fun t675 => (law_CurveBelow.j7 kj69 l0 l1 l2 t648 (t650 != t675))) else ((ref_Same.f kj69 t667 bt671.1).bind fun t676 => (law_CurveBelow.j7 kj69 l0 l1 l2 t648 (false != t676)))) else (law_CurveBelow.j7 kj69 l0 l1 l2 t648 true)) else (law_CurveBelow.j7 kj69 l0 l1 l2 t648 true))) = some r := H
               have A77 := Aside0.mk A770
               clear A770
               replace H := Option.bind_eq_some_iff.mp H
               obtain ⟨⟨t671, t672⟩, A780, H⟩ := H
               replace H : (if t668 = 0 then (if t672 = 0 then (if t648 = true then ((ref_Same.f kj69 t667 t671).bind fun t675 => (law_CurveBelow.j7 kj69 l0 l1 l2 t648 (t650 != t675))) else ((ref_Same.f kj69 t667 t671).bind fun t676 => (law_CurveBelow.j7 kj69 l0 l1 l2 t648 (false != t676)))) else (law_CurveBelow.j7 kj69 l0 l1 l2 t648 true)) else (law_CurveBelow.j7 kj69 l0 l1 l2 t648 true)) = some r := H
               have A78 := Aside0.mk A780
               clear A780
               have HC79 := Aside0.mk H
               clear H
               go_upto_region 22 with (first | (go_at_call 44; (with_reducible refine (curve_Normal.calls _ _ l0 t667 t668 _ ?side1 ?side2 A77.out).mono ?_); (case side1 => repeat (first | exact (Kd.C_below HR0.out HB.out) | (with_reducible refine Kd.C_alloc ?_ _) | (with_reducible refine Kd.C_drewN ?_ _) | (with_reducible refine Kd.C_drew ?_))); (case side2 => exact HC0.out); rintro e w80 ⟨v669, rfl, ho0, hb⟩; have n0_ := Aside0.mk (Kd.R_lower ho0 (below_size (by repeat (first | (with_reducible first | exact HB.out | apply below_alloc | apply pw_below_drewN | apply below_drew1) | exact HB.out)))); have n1_ := Aside0.mk (below_step (by repeat (first | (with_reducible first | exact HB.out | apply below_alloc | apply pw_below_drewN | apply below_drew1) | exact HB.out)) hb); clear HB; have HO670 := n0_; have HB := n1_; clear n0_ n1_; (try clear hb); (try clear hb2); (try clear hk); (try clear hi); (try clear ho0)) | (go_at_call 44; (with_reducible refine (curve_Normal.calls _ _ l1 t671 t672 _ ?side1 ?side2 A78.out).mono ?_); (case side1 => repeat (first | exact (Kd.C_below HR1.out HB.out) | (with_reducible refine Kd.C_alloc ?_ _) | (with_reducible refine Kd.C_drewN ?_ _) | (with_reducible refine Kd.C_drew ?_))); (case side2 => exact HC1.out); rintro e w81 ⟨v673, rfl, ho0, hb⟩; have n0_ := Aside0.mk (Kd.R_elder' (by (with_reducible repeat (first | apply Kd.R_alloc | apply Kd.R_drewN | apply Kd.R_drew)); exact HO670.out) (Kd.R_base ho0) hb); have n1_ := Aside0.mk (Kd.R_lower (Kd.R_new' ho0 (Kd.R_lt (by (with_reducible repeat (first | apply Kd.R_alloc | apply Kd.R_drewN | apply Kd.R_drew)); exact HO670.out))) (below_size (by repeat (first | (with_reducible first | exact HB.out | apply below_alloc | apply pw_below_drewN | apply below_drew1) | exact HB.out)))); have n2_ := Aside0.mk (below_step (by repeat (first | (with_reducible first | exact HB.out | apply below_alloc | apply pw_below_drewN | apply below_drew1) | exact HB.out)) hb); clear HO670; clear HB; have HO670 := n0_; have HO674 := n1_; have HB := n2_; clear n0_ n1_ n2_; (try clear hb); (try clear hb2); (try clear hk); (try clear hi); (try clear ho0)))
               repeat (go_quiet (first | (go_at_call 44; (with_reducible refine (curve_Normal.calls _ _ l0 t667 t668 _ ?side1 ?side2 A77.out).mono ?_); (case side1 => repeat (first | exact (Kd.C_below HR0.out HB.out) | (with_reducible refine Kd.C_alloc ?_ _) | (with_reducible refine Kd.C_drewN ?_ _) | (with_reducible refine Kd.C_drew ?_))); (case side2 => exact HC0.out); rintro e w80 ⟨v669, rfl, ho0, hb⟩; have n0_ := Aside0.mk (Kd.R_lower ho0 (below_size (by repeat (first | (with_reducible first | exact HB.out | apply below_alloc | apply pw_below_drewN | apply below_drew1) | exact HB.out)))); have n1_ := Aside0.mk (below_step (by repeat (first | (with_reducible first | exact HB.out | apply below_alloc | apply pw_below_drewN | apply below_drew1) | exact HB.out)) hb); clear HB; have HO670 := n0_; have HB := n1_; clear n0_ n1_; (try clear hb); (try clear hb2); (try clear hk); (try clear hi); (try clear ho0)) | (go_at_call 44; (with_reducible refine (curve_Normal.calls _ _ l1 t671 t672 _ ?side1 ?side2 A78.out).mono ?_); (case side1 => repeat (first | exact (Kd.C_below HR1.out HB.out) | (with_reducible refine Kd.C_alloc ?_ _) | (with_reducible refine Kd.C_drewN ?_ _) | (with_reducible refine Kd.C_drew ?_))); (case side2 => exact HC1.out); rintro e w81 ⟨v673, rfl, ho0, hb⟩; have n0_ := Aside0.mk (Kd.R_elder' (by (with_reducible repeat (first | apply Kd.R_alloc | apply Kd.R_drewN | apply Kd.R_drew)); exact HO670.out) (Kd.R_base ho0) hb); have n1_ := Aside0.mk (Kd.R_lower (Kd.R_new' ho0 (Kd.R_lt (by (with_reducible repeat (first | apply Kd.R_alloc | apply Kd.R_drewN | apply Kd.R_drew)); exact HO670.out))) (below_size (by repeat (first | (with_reducible first | exact HB.out | apply below_alloc | apply pw_below_drewN | apply below_drew1) | exact HB.out)))); have n2_ := Aside0.mk (below_step (by repeat (first | (with_reducible first | exact HB.out | apply below_alloc | apply pw_below_drewN | apply below_drew1) | exact HB.out)) hb); clear HO670; clear HB; have HO670 := n0_; have HO674 := n1_; have HB := n2_; clear n0_ n1_ n2_; (try clear hb); (try clear hb2); (try clear hk); (try clear hi); (try clear ho0))); go_upto_region 22 with (first | (go_at_call 44; (with_reducible refine (curve_Normal.calls _ _ l0 t667 t668 _ ?side1 ?side2 A77.out).mono ?_); (case side1 => repeat (first | exact (Kd.C_below HR0.out HB.out) | (with_reducible refine Kd.C_alloc ?_ _) | (with_reducible refine Kd.C_drewN ?_ _) | (with_reducible refine Kd.C_drew ?_))); (case side2 => exact HC0.out); rintro e w80 ⟨v669, rfl, ho0, hb⟩; have n0_ := Aside0.mk (Kd.R_lower ho0 (below_size (by repeat (first | (with_reducible first | exact HB.out | apply below_alloc | apply pw_below_drewN | apply below_drew1) | exact HB.out)))); have n1_ := Aside0.mk (below_step (by repeat (first | (with_reducible first | exact HB.out | apply below_alloc | apply pw_below_drewN | apply below_drew1) | exact HB.out)) hb); clear HB; have HO670 := n0_; have HB := n1_; clear n0_ n1_; (try clear hb); (try clear hb2); (try clear hk); (try clear hi); (try clear ho0)) | (go_at_call 44; (with_reducible refine (curve_Normal.calls _ _ l1 t671 t672 _ ?side1 ?side2 A78.out).mono ?_); (case side1 => repeat (first | exact (Kd.C_below HR1.out HB.out) | (with_reducible refine Kd.C_alloc ?_ _) | (with_reducible refine Kd.C_drewN ?_ _) | (with_reducible refine Kd.C_drew ?_))); (case side2 => exact HC1.out); rintro e w81 ⟨v673, rfl, ho0, hb⟩; have n0_ := Aside0.mk (Kd.R_elder' (by (with_reducible repeat (first | apply Kd.R_alloc | apply Kd.R_drewN | apply Kd.R_drew)); exact HO670.out) (Kd.R_base ho0) hb); have n1_ := Aside0.mk (Kd.R_lower (Kd.R_new' ho0 (Kd.R_lt (by (with_reducible repeat (first | apply Kd.R_alloc | apply Kd.R_drewN | apply Kd.R_drew)); exact HO670.out))) (below_size (by repeat (first | (with_reducible first | exact HB.out | apply below_alloc | apply pw_below_drewN | apply below_drew1) | exact HB.out)))); have n2_ := Aside0.mk (below_step (by repeat (first | (with_reducible first | exact HB.out | apply below_alloc | apply pw_below_drewN | apply below_drew1) | exact HB.out)) hb); clear HO670; clear HB; have HO670 := n0_; have HO674 := n1_; have HB := n2_; clear n0_ n1_ n2_; (try clear hb); (try clear hb2); (try clear hk); (try clear hi); (try clear ho0))))
               (try simp only [Act.put, List.setIfInBounds_toArray, List.set_cons_zero, List.set_cons_succ])
               go_cut [174] (fun v174 wc => ∃ (kq : Nat) (x174_78 : Bool), v174 = .bool x174_78 ∧ Aside0 (law_CurveBelow.j7 kq l0 l1 l2 t648 x174_78 = some r) ∧ Aside0 (kq ≤ kj69) ∧ Aside0 (Below w.heap.size w wc))
               case first => as_aux_lemma =>
                have H := HC79.out
                clear HC79
                by_cases c82 : t668 = 0
                ·
                 rw [if_pos c82] at H
                 have c82b0 : (t668 == 0) = true := beq_iff_eq.mpr c82
                 have c82b1 : (t668 != 0) = false := bne_eq_false_iff_eq.mpr c82
                 clear c82
                 (first | rw [c82b0] | (simp only [i64_w, i32_w]; rw [c82b0]) | skip)
                 by_cases c83 : t672 = 0
                 ·
                  rw [if_pos c83] at H
                  have c83b0 : (t672 == 0) = true := beq_iff_eq.mpr c83
                  have c83b1 : (t672 != 0) = false := bne_eq_false_iff_eq.mpr c83
                  clear c83
                  by_cases c84 : t648 = true
                  ·
                   subst c84
                   have H1 : ((ref_Same.f kj69 t667 t671).bind fun t675 => (law_CurveBelow.j7 kj69 l0 l1 l2 true (t650 != t675))) = some r := by rw [if_pos rfl] at H; exact H
                   clear H
                   have H := H1
                   clear H1
                   replace H := Option.bind_eq_some_iff.mp H
                   obtain ⟨t675, A850, H⟩ := H
                   replace H : (law_CurveBelow.j7 kj69 l0 l1 l2 true (t650 != t675)) = some r := H
                   have A85 := Aside0.mk A850
                   clear A850
                   have H' := Aside0.mk H
                   clear H
                   obtain ⟨Ao86, co86, eo86⟩ := Kd.R_slice HO670.out
                   subst eo86
                   obtain ⟨Ao87, co87, eo87⟩ := Kd.R_slice HO674.out
                   subst eo87
                   go_wp2_with (first | (go_at_call 45; (with_reducible refine (ref_Same.calls kj69 _ _ t667 _ _ t671 t675 _ ?side1 ?side2 ?side3 ?side4 A85.out).mono ?_); (case side1 => repeat (first | exact (Kd.R_reads' HO670.out).2.2 | (with_reducible refine Kd.C_alloc ?_ _) | (with_reducible refine Kd.C_drewN ?_ _) | (with_reducible refine Kd.C_drew ?_))); (case side2 => exact (Kd.R_reads' HO670.out).2.1); (case side3 => repeat (first | exact (Kd.R_reads' HO674.out).2.2 | (with_reducible refine Kd.C_alloc ?_ _) | (with_reducible refine Kd.C_drewN ?_ _) | (with_reducible refine Kd.C_drew ?_))); (case side4 => exact (Kd.R_reads' HO674.out).2.1); rintro e w' ⟨rfl, ⟨nd, rfl⟩⟩; (try first | exact ⟨rfl, _, World.drewN_drewN _ _ _⟩ | exact ⟨rfl, _, Eq.trans (World.drewN_drewN _ _ _) (congrArg (World.drewN _) (Nat.add_assoc _ _ _))⟩)))
                   repeat (go_quiet (first | (go_at_call 45; (with_reducible refine (ref_Same.calls kj69 _ _ t667 _ _ t671 t675 _ ?side1 ?side2 ?side3 ?side4 A85.out).mono ?_); (case side1 => repeat (first | exact (Kd.R_reads' HO670.out).2.2 | (with_reducible refine Kd.C_alloc ?_ _) | (with_reducible refine Kd.C_drewN ?_ _) | (with_reducible refine Kd.C_drew ?_))); (case side2 => exact (Kd.R_reads' HO670.out).2.1); (case side3 => repeat (first | exact (Kd.R_reads' HO674.out).2.2 | (with_reducible refine Kd.C_alloc ?_ _) | (with_reducible refine Kd.C_drewN ?_ _) | (with_reducible refine Kd.C_drew ?_))); (case side4 => exact (Kd.R_reads' HO674.out).2.1); rintro e w' ⟨rfl, ⟨nd, rfl⟩⟩; (try first | exact ⟨rfl, _, World.drewN_drewN _ _ _⟩ | exact ⟨rfl, _, Eq.trans (World.drewN_drewN _ _ _) (congrArg (World.drewN _) (Nat.add_assoc _ _ _))⟩))); try go_wp2_with (first | (go_at_call 45; (with_reducible refine (ref_Same.calls kj69 _ _ t667 _ _ t671 t675 _ ?side1 ?side2 ?side3 ?side4 A85.out).mono ?_); (case side1 => repeat (first | exact (Kd.R_reads' HO670.out).2.2 | (with_reducible refine Kd.C_alloc ?_ _) | (with_reducible refine Kd.C_drewN ?_ _) | (with_reducible refine Kd.C_drew ?_))); (case side2 => exact (Kd.R_reads' HO670.out).2.1); (case side3 => repeat (first | exact (Kd.R_reads' HO674.out).2.2 | (with_reducible refine Kd.C_alloc ?_ _) | (with_reducible refine Kd.C_drewN ?_ _) | (with_reducible refine Kd.C_drew ?_))); (case side4 => exact (Kd.R_reads' HO674.out).2.1); rintro e w' ⟨rfl, ⟨nd, rfl⟩⟩; (try first | exact ⟨rfl, _, World.drewN_drewN _ _ _⟩ | exact ⟨rfl, _, Eq.trans (World.drewN_drewN _ _ _) (congrArg (World.drewN _) (Nat.add_assoc _ _ _))⟩))))
                   go_meet
                   case rel => exact ⟨_, ((t650 != t675)), (by first | rfl | (simp; done) | (simp [*]; done)), H', ⟨by have := HJ6.out; have := HJ17.out; have := HJ25.out; have := HJ29.out; have := HJ69.out; first | omega | exact Nat.le_refl _⟩, ⟨by repeat (first | (with_reducible first | exact HB.out | apply below_alloc | apply pw_below_drewN | apply below_drew1) | exact HB.out)⟩⟩
                  ·
                   replace c84 := Bool.eq_false_iff.mpr c84
                   subst c84
                   have H1 : ((ref_Same.f kj69 t667 t671).bind fun t676 => (law_CurveBelow.j7 kj69 l0 l1 l2 false (false != t676))) = some r := by rw [if_neg (show ¬ (false = true) by decide)] at H; exact H
                   clear H
                   have H := H1
                   clear H1
                   replace H := Option.bind_eq_some_iff.mp H
                   obtain ⟨t676, A880, H⟩ := H
                   replace H : (law_CurveBelow.j7 kj69 l0 l1 l2 false (false != t676)) = some r := H
                   have A88 := Aside0.mk A880
                   clear A880
                   have H' := Aside0.mk H
                   clear H
                   obtain ⟨Ao89, co89, eo89⟩ := Kd.R_slice HO670.out
                   subst eo89
                   obtain ⟨Ao90, co90, eo90⟩ := Kd.R_slice HO674.out
                   subst eo90
                   go_wp2_with (first | (go_at_call 45; (with_reducible refine (ref_Same.calls kj69 _ _ t667 _ _ t671 t676 _ ?side1 ?side2 ?side3 ?side4 A88.out).mono ?_); (case side1 => repeat (first | exact (Kd.R_reads' HO670.out).2.2 | (with_reducible refine Kd.C_alloc ?_ _) | (with_reducible refine Kd.C_drewN ?_ _) | (with_reducible refine Kd.C_drew ?_))); (case side2 => exact (Kd.R_reads' HO670.out).2.1); (case side3 => repeat (first | exact (Kd.R_reads' HO674.out).2.2 | (with_reducible refine Kd.C_alloc ?_ _) | (with_reducible refine Kd.C_drewN ?_ _) | (with_reducible refine Kd.C_drew ?_))); (case side4 => exact (Kd.R_reads' HO674.out).2.1); rintro e w' ⟨rfl, ⟨nd, rfl⟩⟩; (try first | exact ⟨rfl, _, World.drewN_drewN _ _ _⟩ | exact ⟨rfl, _, Eq.trans (World.drewN_drewN _ _ _) (congrArg (World.drewN _) (Nat.add_assoc _ _ _))⟩)))
                   repeat (go_quiet (first | (go_at_call 45; (with_reducible refine (ref_Same.calls kj69 _ _ t667 _ _ t671 t676 _ ?side1 ?side2 ?side3 ?side4 A88.out).mono ?_); (case side1 => repeat (first | exact (Kd.R_reads' HO670.out).2.2 | (with_reducible refine Kd.C_alloc ?_ _) | (with_reducible refine Kd.C_drewN ?_ _) | (with_reducible refine Kd.C_drew ?_))); (case side2 => exact (Kd.R_reads' HO670.out).2.1); (case side3 => repeat (first | exact (Kd.R_reads' HO674.out).2.2 | (with_reducible refine Kd.C_alloc ?_ _) | (with_reducible refine Kd.C_drewN ?_ _) | (with_reducible refine Kd.C_drew ?_))); (case side4 => exact (Kd.R_reads' HO674.out).2.1); rintro e w' ⟨rfl, ⟨nd, rfl⟩⟩; (try first | exact ⟨rfl, _, World.drewN_drewN _ _ _⟩ | exact ⟨rfl, _, Eq.trans (World.drewN_drewN _ _ _) (congrArg (World.drewN _) (Nat.add_assoc _ _ _))⟩))); try go_wp2_with (first | (go_at_call 45; (with_reducible refine (ref_Same.calls kj69 _ _ t667 _ _ t671 t676 _ ?side1 ?side2 ?side3 ?side4 A88.out).mono ?_); (case side1 => repeat (first | exact (Kd.R_reads' HO670.out).2.2 | (with_reducible refine Kd.C_alloc ?_ _) | (with_reducible refine Kd.C_drewN ?_ _) | (with_reducible refine Kd.C_drew ?_))); (case side2 => exact (Kd.R_reads' HO670.out).2.1); (case side3 => repeat (first | exact (Kd.R_reads' HO674.out).2.2 | (with_reducible refine Kd.C_alloc ?_ _) | (with_reducible refine Kd.C_drewN ?_ _) | (with_reducible refine Kd.C_drew ?_))); (case side4 => exact (Kd.R_reads' HO674.out).2.1); rintro e w' ⟨rfl, ⟨nd, rfl⟩⟩; (try first | exact ⟨rfl, _, World.drewN_drewN _ _ _⟩ | exact ⟨rfl, _, Eq.trans (World.drewN_drewN _ _ _) (congrArg (World.drewN _) (Nat.add_assoc _ _ _))⟩))))
                   go_meet
                   case rel => exact ⟨_, ((false != t676)), (by first | rfl | (simp; done) | (simp [*]; done)), H', ⟨by have := HJ6.out; have := HJ17.out; have := HJ25.out; have := HJ29.out; have := HJ69.out; first | omega | exact Nat.le_refl _⟩, ⟨by repeat (first | (with_reducible first | exact HB.out | apply below_alloc | apply pw_below_drewN | apply below_drew1) | exact HB.out)⟩⟩
                 ·
                  rw [if_neg c83] at H
                  have c83b0 : (t672 == 0) = false := beq_eq_false_iff_ne.mpr c83
                  have c83b1 : (t672 != 0) = true := bne_iff_ne.mpr c83
                  have H' := Aside0.mk H
                  clear H
                  go_wp2
                  repeat (go_quiet (fail); try go_wp2)
                  go_meet
                  case rel => exact ⟨_, (true), (by first | rfl | (simp; done) | (simp [*]; done)), H', ⟨by have := HJ6.out; have := HJ17.out; have := HJ25.out; have := HJ29.out; have := HJ69.out; first | omega | exact Nat.le_refl _⟩, ⟨by repeat (first | (with_reducible first | exact HB.out | apply below_alloc | apply pw_below_drewN | apply below_drew1) | exact HB.out)⟩⟩
                ·
                 rw [if_neg c82] at H
                 have c82b0 : (t668 == 0) = false := beq_eq_false_iff_ne.mpr c82
                 have c82b1 : (t668 != 0) = true := bne_iff_ne.mpr c82
                 (first | rw [c82b0] | (simp only [i64_w, i32_w]; rw [c82b0]) | skip)
                 have H' := Aside0.mk H
                 clear H
                 go_wp2
                 repeat (go_quiet (fail); try go_wp2)
                 go_meet
                 case rel => exact ⟨_, (true), (by first | rfl | (simp; done) | (simp [*]; done)), H', ⟨by have := HJ6.out; have := HJ17.out; have := HJ25.out; have := HJ29.out; have := HJ69.out; first | omega | exact Nat.le_refl _⟩, ⟨by repeat (first | (with_reducible first | exact HB.out | apply below_alloc | apply pw_below_drewN | apply below_drew1) | exact HB.out)⟩⟩
               case rest => as_aux_lemma =>
                clear HC79
                try clear c1
                try clear c2
                try clear p2
                try clear c3
                try clear c4
                try clear c5
                try clear c6
                try clear c7
                try clear c8
                try clear c10
                try clear c12
                try clear c14
                try clear c22
                try clear c22b0
                try clear c22b1
                try clear c23
                try clear c23b0
                try clear c23b1
                try clear c24
                try clear c24b0
                try clear c24b1
                try clear c25
                try clear c28
                try clear c31
                try clear c40
                try clear c42
                try clear c42b0
                try clear c42b1
                try clear c43
                try clear c43b0
                try clear c43b1
                try clear c44
                try clear c44b0
                try clear c45
                try clear c47
                try clear c47b0
                try clear c48
                try clear c51
                try clear c51b0
                try clear c52
                try clear c55
                try clear c58
                try clear c61
                try clear c65
                try clear c66
                try clear c66b0
                try clear c67
                try clear c68
                try clear c69
                try clear c73
                try clear c73b0
                try clear c73b1
                try clear c76
                try clear c82
                try clear c82b0
                try clear c82b1
                try clear c83
                try clear c83b0
                try clear c83b1
                try clear c84
                try clear hcz37_0
                try clear hcz37_1
                try clear hcz41_0
                try clear hcz41_1
                try clear hcz46_0
                try clear hcz46_1
                try clear hcz49_0
                try clear hcz49_1
                try clear hcz50_0
                try clear hcz50_1
                try clear hcz53_0
                try clear hcz53_1
                try clear hcz54_0
                try clear hcz54_1
                try clear hcz56_0
                try clear hcz56_1
                try clear hcz57_0
                try clear hcz57_1
                try clear hcz62_0
                try clear hcz62_1
                try clear hcz63_0
                try clear hcz63_1
                try clear hfz37_0
                try clear hfz37_1
                try clear hfz41_0
                try clear hfz41_1
                try clear hfz46_0
                try clear hfz46_1
                try clear hfz49_0
                try clear hfz49_1
                try clear hfz50_0
                try clear hfz50_1
                try clear hfz53_0
                try clear hfz53_1
                try clear hfz54_0
                try clear hfz54_1
                try clear hfz56_0
                try clear hfz56_1
                try clear hfz57_0
                try clear hfz57_1
                try clear hfz62_0
                try clear hfz62_1
                try clear hfz63_0
                try clear hfz63_1
                try clear p2
                obtain ⟨kq, x174_78, rfl, HA, HJ78, HB⟩ := hcut
                cases kq with
                | zero => exact absurd HA.out (by simp [law_CurveBelow.j7])
                | succ kj78 =>
                 have H := HA.out
                 clear HA
                 simp only [law_CurveBelow.j7] at H
                 by_cases c91 : x174_78 = true
                 ·
                  subst c91
                  have H1 : (some false) = some r := by rw [if_pos rfl] at H; exact H
                  clear H
                  have H := H1
                  clear H1
                  obtain rfl := Option.some.inj H
                  go_wp2
                  repeat (go_quiet (fail); try go_wp2)
                  go_ret
                  exact ⟨by first | rfl | (simp [errW_none, errW_some] <;> rfl) | (simp [*, errW_none, errW_some] <;> rfl), by repeat (first | (with_reducible first | exact HB.out | apply below_alloc | apply pw_below_drewN | apply below_drew1) | exact HB.out)⟩
                 ·
                  replace c91 := Bool.eq_false_iff.mpr c91
                  subst c91
                  have H1 : ((ref_From.f l1).bind fun t677 => ((ref_From.f l2).bind fun t678 => (if t677 = t678 then ((ref_To.f l1).bind fun t679 => ((ref_To.f l2).bind fun t680 => (law_CurveBelow.j8 kj78 l0 l1 l2 t648 (t679 == t680)))) else (law_CurveBelow.j8 kj78 l0 l1 l2 t648 false)))) = some r := by rw [if_neg (show ¬ (false = true) by decide)] at H; exact H
                  clear H
                  have H := H1
                  clear H1
                  have HC92 := Aside0.mk H
                  clear H
                  go_upto_region 24 with (fail)
                  repeat (go_quiet (fail); go_upto_region 24 with (fail))
                  go_cut [186] (fun v186 wc => ∃ (kq : Nat) (x186_91 : Bool), v186 = .bool x186_91 ∧ Aside0 (law_CurveBelow.j8 kq l0 l1 l2 t648 x186_91 = some r) ∧ Aside0 (kq ≤ kj78) ∧ Aside0 (Below w.heap.size w wc))
                  case first => as_aux_lemma =>
                   have H := HC92.out
                   clear HC92
                   replace H := Option.bind_eq_some_iff.mp H
                   obtain ⟨t677, A930, H⟩ := H
                   replace H : ((ref_From.f l2).bind fun t678 => (if t677 = t678 then ((ref_To.f l1).bind fun t679 => ((ref_To.f l2).bind fun t680 => (law_CurveBelow.j8 kj78 l0 l1 l2 t648 (t679 == t680)))) else (law_CurveBelow.j8 kj78 l0 l1 l2 t648 false))) = some r := H
                   have A93 := Aside0.mk A930
                   clear A930
                   replace H := Option.bind_eq_some_iff.mp H
                   obtain ⟨t678, A940, H⟩ := H
                   replace H : (if t677 = t678 then ((ref_To.f l1).bind fun t679 => ((ref_To.f l2).bind fun t680 => (law_CurveBelow.j8 kj78 l0 l1 l2 t648 (t679 == t680)))) else (law_CurveBelow.j8 kj78 l0 l1 l2 t648 false)) = some r := H
                   have A94 := Aside0.mk A940
                   clear A940
                   by_cases c95 : t677 = t678
                   ·
                    rw [if_pos c95] at H
                    have c95b0 : (t677 == t678) = true := beq_iff_eq.mpr c95
                    have c95b1 : (t677 != t678) = false := bne_eq_false_iff_eq.mpr c95
                    clear c95
                    (first | rw [c95b0] | (simp only [i64_w, i32_w]; rw [c95b0]) | skip)
                    replace H := Option.bind_eq_some_iff.mp H
                    obtain ⟨t679, A960, H⟩ := H
                    replace H : ((ref_To.f l2).bind fun t680 => (law_CurveBelow.j8 kj78 l0 l1 l2 t648 (t679 == t680))) = some r := H
                    have A96 := Aside0.mk A960
                    clear A960
                    replace H := Option.bind_eq_some_iff.mp H
                    obtain ⟨t680, A970, H⟩ := H
                    replace H : (law_CurveBelow.j8 kj78 l0 l1 l2 t648 (t679 == t680)) = some r := H
                    have A97 := Aside0.mk A970
                    clear A970
                    have H' := Aside0.mk H
                    clear H
                    go_wp2_with (first | (go_at_call 47; (with_reducible refine (ref_From.calls _ _ l1 t677 _ ?side1 ?side2 A93.out).mono ?_); (case side1 => repeat (first | exact (Kd.C_below HR1.out HB.out) | (with_reducible refine Kd.C_alloc ?_ _) | (with_reducible refine Kd.C_drewN ?_ _) | (with_reducible refine Kd.C_drew ?_))); (case side2 => exact HC1.out); rintro e w' ⟨rfl, ⟨nd, rfl⟩⟩; (try first | exact ⟨rfl, _, World.drewN_drewN _ _ _⟩ | exact ⟨rfl, _, Eq.trans (World.drewN_drewN _ _ _) (congrArg (World.drewN _) (Nat.add_assoc _ _ _))⟩)) | (go_at_call 47; (with_reducible refine (ref_From.calls _ _ l2 t678 _ ?side1 ?side2 A94.out).mono ?_); (case side1 => repeat (first | exact (Kd.C_below HR2.out (by repeat (first | (with_reducible first | exact HB.out | apply below_alloc | apply pw_below_drewN | apply below_drew1) | exact HB.out))) | (with_reducible refine Kd.C_alloc ?_ _) | (with_reducible refine Kd.C_drewN ?_ _) | (with_reducible refine Kd.C_drew ?_))); (case side2 => exact HC2.out); rintro e w' ⟨rfl, ⟨nd, rfl⟩⟩; (try first | exact ⟨rfl, _, World.drewN_drewN _ _ _⟩ | exact ⟨rfl, _, Eq.trans (World.drewN_drewN _ _ _) (congrArg (World.drewN _) (Nat.add_assoc _ _ _))⟩)) | (go_at_call 48; (with_reducible refine (ref_To.calls _ _ l1 t679 _ ?side1 ?side2 A96.out).mono ?_); (case side1 => repeat (first | exact (Kd.C_below HR1.out (by repeat (first | (with_reducible first | exact HB.out | apply below_alloc | apply pw_below_drewN | apply below_drew1) | exact HB.out))) | (with_reducible refine Kd.C_alloc ?_ _) | (with_reducible refine Kd.C_drewN ?_ _) | (with_reducible refine Kd.C_drew ?_))); (case side2 => exact HC1.out); rintro e w' ⟨rfl, ⟨nd, rfl⟩⟩; (try first | exact ⟨rfl, _, World.drewN_drewN _ _ _⟩ | exact ⟨rfl, _, Eq.trans (World.drewN_drewN _ _ _) (congrArg (World.drewN _) (Nat.add_assoc _ _ _))⟩)) | (go_at_call 48; (with_reducible refine (ref_To.calls _ _ l2 t680 _ ?side1 ?side2 A97.out).mono ?_); (case side1 => repeat (first | exact (Kd.C_below HR2.out (by repeat (first | (with_reducible first | exact HB.out | apply below_alloc | apply pw_below_drewN | apply below_drew1) | exact HB.out))) | (with_reducible refine Kd.C_alloc ?_ _) | (with_reducible refine Kd.C_drewN ?_ _) | (with_reducible refine Kd.C_drew ?_))); (case side2 => exact HC2.out); rintro e w' ⟨rfl, ⟨nd, rfl⟩⟩; (try first | exact ⟨rfl, _, World.drewN_drewN _ _ _⟩ | exact ⟨rfl, _, Eq.trans (World.drewN_drewN _ _ _) (congrArg (World.drewN _) (Nat.add_assoc _ _ _))⟩)))
                    repeat (go_quiet (first | (go_at_call 47; (with_reducible refine (ref_From.calls _ _ l1 t677 _ ?side1 ?side2 A93.out).mono ?_); (case side1 => repeat (first | exact (Kd.C_below HR1.out HB.out) | (with_reducible refine Kd.C_alloc ?_ _) | (with_reducible refine Kd.C_drewN ?_ _) | (with_reducible refine Kd.C_drew ?_))); (case side2 => exact HC1.out); rintro e w' ⟨rfl, ⟨nd, rfl⟩⟩; (try first | exact ⟨rfl, _, World.drewN_drewN _ _ _⟩ | exact ⟨rfl, _, Eq.trans (World.drewN_drewN _ _ _) (congrArg (World.drewN _) (Nat.add_assoc _ _ _))⟩)) | (go_at_call 47; (with_reducible refine (ref_From.calls _ _ l2 t678 _ ?side1 ?side2 A94.out).mono ?_); (case side1 => repeat (first | exact (Kd.C_below HR2.out (by repeat (first | (with_reducible first | exact HB.out | apply below_alloc | apply pw_below_drewN | apply below_drew1) | exact HB.out))) | (with_reducible refine Kd.C_alloc ?_ _) | (with_reducible refine Kd.C_drewN ?_ _) | (with_reducible refine Kd.C_drew ?_))); (case side2 => exact HC2.out); rintro e w' ⟨rfl, ⟨nd, rfl⟩⟩; (try first | exact ⟨rfl, _, World.drewN_drewN _ _ _⟩ | exact ⟨rfl, _, Eq.trans (World.drewN_drewN _ _ _) (congrArg (World.drewN _) (Nat.add_assoc _ _ _))⟩)) | (go_at_call 48; (with_reducible refine (ref_To.calls _ _ l1 t679 _ ?side1 ?side2 A96.out).mono ?_); (case side1 => repeat (first | exact (Kd.C_below HR1.out (by repeat (first | (with_reducible first | exact HB.out | apply below_alloc | apply pw_below_drewN | apply below_drew1) | exact HB.out))) | (with_reducible refine Kd.C_alloc ?_ _) | (with_reducible refine Kd.C_drewN ?_ _) | (with_reducible refine Kd.C_drew ?_))); (case side2 => exact HC1.out); rintro e w' ⟨rfl, ⟨nd, rfl⟩⟩; (try first | exact ⟨rfl, _, World.drewN_drewN _ _ _⟩ | exact ⟨rfl, _, Eq.trans (World.drewN_drewN _ _ _) (congrArg (World.drewN _) (Nat.add_assoc _ _ _))⟩)) | (go_at_call 48; (with_reducible refine (ref_To.calls _ _ l2 t680 _ ?side1 ?side2 A97.out).mono ?_); (case side1 => repeat (first | exact (Kd.C_below HR2.out (by repeat (first | (with_reducible first | exact HB.out | apply below_alloc | apply pw_below_drewN | apply below_drew1) | exact HB.out))) | (with_reducible refine Kd.C_alloc ?_ _) | (with_reducible refine Kd.C_drewN ?_ _) | (with_reducible refine Kd.C_drew ?_))); (case side2 => exact HC2.out); rintro e w' ⟨rfl, ⟨nd, rfl⟩⟩; (try first | exact ⟨rfl, _, World.drewN_drewN _ _ _⟩ | exact ⟨rfl, _, Eq.trans (World.drewN_drewN _ _ _) (congrArg (World.drewN _) (Nat.add_assoc _ _ _))⟩))); try go_wp2_with (first | (go_at_call 47; (with_reducible refine (ref_From.calls _ _ l1 t677 _ ?side1 ?side2 A93.out).mono ?_); (case side1 => repeat (first | exact (Kd.C_below HR1.out HB.out) | (with_reducible refine Kd.C_alloc ?_ _) | (with_reducible refine Kd.C_drewN ?_ _) | (with_reducible refine Kd.C_drew ?_))); (case side2 => exact HC1.out); rintro e w' ⟨rfl, ⟨nd, rfl⟩⟩; (try first | exact ⟨rfl, _, World.drewN_drewN _ _ _⟩ | exact ⟨rfl, _, Eq.trans (World.drewN_drewN _ _ _) (congrArg (World.drewN _) (Nat.add_assoc _ _ _))⟩)) | (go_at_call 47; (with_reducible refine (ref_From.calls _ _ l2 t678 _ ?side1 ?side2 A94.out).mono ?_); (case side1 => repeat (first | exact (Kd.C_below HR2.out (by repeat (first | (with_reducible first | exact HB.out | apply below_alloc | apply pw_below_drewN | apply below_drew1) | exact HB.out))) | (with_reducible refine Kd.C_alloc ?_ _) | (with_reducible refine Kd.C_drewN ?_ _) | (with_reducible refine Kd.C_drew ?_))); (case side2 => exact HC2.out); rintro e w' ⟨rfl, ⟨nd, rfl⟩⟩; (try first | exact ⟨rfl, _, World.drewN_drewN _ _ _⟩ | exact ⟨rfl, _, Eq.trans (World.drewN_drewN _ _ _) (congrArg (World.drewN _) (Nat.add_assoc _ _ _))⟩)) | (go_at_call 48; (with_reducible refine (ref_To.calls _ _ l1 t679 _ ?side1 ?side2 A96.out).mono ?_); (case side1 => repeat (first | exact (Kd.C_below HR1.out (by repeat (first | (with_reducible first | exact HB.out | apply below_alloc | apply pw_below_drewN | apply below_drew1) | exact HB.out))) | (with_reducible refine Kd.C_alloc ?_ _) | (with_reducible refine Kd.C_drewN ?_ _) | (with_reducible refine Kd.C_drew ?_))); (case side2 => exact HC1.out); rintro e w' ⟨rfl, ⟨nd, rfl⟩⟩; (try first | exact ⟨rfl, _, World.drewN_drewN _ _ _⟩ | exact ⟨rfl, _, Eq.trans (World.drewN_drewN _ _ _) (congrArg (World.drewN _) (Nat.add_assoc _ _ _))⟩)) | (go_at_call 48; (with_reducible refine (ref_To.calls _ _ l2 t680 _ ?side1 ?side2 A97.out).mono ?_); (case side1 => repeat (first | exact (Kd.C_below HR2.out (by repeat (first | (with_reducible first | exact HB.out | apply below_alloc | apply pw_below_drewN | apply below_drew1) | exact HB.out))) | (with_reducible refine Kd.C_alloc ?_ _) | (with_reducible refine Kd.C_drewN ?_ _) | (with_reducible refine Kd.C_drew ?_))); (case side2 => exact HC2.out); rintro e w' ⟨rfl, ⟨nd, rfl⟩⟩; (try first | exact ⟨rfl, _, World.drewN_drewN _ _ _⟩ | exact ⟨rfl, _, Eq.trans (World.drewN_drewN _ _ _) (congrArg (World.drewN _) (Nat.add_assoc _ _ _))⟩))))
                    go_meet
                    case rel => exact ⟨_, ((t679 == t680)), (by first | rfl | (simp; done) | (simp [*]; done)), H', ⟨by have := HJ6.out; have := HJ17.out; have := HJ25.out; have := HJ29.out; have := HJ69.out; have := HJ78.out; first | omega | exact Nat.le_refl _⟩, ⟨by repeat (first | (with_reducible first | exact HB.out | apply below_alloc | apply pw_below_drewN | apply below_drew1) | exact HB.out)⟩⟩
                   ·
                    rw [if_neg c95] at H
                    have c95b0 : (t677 == t678) = false := beq_eq_false_iff_ne.mpr c95
                    have c95b1 : (t677 != t678) = true := bne_iff_ne.mpr c95
                    (first | rw [c95b0] | (simp only [i64_w, i32_w]; rw [c95b0]) | skip)
                    have H' := Aside0.mk H
                    clear H
                    go_wp2_with (first | (go_at_call 47; (with_reducible refine (ref_From.calls _ _ l1 t677 _ ?side1 ?side2 A93.out).mono ?_); (case side1 => repeat (first | exact (Kd.C_below HR1.out HB.out) | (with_reducible refine Kd.C_alloc ?_ _) | (with_reducible refine Kd.C_drewN ?_ _) | (with_reducible refine Kd.C_drew ?_))); (case side2 => exact HC1.out); rintro e w' ⟨rfl, ⟨nd, rfl⟩⟩; (try first | exact ⟨rfl, _, World.drewN_drewN _ _ _⟩ | exact ⟨rfl, _, Eq.trans (World.drewN_drewN _ _ _) (congrArg (World.drewN _) (Nat.add_assoc _ _ _))⟩)) | (go_at_call 47; (with_reducible refine (ref_From.calls _ _ l2 t678 _ ?side1 ?side2 A94.out).mono ?_); (case side1 => repeat (first | exact (Kd.C_below HR2.out (by repeat (first | (with_reducible first | exact HB.out | apply below_alloc | apply pw_below_drewN | apply below_drew1) | exact HB.out))) | (with_reducible refine Kd.C_alloc ?_ _) | (with_reducible refine Kd.C_drewN ?_ _) | (with_reducible refine Kd.C_drew ?_))); (case side2 => exact HC2.out); rintro e w' ⟨rfl, ⟨nd, rfl⟩⟩; (try first | exact ⟨rfl, _, World.drewN_drewN _ _ _⟩ | exact ⟨rfl, _, Eq.trans (World.drewN_drewN _ _ _) (congrArg (World.drewN _) (Nat.add_assoc _ _ _))⟩)))
                    repeat (go_quiet (first | (go_at_call 47; (with_reducible refine (ref_From.calls _ _ l1 t677 _ ?side1 ?side2 A93.out).mono ?_); (case side1 => repeat (first | exact (Kd.C_below HR1.out HB.out) | (with_reducible refine Kd.C_alloc ?_ _) | (with_reducible refine Kd.C_drewN ?_ _) | (with_reducible refine Kd.C_drew ?_))); (case side2 => exact HC1.out); rintro e w' ⟨rfl, ⟨nd, rfl⟩⟩; (try first | exact ⟨rfl, _, World.drewN_drewN _ _ _⟩ | exact ⟨rfl, _, Eq.trans (World.drewN_drewN _ _ _) (congrArg (World.drewN _) (Nat.add_assoc _ _ _))⟩)) | (go_at_call 47; (with_reducible refine (ref_From.calls _ _ l2 t678 _ ?side1 ?side2 A94.out).mono ?_); (case side1 => repeat (first | exact (Kd.C_below HR2.out (by repeat (first | (with_reducible first | exact HB.out | apply below_alloc | apply pw_below_drewN | apply below_drew1) | exact HB.out))) | (with_reducible refine Kd.C_alloc ?_ _) | (with_reducible refine Kd.C_drewN ?_ _) | (with_reducible refine Kd.C_drew ?_))); (case side2 => exact HC2.out); rintro e w' ⟨rfl, ⟨nd, rfl⟩⟩; (try first | exact ⟨rfl, _, World.drewN_drewN _ _ _⟩ | exact ⟨rfl, _, Eq.trans (World.drewN_drewN _ _ _) (congrArg (World.drewN _) (Nat.add_assoc _ _ _))⟩))); try go_wp2_with (first | (go_at_call 47; (with_reducible refine (ref_From.calls _ _ l1 t677 _ ?side1 ?side2 A93.out).mono ?_); (case side1 => repeat (first | exact (Kd.C_below HR1.out HB.out) | (with_reducible refine Kd.C_alloc ?_ _) | (with_reducible refine Kd.C_drewN ?_ _) | (with_reducible refine Kd.C_drew ?_))); (case side2 => exact HC1.out); rintro e w' ⟨rfl, ⟨nd, rfl⟩⟩; (try first | exact ⟨rfl, _, World.drewN_drewN _ _ _⟩ | exact ⟨rfl, _, Eq.trans (World.drewN_drewN _ _ _) (congrArg (World.drewN _) (Nat.add_assoc _ _ _))⟩)) | (go_at_call 47; (with_reducible refine (ref_From.calls _ _ l2 t678 _ ?side1 ?side2 A94.out).mono ?_); (case side1 => repeat (first | exact (Kd.C_below HR2.out (by repeat (first | (with_reducible first | exact HB.out | apply below_alloc | apply pw_below_drewN | apply below_drew1) | exact HB.out))) | (with_reducible refine Kd.C_alloc ?_ _) | (with_reducible refine Kd.C_drewN ?_ _) | (with_reducible refine Kd.C_drew ?_))); (case side2 => exact HC2.out); rintro e w' ⟨rfl, ⟨nd, rfl⟩⟩; (try first | exact ⟨rfl, _, World.drewN_drewN _ _ _⟩ | exact ⟨rfl, _, Eq.trans (World.drewN_drewN _ _ _) (congrArg (World.drewN _) (Nat.add_assoc _ _ _))⟩))))
                    go_meet
                    case rel => exact ⟨_, (false), (by first | rfl | (simp; done) | (simp [*]; done)), H', ⟨by have := HJ6.out; have := HJ17.out; have := HJ25.out; have := HJ29.out; have := HJ69.out; have := HJ78.out; first | omega | exact Nat.le_refl _⟩, ⟨by repeat (first | (with_reducible first | exact HB.out | apply below_alloc | apply pw_below_drewN | apply below_drew1) | exact HB.out)⟩⟩
                  case rest => as_aux_lemma =>
                   clear HC92
                   try clear c1
                   try clear c2
                   try clear p2
                   try clear c3
                   try clear c4
                   try clear c5
                   try clear c6
                   try clear c7
                   try clear c8
                   try clear c9
                   try clear c10
                   try clear c12
                   try clear c14
                   try clear c22
                   try clear c22b0
                   try clear c22b1
                   try clear c23
                   try clear c23b0
                   try clear c23b1
                   try clear c24
                   try clear c24b0
                   try clear c24b1
                   try clear c25
                   try clear c28
                   try clear c31
                   try clear c40
                   try clear c42
                   try clear c42b0
                   try clear c42b1
                   try clear c43
                   try clear c43b0
                   try clear c43b1
                   try clear c44
                   try clear c44b0
                   try clear c45
                   try clear c47
                   try clear c47b0
                   try clear c48
                   try clear c51
                   try clear c51b0
                   try clear c52
                   try clear c55
                   try clear c58
                   try clear c61
                   try clear c65
                   try clear c66
                   try clear c66b0
                   try clear c67
                   try clear c68
                   try clear c69
                   try clear c73
                   try clear c73b0
                   try clear c73b1
                   try clear c76
                   try clear c82
                   try clear c82b0
                   try clear c82b1
                   try clear c83
                   try clear c83b0
                   try clear c83b1
                   try clear c84
                   try clear c91
                   try clear c95
                   try clear c95b0
                   try clear c95b1
                   try clear hcz37_0
                   try clear hcz37_1
                   try clear hcz41_0
                   try clear hcz41_1
                   try clear hcz46_0
                   try clear hcz46_1
                   try clear hcz49_0
                   try clear hcz49_1
                   try clear hcz50_0
                   try clear hcz50_1
                   try clear hcz53_0
                   try clear hcz53_1
                   try clear hcz54_0
                   try clear hcz54_1
                   try clear hcz56_0
                   try clear hcz56_1
                   try clear hcz57_0
                   try clear hcz57_1
                   try clear hcz62_0
                   try clear hcz62_1
                   try clear hcz63_0
                   try clear hcz63_1
                   try clear hfz37_0
                   try clear hfz37_1
                   try clear hfz41_0
                   try clear hfz41_1
                   try clear hfz46_0
                   try clear hfz46_1
                   try clear hfz49_0
                   try clear hfz49_1
                   try clear hfz50_0
                   try clear hfz50_1
                   try clear hfz53_0
                   try clear hfz53_1
                   try clear hfz54_0
                   try clear hfz54_1
                   try clear hfz56_0
                   try clear hfz56_1
                   try clear hfz57_0
                   try clear hfz57_1
                   try clear hfz62_0
                   try clear hfz62_1
                   try clear hfz63_0
                   try clear hfz63_1
                   try clear p2
                   obtain ⟨kq, x186_91, rfl, HA, HJ91, HB⟩ := hcut
                   cases kq with
                   | zero => exact absurd HA.out (by simp [law_CurveBelow.j8])
                   | succ kj91 =>
                    have H := HA.out
                    clear HA
                    simp only [law_CurveBelow.j8] at H
                    have HC98 := Aside0.mk H
                    clear H
                    go_upto_if 186 with (fail)
                    repeat (go_quiet (fail); go_upto_if 186 with (fail))
                    go_cut [] (fun wc => ∃ (kq : Nat), Aside0 (law_CurveBelow.j10 kq l0 l1 t648 = some r) ∧ Aside0 (kq ≤ kj91) ∧ Aside0 (Below w.heap.size w wc))
                    case first => as_aux_lemma =>
                     have H := HC98.out
                     clear HC98
                     by_cases c99 : x186_91 = true
                     ·
                      subst c99
                      have H1 : ((curve_Below.f l1 l2).bind fun bt681 => ((curve_Below.f l0 l2).bind fun bt683 => (if bt681.2 = 0 then (if bt683.2 = 0 then (if t648 = true then (if bt681.1 = true then (law_CurveBelow.j9 kj91 l0 l1 t648 (!bt683.1)) else (law_CurveBelow.j9 kj91 l0 l1 t648 false)) else (law_CurveBelow.j9 kj91 l0 l1 t648 false)) else (law_CurveBelow.j9 kj91 l0 l1 t648 true)) else (law_CurveBelow.j9 kj91 l0 l1 t648 true)))) = some r := by rw [if_pos rfl] at H; exact H
                      clear H
                      have H := H1
                      clear H1
                      replace H := Option.bind_eq_some_iff.mp H
                      obtain ⟨⟨t681, t682⟩, A1000, H⟩ := H
                      replace H : ((curve_Below.f l0 l2).bind fun bt683 => (if t682 = 0 then (if bt683.2 = 0 then (if t648 = true then (if t681 = true then (law_CurveBelow.j9 kj91 l0 l1 t648 (!bt683.1)) else (law_CurveBelow.j9 kj91 l0 l1 t648 false)) else (law_CurveBelow.j9 kj91 l0 l1 t648 false)) else (law_CurveBelow.j9 kj91 l0 l1 t648 true)) else (law_CurveBelow.j9 kj91 l0 l1 t648 true))) = some r := H
                      have A100 := Aside0.mk A1000
                      clear A1000
                      replace H := Option.bind_eq_some_iff.mp H
                      obtain ⟨⟨t683, t684⟩, A1010, H⟩ := H
                      replace H : (if t682 = 0 then (if t684 = 0 then (if t648 = true then (if t681 = true then (law_CurveBelow.j9 kj91 l0 l1 t648 (!t683)) else (law_CurveBelow.j9 kj91 l0 l1 t648 false)) else (law_CurveBelow.j9 kj91 l0 l1 t648 false)) else (law_CurveBelow.j9 kj91 l0 l1 t648 true)) else (law_CurveBelow.j9 kj91 l0 l1 t648 true)) = some r := H
                      have A101 := Aside0.mk A1010
                      clear A1010
                      have HC102 := Aside0.mk H
                      clear H
                      go_upto_region 27 with (first | (go_at_call 38; (with_reducible refine (curve_Below.calls _ _ l1 _ _ l2 t681 t682 _ ?side1 ?side2 ?side3 ?side4 A100.out).mono ?_); (case side1 => repeat (first | exact (Kd.C_below HR1.out HB.out) | (with_reducible refine Kd.C_alloc ?_ _) | (with_reducible refine Kd.C_drewN ?_ _) | (with_reducible refine Kd.C_drew ?_))); (case side2 => exact HC1.out); (case side3 => repeat (first | exact (Kd.C_below HR2.out HB.out) | (with_reducible refine Kd.C_alloc ?_ _) | (with_reducible refine Kd.C_drewN ?_ _) | (with_reducible refine Kd.C_drew ?_))); (case side4 => exact HC2.out); rintro e w103 ⟨rfl, hb⟩; have n0_ := Aside0.mk (below_step (by repeat (first | (with_reducible first | exact HB.out | apply below_alloc | apply pw_below_drewN | apply below_drew1) | exact HB.out)) hb); clear HB; have HB := n0_; clear n0_; (try clear hb); (try clear hb2); (try clear hk); (try clear hi)) | (go_at_call 38; (with_reducible refine (curve_Below.calls _ _ l0 _ _ l2 t683 t684 _ ?side1 ?side2 ?side3 ?side4 A101.out).mono ?_); (case side1 => repeat (first | exact (Kd.C_below HR0.out HB.out) | (with_reducible refine Kd.C_alloc ?_ _) | (with_reducible refine Kd.C_drewN ?_ _) | (with_reducible refine Kd.C_drew ?_))); (case side2 => exact HC0.out); (case side3 => repeat (first | exact (Kd.C_below HR2.out HB.out) | (with_reducible refine Kd.C_alloc ?_ _) | (with_reducible refine Kd.C_drewN ?_ _) | (with_reducible refine Kd.C_drew ?_))); (case side4 => exact HC2.out); rintro e w104 ⟨rfl, hb⟩; have n0_ := Aside0.mk (below_step (by repeat (first | (with_reducible first | exact HB.out | apply below_alloc | apply pw_below_drewN | apply below_drew1) | exact HB.out)) hb); clear HB; have HB := n0_; clear n0_; (try clear hb); (try clear hb2); (try clear hk); (try clear hi)))
                      repeat (go_quiet (first | (go_at_call 38; (with_reducible refine (curve_Below.calls _ _ l1 _ _ l2 t681 t682 _ ?side1 ?side2 ?side3 ?side4 A100.out).mono ?_); (case side1 => repeat (first | exact (Kd.C_below HR1.out HB.out) | (with_reducible refine Kd.C_alloc ?_ _) | (with_reducible refine Kd.C_drewN ?_ _) | (with_reducible refine Kd.C_drew ?_))); (case side2 => exact HC1.out); (case side3 => repeat (first | exact (Kd.C_below HR2.out HB.out) | (with_reducible refine Kd.C_alloc ?_ _) | (with_reducible refine Kd.C_drewN ?_ _) | (with_reducible refine Kd.C_drew ?_))); (case side4 => exact HC2.out); rintro e w103 ⟨rfl, hb⟩; have n0_ := Aside0.mk (below_step (by repeat (first | (with_reducible first | exact HB.out | apply below_alloc | apply pw_below_drewN | apply below_drew1) | exact HB.out)) hb); clear HB; have HB := n0_; clear n0_; (try clear hb); (try clear hb2); (try clear hk); (try clear hi)) | (go_at_call 38; (with_reducible refine (curve_Below.calls _ _ l0 _ _ l2 t683 t684 _ ?side1 ?side2 ?side3 ?side4 A101.out).mono ?_); (case side1 => repeat (first | exact (Kd.C_below HR0.out HB.out) | (with_reducible refine Kd.C_alloc ?_ _) | (with_reducible refine Kd.C_drewN ?_ _) | (with_reducible refine Kd.C_drew ?_))); (case side2 => exact HC0.out); (case side3 => repeat (first | exact (Kd.C_below HR2.out HB.out) | (with_reducible refine Kd.C_alloc ?_ _) | (with_reducible refine Kd.C_drewN ?_ _) | (with_reducible refine Kd.C_drew ?_))); (case side4 => exact HC2.out); rintro e w104 ⟨rfl, hb⟩; have n0_ := Aside0.mk (below_step (by repeat (first | (with_reducible first | exact HB.out | apply below_alloc | apply pw_below_drewN | apply below_drew1) | exact HB.out)) hb); clear HB; have HB := n0_; clear n0_; (try clear hb); (try clear hb2); (try clear hk); (try clear hi))); go_upto_region 27 with (first | (go_at_call 38; (with_reducible refine (curve_Below.calls _ _ l1 _ _ l2 t681 t682 _ ?side1 ?side2 ?side3 ?side4 A100.out).mono ?_); (case side1 => repeat (first | exact (Kd.C_below HR1.out HB.out) | (with_reducible refine Kd.C_alloc ?_ _) | (with_reducible refine Kd.C_drewN ?_ _) | (with_reducible refine Kd.C_drew ?_))); (case side2 => exact HC1.out); (case side3 => repeat (first | exact (Kd.C_below HR2.out HB.out) | (with_reducible refine Kd.C_alloc ?_ _) | (with_reducible refine Kd.C_drewN ?_ _) | (with_reducible refine Kd.C_drew ?_))); (case side4 => exact HC2.out); rintro e w103 ⟨rfl, hb⟩; have n0_ := Aside0.mk (below_step (by repeat (first | (with_reducible first | exact HB.out | apply below_alloc | apply pw_below_drewN | apply below_drew1) | exact HB.out)) hb); clear HB; have HB := n0_; clear n0_; (try clear hb); (try clear hb2); (try clear hk); (try clear hi)) | (go_at_call 38; (with_reducible refine (curve_Below.calls _ _ l0 _ _ l2 t683 t684 _ ?side1 ?side2 ?side3 ?side4 A101.out).mono ?_); (case side1 => repeat (first | exact (Kd.C_below HR0.out HB.out) | (with_reducible refine Kd.C_alloc ?_ _) | (with_reducible refine Kd.C_drewN ?_ _) | (with_reducible refine Kd.C_drew ?_))); (case side2 => exact HC0.out); (case side3 => repeat (first | exact (Kd.C_below HR2.out HB.out) | (with_reducible refine Kd.C_alloc ?_ _) | (with_reducible refine Kd.C_drewN ?_ _) | (with_reducible refine Kd.C_drew ?_))); (case side4 => exact HC2.out); rintro e w104 ⟨rfl, hb⟩; have n0_ := Aside0.mk (below_step (by repeat (first | (with_reducible first | exact HB.out | apply below_alloc | apply pw_below_drewN | apply below_drew1) | exact HB.out)) hb); clear HB; have HB := n0_; clear n0_; (try clear hb); (try clear hb2); (try clear hk); (try clear hi))))
                      (try simp only [Act.put, List.setIfInBounds_toArray, List.set_cons_zero, List.set_cons_succ])
                      go_cut [214] (fun v214 wc => ∃ (kq : Nat) (x214_101 : Bool), v214 = .bool x214_101 ∧ Aside0 (law_CurveBelow.j9 kq l0 l1 t648 x214_101 = some r) ∧ Aside0 (kq ≤ kj91) ∧ Aside0 (Below w.heap.size w wc))
                      case first => as_aux_lemma =>
                       have H := HC102.out
                       clear HC102
                       by_cases c105 : t682 = 0
                       ·
                        rw [if_pos c105] at H
                        have c105b0 : (t682 == 0) = true := beq_iff_eq.mpr c105
                        have c105b1 : (t682 != 0) = false := bne_eq_false_iff_eq.mpr c105
                        clear c105
                        (first | rw [c105b0] | (simp only [i64_w, i32_w]; rw [c105b0]) | skip)
                        by_cases c106 : t684 = 0
                        ·
                         rw [if_pos c106] at H
                         have c106b0 : (t684 == 0) = true := beq_iff_eq.mpr c106
                         have c106b1 : (t684 != 0) = false := bne_eq_false_iff_eq.mpr c106
                         clear c106
                         by_cases c107 : t648 = true
                         ·
                          subst c107
                          have H1 : (if t681 = true then (law_CurveBelow.j9 kj91 l0 l1 true (!t683)) else (law_CurveBelow.j9 kj91 l0 l1 true false)) = some r := by rw [if_pos rfl] at H; exact H
                          clear H
                          have H := H1
                          clear H1
                          by_cases c108 : t681 = true
                          ·
                           subst c108
                           have H1 : (law_CurveBelow.j9 kj91 l0 l1 true (!t683)) = some r := by rw [if_pos rfl] at H; exact H
                           clear H
                           have H := H1
                           clear H1
                           have H' := Aside0.mk H
                           clear H
                           go_wp2
                           repeat (go_quiet (fail); try go_wp2)
                           go_meet
                           case rel => exact ⟨_, (!t683), (by first | rfl | (simp; done) | (simp [*]; done)), H', ⟨by have := HJ6.out; have := HJ17.out; have := HJ25.out; have := HJ29.out; have := HJ69.out; have := HJ78.out; have := HJ91.out; first | omega | exact Nat.le_refl _⟩, ⟨by repeat (first | (with_reducible first | exact HB.out | apply below_alloc | apply pw_below_drewN | apply below_drew1) | exact HB.out)⟩⟩
                          ·
                           replace c108 := Bool.eq_false_iff.mpr c108
                           subst c108
                           have H1 : (law_CurveBelow.j9 kj91 l0 l1 true false) = some r := by rw [if_neg (show ¬ (false = true) by decide)] at H; exact H
                           clear H
                           have H := H1
                           clear H1
                           have H' := Aside0.mk H
                           clear H
                           go_wp2
                           repeat (go_quiet (fail); try go_wp2)
                           go_meet
                           case rel => exact ⟨_, (false), (by first | rfl | (simp; done) | (simp [*]; done)), H', ⟨by have := HJ6.out; have := HJ17.out; have := HJ25.out; have := HJ29.out; have := HJ69.out; have := HJ78.out; have := HJ91.out; first | omega | exact Nat.le_refl _⟩, ⟨by repeat (first | (with_reducible first | exact HB.out | apply below_alloc | apply pw_below_drewN | apply below_drew1) | exact HB.out)⟩⟩
                         ·
                          replace c107 := Bool.eq_false_iff.mpr c107
                          subst c107
                          have H1 : (law_CurveBelow.j9 kj91 l0 l1 false false) = some r := by rw [if_neg (show ¬ (false = true) by decide)] at H; exact H
                          clear H
                          have H := H1
                          clear H1
                          have H' := Aside0.mk H
                          clear H
                          go_wp2
                          repeat (go_quiet (fail); try go_wp2)
                          go_meet
                          case rel => exact ⟨_, (false), (by first | rfl | (simp; done) | (simp [*]; done)), H', ⟨by have := HJ6.out; have := HJ17.out; have := HJ25.out; have := HJ29.out; have := HJ69.out; have := HJ78.out; have := HJ91.out; first | omega | exact Nat.le_refl _⟩, ⟨by repeat (first | (with_reducible first | exact HB.out | apply below_alloc | apply pw_below_drewN | apply below_drew1) | exact HB.out)⟩⟩
                        ·
                         rw [if_neg c106] at H
                         have c106b0 : (t684 == 0) = false := beq_eq_false_iff_ne.mpr c106
                         have c106b1 : (t684 != 0) = true := bne_iff_ne.mpr c106
                         have H' := Aside0.mk H
                         clear H
                         go_wp2
                         repeat (go_quiet (fail); try go_wp2)
                         go_meet
                         case rel => exact ⟨_, (true), (by first | rfl | (simp; done) | (simp [*]; done)), H', ⟨by have := HJ6.out; have := HJ17.out; have := HJ25.out; have := HJ29.out; have := HJ69.out; have := HJ78.out; have := HJ91.out; first | omega | exact Nat.le_refl _⟩, ⟨by repeat (first | (with_reducible first | exact HB.out | apply below_alloc | apply pw_below_drewN | apply below_drew1) | exact HB.out)⟩⟩
                       ·
                        rw [if_neg c105] at H
                        have c105b0 : (t682 == 0) = false := beq_eq_false_iff_ne.mpr c105
                        have c105b1 : (t682 != 0) = true := bne_iff_ne.mpr c105
                        (first | rw [c105b0] | (simp only [i64_w, i32_w]; rw [c105b0]) | skip)
                        have H' := Aside0.mk H
                        clear H
                        go_wp2
                        repeat (go_quiet (fail); try go_wp2)
                        go_meet
                        case rel => exact ⟨_, (true), (by first | rfl | (simp; done) | (simp [*]; done)), H', ⟨by have := HJ6.out; have := HJ17.out; have := HJ25.out; have := HJ29.out; have := HJ69.out; have := HJ78.out; have := HJ91.out; first | omega | exact Nat.le_refl _⟩, ⟨by repeat (first | (with_reducible first | exact HB.out | apply below_alloc | apply pw_below_drewN | apply below_drew1) | exact HB.out)⟩⟩
                      case rest => as_aux_lemma =>
                       clear HC102
                       try clear c1
                       try clear c2
                       try clear p2
                       try clear c3
                       try clear c4
                       try clear c5
                       try clear c6
                       try clear c7
                       try clear c8
                       try clear c9
                       try clear c10
                       try clear c12
                       try clear c14
                       try clear c22
                       try clear c22b0
                       try clear c22b1
                       try clear c23
                       try clear c23b0
                       try clear c23b1
                       try clear c24
                       try clear c24b0
                       try clear c24b1
                       try clear c25
                       try clear c28
                       try clear c31
                       try clear c40
                       try clear c42
                       try clear c42b0
                       try clear c42b1
                       try clear c43
                       try clear c43b0
                       try clear c43b1
                       try clear c44
                       try clear c44b0
                       try clear c45
                       try clear c47
                       try clear c47b0
                       try clear c48
                       try clear c51
                       try clear c51b0
                       try clear c52
                       try clear c55
                       try clear c58
                       try clear c61
                       try clear c65
                       try clear c66
                       try clear c66b0
                       try clear c67
                       try clear c68
                       try clear c69
                       try clear c73
                       try clear c73b0
                       try clear c73b1
                       try clear c76
                       try clear c82
                       try clear c82b0
                       try clear c82b1
                       try clear c83
                       try clear c83b0
                       try clear c83b1
                       try clear c84
                       try clear c91
                       try clear c95
                       try clear c95b0
                       try clear c95b1
                       try clear c99
                       try clear c105
                       try clear c105b0
                       try clear c105b1
                       try clear c106
                       try clear c106b0
                       try clear c106b1
                       try clear c107
                       try clear c108
                       try clear hcz37_0
                       try clear hcz37_1
                       try clear hcz41_0
                       try clear hcz41_1
                       try clear hcz46_0
                       try clear hcz46_1
                       try clear hcz49_0
                       try clear hcz49_1
                       try clear hcz50_0
                       try clear hcz50_1
                       try clear hcz53_0
                       try clear hcz53_1
                       try clear hcz54_0
                       try clear hcz54_1
                       try clear hcz56_0
                       try clear hcz56_1
                       try clear hcz57_0
                       try clear hcz57_1
                       try clear hcz62_0
                       try clear hcz62_1
                       try clear hcz63_0
                       try clear hcz63_1
                       try clear hfz37_0
                       try clear hfz37_1
                       try clear hfz41_0
                       try clear hfz41_1
                       try clear hfz46_0
                       try clear hfz46_1
                       try clear hfz49_0
                       try clear hfz49_1
                       try clear hfz50_0
                       try clear hfz50_1
                       try clear hfz53_0
                       try clear hfz53_1
                       try clear hfz54_0
                       try clear hfz54_1
                       try clear hfz56_0
                       try clear hfz56_1
                       try clear hfz57_0
                       try clear hfz57_1
                       try clear hfz62_0
                       try clear hfz62_1
                       try clear hfz63_0
                       try clear hfz63_1
                       try clear p2
                       obtain ⟨kq, x214_101, rfl, HA, HJ101, HB⟩ := hcut
                       cases kq with
                       | zero => exact absurd HA.out (by simp [law_CurveBelow.j9])
                       | succ kj101 =>
                        have H := HA.out
                        clear HA
                        simp only [law_CurveBelow.j9] at H
                        by_cases c109 : x214_101 = true
                        ·
                         subst c109
                         have H1 : (some false) = some r := by rw [if_pos rfl] at H; exact H
                         clear H
                         have H := H1
                         clear H1
                         obtain rfl := Option.some.inj H
                         go_wp2
                         repeat (go_quiet (fail); try go_wp2)
                         go_ret
                         exact ⟨by first | rfl | (simp [errW_none, errW_some] <;> rfl) | (simp [*, errW_none, errW_some] <;> rfl), by repeat (first | (with_reducible first | exact HB.out | apply below_alloc | apply pw_below_drewN | apply below_drew1) | exact HB.out)⟩
                        ·
                         replace c109 := Bool.eq_false_iff.mpr c109
                         subst c109
                         have H1 : (law_CurveBelow.j10 kj101 l0 l1 t648) = some r := by rw [if_neg (show ¬ (false = true) by decide)] at H; exact H
                         clear H
                         have H := H1
                         clear H1
                         have H' := Aside0.mk H
                         clear H
                         go_wp2
                         repeat (go_quiet (fail); try go_wp2)
                         go_meet
                         case rel => exact ⟨_, H', ⟨by have := HJ6.out; have := HJ17.out; have := HJ25.out; have := HJ29.out; have := HJ69.out; have := HJ78.out; have := HJ91.out; have := HJ101.out; first | omega | exact Nat.le_refl _⟩, ⟨by repeat (first | (with_reducible first | exact HB.out | apply below_alloc | apply pw_below_drewN | apply below_drew1) | exact HB.out)⟩⟩
                     ·
                      replace c99 := Bool.eq_false_iff.mpr c99
                      subst c99
                      have H1 : (law_CurveBelow.j10 kj91 l0 l1 t648) = some r := by rw [if_neg (show ¬ (false = true) by decide)] at H; exact H
                      clear H
                      have H := H1
                      clear H1
                      have H' := Aside0.mk H
                      clear H
                      go_wp2
                      repeat (go_quiet (fail); try go_wp2)
                      go_meet
                      case rel => exact ⟨_, H', ⟨by have := HJ6.out; have := HJ17.out; have := HJ25.out; have := HJ29.out; have := HJ69.out; have := HJ78.out; have := HJ91.out; first | omega | exact Nat.le_refl _⟩, ⟨by repeat (first | (with_reducible first | exact HB.out | apply below_alloc | apply pw_below_drewN | apply below_drew1) | exact HB.out)⟩⟩
                    case rest => as_aux_lemma =>
                     clear HC98
                     try clear c1
                     try clear c2
                     try clear p2
                     try clear c3
                     try clear c4
                     try clear c5
                     try clear c6
                     try clear c7
                     try clear c8
                     try clear c9
                     try clear c10
                     try clear c12
                     try clear c14
                     try clear c22
                     try clear c22b0
                     try clear c22b1
                     try clear c23
                     try clear c23b0
                     try clear c23b1
                     try clear c24
                     try clear c24b0
                     try clear c24b1
                     try clear c25
                     try clear c28
                     try clear c31
                     try clear c40
                     try clear c42
                     try clear c42b0
                     try clear c42b1
                     try clear c43
                     try clear c43b0
                     try clear c43b1
                     try clear c44
                     try clear c44b0
                     try clear c45
                     try clear c47
                     try clear c47b0
                     try clear c48
                     try clear c51
                     try clear c51b0
                     try clear c52
                     try clear c55
                     try clear c58
                     try clear c61
                     try clear c65
                     try clear c66
                     try clear c66b0
                     try clear c67
                     try clear c68
                     try clear c69
                     try clear c73
                     try clear c73b0
                     try clear c73b1
                     try clear c76
                     try clear c82
                     try clear c82b0
                     try clear c82b1
                     try clear c83
                     try clear c83b0
                     try clear c83b1
                     try clear c84
                     try clear c91
                     try clear c95
                     try clear c95b0
                     try clear c95b1
                     try clear c99
                     try clear c105
                     try clear c105b0
                     try clear c105b1
                     try clear c106
                     try clear c106b0
                     try clear c106b1
                     try clear c107
                     try clear c108
                     try clear c109
                     try clear hcz37_0
                     try clear hcz37_1
                     try clear hcz41_0
                     try clear hcz41_1
                     try clear hcz46_0
                     try clear hcz46_1
                     try clear hcz49_0
                     try clear hcz49_1
                     try clear hcz50_0
                     try clear hcz50_1
                     try clear hcz53_0
                     try clear hcz53_1
                     try clear hcz54_0
                     try clear hcz54_1
                     try clear hcz56_0
                     try clear hcz56_1
                     try clear hcz57_0
                     try clear hcz57_1
                     try clear hcz62_0
                     try clear hcz62_1
                     try clear hcz63_0
                     try clear hcz63_1
                     try clear hfz37_0
                     try clear hfz37_1
                     try clear hfz41_0
                     try clear hfz41_1
                     try clear hfz46_0
                     try clear hfz46_1
                     try clear hfz49_0
                     try clear hfz49_1
                     try clear hfz50_0
                     try clear hfz50_1
                     try clear hfz53_0
                     try clear hfz53_1
                     try clear hfz54_0
                     try clear hfz54_1
                     try clear hfz56_0
                     try clear hfz56_1
                     try clear hfz57_0
                     try clear hfz57_1
                     try clear hfz62_0
                     try clear hfz62_1
                     try clear hfz63_0
                     try clear hfz63_1
                     try clear p2
                     obtain ⟨kq, HA, HJ97, HB⟩ := hcut
                     cases kq with
                     | zero => exact absurd HA.out (by simp [law_CurveBelow.j10])
                     | succ kj97 =>
                      have H := HA.out
                      clear HA
                      simp only [law_CurveBelow.j10] at H
                      have HC110 := Aside0.mk H
                      clear H
                      go_upto_region 29 with (fail)
                      repeat (go_quiet (fail); go_upto_region 29 with (fail))
                      go_cut [236] (fun v236 wc => ∃ (kq : Nat) (x236_109 : Bool), v236 = .bool x236_109 ∧ Aside0 (law_CurveBelow.j11 kq l0 l1 t648 x236_109 = some r) ∧ Aside0 (kq ≤ kj97) ∧ Aside0 (Below w.heap.size w wc))
                      case first => as_aux_lemma =>
                       have H := HC110.out
                       clear HC110
                       by_cases c111 : 0 < (l0.length : Int)
                       ·
                        rw [if_pos c111] at H
                        have c111b0 : decide (0 < (l0.length : Int)) = true := decide_eq_true c111
                        have c111b1 : decide (0 < l0.length) = true := decide_eq_true (by omega)
                        clear c111
                        (first | rw [c111b0] | (simp only [i64_w, i32_w]; rw [c111b0]) | skip)
                        by_cases c112 : 0 < (l1.length : Int)
                        ·
                         rw [if_pos c112] at H
                         have c112b0 : decide (0 < (l1.length : Int)) = true := decide_eq_true c112
                         have c112b1 : decide (0 < l1.length) = true := decide_eq_true (by omega)
                         clear c112
                         by_cases c113 : (!(((rd_T57 l0 0).f0) == ((rd_T57 l1 0).f0)) || (!(((rd_T57 l0 0).f1) == ((rd_T57 l1 0).f1)))) = true
                         ·
                          rw [if_pos c113] at H
                          have c113b0 : (!(((rd_T57 l0 0).f0) == ((rd_T57 l1 0).f0)) || (!(((rd_T57 l0 0).f1) == ((rd_T57 l1 0).f1)))) = true := c113
                          clear c113
                          have H' := Aside0.mk H
                          clear H
                          have p685 : 0 ≤ (0 : Int) := (by omega)
                          have q685 : 0 < (l0.length : Int) := of_decide_eq_true (by first | (with_reducible assumption) | assumption)
                          obtain ⟨ad685, e685, hx685_0, hx685_1⟩ := at_T57 HR0.out 0 p685 q685
                          cases e685
                          have qi685 : (0 < l0.length) = True := eq_true (by omega)
                          (try rw [show ((0 : Int)).toNat = 0 from rfl] at hx685_0)
                          (try rw [show 0 * 2 = 0 from rfl] at hx685_0)
                          (try rw [Addr.add_zero'] at hx685_0)
                          (try rw [show ((0 : Int)).toNat = 0 from rfl] at hx685_1)
                          (try rw [show 0 * 2 = 0 from rfl] at hx685_1)
                          (try rw [Addr.add_zero'] at hx685_1)
                          replace hx685_0 := (HB.out.cell (World.block_lt_of_cell? w _ hx685_0)).trans hx685_0
                          replace hx685_1 := (HB.out.cell (World.block_lt_of_cell? w _ hx685_1)).trans hx685_1
                          replace p685 := eq_true p685
                          replace q685 := eq_true q685
                          have p686 : 0 ≤ (0 : Int) := (by omega)
                          have q686 : 0 < (l1.length : Int) := of_decide_eq_true (by first | (with_reducible assumption) | assumption)
                          obtain ⟨ad686, e686, hx686_0, hx686_1⟩ := at_T57 HR1.out 0 p686 q686
                          cases e686
                          have qi686 : (0 < l1.length) = True := eq_true (by omega)
                          (try rw [show ((0 : Int)).toNat = 0 from rfl] at hx686_0)
                          (try rw [show 0 * 2 = 0 from rfl] at hx686_0)
                          (try rw [Addr.add_zero'] at hx686_0)
                          (try rw [show ((0 : Int)).toNat = 0 from rfl] at hx686_1)
                          (try rw [show 0 * 2 = 0 from rfl] at hx686_1)
                          (try rw [Addr.add_zero'] at hx686_1)
                          replace hx686_0 := (HB.out.cell (World.block_lt_of_cell? w _ hx686_0)).trans hx686_0
                          replace hx686_1 := (HB.out.cell (World.block_lt_of_cell? w _ hx686_1)).trans hx686_1
                          replace p686 := eq_true p686
                          replace q686 := eq_true q686
                          go_wp2
                          repeat (go_quiet (fail); try go_wp2)
                          go_meet
                          case rel => exact ⟨_, (true), (by first | rfl | (simp; done) | (simp [*]; done)), H', ⟨by have := HJ6.out; have := HJ17.out; have := HJ25.out; have := HJ29.out; have := HJ69.out; have := HJ78.out; have := HJ91.out; have := HJ97.out; first | omega | exact Nat.le_refl _⟩, ⟨by repeat (first | (with_reducible first | exact HB.out | apply below_alloc | apply pw_below_drewN | apply below_drew1) | exact HB.out)⟩⟩
                         ·
                          rw [if_neg c113] at H
                          have c113b0 : (!(((rd_T57 l0 0).f0) == ((rd_T57 l1 0).f0)) || (!(((rd_T57 l0 0).f1) == ((rd_T57 l1 0).f1)))) = false := by simpa using c113
                          clear c113
                          obtain ⟨ji114, hji114⟩ : ∃ j_ : Int, (wrap64 ((l0.length : Int) - 1)) = j_ := ⟨_, rfl⟩
                          replace H : (if 0 ≤ (ji114) then (if (ji114) < (l0.length : Int) then (if 0 ≤ (wrap64 ((l1.length : Int) - 1)) then (if (wrap64 ((l1.length : Int) - 1)) < (l1.length : Int) then (law_CurveBelow.j11 kj97 l0 l1 t648 (!(((rd_T57 l0 (ji114)).f0) == ((rd_T57 l1 (wrap64 ((l1.length : Int) - 1))).f0)) || (!(((rd_T57 l0 (ji114)).f1) == ((rd_T57 l1 (wrap64 ((l1.length : Int) - 1))).f1))))) else (none)) else (none)) else (none)) else (none)) = some r := by first | (rw [hji114] at H; exact H) | (simp only [hji114] at H ⊢; exact H)
                          have hji114w : (IntKind.i64.wrap ((l0.length : Int) - 1)) = ji114 := (i64_w _).trans hji114
                          by_cases c115 : 0 ≤ (ji114)
                          ·
                           rw [if_pos c115] at H
                           have c115b0 : decide (0 ≤ (ji114)) = true := decide_eq_true c115
                           clear c115
                           by_cases c116 : (ji114) < (l0.length : Int)
                           ·
                            rw [if_pos c116] at H
                            have c116b0 : decide ((ji114) < (l0.length : Int)) = true := decide_eq_true c116
                            clear c116
                            obtain ⟨ji117, hji117⟩ : ∃ j_ : Int, (wrap64 ((l1.length : Int) - 1)) = j_ := ⟨_, rfl⟩
                            replace H : (if 0 ≤ (ji117) then (if (ji117) < (l1.length : Int) then (law_CurveBelow.j11 kj97 l0 l1 t648 (!(((rd_T57 l0 (ji114)).f0) == ((rd_T57 l1 (ji117)).f0)) || (!(((rd_T57 l0 (ji114)).f1) == ((rd_T57 l1 (ji117)).f1))))) else (none)) else (none)) = some r := by first | (rw [hji117] at H; exact H) | (simp only [hji117] at H ⊢; exact H)
                            have hji117w : (IntKind.i64.wrap ((l1.length : Int) - 1)) = ji117 := (i64_w _).trans hji117
                            by_cases c118 : 0 ≤ (ji117)
                            ·
                             rw [if_pos c118] at H
                             have c118b0 : decide (0 ≤ (ji117)) = true := decide_eq_true c118
                             clear c118
                             by_cases c119 : (ji117) < (l1.length : Int)
                             ·
                              rw [if_pos c119] at H
                              have c119b0 : decide ((ji117) < (l1.length : Int)) = true := decide_eq_true c119
                              clear c119
                              have H' := Aside0.mk H
                              clear H
                              have p685 : 0 ≤ (0 : Int) := (by omega)
                              have q685 : 0 < (l0.length : Int) := of_decide_eq_true (by first | (with_reducible assumption) | assumption)
                              obtain ⟨ad685, e685, hx685_0, hx685_1⟩ := at_T57 HR0.out 0 p685 q685
                              cases e685
                              have qi685 : (0 < l0.length) = True := eq_true (by omega)
                              (try rw [show ((0 : Int)).toNat = 0 from rfl] at hx685_0)
                              (try rw [show 0 * 2 = 0 from rfl] at hx685_0)
                              (try rw [Addr.add_zero'] at hx685_0)
                              (try rw [show ((0 : Int)).toNat = 0 from rfl] at hx685_1)
                              (try rw [show 0 * 2 = 0 from rfl] at hx685_1)
                              (try rw [Addr.add_zero'] at hx685_1)
                              replace hx685_0 := (HB.out.cell (World.block_lt_of_cell? w _ hx685_0)).trans hx685_0
                              replace hx685_1 := (HB.out.cell (World.block_lt_of_cell? w _ hx685_1)).trans hx685_1
                              replace p685 := eq_true p685
                              replace q685 := eq_true q685
                              have p686 : 0 ≤ (0 : Int) := (by omega)
                              have q686 : 0 < (l1.length : Int) := of_decide_eq_true (by first | (with_reducible assumption) | assumption)
                              obtain ⟨ad686, e686, hx686_0, hx686_1⟩ := at_T57 HR1.out 0 p686 q686
                              cases e686
                              have qi686 : (0 < l1.length) = True := eq_true (by omega)
                              (try rw [show ((0 : Int)).toNat = 0 from rfl] at hx686_0)
                              (try rw [show 0 * 2 = 0 from rfl] at hx686_0)
                              (try rw [Addr.add_zero'] at hx686_0)
                              (try rw [show ((0 : Int)).toNat = 0 from rfl] at hx686_1)
                              (try rw [show 0 * 2 = 0 from rfl] at hx686_1)
                              (try rw [Addr.add_zero'] at hx686_1)
                              replace hx686_0 := (HB.out.cell (World.block_lt_of_cell? w _ hx686_0)).trans hx686_0
                              replace hx686_1 := (HB.out.cell (World.block_lt_of_cell? w _ hx686_1)).trans hx686_1
                              replace p686 := eq_true p686
                              replace q686 := eq_true q686
                              have p687 : 0 ≤ ((ji114) : Int) := of_decide_eq_true (by first | (with_reducible assumption) | assumption)
                              have q687 : (ji114) < (l0.length : Int) := of_decide_eq_true (by first | (with_reducible assumption) | assumption)
                              obtain ⟨ad687, e687, hx687_0, hx687_1⟩ := at_T57 HR0.out (ji114) p687 q687
                              obtain rfl : ad685 = ad687 := (by injection e687)
                              replace hx687_0 := (HB.out.cell (World.block_lt_of_cell? w _ hx687_0)).trans hx687_0
                              replace hx687_1 := (HB.out.cell (World.block_lt_of_cell? w _ hx687_1)).trans hx687_1
                              replace p687 := eq_true p687
                              replace q687 := eq_true q687
                              have p688 : 0 ≤ ((ji117) : Int) := of_decide_eq_true (by first | (with_reducible assumption) | assumption)
                              have q688 : (ji117) < (l1.length : Int) := of_decide_eq_true (by first | (with_reducible assumption) | assumption)
                              obtain ⟨ad688, e688, hx688_0, hx688_1⟩ := at_T57 HR1.out (ji117) p688 q688
                              obtain rfl : ad686 = ad688 := (by injection e688)
                              replace hx688_0 := (HB.out.cell (World.block_lt_of_cell? w _ hx688_0)).trans hx688_0
                              replace hx688_1 := (HB.out.cell (World.block_lt_of_cell? w _ hx688_1)).trans hx688_1
                              replace p688 := eq_true p688
                              replace q688 := eq_true q688
                              go_wp2
                              repeat (go_quiet (fail); try go_wp2)
                              go_meet
                              case rel => exact ⟨_, ((!(((rd_T57 l0 (ji114)).f0) == ((rd_T57 l1 (ji117)).f0)) || (!(((rd_T57 l0 (ji114)).f1) == ((rd_T57 l1 (ji117)).f1))))), (by first | rfl | (simp; done) | (simp only [← hji114, ← hji117] <;> (first | rfl | simp)) | (simp [*]; done)), H', ⟨by have := HJ6.out; have := HJ17.out; have := HJ25.out; have := HJ29.out; have := HJ69.out; have := HJ78.out; have := HJ91.out; have := HJ97.out; first | omega | exact Nat.le_refl _⟩, ⟨by repeat (first | (with_reducible first | exact HB.out | apply below_alloc | apply pw_below_drewN | apply below_drew1) | exact HB.out)⟩⟩
                             ·
                              rw [if_neg c119] at H
                              exact absurd H (by simp)
                            ·
                             rw [if_neg c118] at H
                             exact absurd H (by simp)
                           ·
                            rw [if_neg c116] at H
                            exact absurd H (by simp)
                          ·
                           rw [if_neg c115] at H
                           exact absurd H (by simp)
                        ·
                         rw [if_neg c112] at H
                         exact absurd H (by simp)
                       ·
                        rw [if_neg c111] at H
                        exact absurd H (by simp)
                      case rest => as_aux_lemma =>
                       clear HC110
                       try clear c1
                       try clear c2
                       try clear p2
                       try clear c3
                       try clear c4
                       try clear c5
                       try clear c6
                       try clear p6
                       try clear q6
                       try clear hx6
                       try clear qi6
                       try clear c7
                       try clear c8
                       try clear c9
                       try clear c10
                       try clear c11
                       try clear c12
                       try clear c14
                       try clear c22
                       try clear c22b0
                       try clear c22b1
                       try clear c23
                       try clear c23b0
                       try clear c23b1
                       try clear c24
                       try clear c24b0
                       try clear c24b1
                       try clear c25
                       try clear c28
                       try clear c31
                       try clear c40
                       try clear c42
                       try clear c42b0
                       try clear c42b1
                       try clear c43
                       try clear c43b0
                       try clear c43b1
                       try clear c44
                       try clear c44b0
                       try clear c45
                       try clear c47
                       try clear c47b0
                       try clear c48
                       try clear c51
                       try clear c51b0
                       try clear c52
                       try clear c55
                       try clear c58
                       try clear c61
                       try clear p64
                       try clear c65
                       try clear c66
                       try clear c66b0
                       try clear c67
                       try clear c68
                       try clear p68
                       try clear q68
                       try clear hx68
                       try clear qi68
                       try clear c69
                       try clear c73
                       try clear c73b0
                       try clear c73b1
                       try clear c76
                       try clear c82
                       try clear c82b0
                       try clear c82b1
                       try clear c83
                       try clear c83b0
                       try clear c83b1
                       try clear c84
                       try clear c91
                       try clear c95
                       try clear c95b0
                       try clear c95b1
                       try clear c99
                       try clear c105
                       try clear c105b0
                       try clear c105b1
                       try clear c106
                       try clear c106b0
                       try clear c106b1
                       try clear c107
                       try clear c108
                       try clear c109
                       try clear c111
                       try clear c111b0
                       try clear c111b1
                       try clear c112
                       try clear c112b0
                       try clear c112b1
                       try clear c113
                       try clear c113b0
                       try clear c115
                       try clear c115b0
                       try clear c116
                       try clear c116b0
                       try clear c118
                       try clear c118b0
                       try clear c119
                       try clear c119b0
                       try clear hcz37_0
                       try clear hcz37_1
                       try clear hcz41_0
                       try clear hcz41_1
                       try clear hcz46_0
                       try clear hcz46_1
                       try clear hcz49_0
                       try clear hcz49_1
                       try clear hcz50_0
                       try clear hcz50_1
                       try clear hcz53_0
                       try clear hcz53_1
                       try clear hcz54_0
                       try clear hcz54_1
                       try clear hcz56_0
                       try clear hcz56_1
                       try clear hcz57_0
                       try clear hcz57_1
                       try clear hcz62_0
                       try clear hcz62_1
                       try clear hcz63_0
                       try clear hcz63_1
                       try clear hfz37_0
                       try clear hfz37_1
                       try clear hfz41_0
                       try clear hfz41_1
                       try clear hfz46_0
                       try clear hfz46_1
                       try clear hfz49_0
                       try clear hfz49_1
                       try clear hfz50_0
                       try clear hfz50_1
                       try clear hfz53_0
                       try clear hfz53_1
                       try clear hfz54_0
                       try clear hfz54_1
                       try clear hfz56_0
                       try clear hfz56_1
                       try clear hfz57_0
                       try clear hfz57_1
                       try clear hfz62_0
                       try clear hfz62_1
                       try clear hfz63_0
                       try clear hfz63_1
                       try clear hx685_0
                       try clear hx685_1
                       try clear hx686_0
                       try clear hx686_1
                       try clear hx687_0
                       try clear hx687_1
                       try clear hx688_0
                       try clear hx688_1
                       try clear p2
                       try clear p685
                       try clear p686
                       try clear p687
                       try clear p688
                       try clear q685
                       try clear q686
                       try clear q687
                       try clear q688
                       obtain ⟨kq, x236_109, rfl, HA, HJ109, HB⟩ := hcut
                       cases kq with
                       | zero => exact absurd HA.out (by simp [law_CurveBelow.j11])
                       | succ kj109 =>
                        have H := HA.out
                        clear HA
                        simp only [law_CurveBelow.j11] at H
                        by_cases c120 : x236_109 = true
                        ·
                         subst c120
                         have H1 : (some true) = some r := by rw [if_pos rfl] at H; exact H
                         clear H
                         have H := H1
                         clear H1
                         obtain rfl := Option.some.inj H
                         go_wp2
                         repeat (go_quiet (fail); try go_wp2)
                         go_ret
                         exact ⟨by first | rfl | (simp [errW_none, errW_some] <;> rfl) | (simp [*, errW_none, errW_some] <;> rfl), by repeat (first | (with_reducible first | exact HB.out | apply below_alloc | apply pw_below_drewN | apply below_drew1) | exact HB.out)⟩
                        ·
                         replace c120 := Bool.eq_false_iff.mpr c120
                         subst c120
                         have H1 : ((curve_Turned.f l0).bind fun bt689 => ((curve_Turned.f l1).bind fun bt693 => ((curve_Below.f bt693.1 bt689.1).bind fun bt697 => (if bt689.2 = 0 then (if bt693.2 = 0 then (if bt697.2 = 0 then (some (bt697.1 == t648)) else (some false)) else (some false)) else (some false))))) = some r := by rw [if_neg (show ¬ (false = true) by decide)] at H; exact H
                         clear H
                         have H := H1
                         clear H1
                         replace H := Option.bind_eq_some_iff.mp H
                         obtain ⟨⟨t689, t690⟩, A1210, H⟩ := H
                         replace H : ((curve_Turned.f l1).bind fun bt693 => ((curve_Below.f bt693.1 t689).bind fun bt697 => (if t690 = 0 then (if bt693.2 = 0 then (if bt697.2 = 0 then (some (bt697.1 == t648)) else (some false)) else (some false)) else (some false)))) = some r := H
                         have A121 := Aside0.mk A1210
                         clear A1210
                         replace H := Option.bind_eq_some_iff.mp H
                         obtain ⟨⟨t693, t694⟩, A1220, H⟩ := H
                         replace H : ((curve_Below.f t693 t689).bind fun bt697 => (if t690 = 0 then (if t694 = 0 then (if bt697.2 = 0 then (some (bt697.1 == t648)) else (some false)) else (some false)) else (some false))) = some r := H
                         have A122 := Aside0.mk A1220
                         clear A1220
                         replace H := Option.bind_eq_some_iff.mp H
                         obtain ⟨⟨t697, t698⟩, A1230, H⟩ := H
                         replace H : (if t690 = 0 then (if t694 = 0 then (if t698 = 0 then (some (t697 == t648)) else (some false)) else (some false)) else (some false)) = some r := H
                         have A123 := Aside0.mk A1230
                         clear A1230
                         by_cases c124 : t690 = 0
                         ·
                          rw [if_pos c124] at H
                          have c124b0 : (t690 == 0) = true := beq_iff_eq.mpr c124
                          have c124b1 : (t690 != 0) = false := bne_eq_false_iff_eq.mpr c124
                          clear c124
                          by_cases c125 : t694 = 0
                          ·
                           rw [if_pos c125] at H
                           have c125b0 : (t694 == 0) = true := beq_iff_eq.mpr c125
                           have c125b1 : (t694 != 0) = false := bne_eq_false_iff_eq.mpr c125
                           clear c125
                           by_cases c126 : t698 = 0
                           ·
                            rw [if_pos c126] at H
                            have c126b0 : (t698 == 0) = true := beq_iff_eq.mpr c126
                            have c126b1 : (t698 != 0) = false := bne_eq_false_iff_eq.mpr c126
                            clear c126
                            obtain rfl := Option.some.inj H
                            go_wp2_with (first | (go_at_call 52; (with_reducible refine (curve_Turned.calls _ _ l0 t689 t690 _ ?side1 ?side2 A121.out).mono ?_); (case side1 => repeat (first | exact (Kd.C_below HR0.out HB.out) | (with_reducible refine Kd.C_alloc ?_ _) | (with_reducible refine Kd.C_drewN ?_ _) | (with_reducible refine Kd.C_drew ?_))); (case side2 => exact HC0.out); rintro e w127 ⟨v691, rfl, ho0, hb⟩; have n0_ := Aside0.mk (Kd.R_lower ho0 (below_size (by repeat (first | (with_reducible first | exact HB.out | apply below_alloc | apply pw_below_drewN | apply below_drew1) | exact HB.out)))); have n1_ := Aside0.mk (below_step (by repeat (first | (with_reducible first | exact HB.out | apply below_alloc | apply pw_below_drewN | apply below_drew1) | exact HB.out)) hb); clear HB; have HO692 := n0_; have HB := n1_; clear n0_ n1_; (try clear hb); (try clear hb2); (try clear hk); (try clear hi); (try clear ho0)) | (go_at_call 52; (with_reducible refine (curve_Turned.calls _ _ l1 t693 t694 _ ?side1 ?side2 A122.out).mono ?_); (case side1 => repeat (first | exact (Kd.C_below HR1.out HB.out) | (with_reducible refine Kd.C_alloc ?_ _) | (with_reducible refine Kd.C_drewN ?_ _) | (with_reducible refine Kd.C_drew ?_))); (case side2 => exact HC1.out); rintro e w128 ⟨v695, rfl, ho0, hb⟩; have n0_ := Aside0.mk (Kd.R_elder' (by (with_reducible repeat (first | apply Kd.R_alloc | apply Kd.R_drewN | apply Kd.R_drew)); exact HO692.out) (Kd.R_base ho0) hb); have n1_ := Aside0.mk (Kd.R_lower (Kd.R_new' ho0 (Kd.R_lt (by (with_reducible repeat (first | apply Kd.R_alloc | apply Kd.R_drewN | apply Kd.R_drew)); exact HO692.out))) (below_size (by repeat (first | (with_reducible first | exact HB.out | apply below_alloc | apply pw_below_drewN | apply below_drew1) | exact HB.out)))); have n2_ := Aside0.mk (below_step (by repeat (first | (with_reducible first | exact HB.out | apply below_alloc | apply pw_below_drewN | apply below_drew1) | exact HB.out)) hb); clear HO692; clear HB; have HO692 := n0_; have HO696 := n1_; have HB := n2_; clear n0_ n1_ n2_; (try clear hb); (try clear hb2); (try clear hk); (try clear hi); (try clear ho0); obtain ⟨Ao129, co129, eo129⟩ := Kd.R_slice HO696.out; subst eo129; obtain ⟨Ao130, co130, eo130⟩ := Kd.R_slice HO692.out; subst eo130) | (go_at_call 38; (with_reducible refine (curve_Below.calls _ _ t693 _ _ t689 t697 t698 _ ?side1 ?side2 ?side3 ?side4 A123.out).mono ?_); (case side1 => repeat (first | exact (Kd.R_reads' HO696.out).2.2 | (with_reducible refine Kd.C_alloc ?_ _) | (with_reducible refine Kd.C_drewN ?_ _) | (with_reducible refine Kd.C_drew ?_))); (case side2 => exact (Kd.R_reads' HO696.out).2.1); (case side3 => repeat (first | exact (Kd.R_reads' HO692.out).2.2 | (with_reducible refine Kd.C_alloc ?_ _) | (with_reducible refine Kd.C_drewN ?_ _) | (with_reducible refine Kd.C_drew ?_))); (case side4 => exact (Kd.R_reads' HO692.out).2.1); rintro e w131 ⟨rfl, hb⟩; have n0_ := Aside0.mk (Kd.R_below (by (with_reducible repeat (first | apply Kd.R_alloc | apply Kd.R_drewN | apply Kd.R_drew)); exact HO692.out) hb); have n1_ := Aside0.mk (Kd.R_below (by (with_reducible repeat (first | apply Kd.R_alloc | apply Kd.R_drewN | apply Kd.R_drew)); exact HO696.out) hb); have n2_ := Aside0.mk (below_step (by repeat (first | (with_reducible first | exact HB.out | apply below_alloc | apply pw_below_drewN | apply below_drew1) | exact HB.out)) hb); clear HO692; clear HO696; clear HB; have HO692 := n0_; have HO696 := n1_; have HB := n2_; clear n0_ n1_ n2_; (try clear hb); (try clear hb2); (try clear hk); (try clear hi)))
                            repeat (go_quiet (first | (go_at_call 52; (with_reducible refine (curve_Turned.calls _ _ l0 t689 t690 _ ?side1 ?side2 A121.out).mono ?_); (case side1 => repeat (first | exact (Kd.C_below HR0.out HB.out) | (with_reducible refine Kd.C_alloc ?_ _) | (with_reducible refine Kd.C_drewN ?_ _) | (with_reducible refine Kd.C_drew ?_))); (case side2 => exact HC0.out); rintro e w127 ⟨v691, rfl, ho0, hb⟩; have n0_ := Aside0.mk (Kd.R_lower ho0 (below_size (by repeat (first | (with_reducible first | exact HB.out | apply below_alloc | apply pw_below_drewN | apply below_drew1) | exact HB.out)))); have n1_ := Aside0.mk (below_step (by repeat (first | (with_reducible first | exact HB.out | apply below_alloc | apply pw_below_drewN | apply below_drew1) | exact HB.out)) hb); clear HB; have HO692 := n0_; have HB := n1_; clear n0_ n1_; (try clear hb); (try clear hb2); (try clear hk); (try clear hi); (try clear ho0)) | (go_at_call 52; (with_reducible refine (curve_Turned.calls _ _ l1 t693 t694 _ ?side1 ?side2 A122.out).mono ?_); (case side1 => repeat (first | exact (Kd.C_below HR1.out HB.out) | (with_reducible refine Kd.C_alloc ?_ _) | (with_reducible refine Kd.C_drewN ?_ _) | (with_reducible refine Kd.C_drew ?_))); (case side2 => exact HC1.out); rintro e w128 ⟨v695, rfl, ho0, hb⟩; have n0_ := Aside0.mk (Kd.R_elder' (by (with_reducible repeat (first | apply Kd.R_alloc | apply Kd.R_drewN | apply Kd.R_drew)); exact HO692.out) (Kd.R_base ho0) hb); have n1_ := Aside0.mk (Kd.R_lower (Kd.R_new' ho0 (Kd.R_lt (by (with_reducible repeat (first | apply Kd.R_alloc | apply Kd.R_drewN | apply Kd.R_drew)); exact HO692.out))) (below_size (by repeat (first | (with_reducible first | exact HB.out | apply below_alloc | apply pw_below_drewN | apply below_drew1) | exact HB.out)))); have n2_ := Aside0.mk (below_step (by repeat (first | (with_reducible first | exact HB.out | apply below_alloc | apply pw_below_drewN | apply below_drew1) | exact HB.out)) hb); clear HO692; clear HB; have HO692 := n0_; have HO696 := n1_; have HB := n2_; clear n0_ n1_ n2_; (try clear hb); (try clear hb2); (try clear hk); (try clear hi); (try clear ho0); obtain ⟨Ao129, co129, eo129⟩ := Kd.R_slice HO696.out; subst eo129; obtain ⟨Ao130, co130, eo130⟩ := Kd.R_slice HO692.out; subst eo130) | (go_at_call 38; (with_reducible refine (curve_Below.calls _ _ t693 _ _ t689 t697 t698 _ ?side1 ?side2 ?side3 ?side4 A123.out).mono ?_); (case side1 => repeat (first | exact (Kd.R_reads' HO696.out).2.2 | (with_reducible refine Kd.C_alloc ?_ _) | (with_reducible refine Kd.C_drewN ?_ _) | (with_reducible refine Kd.C_drew ?_))); (case side2 => exact (Kd.R_reads' HO696.out).2.1); (case side3 => repeat (first | exact (Kd.R_reads' HO692.out).2.2 | (with_reducible refine Kd.C_alloc ?_ _) | (with_reducible refine Kd.C_drewN ?_ _) | (with_reducible refine Kd.C_drew ?_))); (case side4 => exact (Kd.R_reads' HO692.out).2.1); rintro e w131 ⟨rfl, hb⟩; have n0_ := Aside0.mk (Kd.R_below (by (with_reducible repeat (first | apply Kd.R_alloc | apply Kd.R_drewN | apply Kd.R_drew)); exact HO692.out) hb); have n1_ := Aside0.mk (Kd.R_below (by (with_reducible repeat (first | apply Kd.R_alloc | apply Kd.R_drewN | apply Kd.R_drew)); exact HO696.out) hb); have n2_ := Aside0.mk (below_step (by repeat (first | (with_reducible first | exact HB.out | apply below_alloc | apply pw_below_drewN | apply below_drew1) | exact HB.out)) hb); clear HO692; clear HO696; clear HB; have HO692 := n0_; have HO696 := n1_; have HB := n2_; clear n0_ n1_ n2_; (try clear hb); (try clear hb2); (try clear hk); (try clear hi))); try go_wp2_with (first | (go_at_call 52; (with_reducible refine (curve_Turned.calls _ _ l0 t689 t690 _ ?side1 ?side2 A121.out).mono ?_); (case side1 => repeat (first | exact (Kd.C_below HR0.out HB.out) | (with_reducible refine Kd.C_alloc ?_ _) | (with_reducible refine Kd.C_drewN ?_ _) | (with_reducible refine Kd.C_drew ?_))); (case side2 => exact HC0.out); rintro e w127 ⟨v691, rfl, ho0, hb⟩; have n0_ := Aside0.mk (Kd.R_lower ho0 (below_size (by repeat (first | (with_reducible first | exact HB.out | apply below_alloc | apply pw_below_drewN | apply below_drew1) | exact HB.out)))); have n1_ := Aside0.mk (below_step (by repeat (first | (with_reducible first | exact HB.out | apply below_alloc | apply pw_below_drewN | apply below_drew1) | exact HB.out)) hb); clear HB; have HO692 := n0_; have HB := n1_; clear n0_ n1_; (try clear hb); (try clear hb2); (try clear hk); (try clear hi); (try clear ho0)) | (go_at_call 52; (with_reducible refine (curve_Turned.calls _ _ l1 t693 t694 _ ?side1 ?side2 A122.out).mono ?_); (case side1 => repeat (first | exact (Kd.C_below HR1.out HB.out) | (with_reducible refine Kd.C_alloc ?_ _) | (with_reducible refine Kd.C_drewN ?_ _) | (with_reducible refine Kd.C_drew ?_))); (case side2 => exact HC1.out); rintro e w128 ⟨v695, rfl, ho0, hb⟩; have n0_ := Aside0.mk (Kd.R_elder' (by (with_reducible repeat (first | apply Kd.R_alloc | apply Kd.R_drewN | apply Kd.R_drew)); exact HO692.out) (Kd.R_base ho0) hb); have n1_ := Aside0.mk (Kd.R_lower (Kd.R_new' ho0 (Kd.R_lt (by (with_reducible repeat (first | apply Kd.R_alloc | apply Kd.R_drewN | apply Kd.R_drew)); exact HO692.out))) (below_size (by repeat (first | (with_reducible first | exact HB.out | apply below_alloc | apply pw_below_drewN | apply below_drew1) | exact HB.out)))); have n2_ := Aside0.mk (below_step (by repeat (first | (with_reducible first | exact HB.out | apply below_alloc | apply pw_below_drewN | apply below_drew1) | exact HB.out)) hb); clear HO692; clear HB; have HO692 := n0_; have HO696 := n1_; have HB := n2_; clear n0_ n1_ n2_; (try clear hb); (try clear hb2); (try clear hk); (try clear hi); (try clear ho0); obtain ⟨Ao129, co129, eo129⟩ := Kd.R_slice HO696.out; subst eo129; obtain ⟨Ao130, co130, eo130⟩ := Kd.R_slice HO692.out; subst eo130) | (go_at_call 38; (with_reducible refine (curve_Below.calls _ _ t693 _ _ t689 t697 t698 _ ?side1 ?side2 ?side3 ?side4 A123.out).mono ?_); (case side1 => repeat (first | exact (Kd.R_reads' HO696.out).2.2 | (with_reducible refine Kd.C_alloc ?_ _) | (with_reducible refine Kd.C_drewN ?_ _) | (with_reducible refine Kd.C_drew ?_))); (case side2 => exact (Kd.R_reads' HO696.out).2.1); (case side3 => repeat (first | exact (Kd.R_reads' HO692.out).2.2 | (with_reducible refine Kd.C_alloc ?_ _) | (with_reducible refine Kd.C_drewN ?_ _) | (with_reducible refine Kd.C_drew ?_))); (case side4 => exact (Kd.R_reads' HO692.out).2.1); rintro e w131 ⟨rfl, hb⟩; have n0_ := Aside0.mk (Kd.R_below (by (with_reducible repeat (first | apply Kd.R_alloc | apply Kd.R_drewN | apply Kd.R_drew)); exact HO692.out) hb); have n1_ := Aside0.mk (Kd.R_below (by (with_reducible repeat (first | apply Kd.R_alloc | apply Kd.R_drewN | apply Kd.R_drew)); exact HO696.out) hb); have n2_ := Aside0.mk (below_step (by repeat (first | (with_reducible first | exact HB.out | apply below_alloc | apply pw_below_drewN | apply below_drew1) | exact HB.out)) hb); clear HO692; clear HO696; clear HB; have HO692 := n0_; have HO696 := n1_; have HB := n2_; clear n0_ n1_ n2_; (try clear hb); (try clear hb2); (try clear hk); (try clear hi))))
                            go_ret
                            exact ⟨by first | rfl | (simp [errW_none, errW_some] <;> rfl) | (simp [*, errW_none, errW_some] <;> rfl), by repeat (first | (with_reducible first | exact HB.out | apply below_alloc | apply pw_below_drewN | apply below_drew1) | exact HB.out)⟩
                           ·
                            rw [if_neg c126] at H
                            have c126b0 : (t698 == 0) = false := beq_eq_false_iff_ne.mpr c126
                            have c126b1 : (t698 != 0) = true := bne_iff_ne.mpr c126
                            obtain rfl := Option.some.inj H
                            go_wp2_with (first | (go_at_call 52; (with_reducible refine (curve_Turned.calls _ _ l0 t689 t690 _ ?side1 ?side2 A121.out).mono ?_); (case side1 => repeat (first | exact (Kd.C_below HR0.out HB.out) | (with_reducible refine Kd.C_alloc ?_ _) | (with_reducible refine Kd.C_drewN ?_ _) | (with_reducible refine Kd.C_drew ?_))); (case side2 => exact HC0.out); rintro e w132 ⟨v691, rfl, ho0, hb⟩; have n0_ := Aside0.mk (Kd.R_lower ho0 (below_size (by repeat (first | (with_reducible first | exact HB.out | apply below_alloc | apply pw_below_drewN | apply below_drew1) | exact HB.out)))); have n1_ := Aside0.mk (below_step (by repeat (first | (with_reducible first | exact HB.out | apply below_alloc | apply pw_below_drewN | apply below_drew1) | exact HB.out)) hb); clear HB; have HO692 := n0_; have HB := n1_; clear n0_ n1_; (try clear hb); (try clear hb2); (try clear hk); (try clear hi); (try clear ho0)) | (go_at_call 52; (with_reducible refine (curve_Turned.calls _ _ l1 t693 t694 _ ?side1 ?side2 A122.out).mono ?_); (case side1 => repeat (first | exact (Kd.C_below HR1.out HB.out) | (with_reducible refine Kd.C_alloc ?_ _) | (with_reducible refine Kd.C_drewN ?_ _) | (with_reducible refine Kd.C_drew ?_))); (case side2 => exact HC1.out); rintro e w133 ⟨v695, rfl, ho0, hb⟩; have n0_ := Aside0.mk (Kd.R_elder' (by (with_reducible repeat (first | apply Kd.R_alloc | apply Kd.R_drewN | apply Kd.R_drew)); exact HO692.out) (Kd.R_base ho0) hb); have n1_ := Aside0.mk (Kd.R_lower (Kd.R_new' ho0 (Kd.R_lt (by (with_reducible repeat (first | apply Kd.R_alloc | apply Kd.R_drewN | apply Kd.R_drew)); exact HO692.out))) (below_size (by repeat (first | (with_reducible first | exact HB.out | apply below_alloc | apply pw_below_drewN | apply below_drew1) | exact HB.out)))); have n2_ := Aside0.mk (below_step (by repeat (first | (with_reducible first | exact HB.out | apply below_alloc | apply pw_below_drewN | apply below_drew1) | exact HB.out)) hb); clear HO692; clear HB; have HO692 := n0_; have HO696 := n1_; have HB := n2_; clear n0_ n1_ n2_; (try clear hb); (try clear hb2); (try clear hk); (try clear hi); (try clear ho0); obtain ⟨Ao134, co134, eo134⟩ := Kd.R_slice HO696.out; subst eo134; obtain ⟨Ao135, co135, eo135⟩ := Kd.R_slice HO692.out; subst eo135) | (go_at_call 38; (with_reducible refine (curve_Below.calls _ _ t693 _ _ t689 t697 t698 _ ?side1 ?side2 ?side3 ?side4 A123.out).mono ?_); (case side1 => repeat (first | exact (Kd.R_reads' HO696.out).2.2 | (with_reducible refine Kd.C_alloc ?_ _) | (with_reducible refine Kd.C_drewN ?_ _) | (with_reducible refine Kd.C_drew ?_))); (case side2 => exact (Kd.R_reads' HO696.out).2.1); (case side3 => repeat (first | exact (Kd.R_reads' HO692.out).2.2 | (with_reducible refine Kd.C_alloc ?_ _) | (with_reducible refine Kd.C_drewN ?_ _) | (with_reducible refine Kd.C_drew ?_))); (case side4 => exact (Kd.R_reads' HO692.out).2.1); rintro e w136 ⟨rfl, hb⟩; have n0_ := Aside0.mk (Kd.R_below (by (with_reducible repeat (first | apply Kd.R_alloc | apply Kd.R_drewN | apply Kd.R_drew)); exact HO692.out) hb); have n1_ := Aside0.mk (Kd.R_below (by (with_reducible repeat (first | apply Kd.R_alloc | apply Kd.R_drewN | apply Kd.R_drew)); exact HO696.out) hb); have n2_ := Aside0.mk (below_step (by repeat (first | (with_reducible first | exact HB.out | apply below_alloc | apply pw_below_drewN | apply below_drew1) | exact HB.out)) hb); clear HO692; clear HO696; clear HB; have HO692 := n0_; have HO696 := n1_; have HB := n2_; clear n0_ n1_ n2_; (try clear hb); (try clear hb2); (try clear hk); (try clear hi)))
                            repeat (go_quiet (first | (go_at_call 52; (with_reducible refine (curve_Turned.calls _ _ l0 t689 t690 _ ?side1 ?side2 A121.out).mono ?_); (case side1 => repeat (first | exact (Kd.C_below HR0.out HB.out) | (with_reducible refine Kd.C_alloc ?_ _) | (with_reducible refine Kd.C_drewN ?_ _) | (with_reducible refine Kd.C_drew ?_))); (case side2 => exact HC0.out); rintro e w132 ⟨v691, rfl, ho0, hb⟩; have n0_ := Aside0.mk (Kd.R_lower ho0 (below_size (by repeat (first | (with_reducible first | exact HB.out | apply below_alloc | apply pw_below_drewN | apply below_drew1) | exact HB.out)))); have n1_ := Aside0.mk (below_step (by repeat (first | (with_reducible first | exact HB.out | apply below_alloc | apply pw_below_drewN | apply below_drew1) | exact HB.out)) hb); clear HB; have HO692 := n0_; have HB := n1_; clear n0_ n1_; (try clear hb); (try clear hb2); (try clear hk); (try clear hi); (try clear ho0)) | (go_at_call 52; (with_reducible refine (curve_Turned.calls _ _ l1 t693 t694 _ ?side1 ?side2 A122.out).mono ?_); (case side1 => repeat (first | exact (Kd.C_below HR1.out HB.out) | (with_reducible refine Kd.C_alloc ?_ _) | (with_reducible refine Kd.C_drewN ?_ _) | (with_reducible refine Kd.C_drew ?_))); (case side2 => exact HC1.out); rintro e w133 ⟨v695, rfl, ho0, hb⟩; have n0_ := Aside0.mk (Kd.R_elder' (by (with_reducible repeat (first | apply Kd.R_alloc | apply Kd.R_drewN | apply Kd.R_drew)); exact HO692.out) (Kd.R_base ho0) hb); have n1_ := Aside0.mk (Kd.R_lower (Kd.R_new' ho0 (Kd.R_lt (by (with_reducible repeat (first | apply Kd.R_alloc | apply Kd.R_drewN | apply Kd.R_drew)); exact HO692.out))) (below_size (by repeat (first | (with_reducible first | exact HB.out | apply below_alloc | apply pw_below_drewN | apply below_drew1) | exact HB.out)))); have n2_ := Aside0.mk (below_step (by repeat (first | (with_reducible first | exact HB.out | apply below_alloc | apply pw_below_drewN | apply below_drew1) | exact HB.out)) hb); clear HO692; clear HB; have HO692 := n0_; have HO696 := n1_; have HB := n2_; clear n0_ n1_ n2_; (try clear hb); (try clear hb2); (try clear hk); (try clear hi); (try clear ho0); obtain ⟨Ao134, co134, eo134⟩ := Kd.R_slice HO696.out; subst eo134; obtain ⟨Ao135, co135, eo135⟩ := Kd.R_slice HO692.out; subst eo135) | (go_at_call 38; (with_reducible refine (curve_Below.calls _ _ t693 _ _ t689 t697 t698 _ ?side1 ?side2 ?side3 ?side4 A123.out).mono ?_); (case side1 => repeat (first | exact (Kd.R_reads' HO696.out).2.2 | (with_reducible refine Kd.C_alloc ?_ _) | (with_reducible refine Kd.C_drewN ?_ _) | (with_reducible refine Kd.C_drew ?_))); (case side2 => exact (Kd.R_reads' HO696.out).2.1); (case side3 => repeat (first | exact (Kd.R_reads' HO692.out).2.2 | (with_reducible refine Kd.C_alloc ?_ _) | (with_reducible refine Kd.C_drewN ?_ _) | (with_reducible refine Kd.C_drew ?_))); (case side4 => exact (Kd.R_reads' HO692.out).2.1); rintro e w136 ⟨rfl, hb⟩; have n0_ := Aside0.mk (Kd.R_below (by (with_reducible repeat (first | apply Kd.R_alloc | apply Kd.R_drewN | apply Kd.R_drew)); exact HO692.out) hb); have n1_ := Aside0.mk (Kd.R_below (by (with_reducible repeat (first | apply Kd.R_alloc | apply Kd.R_drewN | apply Kd.R_drew)); exact HO696.out) hb); have n2_ := Aside0.mk (below_step (by repeat (first | (with_reducible first | exact HB.out | apply below_alloc | apply pw_below_drewN | apply below_drew1) | exact HB.out)) hb); clear HO692; clear HO696; clear HB; have HO692 := n0_; have HO696 := n1_; have HB := n2_; clear n0_ n1_ n2_; (try clear hb); (try clear hb2); (try clear hk); (try clear hi))); try go_wp2_with (first | (go_at_call 52; (with_reducible refine (curve_Turned.calls _ _ l0 t689 t690 _ ?side1 ?side2 A121.out).mono ?_); (case side1 => repeat (first | exact (Kd.C_below HR0.out HB.out) | (with_reducible refine Kd.C_alloc ?_ _) | (with_reducible refine Kd.C_drewN ?_ _) | (with_reducible refine Kd.C_drew ?_))); (case side2 => exact HC0.out); rintro e w132 ⟨v691, rfl, ho0, hb⟩; have n0_ := Aside0.mk (Kd.R_lower ho0 (below_size (by repeat (first | (with_reducible first | exact HB.out | apply below_alloc | apply pw_below_drewN | apply below_drew1) | exact HB.out)))); have n1_ := Aside0.mk (below_step (by repeat (first | (with_reducible first | exact HB.out | apply below_alloc | apply pw_below_drewN | apply below_drew1) | exact HB.out)) hb); clear HB; have HO692 := n0_; have HB := n1_; clear n0_ n1_; (try clear hb); (try clear hb2); (try clear hk); (try clear hi); (try clear ho0)) | (go_at_call 52; (with_reducible refine (curve_Turned.calls _ _ l1 t693 t694 _ ?side1 ?side2 A122.out).mono ?_); (case side1 => repeat (first | exact (Kd.C_below HR1.out HB.out) | (with_reducible refine Kd.C_alloc ?_ _) | (with_reducible refine Kd.C_drewN ?_ _) | (with_reducible refine Kd.C_drew ?_))); (case side2 => exact HC1.out); rintro e w133 ⟨v695, rfl, ho0, hb⟩; have n0_ := Aside0.mk (Kd.R_elder' (by (with_reducible repeat (first | apply Kd.R_alloc | apply Kd.R_drewN | apply Kd.R_drew)); exact HO692.out) (Kd.R_base ho0) hb); have n1_ := Aside0.mk (Kd.R_lower (Kd.R_new' ho0 (Kd.R_lt (by (with_reducible repeat (first | apply Kd.R_alloc | apply Kd.R_drewN | apply Kd.R_drew)); exact HO692.out))) (below_size (by repeat (first | (with_reducible first | exact HB.out | apply below_alloc | apply pw_below_drewN | apply below_drew1) | exact HB.out)))); have n2_ := Aside0.mk (below_step (by repeat (first | (with_reducible first | exact HB.out | apply below_alloc | apply pw_below_drewN | apply below_drew1) | exact HB.out)) hb); clear HO692; clear HB; have HO692 := n0_; have HO696 := n1_; have HB := n2_; clear n0_ n1_ n2_; (try clear hb); (try clear hb2); (try clear hk); (try clear hi); (try clear ho0); obtain ⟨Ao134, co134, eo134⟩ := Kd.R_slice HO696.out; subst eo134; obtain ⟨Ao135, co135, eo135⟩ := Kd.R_slice HO692.out; subst eo135) | (go_at_call 38; (with_reducible refine (curve_Below.calls _ _ t693 _ _ t689 t697 t698 _ ?side1 ?side2 ?side3 ?side4 A123.out).mono ?_); (case side1 => repeat (first | exact (Kd.R_reads' HO696.out).2.2 | (with_reducible refine Kd.C_alloc ?_ _) | (with_reducible refine Kd.C_drewN ?_ _) | (with_reducible refine Kd.C_drew ?_))); (case side2 => exact (Kd.R_reads' HO696.out).2.1); (case side3 => repeat (first | exact (Kd.R_reads' HO692.out).2.2 | (with_reducible refine Kd.C_alloc ?_ _) | (with_reducible refine Kd.C_drewN ?_ _) | (with_reducible refine Kd.C_drew ?_))); (case side4 => exact (Kd.R_reads' HO692.out).2.1); rintro e w136 ⟨rfl, hb⟩; have n0_ := Aside0.mk (Kd.R_below (by (with_reducible repeat (first | apply Kd.R_alloc | apply Kd.R_drewN | apply Kd.R_drew)); exact HO692.out) hb); have n1_ := Aside0.mk (Kd.R_below (by (with_reducible repeat (first | apply Kd.R_alloc | apply Kd.R_drewN | apply Kd.R_drew)); exact HO696.out) hb); have n2_ := Aside0.mk (below_step (by repeat (first | (with_reducible first | exact HB.out | apply below_alloc | apply pw_below_drewN | apply below_drew1) | exact HB.out)) hb); clear HO692; clear HO696; clear HB; have HO692 := n0_; have HO696 := n1_; have HB := n2_; clear n0_ n1_ n2_; (try clear hb); (try clear hb2); (try clear hk); (try clear hi))))
                            go_ret
                            exact ⟨by first | rfl | (simp [errW_none, errW_some] <;> rfl) | (simp [*, errW_none, errW_some] <;> rfl), by repeat (first | (with_reducible first | exact HB.out | apply below_alloc | apply pw_below_drewN | apply below_drew1) | exact HB.out)⟩
                          ·
                           rw [if_neg c125] at H
                           have c125b0 : (t694 == 0) = false := beq_eq_false_iff_ne.mpr c125
                           have c125b1 : (t694 != 0) = true := bne_iff_ne.mpr c125
                           obtain rfl := Option.some.inj H
                           go_wp2_with (first | (go_at_call 52; (with_reducible refine (curve_Turned.calls _ _ l0 t689 t690 _ ?side1 ?side2 A121.out).mono ?_); (case side1 => repeat (first | exact (Kd.C_below HR0.out HB.out) | (with_reducible refine Kd.C_alloc ?_ _) | (with_reducible refine Kd.C_drewN ?_ _) | (with_reducible refine Kd.C_drew ?_))); (case side2 => exact HC0.out); rintro e w137 ⟨v691, rfl, ho0, hb⟩; have n0_ := Aside0.mk (Kd.R_lower ho0 (below_size (by repeat (first | (with_reducible first | exact HB.out | apply below_alloc | apply pw_below_drewN | apply below_drew1) | exact HB.out)))); have n1_ := Aside0.mk (below_step (by repeat (first | (with_reducible first | exact HB.out | apply below_alloc | apply pw_below_drewN | apply below_drew1) | exact HB.out)) hb); clear HB; have HO692 := n0_; have HB := n1_; clear n0_ n1_; (try clear hb); (try clear hb2); (try clear hk); (try clear hi); (try clear ho0)) | (go_at_call 52; (with_reducible refine (curve_Turned.calls _ _ l1 t693 t694 _ ?side1 ?side2 A122.out).mono ?_); (case side1 => repeat (first | exact (Kd.C_below HR1.out HB.out) | (with_reducible refine Kd.C_alloc ?_ _) | (with_reducible refine Kd.C_drewN ?_ _) | (with_reducible refine Kd.C_drew ?_))); (case side2 => exact HC1.out); rintro e w138 ⟨v695, rfl, ho0, hb⟩; have n0_ := Aside0.mk (Kd.R_elder' (by (with_reducible repeat (first | apply Kd.R_alloc | apply Kd.R_drewN | apply Kd.R_drew)); exact HO692.out) (Kd.R_base ho0) hb); have n1_ := Aside0.mk (Kd.R_lower (Kd.R_new' ho0 (Kd.R_lt (by (with_reducible repeat (first | apply Kd.R_alloc | apply Kd.R_drewN | apply Kd.R_drew)); exact HO692.out))) (below_size (by repeat (first | (with_reducible first | exact HB.out | apply below_alloc | apply pw_below_drewN | apply below_drew1) | exact HB.out)))); have n2_ := Aside0.mk (below_step (by repeat (first | (with_reducible first | exact HB.out | apply below_alloc | apply pw_below_drewN | apply below_drew1) | exact HB.out)) hb); clear HO692; clear HB; have HO692 := n0_; have HO696 := n1_; have HB := n2_; clear n0_ n1_ n2_; (try clear hb); (try clear hb2); (try clear hk); (try clear hi); (try clear ho0); obtain ⟨Ao139, co139, eo139⟩ := Kd.R_slice HO696.out; subst eo139; obtain ⟨Ao140, co140, eo140⟩ := Kd.R_slice HO692.out; subst eo140) | (go_at_call 38; (with_reducible refine (curve_Below.calls _ _ t693 _ _ t689 t697 t698 _ ?side1 ?side2 ?side3 ?side4 A123.out).mono ?_); (case side1 => repeat (first | exact (Kd.R_reads' HO696.out).2.2 | (with_reducible refine Kd.C_alloc ?_ _) | (with_reducible refine Kd.C_drewN ?_ _) | (with_reducible refine Kd.C_drew ?_))); (case side2 => exact (Kd.R_reads' HO696.out).2.1); (case side3 => repeat (first | exact (Kd.R_reads' HO692.out).2.2 | (with_reducible refine Kd.C_alloc ?_ _) | (with_reducible refine Kd.C_drewN ?_ _) | (with_reducible refine Kd.C_drew ?_))); (case side4 => exact (Kd.R_reads' HO692.out).2.1); rintro e w141 ⟨rfl, hb⟩; have n0_ := Aside0.mk (Kd.R_below (by (with_reducible repeat (first | apply Kd.R_alloc | apply Kd.R_drewN | apply Kd.R_drew)); exact HO692.out) hb); have n1_ := Aside0.mk (Kd.R_below (by (with_reducible repeat (first | apply Kd.R_alloc | apply Kd.R_drewN | apply Kd.R_drew)); exact HO696.out) hb); have n2_ := Aside0.mk (below_step (by repeat (first | (with_reducible first | exact HB.out | apply below_alloc | apply pw_below_drewN | apply below_drew1) | exact HB.out)) hb); clear HO692; clear HO696; clear HB; have HO692 := n0_; have HO696 := n1_; have HB := n2_; clear n0_ n1_ n2_; (try clear hb); (try clear hb2); (try clear hk); (try clear hi)))
                           repeat (go_quiet (first | (go_at_call 52; (with_reducible refine (curve_Turned.calls _ _ l0 t689 t690 _ ?side1 ?side2 A121.out).mono ?_); (case side1 => repeat (first | exact (Kd.C_below HR0.out HB.out) | (with_reducible refine Kd.C_alloc ?_ _) | (with_reducible refine Kd.C_drewN ?_ _) | (with_reducible refine Kd.C_drew ?_))); (case side2 => exact HC0.out); rintro e w137 ⟨v691, rfl, ho0, hb⟩; have n0_ := Aside0.mk (Kd.R_lower ho0 (below_size (by repeat (first | (with_reducible first | exact HB.out | apply below_alloc | apply pw_below_drewN | apply below_drew1) | exact HB.out)))); have n1_ := Aside0.mk (below_step (by repeat (first | (with_reducible first | exact HB.out | apply below_alloc | apply pw_below_drewN | apply below_drew1) | exact HB.out)) hb); clear HB; have HO692 := n0_; have HB := n1_; clear n0_ n1_; (try clear hb); (try clear hb2); (try clear hk); (try clear hi); (try clear ho0)) | (go_at_call 52; (with_reducible refine (curve_Turned.calls _ _ l1 t693 t694 _ ?side1 ?side2 A122.out).mono ?_); (case side1 => repeat (first | exact (Kd.C_below HR1.out HB.out) | (with_reducible refine Kd.C_alloc ?_ _) | (with_reducible refine Kd.C_drewN ?_ _) | (with_reducible refine Kd.C_drew ?_))); (case side2 => exact HC1.out); rintro e w138 ⟨v695, rfl, ho0, hb⟩; have n0_ := Aside0.mk (Kd.R_elder' (by (with_reducible repeat (first | apply Kd.R_alloc | apply Kd.R_drewN | apply Kd.R_drew)); exact HO692.out) (Kd.R_base ho0) hb); have n1_ := Aside0.mk (Kd.R_lower (Kd.R_new' ho0 (Kd.R_lt (by (with_reducible repeat (first | apply Kd.R_alloc | apply Kd.R_drewN | apply Kd.R_drew)); exact HO692.out))) (below_size (by repeat (first | (with_reducible first | exact HB.out | apply below_alloc | apply pw_below_drewN | apply below_drew1) | exact HB.out)))); have n2_ := Aside0.mk (below_step (by repeat (first | (with_reducible first | exact HB.out | apply below_alloc | apply pw_below_drewN | apply below_drew1) | exact HB.out)) hb); clear HO692; clear HB; have HO692 := n0_; have HO696 := n1_; have HB := n2_; clear n0_ n1_ n2_; (try clear hb); (try clear hb2); (try clear hk); (try clear hi); (try clear ho0); obtain ⟨Ao139, co139, eo139⟩ := Kd.R_slice HO696.out; subst eo139; obtain ⟨Ao140, co140, eo140⟩ := Kd.R_slice HO692.out; subst eo140) | (go_at_call 38; (with_reducible refine (curve_Below.calls _ _ t693 _ _ t689 t697 t698 _ ?side1 ?side2 ?side3 ?side4 A123.out).mono ?_); (case side1 => repeat (first | exact (Kd.R_reads' HO696.out).2.2 | (with_reducible refine Kd.C_alloc ?_ _) | (with_reducible refine Kd.C_drewN ?_ _) | (with_reducible refine Kd.C_drew ?_))); (case side2 => exact (Kd.R_reads' HO696.out).2.1); (case side3 => repeat (first | exact (Kd.R_reads' HO692.out).2.2 | (with_reducible refine Kd.C_alloc ?_ _) | (with_reducible refine Kd.C_drewN ?_ _) | (with_reducible refine Kd.C_drew ?_))); (case side4 => exact (Kd.R_reads' HO692.out).2.1); rintro e w141 ⟨rfl, hb⟩; have n0_ := Aside0.mk (Kd.R_below (by (with_reducible repeat (first | apply Kd.R_alloc | apply Kd.R_drewN | apply Kd.R_drew)); exact HO692.out) hb); have n1_ := Aside0.mk (Kd.R_below (by (with_reducible repeat (first | apply Kd.R_alloc | apply Kd.R_drewN | apply Kd.R_drew)); exact HO696.out) hb); have n2_ := Aside0.mk (below_step (by repeat (first | (with_reducible first | exact HB.out | apply below_alloc | apply pw_below_drewN | apply below_drew1) | exact HB.out)) hb); clear HO692; clear HO696; clear HB; have HO692 := n0_; have HO696 := n1_; have HB := n2_; clear n0_ n1_ n2_; (try clear hb); (try clear hb2); (try clear hk); (try clear hi))); try go_wp2_with (first | (go_at_call 52; (with_reducible refine (curve_Turned.calls _ _ l0 t689 t690 _ ?side1 ?side2 A121.out).mono ?_); (case side1 => repeat (first | exact (Kd.C_below HR0.out HB.out) | (with_reducible refine Kd.C_alloc ?_ _) | (with_reducible refine Kd.C_drewN ?_ _) | (with_reducible refine Kd.C_drew ?_))); (case side2 => exact HC0.out); rintro e w137 ⟨v691, rfl, ho0, hb⟩; have n0_ := Aside0.mk (Kd.R_lower ho0 (below_size (by repeat (first | (with_reducible first | exact HB.out | apply below_alloc | apply pw_below_drewN | apply below_drew1) | exact HB.out)))); have n1_ := Aside0.mk (below_step (by repeat (first | (with_reducible first | exact HB.out | apply below_alloc | apply pw_below_drewN | apply below_drew1) | exact HB.out)) hb); clear HB; have HO692 := n0_; have HB := n1_; clear n0_ n1_; (try clear hb); (try clear hb2); (try clear hk); (try clear hi); (try clear ho0)) | (go_at_call 52; (with_reducible refine (curve_Turned.calls _ _ l1 t693 t694 _ ?side1 ?side2 A122.out).mono ?_); (case side1 => repeat (first | exact (Kd.C_below HR1.out HB.out) | (with_reducible refine Kd.C_alloc ?_ _) | (with_reducible refine Kd.C_drewN ?_ _) | (with_reducible refine Kd.C_drew ?_))); (case side2 => exact HC1.out); rintro e w138 ⟨v695, rfl, ho0, hb⟩; have n0_ := Aside0.mk (Kd.R_elder' (by (with_reducible repeat (first | apply Kd.R_alloc | apply Kd.R_drewN | apply Kd.R_drew)); exact HO692.out) (Kd.R_base ho0) hb); have n1_ := Aside0.mk (Kd.R_lower (Kd.R_new' ho0 (Kd.R_lt (by (with_reducible repeat (first | apply Kd.R_alloc | apply Kd.R_drewN | apply Kd.R_drew)); exact HO692.out))) (below_size (by repeat (first | (with_reducible first | exact HB.out | apply below_alloc | apply pw_below_drewN | apply below_drew1) | exact HB.out)))); have n2_ := Aside0.mk (below_step (by repeat (first | (with_reducible first | exact HB.out | apply below_alloc | apply pw_below_drewN | apply below_drew1) | exact HB.out)) hb); clear HO692; clear HB; have HO692 := n0_; have HO696 := n1_; have HB := n2_; clear n0_ n1_ n2_; (try clear hb); (try clear hb2); (try clear hk); (try clear hi); (try clear ho0); obtain ⟨Ao139, co139, eo139⟩ := Kd.R_slice HO696.out; subst eo139; obtain ⟨Ao140, co140, eo140⟩ := Kd.R_slice HO692.out; subst eo140) | (go_at_call 38; (with_reducible refine (curve_Below.calls _ _ t693 _ _ t689 t697 t698 _ ?side1 ?side2 ?side3 ?side4 A123.out).mono ?_); (case side1 => repeat (first | exact (Kd.R_reads' HO696.out).2.2 | (with_reducible refine Kd.C_alloc ?_ _) | (with_reducible refine Kd.C_drewN ?_ _) | (with_reducible refine Kd.C_drew ?_))); (case side2 => exact (Kd.R_reads' HO696.out).2.1); (case side3 => repeat (first | exact (Kd.R_reads' HO692.out).2.2 | (with_reducible refine Kd.C_alloc ?_ _) | (with_reducible refine Kd.C_drewN ?_ _) | (with_reducible refine Kd.C_drew ?_))); (case side4 => exact (Kd.R_reads' HO692.out).2.1); rintro e w141 ⟨rfl, hb⟩; have n0_ := Aside0.mk (Kd.R_below (by (with_reducible repeat (first | apply Kd.R_alloc | apply Kd.R_drewN | apply Kd.R_drew)); exact HO692.out) hb); have n1_ := Aside0.mk (Kd.R_below (by (with_reducible repeat (first | apply Kd.R_alloc | apply Kd.R_drewN | apply Kd.R_drew)); exact HO696.out) hb); have n2_ := Aside0.mk (below_step (by repeat (first | (with_reducible first | exact HB.out | apply below_alloc | apply pw_below_drewN | apply below_drew1) | exact HB.out)) hb); clear HO692; clear HO696; clear HB; have HO692 := n0_; have HO696 := n1_; have HB := n2_; clear n0_ n1_ n2_; (try clear hb); (try clear hb2); (try clear hk); (try clear hi))))
                           go_ret
                           exact ⟨by first | rfl | (simp [errW_none, errW_some] <;> rfl) | (simp [*, errW_none, errW_some] <;> rfl), by repeat (first | (with_reducible first | exact HB.out | apply below_alloc | apply pw_below_drewN | apply below_drew1) | exact HB.out)⟩
                         ·
                          rw [if_neg c124] at H
                          have c124b0 : (t690 == 0) = false := beq_eq_false_iff_ne.mpr c124
                          have c124b1 : (t690 != 0) = true := bne_iff_ne.mpr c124
                          obtain rfl := Option.some.inj H
                          go_wp2_with (first | (go_at_call 52; (with_reducible refine (curve_Turned.calls _ _ l0 t689 t690 _ ?side1 ?side2 A121.out).mono ?_); (case side1 => repeat (first | exact (Kd.C_below HR0.out HB.out) | (with_reducible refine Kd.C_alloc ?_ _) | (with_reducible refine Kd.C_drewN ?_ _) | (with_reducible refine Kd.C_drew ?_))); (case side2 => exact HC0.out); rintro e w142 ⟨v691, rfl, ho0, hb⟩; have n0_ := Aside0.mk (Kd.R_lower ho0 (below_size (by repeat (first | (with_reducible first | exact HB.out | apply below_alloc | apply pw_below_drewN | apply below_drew1) | exact HB.out)))); have n1_ := Aside0.mk (below_step (by repeat (first | (with_reducible first | exact HB.out | apply below_alloc | apply pw_below_drewN | apply below_drew1) | exact HB.out)) hb); clear HB; have HO692 := n0_; have HB := n1_; clear n0_ n1_; (try clear hb); (try clear hb2); (try clear hk); (try clear hi); (try clear ho0)) | (go_at_call 52; (with_reducible refine (curve_Turned.calls _ _ l1 t693 t694 _ ?side1 ?side2 A122.out).mono ?_); (case side1 => repeat (first | exact (Kd.C_below HR1.out HB.out) | (with_reducible refine Kd.C_alloc ?_ _) | (with_reducible refine Kd.C_drewN ?_ _) | (with_reducible refine Kd.C_drew ?_))); (case side2 => exact HC1.out); rintro e w143 ⟨v695, rfl, ho0, hb⟩; have n0_ := Aside0.mk (Kd.R_elder' (by (with_reducible repeat (first | apply Kd.R_alloc | apply Kd.R_drewN | apply Kd.R_drew)); exact HO692.out) (Kd.R_base ho0) hb); have n1_ := Aside0.mk (Kd.R_lower (Kd.R_new' ho0 (Kd.R_lt (by (with_reducible repeat (first | apply Kd.R_alloc | apply Kd.R_drewN | apply Kd.R_drew)); exact HO692.out))) (below_size (by repeat (first | (with_reducible first | exact HB.out | apply below_alloc | apply pw_below_drewN | apply below_drew1) | exact HB.out)))); have n2_ := Aside0.mk (below_step (by repeat (first | (with_reducible first | exact HB.out | apply below_alloc | apply pw_below_drewN | apply below_drew1) | exact HB.out)) hb); clear HO692; clear HB; have HO692 := n0_; have HO696 := n1_; have HB := n2_; clear n0_ n1_ n2_; (try clear hb); (try clear hb2); (try clear hk); (try clear hi); (try clear ho0); obtain ⟨Ao144, co144, eo144⟩ := Kd.R_slice HO696.out; subst eo144; obtain ⟨Ao145, co145, eo145⟩ := Kd.R_slice HO692.out; subst eo145) | (go_at_call 38; (with_reducible refine (curve_Below.calls _ _ t693 _ _ t689 t697 t698 _ ?side1 ?side2 ?side3 ?side4 A123.out).mono ?_); (case side1 => repeat (first | exact (Kd.R_reads' HO696.out).2.2 | (with_reducible refine Kd.C_alloc ?_ _) | (with_reducible refine Kd.C_drewN ?_ _) | (with_reducible refine Kd.C_drew ?_))); (case side2 => exact (Kd.R_reads' HO696.out).2.1); (case side3 => repeat (first | exact (Kd.R_reads' HO692.out).2.2 | (with_reducible refine Kd.C_alloc ?_ _) | (with_reducible refine Kd.C_drewN ?_ _) | (with_reducible refine Kd.C_drew ?_))); (case side4 => exact (Kd.R_reads' HO692.out).2.1); rintro e w146 ⟨rfl, hb⟩; have n0_ := Aside0.mk (Kd.R_below (by (with_reducible repeat (first | apply Kd.R_alloc | apply Kd.R_drewN | apply Kd.R_drew)); exact HO692.out) hb); have n1_ := Aside0.mk (Kd.R_below (by (with_reducible repeat (first | apply Kd.R_alloc | apply Kd.R_drewN | apply Kd.R_drew)); exact HO696.out) hb); have n2_ := Aside0.mk (below_step (by repeat (first | (with_reducible first | exact HB.out | apply below_alloc | apply pw_below_drewN | apply below_drew1) | exact HB.out)) hb); clear HO692; clear HO696; clear HB; have HO692 := n0_; have HO696 := n1_; have HB := n2_; clear n0_ n1_ n2_; (try clear hb); (try clear hb2); (try clear hk); (try clear hi)))
                          repeat (go_quiet (first | (go_at_call 52; (with_reducible refine (curve_Turned.calls _ _ l0 t689 t690 _ ?side1 ?side2 A121.out).mono ?_); (case side1 => repeat (first | exact (Kd.C_below HR0.out HB.out) | (with_reducible refine Kd.C_alloc ?_ _) | (with_reducible refine Kd.C_drewN ?_ _) | (with_reducible refine Kd.C_drew ?_))); (case side2 => exact HC0.out); rintro e w142 ⟨v691, rfl, ho0, hb⟩; have n0_ := Aside0.mk (Kd.R_lower ho0 (below_size (by repeat (first | (with_reducible first | exact HB.out | apply below_alloc | apply pw_below_drewN | apply below_drew1) | exact HB.out)))); have n1_ := Aside0.mk (below_step (by repeat (first | (with_reducible first | exact HB.out | apply below_alloc | apply pw_below_drewN | apply below_drew1) | exact HB.out)) hb); clear HB; have HO692 := n0_; have HB := n1_; clear n0_ n1_; (try clear hb); (try clear hb2); (try clear hk); (try clear hi); (try clear ho0)) | (go_at_call 52; (with_reducible refine (curve_Turned.calls _ _ l1 t693 t694 _ ?side1 ?side2 A122.out).mono ?_); (case side1 => repeat (first | exact (Kd.C_below HR1.out HB.out) | (with_reducible refine Kd.C_alloc ?_ _) | (with_reducible refine Kd.C_drewN ?_ _) | (with_reducible refine Kd.C_drew ?_))); (case side2 => exact HC1.out); rintro e w143 ⟨v695, rfl, ho0, hb⟩; have n0_ := Aside0.mk (Kd.R_elder' (by (with_reducible repeat (first | apply Kd.R_alloc | apply Kd.R_drewN | apply Kd.R_drew)); exact HO692.out) (Kd.R_base ho0) hb); have n1_ := Aside0.mk (Kd.R_lower (Kd.R_new' ho0 (Kd.R_lt (by (with_reducible repeat (first | apply Kd.R_alloc | apply Kd.R_drewN | apply Kd.R_drew)); exact HO692.out))) (below_size (by repeat (first | (with_reducible first | exact HB.out | apply below_alloc | apply pw_below_drewN | apply below_drew1) | exact HB.out)))); have n2_ := Aside0.mk (below_step (by repeat (first | (with_reducible first | exact HB.out | apply below_alloc | apply pw_below_drewN | apply below_drew1) | exact HB.out)) hb); clear HO692; clear HB; have HO692 := n0_; have HO696 := n1_; have HB := n2_; clear n0_ n1_ n2_; (try clear hb); (try clear hb2); (try clear hk); (try clear hi); (try clear ho0); obtain ⟨Ao144, co144, eo144⟩ := Kd.R_slice HO696.out; subst eo144; obtain ⟨Ao145, co145, eo145⟩ := Kd.R_slice HO692.out; subst eo145) | (go_at_call 38; (with_reducible refine (curve_Below.calls _ _ t693 _ _ t689 t697 t698 _ ?side1 ?side2 ?side3 ?side4 A123.out).mono ?_); (case side1 => repeat (first | exact (Kd.R_reads' HO696.out).2.2 | (with_reducible refine Kd.C_alloc ?_ _) | (with_reducible refine Kd.C_drewN ?_ _) | (with_reducible refine Kd.C_drew ?_))); (case side2 => exact (Kd.R_reads' HO696.out).2.1); (case side3 => repeat (first | exact (Kd.R_reads' HO692.out).2.2 | (with_reducible refine Kd.C_alloc ?_ _) | (with_reducible refine Kd.C_drewN ?_ _) | (with_reducible refine Kd.C_drew ?_))); (case side4 => exact (Kd.R_reads' HO692.out).2.1); rintro e w146 ⟨rfl, hb⟩; have n0_ := Aside0.mk (Kd.R_below (by (with_reducible repeat (first | apply Kd.R_alloc | apply Kd.R_drewN | apply Kd.R_drew)); exact HO692.out) hb); have n1_ := Aside0.mk (Kd.R_below (by (with_reducible repeat (first | apply Kd.R_alloc | apply Kd.R_drewN | apply Kd.R_drew)); exact HO696.out) hb); have n2_ := Aside0.mk (below_step (by repeat (first | (with_reducible first | exact HB.out | apply below_alloc | apply pw_below_drewN | apply below_drew1) | exact HB.out)) hb); clear HO692; clear HO696; clear HB; have HO692 := n0_; have HO696 := n1_; have HB := n2_; clear n0_ n1_ n2_; (try clear hb); (try clear hb2); (try clear hk); (try clear hi))); try go_wp2_with (first | (go_at_call 52; (with_reducible refine (curve_Turned.calls _ _ l0 t689 t690 _ ?side1 ?side2 A121.out).mono ?_); (case side1 => repeat (first | exact (Kd.C_below HR0.out HB.out) | (with_reducible refine Kd.C_alloc ?_ _) | (with_reducible refine Kd.C_drewN ?_ _) | (with_reducible refine Kd.C_drew ?_))); (case side2 => exact HC0.out); rintro e w142 ⟨v691, rfl, ho0, hb⟩; have n0_ := Aside0.mk (Kd.R_lower ho0 (below_size (by repeat (first | (with_reducible first | exact HB.out | apply below_alloc | apply pw_below_drewN | apply below_drew1) | exact HB.out)))); have n1_ := Aside0.mk (below_step (by repeat (first | (with_reducible first | exact HB.out | apply below_alloc | apply pw_below_drewN | apply below_drew1) | exact HB.out)) hb); clear HB; have HO692 := n0_; have HB := n1_; clear n0_ n1_; (try clear hb); (try clear hb2); (try clear hk); (try clear hi); (try clear ho0)) | (go_at_call 52; (with_reducible refine (curve_Turned.calls _ _ l1 t693 t694 _ ?side1 ?side2 A122.out).mono ?_); (case side1 => repeat (first | exact (Kd.C_below HR1.out HB.out) | (with_reducible refine Kd.C_alloc ?_ _) | (with_reducible refine Kd.C_drewN ?_ _) | (with_reducible refine Kd.C_drew ?_))); (case side2 => exact HC1.out); rintro e w143 ⟨v695, rfl, ho0, hb⟩; have n0_ := Aside0.mk (Kd.R_elder' (by (with_reducible repeat (first | apply Kd.R_alloc | apply Kd.R_drewN | apply Kd.R_drew)); exact HO692.out) (Kd.R_base ho0) hb); have n1_ := Aside0.mk (Kd.R_lower (Kd.R_new' ho0 (Kd.R_lt (by (with_reducible repeat (first | apply Kd.R_alloc | apply Kd.R_drewN | apply Kd.R_drew)); exact HO692.out))) (below_size (by repeat (first | (with_reducible first | exact HB.out | apply below_alloc | apply pw_below_drewN | apply below_drew1) | exact HB.out)))); have n2_ := Aside0.mk (below_step (by repeat (first | (with_reducible first | exact HB.out | apply below_alloc | apply pw_below_drewN | apply below_drew1) | exact HB.out)) hb); clear HO692; clear HB; have HO692 := n0_; have HO696 := n1_; have HB := n2_; clear n0_ n1_ n2_; (try clear hb); (try clear hb2); (try clear hk); (try clear hi); (try clear ho0); obtain ⟨Ao144, co144, eo144⟩ := Kd.R_slice HO696.out; subst eo144; obtain ⟨Ao145, co145, eo145⟩ := Kd.R_slice HO692.out; subst eo145) | (go_at_call 38; (with_reducible refine (curve_Below.calls _ _ t693 _ _ t689 t697 t698 _ ?side1 ?side2 ?side3 ?side4 A123.out).mono ?_); (case side1 => repeat (first | exact (Kd.R_reads' HO696.out).2.2 | (with_reducible refine Kd.C_alloc ?_ _) | (with_reducible refine Kd.C_drewN ?_ _) | (with_reducible refine Kd.C_drew ?_))); (case side2 => exact (Kd.R_reads' HO696.out).2.1); (case side3 => repeat (first | exact (Kd.R_reads' HO692.out).2.2 | (with_reducible refine Kd.C_alloc ?_ _) | (with_reducible refine Kd.C_drewN ?_ _) | (with_reducible refine Kd.C_drew ?_))); (case side4 => exact (Kd.R_reads' HO692.out).2.1); rintro e w146 ⟨rfl, hb⟩; have n0_ := Aside0.mk (Kd.R_below (by (with_reducible repeat (first | apply Kd.R_alloc | apply Kd.R_drewN | apply Kd.R_drew)); exact HO692.out) hb); have n1_ := Aside0.mk (Kd.R_below (by (with_reducible repeat (first | apply Kd.R_alloc | apply Kd.R_drewN | apply Kd.R_drew)); exact HO696.out) hb); have n2_ := Aside0.mk (below_step (by repeat (first | (with_reducible first | exact HB.out | apply below_alloc | apply pw_below_drewN | apply below_drew1) | exact HB.out)) hb); clear HO692; clear HO696; clear HB; have HO692 := n0_; have HO696 := n1_; have HB := n2_; clear n0_ n1_ n2_; (try clear hb); (try clear hb2); (try clear hk); (try clear hi))))
                          go_ret
                          exact ⟨by first | rfl | (simp [errW_none, errW_some] <;> rfl) | (simp [*, errW_none, errW_some] <;> rfl), by repeat (first | (with_reducible first | exact HB.out | apply below_alloc | apply pw_below_drewN | apply below_drew1) | exact HB.out)⟩
 ·
  replace c6 := Bool.eq_false_iff.mpr c6
  subst c6
  have H1 : (some false) = some r := by rw [if_neg (show ¬ (false = true) by decide)] at H; exact H
  clear H
  have H := H1
  clear H1
  obtain rfl := Option.some.inj H
  go_enter Tryd.func12, Tryd.ntmps12
  go_wp2_with (first | (go_at_call 18; (with_reducible refine (law_sane.calls  false _ A5.out).mono ?_); rintro e w147 ⟨rfl, hb⟩; have n0_ := Aside0.mk (below_step (by repeat (first | (with_reducible first | exact HB.out | apply below_alloc | apply pw_below_drewN | apply below_drew1) | exact HB.out)) hb); clear HB; have HB := n0_; clear n0_; (try clear hb); (try clear hb2); (try clear hk); (try clear hi)))
  repeat (go_quiet (first | (go_at_call 18; (with_reducible refine (law_sane.calls  false _ A5.out).mono ?_); rintro e w147 ⟨rfl, hb⟩; have n0_ := Aside0.mk (below_step (by repeat (first | (with_reducible first | exact HB.out | apply below_alloc | apply pw_below_drewN | apply below_drew1) | exact HB.out)) hb); clear HB; have HB := n0_; clear n0_; (try clear hb); (try clear hb2); (try clear hk); (try clear hi))); try go_wp2_with (first | (go_at_call 18; (with_reducible refine (law_sane.calls  false _ A5.out).mono ?_); rintro e w147 ⟨rfl, hb⟩; have n0_ := Aside0.mk (below_step (by repeat (first | (with_reducible first | exact HB.out | apply below_alloc | apply pw_below_drewN | apply below_drew1) | exact HB.out)) hb); clear HB; have HB := n0_; clear n0_; (try clear hb); (try clear hb2); (try clear hk); (try clear hi))))
  go_ret
  exact ⟨by first | rfl | (simp [errW_none, errW_some] <;> rfl) | (simp [*, errW_none, errW_some] <;> rfl), by repeat (first | (with_reducible first | exact HB.out | apply below_alloc | apply pw_below_drewN | apply below_drew1) | exact HB.out)⟩
end Go.Proofs.YtlhhpogaaneamaaDoor.X
