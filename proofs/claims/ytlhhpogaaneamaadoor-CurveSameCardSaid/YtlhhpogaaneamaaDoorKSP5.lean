/- curveSame_holds: the declarations of this seat that its proof uses. Conditions: none. -/
import Derived.Test.YtlhhpogaaneamaaDoorKSP4
namespace Go.Proofs.YtlhhpogaaneamaaDoor.X
open Go.RowKit Go.Proofs.YtlhhpogaaneamaaDoorW.PrintWords Go.Proofs.YtlhhpogaaneamaaDoorW.PrintLast Go.Proofs.YtlhhpogaaneamaaDoorW.PrintMore
attribute [local go_sem] max2_int min2_int max_two min_two
set_option linter.unusedVariables false
set_option linter.unusedSimpArgs false
attribute [local go_sem high] eqA25
mutual
def law_CurveSame.j0 : Nat → List (S57) → Int → Int → Int → Int → Int → Int → List (S57) → Bool → Option (Bool)
 | 0, _, _, _, _, _, _, _, _, _ => none
 | k + 1, x0, x1, x2, x3, x4, x5, x6, x15, x65 => if x65 = true then (some false) else ((ref_From.f x0).bind fun t481 => ((curve_Cut.f x0 t481 x1).bind fun bt482 => (if bt482.2 = 0 then ((ref_To.f x0).bind fun t486 => ((curve_Cut.f x0 x1 t486).bind fun bt487 => (if bt487.2 = 0 then ((curve_Join.f bt482.1 bt487.1).bind fun bt491 => ((curve_Normal.f bt491.1).bind fun bt495 => (if bt491.2 = 2 then (some ((x0.length : Int) == 64)) else (if bt491.2 = 0 then (if bt495.2 = 0 then ((ref_Same.f k bt495.1 x15).bind fun t499 => (law_CurveSame.j1 k x0 x2 x3 x4 x5 x6 x15 (!t499))) else (law_CurveSame.j1 k x0 x2 x3 x4 x5 x6 x15 true)) else (law_CurveSame.j1 k x0 x2 x3 x4 x5 x6 x15 true))))) else (law_CurveSame.j2 k x0 x2 x3 x4 x5 x6 x15)))) else (law_CurveSame.j2 k x0 x2 x3 x4 x5 x6 x15))))
def law_CurveSame.j2 : Nat → List (S57) → Int → Int → Int → Int → Int → List (S57) → Option (Bool)
 | 0, _, _, _, _, _, _, _ => none
 | k + 1, x0, x2, x3, x4, x5, x6, x15 => (curve_Shift.f k x0 x3 x4).bind fun bt500 => (if bt500.2 = 0 then ((curve_Shift.f k bt500.1 (wrap64 (-x3)) (wrap64 (-x4))).bind fun bt504 => (if bt504.2 = 0 then ((ref_Same.f k bt504.1 x0).bind fun t508 => (law_CurveSame.j3 k x0 x2 x3 x4 x5 x6 x15 bt500.2 bt500.1 (!t508))) else (law_CurveSame.j3 k x0 x2 x3 x4 x5 x6 x15 bt500.2 bt500.1 true))) else (law_CurveSame.j4 k x0 x2 x3 x4 x5 x6 x15 bt500.2 bt500.1))
def law_CurveSame.j4 : Nat → List (S57) → Int → Int → Int → Int → Int → List (S57) → Int → List (S57) → Option (Bool)
 | 0, _, _, _, _, _, _, _, _, _ => none
 | k + 1, x0, x2, x3, x4, x5, x6, x15, x16, x27 => (curve_Scale.f x0 x5 x6).bind fun bt509 => ((ref_In.f x0 x2).bind fun t513 => (if t513 = true then ((curve_Exact.f k x0 x2).bind fun bt514 => ((curve_Exact.f k x15 x2).bind fun bt518 => (if bt514.2.2 = 0 then (if bt518.2.2 = 0 then (if (!(bt514.1 == bt518.1) || (!(bt514.2.1 == bt518.2.1))) = true then (law_CurveSame.j5 k x2 x3 x4 x5 x6 x16 bt509.2 x27 bt509.1 true bt514.1 bt514.2.1) else (if bt514.2.1 < 1 then (law_CurveSame.j5 k x2 x3 x4 x5 x6 x16 bt509.2 x27 bt509.1 true bt514.1 bt514.2.1) else (law_CurveSame.j5 k x2 x3 x4 x5 x6 x16 bt509.2 x27 bt509.1 (decide (bt514.2.1 > 16777216)) bt514.1 bt514.2.1))) else (law_CurveSame.j5 k x2 x3 x4 x5 x6 x16 bt509.2 x27 bt509.1 true bt514.1 bt514.2.1)) else (law_CurveSame.j5 k x2 x3 x4 x5 x6 x16 bt509.2 x27 bt509.1 true bt514.1 bt514.2.1)))) else (some true)))
def law_CurveSame.j5 : Nat → Int → Int → Int → Int → Int → Int → Int → List (S57) → List (S57) → Bool → Int → Int → Option (Bool)
 | 0, _, _, _, _, _, _, _, _, _, _, _, _ => none
 | k + 1, x2, x3, x4, x5, x6, x16, x18, x27, x30, x183, x518000, x518001 => if x183 = true then (some false) else (if x16 = 0 then ((curve_Exact.f k x27 (wrap64 (x2 + x3))).bind fun bt522 => (if bt522.2.2 = 0 then (if bt522.2.1 = x518001 then (law_CurveSame.j6 k x2 x5 x6 x18 x30 (bt522.1 != (wrap64 (x518000 + (wrap64 (x4 * x518001))))) x518000 x518001) else (law_CurveSame.j6 k x2 x5 x6 x18 x30 true x518000 x518001)) else (law_CurveSame.j6 k x2 x5 x6 x18 x30 true x518000 x518001))) else (law_CurveSame.j7 k x2 x5 x6 x18 x30 x518000 x518001))
def law_CurveSame.j7 : Nat → Int → Int → Int → Int → List (S57) → Int → Int → Option (Bool)
 | 0, _, _, _, _, _, _, _ => none
 | k + 1, x2, x5, x6, x18, x30, x518000, x518001 => if x18 = 0 then ((curve_Exact.f k x30 (wrap64 (x2 * x5))).bind fun bt526 => (if bt526.2.2 = 0 then (if bt526.2.1 < 1 then (law_CurveSame.j8 k true) else (if bt526.2.1 = 0 then (none) else (if (Int.tmod x518001 bt526.2.1) = 0 then (law_CurveSame.j8 k ((wrap64 (bt526.1 * (wrap64 (Int.tdiv x518001 bt526.2.1)))) != (wrap64 (x518000 * x6)))) else (law_CurveSame.j8 k true)))) else (law_CurveSame.j8 k true))) else (some true)
def law_CurveSame.j8 : Nat → Bool → Option (Bool)
 | 0, _ => none
 | k + 1, x254 => if x254 = true then (some false) else (some true)
def law_CurveSame.j6 : Nat → Int → Int → Int → Int → List (S57) → Bool → Int → Int → Option (Bool)
 | 0, _, _, _, _, _, _, _, _ => none
 | k + 1, x2, x5, x6, x18, x30, x214, x518000, x518001 => if x214 = true then (some false) else (law_CurveSame.j7 k x2 x5 x6 x18 x30 x518000 x518001)
def law_CurveSame.j3 : Nat → List (S57) → Int → Int → Int → Int → Int → List (S57) → Int → List (S57) → Bool → Option (Bool)
 | 0, _, _, _, _, _, _, _, _, _, _ => none
 | k + 1, x0, x2, x3, x4, x5, x6, x15, x16, x27, x139 => if x139 = true then (some false) else (law_CurveSame.j4 k x0 x2 x3 x4 x5 x6 x15 x16 x27)
def law_CurveSame.j1 : Nat → List (S57) → Int → Int → Int → Int → Int → List (S57) → Bool → Option (Bool)
 | 0, _, _, _, _, _, _, _, _ => none
 | k + 1, x0, x2, x3, x4, x5, x6, x15, x113 => if x113 = true then (some false) else (law_CurveSame.j2 k x0 x2 x3 x4 x5 x6 x15)
end
def law_CurveSame.f (k : Nat) (l0 : List (S57)) (a1 : Int) (a2 : Int) (a3 : Int) (a4 : Int) (a5 : Int) (a6 : Int) : Option (Bool) := (law_sane.f).bind fun t470 => (if t470 = true then ((ref_Valid.f k l0).bind fun t471 => (if t471 = true then ((curve_Normal.f l0).bind fun bt472 => ((curve_Normal.f bt472.1).bind fun bt476 => (if bt472.2 = 0 then (if bt476.2 = 0 then ((ref_Same.f k bt472.1 bt476.1).bind fun t480 => (law_CurveSame.j0 k l0 a1 a2 a3 a4 a5 a6 bt472.1 (!t480))) else (law_CurveSame.j0 k l0 a1 a2 a3 a4 a5 a6 bt472.1 true)) else (law_CurveSame.j0 k l0 a1 a2 a3 a4 a5 a6 bt472.1 true)))) else (some true))) else (some false))
set_option maxHeartbeats 8000000 in
set_option maxRecDepth 100000 in
theorem law_CurveSame.calls (k : Nat) (A0 : Option Addr) (c0 : Nat) (l0 : List (S57)) (a1 : Int) (a2 : Int) (a3 : Int) (a4 : Int) (a5 : Int) (a6 : Int) (r : Bool) (w : World) (hr0 : Kd.C k57 w A0 l0.length l0) (hc0 : l0.length ≤ c0) (h : law_CurveSame.f k l0 a1 a2 a3 a4 a5 a6 = some r) :
  Calls Tryd.prog 7 #[.slice A0 l0.length c0, .int .i64 a1, .int .i64 a2, .int .i64 a3, .int .i64 a4, .int .i64 a5, .int .i64 a6] w fun e w' => e = .returned (.bool r) ∧ Below w.heap.size w w' := by
 have hu25 := Tryd.underlying25
 have HR0 := Aside0.mk hr0
 have HC0 := Aside0.mk hc0
 clear hr0 hc0
 have HB := Aside0.mk (Below.refl w.heap.size w)
 have H : ((law_sane.f).bind fun t470 => (if t470 = true then ((ref_Valid.f k l0).bind fun t471 => (if t471 = true then ((curve_Normal.f l0).bind fun bt472 => ((curve_Normal.f bt472.1).bind fun bt476 => (if bt472.2 = 0 then (if bt476.2 = 0 then ((ref_Same.f k bt472.1 bt476.1).bind fun t480 => (law_CurveSame.j0 k l0 a1 a2 a3 a4 a5 a6 bt472.1 (!t480))) else (law_CurveSame.j0 k l0 a1 a2 a3 a4 a5 a6 bt472.1 true)) else (law_CurveSame.j0 k l0 a1 a2 a3 a4 a5 a6 bt472.1 true)))) else (some true))) else (some false))) = some r := h
 clear h
 replace H := Option.bind_eq_some_iff.mp H
 obtain ⟨t470, A80, H⟩ := H
 replace H : (if t470 = true then ((ref_Valid.f k l0).bind fun t471 => (if t471 = true then ((curve_Normal.f l0).bind fun bt472 => ((curve_Normal.f bt472.1).bind fun bt476 => (if bt472.2 = 0 then (if bt476.2 = 0 then ((ref_Same.f k bt472.1 bt476.1).bind fun t480 => (law_CurveSame.j0 k l0 a1 a2 a3 a4 a5 a6 bt472.1 (!t480))) else (law_CurveSame.j0 k l0 a1 a2 a3 a4 a5 a6 bt472.1 true)) else (law_CurveSame.j0 k l0 a1 a2 a3 a4 a5 a6 bt472.1 true)))) else (some true))) else (some false)) = some r := H
 have A8 := Aside0.mk A80
 clear A80
 by_cases c9 : t470 = true
 ·
  subst c9
  have H1 : ((ref_Valid.f k l0).bind fun t471 => (if t471 = true then ((curve_Normal.f l0).bind fun bt472 => ((curve_Normal.f bt472.1).bind fun bt476 => (if bt472.2 = 0 then (if bt476.2 = 0 then ((ref_Same.f k bt472.1 bt476.1).bind fun t480 => (law_CurveSame.j0 k l0 a1 a2 a3 a4 a5 a6 bt472.1 (!t480))) else (law_CurveSame.j0 k l0 a1 a2 a3 a4 a5 a6 bt472.1 true)) else (law_CurveSame.j0 k l0 a1 a2 a3 a4 a5 a6 bt472.1 true)))) else (some true))) = some r := by rw [if_pos rfl] at H; exact H
  clear H
  have H := H1
  clear H1
  replace H := Option.bind_eq_some_iff.mp H
  obtain ⟨t471, A100, H⟩ := H
  replace H : (if t471 = true then ((curve_Normal.f l0).bind fun bt472 => ((curve_Normal.f bt472.1).bind fun bt476 => (if bt472.2 = 0 then (if bt476.2 = 0 then ((ref_Same.f k bt472.1 bt476.1).bind fun t480 => (law_CurveSame.j0 k l0 a1 a2 a3 a4 a5 a6 bt472.1 (!t480))) else (law_CurveSame.j0 k l0 a1 a2 a3 a4 a5 a6 bt472.1 true)) else (law_CurveSame.j0 k l0 a1 a2 a3 a4 a5 a6 bt472.1 true)))) else (some true)) = some r := H
  have A10 := Aside0.mk A100
  clear A100
  by_cases c11 : t471 = true
  ·
   subst c11
   have H1 : ((curve_Normal.f l0).bind fun bt472 => ((curve_Normal.f bt472.1).bind fun bt476 => (if bt472.2 = 0 then (if bt476.2 = 0 then ((ref_Same.f k bt472.1 bt476.1).bind fun t480 => (law_CurveSame.j0 k l0 a1 a2 a3 a4 a5 a6 bt472.1 (!t480))) else (law_CurveSame.j0 k l0 a1 a2 a3 a4 a5 a6 bt472.1 true)) else (law_CurveSame.j0 k l0 a1 a2 a3 a4 a5 a6 bt472.1 true)))) = some r := by rw [if_pos rfl] at H; exact H
   clear H
   have H := H1
   clear H1
   replace H := Option.bind_eq_some_iff.mp H
   obtain ⟨⟨t472, t473⟩, A120, H⟩ := H
   replace H : ((curve_Normal.f t472).bind fun bt476 => (if t473 = 0 then (if bt476.2 = 0 then ((ref_Same.f k t472 bt476.1).bind fun t480 => (law_CurveSame.j0 k l0 a1 a2 a3 a4 a5 a6 t472 (!t480))) else (law_CurveSame.j0 k l0 a1 a2 a3 a4 a5 a6 t472 true)) else (law_CurveSame.j0 k l0 a1 a2 a3 a4 a5 a6 t472 true))) = some r := H
   have A12 := Aside0.mk A120
   clear A120
   replace H := Option.bind_eq_some_iff.mp H
   obtain ⟨⟨t476, t477⟩, A130, H⟩ := H
   replace H : (if t473 = 0 then (if t477 = 0 then ((ref_Same.f k t472 t476).bind fun t480 => (law_CurveSame.j0 k l0 a1 a2 a3 a4 a5 a6 t472 (!t480))) else (law_CurveSame.j0 k l0 a1 a2 a3 a4 a5 a6 t472 true)) else (law_CurveSame.j0 k l0 a1 a2 a3 a4 a5 a6 t472 true)) = some r := H
   have A13 := Aside0.mk A130
   clear A130
   have HC14 := Aside0.mk H
   clear H
   go_enter Tryd.func7, Tryd.ntmps7
   go_upto_region 7 with (first | (go_at_call 18; (with_reducible refine (law_sane.calls  true _ A8.out).mono ?_); rintro e w15 ⟨rfl, hb⟩; have n0_ := Aside0.mk (below_step (by repeat (first | (with_reducible first | exact HB.out | apply below_alloc | apply pw_below_drewN | apply below_drew1) | exact HB.out)) hb); clear HB; have HB := n0_; clear n0_; (try clear hb); (try clear hb2); (try clear hk); (try clear hi)) | (go_at_call 42; (with_reducible refine (ref_Valid.calls k _ _ l0 true _ ?side1 ?side2 A10.out).mono ?_); (case side1 => repeat (first | exact (Kd.C_below HR0.out HB.out) | (with_reducible refine Kd.C_alloc ?_ _) | (with_reducible refine Kd.C_drewN ?_ _) | (with_reducible refine Kd.C_drew ?_))); (case side2 => exact HC0.out); rintro e w' ⟨rfl, ⟨nd, rfl⟩⟩; (try first | exact ⟨rfl, _, World.drewN_drewN _ _ _⟩ | exact ⟨rfl, _, Eq.trans (World.drewN_drewN _ _ _) (congrArg (World.drewN _) (Nat.add_assoc _ _ _))⟩)) | (go_at_call 44; (with_reducible refine (curve_Normal.calls _ _ l0 t472 t473 _ ?side1 ?side2 A12.out).mono ?_); (case side1 => repeat (first | exact (Kd.C_below HR0.out (by repeat (first | (with_reducible first | exact HB.out | apply below_alloc | apply pw_below_drewN | apply below_drew1) | exact HB.out))) | (with_reducible refine Kd.C_alloc ?_ _) | (with_reducible refine Kd.C_drewN ?_ _) | (with_reducible refine Kd.C_drew ?_))); (case side2 => exact HC0.out); rintro e w16 ⟨v474, rfl, ho0, hb⟩; have n0_ := Aside0.mk (Kd.R_lower ho0 (below_size (by repeat (first | (with_reducible first | exact HB.out | apply below_alloc | apply pw_below_drewN | apply below_drew1) | exact HB.out)))); have n1_ := Aside0.mk (below_step (by repeat (first | (with_reducible first | exact HB.out | apply below_alloc | apply pw_below_drewN | apply below_drew1) | exact HB.out)) hb); clear HB; have HO475 := n0_; have HB := n1_; clear n0_ n1_; (try clear hb); (try clear hb2); (try clear hk); (try clear hi); (try clear ho0); obtain ⟨Ao17, co17, eo17⟩ := Kd.R_slice HO475.out; subst eo17) | (go_at_call 44; (with_reducible refine (curve_Normal.calls _ _ t472 t476 t477 _ ?side1 ?side2 A13.out).mono ?_); (case side1 => repeat (first | exact (Kd.R_reads' HO475.out).2.2 | (with_reducible refine Kd.C_alloc ?_ _) | (with_reducible refine Kd.C_drewN ?_ _) | (with_reducible refine Kd.C_drew ?_))); (case side2 => exact (Kd.R_reads' HO475.out).2.1); rintro e w18 ⟨v478, rfl, ho0, hb⟩; have n0_ := Aside0.mk (Kd.R_elder' (by (with_reducible repeat (first | apply Kd.R_alloc | apply Kd.R_drewN | apply Kd.R_drew)); exact HO475.out) (Kd.R_base ho0) hb); have n1_ := Aside0.mk (Kd.R_lower (Kd.R_new' ho0 (Kd.R_lt (by (with_reducible repeat (first | apply Kd.R_alloc | apply Kd.R_drewN | apply Kd.R_drew)); exact HO475.out))) (below_size (by repeat (first | (with_reducible first | exact HB.out | apply below_alloc | apply pw_below_drewN | apply below_drew1) | exact HB.out)))); have n2_ := Aside0.mk (below_step (by repeat (first | (with_reducible first | exact HB.out | apply below_alloc | apply pw_below_drewN | apply below_drew1) | exact HB.out)) hb); clear HO475; clear HB; have HO475 := n0_; have HO479 := n1_; have HB := n2_; clear n0_ n1_ n2_; (try clear hb); (try clear hb2); (try clear hk); (try clear hi); (try clear ho0)))
   repeat (go_quiet (first | (go_at_call 18; (with_reducible refine (law_sane.calls  true _ A8.out).mono ?_); rintro e w15 ⟨rfl, hb⟩; have n0_ := Aside0.mk (below_step (by repeat (first | (with_reducible first | exact HB.out | apply below_alloc | apply pw_below_drewN | apply below_drew1) | exact HB.out)) hb); clear HB; have HB := n0_; clear n0_; (try clear hb); (try clear hb2); (try clear hk); (try clear hi)) | (go_at_call 42; (with_reducible refine (ref_Valid.calls k _ _ l0 true _ ?side1 ?side2 A10.out).mono ?_); (case side1 => repeat (first | exact (Kd.C_below HR0.out HB.out) | (with_reducible refine Kd.C_alloc ?_ _) | (with_reducible refine Kd.C_drewN ?_ _) | (with_reducible refine Kd.C_drew ?_))); (case side2 => exact HC0.out); rintro e w' ⟨rfl, ⟨nd, rfl⟩⟩; (try first | exact ⟨rfl, _, World.drewN_drewN _ _ _⟩ | exact ⟨rfl, _, Eq.trans (World.drewN_drewN _ _ _) (congrArg (World.drewN _) (Nat.add_assoc _ _ _))⟩)) | (go_at_call 44; (with_reducible refine (curve_Normal.calls _ _ l0 t472 t473 _ ?side1 ?side2 A12.out).mono ?_); (case side1 => repeat (first | exact (Kd.C_below HR0.out (by repeat (first | (with_reducible first | exact HB.out | apply below_alloc | apply pw_below_drewN | apply below_drew1) | exact HB.out))) | (with_reducible refine Kd.C_alloc ?_ _) | (with_reducible refine Kd.C_drewN ?_ _) | (with_reducible refine Kd.C_drew ?_))); (case side2 => exact HC0.out); rintro e w16 ⟨v474, rfl, ho0, hb⟩; have n0_ := Aside0.mk (Kd.R_lower ho0 (below_size (by repeat (first | (with_reducible first | exact HB.out | apply below_alloc | apply pw_below_drewN | apply below_drew1) | exact HB.out)))); have n1_ := Aside0.mk (below_step (by repeat (first | (with_reducible first | exact HB.out | apply below_alloc | apply pw_below_drewN | apply below_drew1) | exact HB.out)) hb); clear HB; have HO475 := n0_; have HB := n1_; clear n0_ n1_; (try clear hb); (try clear hb2); (try clear hk); (try clear hi); (try clear ho0); obtain ⟨Ao17, co17, eo17⟩ := Kd.R_slice HO475.out; subst eo17) | (go_at_call 44; (with_reducible refine (curve_Normal.calls _ _ t472 t476 t477 _ ?side1 ?side2 A13.out).mono ?_); (case side1 => repeat (first | exact (Kd.R_reads' HO475.out).2.2 | (with_reducible refine Kd.C_alloc ?_ _) | (with_reducible refine Kd.C_drewN ?_ _) | (with_reducible refine Kd.C_drew ?_))); (case side2 => exact (Kd.R_reads' HO475.out).2.1); rintro e w18 ⟨v478, rfl, ho0, hb⟩; have n0_ := Aside0.mk (Kd.R_elder' (by (with_reducible repeat (first | apply Kd.R_alloc | apply Kd.R_drewN | apply Kd.R_drew)); exact HO475.out) (Kd.R_base ho0) hb); have n1_ := Aside0.mk (Kd.R_lower (Kd.R_new' ho0 (Kd.R_lt (by (with_reducible repeat (first | apply Kd.R_alloc | apply Kd.R_drewN | apply Kd.R_drew)); exact HO475.out))) (below_size (by repeat (first | (with_reducible first | exact HB.out | apply below_alloc | apply pw_below_drewN | apply below_drew1) | exact HB.out)))); have n2_ := Aside0.mk (below_step (by repeat (first | (with_reducible first | exact HB.out | apply below_alloc | apply pw_below_drewN | apply below_drew1) | exact HB.out)) hb); clear HO475; clear HB; have HO475 := n0_; have HO479 := n1_; have HB := n2_; clear n0_ n1_ n2_; (try clear hb); (try clear hb2); (try clear hk); (try clear hi); (try clear ho0))); go_upto_region 7 with (first | (go_at_call 18; (with_reducible refine (law_sane.calls  true _ A8.out).mono ?_); rintro e w15 ⟨rfl, hb⟩; have n0_ := Aside0.mk (below_step (by repeat (first | (with_reducible first | exact HB.out | apply below_alloc | apply pw_below_drewN | apply below_drew1) | exact HB.out)) hb); clear HB; have HB := n0_; clear n0_; (try clear hb); (try clear hb2); (try clear hk); (try clear hi)) | (go_at_call 42; (with_reducible refine (ref_Valid.calls k _ _ l0 true _ ?side1 ?side2 A10.out).mono ?_); (case side1 => repeat (first | exact (Kd.C_below HR0.out HB.out) | (with_reducible refine Kd.C_alloc ?_ _) | (with_reducible refine Kd.C_drewN ?_ _) | (with_reducible refine Kd.C_drew ?_))); (case side2 => exact HC0.out); rintro e w' ⟨rfl, ⟨nd, rfl⟩⟩; (try first | exact ⟨rfl, _, World.drewN_drewN _ _ _⟩ | exact ⟨rfl, _, Eq.trans (World.drewN_drewN _ _ _) (congrArg (World.drewN _) (Nat.add_assoc _ _ _))⟩)) | (go_at_call 44; (with_reducible refine (curve_Normal.calls _ _ l0 t472 t473 _ ?side1 ?side2 A12.out).mono ?_); (case side1 => repeat (first | exact (Kd.C_below HR0.out (by repeat (first | (with_reducible first | exact HB.out | apply below_alloc | apply pw_below_drewN | apply below_drew1) | exact HB.out))) | (with_reducible refine Kd.C_alloc ?_ _) | (with_reducible refine Kd.C_drewN ?_ _) | (with_reducible refine Kd.C_drew ?_))); (case side2 => exact HC0.out); rintro e w16 ⟨v474, rfl, ho0, hb⟩; have n0_ := Aside0.mk (Kd.R_lower ho0 (below_size (by repeat (first | (with_reducible first | exact HB.out | apply below_alloc | apply pw_below_drewN | apply below_drew1) | exact HB.out)))); have n1_ := Aside0.mk (below_step (by repeat (first | (with_reducible first | exact HB.out | apply below_alloc | apply pw_below_drewN | apply below_drew1) | exact HB.out)) hb); clear HB; have HO475 := n0_; have HB := n1_; clear n0_ n1_; (try clear hb); (try clear hb2); (try clear hk); (try clear hi); (try clear ho0); obtain ⟨Ao17, co17, eo17⟩ := Kd.R_slice HO475.out; subst eo17) | (go_at_call 44; (with_reducible refine (curve_Normal.calls _ _ t472 t476 t477 _ ?side1 ?side2 A13.out).mono ?_); (case side1 => repeat (first | exact (Kd.R_reads' HO475.out).2.2 | (with_reducible refine Kd.C_alloc ?_ _) | (with_reducible refine Kd.C_drewN ?_ _) | (with_reducible refine Kd.C_drew ?_))); (case side2 => exact (Kd.R_reads' HO475.out).2.1); rintro e w18 ⟨v478, rfl, ho0, hb⟩; have n0_ := Aside0.mk (Kd.R_elder' (by (with_reducible repeat (first | apply Kd.R_alloc | apply Kd.R_drewN | apply Kd.R_drew)); exact HO475.out) (Kd.R_base ho0) hb); have n1_ := Aside0.mk (Kd.R_lower (Kd.R_new' ho0 (Kd.R_lt (by (with_reducible repeat (first | apply Kd.R_alloc | apply Kd.R_drewN | apply Kd.R_drew)); exact HO475.out))) (below_size (by repeat (first | (with_reducible first | exact HB.out | apply below_alloc | apply pw_below_drewN | apply below_drew1) | exact HB.out)))); have n2_ := Aside0.mk (below_step (by repeat (first | (with_reducible first | exact HB.out | apply below_alloc | apply pw_below_drewN | apply below_drew1) | exact HB.out)) hb); clear HO475; clear HB; have HO475 := n0_; have HO479 := n1_; have HB := n2_; clear n0_ n1_ n2_; (try clear hb); (try clear hb2); (try clear hk); (try clear hi); (try clear ho0))))
   (try simp only [Act.put, List.setIfInBounds_toArray, List.set_cons_zero, List.set_cons_succ])
   go_cut [65] (fun v65 wc => ∃ (kq : Nat) (x65_13 : Bool), v65 = .bool x65_13 ∧ Aside0 (law_CurveSame.j0 kq l0 a1 a2 a3 a4 a5 a6 t472 x65_13 = some r) ∧ Aside0 (kq ≤ k) ∧ Aside0 (Kd.R k57 57 wc w.heap.size (fun _ => True) (.slice Ao17 t472.length co17) t472) ∧ Aside0 (Below w.heap.size w wc))
   case first => as_aux_lemma =>
    have H := HC14.out
    clear HC14
    by_cases c19 : t473 = 0
    ·
     rw [if_pos c19] at H
     have c19b0 : (t473 == 0) = true := beq_iff_eq.mpr c19
     have c19b1 : (t473 != 0) = false := bne_eq_false_iff_eq.mpr c19
     clear c19
     (first | rw [c19b0] | (simp only [i64_w, i32_w]; rw [c19b0]) | skip)
     by_cases c20 : t477 = 0
     ·
      rw [if_pos c20] at H
      have c20b0 : (t477 == 0) = true := beq_iff_eq.mpr c20
      have c20b1 : (t477 != 0) = false := bne_eq_false_iff_eq.mpr c20
      clear c20
      replace H := Option.bind_eq_some_iff.mp H
      obtain ⟨t480, A210, H⟩ := H
      replace H : (law_CurveSame.j0 k l0 a1 a2 a3 a4 a5 a6 t472 (!t480)) = some r := H
      have A21 := Aside0.mk A210
      clear A210
      have H' := Aside0.mk H
      clear H
      obtain ⟨Ao22, co22, eo22⟩ := Kd.R_slice HO479.out
      subst eo22
      go_wp2_with (first | (go_at_call 45; (with_reducible refine (ref_Same.calls k _ _ t472 _ _ t476 t480 _ ?side1 ?side2 ?side3 ?side4 A21.out).mono ?_); (case side1 => repeat (first | exact (Kd.R_reads' HO475.out).2.2 | (with_reducible refine Kd.C_alloc ?_ _) | (with_reducible refine Kd.C_drewN ?_ _) | (with_reducible refine Kd.C_drew ?_))); (case side2 => exact (Kd.R_reads' HO475.out).2.1); (case side3 => repeat (first | exact (Kd.R_reads' HO479.out).2.2 | (with_reducible refine Kd.C_alloc ?_ _) | (with_reducible refine Kd.C_drewN ?_ _) | (with_reducible refine Kd.C_drew ?_))); (case side4 => exact (Kd.R_reads' HO479.out).2.1); rintro e w' ⟨rfl, ⟨nd, rfl⟩⟩; (try first | exact ⟨rfl, _, World.drewN_drewN _ _ _⟩ | exact ⟨rfl, _, Eq.trans (World.drewN_drewN _ _ _) (congrArg (World.drewN _) (Nat.add_assoc _ _ _))⟩)))
      repeat (go_quiet (first | (go_at_call 45; (with_reducible refine (ref_Same.calls k _ _ t472 _ _ t476 t480 _ ?side1 ?side2 ?side3 ?side4 A21.out).mono ?_); (case side1 => repeat (first | exact (Kd.R_reads' HO475.out).2.2 | (with_reducible refine Kd.C_alloc ?_ _) | (with_reducible refine Kd.C_drewN ?_ _) | (with_reducible refine Kd.C_drew ?_))); (case side2 => exact (Kd.R_reads' HO475.out).2.1); (case side3 => repeat (first | exact (Kd.R_reads' HO479.out).2.2 | (with_reducible refine Kd.C_alloc ?_ _) | (with_reducible refine Kd.C_drewN ?_ _) | (with_reducible refine Kd.C_drew ?_))); (case side4 => exact (Kd.R_reads' HO479.out).2.1); rintro e w' ⟨rfl, ⟨nd, rfl⟩⟩; (try first | exact ⟨rfl, _, World.drewN_drewN _ _ _⟩ | exact ⟨rfl, _, Eq.trans (World.drewN_drewN _ _ _) (congrArg (World.drewN _) (Nat.add_assoc _ _ _))⟩))); try go_wp2_with (first | (go_at_call 45; (with_reducible refine (ref_Same.calls k _ _ t472 _ _ t476 t480 _ ?side1 ?side2 ?side3 ?side4 A21.out).mono ?_); (case side1 => repeat (first | exact (Kd.R_reads' HO475.out).2.2 | (with_reducible refine Kd.C_alloc ?_ _) | (with_reducible refine Kd.C_drewN ?_ _) | (with_reducible refine Kd.C_drew ?_))); (case side2 => exact (Kd.R_reads' HO475.out).2.1); (case side3 => repeat (first | exact (Kd.R_reads' HO479.out).2.2 | (with_reducible refine Kd.C_alloc ?_ _) | (with_reducible refine Kd.C_drewN ?_ _) | (with_reducible refine Kd.C_drew ?_))); (case side4 => exact (Kd.R_reads' HO479.out).2.1); rintro e w' ⟨rfl, ⟨nd, rfl⟩⟩; (try first | exact ⟨rfl, _, World.drewN_drewN _ _ _⟩ | exact ⟨rfl, _, Eq.trans (World.drewN_drewN _ _ _) (congrArg (World.drewN _) (Nat.add_assoc _ _ _))⟩))))
      go_meet
      case rel => exact ⟨_, (!t480), (by first | rfl | (simp; done) | (simp [*]; done)), H', ⟨by first | omega | exact Nat.le_refl _⟩, ⟨by (with_reducible repeat (first | apply Kd.R_alloc | apply Kd.R_drewN | apply Kd.R_drew)); exact Kd.R_mono HO475.out (fun _ hk => trivial)⟩, ⟨by repeat (first | (with_reducible first | exact HB.out | apply below_alloc | apply pw_below_drewN | apply below_drew1) | exact HB.out)⟩⟩
     ·
      rw [if_neg c20] at H
      have c20b0 : (t477 == 0) = false := beq_eq_false_iff_ne.mpr c20
      have c20b1 : (t477 != 0) = true := bne_iff_ne.mpr c20
      have H' := Aside0.mk H
      clear H
      go_wp2
      repeat (go_quiet (fail); try go_wp2)
      go_meet
      case rel => exact ⟨_, (true), (by first | rfl | (simp; done) | (simp [*]; done)), H', ⟨by first | omega | exact Nat.le_refl _⟩, ⟨by (with_reducible repeat (first | apply Kd.R_alloc | apply Kd.R_drewN | apply Kd.R_drew)); exact Kd.R_mono HO475.out (fun _ hk => trivial)⟩, ⟨by repeat (first | (with_reducible first | exact HB.out | apply below_alloc | apply pw_below_drewN | apply below_drew1) | exact HB.out)⟩⟩
    ·
     rw [if_neg c19] at H
     have c19b0 : (t473 == 0) = false := beq_eq_false_iff_ne.mpr c19
     have c19b1 : (t473 != 0) = true := bne_iff_ne.mpr c19
     (first | rw [c19b0] | (simp only [i64_w, i32_w]; rw [c19b0]) | skip)
     have H' := Aside0.mk H
     clear H
     go_wp2
     repeat (go_quiet (fail); try go_wp2)
     go_meet
     case rel => exact ⟨_, (true), (by first | rfl | (simp; done) | (simp [*]; done)), H', ⟨by first | omega | exact Nat.le_refl _⟩, ⟨by (with_reducible repeat (first | apply Kd.R_alloc | apply Kd.R_drewN | apply Kd.R_drew)); exact Kd.R_mono HO475.out (fun _ hk => trivial)⟩, ⟨by repeat (first | (with_reducible first | exact HB.out | apply below_alloc | apply pw_below_drewN | apply below_drew1) | exact HB.out)⟩⟩
   case rest => as_aux_lemma =>
    clear HC14
    try clear c1
    try clear c2
    try clear p2
    try clear c7
    try clear c9
    try clear c11
    try clear c19
    try clear c19b0
    try clear c19b1
    try clear c20
    try clear c20b0
    try clear c20b1
    obtain ⟨kq, x65_13, rfl, HA, HJ13, HO_15, HB⟩ := hcut
    cases kq with
    | zero => exact absurd HA.out (by simp [law_CurveSame.j0])
    | succ kj13 =>
     have H := HA.out
     clear HA
     simp only [law_CurveSame.j0] at H
     by_cases c23 : x65_13 = true
     ·
      subst c23
      have H1 : (some false) = some r := by rw [if_pos rfl] at H; exact H
      clear H
      have H := H1
      clear H1
      obtain rfl := Option.some.inj H
      go_wp2
      repeat (go_quiet (fail); try go_wp2)
      go_ret
      exact ⟨by first | rfl | (simp [errW_none, errW_some] <;> rfl) | (simp [*, errW_none, errW_some] <;> rfl), by repeat (first | (with_reducible first | exact HB.out | apply below_alloc | apply pw_below_drewN | apply below_drew1) | exact HB.out)⟩
     ·
      replace c23 := Bool.eq_false_iff.mpr c23
      subst c23
      have H1 : ((ref_From.f l0).bind fun t481 => ((curve_Cut.f l0 t481 a1).bind fun bt482 => (if bt482.2 = 0 then ((ref_To.f l0).bind fun t486 => ((curve_Cut.f l0 a1 t486).bind fun bt487 => (if bt487.2 = 0 then ((curve_Join.f bt482.1 bt487.1).bind fun bt491 => ((curve_Normal.f bt491.1).bind fun bt495 => (if bt491.2 = 2 then (some ((l0.length : Int) == 64)) else (if bt491.2 = 0 then (if bt495.2 = 0 then ((ref_Same.f kj13 bt495.1 t472).bind fun t499 => (law_CurveSame.j1 kj13 l0 a2 a3 a4 a5 a6 t472 (!t499))) else (law_CurveSame.j1 kj13 l0 a2 a3 a4 a5 a6 t472 true)) else (law_CurveSame.j1 kj13 l0 a2 a3 a4 a5 a6 t472 true))))) else (law_CurveSame.j2 kj13 l0 a2 a3 a4 a5 a6 t472)))) else (law_CurveSame.j2 kj13 l0 a2 a3 a4 a5 a6 t472)))) = some r := by rw [if_neg (show ¬ (false = true) by decide)] at H; exact H
      clear H
      have H := H1
      clear H1
      replace H := Option.bind_eq_some_iff.mp H
      obtain ⟨t481, A240, H⟩ := H
      replace H : ((curve_Cut.f l0 t481 a1).bind fun bt482 => (if bt482.2 = 0 then ((ref_To.f l0).bind fun t486 => ((curve_Cut.f l0 a1 t486).bind fun bt487 => (if bt487.2 = 0 then ((curve_Join.f bt482.1 bt487.1).bind fun bt491 => ((curve_Normal.f bt491.1).bind fun bt495 => (if bt491.2 = 2 then (some ((l0.length : Int) == 64)) else (if bt491.2 = 0 then (if bt495.2 = 0 then ((ref_Same.f kj13 bt495.1 t472).bind fun t499 => (law_CurveSame.j1 kj13 l0 a2 a3 a4 a5 a6 t472 (!t499))) else (law_CurveSame.j1 kj13 l0 a2 a3 a4 a5 a6 t472 true)) else (law_CurveSame.j1 kj13 l0 a2 a3 a4 a5 a6 t472 true))))) else (law_CurveSame.j2 kj13 l0 a2 a3 a4 a5 a6 t472)))) else (law_CurveSame.j2 kj13 l0 a2 a3 a4 a5 a6 t472))) = some r := H
      have A24 := Aside0.mk A240
      clear A240
      replace H := Option.bind_eq_some_iff.mp H
      obtain ⟨⟨t482, t483⟩, A250, H⟩ := H
      replace H : (if t483 = 0 then ((ref_To.f l0).bind fun t486 => ((curve_Cut.f l0 a1 t486).bind fun bt487 => (if bt487.2 = 0 then ((curve_Join.f t482 bt487.1).bind fun bt491 => ((curve_Normal.f bt491.1).bind fun bt495 => (if bt491.2 = 2 then (some ((l0.length : Int) == 64)) else (if bt491.2 = 0 then (if bt495.2 = 0 then ((ref_Same.f kj13 bt495.1 t472).bind fun t499 => (law_CurveSame.j1 kj13 l0 a2 a3 a4 a5 a6 t472 (!t499))) else (law_CurveSame.j1 kj13 l0 a2 a3 a4 a5 a6 t472 true)) else (law_CurveSame.j1 kj13 l0 a2 a3 a4 a5 a6 t472 true))))) else (law_CurveSame.j2 kj13 l0 a2 a3 a4 a5 a6 t472)))) else (law_CurveSame.j2 kj13 l0 a2 a3 a4 a5 a6 t472)) = some r := H
      have A25 := Aside0.mk A250
      clear A250
      have HC26 := Aside0.mk H
      clear H
      go_upto_if 75 with (first | (go_at_call 47; (with_reducible refine (ref_From.calls _ _ l0 t481 _ ?side1 ?side2 A24.out).mono ?_); (case side1 => repeat (first | exact (Kd.C_below HR0.out HB.out) | (with_reducible refine Kd.C_alloc ?_ _) | (with_reducible refine Kd.C_drewN ?_ _) | (with_reducible refine Kd.C_drew ?_))); (case side2 => exact HC0.out); rintro e w' ⟨rfl, ⟨nd, rfl⟩⟩; (try first | exact ⟨rfl, _, World.drewN_drewN _ _ _⟩ | exact ⟨rfl, _, Eq.trans (World.drewN_drewN _ _ _) (congrArg (World.drewN _) (Nat.add_assoc _ _ _))⟩)) | (go_at_call 46; (with_reducible refine (curve_Cut.calls _ _ l0 t481 a1 t482 t483 _ ?side1 ?side2 A25.out).mono ?_); (case side1 => repeat (first | exact (Kd.C_below HR0.out (by repeat (first | (with_reducible first | exact HB.out | apply below_alloc | apply pw_below_drewN | apply below_drew1) | exact HB.out))) | (with_reducible refine Kd.C_alloc ?_ _) | (with_reducible refine Kd.C_drewN ?_ _) | (with_reducible refine Kd.C_drew ?_))); (case side2 => exact HC0.out); rintro e w27 ⟨v484, rfl, ho0, hb⟩; have n0_ := Aside0.mk (Kd.R_elder' (by (with_reducible repeat (first | apply Kd.R_alloc | apply Kd.R_drewN | apply Kd.R_drew)); exact HO_15.out) (Kd.R_base ho0) hb); have n1_ := Aside0.mk (Kd.R_lower (Kd.R_new' ho0 (Kd.R_lt (by (with_reducible repeat (first | apply Kd.R_alloc | apply Kd.R_drewN | apply Kd.R_drew)); exact HO_15.out))) (below_size (by repeat (first | (with_reducible first | exact HB.out | apply below_alloc | apply pw_below_drewN | apply below_drew1) | exact HB.out)))); have n2_ := Aside0.mk (below_step (by repeat (first | (with_reducible first | exact HB.out | apply below_alloc | apply pw_below_drewN | apply below_drew1) | exact HB.out)) hb); clear HO_15; clear HB; have HO_15 := n0_; have HO485 := n1_; have HB := n2_; clear n0_ n1_ n2_; (try clear hb); (try clear hb2); (try clear hk); (try clear hi); (try clear ho0)))
      repeat (go_quiet (first | (go_at_call 47; (with_reducible refine (ref_From.calls _ _ l0 t481 _ ?side1 ?side2 A24.out).mono ?_); (case side1 => repeat (first | exact (Kd.C_below HR0.out HB.out) | (with_reducible refine Kd.C_alloc ?_ _) | (with_reducible refine Kd.C_drewN ?_ _) | (with_reducible refine Kd.C_drew ?_))); (case side2 => exact HC0.out); rintro e w' ⟨rfl, ⟨nd, rfl⟩⟩; (try first | exact ⟨rfl, _, World.drewN_drewN _ _ _⟩ | exact ⟨rfl, _, Eq.trans (World.drewN_drewN _ _ _) (congrArg (World.drewN _) (Nat.add_assoc _ _ _))⟩)) | (go_at_call 46; (with_reducible refine (curve_Cut.calls _ _ l0 t481 a1 t482 t483 _ ?side1 ?side2 A25.out).mono ?_); (case side1 => repeat (first | exact (Kd.C_below HR0.out (by repeat (first | (with_reducible first | exact HB.out | apply below_alloc | apply pw_below_drewN | apply below_drew1) | exact HB.out))) | (with_reducible refine Kd.C_alloc ?_ _) | (with_reducible refine Kd.C_drewN ?_ _) | (with_reducible refine Kd.C_drew ?_))); (case side2 => exact HC0.out); rintro e w27 ⟨v484, rfl, ho0, hb⟩; have n0_ := Aside0.mk (Kd.R_elder' (by (with_reducible repeat (first | apply Kd.R_alloc | apply Kd.R_drewN | apply Kd.R_drew)); exact HO_15.out) (Kd.R_base ho0) hb); have n1_ := Aside0.mk (Kd.R_lower (Kd.R_new' ho0 (Kd.R_lt (by (with_reducible repeat (first | apply Kd.R_alloc | apply Kd.R_drewN | apply Kd.R_drew)); exact HO_15.out))) (below_size (by repeat (first | (with_reducible first | exact HB.out | apply below_alloc | apply pw_below_drewN | apply below_drew1) | exact HB.out)))); have n2_ := Aside0.mk (below_step (by repeat (first | (with_reducible first | exact HB.out | apply below_alloc | apply pw_below_drewN | apply below_drew1) | exact HB.out)) hb); clear HO_15; clear HB; have HO_15 := n0_; have HO485 := n1_; have HB := n2_; clear n0_ n1_ n2_; (try clear hb); (try clear hb2); (try clear hk); (try clear hi); (try clear ho0))); go_upto_if 75 with (first | (go_at_call 47; (with_reducible refine (ref_From.calls _ _ l0 t481 _ ?side1 ?side2 A24.out).mono ?_); (case side1 => repeat (first | exact (Kd.C_below HR0.out HB.out) | (with_reducible refine Kd.C_alloc ?_ _) | (with_reducible refine Kd.C_drewN ?_ _) | (with_reducible refine Kd.C_drew ?_))); (case side2 => exact HC0.out); rintro e w' ⟨rfl, ⟨nd, rfl⟩⟩; (try first | exact ⟨rfl, _, World.drewN_drewN _ _ _⟩ | exact ⟨rfl, _, Eq.trans (World.drewN_drewN _ _ _) (congrArg (World.drewN _) (Nat.add_assoc _ _ _))⟩)) | (go_at_call 46; (with_reducible refine (curve_Cut.calls _ _ l0 t481 a1 t482 t483 _ ?side1 ?side2 A25.out).mono ?_); (case side1 => repeat (first | exact (Kd.C_below HR0.out (by repeat (first | (with_reducible first | exact HB.out | apply below_alloc | apply pw_below_drewN | apply below_drew1) | exact HB.out))) | (with_reducible refine Kd.C_alloc ?_ _) | (with_reducible refine Kd.C_drewN ?_ _) | (with_reducible refine Kd.C_drew ?_))); (case side2 => exact HC0.out); rintro e w27 ⟨v484, rfl, ho0, hb⟩; have n0_ := Aside0.mk (Kd.R_elder' (by (with_reducible repeat (first | apply Kd.R_alloc | apply Kd.R_drewN | apply Kd.R_drew)); exact HO_15.out) (Kd.R_base ho0) hb); have n1_ := Aside0.mk (Kd.R_lower (Kd.R_new' ho0 (Kd.R_lt (by (with_reducible repeat (first | apply Kd.R_alloc | apply Kd.R_drewN | apply Kd.R_drew)); exact HO_15.out))) (below_size (by repeat (first | (with_reducible first | exact HB.out | apply below_alloc | apply pw_below_drewN | apply below_drew1) | exact HB.out)))); have n2_ := Aside0.mk (below_step (by repeat (first | (with_reducible first | exact HB.out | apply below_alloc | apply pw_below_drewN | apply below_drew1) | exact HB.out)) hb); clear HO_15; clear HB; have HO_15 := n0_; have HO485 := n1_; have HB := n2_; clear n0_ n1_ n2_; (try clear hb); (try clear hb2); (try clear hk); (try clear hi); (try clear ho0))))
      (try simp only [Act.put, List.setIfInBounds_toArray, List.set_cons_zero, List.set_cons_succ])
      go_cut [] (fun wc => ∃ (kq : Nat), Aside0 (law_CurveSame.j2 kq l0 a2 a3 a4 a5 a6 t472 = some r) ∧ Aside0 (kq ≤ kj13) ∧ Aside0 (Kd.R k57 57 wc w.heap.size (fun _ => True) (.slice Ao17 t472.length co17) t472) ∧ Aside0 (Below w.heap.size w wc))
      case first => as_aux_lemma =>
       have H := HC26.out
       clear HC26
       by_cases c28 : t483 = 0
       ·
        rw [if_pos c28] at H
        have c28b0 : (t483 == 0) = true := beq_iff_eq.mpr c28
        have c28b1 : (t483 != 0) = false := bne_eq_false_iff_eq.mpr c28
        clear c28
        (first | rw [c28b0] | (simp only [i64_w, i32_w]; rw [c28b0]) | skip)
        replace H := Option.bind_eq_some_iff.mp H
        obtain ⟨t486, A290, H⟩ := H
        replace H : ((curve_Cut.f l0 a1 t486).bind fun bt487 => (if bt487.2 = 0 then ((curve_Join.f t482 bt487.1).bind fun bt491 => ((curve_Normal.f bt491.1).bind fun bt495 => (if bt491.2 = 2 then (some ((l0.length : Int) == 64)) else (if bt491.2 = 0 then (if bt495.2 = 0 then ((ref_Same.f kj13 bt495.1 t472).bind fun t499 => (law_CurveSame.j1 kj13 l0 a2 a3 a4 a5 a6 t472 (!t499))) else (law_CurveSame.j1 kj13 l0 a2 a3 a4 a5 a6 t472 true)) else (law_CurveSame.j1 kj13 l0 a2 a3 a4 a5 a6 t472 true))))) else (law_CurveSame.j2 kj13 l0 a2 a3 a4 a5 a6 t472))) = some r := H
        have A29 := Aside0.mk A290
        clear A290
        replace H := Option.bind_eq_some_iff.mp H
        obtain ⟨⟨t487, t488⟩, A300, H⟩ := H
        replace H : (if t488 = 0 then ((curve_Join.f t482 t487).bind fun bt491 => ((curve_Normal.f bt491.1).bind fun bt495 => (if bt491.2 = 2 then (some ((l0.length : Int) == 64)) else (if bt491.2 = 0 then (if bt495.2 = 0 then ((ref_Same.f kj13 bt495.1 t472).bind fun t499 => (law_CurveSame.j1 kj13 l0 a2 a3 a4 a5 a6 t472 (!t499))) else (law_CurveSame.j1 kj13 l0 a2 a3 a4 a5 a6 t472 true)) else (law_CurveSame.j1 kj13 l0 a2 a3 a4 a5 a6 t472 true))))) else (law_CurveSame.j2 kj13 l0 a2 a3 a4 a5 a6 t472)) = some r := H
        have A30 := Aside0.mk A300
        clear A300
        by_cases c31 : t488 = 0
        ·
         rw [if_pos c31] at H
         have c31b0 : (t488 == 0) = true := beq_iff_eq.mpr c31
         have c31b1 : (t488 != 0) = false := bne_eq_false_iff_eq.mpr c31
         clear c31
         replace H := Option.bind_eq_some_iff.mp H
         obtain ⟨⟨t491, t492⟩, A320, H⟩ := H
         replace H : ((curve_Normal.f t491).bind fun bt495 => (if t492 = 2 then (some ((l0.length : Int) == 64)) else (if t492 = 0 then (if bt495.2 = 0 then ((ref_Same.f kj13 bt495.1 t472).bind fun t499 => (law_CurveSame.j1 kj13 l0 a2 a3 a4 a5 a6 t472 (!t499))) else (law_CurveSame.j1 kj13 l0 a2 a3 a4 a5 a6 t472 true)) else (law_CurveSame.j1 kj13 l0 a2 a3 a4 a5 a6 t472 true)))) = some r := H
         have A32 := Aside0.mk A320
         clear A320
         replace H := Option.bind_eq_some_iff.mp H
         obtain ⟨⟨t495, t496⟩, A330, H⟩ := H
         replace H : (if t492 = 2 then (some ((l0.length : Int) == 64)) else (if t492 = 0 then (if t496 = 0 then ((ref_Same.f kj13 t495 t472).bind fun t499 => (law_CurveSame.j1 kj13 l0 a2 a3 a4 a5 a6 t472 (!t499))) else (law_CurveSame.j1 kj13 l0 a2 a3 a4 a5 a6 t472 true)) else (law_CurveSame.j1 kj13 l0 a2 a3 a4 a5 a6 t472 true))) = some r := H
         have A33 := Aside0.mk A330
         clear A330
         by_cases c34 : t492 = 2
         ·
          rw [if_pos c34] at H
          have c34b0 : (t492 == 2) = true := beq_iff_eq.mpr c34
          have c34b1 : (t492 != 2) = false := bne_eq_false_iff_eq.mpr c34
          clear c34
          obtain rfl := Option.some.inj H
          go_wp2_with (first | (go_at_call 48; (with_reducible refine (ref_To.calls _ _ l0 t486 _ ?side1 ?side2 A29.out).mono ?_); (case side1 => repeat (first | exact (Kd.C_below HR0.out HB.out) | (with_reducible refine Kd.C_alloc ?_ _) | (with_reducible refine Kd.C_drewN ?_ _) | (with_reducible refine Kd.C_drew ?_))); (case side2 => exact HC0.out); rintro e w' ⟨rfl, ⟨nd, rfl⟩⟩; (try first | exact ⟨rfl, _, World.drewN_drewN _ _ _⟩ | exact ⟨rfl, _, Eq.trans (World.drewN_drewN _ _ _) (congrArg (World.drewN _) (Nat.add_assoc _ _ _))⟩)) | (go_at_call 46; (with_reducible refine (curve_Cut.calls _ _ l0 a1 t486 t487 t488 _ ?side1 ?side2 A30.out).mono ?_); (case side1 => repeat (first | exact (Kd.C_below HR0.out (by repeat (first | (with_reducible first | exact HB.out | apply below_alloc | apply pw_below_drewN | apply below_drew1) | exact HB.out))) | (with_reducible refine Kd.C_alloc ?_ _) | (with_reducible refine Kd.C_drewN ?_ _) | (with_reducible refine Kd.C_drew ?_))); (case side2 => exact HC0.out); rintro e w35 ⟨v489, rfl, ho0, hb⟩; have n0_ := Aside0.mk (Kd.R_elder' (by (with_reducible repeat (first | apply Kd.R_alloc | apply Kd.R_drewN | apply Kd.R_drew)); exact HO_15.out) (Kd.R_base ho0) hb); have n1_ := Aside0.mk (Kd.R_elder' (by (with_reducible repeat (first | apply Kd.R_alloc | apply Kd.R_drewN | apply Kd.R_drew)); exact HO485.out) (Kd.R_base ho0) hb); have n2_ := Aside0.mk (Kd.R_lower (Kd.R_new' (Kd.R_new' ho0 (Kd.R_lt (by (with_reducible repeat (first | apply Kd.R_alloc | apply Kd.R_drewN | apply Kd.R_drew)); exact HO_15.out))) (Kd.R_lt (by (with_reducible repeat (first | apply Kd.R_alloc | apply Kd.R_drewN | apply Kd.R_drew)); exact HO485.out))) (below_size (by repeat (first | (with_reducible first | exact HB.out | apply below_alloc | apply pw_below_drewN | apply below_drew1) | exact HB.out)))); have n3_ := Aside0.mk (below_step (by repeat (first | (with_reducible first | exact HB.out | apply below_alloc | apply pw_below_drewN | apply below_drew1) | exact HB.out)) hb); clear HO_15; clear HO485; clear HB; have HO_15 := n0_; have HO485 := n1_; have HO490 := n2_; have HB := n3_; clear n0_ n1_ n2_ n3_; (try clear hb); (try clear hb2); (try clear hk); (try clear hi); (try clear ho0); obtain ⟨Ao36, co36, eo36⟩ := Kd.R_slice HO485.out; subst eo36; obtain ⟨Ao37, co37, eo37⟩ := Kd.R_slice HO490.out; subst eo37) | (go_at_call 49; (with_reducible refine (curve_Join.calls _ _ t482 _ _ t487 t491 t492 _ ?side1 ?side2 ?side3 ?side4 A32.out).mono ?_); (case side1 => repeat (first | exact (Kd.R_reads' HO485.out).2.2 | (with_reducible refine Kd.C_alloc ?_ _) | (with_reducible refine Kd.C_drewN ?_ _) | (with_reducible refine Kd.C_drew ?_))); (case side2 => exact (Kd.R_reads' HO485.out).2.1); (case side3 => repeat (first | exact (Kd.R_reads' HO490.out).2.2 | (with_reducible refine Kd.C_alloc ?_ _) | (with_reducible refine Kd.C_drewN ?_ _) | (with_reducible refine Kd.C_drew ?_))); (case side4 => exact (Kd.R_reads' HO490.out).2.1); rintro e w38 ⟨v493, rfl, ho0, hb⟩; have n0_ := Aside0.mk (Kd.R_elder' (by (with_reducible repeat (first | apply Kd.R_alloc | apply Kd.R_drewN | apply Kd.R_drew)); exact HO_15.out) (Kd.R_base ho0) hb); have n1_ := Aside0.mk (Kd.R_elder' (by (with_reducible repeat (first | apply Kd.R_alloc | apply Kd.R_drewN | apply Kd.R_drew)); exact HO485.out) (Kd.R_base ho0) hb); have n2_ := Aside0.mk (Kd.R_elder' (by (with_reducible repeat (first | apply Kd.R_alloc | apply Kd.R_drewN | apply Kd.R_drew)); exact HO490.out) (Kd.R_base ho0) hb); have n3_ := Aside0.mk (Kd.R_lower (Kd.R_new' (Kd.R_new' (Kd.R_new' ho0 (Kd.R_lt (by (with_reducible repeat (first | apply Kd.R_alloc | apply Kd.R_drewN | apply Kd.R_drew)); exact HO_15.out))) (Kd.R_lt (by (with_reducible repeat (first | apply Kd.R_alloc | apply Kd.R_drewN | apply Kd.R_drew)); exact HO485.out))) (Kd.R_lt (by (with_reducible repeat (first | apply Kd.R_alloc | apply Kd.R_drewN | apply Kd.R_drew)); exact HO490.out))) (below_size (by repeat (first | (with_reducible first | exact HB.out | apply below_alloc | apply pw_below_drewN | apply below_drew1) | exact HB.out)))); have n4_ := Aside0.mk (below_step (by repeat (first | (with_reducible first | exact HB.out | apply below_alloc | apply pw_below_drewN | apply below_drew1) | exact HB.out)) hb); clear HO_15; clear HO485; clear HO490; clear HB; have HO_15 := n0_; have HO485 := n1_; have HO490 := n2_; have HO494 := n3_; have HB := n4_; clear n0_ n1_ n2_ n3_ n4_; (try clear hb); (try clear hb2); (try clear hk); (try clear hi); (try clear ho0); obtain ⟨Ao39, co39, eo39⟩ := Kd.R_slice HO494.out; subst eo39) | (go_at_call 44; (with_reducible refine (curve_Normal.calls _ _ t491 t495 t496 _ ?side1 ?side2 A33.out).mono ?_); (case side1 => repeat (first | exact (Kd.R_reads' HO494.out).2.2 | (with_reducible refine Kd.C_alloc ?_ _) | (with_reducible refine Kd.C_drewN ?_ _) | (with_reducible refine Kd.C_drew ?_))); (case side2 => exact (Kd.R_reads' HO494.out).2.1); rintro e w40 ⟨v497, rfl, ho0, hb⟩; have n0_ := Aside0.mk (Kd.R_elder' (by (with_reducible repeat (first | apply Kd.R_alloc | apply Kd.R_drewN | apply Kd.R_drew)); exact HO_15.out) (Kd.R_base ho0) hb); have n1_ := Aside0.mk (Kd.R_elder' (by (with_reducible repeat (first | apply Kd.R_alloc | apply Kd.R_drewN | apply Kd.R_drew)); exact HO485.out) (Kd.R_base ho0) hb); have n2_ := Aside0.mk (Kd.R_elder' (by (with_reducible repeat (first | apply Kd.R_alloc | apply Kd.R_drewN | apply Kd.R_drew)); exact HO490.out) (Kd.R_base ho0) hb); have n3_ := Aside0.mk (Kd.R_elder' (by (with_reducible repeat (first | apply Kd.R_alloc | apply Kd.R_drewN | apply Kd.R_drew)); exact HO494.out) (Kd.R_base ho0) hb); have n4_ := Aside0.mk (Kd.R_lower (Kd.R_new' (Kd.R_new' (Kd.R_new' (Kd.R_new' ho0 (Kd.R_lt (by (with_reducible repeat (first | apply Kd.R_alloc | apply Kd.R_drewN | apply Kd.R_drew)); exact HO_15.out))) (Kd.R_lt (by (with_reducible repeat (first | apply Kd.R_alloc | apply Kd.R_drewN | apply Kd.R_drew)); exact HO485.out))) (Kd.R_lt (by (with_reducible repeat (first | apply Kd.R_alloc | apply Kd.R_drewN | apply Kd.R_drew)); exact HO490.out))) (Kd.R_lt (by (with_reducible repeat (first | apply Kd.R_alloc | apply Kd.R_drewN | apply Kd.R_drew)); exact HO494.out))) (below_size (by repeat (first | (with_reducible first | exact HB.out | apply below_alloc | apply pw_below_drewN | apply below_drew1) | exact HB.out)))); have n5_ := Aside0.mk (below_step (by repeat (first | (with_reducible first | exact HB.out | apply below_alloc | apply pw_below_drewN | apply below_drew1) | exact HB.out)) hb); clear HO_15; clear HO485; clear HO490; clear HO494; clear HB; have HO_15 := n0_; have HO485 := n1_; have HO490 := n2_; have HO494 := n3_; have HO498 := n4_; have HB := n5_; clear n0_ n1_ n2_ n3_ n4_ n5_; (try clear hb); (try clear hb2); (try clear hk); (try clear hi); (try clear ho0)))
          repeat (go_quiet (first | (go_at_call 48; (with_reducible refine (ref_To.calls _ _ l0 t486 _ ?side1 ?side2 A29.out).mono ?_); (case side1 => repeat (first | exact (Kd.C_below HR0.out HB.out) | (with_reducible refine Kd.C_alloc ?_ _) | (with_reducible refine Kd.C_drewN ?_ _) | (with_reducible refine Kd.C_drew ?_))); (case side2 => exact HC0.out); rintro e w' ⟨rfl, ⟨nd, rfl⟩⟩; (try first | exact ⟨rfl, _, World.drewN_drewN _ _ _⟩ | exact ⟨rfl, _, Eq.trans (World.drewN_drewN _ _ _) (congrArg (World.drewN _) (Nat.add_assoc _ _ _))⟩)) | (go_at_call 46; (with_reducible refine (curve_Cut.calls _ _ l0 a1 t486 t487 t488 _ ?side1 ?side2 A30.out).mono ?_); (case side1 => repeat (first | exact (Kd.C_below HR0.out (by repeat (first | (with_reducible first | exact HB.out | apply below_alloc | apply pw_below_drewN | apply below_drew1) | exact HB.out))) | (with_reducible refine Kd.C_alloc ?_ _) | (with_reducible refine Kd.C_drewN ?_ _) | (with_reducible refine Kd.C_drew ?_))); (case side2 => exact HC0.out); rintro e w35 ⟨v489, rfl, ho0, hb⟩; have n0_ := Aside0.mk (Kd.R_elder' (by (with_reducible repeat (first | apply Kd.R_alloc | apply Kd.R_drewN | apply Kd.R_drew)); exact HO_15.out) (Kd.R_base ho0) hb); have n1_ := Aside0.mk (Kd.R_elder' (by (with_reducible repeat (first | apply Kd.R_alloc | apply Kd.R_drewN | apply Kd.R_drew)); exact HO485.out) (Kd.R_base ho0) hb); have n2_ := Aside0.mk (Kd.R_lower (Kd.R_new' (Kd.R_new' ho0 (Kd.R_lt (by (with_reducible repeat (first | apply Kd.R_alloc | apply Kd.R_drewN | apply Kd.R_drew)); exact HO_15.out))) (Kd.R_lt (by (with_reducible repeat (first | apply Kd.R_alloc | apply Kd.R_drewN | apply Kd.R_drew)); exact HO485.out))) (below_size (by repeat (first | (with_reducible first | exact HB.out | apply below_alloc | apply pw_below_drewN | apply below_drew1) | exact HB.out)))); have n3_ := Aside0.mk (below_step (by repeat (first | (with_reducible first | exact HB.out | apply below_alloc | apply pw_below_drewN | apply below_drew1) | exact HB.out)) hb); clear HO_15; clear HO485; clear HB; have HO_15 := n0_; have HO485 := n1_; have HO490 := n2_; have HB := n3_; clear n0_ n1_ n2_ n3_; (try clear hb); (try clear hb2); (try clear hk); (try clear hi); (try clear ho0); obtain ⟨Ao36, co36, eo36⟩ := Kd.R_slice HO485.out; subst eo36; obtain ⟨Ao37, co37, eo37⟩ := Kd.R_slice HO490.out; subst eo37) | (go_at_call 49; (with_reducible refine (curve_Join.calls _ _ t482 _ _ t487 t491 t492 _ ?side1 ?side2 ?side3 ?side4 A32.out).mono ?_); (case side1 => repeat (first | exact (Kd.R_reads' HO485.out).2.2 | (with_reducible refine Kd.C_alloc ?_ _) | (with_reducible refine Kd.C_drewN ?_ _) | (with_reducible refine Kd.C_drew ?_))); (case side2 => exact (Kd.R_reads' HO485.out).2.1); (case side3 => repeat (first | exact (Kd.R_reads' HO490.out).2.2 | (with_reducible refine Kd.C_alloc ?_ _) | (with_reducible refine Kd.C_drewN ?_ _) | (with_reducible refine Kd.C_drew ?_))); (case side4 => exact (Kd.R_reads' HO490.out).2.1); rintro e w38 ⟨v493, rfl, ho0, hb⟩; have n0_ := Aside0.mk (Kd.R_elder' (by (with_reducible repeat (first | apply Kd.R_alloc | apply Kd.R_drewN | apply Kd.R_drew)); exact HO_15.out) (Kd.R_base ho0) hb); have n1_ := Aside0.mk (Kd.R_elder' (by (with_reducible repeat (first | apply Kd.R_alloc | apply Kd.R_drewN | apply Kd.R_drew)); exact HO485.out) (Kd.R_base ho0) hb); have n2_ := Aside0.mk (Kd.R_elder' (by (with_reducible repeat (first | apply Kd.R_alloc | apply Kd.R_drewN | apply Kd.R_drew)); exact HO490.out) (Kd.R_base ho0) hb); have n3_ := Aside0.mk (Kd.R_lower (Kd.R_new' (Kd.R_new' (Kd.R_new' ho0 (Kd.R_lt (by (with_reducible repeat (first | apply Kd.R_alloc | apply Kd.R_drewN | apply Kd.R_drew)); exact HO_15.out))) (Kd.R_lt (by (with_reducible repeat (first | apply Kd.R_alloc | apply Kd.R_drewN | apply Kd.R_drew)); exact HO485.out))) (Kd.R_lt (by (with_reducible repeat (first | apply Kd.R_alloc | apply Kd.R_drewN | apply Kd.R_drew)); exact HO490.out))) (below_size (by repeat (first | (with_reducible first | exact HB.out | apply below_alloc | apply pw_below_drewN | apply below_drew1) | exact HB.out)))); have n4_ := Aside0.mk (below_step (by repeat (first | (with_reducible first | exact HB.out | apply below_alloc | apply pw_below_drewN | apply below_drew1) | exact HB.out)) hb); clear HO_15; clear HO485; clear HO490; clear HB; have HO_15 := n0_; have HO485 := n1_; have HO490 := n2_; have HO494 := n3_; have HB := n4_; clear n0_ n1_ n2_ n3_ n4_; (try clear hb); (try clear hb2); (try clear hk); (try clear hi); (try clear ho0); obtain ⟨Ao39, co39, eo39⟩ := Kd.R_slice HO494.out; subst eo39) | (go_at_call 44; (with_reducible refine (curve_Normal.calls _ _ t491 t495 t496 _ ?side1 ?side2 A33.out).mono ?_); (case side1 => repeat (first | exact (Kd.R_reads' HO494.out).2.2 | (with_reducible refine Kd.C_alloc ?_ _) | (with_reducible refine Kd.C_drewN ?_ _) | (with_reducible refine Kd.C_drew ?_))); (case side2 => exact (Kd.R_reads' HO494.out).2.1); rintro e w40 ⟨v497, rfl, ho0, hb⟩; have n0_ := Aside0.mk (Kd.R_elder' (by (with_reducible repeat (first | apply Kd.R_alloc | apply Kd.R_drewN | apply Kd.R_drew)); exact HO_15.out) (Kd.R_base ho0) hb); have n1_ := Aside0.mk (Kd.R_elder' (by (with_reducible repeat (first | apply Kd.R_alloc | apply Kd.R_drewN | apply Kd.R_drew)); exact HO485.out) (Kd.R_base ho0) hb); have n2_ := Aside0.mk (Kd.R_elder' (by (with_reducible repeat (first | apply Kd.R_alloc | apply Kd.R_drewN | apply Kd.R_drew)); exact HO490.out) (Kd.R_base ho0) hb); have n3_ := Aside0.mk (Kd.R_elder' (by (with_reducible repeat (first | apply Kd.R_alloc | apply Kd.R_drewN | apply Kd.R_drew)); exact HO494.out) (Kd.R_base ho0) hb); have n4_ := Aside0.mk (Kd.R_lower (Kd.R_new' (Kd.R_new' (Kd.R_new' (Kd.R_new' ho0 (Kd.R_lt (by (with_reducible repeat (first | apply Kd.R_alloc | apply Kd.R_drewN | apply Kd.R_drew)); exact HO_15.out))) (Kd.R_lt (by (with_reducible repeat (first | apply Kd.R_alloc | apply Kd.R_drewN | apply Kd.R_drew)); exact HO485.out))) (Kd.R_lt (by (with_reducible repeat (first | apply Kd.R_alloc | apply Kd.R_drewN | apply Kd.R_drew)); exact HO490.out))) (Kd.R_lt (by (with_reducible repeat (first | apply Kd.R_alloc | apply Kd.R_drewN | apply Kd.R_drew)); exact HO494.out))) (below_size (by repeat (first | (with_reducible first | exact HB.out | apply below_alloc | apply pw_below_drewN | apply below_drew1) | exact HB.out)))); have n5_ := Aside0.mk (below_step (by repeat (first | (with_reducible first | exact HB.out | apply below_alloc | apply pw_below_drewN | apply below_drew1) | exact HB.out)) hb); clear HO_15; clear HO485; clear HO490; clear HO494; clear HB; have HO_15 := n0_; have HO485 := n1_; have HO490 := n2_; have HO494 := n3_; have HO498 := n4_; have HB := n5_; clear n0_ n1_ n2_ n3_ n4_ n5_; (try clear hb); (try clear hb2); (try clear hk); (try clear hi); (try clear ho0))); try go_wp2_with (first | (go_at_call 48; (with_reducible refine (ref_To.calls _ _ l0 t486 _ ?side1 ?side2 A29.out).mono ?_); (case side1 => repeat (first | exact (Kd.C_below HR0.out HB.out) | (with_reducible refine Kd.C_alloc ?_ _) | (with_reducible refine Kd.C_drewN ?_ _) | (with_reducible refine Kd.C_drew ?_))); (case side2 => exact HC0.out); rintro e w' ⟨rfl, ⟨nd, rfl⟩⟩; (try first | exact ⟨rfl, _, World.drewN_drewN _ _ _⟩ | exact ⟨rfl, _, Eq.trans (World.drewN_drewN _ _ _) (congrArg (World.drewN _) (Nat.add_assoc _ _ _))⟩)) | (go_at_call 46; (with_reducible refine (curve_Cut.calls _ _ l0 a1 t486 t487 t488 _ ?side1 ?side2 A30.out).mono ?_); (case side1 => repeat (first | exact (Kd.C_below HR0.out (by repeat (first | (with_reducible first | exact HB.out | apply below_alloc | apply pw_below_drewN | apply below_drew1) | exact HB.out))) | (with_reducible refine Kd.C_alloc ?_ _) | (with_reducible refine Kd.C_drewN ?_ _) | (with_reducible refine Kd.C_drew ?_))); (case side2 => exact HC0.out); rintro e w35 ⟨v489, rfl, ho0, hb⟩; have n0_ := Aside0.mk (Kd.R_elder' (by (with_reducible repeat (first | apply Kd.R_alloc | apply Kd.R_drewN | apply Kd.R_drew)); exact HO_15.out) (Kd.R_base ho0) hb); have n1_ := Aside0.mk (Kd.R_elder' (by (with_reducible repeat (first | apply Kd.R_alloc | apply Kd.R_drewN | apply Kd.R_drew)); exact HO485.out) (Kd.R_base ho0) hb); have n2_ := Aside0.mk (Kd.R_lower (Kd.R_new' (Kd.R_new' ho0 (Kd.R_lt (by (with_reducible repeat (first | apply Kd.R_alloc | apply Kd.R_drewN | apply Kd.R_drew)); exact HO_15.out))) (Kd.R_lt (by (with_reducible repeat (first | apply Kd.R_alloc | apply Kd.R_drewN | apply Kd.R_drew)); exact HO485.out))) (below_size (by repeat (first | (with_reducible first | exact HB.out | apply below_alloc | apply pw_below_drewN | apply below_drew1) | exact HB.out)))); have n3_ := Aside0.mk (below_step (by repeat (first | (with_reducible first | exact HB.out | apply below_alloc | apply pw_below_drewN | apply below_drew1) | exact HB.out)) hb); clear HO_15; clear HO485; clear HB; have HO_15 := n0_; have HO485 := n1_; have HO490 := n2_; have HB := n3_; clear n0_ n1_ n2_ n3_; (try clear hb); (try clear hb2); (try clear hk); (try clear hi); (try clear ho0); obtain ⟨Ao36, co36, eo36⟩ := Kd.R_slice HO485.out; subst eo36; obtain ⟨Ao37, co37, eo37⟩ := Kd.R_slice HO490.out; subst eo37) | (go_at_call 49; (with_reducible refine (curve_Join.calls _ _ t482 _ _ t487 t491 t492 _ ?side1 ?side2 ?side3 ?side4 A32.out).mono ?_); (case side1 => repeat (first | exact (Kd.R_reads' HO485.out).2.2 | (with_reducible refine Kd.C_alloc ?_ _) | (with_reducible refine Kd.C_drewN ?_ _) | (with_reducible refine Kd.C_drew ?_))); (case side2 => exact (Kd.R_reads' HO485.out).2.1); (case side3 => repeat (first | exact (Kd.R_reads' HO490.out).2.2 | (with_reducible refine Kd.C_alloc ?_ _) | (with_reducible refine Kd.C_drewN ?_ _) | (with_reducible refine Kd.C_drew ?_))); (case side4 => exact (Kd.R_reads' HO490.out).2.1); rintro e w38 ⟨v493, rfl, ho0, hb⟩; have n0_ := Aside0.mk (Kd.R_elder' (by (with_reducible repeat (first | apply Kd.R_alloc | apply Kd.R_drewN | apply Kd.R_drew)); exact HO_15.out) (Kd.R_base ho0) hb); have n1_ := Aside0.mk (Kd.R_elder' (by (with_reducible repeat (first | apply Kd.R_alloc | apply Kd.R_drewN | apply Kd.R_drew)); exact HO485.out) (Kd.R_base ho0) hb); have n2_ := Aside0.mk (Kd.R_elder' (by (with_reducible repeat (first | apply Kd.R_alloc | apply Kd.R_drewN | apply Kd.R_drew)); exact HO490.out) (Kd.R_base ho0) hb); have n3_ := Aside0.mk (Kd.R_lower (Kd.R_new' (Kd.R_new' (Kd.R_new' ho0 (Kd.R_lt (by (with_reducible repeat (first | apply Kd.R_alloc | apply Kd.R_drewN | apply Kd.R_drew)); exact HO_15.out))) (Kd.R_lt (by (with_reducible repeat (first | apply Kd.R_alloc | apply Kd.R_drewN | apply Kd.R_drew)); exact HO485.out))) (Kd.R_lt (by (with_reducible repeat (first | apply Kd.R_alloc | apply Kd.R_drewN | apply Kd.R_drew)); exact HO490.out))) (below_size (by repeat (first | (with_reducible first | exact HB.out | apply below_alloc | apply pw_below_drewN | apply below_drew1) | exact HB.out)))); have n4_ := Aside0.mk (below_step (by repeat (first | (with_reducible first | exact HB.out | apply below_alloc | apply pw_below_drewN | apply below_drew1) | exact HB.out)) hb); clear HO_15; clear HO485; clear HO490; clear HB; have HO_15 := n0_; have HO485 := n1_; have HO490 := n2_; have HO494 := n3_; have HB := n4_; clear n0_ n1_ n2_ n3_ n4_; (try clear hb); (try clear hb2); (try clear hk); (try clear hi); (try clear ho0); obtain ⟨Ao39, co39, eo39⟩ := Kd.R_slice HO494.out; subst eo39) | (go_at_call 44; (with_reducible refine (curve_Normal.calls _ _ t491 t495 t496 _ ?side1 ?side2 A33.out).mono ?_); (case side1 => repeat (first | exact (Kd.R_reads' HO494.out).2.2 | (with_reducible refine Kd.C_alloc ?_ _) | (with_reducible refine Kd.C_drewN ?_ _) | (with_reducible refine Kd.C_drew ?_))); (case side2 => exact (Kd.R_reads' HO494.out).2.1); rintro e w40 ⟨v497, rfl, ho0, hb⟩; have n0_ := Aside0.mk (Kd.R_elder' (by (with_reducible repeat (first | apply Kd.R_alloc | apply Kd.R_drewN | apply Kd.R_drew)); exact HO_15.out) (Kd.R_base ho0) hb); have n1_ := Aside0.mk (Kd.R_elder' (by (with_reducible repeat (first | apply Kd.R_alloc | apply Kd.R_drewN | apply Kd.R_drew)); exact HO485.out) (Kd.R_base ho0) hb); have n2_ := Aside0.mk (Kd.R_elder' (by (with_reducible repeat (first | apply Kd.R_alloc | apply Kd.R_drewN | apply Kd.R_drew)); exact HO490.out) (Kd.R_base ho0) hb); have n3_ := Aside0.mk (Kd.R_elder' (by (with_reducible repeat (first | apply Kd.R_alloc | apply Kd.R_drewN | apply Kd.R_drew)); exact HO494.out) (Kd.R_base ho0) hb); have n4_ := Aside0.mk (Kd.R_lower (Kd.R_new' (Kd.R_new' (Kd.R_new' (Kd.R_new' ho0 (Kd.R_lt (by (with_reducible repeat (first | apply Kd.R_alloc | apply Kd.R_drewN | apply Kd.R_drew)); exact HO_15.out))) (Kd.R_lt (by (with_reducible repeat (first | apply Kd.R_alloc | apply Kd.R_drewN | apply Kd.R_drew)); exact HO485.out))) (Kd.R_lt (by (with_reducible repeat (first | apply Kd.R_alloc | apply Kd.R_drewN | apply Kd.R_drew)); exact HO490.out))) (Kd.R_lt (by (with_reducible repeat (first | apply Kd.R_alloc | apply Kd.R_drewN | apply Kd.R_drew)); exact HO494.out))) (below_size (by repeat (first | (with_reducible first | exact HB.out | apply below_alloc | apply pw_below_drewN | apply below_drew1) | exact HB.out)))); have n5_ := Aside0.mk (below_step (by repeat (first | (with_reducible first | exact HB.out | apply below_alloc | apply pw_below_drewN | apply below_drew1) | exact HB.out)) hb); clear HO_15; clear HO485; clear HO490; clear HO494; clear HB; have HO_15 := n0_; have HO485 := n1_; have HO490 := n2_; have HO494 := n3_; have HO498 := n4_; have HB := n5_; clear n0_ n1_ n2_ n3_ n4_ n5_; (try clear hb); (try clear hb2); (try clear hk); (try clear hi); (try clear ho0))))
          go_ret
          exact ⟨by first | rfl | (simp [errW_none, errW_some] <;> rfl) | (simp [*, errW_none, errW_some] <;> rfl), by repeat (first | (with_reducible first | exact HB.out | apply below_alloc | apply pw_below_drewN | apply below_drew1) | exact HB.out)⟩
         ·
          rw [if_neg c34] at H
          have c34b0 : (t492 == 2) = false := beq_eq_false_iff_ne.mpr c34
          have c34b1 : (t492 != 2) = true := bne_iff_ne.mpr c34
          have HC41 := Aside0.mk H
          clear H
          go_upto_region 17 with (first | (go_at_call 48; (with_reducible refine (ref_To.calls _ _ l0 t486 _ ?side1 ?side2 A29.out).mono ?_); (case side1 => repeat (first | exact (Kd.C_below HR0.out HB.out) | (with_reducible refine Kd.C_alloc ?_ _) | (with_reducible refine Kd.C_drewN ?_ _) | (with_reducible refine Kd.C_drew ?_))); (case side2 => exact HC0.out); rintro e w' ⟨rfl, ⟨nd, rfl⟩⟩; (try first | exact ⟨rfl, _, World.drewN_drewN _ _ _⟩ | exact ⟨rfl, _, Eq.trans (World.drewN_drewN _ _ _) (congrArg (World.drewN _) (Nat.add_assoc _ _ _))⟩)) | (go_at_call 46; (with_reducible refine (curve_Cut.calls _ _ l0 a1 t486 t487 t488 _ ?side1 ?side2 A30.out).mono ?_); (case side1 => repeat (first | exact (Kd.C_below HR0.out (by repeat (first | (with_reducible first | exact HB.out | apply below_alloc | apply pw_below_drewN | apply below_drew1) | exact HB.out))) | (with_reducible refine Kd.C_alloc ?_ _) | (with_reducible refine Kd.C_drewN ?_ _) | (with_reducible refine Kd.C_drew ?_))); (case side2 => exact HC0.out); rintro e w42 ⟨v489, rfl, ho0, hb⟩; have n0_ := Aside0.mk (Kd.R_elder' (by (with_reducible repeat (first | apply Kd.R_alloc | apply Kd.R_drewN | apply Kd.R_drew)); exact HO_15.out) (Kd.R_base ho0) hb); have n1_ := Aside0.mk (Kd.R_elder' (by (with_reducible repeat (first | apply Kd.R_alloc | apply Kd.R_drewN | apply Kd.R_drew)); exact HO485.out) (Kd.R_base ho0) hb); have n2_ := Aside0.mk (Kd.R_lower (Kd.R_new' (Kd.R_new' ho0 (Kd.R_lt (by (with_reducible repeat (first | apply Kd.R_alloc | apply Kd.R_drewN | apply Kd.R_drew)); exact HO_15.out))) (Kd.R_lt (by (with_reducible repeat (first | apply Kd.R_alloc | apply Kd.R_drewN | apply Kd.R_drew)); exact HO485.out))) (below_size (by repeat (first | (with_reducible first | exact HB.out | apply below_alloc | apply pw_below_drewN | apply below_drew1) | exact HB.out)))); have n3_ := Aside0.mk (below_step (by repeat (first | (with_reducible first | exact HB.out | apply below_alloc | apply pw_below_drewN | apply below_drew1) | exact HB.out)) hb); clear HO_15; clear HO485; clear HB; have HO_15 := n0_; have HO485 := n1_; have HO490 := n2_; have HB := n3_; clear n0_ n1_ n2_ n3_; (try clear hb); (try clear hb2); (try clear hk); (try clear hi); (try clear ho0); obtain ⟨Ao43, co43, eo43⟩ := Kd.R_slice HO485.out; subst eo43; obtain ⟨Ao44, co44, eo44⟩ := Kd.R_slice HO490.out; subst eo44) | (go_at_call 49; (with_reducible refine (curve_Join.calls _ _ t482 _ _ t487 t491 t492 _ ?side1 ?side2 ?side3 ?side4 A32.out).mono ?_); (case side1 => repeat (first | exact (Kd.R_reads' HO485.out).2.2 | (with_reducible refine Kd.C_alloc ?_ _) | (with_reducible refine Kd.C_drewN ?_ _) | (with_reducible refine Kd.C_drew ?_))); (case side2 => exact (Kd.R_reads' HO485.out).2.1); (case side3 => repeat (first | exact (Kd.R_reads' HO490.out).2.2 | (with_reducible refine Kd.C_alloc ?_ _) | (with_reducible refine Kd.C_drewN ?_ _) | (with_reducible refine Kd.C_drew ?_))); (case side4 => exact (Kd.R_reads' HO490.out).2.1); rintro e w45 ⟨v493, rfl, ho0, hb⟩; have n0_ := Aside0.mk (Kd.R_elder' (by (with_reducible repeat (first | apply Kd.R_alloc | apply Kd.R_drewN | apply Kd.R_drew)); exact HO_15.out) (Kd.R_base ho0) hb); have n1_ := Aside0.mk (Kd.R_elder' (by (with_reducible repeat (first | apply Kd.R_alloc | apply Kd.R_drewN | apply Kd.R_drew)); exact HO485.out) (Kd.R_base ho0) hb); have n2_ := Aside0.mk (Kd.R_elder' (by (with_reducible repeat (first | apply Kd.R_alloc | apply Kd.R_drewN | apply Kd.R_drew)); exact HO490.out) (Kd.R_base ho0) hb); have n3_ := Aside0.mk (Kd.R_lower (Kd.R_new' (Kd.R_new' (Kd.R_new' ho0 (Kd.R_lt (by (with_reducible repeat (first | apply Kd.R_alloc | apply Kd.R_drewN | apply Kd.R_drew)); exact HO_15.out))) (Kd.R_lt (by (with_reducible repeat (first | apply Kd.R_alloc | apply Kd.R_drewN | apply Kd.R_drew)); exact HO485.out))) (Kd.R_lt (by (with_reducible repeat (first | apply Kd.R_alloc | apply Kd.R_drewN | apply Kd.R_drew)); exact HO490.out))) (below_size (by repeat (first | (with_reducible first | exact HB.out | apply below_alloc | apply pw_below_drewN | apply below_drew1) | exact HB.out)))); have n4_ := Aside0.mk (below_step (by repeat (first | (with_reducible first | exact HB.out | apply below_alloc | apply pw_below_drewN | apply below_drew1) | exact HB.out)) hb); clear HO_15; clear HO485; clear HO490; clear HB; have HO_15 := n0_; have HO485 := n1_; have HO490 := n2_; have HO494 := n3_; have HB := n4_; clear n0_ n1_ n2_ n3_ n4_; (try clear hb); (try clear hb2); (try clear hk); (try clear hi); (try clear ho0); obtain ⟨Ao46, co46, eo46⟩ := Kd.R_slice HO494.out; subst eo46) | (go_at_call 44; (with_reducible refine (curve_Normal.calls _ _ t491 t495 t496 _ ?side1 ?side2 A33.out).mono ?_); (case side1 => repeat (first | exact (Kd.R_reads' HO494.out).2.2 | (with_reducible refine Kd.C_alloc ?_ _) | (with_reducible refine Kd.C_drewN ?_ _) | (with_reducible refine Kd.C_drew ?_))); (case side2 => exact (Kd.R_reads' HO494.out).2.1); rintro e w47 ⟨v497, rfl, ho0, hb⟩; have n0_ := Aside0.mk (Kd.R_elder' (by (with_reducible repeat (first | apply Kd.R_alloc | apply Kd.R_drewN | apply Kd.R_drew)); exact HO_15.out) (Kd.R_base ho0) hb); have n1_ := Aside0.mk (Kd.R_elder' (by (with_reducible repeat (first | apply Kd.R_alloc | apply Kd.R_drewN | apply Kd.R_drew)); exact HO485.out) (Kd.R_base ho0) hb); have n2_ := Aside0.mk (Kd.R_elder' (by (with_reducible repeat (first | apply Kd.R_alloc | apply Kd.R_drewN | apply Kd.R_drew)); exact HO490.out) (Kd.R_base ho0) hb); have n3_ := Aside0.mk (Kd.R_elder' (by (with_reducible repeat (first | apply Kd.R_alloc | apply Kd.R_drewN | apply Kd.R_drew)); exact HO494.out) (Kd.R_base ho0) hb); have n4_ := Aside0.mk (Kd.R_lower (Kd.R_new' (Kd.R_new' (Kd.R_new' (Kd.R_new' ho0 (Kd.R_lt (by (with_reducible repeat (first | apply Kd.R_alloc | apply Kd.R_drewN | apply Kd.R_drew)); exact HO_15.out))) (Kd.R_lt (by (with_reducible repeat (first | apply Kd.R_alloc | apply Kd.R_drewN | apply Kd.R_drew)); exact HO485.out))) (Kd.R_lt (by (with_reducible repeat (first | apply Kd.R_alloc | apply Kd.R_drewN | apply Kd.R_drew)); exact HO490.out))) (Kd.R_lt (by (with_reducible repeat (first | apply Kd.R_alloc | apply Kd.R_drewN | apply Kd.R_drew)); exact HO494.out))) (below_size (by repeat (first | (with_reducible first | exact HB.out | apply below_alloc | apply pw_below_drewN | apply below_drew1) | exact HB.out)))); have n5_ := Aside0.mk (below_step (by repeat (first | (with_reducible first | exact HB.out | apply below_alloc | apply pw_below_drewN | apply below_drew1) | exact HB.out)) hb); clear HO_15; clear HO485; clear HO490; clear HO494; clear HB; have HO_15 := n0_; have HO485 := n1_; have HO490 := n2_; have HO494 := n3_; have HO498 := n4_; have HB := n5_; clear n0_ n1_ n2_ n3_ n4_ n5_; (try clear hb); (try clear hb2); (try clear hk); (try clear hi); (try clear ho0)))
          repeat (go_quiet (first | (go_at_call 48; (with_reducible refine (ref_To.calls _ _ l0 t486 _ ?side1 ?side2 A29.out).mono ?_); (case side1 => repeat (first | exact (Kd.C_below HR0.out HB.out) | (with_reducible refine Kd.C_alloc ?_ _) | (with_reducible refine Kd.C_drewN ?_ _) | (with_reducible refine Kd.C_drew ?_))); (case side2 => exact HC0.out); rintro e w' ⟨rfl, ⟨nd, rfl⟩⟩; (try first | exact ⟨rfl, _, World.drewN_drewN _ _ _⟩ | exact ⟨rfl, _, Eq.trans (World.drewN_drewN _ _ _) (congrArg (World.drewN _) (Nat.add_assoc _ _ _))⟩)) | (go_at_call 46; (with_reducible refine (curve_Cut.calls _ _ l0 a1 t486 t487 t488 _ ?side1 ?side2 A30.out).mono ?_); (case side1 => repeat (first | exact (Kd.C_below HR0.out (by repeat (first | (with_reducible first | exact HB.out | apply below_alloc | apply pw_below_drewN | apply below_drew1) | exact HB.out))) | (with_reducible refine Kd.C_alloc ?_ _) | (with_reducible refine Kd.C_drewN ?_ _) | (with_reducible refine Kd.C_drew ?_))); (case side2 => exact HC0.out); rintro e w42 ⟨v489, rfl, ho0, hb⟩; have n0_ := Aside0.mk (Kd.R_elder' (by (with_reducible repeat (first | apply Kd.R_alloc | apply Kd.R_drewN | apply Kd.R_drew)); exact HO_15.out) (Kd.R_base ho0) hb); have n1_ := Aside0.mk (Kd.R_elder' (by (with_reducible repeat (first | apply Kd.R_alloc | apply Kd.R_drewN | apply Kd.R_drew)); exact HO485.out) (Kd.R_base ho0) hb); have n2_ := Aside0.mk (Kd.R_lower (Kd.R_new' (Kd.R_new' ho0 (Kd.R_lt (by (with_reducible repeat (first | apply Kd.R_alloc | apply Kd.R_drewN | apply Kd.R_drew)); exact HO_15.out))) (Kd.R_lt (by (with_reducible repeat (first | apply Kd.R_alloc | apply Kd.R_drewN | apply Kd.R_drew)); exact HO485.out))) (below_size (by repeat (first | (with_reducible first | exact HB.out | apply below_alloc | apply pw_below_drewN | apply below_drew1) | exact HB.out)))); have n3_ := Aside0.mk (below_step (by repeat (first | (with_reducible first | exact HB.out | apply below_alloc | apply pw_below_drewN | apply below_drew1) | exact HB.out)) hb); clear HO_15; clear HO485; clear HB; have HO_15 := n0_; have HO485 := n1_; have HO490 := n2_; have HB := n3_; clear n0_ n1_ n2_ n3_; (try clear hb); (try clear hb2); (try clear hk); (try clear hi); (try clear ho0); obtain ⟨Ao43, co43, eo43⟩ := Kd.R_slice HO485.out; subst eo43; obtain ⟨Ao44, co44, eo44⟩ := Kd.R_slice HO490.out; subst eo44) | (go_at_call 49; (with_reducible refine (curve_Join.calls _ _ t482 _ _ t487 t491 t492 _ ?side1 ?side2 ?side3 ?side4 A32.out).mono ?_); (case side1 => repeat (first | exact (Kd.R_reads' HO485.out).2.2 | (with_reducible refine Kd.C_alloc ?_ _) | (with_reducible refine Kd.C_drewN ?_ _) | (with_reducible refine Kd.C_drew ?_))); (case side2 => exact (Kd.R_reads' HO485.out).2.1); (case side3 => repeat (first | exact (Kd.R_reads' HO490.out).2.2 | (with_reducible refine Kd.C_alloc ?_ _) | (with_reducible refine Kd.C_drewN ?_ _) | (with_reducible refine Kd.C_drew ?_))); (case side4 => exact (Kd.R_reads' HO490.out).2.1); rintro e w45 ⟨v493, rfl, ho0, hb⟩; have n0_ := Aside0.mk (Kd.R_elder' (by (with_reducible repeat (first | apply Kd.R_alloc | apply Kd.R_drewN | apply Kd.R_drew)); exact HO_15.out) (Kd.R_base ho0) hb); have n1_ := Aside0.mk (Kd.R_elder' (by (with_reducible repeat (first | apply Kd.R_alloc | apply Kd.R_drewN | apply Kd.R_drew)); exact HO485.out) (Kd.R_base ho0) hb); have n2_ := Aside0.mk (Kd.R_elder' (by (with_reducible repeat (first | apply Kd.R_alloc | apply Kd.R_drewN | apply Kd.R_drew)); exact HO490.out) (Kd.R_base ho0) hb); have n3_ := Aside0.mk (Kd.R_lower (Kd.R_new' (Kd.R_new' (Kd.R_new' ho0 (Kd.R_lt (by (with_reducible repeat (first | apply Kd.R_alloc | apply Kd.R_drewN | apply Kd.R_drew)); exact HO_15.out))) (Kd.R_lt (by (with_reducible repeat (first | apply Kd.R_alloc | apply Kd.R_drewN | apply Kd.R_drew)); exact HO485.out))) (Kd.R_lt (by (with_reducible repeat (first | apply Kd.R_alloc | apply Kd.R_drewN | apply Kd.R_drew)); exact HO490.out))) (below_size (by repeat (first | (with_reducible first | exact HB.out | apply below_alloc | apply pw_below_drewN | apply below_drew1) | exact HB.out)))); have n4_ := Aside0.mk (below_step (by repeat (first | (with_reducible first | exact HB.out | apply below_alloc | apply pw_below_drewN | apply below_drew1) | exact HB.out)) hb); clear HO_15; clear HO485; clear HO490; clear HB; have HO_15 := n0_; have HO485 := n1_; have HO490 := n2_; have HO494 := n3_; have HB := n4_; clear n0_ n1_ n2_ n3_ n4_; (try clear hb); (try clear hb2); (try clear hk); (try clear hi); (try clear ho0); obtain ⟨Ao46, co46, eo46⟩ := Kd.R_slice HO494.out; subst eo46) | (go_at_call 44; (with_reducible refine (curve_Normal.calls _ _ t491 t495 t496 _ ?side1 ?side2 A33.out).mono ?_); (case side1 => repeat (first | exact (Kd.R_reads' HO494.out).2.2 | (with_reducible refine Kd.C_alloc ?_ _) | (with_reducible refine Kd.C_drewN ?_ _) | (with_reducible refine Kd.C_drew ?_))); (case side2 => exact (Kd.R_reads' HO494.out).2.1); rintro e w47 ⟨v497, rfl, ho0, hb⟩; have n0_ := Aside0.mk (Kd.R_elder' (by (with_reducible repeat (first | apply Kd.R_alloc | apply Kd.R_drewN | apply Kd.R_drew)); exact HO_15.out) (Kd.R_base ho0) hb); have n1_ := Aside0.mk (Kd.R_elder' (by (with_reducible repeat (first | apply Kd.R_alloc | apply Kd.R_drewN | apply Kd.R_drew)); exact HO485.out) (Kd.R_base ho0) hb); have n2_ := Aside0.mk (Kd.R_elder' (by (with_reducible repeat (first | apply Kd.R_alloc | apply Kd.R_drewN | apply Kd.R_drew)); exact HO490.out) (Kd.R_base ho0) hb); have n3_ := Aside0.mk (Kd.R_elder' (by (with_reducible repeat (first | apply Kd.R_alloc | apply Kd.R_drewN | apply Kd.R_drew)); exact HO494.out) (Kd.R_base ho0) hb); have n4_ := Aside0.mk (Kd.R_lower (Kd.R_new' (Kd.R_new' (Kd.R_new' (Kd.R_new' ho0 (Kd.R_lt (by (with_reducible repeat (first | apply Kd.R_alloc | apply Kd.R_drewN | apply Kd.R_drew)); exact HO_15.out))) (Kd.R_lt (by (with_reducible repeat (first | apply Kd.R_alloc | apply Kd.R_drewN | apply Kd.R_drew)); exact HO485.out))) (Kd.R_lt (by (with_reducible repeat (first | apply Kd.R_alloc | apply Kd.R_drewN | apply Kd.R_drew)); exact HO490.out))) (Kd.R_lt (by (with_reducible repeat (first | apply Kd.R_alloc | apply Kd.R_drewN | apply Kd.R_drew)); exact HO494.out))) (below_size (by repeat (first | (with_reducible first | exact HB.out | apply below_alloc | apply pw_below_drewN | apply below_drew1) | exact HB.out)))); have n5_ := Aside0.mk (below_step (by repeat (first | (with_reducible first | exact HB.out | apply below_alloc | apply pw_below_drewN | apply below_drew1) | exact HB.out)) hb); clear HO_15; clear HO485; clear HO490; clear HO494; clear HB; have HO_15 := n0_; have HO485 := n1_; have HO490 := n2_; have HO494 := n3_; have HO498 := n4_; have HB := n5_; clear n0_ n1_ n2_ n3_ n4_ n5_; (try clear hb); (try clear hb2); (try clear hk); (try clear hi); (try clear ho0))); go_upto_region 17 with (first | (go_at_call 48; (with_reducible refine (ref_To.calls _ _ l0 t486 _ ?side1 ?side2 A29.out).mono ?_); (case side1 => repeat (first | exact (Kd.C_below HR0.out HB.out) | (with_reducible refine Kd.C_alloc ?_ _) | (with_reducible refine Kd.C_drewN ?_ _) | (with_reducible refine Kd.C_drew ?_))); (case side2 => exact HC0.out); rintro e w' ⟨rfl, ⟨nd, rfl⟩⟩; (try first | exact ⟨rfl, _, World.drewN_drewN _ _ _⟩ | exact ⟨rfl, _, Eq.trans (World.drewN_drewN _ _ _) (congrArg (World.drewN _) (Nat.add_assoc _ _ _))⟩)) | (go_at_call 46; (with_reducible refine (curve_Cut.calls _ _ l0 a1 t486 t487 t488 _ ?side1 ?side2 A30.out).mono ?_); (case side1 => repeat (first | exact (Kd.C_below HR0.out (by repeat (first | (with_reducible first | exact HB.out | apply below_alloc | apply pw_below_drewN | apply below_drew1) | exact HB.out))) | (with_reducible refine Kd.C_alloc ?_ _) | (with_reducible refine Kd.C_drewN ?_ _) | (with_reducible refine Kd.C_drew ?_))); (case side2 => exact HC0.out); rintro e w42 ⟨v489, rfl, ho0, hb⟩; have n0_ := Aside0.mk (Kd.R_elder' (by (with_reducible repeat (first | apply Kd.R_alloc | apply Kd.R_drewN | apply Kd.R_drew)); exact HO_15.out) (Kd.R_base ho0) hb); have n1_ := Aside0.mk (Kd.R_elder' (by (with_reducible repeat (first | apply Kd.R_alloc | apply Kd.R_drewN | apply Kd.R_drew)); exact HO485.out) (Kd.R_base ho0) hb); have n2_ := Aside0.mk (Kd.R_lower (Kd.R_new' (Kd.R_new' ho0 (Kd.R_lt (by (with_reducible repeat (first | apply Kd.R_alloc | apply Kd.R_drewN | apply Kd.R_drew)); exact HO_15.out))) (Kd.R_lt (by (with_reducible repeat (first | apply Kd.R_alloc | apply Kd.R_drewN | apply Kd.R_drew)); exact HO485.out))) (below_size (by repeat (first | (with_reducible first | exact HB.out | apply below_alloc | apply pw_below_drewN | apply below_drew1) | exact HB.out)))); have n3_ := Aside0.mk (below_step (by repeat (first | (with_reducible first | exact HB.out | apply below_alloc | apply pw_below_drewN | apply below_drew1) | exact HB.out)) hb); clear HO_15; clear HO485; clear HB; have HO_15 := n0_; have HO485 := n1_; have HO490 := n2_; have HB := n3_; clear n0_ n1_ n2_ n3_; (try clear hb); (try clear hb2); (try clear hk); (try clear hi); (try clear ho0); obtain ⟨Ao43, co43, eo43⟩ := Kd.R_slice HO485.out; subst eo43; obtain ⟨Ao44, co44, eo44⟩ := Kd.R_slice HO490.out; subst eo44) | (go_at_call 49; (with_reducible refine (curve_Join.calls _ _ t482 _ _ t487 t491 t492 _ ?side1 ?side2 ?side3 ?side4 A32.out).mono ?_); (case side1 => repeat (first | exact (Kd.R_reads' HO485.out).2.2 | (with_reducible refine Kd.C_alloc ?_ _) | (with_reducible refine Kd.C_drewN ?_ _) | (with_reducible refine Kd.C_drew ?_))); (case side2 => exact (Kd.R_reads' HO485.out).2.1); (case side3 => repeat (first | exact (Kd.R_reads' HO490.out).2.2 | (with_reducible refine Kd.C_alloc ?_ _) | (with_reducible refine Kd.C_drewN ?_ _) | (with_reducible refine Kd.C_drew ?_))); (case side4 => exact (Kd.R_reads' HO490.out).2.1); rintro e w45 ⟨v493, rfl, ho0, hb⟩; have n0_ := Aside0.mk (Kd.R_elder' (by (with_reducible repeat (first | apply Kd.R_alloc | apply Kd.R_drewN | apply Kd.R_drew)); exact HO_15.out) (Kd.R_base ho0) hb); have n1_ := Aside0.mk (Kd.R_elder' (by (with_reducible repeat (first | apply Kd.R_alloc | apply Kd.R_drewN | apply Kd.R_drew)); exact HO485.out) (Kd.R_base ho0) hb); have n2_ := Aside0.mk (Kd.R_elder' (by (with_reducible repeat (first | apply Kd.R_alloc | apply Kd.R_drewN | apply Kd.R_drew)); exact HO490.out) (Kd.R_base ho0) hb); have n3_ := Aside0.mk (Kd.R_lower (Kd.R_new' (Kd.R_new' (Kd.R_new' ho0 (Kd.R_lt (by (with_reducible repeat (first | apply Kd.R_alloc | apply Kd.R_drewN | apply Kd.R_drew)); exact HO_15.out))) (Kd.R_lt (by (with_reducible repeat (first | apply Kd.R_alloc | apply Kd.R_drewN | apply Kd.R_drew)); exact HO485.out))) (Kd.R_lt (by (with_reducible repeat (first | apply Kd.R_alloc | apply Kd.R_drewN | apply Kd.R_drew)); exact HO490.out))) (below_size (by repeat (first | (with_reducible first | exact HB.out | apply below_alloc | apply pw_below_drewN | apply below_drew1) | exact HB.out)))); have n4_ := Aside0.mk (below_step (by repeat (first | (with_reducible first | exact HB.out | apply below_alloc | apply pw_below_drewN | apply below_drew1) | exact HB.out)) hb); clear HO_15; clear HO485; clear HO490; clear HB; have HO_15 := n0_; have HO485 := n1_; have HO490 := n2_; have HO494 := n3_; have HB := n4_; clear n0_ n1_ n2_ n3_ n4_; (try clear hb); (try clear hb2); (try clear hk); (try clear hi); (try clear ho0); obtain ⟨Ao46, co46, eo46⟩ := Kd.R_slice HO494.out; subst eo46) | (go_at_call 44; (with_reducible refine (curve_Normal.calls _ _ t491 t495 t496 _ ?side1 ?side2 A33.out).mono ?_); (case side1 => repeat (first | exact (Kd.R_reads' HO494.out).2.2 | (with_reducible refine Kd.C_alloc ?_ _) | (with_reducible refine Kd.C_drewN ?_ _) | (with_reducible refine Kd.C_drew ?_))); (case side2 => exact (Kd.R_reads' HO494.out).2.1); rintro e w47 ⟨v497, rfl, ho0, hb⟩; have n0_ := Aside0.mk (Kd.R_elder' (by (with_reducible repeat (first | apply Kd.R_alloc | apply Kd.R_drewN | apply Kd.R_drew)); exact HO_15.out) (Kd.R_base ho0) hb); have n1_ := Aside0.mk (Kd.R_elder' (by (with_reducible repeat (first | apply Kd.R_alloc | apply Kd.R_drewN | apply Kd.R_drew)); exact HO485.out) (Kd.R_base ho0) hb); have n2_ := Aside0.mk (Kd.R_elder' (by (with_reducible repeat (first | apply Kd.R_alloc | apply Kd.R_drewN | apply Kd.R_drew)); exact HO490.out) (Kd.R_base ho0) hb); have n3_ := Aside0.mk (Kd.R_elder' (by (with_reducible repeat (first | apply Kd.R_alloc | apply Kd.R_drewN | apply Kd.R_drew)); exact HO494.out) (Kd.R_base ho0) hb); have n4_ := Aside0.mk (Kd.R_lower (Kd.R_new' (Kd.R_new' (Kd.R_new' (Kd.R_new' ho0 (Kd.R_lt (by (with_reducible repeat (first | apply Kd.R_alloc | apply Kd.R_drewN | apply Kd.R_drew)); exact HO_15.out))) (Kd.R_lt (by (with_reducible repeat (first | apply Kd.R_alloc | apply Kd.R_drewN | apply Kd.R_drew)); exact HO485.out))) (Kd.R_lt (by (with_reducible repeat (first | apply Kd.R_alloc | apply Kd.R_drewN | apply Kd.R_drew)); exact HO490.out))) (Kd.R_lt (by (with_reducible repeat (first | apply Kd.R_alloc | apply Kd.R_drewN | apply Kd.R_drew)); exact HO494.out))) (below_size (by repeat (first | (with_reducible first | exact HB.out | apply below_alloc | apply pw_below_drewN | apply below_drew1) | exact HB.out)))); have n5_ := Aside0.mk (below_step (by repeat (first | (with_reducible first | exact HB.out | apply below_alloc | apply pw_below_drewN | apply below_drew1) | exact HB.out)) hb); clear HO_15; clear HO485; clear HO490; clear HO494; clear HB; have HO_15 := n0_; have HO485 := n1_; have HO490 := n2_; have HO494 := n3_; have HO498 := n4_; have HB := n5_; clear n0_ n1_ n2_ n3_ n4_ n5_; (try clear hb); (try clear hb2); (try clear hk); (try clear hi); (try clear ho0))))
          (try simp only [Act.put, List.setIfInBounds_toArray, List.set_cons_zero, List.set_cons_succ])
          go_cut [113] (fun v113 wc => ∃ (kq : Nat) (x113_40 : Bool), v113 = .bool x113_40 ∧ Aside0 (law_CurveSame.j1 kq l0 a2 a3 a4 a5 a6 t472 x113_40 = some r) ∧ Aside0 (kq ≤ kj13) ∧ Aside0 (Kd.R k57 57 wc w.heap.size (fun _ => True) (.slice Ao17 t472.length co17) t472) ∧ Aside0 (Below w.heap.size w wc))
          case first => as_aux_lemma =>
           have H := HC41.out
           clear HC41
           by_cases c48 : t492 = 0
           ·
            rw [if_pos c48] at H
            have c48b0 : (t492 == 0) = true := beq_iff_eq.mpr c48
            have c48b1 : (t492 != 0) = false := bne_eq_false_iff_eq.mpr c48
            clear c48
            (first | rw [c48b0] | (simp only [i64_w, i32_w]; rw [c48b0]) | skip)
            by_cases c49 : t496 = 0
            ·
             rw [if_pos c49] at H
             have c49b0 : (t496 == 0) = true := beq_iff_eq.mpr c49
             have c49b1 : (t496 != 0) = false := bne_eq_false_iff_eq.mpr c49
             clear c49
             replace H := Option.bind_eq_some_iff.mp H
             obtain ⟨t499, A500, H⟩ := H
             replace H : (law_CurveSame.j1 kj13 l0 a2 a3 a4 a5 a6 t472 (!t499)) = some r := H
             have A50 := Aside0.mk A500
             clear A500
             have H' := Aside0.mk H
             clear H
             obtain ⟨Ao51, co51, eo51⟩ := Kd.R_slice HO498.out
             subst eo51
             go_wp2_with (first | (go_at_call 45; (with_reducible refine (ref_Same.calls kj13 _ _ t495 _ _ t472 t499 _ ?side1 ?side2 ?side3 ?side4 A50.out).mono ?_); (case side1 => repeat (first | exact (Kd.R_reads' HO498.out).2.2 | (with_reducible refine Kd.C_alloc ?_ _) | (with_reducible refine Kd.C_drewN ?_ _) | (with_reducible refine Kd.C_drew ?_))); (case side2 => exact (Kd.R_reads' HO498.out).2.1); (case side3 => repeat (first | exact (Kd.R_reads' HO_15.out).2.2 | (with_reducible refine Kd.C_alloc ?_ _) | (with_reducible refine Kd.C_drewN ?_ _) | (with_reducible refine Kd.C_drew ?_))); (case side4 => exact (Kd.R_reads' HO_15.out).2.1); rintro e w' ⟨rfl, ⟨nd, rfl⟩⟩; (try first | exact ⟨rfl, _, World.drewN_drewN _ _ _⟩ | exact ⟨rfl, _, Eq.trans (World.drewN_drewN _ _ _) (congrArg (World.drewN _) (Nat.add_assoc _ _ _))⟩)))
             repeat (go_quiet (first | (go_at_call 45; (with_reducible refine (ref_Same.calls kj13 _ _ t495 _ _ t472 t499 _ ?side1 ?side2 ?side3 ?side4 A50.out).mono ?_); (case side1 => repeat (first | exact (Kd.R_reads' HO498.out).2.2 | (with_reducible refine Kd.C_alloc ?_ _) | (with_reducible refine Kd.C_drewN ?_ _) | (with_reducible refine Kd.C_drew ?_))); (case side2 => exact (Kd.R_reads' HO498.out).2.1); (case side3 => repeat (first | exact (Kd.R_reads' HO_15.out).2.2 | (with_reducible refine Kd.C_alloc ?_ _) | (with_reducible refine Kd.C_drewN ?_ _) | (with_reducible refine Kd.C_drew ?_))); (case side4 => exact (Kd.R_reads' HO_15.out).2.1); rintro e w' ⟨rfl, ⟨nd, rfl⟩⟩; (try first | exact ⟨rfl, _, World.drewN_drewN _ _ _⟩ | exact ⟨rfl, _, Eq.trans (World.drewN_drewN _ _ _) (congrArg (World.drewN _) (Nat.add_assoc _ _ _))⟩))); try go_wp2_with (first | (go_at_call 45; (with_reducible refine (ref_Same.calls kj13 _ _ t495 _ _ t472 t499 _ ?side1 ?side2 ?side3 ?side4 A50.out).mono ?_); (case side1 => repeat (first | exact (Kd.R_reads' HO498.out).2.2 | (with_reducible refine Kd.C_alloc ?_ _) | (with_reducible refine Kd.C_drewN ?_ _) | (with_reducible refine Kd.C_drew ?_))); (case side2 => exact (Kd.R_reads' HO498.out).2.1); (case side3 => repeat (first | exact (Kd.R_reads' HO_15.out).2.2 | (with_reducible refine Kd.C_alloc ?_ _) | (with_reducible refine Kd.C_drewN ?_ _) | (with_reducible refine Kd.C_drew ?_))); (case side4 => exact (Kd.R_reads' HO_15.out).2.1); rintro e w' ⟨rfl, ⟨nd, rfl⟩⟩; (try first | exact ⟨rfl, _, World.drewN_drewN _ _ _⟩ | exact ⟨rfl, _, Eq.trans (World.drewN_drewN _ _ _) (congrArg (World.drewN _) (Nat.add_assoc _ _ _))⟩))))
             go_meet
             case rel => exact ⟨_, (!t499), (by first | rfl | (simp; done) | (simp [*]; done)), H', ⟨by have := HJ13.out; first | omega | exact Nat.le_refl _⟩, ⟨by (with_reducible repeat (first | apply Kd.R_alloc | apply Kd.R_drewN | apply Kd.R_drew)); exact Kd.R_mono HO_15.out (fun _ hk => trivial)⟩, ⟨by repeat (first | (with_reducible first | exact HB.out | apply below_alloc | apply pw_below_drewN | apply below_drew1) | exact HB.out)⟩⟩
            ·
             rw [if_neg c49] at H
             have c49b0 : (t496 == 0) = false := beq_eq_false_iff_ne.mpr c49
             have c49b1 : (t496 != 0) = true := bne_iff_ne.mpr c49
             have H' := Aside0.mk H
             clear H
             go_wp2
             repeat (go_quiet (fail); try go_wp2)
             go_meet
             case rel => exact ⟨_, (true), (by first | rfl | (simp; done) | (simp [*]; done)), H', ⟨by have := HJ13.out; first | omega | exact Nat.le_refl _⟩, ⟨by (with_reducible repeat (first | apply Kd.R_alloc | apply Kd.R_drewN | apply Kd.R_drew)); exact Kd.R_mono HO_15.out (fun _ hk => trivial)⟩, ⟨by repeat (first | (with_reducible first | exact HB.out | apply below_alloc | apply pw_below_drewN | apply below_drew1) | exact HB.out)⟩⟩
           ·
            rw [if_neg c48] at H
            have c48b0 : (t492 == 0) = false := beq_eq_false_iff_ne.mpr c48
            have c48b1 : (t492 != 0) = true := bne_iff_ne.mpr c48
            (first | rw [c48b0] | (simp only [i64_w, i32_w]; rw [c48b0]) | skip)
            have H' := Aside0.mk H
            clear H
            go_wp2
            repeat (go_quiet (fail); try go_wp2)
            go_meet
            case rel => exact ⟨_, (true), (by first | rfl | (simp; done) | (simp [*]; done)), H', ⟨by have := HJ13.out; first | omega | exact Nat.le_refl _⟩, ⟨by (with_reducible repeat (first | apply Kd.R_alloc | apply Kd.R_drewN | apply Kd.R_drew)); exact Kd.R_mono HO_15.out (fun _ hk => trivial)⟩, ⟨by repeat (first | (with_reducible first | exact HB.out | apply below_alloc | apply pw_below_drewN | apply below_drew1) | exact HB.out)⟩⟩
          case rest => as_aux_lemma =>
           clear HC41
           try clear c1
           try clear c2
           try clear p2
           try clear c3
           try clear c4
           try clear c7
           try clear c9
           try clear c11
           try clear c19
           try clear c19b0
           try clear c19b1
           try clear c20
           try clear c20b0
           try clear c20b1
           try clear c23
           try clear c28
           try clear c28b0
           try clear c28b1
           try clear c31
           try clear c31b0
           try clear c31b1
           try clear c34
           try clear c34b0
           try clear c34b1
           try clear c48
           try clear c48b0
           try clear c48b1
           try clear c49
           try clear c49b0
           try clear c49b1
           try clear p2
           obtain ⟨kq, x113_40, rfl, HA, HJ40, HO_15, HB⟩ := hcut
           cases kq with
           | zero => exact absurd HA.out (by simp [law_CurveSame.j1])
           | succ kj40 =>
            have H := HA.out
            clear HA
            simp only [law_CurveSame.j1] at H
            by_cases c52 : x113_40 = true
            ·
             subst c52
             have H1 : (some false) = some r := by rw [if_pos rfl] at H; exact H
             clear H
             have H := H1
             clear H1
             obtain rfl := Option.some.inj H
             go_wp2
             repeat (go_quiet (fail); try go_wp2)
             go_ret
             exact ⟨by first | rfl | (simp [errW_none, errW_some] <;> rfl) | (simp [*, errW_none, errW_some] <;> rfl), by repeat (first | (with_reducible first | exact HB.out | apply below_alloc | apply pw_below_drewN | apply below_drew1) | exact HB.out)⟩
            ·
             replace c52 := Bool.eq_false_iff.mpr c52
             subst c52
             have H1 : (law_CurveSame.j2 kj40 l0 a2 a3 a4 a5 a6 t472) = some r := by rw [if_neg (show ¬ (false = true) by decide)] at H; exact H
             clear H
             have H := H1
             clear H1
             have H' := Aside0.mk H
             clear H
             go_wp2
             repeat (go_quiet (fail); try go_wp2)
             go_meet
             case rel => exact ⟨_, H', ⟨by have := HJ13.out; have := HJ40.out; first | omega | exact Nat.le_refl _⟩, ⟨by (with_reducible repeat (first | apply Kd.R_alloc | apply Kd.R_drewN | apply Kd.R_drew)); exact HO_15.out⟩, ⟨by repeat (first | (with_reducible first | exact HB.out | apply below_alloc | apply pw_below_drewN | apply below_drew1) | exact HB.out)⟩⟩
        ·
         rw [if_neg c31] at H
         have c31b0 : (t488 == 0) = false := beq_eq_false_iff_ne.mpr c31
         have c31b1 : (t488 != 0) = true := bne_iff_ne.mpr c31
         have H' := Aside0.mk H
         clear H
         go_wp2_with (first | (go_at_call 48; (with_reducible refine (ref_To.calls _ _ l0 t486 _ ?side1 ?side2 A29.out).mono ?_); (case side1 => repeat (first | exact (Kd.C_below HR0.out HB.out) | (with_reducible refine Kd.C_alloc ?_ _) | (with_reducible refine Kd.C_drewN ?_ _) | (with_reducible refine Kd.C_drew ?_))); (case side2 => exact HC0.out); rintro e w' ⟨rfl, ⟨nd, rfl⟩⟩; (try first | exact ⟨rfl, _, World.drewN_drewN _ _ _⟩ | exact ⟨rfl, _, Eq.trans (World.drewN_drewN _ _ _) (congrArg (World.drewN _) (Nat.add_assoc _ _ _))⟩)) | (go_at_call 46; (with_reducible refine (curve_Cut.calls _ _ l0 a1 t486 t487 t488 _ ?side1 ?side2 A30.out).mono ?_); (case side1 => repeat (first | exact (Kd.C_below HR0.out (by repeat (first | (with_reducible first | exact HB.out | apply below_alloc | apply pw_below_drewN | apply below_drew1) | exact HB.out))) | (with_reducible refine Kd.C_alloc ?_ _) | (with_reducible refine Kd.C_drewN ?_ _) | (with_reducible refine Kd.C_drew ?_))); (case side2 => exact HC0.out); rintro e w53 ⟨v489, rfl, ho0, hb⟩; have n0_ := Aside0.mk (Kd.R_elder' (by (with_reducible repeat (first | apply Kd.R_alloc | apply Kd.R_drewN | apply Kd.R_drew)); exact HO_15.out) (Kd.R_base ho0) hb); have n1_ := Aside0.mk (Kd.R_elder' (by (with_reducible repeat (first | apply Kd.R_alloc | apply Kd.R_drewN | apply Kd.R_drew)); exact HO485.out) (Kd.R_base ho0) hb); have n2_ := Aside0.mk (Kd.R_lower (Kd.R_new' (Kd.R_new' ho0 (Kd.R_lt (by (with_reducible repeat (first | apply Kd.R_alloc | apply Kd.R_drewN | apply Kd.R_drew)); exact HO_15.out))) (Kd.R_lt (by (with_reducible repeat (first | apply Kd.R_alloc | apply Kd.R_drewN | apply Kd.R_drew)); exact HO485.out))) (below_size (by repeat (first | (with_reducible first | exact HB.out | apply below_alloc | apply pw_below_drewN | apply below_drew1) | exact HB.out)))); have n3_ := Aside0.mk (below_step (by repeat (first | (with_reducible first | exact HB.out | apply below_alloc | apply pw_below_drewN | apply below_drew1) | exact HB.out)) hb); clear HO_15; clear HO485; clear HB; have HO_15 := n0_; have HO485 := n1_; have HO490 := n2_; have HB := n3_; clear n0_ n1_ n2_ n3_; (try clear hb); (try clear hb2); (try clear hk); (try clear hi); (try clear ho0)))
         repeat (go_quiet (first | (go_at_call 48; (with_reducible refine (ref_To.calls _ _ l0 t486 _ ?side1 ?side2 A29.out).mono ?_); (case side1 => repeat (first | exact (Kd.C_below HR0.out HB.out) | (with_reducible refine Kd.C_alloc ?_ _) | (with_reducible refine Kd.C_drewN ?_ _) | (with_reducible refine Kd.C_drew ?_))); (case side2 => exact HC0.out); rintro e w' ⟨rfl, ⟨nd, rfl⟩⟩; (try first | exact ⟨rfl, _, World.drewN_drewN _ _ _⟩ | exact ⟨rfl, _, Eq.trans (World.drewN_drewN _ _ _) (congrArg (World.drewN _) (Nat.add_assoc _ _ _))⟩)) | (go_at_call 46; (with_reducible refine (curve_Cut.calls _ _ l0 a1 t486 t487 t488 _ ?side1 ?side2 A30.out).mono ?_); (case side1 => repeat (first | exact (Kd.C_below HR0.out (by repeat (first | (with_reducible first | exact HB.out | apply below_alloc | apply pw_below_drewN | apply below_drew1) | exact HB.out))) | (with_reducible refine Kd.C_alloc ?_ _) | (with_reducible refine Kd.C_drewN ?_ _) | (with_reducible refine Kd.C_drew ?_))); (case side2 => exact HC0.out); rintro e w53 ⟨v489, rfl, ho0, hb⟩; have n0_ := Aside0.mk (Kd.R_elder' (by (with_reducible repeat (first | apply Kd.R_alloc | apply Kd.R_drewN | apply Kd.R_drew)); exact HO_15.out) (Kd.R_base ho0) hb); have n1_ := Aside0.mk (Kd.R_elder' (by (with_reducible repeat (first | apply Kd.R_alloc | apply Kd.R_drewN | apply Kd.R_drew)); exact HO485.out) (Kd.R_base ho0) hb); have n2_ := Aside0.mk (Kd.R_lower (Kd.R_new' (Kd.R_new' ho0 (Kd.R_lt (by (with_reducible repeat (first | apply Kd.R_alloc | apply Kd.R_drewN | apply Kd.R_drew)); exact HO_15.out))) (Kd.R_lt (by (with_reducible repeat (first | apply Kd.R_alloc | apply Kd.R_drewN | apply Kd.R_drew)); exact HO485.out))) (below_size (by repeat (first | (with_reducible first | exact HB.out | apply below_alloc | apply pw_below_drewN | apply below_drew1) | exact HB.out)))); have n3_ := Aside0.mk (below_step (by repeat (first | (with_reducible first | exact HB.out | apply below_alloc | apply pw_below_drewN | apply below_drew1) | exact HB.out)) hb); clear HO_15; clear HO485; clear HB; have HO_15 := n0_; have HO485 := n1_; have HO490 := n2_; have HB := n3_; clear n0_ n1_ n2_ n3_; (try clear hb); (try clear hb2); (try clear hk); (try clear hi); (try clear ho0))); try go_wp2_with (first | (go_at_call 48; (with_reducible refine (ref_To.calls _ _ l0 t486 _ ?side1 ?side2 A29.out).mono ?_); (case side1 => repeat (first | exact (Kd.C_below HR0.out HB.out) | (with_reducible refine Kd.C_alloc ?_ _) | (with_reducible refine Kd.C_drewN ?_ _) | (with_reducible refine Kd.C_drew ?_))); (case side2 => exact HC0.out); rintro e w' ⟨rfl, ⟨nd, rfl⟩⟩; (try first | exact ⟨rfl, _, World.drewN_drewN _ _ _⟩ | exact ⟨rfl, _, Eq.trans (World.drewN_drewN _ _ _) (congrArg (World.drewN _) (Nat.add_assoc _ _ _))⟩)) | (go_at_call 46; (with_reducible refine (curve_Cut.calls _ _ l0 a1 t486 t487 t488 _ ?side1 ?side2 A30.out).mono ?_); (case side1 => repeat (first | exact (Kd.C_below HR0.out (by repeat (first | (with_reducible first | exact HB.out | apply below_alloc | apply pw_below_drewN | apply below_drew1) | exact HB.out))) | (with_reducible refine Kd.C_alloc ?_ _) | (with_reducible refine Kd.C_drewN ?_ _) | (with_reducible refine Kd.C_drew ?_))); (case side2 => exact HC0.out); rintro e w53 ⟨v489, rfl, ho0, hb⟩; have n0_ := Aside0.mk (Kd.R_elder' (by (with_reducible repeat (first | apply Kd.R_alloc | apply Kd.R_drewN | apply Kd.R_drew)); exact HO_15.out) (Kd.R_base ho0) hb); have n1_ := Aside0.mk (Kd.R_elder' (by (with_reducible repeat (first | apply Kd.R_alloc | apply Kd.R_drewN | apply Kd.R_drew)); exact HO485.out) (Kd.R_base ho0) hb); have n2_ := Aside0.mk (Kd.R_lower (Kd.R_new' (Kd.R_new' ho0 (Kd.R_lt (by (with_reducible repeat (first | apply Kd.R_alloc | apply Kd.R_drewN | apply Kd.R_drew)); exact HO_15.out))) (Kd.R_lt (by (with_reducible repeat (first | apply Kd.R_alloc | apply Kd.R_drewN | apply Kd.R_drew)); exact HO485.out))) (below_size (by repeat (first | (with_reducible first | exact HB.out | apply below_alloc | apply pw_below_drewN | apply below_drew1) | exact HB.out)))); have n3_ := Aside0.mk (below_step (by repeat (first | (with_reducible first | exact HB.out | apply below_alloc | apply pw_below_drewN | apply below_drew1) | exact HB.out)) hb); clear HO_15; clear HO485; clear HB; have HO_15 := n0_; have HO485 := n1_; have HO490 := n2_; have HB := n3_; clear n0_ n1_ n2_ n3_; (try clear hb); (try clear hb2); (try clear hk); (try clear hi); (try clear ho0))))
         go_meet
         case rel => exact ⟨_, H', ⟨by have := HJ13.out; first | omega | exact Nat.le_refl _⟩, ⟨by (with_reducible repeat (first | apply Kd.R_alloc | apply Kd.R_drewN | apply Kd.R_drew)); exact Kd.R_mono HO_15.out (fun _ hk => trivial)⟩, ⟨by repeat (first | (with_reducible first | exact HB.out | apply below_alloc | apply pw_below_drewN | apply below_drew1) | exact HB.out)⟩⟩
       ·
        rw [if_neg c28] at H
        have c28b0 : (t483 == 0) = false := beq_eq_false_iff_ne.mpr c28
        have c28b1 : (t483 != 0) = true := bne_iff_ne.mpr c28
        (first | rw [c28b0] | (simp only [i64_w, i32_w]; rw [c28b0]) | skip)
        have H' := Aside0.mk H
        clear H
        go_wp2
        repeat (go_quiet (fail); try go_wp2)
        go_meet
        case rel => exact ⟨_, H', ⟨by have := HJ13.out; first | omega | exact Nat.le_refl _⟩, ⟨by (with_reducible repeat (first | apply Kd.R_alloc | apply Kd.R_drewN | apply Kd.R_drew)); exact Kd.R_mono HO_15.out (fun _ hk => trivial)⟩, ⟨by repeat (first | (with_reducible first | exact HB.out | apply below_alloc | apply pw_below_drewN | apply below_drew1) | exact HB.out)⟩⟩
      case rest => as_aux_lemma =>
       clear HC26
       try clear c1
       try clear c2
       try clear p2
       try clear c3
       try clear c4
       try clear c5
       try clear c7
       try clear c9
       try clear c11
       try clear c19
       try clear c19b0
       try clear c19b1
       try clear c20
       try clear c20b0
       try clear c20b1
       try clear c23
       try clear c28
       try clear c28b0
       try clear c28b1
       try clear c31
       try clear c31b0
       try clear c31b1
       try clear c34
       try clear c34b0
       try clear c34b1
       try clear c48
       try clear c48b0
       try clear c48b1
       try clear c49
       try clear c49b0
       try clear c49b1
       try clear c52
       try clear p2
       obtain ⟨kq, HA, HJ25, HO_15, HB⟩ := hcut
       cases kq with
       | zero => exact absurd HA.out (by simp [law_CurveSame.j2])
       | succ kj25 =>
        have H := HA.out
        clear HA
        simp only [law_CurveSame.j2] at H
        replace H := Option.bind_eq_some_iff.mp H
        obtain ⟨⟨t500, t501⟩, A540, H⟩ := H
        replace H : (if t501 = 0 then ((curve_Shift.f kj25 t500 (wrap64 (-a3)) (wrap64 (-a4))).bind fun bt504 => (if bt504.2 = 0 then ((ref_Same.f kj25 bt504.1 l0).bind fun t508 => (law_CurveSame.j3 kj25 l0 a2 a3 a4 a5 a6 t472 t501 t500 (!t508))) else (law_CurveSame.j3 kj25 l0 a2 a3 a4 a5 a6 t472 t501 t500 true))) else (law_CurveSame.j4 kj25 l0 a2 a3 a4 a5 a6 t472 t501 t500)) = some r := H
        have A54 := Aside0.mk A540
        clear A540
        have HC55 := Aside0.mk H
        clear H
        go_upto_if 122 with (first | (go_at_call 50; (with_reducible refine (curve_Shift.calls kj25 _ _ l0 a3 a4 t500 t501 _ ?side1 ?side2 A54.out).mono ?_); (case side1 => repeat (first | exact (Kd.C_below HR0.out HB.out) | (with_reducible refine Kd.C_alloc ?_ _) | (with_reducible refine Kd.C_drewN ?_ _) | (with_reducible refine Kd.C_drew ?_))); (case side2 => exact HC0.out); rintro e w56 ⟨v502, rfl, ho0, hb⟩; have n0_ := Aside0.mk (Kd.R_elder' (by (with_reducible repeat (first | apply Kd.R_alloc | apply Kd.R_drewN | apply Kd.R_drew)); exact HO_15.out) (Kd.R_base ho0) hb); have n1_ := Aside0.mk (Kd.R_lower (Kd.R_new' ho0 (Kd.R_lt (by (with_reducible repeat (first | apply Kd.R_alloc | apply Kd.R_drewN | apply Kd.R_drew)); exact HO_15.out))) (below_size (by repeat (first | (with_reducible first | exact HB.out | apply below_alloc | apply pw_below_drewN | apply below_drew1) | exact HB.out)))); have n2_ := Aside0.mk (below_step (by repeat (first | (with_reducible first | exact HB.out | apply below_alloc | apply pw_below_drewN | apply below_drew1) | exact HB.out)) hb); clear HO_15; clear HB; have HO_15 := n0_; have HO503 := n1_; have HB := n2_; clear n0_ n1_ n2_; (try clear hb); (try clear hb2); (try clear hk); (try clear hi); (try clear ho0)))
        repeat (go_quiet (first | (go_at_call 50; (with_reducible refine (curve_Shift.calls kj25 _ _ l0 a3 a4 t500 t501 _ ?side1 ?side2 A54.out).mono ?_); (case side1 => repeat (first | exact (Kd.C_below HR0.out HB.out) | (with_reducible refine Kd.C_alloc ?_ _) | (with_reducible refine Kd.C_drewN ?_ _) | (with_reducible refine Kd.C_drew ?_))); (case side2 => exact HC0.out); rintro e w56 ⟨v502, rfl, ho0, hb⟩; have n0_ := Aside0.mk (Kd.R_elder' (by (with_reducible repeat (first | apply Kd.R_alloc | apply Kd.R_drewN | apply Kd.R_drew)); exact HO_15.out) (Kd.R_base ho0) hb); have n1_ := Aside0.mk (Kd.R_lower (Kd.R_new' ho0 (Kd.R_lt (by (with_reducible repeat (first | apply Kd.R_alloc | apply Kd.R_drewN | apply Kd.R_drew)); exact HO_15.out))) (below_size (by repeat (first | (with_reducible first | exact HB.out | apply below_alloc | apply pw_below_drewN | apply below_drew1) | exact HB.out)))); have n2_ := Aside0.mk (below_step (by repeat (first | (with_reducible first | exact HB.out | apply below_alloc | apply pw_below_drewN | apply below_drew1) | exact HB.out)) hb); clear HO_15; clear HB; have HO_15 := n0_; have HO503 := n1_; have HB := n2_; clear n0_ n1_ n2_; (try clear hb); (try clear hb2); (try clear hk); (try clear hi); (try clear ho0))); go_upto_if 122 with (first | (go_at_call 50; (with_reducible refine (curve_Shift.calls kj25 _ _ l0 a3 a4 t500 t501 _ ?side1 ?side2 A54.out).mono ?_); (case side1 => repeat (first | exact (Kd.C_below HR0.out HB.out) | (with_reducible refine Kd.C_alloc ?_ _) | (with_reducible refine Kd.C_drewN ?_ _) | (with_reducible refine Kd.C_drew ?_))); (case side2 => exact HC0.out); rintro e w56 ⟨v502, rfl, ho0, hb⟩; have n0_ := Aside0.mk (Kd.R_elder' (by (with_reducible repeat (first | apply Kd.R_alloc | apply Kd.R_drewN | apply Kd.R_drew)); exact HO_15.out) (Kd.R_base ho0) hb); have n1_ := Aside0.mk (Kd.R_lower (Kd.R_new' ho0 (Kd.R_lt (by (with_reducible repeat (first | apply Kd.R_alloc | apply Kd.R_drewN | apply Kd.R_drew)); exact HO_15.out))) (below_size (by repeat (first | (with_reducible first | exact HB.out | apply below_alloc | apply pw_below_drewN | apply below_drew1) | exact HB.out)))); have n2_ := Aside0.mk (below_step (by repeat (first | (with_reducible first | exact HB.out | apply below_alloc | apply pw_below_drewN | apply below_drew1) | exact HB.out)) hb); clear HO_15; clear HB; have HO_15 := n0_; have HO503 := n1_; have HB := n2_; clear n0_ n1_ n2_; (try clear hb); (try clear hb2); (try clear hk); (try clear hi); (try clear ho0))))
        (try simp only [Act.put, List.setIfInBounds_toArray, List.set_cons_zero, List.set_cons_succ])
        go_cut [] (fun wc => ∃ (kq : Nat), Aside0 (law_CurveSame.j4 kq l0 a2 a3 a4 a5 a6 t472 t501 t500 = some r) ∧ Aside0 (kq ≤ kj25) ∧ Aside0 (Kd.R k57 57 wc w.heap.size (fun k_ => some k_ ≠ (v502 : Value).ownBlock) (.slice Ao17 t472.length co17) t472) ∧ Aside0 (Kd.R k57 57 wc w.heap.size (fun k_ => some k_ ≠ ((.slice Ao17 t472.length co17) : Value).ownBlock) v502 t500) ∧ Aside0 (Below w.heap.size w wc))
        case first => as_aux_lemma =>
         have H := HC55.out
         clear HC55
         by_cases c57 : t501 = 0
         ·
          rw [if_pos c57] at H
          have c57b0 : (t501 == 0) = true := beq_iff_eq.mpr c57
          have c57b1 : (t501 != 0) = false := bne_eq_false_iff_eq.mpr c57
          clear c57
          (first | rw [c57b0] | (simp only [i64_w, i32_w]; rw [c57b0]) | skip)
          replace H := Option.bind_eq_some_iff.mp H
          obtain ⟨⟨t504, t505⟩, A580, H⟩ := H
          replace H : (if t505 = 0 then ((ref_Same.f kj25 t504 l0).bind fun t508 => (law_CurveSame.j3 kj25 l0 a2 a3 a4 a5 a6 t472 t501 t500 (!t508))) else (law_CurveSame.j3 kj25 l0 a2 a3 a4 a5 a6 t472 t501 t500 true)) = some r := H
          have A58 := Aside0.mk A580
          clear A580
          have HC59 := Aside0.mk H
          clear H
          obtain ⟨Ao60, co60, eo60⟩ := Kd.R_slice HO503.out
          subst eo60
          go_upto_region 22 with (first | (go_at_call 50; (with_reducible refine (curve_Shift.calls kj25 _ _ t500 (wrap64 (-a3)) (wrap64 (-a4)) t504 t505 _ ?side1 ?side2 A58.out).mono ?_); (case side1 => repeat (first | exact (Kd.R_reads' HO503.out).2.2 | (with_reducible refine Kd.C_alloc ?_ _) | (with_reducible refine Kd.C_drewN ?_ _) | (with_reducible refine Kd.C_drew ?_))); (case side2 => exact (Kd.R_reads' HO503.out).2.1); rintro e w61 ⟨v506, rfl, ho0, hb⟩; have n0_ := Aside0.mk (Kd.R_elder' (by (with_reducible repeat (first | apply Kd.R_alloc | apply Kd.R_drewN | apply Kd.R_drew)); exact HO_15.out) (Kd.R_base ho0) hb); have n1_ := Aside0.mk (Kd.R_elder' (by (with_reducible repeat (first | apply Kd.R_alloc | apply Kd.R_drewN | apply Kd.R_drew)); exact HO503.out) (Kd.R_base ho0) hb); have n2_ := Aside0.mk (Kd.R_lower (Kd.R_new' (Kd.R_new' ho0 (Kd.R_lt (by (with_reducible repeat (first | apply Kd.R_alloc | apply Kd.R_drewN | apply Kd.R_drew)); exact HO_15.out))) (Kd.R_lt (by (with_reducible repeat (first | apply Kd.R_alloc | apply Kd.R_drewN | apply Kd.R_drew)); exact HO503.out))) (below_size (by repeat (first | (with_reducible first | exact HB.out | apply below_alloc | apply pw_below_drewN | apply below_drew1) | exact HB.out)))); have n3_ := Aside0.mk (below_step (by repeat (first | (with_reducible first | exact HB.out | apply below_alloc | apply pw_below_drewN | apply below_drew1) | exact HB.out)) hb); clear HO_15; clear HO503; clear HB; have HO_15 := n0_; have HO503 := n1_; have HO507 := n2_; have HB := n3_; clear n0_ n1_ n2_ n3_; (try clear hb); (try clear hb2); (try clear hk); (try clear hi); (try clear ho0)))
          repeat (go_quiet (first | (go_at_call 50; (with_reducible refine (curve_Shift.calls kj25 _ _ t500 (wrap64 (-a3)) (wrap64 (-a4)) t504 t505 _ ?side1 ?side2 A58.out).mono ?_); (case side1 => repeat (first | exact (Kd.R_reads' HO503.out).2.2 | (with_reducible refine Kd.C_alloc ?_ _) | (with_reducible refine Kd.C_drewN ?_ _) | (with_reducible refine Kd.C_drew ?_))); (case side2 => exact (Kd.R_reads' HO503.out).2.1); rintro e w61 ⟨v506, rfl, ho0, hb⟩; have n0_ := Aside0.mk (Kd.R_elder' (by (with_reducible repeat (first | apply Kd.R_alloc | apply Kd.R_drewN | apply Kd.R_drew)); exact HO_15.out) (Kd.R_base ho0) hb); have n1_ := Aside0.mk (Kd.R_elder' (by (with_reducible repeat (first | apply Kd.R_alloc | apply Kd.R_drewN | apply Kd.R_drew)); exact HO503.out) (Kd.R_base ho0) hb); have n2_ := Aside0.mk (Kd.R_lower (Kd.R_new' (Kd.R_new' ho0 (Kd.R_lt (by (with_reducible repeat (first | apply Kd.R_alloc | apply Kd.R_drewN | apply Kd.R_drew)); exact HO_15.out))) (Kd.R_lt (by (with_reducible repeat (first | apply Kd.R_alloc | apply Kd.R_drewN | apply Kd.R_drew)); exact HO503.out))) (below_size (by repeat (first | (with_reducible first | exact HB.out | apply below_alloc | apply pw_below_drewN | apply below_drew1) | exact HB.out)))); have n3_ := Aside0.mk (below_step (by repeat (first | (with_reducible first | exact HB.out | apply below_alloc | apply pw_below_drewN | apply below_drew1) | exact HB.out)) hb); clear HO_15; clear HO503; clear HB; have HO_15 := n0_; have HO503 := n1_; have HO507 := n2_; have HB := n3_; clear n0_ n1_ n2_ n3_; (try clear hb); (try clear hb2); (try clear hk); (try clear hi); (try clear ho0))); go_upto_region 22 with (first | (go_at_call 50; (with_reducible refine (curve_Shift.calls kj25 _ _ t500 (wrap64 (-a3)) (wrap64 (-a4)) t504 t505 _ ?side1 ?side2 A58.out).mono ?_); (case side1 => repeat (first | exact (Kd.R_reads' HO503.out).2.2 | (with_reducible refine Kd.C_alloc ?_ _) | (with_reducible refine Kd.C_drewN ?_ _) | (with_reducible refine Kd.C_drew ?_))); (case side2 => exact (Kd.R_reads' HO503.out).2.1); rintro e w61 ⟨v506, rfl, ho0, hb⟩; have n0_ := Aside0.mk (Kd.R_elder' (by (with_reducible repeat (first | apply Kd.R_alloc | apply Kd.R_drewN | apply Kd.R_drew)); exact HO_15.out) (Kd.R_base ho0) hb); have n1_ := Aside0.mk (Kd.R_elder' (by (with_reducible repeat (first | apply Kd.R_alloc | apply Kd.R_drewN | apply Kd.R_drew)); exact HO503.out) (Kd.R_base ho0) hb); have n2_ := Aside0.mk (Kd.R_lower (Kd.R_new' (Kd.R_new' ho0 (Kd.R_lt (by (with_reducible repeat (first | apply Kd.R_alloc | apply Kd.R_drewN | apply Kd.R_drew)); exact HO_15.out))) (Kd.R_lt (by (with_reducible repeat (first | apply Kd.R_alloc | apply Kd.R_drewN | apply Kd.R_drew)); exact HO503.out))) (below_size (by repeat (first | (with_reducible first | exact HB.out | apply below_alloc | apply pw_below_drewN | apply below_drew1) | exact HB.out)))); have n3_ := Aside0.mk (below_step (by repeat (first | (with_reducible first | exact HB.out | apply below_alloc | apply pw_below_drewN | apply below_drew1) | exact HB.out)) hb); clear HO_15; clear HO503; clear HB; have HO_15 := n0_; have HO503 := n1_; have HO507 := n2_; have HB := n3_; clear n0_ n1_ n2_ n3_; (try clear hb); (try clear hb2); (try clear hk); (try clear hi); (try clear ho0))))
          (try simp only [Act.put, List.setIfInBounds_toArray, List.set_cons_zero, List.set_cons_succ])
          go_cut [139] (fun v139 wc => ∃ (kq : Nat) (x139_58 : Bool), v139 = .bool x139_58 ∧ Aside0 (law_CurveSame.j3 kq l0 a2 a3 a4 a5 a6 t472 t501 t500 x139_58 = some r) ∧ Aside0 (kq ≤ kj25) ∧ Aside0 (Kd.R k57 57 wc w.heap.size (fun k_ => some k_ ≠ ((.slice Ao60 t500.length co60) : Value).ownBlock) (.slice Ao17 t472.length co17) t472) ∧ Aside0 (Kd.R k57 57 wc w.heap.size (fun k_ => some k_ ≠ ((.slice Ao17 t472.length co17) : Value).ownBlock) (.slice Ao60 t500.length co60) t500) ∧ Aside0 (Below w.heap.size w wc))
          case first => as_aux_lemma =>
           have H := HC59.out
           clear HC59
           by_cases c62 : t505 = 0
           ·
            rw [if_pos c62] at H
            have c62b0 : (t505 == 0) = true := beq_iff_eq.mpr c62
            have c62b1 : (t505 != 0) = false := bne_eq_false_iff_eq.mpr c62
            clear c62
            (first | rw [c62b0] | (simp only [i64_w, i32_w]; rw [c62b0]) | skip)
            replace H := Option.bind_eq_some_iff.mp H
            obtain ⟨t508, A630, H⟩ := H
            replace H : (law_CurveSame.j3 kj25 l0 a2 a3 a4 a5 a6 t472 t501 t500 (!t508)) = some r := H
            have A63 := Aside0.mk A630
            clear A630
            have H' := Aside0.mk H
            clear H
            obtain ⟨Ao64, co64, eo64⟩ := Kd.R_slice HO507.out
            subst eo64
            go_wp2_with (first | (go_at_call 45; (with_reducible refine (ref_Same.calls kj25 _ _ t504 _ _ l0 t508 _ ?side1 ?side2 ?side3 ?side4 A63.out).mono ?_); (case side1 => repeat (first | exact (Kd.R_reads' HO507.out).2.2 | (with_reducible refine Kd.C_alloc ?_ _) | (with_reducible refine Kd.C_drewN ?_ _) | (with_reducible refine Kd.C_drew ?_))); (case side2 => exact (Kd.R_reads' HO507.out).2.1); (case side3 => repeat (first | exact (Kd.C_below HR0.out HB.out) | (with_reducible refine Kd.C_alloc ?_ _) | (with_reducible refine Kd.C_drewN ?_ _) | (with_reducible refine Kd.C_drew ?_))); (case side4 => exact HC0.out); rintro e w' ⟨rfl, ⟨nd, rfl⟩⟩; (try first | exact ⟨rfl, _, World.drewN_drewN _ _ _⟩ | exact ⟨rfl, _, Eq.trans (World.drewN_drewN _ _ _) (congrArg (World.drewN _) (Nat.add_assoc _ _ _))⟩)))
            repeat (go_quiet (first | (go_at_call 45; (with_reducible refine (ref_Same.calls kj25 _ _ t504 _ _ l0 t508 _ ?side1 ?side2 ?side3 ?side4 A63.out).mono ?_); (case side1 => repeat (first | exact (Kd.R_reads' HO507.out).2.2 | (with_reducible refine Kd.C_alloc ?_ _) | (with_reducible refine Kd.C_drewN ?_ _) | (with_reducible refine Kd.C_drew ?_))); (case side2 => exact (Kd.R_reads' HO507.out).2.1); (case side3 => repeat (first | exact (Kd.C_below HR0.out HB.out) | (with_reducible refine Kd.C_alloc ?_ _) | (with_reducible refine Kd.C_drewN ?_ _) | (with_reducible refine Kd.C_drew ?_))); (case side4 => exact HC0.out); rintro e w' ⟨rfl, ⟨nd, rfl⟩⟩; (try first | exact ⟨rfl, _, World.drewN_drewN _ _ _⟩ | exact ⟨rfl, _, Eq.trans (World.drewN_drewN _ _ _) (congrArg (World.drewN _) (Nat.add_assoc _ _ _))⟩))); try go_wp2_with (first | (go_at_call 45; (with_reducible refine (ref_Same.calls kj25 _ _ t504 _ _ l0 t508 _ ?side1 ?side2 ?side3 ?side4 A63.out).mono ?_); (case side1 => repeat (first | exact (Kd.R_reads' HO507.out).2.2 | (with_reducible refine Kd.C_alloc ?_ _) | (with_reducible refine Kd.C_drewN ?_ _) | (with_reducible refine Kd.C_drew ?_))); (case side2 => exact (Kd.R_reads' HO507.out).2.1); (case side3 => repeat (first | exact (Kd.C_below HR0.out HB.out) | (with_reducible refine Kd.C_alloc ?_ _) | (with_reducible refine Kd.C_drewN ?_ _) | (with_reducible refine Kd.C_drew ?_))); (case side4 => exact HC0.out); rintro e w' ⟨rfl, ⟨nd, rfl⟩⟩; (try first | exact ⟨rfl, _, World.drewN_drewN _ _ _⟩ | exact ⟨rfl, _, Eq.trans (World.drewN_drewN _ _ _) (congrArg (World.drewN _) (Nat.add_assoc _ _ _))⟩))))
            go_meet
            case rel => exact ⟨_, (!t508), (by first | rfl | (simp; done) | (simp [*]; done)), H', ⟨by have := HJ13.out; have := HJ25.out; first | omega | exact Nat.le_refl _⟩, ⟨by (with_reducible repeat (first | apply Kd.R_alloc | apply Kd.R_drewN | apply Kd.R_drew)); exact Kd.R_mono HO_15.out (fun _ hk => hk.1.2)⟩, ⟨by (with_reducible repeat (first | apply Kd.R_alloc | apply Kd.R_drewN | apply Kd.R_drew)); exact Kd.R_mono HO503.out (fun _ hk => hk.1.2)⟩, ⟨by repeat (first | (with_reducible first | exact HB.out | apply below_alloc | apply pw_below_drewN | apply below_drew1) | exact HB.out)⟩⟩
           ·
            rw [if_neg c62] at H
            have c62b0 : (t505 == 0) = false := beq_eq_false_iff_ne.mpr c62
            have c62b1 : (t505 != 0) = true := bne_iff_ne.mpr c62
            (first | rw [c62b0] | (simp only [i64_w, i32_w]; rw [c62b0]) | skip)
            have H' := Aside0.mk H
            clear H
            go_wp2
            repeat (go_quiet (fail); try go_wp2)
            go_meet
            case rel => exact ⟨_, (true), (by first | rfl | (simp; done) | (simp [*]; done)), H', ⟨by have := HJ13.out; have := HJ25.out; first | omega | exact Nat.le_refl _⟩, ⟨by (with_reducible repeat (first | apply Kd.R_alloc | apply Kd.R_drewN | apply Kd.R_drew)); exact Kd.R_mono HO_15.out (fun _ hk => hk.1.2)⟩, ⟨by (with_reducible repeat (first | apply Kd.R_alloc | apply Kd.R_drewN | apply Kd.R_drew)); exact Kd.R_mono HO503.out (fun _ hk => hk.1.2)⟩, ⟨by repeat (first | (with_reducible first | exact HB.out | apply below_alloc | apply pw_below_drewN | apply below_drew1) | exact HB.out)⟩⟩
          case rest => as_aux_lemma =>
           clear HC59
           try clear c1
           try clear c2
           try clear p2
           try clear c3
           try clear c4
           try clear c5
           try clear c6
           try clear p6
           try clear c7
           try clear c9
           try clear c11
           try clear c19
           try clear c19b0
           try clear c19b1
           try clear c20
           try clear c20b0
           try clear c20b1
           try clear c23
           try clear c28
           try clear c28b0
           try clear c28b1
           try clear c31
           try clear c31b0
           try clear c31b1
           try clear c34
           try clear c34b0
           try clear c34b1
           try clear c48
           try clear c48b0
           try clear c48b1
           try clear c49
           try clear c49b0
           try clear c49b1
           try clear c52
           try clear c57
           try clear c57b0
           try clear c57b1
           try clear c62
           try clear c62b0
           try clear c62b1
           try clear p64
           try clear p2
           obtain ⟨kq, x139_58, rfl, HA, HJ58, HO_15, HO_27, HB⟩ := hcut
           cases kq with
           | zero => exact absurd HA.out (by simp [law_CurveSame.j3])
           | succ kj58 =>
            have H := HA.out
            clear HA
            simp only [law_CurveSame.j3] at H
            by_cases c65 : x139_58 = true
            ·
             subst c65
             have H1 : (some false) = some r := by rw [if_pos rfl] at H; exact H
             clear H
             have H := H1
             clear H1
             obtain rfl := Option.some.inj H
             go_wp2
             repeat (go_quiet (fail); try go_wp2)
             go_ret
             exact ⟨by first | rfl | (simp [errW_none, errW_some] <;> rfl) | (simp [*, errW_none, errW_some] <;> rfl), by repeat (first | (with_reducible first | exact HB.out | apply below_alloc | apply pw_below_drewN | apply below_drew1) | exact HB.out)⟩
            ·
             replace c65 := Bool.eq_false_iff.mpr c65
             subst c65
             have H1 : (law_CurveSame.j4 kj58 l0 a2 a3 a4 a5 a6 t472 t501 t500) = some r := by rw [if_neg (show ¬ (false = true) by decide)] at H; exact H
             clear H
             have H := H1
             clear H1
             have H' := Aside0.mk H
             clear H
             go_wp2
             repeat (go_quiet (fail); try go_wp2)
             go_meet
             case rel => exact ⟨_, H', ⟨by have := HJ13.out; have := HJ25.out; have := HJ58.out; first | omega | exact Nat.le_refl _⟩, ⟨by (with_reducible repeat (first | apply Kd.R_alloc | apply Kd.R_drewN | apply Kd.R_drew)); exact HO_15.out⟩, ⟨by (with_reducible repeat (first | apply Kd.R_alloc | apply Kd.R_drewN | apply Kd.R_drew)); exact HO_27.out⟩, ⟨by repeat (first | (with_reducible first | exact HB.out | apply below_alloc | apply pw_below_drewN | apply below_drew1) | exact HB.out)⟩⟩
         ·
          rw [if_neg c57] at H
          have c57b0 : (t501 == 0) = false := beq_eq_false_iff_ne.mpr c57
          have c57b1 : (t501 != 0) = true := bne_iff_ne.mpr c57
          (first | rw [c57b0] | (simp only [i64_w, i32_w]; rw [c57b0]) | skip)
          have H' := Aside0.mk H
          clear H
          go_wp2
          repeat (go_quiet (fail); try go_wp2)
          go_meet
          case rel => exact ⟨_, H', ⟨by have := HJ13.out; have := HJ25.out; first | omega | exact Nat.le_refl _⟩, ⟨by (with_reducible repeat (first | apply Kd.R_alloc | apply Kd.R_drewN | apply Kd.R_drew)); exact Kd.R_mono HO_15.out (fun _ hk => hk.2)⟩, ⟨by (with_reducible repeat (first | apply Kd.R_alloc | apply Kd.R_drewN | apply Kd.R_drew)); exact Kd.R_mono HO503.out (fun _ hk => hk.2)⟩, ⟨by repeat (first | (with_reducible first | exact HB.out | apply below_alloc | apply pw_below_drewN | apply below_drew1) | exact HB.out)⟩⟩
        case rest => as_aux_lemma =>
         clear HC55
         try clear c1
         try clear c2
         try clear p2
         try clear c3
         try clear c4
         try clear c5
         try clear c6
         try clear p6
         try clear c7
         try clear c9
         try clear c11
         try clear c19
         try clear c19b0
         try clear c19b1
         try clear c20
         try clear c20b0
         try clear c20b1
         try clear c23
         try clear c28
         try clear c28b0
         try clear c28b1
         try clear c31
         try clear c31b0
         try clear c31b1
         try clear c34
         try clear c34b0
         try clear c34b1
         try clear c48
         try clear c48b0
         try clear c48b1
         try clear c49
         try clear c49b0
         try clear c49b1
         try clear c52
         try clear c57
         try clear c57b0
         try clear c57b1
         try clear c62
         try clear c62b0
         try clear c62b1
         try clear p64
         try clear c65
         try clear p2
         try clear p6
         try clear p64
         obtain ⟨kq, HA, HJ54, HO_15, HO_27, HB⟩ := hcut
         cases kq with
         | zero => exact absurd HA.out (by simp [law_CurveSame.j4])
         | succ kj54 =>
          have H := HA.out
          clear HA
          simp only [law_CurveSame.j4] at H
          replace H := Option.bind_eq_some_iff.mp H
          obtain ⟨⟨t509, t510⟩, A660, H⟩ := H
          replace H : ((ref_In.f l0 a2).bind fun t513 => (if t513 = true then ((curve_Exact.f kj54 l0 a2).bind fun bt514 => ((curve_Exact.f kj54 t472 a2).bind fun bt518 => (if bt514.2.2 = 0 then (if bt518.2.2 = 0 then (if (!(bt514.1 == bt518.1) || (!(bt514.2.1 == bt518.2.1))) = true then (law_CurveSame.j5 kj54 a2 a3 a4 a5 a6 t501 t510 t500 t509 true bt514.1 bt514.2.1) else (if bt514.2.1 < 1 then (law_CurveSame.j5 kj54 a2 a3 a4 a5 a6 t501 t510 t500 t509 true bt514.1 bt514.2.1) else (law_CurveSame.j5 kj54 a2 a3 a4 a5 a6 t501 t510 t500 t509 (decide (bt514.2.1 > 16777216)) bt514.1 bt514.2.1))) else (law_CurveSame.j5 kj54 a2 a3 a4 a5 a6 t501 t510 t500 t509 true bt514.1 bt514.2.1)) else (law_CurveSame.j5 kj54 a2 a3 a4 a5 a6 t501 t510 t500 t509 true bt514.1 bt514.2.1)))) else (some true))) = some r := H
          have A66 := Aside0.mk A660
          clear A660
          replace H := Option.bind_eq_some_iff.mp H
          obtain ⟨t513, A670, H⟩ := H
          replace H : (if t513 = true then ((curve_Exact.f kj54 l0 a2).bind fun bt514 => ((curve_Exact.f kj54 t472 a2).bind fun bt518 => (if bt514.2.2 = 0 then (if bt518.2.2 = 0 then (if (!(bt514.1 == bt518.1) || (!(bt514.2.1 == bt518.2.1))) = true then (law_CurveSame.j5 kj54 a2 a3 a4 a5 a6 t501 t510 t500 t509 true bt514.1 bt514.2.1) else (if bt514.2.1 < 1 then (law_CurveSame.j5 kj54 a2 a3 a4 a5 a6 t501 t510 t500 t509 true bt514.1 bt514.2.1) else (law_CurveSame.j5 kj54 a2 a3 a4 a5 a6 t501 t510 t500 t509 (decide (bt514.2.1 > 16777216)) bt514.1 bt514.2.1))) else (law_CurveSame.j5 kj54 a2 a3 a4 a5 a6 t501 t510 t500 t509 true bt514.1 bt514.2.1)) else (law_CurveSame.j5 kj54 a2 a3 a4 a5 a6 t501 t510 t500 t509 true bt514.1 bt514.2.1)))) else (some true)) = some r := H
          have A67 := Aside0.mk A670
          clear A670
          by_cases c68 : t513 = true
          ·
           subst c68
           have H1 : ((curve_Exact.f kj54 l0 a2).bind fun bt514 => ((curve_Exact.f kj54 t472 a2).bind fun bt518 => (if bt514.2.2 = 0 then (if bt518.2.2 = 0 then (if (!(bt514.1 == bt518.1) || (!(bt514.2.1 == bt518.2.1))) = true then (law_CurveSame.j5 kj54 a2 a3 a4 a5 a6 t501 t510 t500 t509 true bt514.1 bt514.2.1) else (if bt514.2.1 < 1 then (law_CurveSame.j5 kj54 a2 a3 a4 a5 a6 t501 t510 t500 t509 true bt514.1 bt514.2.1) else (law_CurveSame.j5 kj54 a2 a3 a4 a5 a6 t501 t510 t500 t509 (decide (bt514.2.1 > 16777216)) bt514.1 bt514.2.1))) else (law_CurveSame.j5 kj54 a2 a3 a4 a5 a6 t501 t510 t500 t509 true bt514.1 bt514.2.1)) else (law_CurveSame.j5 kj54 a2 a3 a4 a5 a6 t501 t510 t500 t509 true bt514.1 bt514.2.1)))) = some r := by rw [if_pos rfl] at H; exact H
           clear H
           have H := H1
           clear H1
           replace H := Option.bind_eq_some_iff.mp H
           obtain ⟨⟨t514, t515, t516⟩, A690, H⟩ := H
           replace H : ((curve_Exact.f kj54 t472 a2).bind fun bt518 => (if t516 = 0 then (if bt518.2.2 = 0 then (if (!(t514 == bt518.1) || (!(t515 == bt518.2.1))) = true then (law_CurveSame.j5 kj54 a2 a3 a4 a5 a6 t501 t510 t500 t509 true t514 t515) else (if t515 < 1 then (law_CurveSame.j5 kj54 a2 a3 a4 a5 a6 t501 t510 t500 t509 true t514 t515) else (law_CurveSame.j5 kj54 a2 a3 a4 a5 a6 t501 t510 t500 t509 (decide (t515 > 16777216)) t514 t515))) else (law_CurveSame.j5 kj54 a2 a3 a4 a5 a6 t501 t510 t500 t509 true t514 t515)) else (law_CurveSame.j5 kj54 a2 a3 a4 a5 a6 t501 t510 t500 t509 true t514 t515))) = some r := H
           have A69 := Aside0.mk A690
           clear A690
           replace H := Option.bind_eq_some_iff.mp H
           obtain ⟨⟨t518, t519, t520⟩, A700, H⟩ := H
           replace H : (if t516 = 0 then (if t520 = 0 then (if (!(t514 == t518) || (!(t515 == t519))) = true then (law_CurveSame.j5 kj54 a2 a3 a4 a5 a6 t501 t510 t500 t509 true t514 t515) else (if t515 < 1 then (law_CurveSame.j5 kj54 a2 a3 a4 a5 a6 t501 t510 t500 t509 true t514 t515) else (law_CurveSame.j5 kj54 a2 a3 a4 a5 a6 t501 t510 t500 t509 (decide (t515 > 16777216)) t514 t515))) else (law_CurveSame.j5 kj54 a2 a3 a4 a5 a6 t501 t510 t500 t509 true t514 t515)) else (law_CurveSame.j5 kj54 a2 a3 a4 a5 a6 t501 t510 t500 t509 true t514 t515)) = some r := H
           have A70 := Aside0.mk A700
           clear A700
           have HC71 := Aside0.mk H
           clear H
           go_upto_region 29 with (first | (go_at_call 51; (with_reducible refine (curve_Scale.calls _ _ l0 a5 a6 t509 t510 _ ?side1 ?side2 A66.out).mono ?_); (case side1 => repeat (first | exact (Kd.C_below HR0.out HB.out) | (with_reducible refine Kd.C_alloc ?_ _) | (with_reducible refine Kd.C_drewN ?_ _) | (with_reducible refine Kd.C_drew ?_))); (case side2 => exact HC0.out); rintro e w72 ⟨v511, rfl, ho0, hb⟩; have n0_ := Aside0.mk (Kd.R_elder' (by (with_reducible repeat (first | apply Kd.R_alloc | apply Kd.R_drewN | apply Kd.R_drew)); exact HO_15.out) (Kd.R_base ho0) hb); have n1_ := Aside0.mk (Kd.R_elder' (by (with_reducible repeat (first | apply Kd.R_alloc | apply Kd.R_drewN | apply Kd.R_drew)); exact HO_27.out) (Kd.R_base ho0) hb); have n2_ := Aside0.mk (Kd.R_lower (Kd.R_new' (Kd.R_new' ho0 (Kd.R_lt (by (with_reducible repeat (first | apply Kd.R_alloc | apply Kd.R_drewN | apply Kd.R_drew)); exact HO_15.out))) (Kd.R_lt (by (with_reducible repeat (first | apply Kd.R_alloc | apply Kd.R_drewN | apply Kd.R_drew)); exact HO_27.out))) (below_size (by repeat (first | (with_reducible first | exact HB.out | apply below_alloc | apply pw_below_drewN | apply below_drew1) | exact HB.out)))); have n3_ := Aside0.mk (below_step (by repeat (first | (with_reducible first | exact HB.out | apply below_alloc | apply pw_below_drewN | apply below_drew1) | exact HB.out)) hb); clear HO_15; clear HO_27; clear HB; have HO_15 := n0_; have HO_27 := n1_; have HO512 := n2_; have HB := n3_; clear n0_ n1_ n2_ n3_; (try clear hb); (try clear hb2); (try clear hk); (try clear hi); (try clear ho0)) | (go_at_call 43; (with_reducible refine (ref_In.calls _ _ l0 a2 true _ ?side1 ?side2 A67.out).mono ?_); (case side1 => repeat (first | exact (Kd.C_below HR0.out HB.out) | (with_reducible refine Kd.C_alloc ?_ _) | (with_reducible refine Kd.C_drewN ?_ _) | (with_reducible refine Kd.C_drew ?_))); (case side2 => exact HC0.out); rintro e w' ⟨rfl, ⟨nd, rfl⟩⟩; (try first | exact ⟨rfl, _, World.drewN_drewN _ _ _⟩ | exact ⟨rfl, _, Eq.trans (World.drewN_drewN _ _ _) (congrArg (World.drewN _) (Nat.add_assoc _ _ _))⟩)) | (go_at_call 22; (with_reducible refine (curve_Exact.calls kj54 _ _ l0 a2 t514 t515 t516 _ ?side1 ?side2 A69.out).mono ?_); (case side1 => repeat (first | exact (Kd.C_below HR0.out (by repeat (first | (with_reducible first | exact HB.out | apply below_alloc | apply pw_below_drewN | apply below_drew1) | exact HB.out))) | (with_reducible refine Kd.C_alloc ?_ _) | (with_reducible refine Kd.C_drewN ?_ _) | (with_reducible refine Kd.C_drew ?_))); (case side2 => exact HC0.out); rintro e w73 ⟨rfl, hb⟩; have n0_ := Aside0.mk (Kd.R_below (by (with_reducible repeat (first | apply Kd.R_alloc | apply Kd.R_drewN | apply Kd.R_drew)); exact HO_15.out) hb); have n1_ := Aside0.mk (Kd.R_below (by (with_reducible repeat (first | apply Kd.R_alloc | apply Kd.R_drewN | apply Kd.R_drew)); exact HO_27.out) hb); have n2_ := Aside0.mk (Kd.R_below (by (with_reducible repeat (first | apply Kd.R_alloc | apply Kd.R_drewN | apply Kd.R_drew)); exact HO512.out) hb); have n3_ := Aside0.mk (below_step (by repeat (first | (with_reducible first | exact HB.out | apply below_alloc | apply pw_below_drewN | apply below_drew1) | exact HB.out)) hb); clear HO_15; clear HO_27; clear HO512; clear HB; have HO_15 := n0_; have HO_27 := n1_; have HO512 := n2_; have HB := n3_; clear n0_ n1_ n2_ n3_; (try clear hb); (try clear hb2); (try clear hk); (try clear hi)) | ((with_reducible refine gate_dst (N := 31) rfl ?_); refine box_event ?hg (N := 31) ?hd (cs := #[.int .i64 0, .int .i64 0]) (t := 25) ?hr ?_; (case hd => rfl); (case hg => rfl); (case hr => first | (go_simp; done) | (go_simp; rfl)); intro gb517 hg w74 hbox hb; have n0_ := Aside0.mk (Kd.R_below (by (with_reducible repeat (first | apply Kd.R_alloc | apply Kd.R_drewN | apply Kd.R_drew)); exact HO_15.out) hb); have n1_ := Aside0.mk (Kd.R_below (by (with_reducible repeat (first | apply Kd.R_alloc | apply Kd.R_drewN | apply Kd.R_drew)); exact HO_27.out) hb); have n2_ := Aside0.mk (Kd.R_below (by (with_reducible repeat (first | apply Kd.R_alloc | apply Kd.R_drewN | apply Kd.R_drew)); exact HO512.out) hb); have n3_ := Aside0.mk (below_step (by repeat (first | (with_reducible first | exact HB.out | apply below_alloc | apply pw_below_drewN | apply below_drew1) | exact HB.out)) hb); have n4_ := Aside0.mk (hbox); have n5_ := Aside0.mk ((by rw [hg]; exact (below_size (by repeat (first | (with_reducible first | exact HB.out | apply below_alloc | apply pw_below_drewN | apply below_drew1) | exact HB.out))) : w.heap.size ≤ gb517)); have n6_ := Aside0.mk ((by rw [hg]; exact (below_size (by repeat (first | (with_reducible first | exact HB.out | apply below_alloc | apply pw_below_drewN | apply below_drew1) | exact HB.out))) : w.heap.size ≤ gb517)); clear HO_15; clear HO_27; clear HO512; clear HB; have HO_15 := n0_; have HO_27 := n1_; have HO512 := n2_; have HB := n3_; have BK517 := n4_; have GW517 := n5_; have GE517 := n6_; clear n0_ n1_ n2_ n3_ n4_ n5_ n6_; clear hb hbox hg; have hcz75_0 : w74.cell? ⟨gb517, 0, none⟩ = some (.int .i64 0) := (blk_cell BK517.out 0).trans rfl; have hcz75_1 : w74.cell? ⟨gb517, 1, none⟩ = some (.int .i64 0) := (blk_cell BK517.out 1).trans rfl; have hfz75_0 := blk_frozen BK517.out 0; have hfz75_1 := blk_frozen BK517.out 1) | (go_at_call 22; (with_reducible refine (curve_Exact.calls kj54 _ _ t472 a2 t518 t519 t520 _ ?side1 ?side2 A70.out).mono ?_); (case side1 => refine (Kd.R_reads' (e := 57) (base := w.heap.size) (ok := fun k_ => (some k_ ≠ (v502 : Value).ownBlock ∧ some k_ ≠ (v511 : Value).ownBlock)) (n := t472.length) (c := co17) ?_).2.2; exact (by (with_reducible repeat (first | apply Kd.R_alloc | apply Kd.R_drewN | apply Kd.R_drew)); exact (Kd.R_mono (Kd.R_far (p := ⟨gb517, 1, none⟩) (Kd.R_far (p := ⟨gb517, 0, none⟩) (Kd.R_types HO_15.out BK517.out (by decide)) (fun _ hk => hk.2) (.int .i64 t514)) (fun _ hk => hk.2) (.int .i64 t515)) (fun _ h_ => h_.1)))); (case side2 => exact (Kd.R_reads' HO_15.out).2.1); rintro e w76 ⟨rfl, hb⟩; have n0_ := Aside0.mk (Kd.R_below (by (with_reducible repeat (first | apply Kd.R_alloc | apply Kd.R_drewN | apply Kd.R_drew)); exact (Kd.R_mono (Kd.R_far (p := ⟨gb517, 1, none⟩) (Kd.R_far (p := ⟨gb517, 0, none⟩) (Kd.R_types HO_15.out BK517.out (by decide)) (fun _ hk => hk.2) (.int .i64 t514)) (fun _ hk => hk.2) (.int .i64 t515)) (fun _ h_ => h_.1))) hb); have n1_ := Aside0.mk (Kd.R_below (by (with_reducible repeat (first | apply Kd.R_alloc | apply Kd.R_drewN | apply Kd.R_drew)); exact (Kd.R_mono (Kd.R_far (p := ⟨gb517, 1, none⟩) (Kd.R_far (p := ⟨gb517, 0, none⟩) (Kd.R_types HO_27.out BK517.out (by decide)) (fun _ hk => hk.2) (.int .i64 t514)) (fun _ hk => hk.2) (.int .i64 t515)) (fun _ h_ => h_.1))) hb); have n2_ := Aside0.mk (Kd.R_below (by (with_reducible repeat (first | apply Kd.R_alloc | apply Kd.R_drewN | apply Kd.R_drew)); exact (Kd.R_mono (Kd.R_far (p := ⟨gb517, 1, none⟩) (Kd.R_far (p := ⟨gb517, 0, none⟩) (Kd.R_types HO512.out BK517.out (by decide)) (fun _ hk => hk.2) (.int .i64 t514)) (fun _ hk => hk.2) (.int .i64 t515)) (fun _ h_ => h_.1))) hb); have n3_ := Aside0.mk (blk_below (g := gb517) (o := .cells #[.int .i64 t514, .int .i64 t515] 25 (0, 0)) (by (with_reducible repeat (first | refine blk_drewN ?_ _ | refine blk_drew ?_ | refine blk_alloc ?_ _)); refine blk_put (cs := #[.int .i64 t514, .int .i64 0]) ?_ 1 _ rfl; (with_reducible repeat (first | refine blk_drewN ?_ _ | refine blk_drew ?_ | refine blk_alloc ?_ _)); refine blk_put (cs := #[.int .i64 0, .int .i64 0]) ?_ 0 _ rfl; (with_reducible repeat (first | refine blk_drewN ?_ _ | refine blk_drew ?_ | refine blk_alloc ?_ _)); exact BK517.out) hb); have n4_ := Aside0.mk (below_step (by repeat (first | (with_reducible first | exact HB.out | apply below_alloc | apply pw_below_drewN | apply below_drew1 | refine below_set ?_ GE517.out) | exact HB.out)) hb); clear HO_15; clear HO_27; clear HO512; clear BK517; clear HB; have HO_15 := n0_; have HO_27 := n1_; have HO512 := n2_; have BK517 := n3_; have HB := n4_; clear n0_ n1_ n2_ n3_ n4_; (try clear hb); (try clear hb2); (try clear hk); (try clear hi)) | ((with_reducible refine gate_dst (N := 33) rfl ?_); refine box_event ?hg (N := 33) ?hd (cs := #[.int .i64 0, .int .i64 0]) (t := 25) ?hr ?_; (case hd => rfl); (case hg => rfl); (case hr => first | (go_simp; done) | (go_simp; rfl)); intro gb521 hg w77 hbox hb; have n0_ := Aside0.mk (Kd.R_below (by (with_reducible repeat (first | apply Kd.R_alloc | apply Kd.R_drewN | apply Kd.R_drew)); exact HO_15.out) hb); have n1_ := Aside0.mk (Kd.R_below (by (with_reducible repeat (first | apply Kd.R_alloc | apply Kd.R_drewN | apply Kd.R_drew)); exact HO_27.out) hb); have n2_ := Aside0.mk (Kd.R_below (by (with_reducible repeat (first | apply Kd.R_alloc | apply Kd.R_drewN | apply Kd.R_drew)); exact HO512.out) hb); have n3_ := Aside0.mk (blk_below (g := gb517) (o := .cells #[.int .i64 t514, .int .i64 t515] 25 (0, 0)) (by (with_reducible repeat (first | refine blk_drewN ?_ _ | refine blk_drew ?_ | refine blk_alloc ?_ _)); exact BK517.out) hb); have n4_ := Aside0.mk (below_step (by repeat (first | (with_reducible first | exact HB.out | apply below_alloc | apply pw_below_drewN | apply below_drew1 | refine below_set ?_ GE517.out) | exact HB.out)) hb); have n5_ := Aside0.mk (hbox); have n6_ := Aside0.mk ((by rw [hg]; exact (below_size (by repeat (first | (with_reducible first | exact HB.out | apply below_alloc | apply pw_below_drewN | apply below_drew1 | refine below_set ?_ GE517.out) | exact HB.out))) : w.heap.size ≤ gb521)); have n7_ := Aside0.mk ((by rw [hg]; exact (below_size (by repeat (first | (with_reducible first | exact HB.out | apply below_alloc | apply pw_below_drewN | apply below_drew1 | refine below_set ?_ GE517.out) | exact HB.out))) : w.heap.size ≤ gb521)); have n8_ := Aside0.mk ((by rw [hg]; exact Nat.ne_of_lt (blk_lt (g := gb517) (o := .cells #[.int .i64 t514, .int .i64 t515] 25 (0, 0)) (by (with_reducible repeat (first | refine blk_drewN ?_ _ | refine blk_drew ?_ | refine blk_alloc ?_ _)); exact BK517.out)) : gb517 ≠ gb521)); have n9_ := Aside0.mk ((by rw [hg]; exact Nat.ne_of_gt (blk_lt (g := gb517) (o := .cells #[.int .i64 t514, .int .i64 t515] 25 (0, 0)) (by (with_reducible repeat (first | refine blk_drewN ?_ _ | refine blk_drew ?_ | refine blk_alloc ?_ _)); exact BK517.out)) : gb521 ≠ gb517)); clear HO_15; clear HO_27; clear HO512; clear BK517; clear HB; have HO_15 := n0_; have HO_27 := n1_; have HO512 := n2_; have BK517 := n3_; have HB := n4_; have BK521 := n5_; have GW521 := n6_; have GE521 := n7_; have NB517_521 := n8_; have NB521_517 := n9_; clear n0_ n1_ n2_ n3_ n4_ n5_ n6_ n7_ n8_ n9_; clear hb hbox hg; have hnb78 := NB521_517.out; have hnc78 := NB517_521.out; have hcz79_0 : w77.cell? ⟨gb521, 0, none⟩ = some (.int .i64 0) := (blk_cell BK521.out 0).trans rfl; have hcz79_1 : w77.cell? ⟨gb521, 1, none⟩ = some (.int .i64 0) := (blk_cell BK521.out 1).trans rfl; have hfz79_0 := blk_frozen BK521.out 0; have hfz79_1 := blk_frozen BK521.out 1))
           repeat (go_quiet (first | (go_at_call 51; (with_reducible refine (curve_Scale.calls _ _ l0 a5 a6 t509 t510 _ ?side1 ?side2 A66.out).mono ?_); (case side1 => repeat (first | exact (Kd.C_below HR0.out HB.out) | (with_reducible refine Kd.C_alloc ?_ _) | (with_reducible refine Kd.C_drewN ?_ _) | (with_reducible refine Kd.C_drew ?_))); (case side2 => exact HC0.out); rintro e w72 ⟨v511, rfl, ho0, hb⟩; have n0_ := Aside0.mk (Kd.R_elder' (by (with_reducible repeat (first | apply Kd.R_alloc | apply Kd.R_drewN | apply Kd.R_drew)); exact HO_15.out) (Kd.R_base ho0) hb); have n1_ := Aside0.mk (Kd.R_elder' (by (with_reducible repeat (first | apply Kd.R_alloc | apply Kd.R_drewN | apply Kd.R_drew)); exact HO_27.out) (Kd.R_base ho0) hb); have n2_ := Aside0.mk (Kd.R_lower (Kd.R_new' (Kd.R_new' ho0 (Kd.R_lt (by (with_reducible repeat (first | apply Kd.R_alloc | apply Kd.R_drewN | apply Kd.R_drew)); exact HO_15.out))) (Kd.R_lt (by (with_reducible repeat (first | apply Kd.R_alloc | apply Kd.R_drewN | apply Kd.R_drew)); exact HO_27.out))) (below_size (by repeat (first | (with_reducible first | exact HB.out | apply below_alloc | apply pw_below_drewN | apply below_drew1) | exact HB.out)))); have n3_ := Aside0.mk (below_step (by repeat (first | (with_reducible first | exact HB.out | apply below_alloc | apply pw_below_drewN | apply below_drew1) | exact HB.out)) hb); clear HO_15; clear HO_27; clear HB; have HO_15 := n0_; have HO_27 := n1_; have HO512 := n2_; have HB := n3_; clear n0_ n1_ n2_ n3_; (try clear hb); (try clear hb2); (try clear hk); (try clear hi); (try clear ho0)) | (go_at_call 43; (with_reducible refine (ref_In.calls _ _ l0 a2 true _ ?side1 ?side2 A67.out).mono ?_); (case side1 => repeat (first | exact (Kd.C_below HR0.out HB.out) | (with_reducible refine Kd.C_alloc ?_ _) | (with_reducible refine Kd.C_drewN ?_ _) | (with_reducible refine Kd.C_drew ?_))); (case side2 => exact HC0.out); rintro e w' ⟨rfl, ⟨nd, rfl⟩⟩; (try first | exact ⟨rfl, _, World.drewN_drewN _ _ _⟩ | exact ⟨rfl, _, Eq.trans (World.drewN_drewN _ _ _) (congrArg (World.drewN _) (Nat.add_assoc _ _ _))⟩)) | (go_at_call 22; (with_reducible refine (curve_Exact.calls kj54 _ _ l0 a2 t514 t515 t516 _ ?side1 ?side2 A69.out).mono ?_); (case side1 => repeat (first | exact (Kd.C_below HR0.out (by repeat (first | (with_reducible first | exact HB.out | apply below_alloc | apply pw_below_drewN | apply below_drew1) | exact HB.out))) | (with_reducible refine Kd.C_alloc ?_ _) | (with_reducible refine Kd.C_drewN ?_ _) | (with_reducible refine Kd.C_drew ?_))); (case side2 => exact HC0.out); rintro e w73 ⟨rfl, hb⟩; have n0_ := Aside0.mk (Kd.R_below (by (with_reducible repeat (first | apply Kd.R_alloc | apply Kd.R_drewN | apply Kd.R_drew)); exact HO_15.out) hb); have n1_ := Aside0.mk (Kd.R_below (by (with_reducible repeat (first | apply Kd.R_alloc | apply Kd.R_drewN | apply Kd.R_drew)); exact HO_27.out) hb); have n2_ := Aside0.mk (Kd.R_below (by (with_reducible repeat (first | apply Kd.R_alloc | apply Kd.R_drewN | apply Kd.R_drew)); exact HO512.out) hb); have n3_ := Aside0.mk (below_step (by repeat (first | (with_reducible first | exact HB.out | apply below_alloc | apply pw_below_drewN | apply below_drew1) | exact HB.out)) hb); clear HO_15; clear HO_27; clear HO512; clear HB; have HO_15 := n0_; have HO_27 := n1_; have HO512 := n2_; have HB := n3_; clear n0_ n1_ n2_ n3_; (try clear hb); (try clear hb2); (try clear hk); (try clear hi)) | ((with_reducible refine gate_dst (N := 31) rfl ?_); refine box_event ?hg (N := 31) ?hd (cs := #[.int .i64 0, .int .i64 0]) (t := 25) ?hr ?_; (case hd => rfl); (case hg => rfl); (case hr => first | (go_simp; done) | (go_simp; rfl)); intro gb517 hg w74 hbox hb; have n0_ := Aside0.mk (Kd.R_below (by (with_reducible repeat (first | apply Kd.R_alloc | apply Kd.R_drewN | apply Kd.R_drew)); exact HO_15.out) hb); have n1_ := Aside0.mk (Kd.R_below (by (with_reducible repeat (first | apply Kd.R_alloc | apply Kd.R_drewN | apply Kd.R_drew)); exact HO_27.out) hb); have n2_ := Aside0.mk (Kd.R_below (by (with_reducible repeat (first | apply Kd.R_alloc | apply Kd.R_drewN | apply Kd.R_drew)); exact HO512.out) hb); have n3_ := Aside0.mk (below_step (by repeat (first | (with_reducible first | exact HB.out | apply below_alloc | apply pw_below_drewN | apply below_drew1) | exact HB.out)) hb); have n4_ := Aside0.mk (hbox); have n5_ := Aside0.mk ((by rw [hg]; exact (below_size (by repeat (first | (with_reducible first | exact HB.out | apply below_alloc | apply pw_below_drewN | apply below_drew1) | exact HB.out))) : w.heap.size ≤ gb517)); have n6_ := Aside0.mk ((by rw [hg]; exact (below_size (by repeat (first | (with_reducible first | exact HB.out | apply below_alloc | apply pw_below_drewN | apply below_drew1) | exact HB.out))) : w.heap.size ≤ gb517)); clear HO_15; clear HO_27; clear HO512; clear HB; have HO_15 := n0_; have HO_27 := n1_; have HO512 := n2_; have HB := n3_; have BK517 := n4_; have GW517 := n5_; have GE517 := n6_; clear n0_ n1_ n2_ n3_ n4_ n5_ n6_; clear hb hbox hg; have hcz75_0 : w74.cell? ⟨gb517, 0, none⟩ = some (.int .i64 0) := (blk_cell BK517.out 0).trans rfl; have hcz75_1 : w74.cell? ⟨gb517, 1, none⟩ = some (.int .i64 0) := (blk_cell BK517.out 1).trans rfl; have hfz75_0 := blk_frozen BK517.out 0; have hfz75_1 := blk_frozen BK517.out 1) | (go_at_call 22; (with_reducible refine (curve_Exact.calls kj54 _ _ t472 a2 t518 t519 t520 _ ?side1 ?side2 A70.out).mono ?_); (case side1 => refine (Kd.R_reads' (e := 57) (base := w.heap.size) (ok := fun k_ => (some k_ ≠ (v502 : Value).ownBlock ∧ some k_ ≠ (v511 : Value).ownBlock)) (n := t472.length) (c := co17) ?_).2.2; exact (by (with_reducible repeat (first | apply Kd.R_alloc | apply Kd.R_drewN | apply Kd.R_drew)); exact (Kd.R_mono (Kd.R_far (p := ⟨gb517, 1, none⟩) (Kd.R_far (p := ⟨gb517, 0, none⟩) (Kd.R_types HO_15.out BK517.out (by decide)) (fun _ hk => hk.2) (.int .i64 t514)) (fun _ hk => hk.2) (.int .i64 t515)) (fun _ h_ => h_.1)))); (case side2 => exact (Kd.R_reads' HO_15.out).2.1); rintro e w76 ⟨rfl, hb⟩; have n0_ := Aside0.mk (Kd.R_below (by (with_reducible repeat (first | apply Kd.R_alloc | apply Kd.R_drewN | apply Kd.R_drew)); exact (Kd.R_mono (Kd.R_far (p := ⟨gb517, 1, none⟩) (Kd.R_far (p := ⟨gb517, 0, none⟩) (Kd.R_types HO_15.out BK517.out (by decide)) (fun _ hk => hk.2) (.int .i64 t514)) (fun _ hk => hk.2) (.int .i64 t515)) (fun _ h_ => h_.1))) hb); have n1_ := Aside0.mk (Kd.R_below (by (with_reducible repeat (first | apply Kd.R_alloc | apply Kd.R_drewN | apply Kd.R_drew)); exact (Kd.R_mono (Kd.R_far (p := ⟨gb517, 1, none⟩) (Kd.R_far (p := ⟨gb517, 0, none⟩) (Kd.R_types HO_27.out BK517.out (by decide)) (fun _ hk => hk.2) (.int .i64 t514)) (fun _ hk => hk.2) (.int .i64 t515)) (fun _ h_ => h_.1))) hb); have n2_ := Aside0.mk (Kd.R_below (by (with_reducible repeat (first | apply Kd.R_alloc | apply Kd.R_drewN | apply Kd.R_drew)); exact (Kd.R_mono (Kd.R_far (p := ⟨gb517, 1, none⟩) (Kd.R_far (p := ⟨gb517, 0, none⟩) (Kd.R_types HO512.out BK517.out (by decide)) (fun _ hk => hk.2) (.int .i64 t514)) (fun _ hk => hk.2) (.int .i64 t515)) (fun _ h_ => h_.1))) hb); have n3_ := Aside0.mk (blk_below (g := gb517) (o := .cells #[.int .i64 t514, .int .i64 t515] 25 (0, 0)) (by (with_reducible repeat (first | refine blk_drewN ?_ _ | refine blk_drew ?_ | refine blk_alloc ?_ _)); refine blk_put (cs := #[.int .i64 t514, .int .i64 0]) ?_ 1 _ rfl; (with_reducible repeat (first | refine blk_drewN ?_ _ | refine blk_drew ?_ | refine blk_alloc ?_ _)); refine blk_put (cs := #[.int .i64 0, .int .i64 0]) ?_ 0 _ rfl; (with_reducible repeat (first | refine blk_drewN ?_ _ | refine blk_drew ?_ | refine blk_alloc ?_ _)); exact BK517.out) hb); have n4_ := Aside0.mk (below_step (by repeat (first | (with_reducible first | exact HB.out | apply below_alloc | apply pw_below_drewN | apply below_drew1 | refine below_set ?_ GE517.out) | exact HB.out)) hb); clear HO_15; clear HO_27; clear HO512; clear BK517; clear HB; have HO_15 := n0_; have HO_27 := n1_; have HO512 := n2_; have BK517 := n3_; have HB := n4_; clear n0_ n1_ n2_ n3_ n4_; (try clear hb); (try clear hb2); (try clear hk); (try clear hi)) | ((with_reducible refine gate_dst (N := 33) rfl ?_); refine box_event ?hg (N := 33) ?hd (cs := #[.int .i64 0, .int .i64 0]) (t := 25) ?hr ?_; (case hd => rfl); (case hg => rfl); (case hr => first | (go_simp; done) | (go_simp; rfl)); intro gb521 hg w77 hbox hb; have n0_ := Aside0.mk (Kd.R_below (by (with_reducible repeat (first | apply Kd.R_alloc | apply Kd.R_drewN | apply Kd.R_drew)); exact HO_15.out) hb); have n1_ := Aside0.mk (Kd.R_below (by (with_reducible repeat (first | apply Kd.R_alloc | apply Kd.R_drewN | apply Kd.R_drew)); exact HO_27.out) hb); have n2_ := Aside0.mk (Kd.R_below (by (with_reducible repeat (first | apply Kd.R_alloc | apply Kd.R_drewN | apply Kd.R_drew)); exact HO512.out) hb); have n3_ := Aside0.mk (blk_below (g := gb517) (o := .cells #[.int .i64 t514, .int .i64 t515] 25 (0, 0)) (by (with_reducible repeat (first | refine blk_drewN ?_ _ | refine blk_drew ?_ | refine blk_alloc ?_ _)); exact BK517.out) hb); have n4_ := Aside0.mk (below_step (by repeat (first | (with_reducible first | exact HB.out | apply below_alloc | apply pw_below_drewN | apply below_drew1 | refine below_set ?_ GE517.out) | exact HB.out)) hb); have n5_ := Aside0.mk (hbox); have n6_ := Aside0.mk ((by rw [hg]; exact (below_size (by repeat (first | (with_reducible first | exact HB.out | apply below_alloc | apply pw_below_drewN | apply below_drew1 | refine below_set ?_ GE517.out) | exact HB.out))) : w.heap.size ≤ gb521)); have n7_ := Aside0.mk ((by rw [hg]; exact (below_size (by repeat (first | (with_reducible first | exact HB.out | apply below_alloc | apply pw_below_drewN | apply below_drew1 | refine below_set ?_ GE517.out) | exact HB.out))) : w.heap.size ≤ gb521)); have n8_ := Aside0.mk ((by rw [hg]; exact Nat.ne_of_lt (blk_lt (g := gb517) (o := .cells #[.int .i64 t514, .int .i64 t515] 25 (0, 0)) (by (with_reducible repeat (first | refine blk_drewN ?_ _ | refine blk_drew ?_ | refine blk_alloc ?_ _)); exact BK517.out)) : gb517 ≠ gb521)); have n9_ := Aside0.mk ((by rw [hg]; exact Nat.ne_of_gt (blk_lt (g := gb517) (o := .cells #[.int .i64 t514, .int .i64 t515] 25 (0, 0)) (by (with_reducible repeat (first | refine blk_drewN ?_ _ | refine blk_drew ?_ | refine blk_alloc ?_ _)); exact BK517.out)) : gb521 ≠ gb517)); clear HO_15; clear HO_27; clear HO512; clear BK517; clear HB; have HO_15 := n0_; have HO_27 := n1_; have HO512 := n2_; have BK517 := n3_; have HB := n4_; have BK521 := n5_; have GW521 := n6_; have GE521 := n7_; have NB517_521 := n8_; have NB521_517 := n9_; clear n0_ n1_ n2_ n3_ n4_ n5_ n6_ n7_ n8_ n9_; clear hb hbox hg; have hnb78 := NB521_517.out; have hnc78 := NB517_521.out; have hcz79_0 : w77.cell? ⟨gb521, 0, none⟩ = some (.int .i64 0) := (blk_cell BK521.out 0).trans rfl; have hcz79_1 : w77.cell? ⟨gb521, 1, none⟩ = some (.int .i64 0) := (blk_cell BK521.out 1).trans rfl; have hfz79_0 := blk_frozen BK521.out 0; have hfz79_1 := blk_frozen BK521.out 1)); go_upto_region 29 with (first | (go_at_call 51; (with_reducible refine (curve_Scale.calls _ _ l0 a5 a6 t509 t510 _ ?side1 ?side2 A66.out).mono ?_); (case side1 => repeat (first | exact (Kd.C_below HR0.out HB.out) | (with_reducible refine Kd.C_alloc ?_ _) | (with_reducible refine Kd.C_drewN ?_ _) | (with_reducible refine Kd.C_drew ?_))); (case side2 => exact HC0.out); rintro e w72 ⟨v511, rfl, ho0, hb⟩; have n0_ := Aside0.mk (Kd.R_elder' (by (with_reducible repeat (first | apply Kd.R_alloc | apply Kd.R_drewN | apply Kd.R_drew)); exact HO_15.out) (Kd.R_base ho0) hb); have n1_ := Aside0.mk (Kd.R_elder' (by (with_reducible repeat (first | apply Kd.R_alloc | apply Kd.R_drewN | apply Kd.R_drew)); exact HO_27.out) (Kd.R_base ho0) hb); have n2_ := Aside0.mk (Kd.R_lower (Kd.R_new' (Kd.R_new' ho0 (Kd.R_lt (by (with_reducible repeat (first | apply Kd.R_alloc | apply Kd.R_drewN | apply Kd.R_drew)); exact HO_15.out))) (Kd.R_lt (by (with_reducible repeat (first | apply Kd.R_alloc | apply Kd.R_drewN | apply Kd.R_drew)); exact HO_27.out))) (below_size (by repeat (first | (with_reducible first | exact HB.out | apply below_alloc | apply pw_below_drewN | apply below_drew1) | exact HB.out)))); have n3_ := Aside0.mk (below_step (by repeat (first | (with_reducible first | exact HB.out | apply below_alloc | apply pw_below_drewN | apply below_drew1) | exact HB.out)) hb); clear HO_15; clear HO_27; clear HB; have HO_15 := n0_; have HO_27 := n1_; have HO512 := n2_; have HB := n3_; clear n0_ n1_ n2_ n3_; (try clear hb); (try clear hb2); (try clear hk); (try clear hi); (try clear ho0)) | (go_at_call 43; (with_reducible refine (ref_In.calls _ _ l0 a2 true _ ?side1 ?side2 A67.out).mono ?_); (case side1 => repeat (first | exact (Kd.C_below HR0.out HB.out) | (with_reducible refine Kd.C_alloc ?_ _) | (with_reducible refine Kd.C_drewN ?_ _) | (with_reducible refine Kd.C_drew ?_))); (case side2 => exact HC0.out); rintro e w' ⟨rfl, ⟨nd, rfl⟩⟩; (try first | exact ⟨rfl, _, World.drewN_drewN _ _ _⟩ | exact ⟨rfl, _, Eq.trans (World.drewN_drewN _ _ _) (congrArg (World.drewN _) (Nat.add_assoc _ _ _))⟩)) | (go_at_call 22; (with_reducible refine (curve_Exact.calls kj54 _ _ l0 a2 t514 t515 t516 _ ?side1 ?side2 A69.out).mono ?_); (case side1 => repeat (first | exact (Kd.C_below HR0.out (by repeat (first | (with_reducible first | exact HB.out | apply below_alloc | apply pw_below_drewN | apply below_drew1) | exact HB.out))) | (with_reducible refine Kd.C_alloc ?_ _) | (with_reducible refine Kd.C_drewN ?_ _) | (with_reducible refine Kd.C_drew ?_))); (case side2 => exact HC0.out); rintro e w73 ⟨rfl, hb⟩; have n0_ := Aside0.mk (Kd.R_below (by (with_reducible repeat (first | apply Kd.R_alloc | apply Kd.R_drewN | apply Kd.R_drew)); exact HO_15.out) hb); have n1_ := Aside0.mk (Kd.R_below (by (with_reducible repeat (first | apply Kd.R_alloc | apply Kd.R_drewN | apply Kd.R_drew)); exact HO_27.out) hb); have n2_ := Aside0.mk (Kd.R_below (by (with_reducible repeat (first | apply Kd.R_alloc | apply Kd.R_drewN | apply Kd.R_drew)); exact HO512.out) hb); have n3_ := Aside0.mk (below_step (by repeat (first | (with_reducible first | exact HB.out | apply below_alloc | apply pw_below_drewN | apply below_drew1) | exact HB.out)) hb); clear HO_15; clear HO_27; clear HO512; clear HB; have HO_15 := n0_; have HO_27 := n1_; have HO512 := n2_; have HB := n3_; clear n0_ n1_ n2_ n3_; (try clear hb); (try clear hb2); (try clear hk); (try clear hi)) | ((with_reducible refine gate_dst (N := 31) rfl ?_); refine box_event ?hg (N := 31) ?hd (cs := #[.int .i64 0, .int .i64 0]) (t := 25) ?hr ?_; (case hd => rfl); (case hg => rfl); (case hr => first | (go_simp; done) | (go_simp; rfl)); intro gb517 hg w74 hbox hb; have n0_ := Aside0.mk (Kd.R_below (by (with_reducible repeat (first | apply Kd.R_alloc | apply Kd.R_drewN | apply Kd.R_drew)); exact HO_15.out) hb); have n1_ := Aside0.mk (Kd.R_below (by (with_reducible repeat (first | apply Kd.R_alloc | apply Kd.R_drewN | apply Kd.R_drew)); exact HO_27.out) hb); have n2_ := Aside0.mk (Kd.R_below (by (with_reducible repeat (first | apply Kd.R_alloc | apply Kd.R_drewN | apply Kd.R_drew)); exact HO512.out) hb); have n3_ := Aside0.mk (below_step (by repeat (first | (with_reducible first | exact HB.out | apply below_alloc | apply pw_below_drewN | apply below_drew1) | exact HB.out)) hb); have n4_ := Aside0.mk (hbox); have n5_ := Aside0.mk ((by rw [hg]; exact (below_size (by repeat (first | (with_reducible first | exact HB.out | apply below_alloc | apply pw_below_drewN | apply below_drew1) | exact HB.out))) : w.heap.size ≤ gb517)); have n6_ := Aside0.mk ((by rw [hg]; exact (below_size (by repeat (first | (with_reducible first | exact HB.out | apply below_alloc | apply pw_below_drewN | apply below_drew1) | exact HB.out))) : w.heap.size ≤ gb517)); clear HO_15; clear HO_27; clear HO512; clear HB; have HO_15 := n0_; have HO_27 := n1_; have HO512 := n2_; have HB := n3_; have BK517 := n4_; have GW517 := n5_; have GE517 := n6_; clear n0_ n1_ n2_ n3_ n4_ n5_ n6_; clear hb hbox hg; have hcz75_0 : w74.cell? ⟨gb517, 0, none⟩ = some (.int .i64 0) := (blk_cell BK517.out 0).trans rfl; have hcz75_1 : w74.cell? ⟨gb517, 1, none⟩ = some (.int .i64 0) := (blk_cell BK517.out 1).trans rfl; have hfz75_0 := blk_frozen BK517.out 0; have hfz75_1 := blk_frozen BK517.out 1) | (go_at_call 22; (with_reducible refine (curve_Exact.calls kj54 _ _ t472 a2 t518 t519 t520 _ ?side1 ?side2 A70.out).mono ?_); (case side1 => refine (Kd.R_reads' (e := 57) (base := w.heap.size) (ok := fun k_ => (some k_ ≠ (v502 : Value).ownBlock ∧ some k_ ≠ (v511 : Value).ownBlock)) (n := t472.length) (c := co17) ?_).2.2; exact (by (with_reducible repeat (first | apply Kd.R_alloc | apply Kd.R_drewN | apply Kd.R_drew)); exact (Kd.R_mono (Kd.R_far (p := ⟨gb517, 1, none⟩) (Kd.R_far (p := ⟨gb517, 0, none⟩) (Kd.R_types HO_15.out BK517.out (by decide)) (fun _ hk => hk.2) (.int .i64 t514)) (fun _ hk => hk.2) (.int .i64 t515)) (fun _ h_ => h_.1)))); (case side2 => exact (Kd.R_reads' HO_15.out).2.1); rintro e w76 ⟨rfl, hb⟩; have n0_ := Aside0.mk (Kd.R_below (by (with_reducible repeat (first | apply Kd.R_alloc | apply Kd.R_drewN | apply Kd.R_drew)); exact (Kd.R_mono (Kd.R_far (p := ⟨gb517, 1, none⟩) (Kd.R_far (p := ⟨gb517, 0, none⟩) (Kd.R_types HO_15.out BK517.out (by decide)) (fun _ hk => hk.2) (.int .i64 t514)) (fun _ hk => hk.2) (.int .i64 t515)) (fun _ h_ => h_.1))) hb); have n1_ := Aside0.mk (Kd.R_below (by (with_reducible repeat (first | apply Kd.R_alloc | apply Kd.R_drewN | apply Kd.R_drew)); exact (Kd.R_mono (Kd.R_far (p := ⟨gb517, 1, none⟩) (Kd.R_far (p := ⟨gb517, 0, none⟩) (Kd.R_types HO_27.out BK517.out (by decide)) (fun _ hk => hk.2) (.int .i64 t514)) (fun _ hk => hk.2) (.int .i64 t515)) (fun _ h_ => h_.1))) hb); have n2_ := Aside0.mk (Kd.R_below (by (with_reducible repeat (first | apply Kd.R_alloc | apply Kd.R_drewN | apply Kd.R_drew)); exact (Kd.R_mono (Kd.R_far (p := ⟨gb517, 1, none⟩) (Kd.R_far (p := ⟨gb517, 0, none⟩) (Kd.R_types HO512.out BK517.out (by decide)) (fun _ hk => hk.2) (.int .i64 t514)) (fun _ hk => hk.2) (.int .i64 t515)) (fun _ h_ => h_.1))) hb); have n3_ := Aside0.mk (blk_below (g := gb517) (o := .cells #[.int .i64 t514, .int .i64 t515] 25 (0, 0)) (by (with_reducible repeat (first | refine blk_drewN ?_ _ | refine blk_drew ?_ | refine blk_alloc ?_ _)); refine blk_put (cs := #[.int .i64 t514, .int .i64 0]) ?_ 1 _ rfl; (with_reducible repeat (first | refine blk_drewN ?_ _ | refine blk_drew ?_ | refine blk_alloc ?_ _)); refine blk_put (cs := #[.int .i64 0, .int .i64 0]) ?_ 0 _ rfl; (with_reducible repeat (first | refine blk_drewN ?_ _ | refine blk_drew ?_ | refine blk_alloc ?_ _)); exact BK517.out) hb); have n4_ := Aside0.mk (below_step (by repeat (first | (with_reducible first | exact HB.out | apply below_alloc | apply pw_below_drewN | apply below_drew1 | refine below_set ?_ GE517.out) | exact HB.out)) hb); clear HO_15; clear HO_27; clear HO512; clear BK517; clear HB; have HO_15 := n0_; have HO_27 := n1_; have HO512 := n2_; have BK517 := n3_; have HB := n4_; clear n0_ n1_ n2_ n3_ n4_; (try clear hb); (try clear hb2); (try clear hk); (try clear hi)) | ((with_reducible refine gate_dst (N := 33) rfl ?_); refine box_event ?hg (N := 33) ?hd (cs := #[.int .i64 0, .int .i64 0]) (t := 25) ?hr ?_; (case hd => rfl); (case hg => rfl); (case hr => first | (go_simp; done) | (go_simp; rfl)); intro gb521 hg w77 hbox hb; have n0_ := Aside0.mk (Kd.R_below (by (with_reducible repeat (first | apply Kd.R_alloc | apply Kd.R_drewN | apply Kd.R_drew)); exact HO_15.out) hb); have n1_ := Aside0.mk (Kd.R_below (by (with_reducible repeat (first | apply Kd.R_alloc | apply Kd.R_drewN | apply Kd.R_drew)); exact HO_27.out) hb); have n2_ := Aside0.mk (Kd.R_below (by (with_reducible repeat (first | apply Kd.R_alloc | apply Kd.R_drewN | apply Kd.R_drew)); exact HO512.out) hb); have n3_ := Aside0.mk (blk_below (g := gb517) (o := .cells #[.int .i64 t514, .int .i64 t515] 25 (0, 0)) (by (with_reducible repeat (first | refine blk_drewN ?_ _ | refine blk_drew ?_ | refine blk_alloc ?_ _)); exact BK517.out) hb); have n4_ := Aside0.mk (below_step (by repeat (first | (with_reducible first | exact HB.out | apply below_alloc | apply pw_below_drewN | apply below_drew1 | refine below_set ?_ GE517.out) | exact HB.out)) hb); have n5_ := Aside0.mk (hbox); have n6_ := Aside0.mk ((by rw [hg]; exact (below_size (by repeat (first | (with_reducible first | exact HB.out | apply below_alloc | apply pw_below_drewN | apply below_drew1 | refine below_set ?_ GE517.out) | exact HB.out))) : w.heap.size ≤ gb521)); have n7_ := Aside0.mk ((by rw [hg]; exact (below_size (by repeat (first | (with_reducible first | exact HB.out | apply below_alloc | apply pw_below_drewN | apply below_drew1 | refine below_set ?_ GE517.out) | exact HB.out))) : w.heap.size ≤ gb521)); have n8_ := Aside0.mk ((by rw [hg]; exact Nat.ne_of_lt (blk_lt (g := gb517) (o := .cells #[.int .i64 t514, .int .i64 t515] 25 (0, 0)) (by (with_reducible repeat (first | refine blk_drewN ?_ _ | refine blk_drew ?_ | refine blk_alloc ?_ _)); exact BK517.out)) : gb517 ≠ gb521)); have n9_ := Aside0.mk ((by rw [hg]; exact Nat.ne_of_gt (blk_lt (g := gb517) (o := .cells #[.int .i64 t514, .int .i64 t515] 25 (0, 0)) (by (with_reducible repeat (first | refine blk_drewN ?_ _ | refine blk_drew ?_ | refine blk_alloc ?_ _)); exact BK517.out)) : gb521 ≠ gb517)); clear HO_15; clear HO_27; clear HO512; clear BK517; clear HB; have HO_15 := n0_; have HO_27 := n1_; have HO512 := n2_; have BK517 := n3_; have HB := n4_; have BK521 := n5_; have GW521 := n6_; have GE521 := n7_; have NB517_521 := n8_; have NB521_517 := n9_; clear n0_ n1_ n2_ n3_ n4_ n5_ n6_ n7_ n8_ n9_; clear hb hbox hg; have hnb78 := NB521_517.out; have hnc78 := NB517_521.out; have hcz79_0 : w77.cell? ⟨gb521, 0, none⟩ = some (.int .i64 0) := (blk_cell BK521.out 0).trans rfl; have hcz79_1 : w77.cell? ⟨gb521, 1, none⟩ = some (.int .i64 0) := (blk_cell BK521.out 1).trans rfl; have hfz79_0 := blk_frozen BK521.out 0; have hfz79_1 := blk_frozen BK521.out 1)))
           (try simp only [Act.put, List.setIfInBounds_toArray, List.set_cons_zero, List.set_cons_succ])
           go_cut [183] (fun v183 wc => ∃ (kq : Nat) (x183_70 : Bool), v183 = .bool x183_70 ∧ Aside0 (law_CurveSame.j5 kq a2 a3 a4 a5 a6 t501 t510 t500 t509 x183_70 t514 t515 = some r) ∧ Aside0 (kq ≤ kj54) ∧ Aside0 (Kd.R k57 57 wc w.heap.size (fun k_ => some k_ ≠ (v511 : Value).ownBlock) v502 t500) ∧ Aside0 (Kd.R k57 57 wc w.heap.size (fun k_ => some k_ ≠ (v502 : Value).ownBlock) v511 t509) ∧ Aside0 (wc.heap[gb517]? = some (.cells #[.int .i64 t514, .int .i64 t515] 25 (0, 0))) ∧ Aside0 (wc.heap[gb521]? = some (.cells #[.int .i64 t518, .int .i64 t519] 25 (0, 0))) ∧ Aside0 (Below w.heap.size w wc))
           case first => as_aux_lemma =>
            have H := HC71.out
            clear HC71
            by_cases c80 : t516 = 0
            ·
             rw [if_pos c80] at H
             have c80b0 : (t516 == 0) = true := beq_iff_eq.mpr c80
             have c80b1 : (t516 != 0) = false := bne_eq_false_iff_eq.mpr c80
             clear c80
             (first | rw [c80b0] | (simp only [i64_w, i32_w]; rw [c80b0]) | skip)
             by_cases c81 : t520 = 0
             ·
              rw [if_pos c81] at H
              have c81b0 : (t520 == 0) = true := beq_iff_eq.mpr c81
              have c81b1 : (t520 != 0) = false := bne_eq_false_iff_eq.mpr c81
              clear c81
              by_cases c82 : (!(t514 == t518) || (!(t515 == t519))) = true
              ·
               rw [if_pos c82] at H
               have c82b0 : (!(t514 == t518) || (!(t515 == t519))) = true := c82
               clear c82
               have H' := Aside0.mk H
               clear H
               have hnb83 := NB517_521.out
               have hnc83 := NB521_517.out
               have hcz84_0 : w77.cell? ⟨gb517, 0, none⟩ = some (.int .i64 t514) := (blk_cell BK517.out 0).trans rfl
               have hcz84_1 : w77.cell? ⟨gb517, 1, none⟩ = some (.int .i64 t515) := (blk_cell BK517.out 1).trans rfl
               have hfz84_0 := blk_frozen BK517.out 0
               have hfz84_1 := blk_frozen BK517.out 1
               have hcz85_0 : w77.cell? ⟨gb521, 0, none⟩ = some (.int .i64 0) := (blk_cell BK521.out 0).trans rfl
               have hcz85_1 : w77.cell? ⟨gb521, 1, none⟩ = some (.int .i64 0) := (blk_cell BK521.out 1).trans rfl
               have hfz85_0 := blk_frozen BK521.out 0
               have hfz85_1 := blk_frozen BK521.out 1
               go_wp2
               repeat (go_quiet (fail); try go_wp2)
               go_meet
               case rel => exact ⟨_, (true), (by first | rfl | (simp; done) | (simp [*]; done)), H', ⟨by have := HJ13.out; have := HJ25.out; have := HJ54.out; first | omega | exact Nat.le_refl _⟩, ⟨by (with_reducible repeat (first | apply Kd.R_alloc | apply Kd.R_drewN | apply Kd.R_drew)); exact Kd.R_mono (Kd.R_far (p := ⟨gb521, 1, none⟩) (Kd.R_far (p := ⟨gb521, 0, none⟩) (Kd.R_types HO_27.out BK521.out (by decide)) (fun _ hk => hk.2) (.int .i64 t518)) (fun _ hk => hk.2) (.int .i64 t519)) (fun _ hk => hk.1.2)⟩, ⟨by (with_reducible repeat (first | apply Kd.R_alloc | apply Kd.R_drewN | apply Kd.R_drew)); exact Kd.R_mono (Kd.R_far (p := ⟨gb521, 1, none⟩) (Kd.R_far (p := ⟨gb521, 0, none⟩) (Kd.R_types HO512.out BK521.out (by decide)) (fun _ hk => hk.2) (.int .i64 t518)) (fun _ hk => hk.2) (.int .i64 t519)) (fun _ hk => hk.1.2)⟩, ⟨by (with_reducible repeat (first | refine blk_drewN ?_ _ | refine blk_drew ?_ | refine blk_alloc ?_ _)); refine blk_far ?_ NB517_521.out _; (with_reducible repeat (first | refine blk_drewN ?_ _ | refine blk_drew ?_ | refine blk_alloc ?_ _)); refine blk_far ?_ NB517_521.out _; (with_reducible repeat (first | refine blk_drewN ?_ _ | refine blk_drew ?_ | refine blk_alloc ?_ _)); exact BK517.out⟩, ⟨by (with_reducible repeat (first | refine blk_drewN ?_ _ | refine blk_drew ?_ | refine blk_alloc ?_ _)); refine blk_put (cs := #[.int .i64 t518, .int .i64 0]) ?_ 1 _ rfl; (with_reducible repeat (first | refine blk_drewN ?_ _ | refine blk_drew ?_ | refine blk_alloc ?_ _)); refine blk_put (cs := #[.int .i64 0, .int .i64 0]) ?_ 0 _ rfl; (with_reducible repeat (first | refine blk_drewN ?_ _ | refine blk_drew ?_ | refine blk_alloc ?_ _)); exact BK521.out⟩, ⟨by repeat (first | (with_reducible first | exact HB.out | apply below_alloc | apply pw_below_drewN | apply below_drew1 | refine below_set ?_ GE517.out | refine below_set ?_ GE521.out) | exact HB.out)⟩⟩
              ·
               rw [if_neg c82] at H
               have c82b0 : (!(t514 == t518) || (!(t515 == t519))) = false := by simpa using c82
               clear c82
               by_cases c86 : t515 < 1
               ·
                rw [if_pos c86] at H
                have c86b0 : decide (t515 < 1) = true := decide_eq_true c86
                clear c86
                have H' := Aside0.mk H
                clear H
                have hnb87 := NB517_521.out
                have hnc87 := NB521_517.out
                have hcz88_0 : w77.cell? ⟨gb517, 0, none⟩ = some (.int .i64 t514) := (blk_cell BK517.out 0).trans rfl
                have hcz88_1 : w77.cell? ⟨gb517, 1, none⟩ = some (.int .i64 t515) := (blk_cell BK517.out 1).trans rfl
                have hfz88_0 := blk_frozen BK517.out 0
                have hfz88_1 := blk_frozen BK517.out 1
                have hcz89_0 : w77.cell? ⟨gb521, 0, none⟩ = some (.int .i64 0) := (blk_cell BK521.out 0).trans rfl
                have hcz89_1 : w77.cell? ⟨gb521, 1, none⟩ = some (.int .i64 0) := (blk_cell BK521.out 1).trans rfl
                have hfz89_0 := blk_frozen BK521.out 0
                have hfz89_1 := blk_frozen BK521.out 1
                go_wp2
                repeat (go_quiet (fail); try go_wp2)
                go_meet
                case rel => exact ⟨_, (true), (by first | rfl | (simp; done) | (simp [*]; done)), H', ⟨by have := HJ13.out; have := HJ25.out; have := HJ54.out; first | omega | exact Nat.le_refl _⟩, ⟨by (with_reducible repeat (first | apply Kd.R_alloc | apply Kd.R_drewN | apply Kd.R_drew)); exact Kd.R_mono (Kd.R_far (p := ⟨gb521, 1, none⟩) (Kd.R_far (p := ⟨gb521, 0, none⟩) (Kd.R_types HO_27.out BK521.out (by decide)) (fun _ hk => hk.2) (.int .i64 t518)) (fun _ hk => hk.2) (.int .i64 t519)) (fun _ hk => hk.1.2)⟩, ⟨by (with_reducible repeat (first | apply Kd.R_alloc | apply Kd.R_drewN | apply Kd.R_drew)); exact Kd.R_mono (Kd.R_far (p := ⟨gb521, 1, none⟩) (Kd.R_far (p := ⟨gb521, 0, none⟩) (Kd.R_types HO512.out BK521.out (by decide)) (fun _ hk => hk.2) (.int .i64 t518)) (fun _ hk => hk.2) (.int .i64 t519)) (fun _ hk => hk.1.2)⟩, ⟨by (with_reducible repeat (first | refine blk_drewN ?_ _ | refine blk_drew ?_ | refine blk_alloc ?_ _)); refine blk_far ?_ NB517_521.out _; (with_reducible repeat (first | refine blk_drewN ?_ _ | refine blk_drew ?_ | refine blk_alloc ?_ _)); refine blk_far ?_ NB517_521.out _; (with_reducible repeat (first | refine blk_drewN ?_ _ | refine blk_drew ?_ | refine blk_alloc ?_ _)); exact BK517.out⟩, ⟨by (with_reducible repeat (first | refine blk_drewN ?_ _ | refine blk_drew ?_ | refine blk_alloc ?_ _)); refine blk_put (cs := #[.int .i64 t518, .int .i64 0]) ?_ 1 _ rfl; (with_reducible repeat (first | refine blk_drewN ?_ _ | refine blk_drew ?_ | refine blk_alloc ?_ _)); refine blk_put (cs := #[.int .i64 0, .int .i64 0]) ?_ 0 _ rfl; (with_reducible repeat (first | refine blk_drewN ?_ _ | refine blk_drew ?_ | refine blk_alloc ?_ _)); exact BK521.out⟩, ⟨by repeat (first | (with_reducible first | exact HB.out | apply below_alloc | apply pw_below_drewN | apply below_drew1 | refine below_set ?_ GE517.out | refine below_set ?_ GE521.out) | exact HB.out)⟩⟩
               ·
                rw [if_neg c86] at H
                have c86b0 : decide (t515 < 1) = false := decide_eq_false c86
                clear c86
                have H' := Aside0.mk H
                clear H
                have hnb90 := NB517_521.out
                have hnc90 := NB521_517.out
                have hcz91_0 : w77.cell? ⟨gb517, 0, none⟩ = some (.int .i64 t514) := (blk_cell BK517.out 0).trans rfl
                have hcz91_1 : w77.cell? ⟨gb517, 1, none⟩ = some (.int .i64 t515) := (blk_cell BK517.out 1).trans rfl
                have hfz91_0 := blk_frozen BK517.out 0
                have hfz91_1 := blk_frozen BK517.out 1
                have hcz92_0 : w77.cell? ⟨gb521, 0, none⟩ = some (.int .i64 0) := (blk_cell BK521.out 0).trans rfl
                have hcz92_1 : w77.cell? ⟨gb521, 1, none⟩ = some (.int .i64 0) := (blk_cell BK521.out 1).trans rfl
                have hfz92_0 := blk_frozen BK521.out 0
                have hfz92_1 := blk_frozen BK521.out 1
                go_wp2
                repeat (go_quiet (fail); try go_wp2)
                go_meet
                case rel => exact ⟨_, (decide (t515 > 16777216)), (by first | rfl | (simp; done) | (simp [*]; done)), H', ⟨by have := HJ13.out; have := HJ25.out; have := HJ54.out; first | omega | exact Nat.le_refl _⟩, ⟨by (with_reducible repeat (first | apply Kd.R_alloc | apply Kd.R_drewN | apply Kd.R_drew)); exact Kd.R_mono (Kd.R_far (p := ⟨gb521, 1, none⟩) (Kd.R_far (p := ⟨gb521, 0, none⟩) (Kd.R_types HO_27.out BK521.out (by decide)) (fun _ hk => hk.2) (.int .i64 t518)) (fun _ hk => hk.2) (.int .i64 t519)) (fun _ hk => hk.1.2)⟩, ⟨by (with_reducible repeat (first | apply Kd.R_alloc | apply Kd.R_drewN | apply Kd.R_drew)); exact Kd.R_mono (Kd.R_far (p := ⟨gb521, 1, none⟩) (Kd.R_far (p := ⟨gb521, 0, none⟩) (Kd.R_types HO512.out BK521.out (by decide)) (fun _ hk => hk.2) (.int .i64 t518)) (fun _ hk => hk.2) (.int .i64 t519)) (fun _ hk => hk.1.2)⟩, ⟨by (with_reducible repeat (first | refine blk_drewN ?_ _ | refine blk_drew ?_ | refine blk_alloc ?_ _)); refine blk_far ?_ NB517_521.out _; (with_reducible repeat (first | refine blk_drewN ?_ _ | refine blk_drew ?_ | refine blk_alloc ?_ _)); refine blk_far ?_ NB517_521.out _; (with_reducible repeat (first | refine blk_drewN ?_ _ | refine blk_drew ?_ | refine blk_alloc ?_ _)); exact BK517.out⟩, ⟨by (with_reducible repeat (first | refine blk_drewN ?_ _ | refine blk_drew ?_ | refine blk_alloc ?_ _)); refine blk_put (cs := #[.int .i64 t518, .int .i64 0]) ?_ 1 _ rfl; (with_reducible repeat (first | refine blk_drewN ?_ _ | refine blk_drew ?_ | refine blk_alloc ?_ _)); refine blk_put (cs := #[.int .i64 0, .int .i64 0]) ?_ 0 _ rfl; (with_reducible repeat (first | refine blk_drewN ?_ _ | refine blk_drew ?_ | refine blk_alloc ?_ _)); exact BK521.out⟩, ⟨by repeat (first | (with_reducible first | exact HB.out | apply below_alloc | apply pw_below_drewN | apply below_drew1 | refine below_set ?_ GE517.out | refine below_set ?_ GE521.out) | exact HB.out)⟩⟩
             ·
              rw [if_neg c81] at H
              have c81b0 : (t520 == 0) = false := beq_eq_false_iff_ne.mpr c81
              have c81b1 : (t520 != 0) = true := bne_iff_ne.mpr c81
              have H' := Aside0.mk H
              clear H
              go_wp2
              repeat (go_quiet (fail); try go_wp2)
              go_meet
              case rel => exact ⟨_, (true), (by first | rfl | (simp; done) | (simp [*]; done)), H', ⟨by have := HJ13.out; have := HJ25.out; have := HJ54.out; first | omega | exact Nat.le_refl _⟩, ⟨by (with_reducible repeat (first | apply Kd.R_alloc | apply Kd.R_drewN | apply Kd.R_drew)); exact Kd.R_mono (Kd.R_far (p := ⟨gb521, 1, none⟩) (Kd.R_far (p := ⟨gb521, 0, none⟩) (Kd.R_types HO_27.out BK521.out (by decide)) (fun _ hk => hk.2) (.int .i64 t518)) (fun _ hk => hk.2) (.int .i64 t519)) (fun _ hk => hk.1.2)⟩, ⟨by (with_reducible repeat (first | apply Kd.R_alloc | apply Kd.R_drewN | apply Kd.R_drew)); exact Kd.R_mono (Kd.R_far (p := ⟨gb521, 1, none⟩) (Kd.R_far (p := ⟨gb521, 0, none⟩) (Kd.R_types HO512.out BK521.out (by decide)) (fun _ hk => hk.2) (.int .i64 t518)) (fun _ hk => hk.2) (.int .i64 t519)) (fun _ hk => hk.1.2)⟩, ⟨by (with_reducible repeat (first | refine blk_drewN ?_ _ | refine blk_drew ?_ | refine blk_alloc ?_ _)); refine blk_far ?_ NB517_521.out _; (with_reducible repeat (first | refine blk_drewN ?_ _ | refine blk_drew ?_ | refine blk_alloc ?_ _)); refine blk_far ?_ NB517_521.out _; (with_reducible repeat (first | refine blk_drewN ?_ _ | refine blk_drew ?_ | refine blk_alloc ?_ _)); exact BK517.out⟩, ⟨by (with_reducible repeat (first | refine blk_drewN ?_ _ | refine blk_drew ?_ | refine blk_alloc ?_ _)); refine blk_put (cs := #[.int .i64 t518, .int .i64 0]) ?_ 1 _ rfl; (with_reducible repeat (first | refine blk_drewN ?_ _ | refine blk_drew ?_ | refine blk_alloc ?_ _)); refine blk_put (cs := #[.int .i64 0, .int .i64 0]) ?_ 0 _ rfl; (with_reducible repeat (first | refine blk_drewN ?_ _ | refine blk_drew ?_ | refine blk_alloc ?_ _)); exact BK521.out⟩, ⟨by repeat (first | (with_reducible first | exact HB.out | apply below_alloc | apply pw_below_drewN | apply below_drew1 | refine below_set ?_ GE517.out | refine below_set ?_ GE521.out) | exact HB.out)⟩⟩
            ·
             rw [if_neg c80] at H
             have c80b0 : (t516 == 0) = false := beq_eq_false_iff_ne.mpr c80
             have c80b1 : (t516 != 0) = true := bne_iff_ne.mpr c80
             (first | rw [c80b0] | (simp only [i64_w, i32_w]; rw [c80b0]) | skip)
             have H' := Aside0.mk H
             clear H
             go_wp2
             repeat (go_quiet (fail); try go_wp2)
             go_meet
             case rel => exact ⟨_, (true), (by first | rfl | (simp; done) | (simp [*]; done)), H', ⟨by have := HJ13.out; have := HJ25.out; have := HJ54.out; first | omega | exact Nat.le_refl _⟩, ⟨by (with_reducible repeat (first | apply Kd.R_alloc | apply Kd.R_drewN | apply Kd.R_drew)); exact Kd.R_mono (Kd.R_far (p := ⟨gb521, 1, none⟩) (Kd.R_far (p := ⟨gb521, 0, none⟩) (Kd.R_types HO_27.out BK521.out (by decide)) (fun _ hk => hk.2) (.int .i64 t518)) (fun _ hk => hk.2) (.int .i64 t519)) (fun _ hk => hk.1.2)⟩, ⟨by (with_reducible repeat (first | apply Kd.R_alloc | apply Kd.R_drewN | apply Kd.R_drew)); exact Kd.R_mono (Kd.R_far (p := ⟨gb521, 1, none⟩) (Kd.R_far (p := ⟨gb521, 0, none⟩) (Kd.R_types HO512.out BK521.out (by decide)) (fun _ hk => hk.2) (.int .i64 t518)) (fun _ hk => hk.2) (.int .i64 t519)) (fun _ hk => hk.1.2)⟩, ⟨by (with_reducible repeat (first | refine blk_drewN ?_ _ | refine blk_drew ?_ | refine blk_alloc ?_ _)); refine blk_far ?_ NB517_521.out _; (with_reducible repeat (first | refine blk_drewN ?_ _ | refine blk_drew ?_ | refine blk_alloc ?_ _)); refine blk_far ?_ NB517_521.out _; (with_reducible repeat (first | refine blk_drewN ?_ _ | refine blk_drew ?_ | refine blk_alloc ?_ _)); exact BK517.out⟩, ⟨by (with_reducible repeat (first | refine blk_drewN ?_ _ | refine blk_drew ?_ | refine blk_alloc ?_ _)); refine blk_put (cs := #[.int .i64 t518, .int .i64 0]) ?_ 1 _ rfl; (with_reducible repeat (first | refine blk_drewN ?_ _ | refine blk_drew ?_ | refine blk_alloc ?_ _)); refine blk_put (cs := #[.int .i64 0, .int .i64 0]) ?_ 0 _ rfl; (with_reducible repeat (first | refine blk_drewN ?_ _ | refine blk_drew ?_ | refine blk_alloc ?_ _)); exact BK521.out⟩, ⟨by repeat (first | (with_reducible first | exact HB.out | apply below_alloc | apply pw_below_drewN | apply below_drew1 | refine below_set ?_ GE517.out | refine below_set ?_ GE521.out) | exact HB.out)⟩⟩
           case rest => as_aux_lemma =>
            clear HC71
            try clear c1
            try clear c2
            try clear p2
            try clear c3
            try clear c4
            try clear c5
            try clear c6
            try clear p6
            try clear c7
            try clear c8
            try clear c9
            try clear c11
            try clear c19
            try clear c19b0
            try clear c19b1
            try clear c20
            try clear c20b0
            try clear c20b1
            try clear c23
            try clear c28
            try clear c28b0
            try clear c28b1
            try clear c31
            try clear c31b0
            try clear c31b1
            try clear c34
            try clear c34b0
            try clear c34b1
            try clear c48
            try clear c48b0
            try clear c48b1
            try clear c49
            try clear c49b0
            try clear c49b1
            try clear c52
            try clear c57
            try clear c57b0
            try clear c57b1
            try clear c62
            try clear c62b0
            try clear c62b1
            try clear p64
            try clear c65
            try clear c68
            try clear c78
            try clear c80
            try clear c80b0
            try clear c80b1
            try clear c81
            try clear c81b0
            try clear c81b1
            try clear c82
            try clear c82b0
            try clear c83
            try clear c86
            try clear c86b0
            try clear c87
            try clear c90
            try clear hcz75_0
            try clear hcz75_1
            try clear hcz79_0
            try clear hcz79_1
            try clear hcz84_0
            try clear hcz84_1
            try clear hcz85_0
            try clear hcz85_1
            try clear hcz88_0
            try clear hcz88_1
            try clear hcz89_0
            try clear hcz89_1
            try clear hcz91_0
            try clear hcz91_1
            try clear hcz92_0
            try clear hcz92_1
            try clear hfz75_0
            try clear hfz75_1
            try clear hfz79_0
            try clear hfz79_1
            try clear hfz84_0
            try clear hfz84_1
            try clear hfz85_0
            try clear hfz85_1
            try clear hfz88_0
            try clear hfz88_1
            try clear hfz89_0
            try clear hfz89_1
            try clear hfz91_0
            try clear hfz91_1
            try clear hfz92_0
            try clear hfz92_1
            try clear p2
            try clear p6
            try clear p64
            obtain ⟨kq, x183_70, rfl, HA, HJ70, HO_27, HO_30, BK517, BK521, HB⟩ := hcut
            cases kq with
            | zero => exact absurd HA.out (by simp [law_CurveSame.j5])
            | succ kj70 =>
             have H := HA.out
             clear HA
             simp only [law_CurveSame.j5] at H
             by_cases c93 : x183_70 = true
             ·
              subst c93
              have H1 : (some false) = some r := by rw [if_pos rfl] at H; exact H
              clear H
              have H := H1
              clear H1
              obtain rfl := Option.some.inj H
              go_wp2
              repeat (go_quiet (fail); try go_wp2)
              go_ret
              exact ⟨by first | rfl | (simp [errW_none, errW_some] <;> rfl) | (simp [*, errW_none, errW_some] <;> rfl), by repeat (first | (with_reducible first | exact HB.out | apply below_alloc | apply pw_below_drewN | apply below_drew1 | refine below_set ?_ GE517.out | refine below_set ?_ GE521.out) | exact HB.out)⟩
             ·
              replace c93 := Bool.eq_false_iff.mpr c93
              subst c93
              have H1 : (if t501 = 0 then ((curve_Exact.f kj70 t500 (wrap64 (a2 + a3))).bind fun bt522 => (if bt522.2.2 = 0 then (if bt522.2.1 = t515 then (law_CurveSame.j6 kj70 a2 a5 a6 t510 t509 (bt522.1 != (wrap64 (t514 + (wrap64 (a4 * t515))))) t514 t515) else (law_CurveSame.j6 kj70 a2 a5 a6 t510 t509 true t514 t515)) else (law_CurveSame.j6 kj70 a2 a5 a6 t510 t509 true t514 t515))) else (law_CurveSame.j7 kj70 a2 a5 a6 t510 t509 t514 t515)) = some r := by rw [if_neg (show ¬ (false = true) by decide)] at H; exact H
              clear H
              have H := H1
              clear H1
              have HC94 := Aside0.mk H
              clear H
              go_upto_if 185 with (fail)
              repeat (go_quiet (fail); go_upto_if 185 with (fail))
              go_cut [] (fun wc => ∃ (kq : Nat), Aside0 (law_CurveSame.j7 kq a2 a5 a6 t510 t509 t514 t515 = some r) ∧ Aside0 (kq ≤ kj70) ∧ Aside0 (Kd.R k57 57 wc w.heap.size (fun _ => True) v511 t509) ∧ Aside0 (wc.heap[gb517]? = some (.cells #[.int .i64 t514, .int .i64 t515] 25 (0, 0))) ∧ Aside0 (wc.heap[gb521]? = some (.cells #[.int .i64 t518, .int .i64 t519] 25 (0, 0))) ∧ Aside0 (Below w.heap.size w wc))
              case first => as_aux_lemma =>
               have H := HC94.out
               clear HC94
               by_cases c95 : t501 = 0
               ·
                rw [if_pos c95] at H
                have c95b0 : (t501 == 0) = true := beq_iff_eq.mpr c95
                have c95b1 : (t501 != 0) = false := bne_eq_false_iff_eq.mpr c95
                clear c95
                (first | rw [c95b0] | (simp only [i64_w, i32_w]; rw [c95b0]) | skip)
                replace H := Option.bind_eq_some_iff.mp H
                obtain ⟨⟨t522, t523, t524⟩, A960, H⟩ := H
                replace H : (if t524 = 0 then (if t523 = t515 then (law_CurveSame.j6 kj70 a2 a5 a6 t510 t509 (t522 != (wrap64 (t514 + (wrap64 (a4 * t515))))) t514 t515) else (law_CurveSame.j6 kj70 a2 a5 a6 t510 t509 true t514 t515)) else (law_CurveSame.j6 kj70 a2 a5 a6 t510 t509 true t514 t515)) = some r := H
                have A96 := Aside0.mk A960
                clear A960
                have HC97 := Aside0.mk H
                clear H
                obtain ⟨Ao98, co98, eo98⟩ := Kd.R_slice HO_27.out
                subst eo98
                go_upto_region 33 with (first | (go_at_call 22; (with_reducible refine (curve_Exact.calls kj70 _ _ t500 (wrap64 (a2 + a3)) t522 t523 t524 _ ?side1 ?side2 A96.out).mono ?_); (case side1 => repeat (first | exact (Kd.R_reads' HO_27.out).2.2 | (with_reducible refine Kd.C_alloc ?_ _) | (with_reducible refine Kd.C_drewN ?_ _) | (with_reducible refine Kd.C_drew ?_))); (case side2 => exact (Kd.R_reads' HO_27.out).2.1); rintro e w99 ⟨rfl, hb⟩; have n0_ := Aside0.mk (Kd.R_below (by (with_reducible repeat (first | apply Kd.R_alloc | apply Kd.R_drewN | apply Kd.R_drew)); exact HO_27.out) hb); have n1_ := Aside0.mk (Kd.R_below (by (with_reducible repeat (first | apply Kd.R_alloc | apply Kd.R_drewN | apply Kd.R_drew)); exact HO_30.out) hb); have n2_ := Aside0.mk (blk_below (g := gb517) (o := .cells #[.int .i64 t514, .int .i64 t515] 25 (0, 0)) (by (with_reducible repeat (first | refine blk_drewN ?_ _ | refine blk_drew ?_ | refine blk_alloc ?_ _)); exact BK517.out) hb); have n3_ := Aside0.mk (blk_below (g := gb521) (o := .cells #[.int .i64 t518, .int .i64 t519] 25 (0, 0)) (by (with_reducible repeat (first | refine blk_drewN ?_ _ | refine blk_drew ?_ | refine blk_alloc ?_ _)); exact BK521.out) hb); have n4_ := Aside0.mk (below_step (by repeat (first | (with_reducible first | exact HB.out | apply below_alloc | apply pw_below_drewN | apply below_drew1 | refine below_set ?_ GE517.out | refine below_set ?_ GE521.out) | exact HB.out)) hb); clear HO_27; clear HO_30; clear BK517; clear BK521; clear HB; have HO_27 := n0_; have HO_30 := n1_; have BK517 := n2_; have BK521 := n3_; have HB := n4_; clear n0_ n1_ n2_ n3_ n4_; (try clear hb); (try clear hb2); (try clear hk); (try clear hi)) | ((with_reducible refine gate_dst (N := 35) rfl ?_); refine box_event ?hg (N := 35) ?hd (cs := #[.int .i64 0, .int .i64 0]) (t := 25) ?hr ?_; (case hd => rfl); (case hg => rfl); (case hr => first | (go_simp; done) | (go_simp; rfl)); intro gb525 hg w100 hbox hb; have n0_ := Aside0.mk (Kd.R_below (by (with_reducible repeat (first | apply Kd.R_alloc | apply Kd.R_drewN | apply Kd.R_drew)); exact HO_27.out) hb); have n1_ := Aside0.mk (Kd.R_below (by (with_reducible repeat (first | apply Kd.R_alloc | apply Kd.R_drewN | apply Kd.R_drew)); exact HO_30.out) hb); have n2_ := Aside0.mk (blk_below (g := gb517) (o := .cells #[.int .i64 t514, .int .i64 t515] 25 (0, 0)) (by (with_reducible repeat (first | refine blk_drewN ?_ _ | refine blk_drew ?_ | refine blk_alloc ?_ _)); exact BK517.out) hb); have n3_ := Aside0.mk (blk_below (g := gb521) (o := .cells #[.int .i64 t518, .int .i64 t519] 25 (0, 0)) (by (with_reducible repeat (first | refine blk_drewN ?_ _ | refine blk_drew ?_ | refine blk_alloc ?_ _)); exact BK521.out) hb); have n4_ := Aside0.mk (below_step (by repeat (first | (with_reducible first | exact HB.out | apply below_alloc | apply pw_below_drewN | apply below_drew1 | refine below_set ?_ GE517.out | refine below_set ?_ GE521.out) | exact HB.out)) hb); have n5_ := Aside0.mk (hbox); have n6_ := Aside0.mk ((by rw [hg]; exact (below_size (by repeat (first | (with_reducible first | exact HB.out | apply below_alloc | apply pw_below_drewN | apply below_drew1 | refine below_set ?_ GE517.out | refine below_set ?_ GE521.out) | exact HB.out))) : w.heap.size ≤ gb525)); have n7_ := Aside0.mk ((by rw [hg]; exact (below_size (by repeat (first | (with_reducible first | exact HB.out | apply below_alloc | apply pw_below_drewN | apply below_drew1 | refine below_set ?_ GE517.out | refine below_set ?_ GE521.out) | exact HB.out))) : w.heap.size ≤ gb525)); have n8_ := Aside0.mk ((by rw [hg]; exact Nat.ne_of_lt (blk_lt (g := gb517) (o := .cells #[.int .i64 t514, .int .i64 t515] 25 (0, 0)) (by (with_reducible repeat (first | refine blk_drewN ?_ _ | refine blk_drew ?_ | refine blk_alloc ?_ _)); exact BK517.out)) : gb517 ≠ gb525)); have n9_ := Aside0.mk ((by rw [hg]; exact Nat.ne_of_gt (blk_lt (g := gb517) (o := .cells #[.int .i64 t514, .int .i64 t515] 25 (0, 0)) (by (with_reducible repeat (first | refine blk_drewN ?_ _ | refine blk_drew ?_ | refine blk_alloc ?_ _)); exact BK517.out)) : gb525 ≠ gb517)); have n10_ := Aside0.mk ((by rw [hg]; exact Nat.ne_of_lt (blk_lt (g := gb521) (o := .cells #[.int .i64 t518, .int .i64 t519] 25 (0, 0)) (by (with_reducible repeat (first | refine blk_drewN ?_ _ | refine blk_drew ?_ | refine blk_alloc ?_ _)); exact BK521.out)) : gb521 ≠ gb525)); have n11_ := Aside0.mk ((by rw [hg]; exact Nat.ne_of_gt (blk_lt (g := gb521) (o := .cells #[.int .i64 t518, .int .i64 t519] 25 (0, 0)) (by (with_reducible repeat (first | refine blk_drewN ?_ _ | refine blk_drew ?_ | refine blk_alloc ?_ _)); exact BK521.out)) : gb525 ≠ gb521)); clear HO_27; clear HO_30; clear BK517; clear BK521; clear HB; have HO_27 := n0_; have HO_30 := n1_; have BK517 := n2_; have BK521 := n3_; have HB := n4_; have BK525 := n5_; have GW525 := n6_; have GE525 := n7_; have NB517_525 := n8_; have NB525_517 := n9_; have NB521_525 := n10_; have NB525_521 := n11_; clear n0_ n1_ n2_ n3_ n4_ n5_ n6_ n7_ n8_ n9_ n10_ n11_; clear hb hbox hg; have hnb101 := NB525_517.out; have hnc101 := NB517_525.out; have hnb102 := NB525_521.out; have hnc102 := NB521_525.out; have hcz103_0 : w100.cell? ⟨gb525, 0, none⟩ = some (.int .i64 0) := (blk_cell BK525.out 0).trans rfl; have hcz103_1 : w100.cell? ⟨gb525, 1, none⟩ = some (.int .i64 0) := (blk_cell BK525.out 1).trans rfl; have hfz103_0 := blk_frozen BK525.out 0; have hfz103_1 := blk_frozen BK525.out 1))
                repeat (go_quiet (first | (go_at_call 22; (with_reducible refine (curve_Exact.calls kj70 _ _ t500 (wrap64 (a2 + a3)) t522 t523 t524 _ ?side1 ?side2 A96.out).mono ?_); (case side1 => repeat (first | exact (Kd.R_reads' HO_27.out).2.2 | (with_reducible refine Kd.C_alloc ?_ _) | (with_reducible refine Kd.C_drewN ?_ _) | (with_reducible refine Kd.C_drew ?_))); (case side2 => exact (Kd.R_reads' HO_27.out).2.1); rintro e w99 ⟨rfl, hb⟩; have n0_ := Aside0.mk (Kd.R_below (by (with_reducible repeat (first | apply Kd.R_alloc | apply Kd.R_drewN | apply Kd.R_drew)); exact HO_27.out) hb); have n1_ := Aside0.mk (Kd.R_below (by (with_reducible repeat (first | apply Kd.R_alloc | apply Kd.R_drewN | apply Kd.R_drew)); exact HO_30.out) hb); have n2_ := Aside0.mk (blk_below (g := gb517) (o := .cells #[.int .i64 t514, .int .i64 t515] 25 (0, 0)) (by (with_reducible repeat (first | refine blk_drewN ?_ _ | refine blk_drew ?_ | refine blk_alloc ?_ _)); exact BK517.out) hb); have n3_ := Aside0.mk (blk_below (g := gb521) (o := .cells #[.int .i64 t518, .int .i64 t519] 25 (0, 0)) (by (with_reducible repeat (first | refine blk_drewN ?_ _ | refine blk_drew ?_ | refine blk_alloc ?_ _)); exact BK521.out) hb); have n4_ := Aside0.mk (below_step (by repeat (first | (with_reducible first | exact HB.out | apply below_alloc | apply pw_below_drewN | apply below_drew1 | refine below_set ?_ GE517.out | refine below_set ?_ GE521.out) | exact HB.out)) hb); clear HO_27; clear HO_30; clear BK517; clear BK521; clear HB; have HO_27 := n0_; have HO_30 := n1_; have BK517 := n2_; have BK521 := n3_; have HB := n4_; clear n0_ n1_ n2_ n3_ n4_; (try clear hb); (try clear hb2); (try clear hk); (try clear hi)) | ((with_reducible refine gate_dst (N := 35) rfl ?_); refine box_event ?hg (N := 35) ?hd (cs := #[.int .i64 0, .int .i64 0]) (t := 25) ?hr ?_; (case hd => rfl); (case hg => rfl); (case hr => first | (go_simp; done) | (go_simp; rfl)); intro gb525 hg w100 hbox hb; have n0_ := Aside0.mk (Kd.R_below (by (with_reducible repeat (first | apply Kd.R_alloc | apply Kd.R_drewN | apply Kd.R_drew)); exact HO_27.out) hb); have n1_ := Aside0.mk (Kd.R_below (by (with_reducible repeat (first | apply Kd.R_alloc | apply Kd.R_drewN | apply Kd.R_drew)); exact HO_30.out) hb); have n2_ := Aside0.mk (blk_below (g := gb517) (o := .cells #[.int .i64 t514, .int .i64 t515] 25 (0, 0)) (by (with_reducible repeat (first | refine blk_drewN ?_ _ | refine blk_drew ?_ | refine blk_alloc ?_ _)); exact BK517.out) hb); have n3_ := Aside0.mk (blk_below (g := gb521) (o := .cells #[.int .i64 t518, .int .i64 t519] 25 (0, 0)) (by (with_reducible repeat (first | refine blk_drewN ?_ _ | refine blk_drew ?_ | refine blk_alloc ?_ _)); exact BK521.out) hb); have n4_ := Aside0.mk (below_step (by repeat (first | (with_reducible first | exact HB.out | apply below_alloc | apply pw_below_drewN | apply below_drew1 | refine below_set ?_ GE517.out | refine below_set ?_ GE521.out) | exact HB.out)) hb); have n5_ := Aside0.mk (hbox); have n6_ := Aside0.mk ((by rw [hg]; exact (below_size (by repeat (first | (with_reducible first | exact HB.out | apply below_alloc | apply pw_below_drewN | apply below_drew1 | refine below_set ?_ GE517.out | refine below_set ?_ GE521.out) | exact HB.out))) : w.heap.size ≤ gb525)); have n7_ := Aside0.mk ((by rw [hg]; exact (below_size (by repeat (first | (with_reducible first | exact HB.out | apply below_alloc | apply pw_below_drewN | apply below_drew1 | refine below_set ?_ GE517.out | refine below_set ?_ GE521.out) | exact HB.out))) : w.heap.size ≤ gb525)); have n8_ := Aside0.mk ((by rw [hg]; exact Nat.ne_of_lt (blk_lt (g := gb517) (o := .cells #[.int .i64 t514, .int .i64 t515] 25 (0, 0)) (by (with_reducible repeat (first | refine blk_drewN ?_ _ | refine blk_drew ?_ | refine blk_alloc ?_ _)); exact BK517.out)) : gb517 ≠ gb525)); have n9_ := Aside0.mk ((by rw [hg]; exact Nat.ne_of_gt (blk_lt (g := gb517) (o := .cells #[.int .i64 t514, .int .i64 t515] 25 (0, 0)) (by (with_reducible repeat (first | refine blk_drewN ?_ _ | refine blk_drew ?_ | refine blk_alloc ?_ _)); exact BK517.out)) : gb525 ≠ gb517)); have n10_ := Aside0.mk ((by rw [hg]; exact Nat.ne_of_lt (blk_lt (g := gb521) (o := .cells #[.int .i64 t518, .int .i64 t519] 25 (0, 0)) (by (with_reducible repeat (first | refine blk_drewN ?_ _ | refine blk_drew ?_ | refine blk_alloc ?_ _)); exact BK521.out)) : gb521 ≠ gb525)); have n11_ := Aside0.mk ((by rw [hg]; exact Nat.ne_of_gt (blk_lt (g := gb521) (o := .cells #[.int .i64 t518, .int .i64 t519] 25 (0, 0)) (by (with_reducible repeat (first | refine blk_drewN ?_ _ | refine blk_drew ?_ | refine blk_alloc ?_ _)); exact BK521.out)) : gb525 ≠ gb521)); clear HO_27; clear HO_30; clear BK517; clear BK521; clear HB; have HO_27 := n0_; have HO_30 := n1_; have BK517 := n2_; have BK521 := n3_; have HB := n4_; have BK525 := n5_; have GW525 := n6_; have GE525 := n7_; have NB517_525 := n8_; have NB525_517 := n9_; have NB521_525 := n10_; have NB525_521 := n11_; clear n0_ n1_ n2_ n3_ n4_ n5_ n6_ n7_ n8_ n9_ n10_ n11_; clear hb hbox hg; have hnb101 := NB525_517.out; have hnc101 := NB517_525.out; have hnb102 := NB525_521.out; have hnc102 := NB521_525.out; have hcz103_0 : w100.cell? ⟨gb525, 0, none⟩ = some (.int .i64 0) := (blk_cell BK525.out 0).trans rfl; have hcz103_1 : w100.cell? ⟨gb525, 1, none⟩ = some (.int .i64 0) := (blk_cell BK525.out 1).trans rfl; have hfz103_0 := blk_frozen BK525.out 0; have hfz103_1 := blk_frozen BK525.out 1)); go_upto_region 33 with (first | (go_at_call 22; (with_reducible refine (curve_Exact.calls kj70 _ _ t500 (wrap64 (a2 + a3)) t522 t523 t524 _ ?side1 ?side2 A96.out).mono ?_); (case side1 => repeat (first | exact (Kd.R_reads' HO_27.out).2.2 | (with_reducible refine Kd.C_alloc ?_ _) | (with_reducible refine Kd.C_drewN ?_ _) | (with_reducible refine Kd.C_drew ?_))); (case side2 => exact (Kd.R_reads' HO_27.out).2.1); rintro e w99 ⟨rfl, hb⟩; have n0_ := Aside0.mk (Kd.R_below (by (with_reducible repeat (first | apply Kd.R_alloc | apply Kd.R_drewN | apply Kd.R_drew)); exact HO_27.out) hb); have n1_ := Aside0.mk (Kd.R_below (by (with_reducible repeat (first | apply Kd.R_alloc | apply Kd.R_drewN | apply Kd.R_drew)); exact HO_30.out) hb); have n2_ := Aside0.mk (blk_below (g := gb517) (o := .cells #[.int .i64 t514, .int .i64 t515] 25 (0, 0)) (by (with_reducible repeat (first | refine blk_drewN ?_ _ | refine blk_drew ?_ | refine blk_alloc ?_ _)); exact BK517.out) hb); have n3_ := Aside0.mk (blk_below (g := gb521) (o := .cells #[.int .i64 t518, .int .i64 t519] 25 (0, 0)) (by (with_reducible repeat (first | refine blk_drewN ?_ _ | refine blk_drew ?_ | refine blk_alloc ?_ _)); exact BK521.out) hb); have n4_ := Aside0.mk (below_step (by repeat (first | (with_reducible first | exact HB.out | apply below_alloc | apply pw_below_drewN | apply below_drew1 | refine below_set ?_ GE517.out | refine below_set ?_ GE521.out) | exact HB.out)) hb); clear HO_27; clear HO_30; clear BK517; clear BK521; clear HB; have HO_27 := n0_; have HO_30 := n1_; have BK517 := n2_; have BK521 := n3_; have HB := n4_; clear n0_ n1_ n2_ n3_ n4_; (try clear hb); (try clear hb2); (try clear hk); (try clear hi)) | ((with_reducible refine gate_dst (N := 35) rfl ?_); refine box_event ?hg (N := 35) ?hd (cs := #[.int .i64 0, .int .i64 0]) (t := 25) ?hr ?_; (case hd => rfl); (case hg => rfl); (case hr => first | (go_simp; done) | (go_simp; rfl)); intro gb525 hg w100 hbox hb; have n0_ := Aside0.mk (Kd.R_below (by (with_reducible repeat (first | apply Kd.R_alloc | apply Kd.R_drewN | apply Kd.R_drew)); exact HO_27.out) hb); have n1_ := Aside0.mk (Kd.R_below (by (with_reducible repeat (first | apply Kd.R_alloc | apply Kd.R_drewN | apply Kd.R_drew)); exact HO_30.out) hb); have n2_ := Aside0.mk (blk_below (g := gb517) (o := .cells #[.int .i64 t514, .int .i64 t515] 25 (0, 0)) (by (with_reducible repeat (first | refine blk_drewN ?_ _ | refine blk_drew ?_ | refine blk_alloc ?_ _)); exact BK517.out) hb); have n3_ := Aside0.mk (blk_below (g := gb521) (o := .cells #[.int .i64 t518, .int .i64 t519] 25 (0, 0)) (by (with_reducible repeat (first | refine blk_drewN ?_ _ | refine blk_drew ?_ | refine blk_alloc ?_ _)); exact BK521.out) hb); have n4_ := Aside0.mk (below_step (by repeat (first | (with_reducible first | exact HB.out | apply below_alloc | apply pw_below_drewN | apply below_drew1 | refine below_set ?_ GE517.out | refine below_set ?_ GE521.out) | exact HB.out)) hb); have n5_ := Aside0.mk (hbox); have n6_ := Aside0.mk ((by rw [hg]; exact (below_size (by repeat (first | (with_reducible first | exact HB.out | apply below_alloc | apply pw_below_drewN | apply below_drew1 | refine below_set ?_ GE517.out | refine below_set ?_ GE521.out) | exact HB.out))) : w.heap.size ≤ gb525)); have n7_ := Aside0.mk ((by rw [hg]; exact (below_size (by repeat (first | (with_reducible first | exact HB.out | apply below_alloc | apply pw_below_drewN | apply below_drew1 | refine below_set ?_ GE517.out | refine below_set ?_ GE521.out) | exact HB.out))) : w.heap.size ≤ gb525)); have n8_ := Aside0.mk ((by rw [hg]; exact Nat.ne_of_lt (blk_lt (g := gb517) (o := .cells #[.int .i64 t514, .int .i64 t515] 25 (0, 0)) (by (with_reducible repeat (first | refine blk_drewN ?_ _ | refine blk_drew ?_ | refine blk_alloc ?_ _)); exact BK517.out)) : gb517 ≠ gb525)); have n9_ := Aside0.mk ((by rw [hg]; exact Nat.ne_of_gt (blk_lt (g := gb517) (o := .cells #[.int .i64 t514, .int .i64 t515] 25 (0, 0)) (by (with_reducible repeat (first | refine blk_drewN ?_ _ | refine blk_drew ?_ | refine blk_alloc ?_ _)); exact BK517.out)) : gb525 ≠ gb517)); have n10_ := Aside0.mk ((by rw [hg]; exact Nat.ne_of_lt (blk_lt (g := gb521) (o := .cells #[.int .i64 t518, .int .i64 t519] 25 (0, 0)) (by (with_reducible repeat (first | refine blk_drewN ?_ _ | refine blk_drew ?_ | refine blk_alloc ?_ _)); exact BK521.out)) : gb521 ≠ gb525)); have n11_ := Aside0.mk ((by rw [hg]; exact Nat.ne_of_gt (blk_lt (g := gb521) (o := .cells #[.int .i64 t518, .int .i64 t519] 25 (0, 0)) (by (with_reducible repeat (first | refine blk_drewN ?_ _ | refine blk_drew ?_ | refine blk_alloc ?_ _)); exact BK521.out)) : gb525 ≠ gb521)); clear HO_27; clear HO_30; clear BK517; clear BK521; clear HB; have HO_27 := n0_; have HO_30 := n1_; have BK517 := n2_; have BK521 := n3_; have HB := n4_; have BK525 := n5_; have GW525 := n6_; have GE525 := n7_; have NB517_525 := n8_; have NB525_517 := n9_; have NB521_525 := n10_; have NB525_521 := n11_; clear n0_ n1_ n2_ n3_ n4_ n5_ n6_ n7_ n8_ n9_ n10_ n11_; clear hb hbox hg; have hnb101 := NB525_517.out; have hnc101 := NB517_525.out; have hnb102 := NB525_521.out; have hnc102 := NB521_525.out; have hcz103_0 : w100.cell? ⟨gb525, 0, none⟩ = some (.int .i64 0) := (blk_cell BK525.out 0).trans rfl; have hcz103_1 : w100.cell? ⟨gb525, 1, none⟩ = some (.int .i64 0) := (blk_cell BK525.out 1).trans rfl; have hfz103_0 := blk_frozen BK525.out 0; have hfz103_1 := blk_frozen BK525.out 1)))
                (try simp only [Act.put, List.setIfInBounds_toArray, List.set_cons_zero, List.set_cons_succ])
                go_cut [214] (fun v214 wc => ∃ (kq : Nat) (x214_96 : Bool), v214 = .bool x214_96 ∧ Aside0 (law_CurveSame.j6 kq a2 a5 a6 t510 t509 x214_96 t514 t515 = some r) ∧ Aside0 (kq ≤ kj70) ∧ Aside0 (Kd.R k57 57 wc w.heap.size (fun _ => True) v511 t509) ∧ Aside0 (wc.heap[gb517]? = some (.cells #[.int .i64 t514, .int .i64 t515] 25 (0, 0))) ∧ Aside0 (wc.heap[gb521]? = some (.cells #[.int .i64 t518, .int .i64 t519] 25 (0, 0))) ∧ Aside0 (wc.heap[gb525]? = some (.cells #[.int .i64 t522, .int .i64 t523] 25 (0, 0))) ∧ Aside0 (Below w.heap.size w wc))
                case first => as_aux_lemma =>
                 have H := HC97.out
                 clear HC97
                 by_cases c104 : t524 = 0
                 ·
                  rw [if_pos c104] at H
                  have c104b0 : (t524 == 0) = true := beq_iff_eq.mpr c104
                  have c104b1 : (t524 != 0) = false := bne_eq_false_iff_eq.mpr c104
                  clear c104
                  (first | rw [c104b0] | (simp only [i64_w, i32_w]; rw [c104b0]) | skip)
                  by_cases c105 : t523 = t515
                  ·
                   rw [if_pos c105] at H
                   have c105b0 : (t523 == t515) = true := beq_iff_eq.mpr c105
                   have c105b1 : (t523 != t515) = false := bne_eq_false_iff_eq.mpr c105
                   clear c105
                   have H' := Aside0.mk H
                   clear H
                   have hnb106 := NB525_517.out
                   have hnc106 := NB517_525.out
                   have hnb107 := NB525_521.out
                   have hnc107 := NB521_525.out
                   have hcz108_0 : w100.cell? ⟨gb525, 0, none⟩ = some (.int .i64 0) := (blk_cell BK525.out 0).trans rfl
                   have hcz108_1 : w100.cell? ⟨gb525, 1, none⟩ = some (.int .i64 0) := (blk_cell BK525.out 1).trans rfl
                   have hfz108_0 := blk_frozen BK525.out 0
                   have hfz108_1 := blk_frozen BK525.out 1
                   have hnb109 := NB517_521.out
                   have hnc109 := NB521_517.out
                   have hcz110_0 : w100.cell? ⟨gb517, 0, none⟩ = some (.int .i64 t514) := (blk_cell BK517.out 0).trans rfl
                   have hcz110_1 : w100.cell? ⟨gb517, 1, none⟩ = some (.int .i64 t515) := (blk_cell BK517.out 1).trans rfl
                   have hfz110_0 := blk_frozen BK517.out 0
                   have hfz110_1 := blk_frozen BK517.out 1
                   go_wp2
                   repeat (go_quiet (fail); try go_wp2)
                   go_meet
                   case rel => exact ⟨_, ((t522 != (wrap64 (t514 + (wrap64 (a4 * t515)))))), (by first | rfl | (simp; done) | (simp [*]; done)), H', ⟨by have := HJ13.out; have := HJ25.out; have := HJ54.out; have := HJ70.out; first | omega | exact Nat.le_refl _⟩, ⟨by (with_reducible repeat (first | apply Kd.R_alloc | apply Kd.R_drewN | apply Kd.R_drew)); exact Kd.R_mono (Kd.R_far (p := ⟨gb525, 1, none⟩) (Kd.R_far (p := ⟨gb525, 0, none⟩) (Kd.R_types HO_30.out BK525.out (by decide)) (fun _ hk => hk.2) (.int .i64 t522)) (fun _ hk => hk.2) (.int .i64 t523)) (fun _ hk => trivial)⟩, ⟨by (with_reducible repeat (first | refine blk_drewN ?_ _ | refine blk_drew ?_ | refine blk_alloc ?_ _)); refine blk_far ?_ NB517_525.out _; (with_reducible repeat (first | refine blk_drewN ?_ _ | refine blk_drew ?_ | refine blk_alloc ?_ _)); refine blk_far ?_ NB517_525.out _; (with_reducible repeat (first | refine blk_drewN ?_ _ | refine blk_drew ?_ | refine blk_alloc ?_ _)); exact BK517.out⟩, ⟨by (with_reducible repeat (first | refine blk_drewN ?_ _ | refine blk_drew ?_ | refine blk_alloc ?_ _)); refine blk_far ?_ NB521_525.out _; (with_reducible repeat (first | refine blk_drewN ?_ _ | refine blk_drew ?_ | refine blk_alloc ?_ _)); refine blk_far ?_ NB521_525.out _; (with_reducible repeat (first | refine blk_drewN ?_ _ | refine blk_drew ?_ | refine blk_alloc ?_ _)); exact BK521.out⟩, ⟨by (with_reducible repeat (first | refine blk_drewN ?_ _ | refine blk_drew ?_ | refine blk_alloc ?_ _)); refine blk_put (cs := #[.int .i64 t522, .int .i64 0]) ?_ 1 _ rfl; (with_reducible repeat (first | refine blk_drewN ?_ _ | refine blk_drew ?_ | refine blk_alloc ?_ _)); refine blk_put (cs := #[.int .i64 0, .int .i64 0]) ?_ 0 _ rfl; (with_reducible repeat (first | refine blk_drewN ?_ _ | refine blk_drew ?_ | refine blk_alloc ?_ _)); exact BK525.out⟩, ⟨by repeat (first | (with_reducible first | exact HB.out | apply below_alloc | apply pw_below_drewN | apply below_drew1 | refine below_set ?_ GE517.out | refine below_set ?_ GE521.out | refine below_set ?_ GE525.out) | exact HB.out)⟩⟩
                  ·
                   rw [if_neg c105] at H
                   have c105b0 : (t523 == t515) = false := beq_eq_false_iff_ne.mpr c105
                   have c105b1 : (t523 != t515) = true := bne_iff_ne.mpr c105
                   have H' := Aside0.mk H
                   clear H
                   have hnb111 := NB525_517.out
                   have hnc111 := NB517_525.out
                   have hnb112 := NB525_521.out
                   have hnc112 := NB521_525.out
                   have hcz113_0 : w100.cell? ⟨gb525, 0, none⟩ = some (.int .i64 0) := (blk_cell BK525.out 0).trans rfl
                   have hcz113_1 : w100.cell? ⟨gb525, 1, none⟩ = some (.int .i64 0) := (blk_cell BK525.out 1).trans rfl
                   have hfz113_0 := blk_frozen BK525.out 0
                   have hfz113_1 := blk_frozen BK525.out 1
                   have hnb114 := NB517_521.out
                   have hnc114 := NB521_517.out
                   have hcz115_0 : w100.cell? ⟨gb517, 0, none⟩ = some (.int .i64 t514) := (blk_cell BK517.out 0).trans rfl
                   have hcz115_1 : w100.cell? ⟨gb517, 1, none⟩ = some (.int .i64 t515) := (blk_cell BK517.out 1).trans rfl
                   have hfz115_0 := blk_frozen BK517.out 0
                   have hfz115_1 := blk_frozen BK517.out 1
                   go_wp2
                   repeat (go_quiet (fail); try go_wp2)
                   go_meet
                   case rel => exact ⟨_, (true), (by first | rfl | (simp; done) | (simp [*]; done)), H', ⟨by have := HJ13.out; have := HJ25.out; have := HJ54.out; have := HJ70.out; first | omega | exact Nat.le_refl _⟩, ⟨by (with_reducible repeat (first | apply Kd.R_alloc | apply Kd.R_drewN | apply Kd.R_drew)); exact Kd.R_mono (Kd.R_far (p := ⟨gb525, 1, none⟩) (Kd.R_far (p := ⟨gb525, 0, none⟩) (Kd.R_types HO_30.out BK525.out (by decide)) (fun _ hk => hk.2) (.int .i64 t522)) (fun _ hk => hk.2) (.int .i64 t523)) (fun _ hk => trivial)⟩, ⟨by (with_reducible repeat (first | refine blk_drewN ?_ _ | refine blk_drew ?_ | refine blk_alloc ?_ _)); refine blk_far ?_ NB517_525.out _; (with_reducible repeat (first | refine blk_drewN ?_ _ | refine blk_drew ?_ | refine blk_alloc ?_ _)); refine blk_far ?_ NB517_525.out _; (with_reducible repeat (first | refine blk_drewN ?_ _ | refine blk_drew ?_ | refine blk_alloc ?_ _)); exact BK517.out⟩, ⟨by (with_reducible repeat (first | refine blk_drewN ?_ _ | refine blk_drew ?_ | refine blk_alloc ?_ _)); refine blk_far ?_ NB521_525.out _; (with_reducible repeat (first | refine blk_drewN ?_ _ | refine blk_drew ?_ | refine blk_alloc ?_ _)); refine blk_far ?_ NB521_525.out _; (with_reducible repeat (first | refine blk_drewN ?_ _ | refine blk_drew ?_ | refine blk_alloc ?_ _)); exact BK521.out⟩, ⟨by (with_reducible repeat (first | refine blk_drewN ?_ _ | refine blk_drew ?_ | refine blk_alloc ?_ _)); refine blk_put (cs := #[.int .i64 t522, .int .i64 0]) ?_ 1 _ rfl; (with_reducible repeat (first | refine blk_drewN ?_ _ | refine blk_drew ?_ | refine blk_alloc ?_ _)); refine blk_put (cs := #[.int .i64 0, .int .i64 0]) ?_ 0 _ rfl; (with_reducible repeat (first | refine blk_drewN ?_ _ | refine blk_drew ?_ | refine blk_alloc ?_ _)); exact BK525.out⟩, ⟨by repeat (first | (with_reducible first | exact HB.out | apply below_alloc | apply pw_below_drewN | apply below_drew1 | refine below_set ?_ GE517.out | refine below_set ?_ GE521.out | refine below_set ?_ GE525.out) | exact HB.out)⟩⟩
                 ·
                  rw [if_neg c104] at H
                  have c104b0 : (t524 == 0) = false := beq_eq_false_iff_ne.mpr c104
                  have c104b1 : (t524 != 0) = true := bne_iff_ne.mpr c104
                  (first | rw [c104b0] | (simp only [i64_w, i32_w]; rw [c104b0]) | skip)
                  have H' := Aside0.mk H
                  clear H
                  go_wp2
                  repeat (go_quiet (fail); try go_wp2)
                  go_meet
                  case rel => exact ⟨_, (true), (by first | rfl | (simp; done) | (simp [*]; done)), H', ⟨by have := HJ13.out; have := HJ25.out; have := HJ54.out; have := HJ70.out; first | omega | exact Nat.le_refl _⟩, ⟨by (with_reducible repeat (first | apply Kd.R_alloc | apply Kd.R_drewN | apply Kd.R_drew)); exact Kd.R_mono (Kd.R_far (p := ⟨gb525, 1, none⟩) (Kd.R_far (p := ⟨gb525, 0, none⟩) (Kd.R_types HO_30.out BK525.out (by decide)) (fun _ hk => hk.2) (.int .i64 t522)) (fun _ hk => hk.2) (.int .i64 t523)) (fun _ hk => trivial)⟩, ⟨by (with_reducible repeat (first | refine blk_drewN ?_ _ | refine blk_drew ?_ | refine blk_alloc ?_ _)); refine blk_far ?_ NB517_525.out _; (with_reducible repeat (first | refine blk_drewN ?_ _ | refine blk_drew ?_ | refine blk_alloc ?_ _)); refine blk_far ?_ NB517_525.out _; (with_reducible repeat (first | refine blk_drewN ?_ _ | refine blk_drew ?_ | refine blk_alloc ?_ _)); exact BK517.out⟩, ⟨by (with_reducible repeat (first | refine blk_drewN ?_ _ | refine blk_drew ?_ | refine blk_alloc ?_ _)); refine blk_far ?_ NB521_525.out _; (with_reducible repeat (first | refine blk_drewN ?_ _ | refine blk_drew ?_ | refine blk_alloc ?_ _)); refine blk_far ?_ NB521_525.out _; (with_reducible repeat (first | refine blk_drewN ?_ _ | refine blk_drew ?_ | refine blk_alloc ?_ _)); exact BK521.out⟩, ⟨by (with_reducible repeat (first | refine blk_drewN ?_ _ | refine blk_drew ?_ | refine blk_alloc ?_ _)); refine blk_put (cs := #[.int .i64 t522, .int .i64 0]) ?_ 1 _ rfl; (with_reducible repeat (first | refine blk_drewN ?_ _ | refine blk_drew ?_ | refine blk_alloc ?_ _)); refine blk_put (cs := #[.int .i64 0, .int .i64 0]) ?_ 0 _ rfl; (with_reducible repeat (first | refine blk_drewN ?_ _ | refine blk_drew ?_ | refine blk_alloc ?_ _)); exact BK525.out⟩, ⟨by repeat (first | (with_reducible first | exact HB.out | apply below_alloc | apply pw_below_drewN | apply below_drew1 | refine below_set ?_ GE517.out | refine below_set ?_ GE521.out | refine below_set ?_ GE525.out) | exact HB.out)⟩⟩
                case rest => as_aux_lemma =>
                 clear HC97
                 try clear c1
                 try clear c2
                 try clear p2
                 try clear c3
                 try clear c4
                 try clear c5
                 try clear c6
                 try clear p6
                 try clear c7
                 try clear c8
                 try clear c9
                 try clear c10
                 try clear c11
                 try clear c19
                 try clear c19b0
                 try clear c19b1
                 try clear c20
                 try clear c20b0
                 try clear c20b1
                 try clear c23
                 try clear c28
                 try clear c28b0
                 try clear c28b1
                 try clear c31
                 try clear c31b0
                 try clear c31b1
                 try clear c34
                 try clear c34b0
                 try clear c34b1
                 try clear c48
                 try clear c48b0
                 try clear c48b1
                 try clear c49
                 try clear c49b0
                 try clear c49b1
                 try clear c52
                 try clear c57
                 try clear c57b0
                 try clear c57b1
                 try clear c62
                 try clear c62b0
                 try clear c62b1
                 try clear p64
                 try clear c65
                 try clear c68
                 try clear c78
                 try clear c80
                 try clear c80b0
                 try clear c80b1
                 try clear c81
                 try clear c81b0
                 try clear c81b1
                 try clear c82
                 try clear c82b0
                 try clear c83
                 try clear c86
                 try clear c86b0
                 try clear c87
                 try clear c90
                 try clear c93
                 try clear c95
                 try clear c95b0
                 try clear c95b1
                 try clear c101
                 try clear c102
                 try clear c104
                 try clear c104b0
                 try clear c104b1
                 try clear c105
                 try clear c105b0
                 try clear c105b1
                 try clear c106
                 try clear c107
                 try clear c109
                 try clear c111
                 try clear c112
                 try clear c114
                 try clear hcz103_0
                 try clear hcz103_1
                 try clear hcz108_0
                 try clear hcz108_1
                 try clear hcz110_0
                 try clear hcz110_1
                 try clear hcz113_0
                 try clear hcz113_1
                 try clear hcz115_0
                 try clear hcz115_1
                 try clear hcz75_0
                 try clear hcz75_1
                 try clear hcz79_0
                 try clear hcz79_1
                 try clear hcz84_0
                 try clear hcz84_1
                 try clear hcz85_0
                 try clear hcz85_1
                 try clear hcz88_0
                 try clear hcz88_1
                 try clear hcz89_0
                 try clear hcz89_1
                 try clear hcz91_0
                 try clear hcz91_1
                 try clear hcz92_0
                 try clear hcz92_1
                 try clear hfz103_0
                 try clear hfz103_1
                 try clear hfz108_0
                 try clear hfz108_1
                 try clear hfz110_0
                 try clear hfz110_1
                 try clear hfz113_0
                 try clear hfz113_1
                 try clear hfz115_0
                 try clear hfz115_1
                 try clear hfz75_0
                 try clear hfz75_1
                 try clear hfz79_0
                 try clear hfz79_1
                 try clear hfz84_0
                 try clear hfz84_1
                 try clear hfz85_0
                 try clear hfz85_1
                 try clear hfz88_0
                 try clear hfz88_1
                 try clear hfz89_0
                 try clear hfz89_1
                 try clear hfz91_0
                 try clear hfz91_1
                 try clear hfz92_0
                 try clear hfz92_1
                 try clear p2
                 try clear p6
                 try clear p64
                 obtain ⟨kq, x214_96, rfl, HA, HJ96, HO_30, BK517, BK521, BK525, HB⟩ := hcut
                 cases kq with
                 | zero => exact absurd HA.out (by simp [law_CurveSame.j6])
                 | succ kj96 =>
                  have H := HA.out
                  clear HA
                  simp only [law_CurveSame.j6] at H
                  by_cases c116 : x214_96 = true
                  ·
                   subst c116
                   have H1 : (some false) = some r := by rw [if_pos rfl] at H; exact H
                   clear H
                   have H := H1
                   clear H1
                   obtain rfl := Option.some.inj H
                   go_wp2
                   repeat (go_quiet (fail); try go_wp2)
                   go_ret
                   exact ⟨by first | rfl | (simp [errW_none, errW_some] <;> rfl) | (simp [*, errW_none, errW_some] <;> rfl), by repeat (first | (with_reducible first | exact HB.out | apply below_alloc | apply pw_below_drewN | apply below_drew1 | refine below_set ?_ GE517.out | refine below_set ?_ GE521.out | refine below_set ?_ GE525.out) | exact HB.out)⟩
                  ·
                   replace c116 := Bool.eq_false_iff.mpr c116
                   subst c116
                   have H1 : (law_CurveSame.j7 kj96 a2 a5 a6 t510 t509 t514 t515) = some r := by rw [if_neg (show ¬ (false = true) by decide)] at H; exact H
                   clear H
                   have H := H1
                   clear H1
                   have H' := Aside0.mk H
                   clear H
                   go_wp2
                   repeat (go_quiet (fail); try go_wp2)
                   go_meet
                   case rel => exact ⟨_, H', ⟨by have := HJ13.out; have := HJ25.out; have := HJ54.out; have := HJ70.out; have := HJ96.out; first | omega | exact Nat.le_refl _⟩, ⟨by (with_reducible repeat (first | apply Kd.R_alloc | apply Kd.R_drewN | apply Kd.R_drew)); exact HO_30.out⟩, ⟨by (with_reducible repeat (first | refine blk_drewN ?_ _ | refine blk_drew ?_ | refine blk_alloc ?_ _)); exact BK517.out⟩, ⟨by (with_reducible repeat (first | refine blk_drewN ?_ _ | refine blk_drew ?_ | refine blk_alloc ?_ _)); exact BK521.out⟩, ⟨by repeat (first | (with_reducible first | exact HB.out | apply below_alloc | apply pw_below_drewN | apply below_drew1 | refine below_set ?_ GE517.out | refine below_set ?_ GE521.out | refine below_set ?_ GE525.out) | exact HB.out)⟩⟩
               ·
                rw [if_neg c95] at H
                have c95b0 : (t501 == 0) = false := beq_eq_false_iff_ne.mpr c95
                have c95b1 : (t501 != 0) = true := bne_iff_ne.mpr c95
                (first | rw [c95b0] | (simp only [i64_w, i32_w]; rw [c95b0]) | skip)
                have H' := Aside0.mk H
                clear H
                go_wp2
                repeat (go_quiet (fail); try go_wp2)
                go_meet
                case rel => exact ⟨_, H', ⟨by have := HJ13.out; have := HJ25.out; have := HJ54.out; have := HJ70.out; first | omega | exact Nat.le_refl _⟩, ⟨by (with_reducible repeat (first | apply Kd.R_alloc | apply Kd.R_drewN | apply Kd.R_drew)); exact Kd.R_mono HO_30.out (fun _ hk => trivial)⟩, ⟨by (with_reducible repeat (first | refine blk_drewN ?_ _ | refine blk_drew ?_ | refine blk_alloc ?_ _)); exact BK517.out⟩, ⟨by (with_reducible repeat (first | refine blk_drewN ?_ _ | refine blk_drew ?_ | refine blk_alloc ?_ _)); exact BK521.out⟩, ⟨by repeat (first | (with_reducible first | exact HB.out | apply below_alloc | apply pw_below_drewN | apply below_drew1 | refine below_set ?_ GE517.out | refine below_set ?_ GE521.out) | exact HB.out)⟩⟩
              case rest => as_aux_lemma =>
               clear HC94
               try clear c1
               try clear c2
               try clear p2
               try clear c3
               try clear c4
               try clear c5
               try clear c6
               try clear p6
               try clear c7
               try clear c8
               try clear c9
               try clear c10
               try clear c11
               try clear c19
               try clear c19b0
               try clear c19b1
               try clear c20
               try clear c20b0
               try clear c20b1
               try clear c23
               try clear c28
               try clear c28b0
               try clear c28b1
               try clear c31
               try clear c31b0
               try clear c31b1
               try clear c34
               try clear c34b0
               try clear c34b1
               try clear c48
               try clear c48b0
               try clear c48b1
               try clear c49
               try clear c49b0
               try clear c49b1
               try clear c52
               try clear c57
               try clear c57b0
               try clear c57b1
               try clear c62
               try clear c62b0
               try clear c62b1
               try clear p64
               try clear c65
               try clear c68
               try clear c78
               try clear c80
               try clear c80b0
               try clear c80b1
               try clear c81
               try clear c81b0
               try clear c81b1
               try clear c82
               try clear c82b0
               try clear c83
               try clear c86
               try clear c86b0
               try clear c87
               try clear c90
               try clear c93
               try clear c95
               try clear c95b0
               try clear c95b1
               try clear c101
               try clear c102
               try clear c104
               try clear c104b0
               try clear c104b1
               try clear c105
               try clear c105b0
               try clear c105b1
               try clear c106
               try clear c107
               try clear c109
               try clear c111
               try clear c112
               try clear c114
               try clear c116
               try clear hcz103_0
               try clear hcz103_1
               try clear hcz108_0
               try clear hcz108_1
               try clear hcz110_0
               try clear hcz110_1
               try clear hcz113_0
               try clear hcz113_1
               try clear hcz115_0
               try clear hcz115_1
               try clear hcz75_0
               try clear hcz75_1
               try clear hcz79_0
               try clear hcz79_1
               try clear hcz84_0
               try clear hcz84_1
               try clear hcz85_0
               try clear hcz85_1
               try clear hcz88_0
               try clear hcz88_1
               try clear hcz89_0
               try clear hcz89_1
               try clear hcz91_0
               try clear hcz91_1
               try clear hcz92_0
               try clear hcz92_1
               try clear hfz103_0
               try clear hfz103_1
               try clear hfz108_0
               try clear hfz108_1
               try clear hfz110_0
               try clear hfz110_1
               try clear hfz113_0
               try clear hfz113_1
               try clear hfz115_0
               try clear hfz115_1
               try clear hfz75_0
               try clear hfz75_1
               try clear hfz79_0
               try clear hfz79_1
               try clear hfz84_0
               try clear hfz84_1
               try clear hfz85_0
               try clear hfz85_1
               try clear hfz88_0
               try clear hfz88_1
               try clear hfz89_0
               try clear hfz89_1
               try clear hfz91_0
               try clear hfz91_1
               try clear hfz92_0
               try clear hfz92_1
               try clear p2
               try clear p6
               try clear p64
               obtain ⟨kq, HA, HJ93, HO_30, BK517, BK521, HB⟩ := hcut
               cases kq with
               | zero => exact absurd HA.out (by simp [law_CurveSame.j7])
               | succ kj93 =>
                have H := HA.out
                clear HA
                simp only [law_CurveSame.j7] at H
                by_cases c117 : t510 = 0
                ·
                 rw [if_pos c117] at H
                 have c117b0 : (t510 == 0) = true := beq_iff_eq.mpr c117
                 have c117b1 : (t510 != 0) = false := bne_eq_false_iff_eq.mpr c117
                 clear c117
                 replace H := Option.bind_eq_some_iff.mp H
                 obtain ⟨⟨t526, t527, t528⟩, A1180, H⟩ := H
                 replace H : (if t528 = 0 then (if t527 < 1 then (law_CurveSame.j8 kj93 true) else (if t527 = 0 then (none) else (if (Int.tmod t515 t527) = 0 then (law_CurveSame.j8 kj93 ((wrap64 (t526 * (wrap64 (Int.tdiv t515 t527)))) != (wrap64 (t514 * a6)))) else (law_CurveSame.j8 kj93 true)))) else (law_CurveSame.j8 kj93 true)) = some r := H
                 have A118 := Aside0.mk A1180
                 clear A1180
                 have HC119 := Aside0.mk H
                 clear H
                 obtain ⟨Ao120, co120, eo120⟩ := Kd.R_slice HO_30.out
                 subst eo120
                 go_upto_region 37 with (first | (go_at_call 22; (with_reducible refine (curve_Exact.calls kj93 _ _ t509 (wrap64 (a2 * a5)) t526 t527 t528 _ ?side1 ?side2 A118.out).mono ?_); (case side1 => repeat (first | exact (Kd.R_reads' HO_30.out).2.2 | (with_reducible refine Kd.C_alloc ?_ _) | (with_reducible refine Kd.C_drewN ?_ _) | (with_reducible refine Kd.C_drew ?_))); (case side2 => exact (Kd.R_reads' HO_30.out).2.1); rintro e w121 ⟨rfl, hb⟩; have n0_ := Aside0.mk (Kd.R_below (by (with_reducible repeat (first | apply Kd.R_alloc | apply Kd.R_drewN | apply Kd.R_drew)); exact HO_30.out) hb); have n1_ := Aside0.mk (blk_below (g := gb517) (o := .cells #[.int .i64 t514, .int .i64 t515] 25 (0, 0)) (by (with_reducible repeat (first | refine blk_drewN ?_ _ | refine blk_drew ?_ | refine blk_alloc ?_ _)); exact BK517.out) hb); have n2_ := Aside0.mk (blk_below (g := gb521) (o := .cells #[.int .i64 t518, .int .i64 t519] 25 (0, 0)) (by (with_reducible repeat (first | refine blk_drewN ?_ _ | refine blk_drew ?_ | refine blk_alloc ?_ _)); exact BK521.out) hb); have n3_ := Aside0.mk (below_step (by repeat (first | (with_reducible first | exact HB.out | apply below_alloc | apply pw_below_drewN | apply below_drew1 | refine below_set ?_ GE517.out | refine below_set ?_ GE521.out) | exact HB.out)) hb); clear HO_30; clear BK517; clear BK521; clear HB; have HO_30 := n0_; have BK517 := n1_; have BK521 := n2_; have HB := n3_; clear n0_ n1_ n2_ n3_; (try clear hb); (try clear hb2); (try clear hk); (try clear hi)) | ((with_reducible refine gate_dst (N := 37) rfl ?_); refine box_event ?hg (N := 37) ?hd (cs := #[.int .i64 0, .int .i64 0]) (t := 25) ?hr ?_; (case hd => rfl); (case hg => rfl); (case hr => first | (go_simp; done) | (go_simp; rfl)); intro gb529 hg w122 hbox hb; have n0_ := Aside0.mk (Kd.R_below (by (with_reducible repeat (first | apply Kd.R_alloc | apply Kd.R_drewN | apply Kd.R_drew)); exact HO_30.out) hb); have n1_ := Aside0.mk (blk_below (g := gb517) (o := .cells #[.int .i64 t514, .int .i64 t515] 25 (0, 0)) (by (with_reducible repeat (first | refine blk_drewN ?_ _ | refine blk_drew ?_ | refine blk_alloc ?_ _)); exact BK517.out) hb); have n2_ := Aside0.mk (blk_below (g := gb521) (o := .cells #[.int .i64 t518, .int .i64 t519] 25 (0, 0)) (by (with_reducible repeat (first | refine blk_drewN ?_ _ | refine blk_drew ?_ | refine blk_alloc ?_ _)); exact BK521.out) hb); have n3_ := Aside0.mk (below_step (by repeat (first | (with_reducible first | exact HB.out | apply below_alloc | apply pw_below_drewN | apply below_drew1 | refine below_set ?_ GE517.out | refine below_set ?_ GE521.out) | exact HB.out)) hb); have n4_ := Aside0.mk (hbox); have n5_ := Aside0.mk ((by rw [hg]; exact (below_size (by repeat (first | (with_reducible first | exact HB.out | apply below_alloc | apply pw_below_drewN | apply below_drew1 | refine below_set ?_ GE517.out | refine below_set ?_ GE521.out) | exact HB.out))) : w.heap.size ≤ gb529)); have n6_ := Aside0.mk ((by rw [hg]; exact (below_size (by repeat (first | (with_reducible first | exact HB.out | apply below_alloc | apply pw_below_drewN | apply below_drew1 | refine below_set ?_ GE517.out | refine below_set ?_ GE521.out) | exact HB.out))) : w.heap.size ≤ gb529)); have n7_ := Aside0.mk ((by rw [hg]; exact Nat.ne_of_lt (blk_lt (g := gb517) (o := .cells #[.int .i64 t514, .int .i64 t515] 25 (0, 0)) (by (with_reducible repeat (first | refine blk_drewN ?_ _ | refine blk_drew ?_ | refine blk_alloc ?_ _)); exact BK517.out)) : gb517 ≠ gb529)); have n8_ := Aside0.mk ((by rw [hg]; exact Nat.ne_of_gt (blk_lt (g := gb517) (o := .cells #[.int .i64 t514, .int .i64 t515] 25 (0, 0)) (by (with_reducible repeat (first | refine blk_drewN ?_ _ | refine blk_drew ?_ | refine blk_alloc ?_ _)); exact BK517.out)) : gb529 ≠ gb517)); have n9_ := Aside0.mk ((by rw [hg]; exact Nat.ne_of_lt (blk_lt (g := gb521) (o := .cells #[.int .i64 t518, .int .i64 t519] 25 (0, 0)) (by (with_reducible repeat (first | refine blk_drewN ?_ _ | refine blk_drew ?_ | refine blk_alloc ?_ _)); exact BK521.out)) : gb521 ≠ gb529)); have n10_ := Aside0.mk ((by rw [hg]; exact Nat.ne_of_gt (blk_lt (g := gb521) (o := .cells #[.int .i64 t518, .int .i64 t519] 25 (0, 0)) (by (with_reducible repeat (first | refine blk_drewN ?_ _ | refine blk_drew ?_ | refine blk_alloc ?_ _)); exact BK521.out)) : gb529 ≠ gb521)); clear HO_30; clear BK517; clear BK521; clear HB; have HO_30 := n0_; have BK517 := n1_; have BK521 := n2_; have HB := n3_; have BK529 := n4_; have GW529 := n5_; have GE529 := n6_; have NB517_529 := n7_; have NB529_517 := n8_; have NB521_529 := n9_; have NB529_521 := n10_; clear n0_ n1_ n2_ n3_ n4_ n5_ n6_ n7_ n8_ n9_ n10_; clear hb hbox hg; have hnb123 := NB529_517.out; have hnc123 := NB517_529.out; have hnb124 := NB529_521.out; have hnc124 := NB521_529.out; have hcz125_0 : w122.cell? ⟨gb529, 0, none⟩ = some (.int .i64 0) := (blk_cell BK529.out 0).trans rfl; have hcz125_1 : w122.cell? ⟨gb529, 1, none⟩ = some (.int .i64 0) := (blk_cell BK529.out 1).trans rfl; have hfz125_0 := blk_frozen BK529.out 0; have hfz125_1 := blk_frozen BK529.out 1))
                 repeat (go_quiet (first | (go_at_call 22; (with_reducible refine (curve_Exact.calls kj93 _ _ t509 (wrap64 (a2 * a5)) t526 t527 t528 _ ?side1 ?side2 A118.out).mono ?_); (case side1 => repeat (first | exact (Kd.R_reads' HO_30.out).2.2 | (with_reducible refine Kd.C_alloc ?_ _) | (with_reducible refine Kd.C_drewN ?_ _) | (with_reducible refine Kd.C_drew ?_))); (case side2 => exact (Kd.R_reads' HO_30.out).2.1); rintro e w121 ⟨rfl, hb⟩; have n0_ := Aside0.mk (Kd.R_below (by (with_reducible repeat (first | apply Kd.R_alloc | apply Kd.R_drewN | apply Kd.R_drew)); exact HO_30.out) hb); have n1_ := Aside0.mk (blk_below (g := gb517) (o := .cells #[.int .i64 t514, .int .i64 t515] 25 (0, 0)) (by (with_reducible repeat (first | refine blk_drewN ?_ _ | refine blk_drew ?_ | refine blk_alloc ?_ _)); exact BK517.out) hb); have n2_ := Aside0.mk (blk_below (g := gb521) (o := .cells #[.int .i64 t518, .int .i64 t519] 25 (0, 0)) (by (with_reducible repeat (first | refine blk_drewN ?_ _ | refine blk_drew ?_ | refine blk_alloc ?_ _)); exact BK521.out) hb); have n3_ := Aside0.mk (below_step (by repeat (first | (with_reducible first | exact HB.out | apply below_alloc | apply pw_below_drewN | apply below_drew1 | refine below_set ?_ GE517.out | refine below_set ?_ GE521.out) | exact HB.out)) hb); clear HO_30; clear BK517; clear BK521; clear HB; have HO_30 := n0_; have BK517 := n1_; have BK521 := n2_; have HB := n3_; clear n0_ n1_ n2_ n3_; (try clear hb); (try clear hb2); (try clear hk); (try clear hi)) | ((with_reducible refine gate_dst (N := 37) rfl ?_); refine box_event ?hg (N := 37) ?hd (cs := #[.int .i64 0, .int .i64 0]) (t := 25) ?hr ?_; (case hd => rfl); (case hg => rfl); (case hr => first | (go_simp; done) | (go_simp; rfl)); intro gb529 hg w122 hbox hb; have n0_ := Aside0.mk (Kd.R_below (by (with_reducible repeat (first | apply Kd.R_alloc | apply Kd.R_drewN | apply Kd.R_drew)); exact HO_30.out) hb); have n1_ := Aside0.mk (blk_below (g := gb517) (o := .cells #[.int .i64 t514, .int .i64 t515] 25 (0, 0)) (by (with_reducible repeat (first | refine blk_drewN ?_ _ | refine blk_drew ?_ | refine blk_alloc ?_ _)); exact BK517.out) hb); have n2_ := Aside0.mk (blk_below (g := gb521) (o := .cells #[.int .i64 t518, .int .i64 t519] 25 (0, 0)) (by (with_reducible repeat (first | refine blk_drewN ?_ _ | refine blk_drew ?_ | refine blk_alloc ?_ _)); exact BK521.out) hb); have n3_ := Aside0.mk (below_step (by repeat (first | (with_reducible first | exact HB.out | apply below_alloc | apply pw_below_drewN | apply below_drew1 | refine below_set ?_ GE517.out | refine below_set ?_ GE521.out) | exact HB.out)) hb); have n4_ := Aside0.mk (hbox); have n5_ := Aside0.mk ((by rw [hg]; exact (below_size (by repeat (first | (with_reducible first | exact HB.out | apply below_alloc | apply pw_below_drewN | apply below_drew1 | refine below_set ?_ GE517.out | refine below_set ?_ GE521.out) | exact HB.out))) : w.heap.size ≤ gb529)); have n6_ := Aside0.mk ((by rw [hg]; exact (below_size (by repeat (first | (with_reducible first | exact HB.out | apply below_alloc | apply pw_below_drewN | apply below_drew1 | refine below_set ?_ GE517.out | refine below_set ?_ GE521.out) | exact HB.out))) : w.heap.size ≤ gb529)); have n7_ := Aside0.mk ((by rw [hg]; exact Nat.ne_of_lt (blk_lt (g := gb517) (o := .cells #[.int .i64 t514, .int .i64 t515] 25 (0, 0)) (by (with_reducible repeat (first | refine blk_drewN ?_ _ | refine blk_drew ?_ | refine blk_alloc ?_ _)); exact BK517.out)) : gb517 ≠ gb529)); have n8_ := Aside0.mk ((by rw [hg]; exact Nat.ne_of_gt (blk_lt (g := gb517) (o := .cells #[.int .i64 t514, .int .i64 t515] 25 (0, 0)) (by (with_reducible repeat (first | refine blk_drewN ?_ _ | refine blk_drew ?_ | refine blk_alloc ?_ _)); exact BK517.out)) : gb529 ≠ gb517)); have n9_ := Aside0.mk ((by rw [hg]; exact Nat.ne_of_lt (blk_lt (g := gb521) (o := .cells #[.int .i64 t518, .int .i64 t519] 25 (0, 0)) (by (with_reducible repeat (first | refine blk_drewN ?_ _ | refine blk_drew ?_ | refine blk_alloc ?_ _)); exact BK521.out)) : gb521 ≠ gb529)); have n10_ := Aside0.mk ((by rw [hg]; exact Nat.ne_of_gt (blk_lt (g := gb521) (o := .cells #[.int .i64 t518, .int .i64 t519] 25 (0, 0)) (by (with_reducible repeat (first | refine blk_drewN ?_ _ | refine blk_drew ?_ | refine blk_alloc ?_ _)); exact BK521.out)) : gb529 ≠ gb521)); clear HO_30; clear BK517; clear BK521; clear HB; have HO_30 := n0_; have BK517 := n1_; have BK521 := n2_; have HB := n3_; have BK529 := n4_; have GW529 := n5_; have GE529 := n6_; have NB517_529 := n7_; have NB529_517 := n8_; have NB521_529 := n9_; have NB529_521 := n10_; clear n0_ n1_ n2_ n3_ n4_ n5_ n6_ n7_ n8_ n9_ n10_; clear hb hbox hg; have hnb123 := NB529_517.out; have hnc123 := NB517_529.out; have hnb124 := NB529_521.out; have hnc124 := NB521_529.out; have hcz125_0 : w122.cell? ⟨gb529, 0, none⟩ = some (.int .i64 0) := (blk_cell BK529.out 0).trans rfl; have hcz125_1 : w122.cell? ⟨gb529, 1, none⟩ = some (.int .i64 0) := (blk_cell BK529.out 1).trans rfl; have hfz125_0 := blk_frozen BK529.out 0; have hfz125_1 := blk_frozen BK529.out 1)); go_upto_region 37 with (first | (go_at_call 22; (with_reducible refine (curve_Exact.calls kj93 _ _ t509 (wrap64 (a2 * a5)) t526 t527 t528 _ ?side1 ?side2 A118.out).mono ?_); (case side1 => repeat (first | exact (Kd.R_reads' HO_30.out).2.2 | (with_reducible refine Kd.C_alloc ?_ _) | (with_reducible refine Kd.C_drewN ?_ _) | (with_reducible refine Kd.C_drew ?_))); (case side2 => exact (Kd.R_reads' HO_30.out).2.1); rintro e w121 ⟨rfl, hb⟩; have n0_ := Aside0.mk (Kd.R_below (by (with_reducible repeat (first | apply Kd.R_alloc | apply Kd.R_drewN | apply Kd.R_drew)); exact HO_30.out) hb); have n1_ := Aside0.mk (blk_below (g := gb517) (o := .cells #[.int .i64 t514, .int .i64 t515] 25 (0, 0)) (by (with_reducible repeat (first | refine blk_drewN ?_ _ | refine blk_drew ?_ | refine blk_alloc ?_ _)); exact BK517.out) hb); have n2_ := Aside0.mk (blk_below (g := gb521) (o := .cells #[.int .i64 t518, .int .i64 t519] 25 (0, 0)) (by (with_reducible repeat (first | refine blk_drewN ?_ _ | refine blk_drew ?_ | refine blk_alloc ?_ _)); exact BK521.out) hb); have n3_ := Aside0.mk (below_step (by repeat (first | (with_reducible first | exact HB.out | apply below_alloc | apply pw_below_drewN | apply below_drew1 | refine below_set ?_ GE517.out | refine below_set ?_ GE521.out) | exact HB.out)) hb); clear HO_30; clear BK517; clear BK521; clear HB; have HO_30 := n0_; have BK517 := n1_; have BK521 := n2_; have HB := n3_; clear n0_ n1_ n2_ n3_; (try clear hb); (try clear hb2); (try clear hk); (try clear hi)) | ((with_reducible refine gate_dst (N := 37) rfl ?_); refine box_event ?hg (N := 37) ?hd (cs := #[.int .i64 0, .int .i64 0]) (t := 25) ?hr ?_; (case hd => rfl); (case hg => rfl); (case hr => first | (go_simp; done) | (go_simp; rfl)); intro gb529 hg w122 hbox hb; have n0_ := Aside0.mk (Kd.R_below (by (with_reducible repeat (first | apply Kd.R_alloc | apply Kd.R_drewN | apply Kd.R_drew)); exact HO_30.out) hb); have n1_ := Aside0.mk (blk_below (g := gb517) (o := .cells #[.int .i64 t514, .int .i64 t515] 25 (0, 0)) (by (with_reducible repeat (first | refine blk_drewN ?_ _ | refine blk_drew ?_ | refine blk_alloc ?_ _)); exact BK517.out) hb); have n2_ := Aside0.mk (blk_below (g := gb521) (o := .cells #[.int .i64 t518, .int .i64 t519] 25 (0, 0)) (by (with_reducible repeat (first | refine blk_drewN ?_ _ | refine blk_drew ?_ | refine blk_alloc ?_ _)); exact BK521.out) hb); have n3_ := Aside0.mk (below_step (by repeat (first | (with_reducible first | exact HB.out | apply below_alloc | apply pw_below_drewN | apply below_drew1 | refine below_set ?_ GE517.out | refine below_set ?_ GE521.out) | exact HB.out)) hb); have n4_ := Aside0.mk (hbox); have n5_ := Aside0.mk ((by rw [hg]; exact (below_size (by repeat (first | (with_reducible first | exact HB.out | apply below_alloc | apply pw_below_drewN | apply below_drew1 | refine below_set ?_ GE517.out | refine below_set ?_ GE521.out) | exact HB.out))) : w.heap.size ≤ gb529)); have n6_ := Aside0.mk ((by rw [hg]; exact (below_size (by repeat (first | (with_reducible first | exact HB.out | apply below_alloc | apply pw_below_drewN | apply below_drew1 | refine below_set ?_ GE517.out | refine below_set ?_ GE521.out) | exact HB.out))) : w.heap.size ≤ gb529)); have n7_ := Aside0.mk ((by rw [hg]; exact Nat.ne_of_lt (blk_lt (g := gb517) (o := .cells #[.int .i64 t514, .int .i64 t515] 25 (0, 0)) (by (with_reducible repeat (first | refine blk_drewN ?_ _ | refine blk_drew ?_ | refine blk_alloc ?_ _)); exact BK517.out)) : gb517 ≠ gb529)); have n8_ := Aside0.mk ((by rw [hg]; exact Nat.ne_of_gt (blk_lt (g := gb517) (o := .cells #[.int .i64 t514, .int .i64 t515] 25 (0, 0)) (by (with_reducible repeat (first | refine blk_drewN ?_ _ | refine blk_drew ?_ | refine blk_alloc ?_ _)); exact BK517.out)) : gb529 ≠ gb517)); have n9_ := Aside0.mk ((by rw [hg]; exact Nat.ne_of_lt (blk_lt (g := gb521) (o := .cells #[.int .i64 t518, .int .i64 t519] 25 (0, 0)) (by (with_reducible repeat (first | refine blk_drewN ?_ _ | refine blk_drew ?_ | refine blk_alloc ?_ _)); exact BK521.out)) : gb521 ≠ gb529)); have n10_ := Aside0.mk ((by rw [hg]; exact Nat.ne_of_gt (blk_lt (g := gb521) (o := .cells #[.int .i64 t518, .int .i64 t519] 25 (0, 0)) (by (with_reducible repeat (first | refine blk_drewN ?_ _ | refine blk_drew ?_ | refine blk_alloc ?_ _)); exact BK521.out)) : gb529 ≠ gb521)); clear HO_30; clear BK517; clear BK521; clear HB; have HO_30 := n0_; have BK517 := n1_; have BK521 := n2_; have HB := n3_; have BK529 := n4_; have GW529 := n5_; have GE529 := n6_; have NB517_529 := n7_; have NB529_517 := n8_; have NB521_529 := n9_; have NB529_521 := n10_; clear n0_ n1_ n2_ n3_ n4_ n5_ n6_ n7_ n8_ n9_ n10_; clear hb hbox hg; have hnb123 := NB529_517.out; have hnc123 := NB517_529.out; have hnb124 := NB529_521.out; have hnc124 := NB521_529.out; have hcz125_0 : w122.cell? ⟨gb529, 0, none⟩ = some (.int .i64 0) := (blk_cell BK529.out 0).trans rfl; have hcz125_1 : w122.cell? ⟨gb529, 1, none⟩ = some (.int .i64 0) := (blk_cell BK529.out 1).trans rfl; have hfz125_0 := blk_frozen BK529.out 0; have hfz125_1 := blk_frozen BK529.out 1)))
                 (try simp only [Act.put, List.setIfInBounds_toArray, List.set_cons_zero, List.set_cons_succ])
                 go_cut [254] (fun v254 wc => ∃ (kq : Nat) (x254_118 : Bool), v254 = .bool x254_118 ∧ Aside0 (law_CurveSame.j8 kq x254_118 = some r) ∧ Aside0 (kq ≤ kj93) ∧ Aside0 (wc.heap[gb517]? = some (.cells #[.int .i64 t514, .int .i64 t515] 25 (0, 0))) ∧ Aside0 (wc.heap[gb521]? = some (.cells #[.int .i64 t518, .int .i64 t519] 25 (0, 0))) ∧ Aside0 (wc.heap[gb529]? = some (.cells #[.int .i64 t526, .int .i64 t527] 25 (0, 0))) ∧ Aside0 (Below w.heap.size w wc))
                 case first => as_aux_lemma =>
                  have H := HC119.out
                  clear HC119
                  by_cases c126 : t528 = 0
                  ·
                   rw [if_pos c126] at H
                   have c126b0 : (t528 == 0) = true := beq_iff_eq.mpr c126
                   have c126b1 : (t528 != 0) = false := bne_eq_false_iff_eq.mpr c126
                   clear c126
                   (first | rw [c126b0] | (simp only [i64_w, i32_w]; rw [c126b0]) | skip)
                   by_cases c127 : t527 < 1
                   ·
                    rw [if_pos c127] at H
                    have c127b0 : decide (t527 < 1) = true := decide_eq_true c127
                    clear c127
                    have H' := Aside0.mk H
                    clear H
                    have hnb128 := NB529_517.out
                    have hnc128 := NB517_529.out
                    have hnb129 := NB529_521.out
                    have hnc129 := NB521_529.out
                    have hcz130_0 : w122.cell? ⟨gb529, 0, none⟩ = some (.int .i64 0) := (blk_cell BK529.out 0).trans rfl
                    have hcz130_1 : w122.cell? ⟨gb529, 1, none⟩ = some (.int .i64 0) := (blk_cell BK529.out 1).trans rfl
                    have hfz130_0 := blk_frozen BK529.out 0
                    have hfz130_1 := blk_frozen BK529.out 1
                    go_wp2
                    repeat (go_quiet (fail); try go_wp2)
                    go_meet
                    case rel => exact ⟨_, (true), (by first | rfl | (simp; done) | (simp [*]; done)), H', ⟨by have := HJ13.out; have := HJ25.out; have := HJ54.out; have := HJ70.out; have := HJ93.out; first | omega | exact Nat.le_refl _⟩, ⟨by (with_reducible repeat (first | refine blk_drewN ?_ _ | refine blk_drew ?_ | refine blk_alloc ?_ _)); refine blk_far ?_ NB517_529.out _; (with_reducible repeat (first | refine blk_drewN ?_ _ | refine blk_drew ?_ | refine blk_alloc ?_ _)); refine blk_far ?_ NB517_529.out _; (with_reducible repeat (first | refine blk_drewN ?_ _ | refine blk_drew ?_ | refine blk_alloc ?_ _)); exact BK517.out⟩, ⟨by (with_reducible repeat (first | refine blk_drewN ?_ _ | refine blk_drew ?_ | refine blk_alloc ?_ _)); refine blk_far ?_ NB521_529.out _; (with_reducible repeat (first | refine blk_drewN ?_ _ | refine blk_drew ?_ | refine blk_alloc ?_ _)); refine blk_far ?_ NB521_529.out _; (with_reducible repeat (first | refine blk_drewN ?_ _ | refine blk_drew ?_ | refine blk_alloc ?_ _)); exact BK521.out⟩, ⟨by (with_reducible repeat (first | refine blk_drewN ?_ _ | refine blk_drew ?_ | refine blk_alloc ?_ _)); refine blk_put (cs := #[.int .i64 t526, .int .i64 0]) ?_ 1 _ rfl; (with_reducible repeat (first | refine blk_drewN ?_ _ | refine blk_drew ?_ | refine blk_alloc ?_ _)); refine blk_put (cs := #[.int .i64 0, .int .i64 0]) ?_ 0 _ rfl; (with_reducible repeat (first | refine blk_drewN ?_ _ | refine blk_drew ?_ | refine blk_alloc ?_ _)); exact BK529.out⟩, ⟨by repeat (first | (with_reducible first | exact HB.out | apply below_alloc | apply pw_below_drewN | apply below_drew1 | refine below_set ?_ GE517.out | refine below_set ?_ GE521.out | refine below_set ?_ GE529.out) | exact HB.out)⟩⟩
                   ·
                    rw [if_neg c127] at H
                    have c127b0 : decide (t527 < 1) = false := decide_eq_false c127
                    clear c127
                    by_cases c131 : t527 = 0
                    ·
                     rw [if_pos c131] at H
                     exact absurd H (by simp)
                    ·
                     rw [if_neg c131] at H
                     have c131b0 : (t527 == 0) = false := beq_eq_false_iff_ne.mpr c131
                     have c131b1 : (t527 != 0) = true := bne_iff_ne.mpr c131
                     by_cases c132 : (Int.tmod t515 t527) = 0
                     ·
                      rw [if_pos c132] at H
                      have c132b0 : ((Int.tmod t515 t527) == 0) = true := beq_iff_eq.mpr c132
                      have c132b1 : ((Int.tmod t515 t527) != 0) = false := bne_eq_false_iff_eq.mpr c132
                      clear c132
                      have H' := Aside0.mk H
                      clear H
                      have hnb133 := NB529_517.out
                      have hnc133 := NB517_529.out
                      have hnb134 := NB529_521.out
                      have hnc134 := NB521_529.out
                      have hcz135_0 : w122.cell? ⟨gb529, 0, none⟩ = some (.int .i64 0) := (blk_cell BK529.out 0).trans rfl
                      have hcz135_1 : w122.cell? ⟨gb529, 1, none⟩ = some (.int .i64 0) := (blk_cell BK529.out 1).trans rfl
                      have hfz135_0 := blk_frozen BK529.out 0
                      have hfz135_1 := blk_frozen BK529.out 1
                      have hnb136 := NB517_521.out
                      have hnc136 := NB521_517.out
                      have hcz137_0 : w122.cell? ⟨gb517, 0, none⟩ = some (.int .i64 t514) := (blk_cell BK517.out 0).trans rfl
                      have hcz137_1 : w122.cell? ⟨gb517, 1, none⟩ = some (.int .i64 t515) := (blk_cell BK517.out 1).trans rfl
                      have hfz137_0 := blk_frozen BK517.out 0
                      have hfz137_1 := blk_frozen BK517.out 1
                      go_wp2
                      repeat (go_quiet (fail); try go_wp2)
                      go_meet
                      case rel => exact ⟨_, (((wrap64 (t526 * (wrap64 (Int.tdiv t515 t527)))) != (wrap64 (t514 * a6)))), (by first | rfl | (simp; done) | (simp [*]; done)), H', ⟨by have := HJ13.out; have := HJ25.out; have := HJ54.out; have := HJ70.out; have := HJ93.out; first | omega | exact Nat.le_refl _⟩, ⟨by (with_reducible repeat (first | refine blk_drewN ?_ _ | refine blk_drew ?_ | refine blk_alloc ?_ _)); refine blk_far ?_ NB517_529.out _; (with_reducible repeat (first | refine blk_drewN ?_ _ | refine blk_drew ?_ | refine blk_alloc ?_ _)); refine blk_far ?_ NB517_529.out _; (with_reducible repeat (first | refine blk_drewN ?_ _ | refine blk_drew ?_ | refine blk_alloc ?_ _)); exact BK517.out⟩, ⟨by (with_reducible repeat (first | refine blk_drewN ?_ _ | refine blk_drew ?_ | refine blk_alloc ?_ _)); refine blk_far ?_ NB521_529.out _; (with_reducible repeat (first | refine blk_drewN ?_ _ | refine blk_drew ?_ | refine blk_alloc ?_ _)); refine blk_far ?_ NB521_529.out _; (with_reducible repeat (first | refine blk_drewN ?_ _ | refine blk_drew ?_ | refine blk_alloc ?_ _)); exact BK521.out⟩, ⟨by (with_reducible repeat (first | refine blk_drewN ?_ _ | refine blk_drew ?_ | refine blk_alloc ?_ _)); refine blk_put (cs := #[.int .i64 t526, .int .i64 0]) ?_ 1 _ rfl; (with_reducible repeat (first | refine blk_drewN ?_ _ | refine blk_drew ?_ | refine blk_alloc ?_ _)); refine blk_put (cs := #[.int .i64 0, .int .i64 0]) ?_ 0 _ rfl; (with_reducible repeat (first | refine blk_drewN ?_ _ | refine blk_drew ?_ | refine blk_alloc ?_ _)); exact BK529.out⟩, ⟨by repeat (first | (with_reducible first | exact HB.out | apply below_alloc | apply pw_below_drewN | apply below_drew1 | refine below_set ?_ GE517.out | refine below_set ?_ GE521.out | refine below_set ?_ GE529.out) | exact HB.out)⟩⟩
                     ·
                      rw [if_neg c132] at H
                      have c132b0 : ((Int.tmod t515 t527) == 0) = false := beq_eq_false_iff_ne.mpr c132
                      have c132b1 : ((Int.tmod t515 t527) != 0) = true := bne_iff_ne.mpr c132
                      have H' := Aside0.mk H
                      clear H
                      have hnb138 := NB529_517.out
                      have hnc138 := NB517_529.out
                      have hnb139 := NB529_521.out
                      have hnc139 := NB521_529.out
                      have hcz140_0 : w122.cell? ⟨gb529, 0, none⟩ = some (.int .i64 0) := (blk_cell BK529.out 0).trans rfl
                      have hcz140_1 : w122.cell? ⟨gb529, 1, none⟩ = some (.int .i64 0) := (blk_cell BK529.out 1).trans rfl
                      have hfz140_0 := blk_frozen BK529.out 0
                      have hfz140_1 := blk_frozen BK529.out 1
                      have hnb141 := NB517_521.out
                      have hnc141 := NB521_517.out
                      have hcz142_0 : w122.cell? ⟨gb517, 0, none⟩ = some (.int .i64 t514) := (blk_cell BK517.out 0).trans rfl
                      have hcz142_1 : w122.cell? ⟨gb517, 1, none⟩ = some (.int .i64 t515) := (blk_cell BK517.out 1).trans rfl
                      have hfz142_0 := blk_frozen BK517.out 0
                      have hfz142_1 := blk_frozen BK517.out 1
                      go_wp2
                      repeat (go_quiet (fail); try go_wp2)
                      go_meet
                      case rel => exact ⟨_, (true), (by first | rfl | (simp; done) | (simp [*]; done)), H', ⟨by have := HJ13.out; have := HJ25.out; have := HJ54.out; have := HJ70.out; have := HJ93.out; first | omega | exact Nat.le_refl _⟩, ⟨by (with_reducible repeat (first | refine blk_drewN ?_ _ | refine blk_drew ?_ | refine blk_alloc ?_ _)); refine blk_far ?_ NB517_529.out _; (with_reducible repeat (first | refine blk_drewN ?_ _ | refine blk_drew ?_ | refine blk_alloc ?_ _)); refine blk_far ?_ NB517_529.out _; (with_reducible repeat (first | refine blk_drewN ?_ _ | refine blk_drew ?_ | refine blk_alloc ?_ _)); exact BK517.out⟩, ⟨by (with_reducible repeat (first | refine blk_drewN ?_ _ | refine blk_drew ?_ | refine blk_alloc ?_ _)); refine blk_far ?_ NB521_529.out _; (with_reducible repeat (first | refine blk_drewN ?_ _ | refine blk_drew ?_ | refine blk_alloc ?_ _)); refine blk_far ?_ NB521_529.out _; (with_reducible repeat (first | refine blk_drewN ?_ _ | refine blk_drew ?_ | refine blk_alloc ?_ _)); exact BK521.out⟩, ⟨by (with_reducible repeat (first | refine blk_drewN ?_ _ | refine blk_drew ?_ | refine blk_alloc ?_ _)); refine blk_put (cs := #[.int .i64 t526, .int .i64 0]) ?_ 1 _ rfl; (with_reducible repeat (first | refine blk_drewN ?_ _ | refine blk_drew ?_ | refine blk_alloc ?_ _)); refine blk_put (cs := #[.int .i64 0, .int .i64 0]) ?_ 0 _ rfl; (with_reducible repeat (first | refine blk_drewN ?_ _ | refine blk_drew ?_ | refine blk_alloc ?_ _)); exact BK529.out⟩, ⟨by repeat (first | (with_reducible first | exact HB.out | apply below_alloc | apply pw_below_drewN | apply below_drew1 | refine below_set ?_ GE517.out | refine below_set ?_ GE521.out | refine below_set ?_ GE529.out) | exact HB.out)⟩⟩
                  ·
                   rw [if_neg c126] at H
                   have c126b0 : (t528 == 0) = false := beq_eq_false_iff_ne.mpr c126
                   have c126b1 : (t528 != 0) = true := bne_iff_ne.mpr c126
                   (first | rw [c126b0] | (simp only [i64_w, i32_w]; rw [c126b0]) | skip)
                   have H' := Aside0.mk H
                   clear H
                   go_wp2
                   repeat (go_quiet (fail); try go_wp2)
                   go_meet
                   case rel => exact ⟨_, (true), (by first | rfl | (simp; done) | (simp [*]; done)), H', ⟨by have := HJ13.out; have := HJ25.out; have := HJ54.out; have := HJ70.out; have := HJ93.out; first | omega | exact Nat.le_refl _⟩, ⟨by (with_reducible repeat (first | refine blk_drewN ?_ _ | refine blk_drew ?_ | refine blk_alloc ?_ _)); refine blk_far ?_ NB517_529.out _; (with_reducible repeat (first | refine blk_drewN ?_ _ | refine blk_drew ?_ | refine blk_alloc ?_ _)); refine blk_far ?_ NB517_529.out _; (with_reducible repeat (first | refine blk_drewN ?_ _ | refine blk_drew ?_ | refine blk_alloc ?_ _)); exact BK517.out⟩, ⟨by (with_reducible repeat (first | refine blk_drewN ?_ _ | refine blk_drew ?_ | refine blk_alloc ?_ _)); refine blk_far ?_ NB521_529.out _; (with_reducible repeat (first | refine blk_drewN ?_ _ | refine blk_drew ?_ | refine blk_alloc ?_ _)); refine blk_far ?_ NB521_529.out _; (with_reducible repeat (first | refine blk_drewN ?_ _ | refine blk_drew ?_ | refine blk_alloc ?_ _)); exact BK521.out⟩, ⟨by (with_reducible repeat (first | refine blk_drewN ?_ _ | refine blk_drew ?_ | refine blk_alloc ?_ _)); refine blk_put (cs := #[.int .i64 t526, .int .i64 0]) ?_ 1 _ rfl; (with_reducible repeat (first | refine blk_drewN ?_ _ | refine blk_drew ?_ | refine blk_alloc ?_ _)); refine blk_put (cs := #[.int .i64 0, .int .i64 0]) ?_ 0 _ rfl; (with_reducible repeat (first | refine blk_drewN ?_ _ | refine blk_drew ?_ | refine blk_alloc ?_ _)); exact BK529.out⟩, ⟨by repeat (first | (with_reducible first | exact HB.out | apply below_alloc | apply pw_below_drewN | apply below_drew1 | refine below_set ?_ GE517.out | refine below_set ?_ GE521.out | refine below_set ?_ GE529.out) | exact HB.out)⟩⟩
                 case rest => as_aux_lemma =>
                  clear HC119
                  try clear c1
                  try clear c2
                  try clear p2
                  try clear c3
                  try clear c4
                  try clear c5
                  try clear c6
                  try clear p6
                  try clear c7
                  try clear c8
                  try clear c9
                  try clear c10
                  try clear c11
                  try clear c12
                  try clear c13
                  try clear c14
                  try clear c19
                  try clear c19b0
                  try clear c19b1
                  try clear c20
                  try clear c20b0
                  try clear c20b1
                  try clear c23
                  try clear c28
                  try clear c28b0
                  try clear c28b1
                  try clear c31
                  try clear c31b0
                  try clear c31b1
                  try clear c34
                  try clear c34b0
                  try clear c34b1
                  try clear c48
                  try clear c48b0
                  try clear c48b1
                  try clear c49
                  try clear c49b0
                  try clear c49b1
                  try clear c52
                  try clear c57
                  try clear c57b0
                  try clear c57b1
                  try clear c62
                  try clear c62b0
                  try clear c62b1
                  try clear p64
                  try clear c65
                  try clear c68
                  try clear c78
                  try clear c80
                  try clear c80b0
                  try clear c80b1
                  try clear c81
                  try clear c81b0
                  try clear c81b1
                  try clear c82
                  try clear c82b0
                  try clear c83
                  try clear c86
                  try clear c86b0
                  try clear c87
                  try clear c90
                  try clear c93
                  try clear c95
                  try clear c95b0
                  try clear c95b1
                  try clear c101
                  try clear c102
                  try clear c104
                  try clear c104b0
                  try clear c104b1
                  try clear c105
                  try clear c105b0
                  try clear c105b1
                  try clear c106
                  try clear c107
                  try clear c109
                  try clear c111
                  try clear c112
                  try clear c114
                  try clear c116
                  try clear c117
                  try clear c117b0
                  try clear c117b1
                  try clear c123
                  try clear c124
                  try clear c126
                  try clear c126b0
                  try clear c126b1
                  try clear c127
                  try clear c127b0
                  try clear c128
                  try clear c129
                  try clear c131
                  try clear c131b0
                  try clear c131b1
                  try clear c132
                  try clear c132b0
                  try clear c132b1
                  try clear c133
                  try clear c134
                  try clear c136
                  try clear c138
                  try clear c139
                  try clear c141
                  try clear hcz103_0
                  try clear hcz103_1
                  try clear hcz108_0
                  try clear hcz108_1
                  try clear hcz110_0
                  try clear hcz110_1
                  try clear hcz113_0
                  try clear hcz113_1
                  try clear hcz115_0
                  try clear hcz115_1
                  try clear hcz125_0
                  try clear hcz125_1
                  try clear hcz130_0
                  try clear hcz130_1
                  try clear hcz135_0
                  try clear hcz135_1
                  try clear hcz137_0
                  try clear hcz137_1
                  try clear hcz140_0
                  try clear hcz140_1
                  try clear hcz142_0
                  try clear hcz142_1
                  try clear hcz75_0
                  try clear hcz75_1
                  try clear hcz79_0
                  try clear hcz79_1
                  try clear hcz84_0
                  try clear hcz84_1
                  try clear hcz85_0
                  try clear hcz85_1
                  try clear hcz88_0
                  try clear hcz88_1
                  try clear hcz89_0
                  try clear hcz89_1
                  try clear hcz91_0
                  try clear hcz91_1
                  try clear hcz92_0
                  try clear hcz92_1
                  try clear hfz103_0
                  try clear hfz103_1
                  try clear hfz108_0
                  try clear hfz108_1
                  try clear hfz110_0
                  try clear hfz110_1
                  try clear hfz113_0
                  try clear hfz113_1
                  try clear hfz115_0
                  try clear hfz115_1
                  try clear hfz125_0
                  try clear hfz125_1
                  try clear hfz130_0
                  try clear hfz130_1
                  try clear hfz135_0
                  try clear hfz135_1
                  try clear hfz137_0
                  try clear hfz137_1
                  try clear hfz140_0
                  try clear hfz140_1
                  try clear hfz142_0
                  try clear hfz142_1
                  try clear hfz75_0
                  try clear hfz75_1
                  try clear hfz79_0
                  try clear hfz79_1
                  try clear hfz84_0
                  try clear hfz84_1
                  try clear hfz85_0
                  try clear hfz85_1
                  try clear hfz88_0
                  try clear hfz88_1
                  try clear hfz89_0
                  try clear hfz89_1
                  try clear hfz91_0
                  try clear hfz91_1
                  try clear hfz92_0
                  try clear hfz92_1
                  try clear p2
                  try clear p6
                  try clear p64
                  obtain ⟨kq, x254_118, rfl, HA, HJ118, BK517, BK521, BK529, HB⟩ := hcut
                  cases kq with
                  | zero => exact absurd HA.out (by simp [law_CurveSame.j8])
                  | succ kj118 =>
                   have H := HA.out
                   clear HA
                   simp only [law_CurveSame.j8] at H
                   by_cases c143 : x254_118 = true
                   ·
                    subst c143
                    have H1 : (some false) = some r := by rw [if_pos rfl] at H; exact H
                    clear H
                    have H := H1
                    clear H1
                    obtain rfl := Option.some.inj H
                    go_wp2
                    repeat (go_quiet (fail); try go_wp2)
                    go_ret
                    exact ⟨by first | rfl | (simp [errW_none, errW_some] <;> rfl) | (simp [*, errW_none, errW_some] <;> rfl), by repeat (first | (with_reducible first | exact HB.out | apply below_alloc | apply pw_below_drewN | apply below_drew1 | refine below_set ?_ GE517.out | refine below_set ?_ GE521.out | refine below_set ?_ GE529.out) | exact HB.out)⟩
                   ·
                    replace c143 := Bool.eq_false_iff.mpr c143
                    subst c143
                    have H1 : (some true) = some r := by rw [if_neg (show ¬ (false = true) by decide)] at H; exact H
                    clear H
                    have H := H1
                    clear H1
                    obtain rfl := Option.some.inj H
                    go_wp2
                    repeat (go_quiet (fail); try go_wp2)
                    go_ret
                    exact ⟨by first | rfl | (simp [errW_none, errW_some] <;> rfl) | (simp [*, errW_none, errW_some] <;> rfl), by repeat (first | (with_reducible first | exact HB.out | apply below_alloc | apply pw_below_drewN | apply below_drew1 | refine below_set ?_ GE517.out | refine below_set ?_ GE521.out | refine below_set ?_ GE529.out) | exact HB.out)⟩
                ·
                 rw [if_neg c117] at H
                 have c117b0 : (t510 == 0) = false := beq_eq_false_iff_ne.mpr c117
                 have c117b1 : (t510 != 0) = true := bne_iff_ne.mpr c117
                 obtain rfl := Option.some.inj H
                 go_wp2
                 repeat (go_quiet (fail); try go_wp2)
                 go_ret
                 exact ⟨by first | rfl | (simp [errW_none, errW_some] <;> rfl) | (simp [*, errW_none, errW_some] <;> rfl), by repeat (first | (with_reducible first | exact HB.out | apply below_alloc | apply pw_below_drewN | apply below_drew1 | refine below_set ?_ GE517.out | refine below_set ?_ GE521.out) | exact HB.out)⟩
          ·
           replace c68 := Bool.eq_false_iff.mpr c68
           subst c68
           have H1 : (some true) = some r := by rw [if_neg (show ¬ (false = true) by decide)] at H; exact H
           clear H
           have H := H1
           clear H1
           obtain rfl := Option.some.inj H
           go_wp2_with (first | (go_at_call 51; (with_reducible refine (curve_Scale.calls _ _ l0 a5 a6 t509 t510 _ ?side1 ?side2 A66.out).mono ?_); (case side1 => repeat (first | exact (Kd.C_below HR0.out HB.out) | (with_reducible refine Kd.C_alloc ?_ _) | (with_reducible refine Kd.C_drewN ?_ _) | (with_reducible refine Kd.C_drew ?_))); (case side2 => exact HC0.out); rintro e w144 ⟨v511, rfl, ho0, hb⟩; have n0_ := Aside0.mk (Kd.R_elder' (by (with_reducible repeat (first | apply Kd.R_alloc | apply Kd.R_drewN | apply Kd.R_drew)); exact HO_15.out) (Kd.R_base ho0) hb); have n1_ := Aside0.mk (Kd.R_elder' (by (with_reducible repeat (first | apply Kd.R_alloc | apply Kd.R_drewN | apply Kd.R_drew)); exact HO_27.out) (Kd.R_base ho0) hb); have n2_ := Aside0.mk (Kd.R_lower (Kd.R_new' (Kd.R_new' ho0 (Kd.R_lt (by (with_reducible repeat (first | apply Kd.R_alloc | apply Kd.R_drewN | apply Kd.R_drew)); exact HO_15.out))) (Kd.R_lt (by (with_reducible repeat (first | apply Kd.R_alloc | apply Kd.R_drewN | apply Kd.R_drew)); exact HO_27.out))) (below_size (by repeat (first | (with_reducible first | exact HB.out | apply below_alloc | apply pw_below_drewN | apply below_drew1) | exact HB.out)))); have n3_ := Aside0.mk (below_step (by repeat (first | (with_reducible first | exact HB.out | apply below_alloc | apply pw_below_drewN | apply below_drew1) | exact HB.out)) hb); clear HO_15; clear HO_27; clear HB; have HO_15 := n0_; have HO_27 := n1_; have HO512 := n2_; have HB := n3_; clear n0_ n1_ n2_ n3_; (try clear hb); (try clear hb2); (try clear hk); (try clear hi); (try clear ho0)) | (go_at_call 43; (with_reducible refine (ref_In.calls _ _ l0 a2 false _ ?side1 ?side2 A67.out).mono ?_); (case side1 => repeat (first | exact (Kd.C_below HR0.out HB.out) | (with_reducible refine Kd.C_alloc ?_ _) | (with_reducible refine Kd.C_drewN ?_ _) | (with_reducible refine Kd.C_drew ?_))); (case side2 => exact HC0.out); rintro e w' ⟨rfl, ⟨nd, rfl⟩⟩; (try first | exact ⟨rfl, _, World.drewN_drewN _ _ _⟩ | exact ⟨rfl, _, Eq.trans (World.drewN_drewN _ _ _) (congrArg (World.drewN _) (Nat.add_assoc _ _ _))⟩)))
           repeat (go_quiet (first | (go_at_call 51; (with_reducible refine (curve_Scale.calls _ _ l0 a5 a6 t509 t510 _ ?side1 ?side2 A66.out).mono ?_); (case side1 => repeat (first | exact (Kd.C_below HR0.out HB.out) | (with_reducible refine Kd.C_alloc ?_ _) | (with_reducible refine Kd.C_drewN ?_ _) | (with_reducible refine Kd.C_drew ?_))); (case side2 => exact HC0.out); rintro e w144 ⟨v511, rfl, ho0, hb⟩; have n0_ := Aside0.mk (Kd.R_elder' (by (with_reducible repeat (first | apply Kd.R_alloc | apply Kd.R_drewN | apply Kd.R_drew)); exact HO_15.out) (Kd.R_base ho0) hb); have n1_ := Aside0.mk (Kd.R_elder' (by (with_reducible repeat (first | apply Kd.R_alloc | apply Kd.R_drewN | apply Kd.R_drew)); exact HO_27.out) (Kd.R_base ho0) hb); have n2_ := Aside0.mk (Kd.R_lower (Kd.R_new' (Kd.R_new' ho0 (Kd.R_lt (by (with_reducible repeat (first | apply Kd.R_alloc | apply Kd.R_drewN | apply Kd.R_drew)); exact HO_15.out))) (Kd.R_lt (by (with_reducible repeat (first | apply Kd.R_alloc | apply Kd.R_drewN | apply Kd.R_drew)); exact HO_27.out))) (below_size (by repeat (first | (with_reducible first | exact HB.out | apply below_alloc | apply pw_below_drewN | apply below_drew1) | exact HB.out)))); have n3_ := Aside0.mk (below_step (by repeat (first | (with_reducible first | exact HB.out | apply below_alloc | apply pw_below_drewN | apply below_drew1) | exact HB.out)) hb); clear HO_15; clear HO_27; clear HB; have HO_15 := n0_; have HO_27 := n1_; have HO512 := n2_; have HB := n3_; clear n0_ n1_ n2_ n3_; (try clear hb); (try clear hb2); (try clear hk); (try clear hi); (try clear ho0)) | (go_at_call 43; (with_reducible refine (ref_In.calls _ _ l0 a2 false _ ?side1 ?side2 A67.out).mono ?_); (case side1 => repeat (first | exact (Kd.C_below HR0.out HB.out) | (with_reducible refine Kd.C_alloc ?_ _) | (with_reducible refine Kd.C_drewN ?_ _) | (with_reducible refine Kd.C_drew ?_))); (case side2 => exact HC0.out); rintro e w' ⟨rfl, ⟨nd, rfl⟩⟩; (try first | exact ⟨rfl, _, World.drewN_drewN _ _ _⟩ | exact ⟨rfl, _, Eq.trans (World.drewN_drewN _ _ _) (congrArg (World.drewN _) (Nat.add_assoc _ _ _))⟩))); try go_wp2_with (first | (go_at_call 51; (with_reducible refine (curve_Scale.calls _ _ l0 a5 a6 t509 t510 _ ?side1 ?side2 A66.out).mono ?_); (case side1 => repeat (first | exact (Kd.C_below HR0.out HB.out) | (with_reducible refine Kd.C_alloc ?_ _) | (with_reducible refine Kd.C_drewN ?_ _) | (with_reducible refine Kd.C_drew ?_))); (case side2 => exact HC0.out); rintro e w144 ⟨v511, rfl, ho0, hb⟩; have n0_ := Aside0.mk (Kd.R_elder' (by (with_reducible repeat (first | apply Kd.R_alloc | apply Kd.R_drewN | apply Kd.R_drew)); exact HO_15.out) (Kd.R_base ho0) hb); have n1_ := Aside0.mk (Kd.R_elder' (by (with_reducible repeat (first | apply Kd.R_alloc | apply Kd.R_drewN | apply Kd.R_drew)); exact HO_27.out) (Kd.R_base ho0) hb); have n2_ := Aside0.mk (Kd.R_lower (Kd.R_new' (Kd.R_new' ho0 (Kd.R_lt (by (with_reducible repeat (first | apply Kd.R_alloc | apply Kd.R_drewN | apply Kd.R_drew)); exact HO_15.out))) (Kd.R_lt (by (with_reducible repeat (first | apply Kd.R_alloc | apply Kd.R_drewN | apply Kd.R_drew)); exact HO_27.out))) (below_size (by repeat (first | (with_reducible first | exact HB.out | apply below_alloc | apply pw_below_drewN | apply below_drew1) | exact HB.out)))); have n3_ := Aside0.mk (below_step (by repeat (first | (with_reducible first | exact HB.out | apply below_alloc | apply pw_below_drewN | apply below_drew1) | exact HB.out)) hb); clear HO_15; clear HO_27; clear HB; have HO_15 := n0_; have HO_27 := n1_; have HO512 := n2_; have HB := n3_; clear n0_ n1_ n2_ n3_; (try clear hb); (try clear hb2); (try clear hk); (try clear hi); (try clear ho0)) | (go_at_call 43; (with_reducible refine (ref_In.calls _ _ l0 a2 false _ ?side1 ?side2 A67.out).mono ?_); (case side1 => repeat (first | exact (Kd.C_below HR0.out HB.out) | (with_reducible refine Kd.C_alloc ?_ _) | (with_reducible refine Kd.C_drewN ?_ _) | (with_reducible refine Kd.C_drew ?_))); (case side2 => exact HC0.out); rintro e w' ⟨rfl, ⟨nd, rfl⟩⟩; (try first | exact ⟨rfl, _, World.drewN_drewN _ _ _⟩ | exact ⟨rfl, _, Eq.trans (World.drewN_drewN _ _ _) (congrArg (World.drewN _) (Nat.add_assoc _ _ _))⟩))))
           go_ret
           exact ⟨by first | rfl | (simp [errW_none, errW_some] <;> rfl) | (simp [*, errW_none, errW_some] <;> rfl), by repeat (first | (with_reducible first | exact HB.out | apply below_alloc | apply pw_below_drewN | apply below_drew1) | exact HB.out)⟩
  ·
   replace c11 := Bool.eq_false_iff.mpr c11
   subst c11
   have H1 : (some true) = some r := by rw [if_neg (show ¬ (false = true) by decide)] at H; exact H
   clear H
   have H := H1
   clear H1
   obtain rfl := Option.some.inj H
   go_enter Tryd.func7, Tryd.ntmps7
   go_wp2_with (first | (go_at_call 18; (with_reducible refine (law_sane.calls  true _ A8.out).mono ?_); rintro e w145 ⟨rfl, hb⟩; have n0_ := Aside0.mk (below_step (by repeat (first | (with_reducible first | exact HB.out | apply below_alloc | apply pw_below_drewN | apply below_drew1) | exact HB.out)) hb); clear HB; have HB := n0_; clear n0_; (try clear hb); (try clear hb2); (try clear hk); (try clear hi)) | (go_at_call 42; (with_reducible refine (ref_Valid.calls k _ _ l0 false _ ?side1 ?side2 A10.out).mono ?_); (case side1 => repeat (first | exact (Kd.C_below HR0.out HB.out) | (with_reducible refine Kd.C_alloc ?_ _) | (with_reducible refine Kd.C_drewN ?_ _) | (with_reducible refine Kd.C_drew ?_))); (case side2 => exact HC0.out); rintro e w' ⟨rfl, ⟨nd, rfl⟩⟩; (try first | exact ⟨rfl, _, World.drewN_drewN _ _ _⟩ | exact ⟨rfl, _, Eq.trans (World.drewN_drewN _ _ _) (congrArg (World.drewN _) (Nat.add_assoc _ _ _))⟩)))
   repeat (go_quiet (first | (go_at_call 18; (with_reducible refine (law_sane.calls  true _ A8.out).mono ?_); rintro e w145 ⟨rfl, hb⟩; have n0_ := Aside0.mk (below_step (by repeat (first | (with_reducible first | exact HB.out | apply below_alloc | apply pw_below_drewN | apply below_drew1) | exact HB.out)) hb); clear HB; have HB := n0_; clear n0_; (try clear hb); (try clear hb2); (try clear hk); (try clear hi)) | (go_at_call 42; (with_reducible refine (ref_Valid.calls k _ _ l0 false _ ?side1 ?side2 A10.out).mono ?_); (case side1 => repeat (first | exact (Kd.C_below HR0.out HB.out) | (with_reducible refine Kd.C_alloc ?_ _) | (with_reducible refine Kd.C_drewN ?_ _) | (with_reducible refine Kd.C_drew ?_))); (case side2 => exact HC0.out); rintro e w' ⟨rfl, ⟨nd, rfl⟩⟩; (try first | exact ⟨rfl, _, World.drewN_drewN _ _ _⟩ | exact ⟨rfl, _, Eq.trans (World.drewN_drewN _ _ _) (congrArg (World.drewN _) (Nat.add_assoc _ _ _))⟩))); try go_wp2_with (first | (go_at_call 18; (with_reducible refine (law_sane.calls  true _ A8.out).mono ?_); rintro e w145 ⟨rfl, hb⟩; have n0_ := Aside0.mk (below_step (by repeat (first | (with_reducible first | exact HB.out | apply below_alloc | apply pw_below_drewN | apply below_drew1) | exact HB.out)) hb); clear HB; have HB := n0_; clear n0_; (try clear hb); (try clear hb2); (try clear hk); (try clear hi)) | (go_at_call 42; (with_reducible refine (ref_Valid.calls k _ _ l0 false _ ?side1 ?side2 A10.out).mono ?_); (case side1 => repeat (first | exact (Kd.C_below HR0.out HB.out) | (with_reducible refine Kd.C_alloc ?_ _) | (with_reducible refine Kd.C_drewN ?_ _) | (with_reducible refine Kd.C_drew ?_))); (case side2 => exact HC0.out); rintro e w' ⟨rfl, ⟨nd, rfl⟩⟩; (try first | exact ⟨rfl, _, World.drewN_drewN _ _ _⟩ | exact ⟨rfl, _, Eq.trans (World.drewN_drewN _ _ _) (congrArg (World.drewN _) (Nat.add_assoc _ _ _))⟩))))
   go_ret
   exact ⟨by first | rfl | (simp [errW_none, errW_some] <;> rfl) | (simp [*, errW_none, errW_some] <;> rfl), by repeat (first | (with_reducible first | exact HB.out | apply below_alloc | apply pw_below_drewN | apply below_drew1) | exact HB.out)⟩
 ·
  replace c9 := Bool.eq_false_iff.mpr c9
  subst c9
  have H1 : (some false) = some r := by rw [if_neg (show ¬ (false = true) by decide)] at H; exact H
  clear H
  have H := H1
  clear H1
  obtain rfl := Option.some.inj H
  go_enter Tryd.func7, Tryd.ntmps7
  go_wp2_with (first | (go_at_call 18; (with_reducible refine (law_sane.calls  false _ A8.out).mono ?_); rintro e w146 ⟨rfl, hb⟩; have n0_ := Aside0.mk (below_step (by repeat (first | (with_reducible first | exact HB.out | apply below_alloc | apply pw_below_drewN | apply below_drew1) | exact HB.out)) hb); clear HB; have HB := n0_; clear n0_; (try clear hb); (try clear hb2); (try clear hk); (try clear hi)))
  repeat (go_quiet (first | (go_at_call 18; (with_reducible refine (law_sane.calls  false _ A8.out).mono ?_); rintro e w146 ⟨rfl, hb⟩; have n0_ := Aside0.mk (below_step (by repeat (first | (with_reducible first | exact HB.out | apply below_alloc | apply pw_below_drewN | apply below_drew1) | exact HB.out)) hb); clear HB; have HB := n0_; clear n0_; (try clear hb); (try clear hb2); (try clear hk); (try clear hi))); try go_wp2_with (first | (go_at_call 18; (with_reducible refine (law_sane.calls  false _ A8.out).mono ?_); rintro e w146 ⟨rfl, hb⟩; have n0_ := Aside0.mk (below_step (by repeat (first | (with_reducible first | exact HB.out | apply below_alloc | apply pw_below_drewN | apply below_drew1) | exact HB.out)) hb); clear HB; have HB := n0_; clear n0_; (try clear hb); (try clear hb2); (try clear hk); (try clear hi))))
  go_ret
  exact ⟨by first | rfl | (simp [errW_none, errW_some] <;> rfl) | (simp [*, errW_none, errW_some] <;> rfl), by repeat (first | (with_reducible first | exact HB.out | apply below_alloc | apply pw_below_drewN | apply below_drew1) | exact HB.out)⟩
end Go.Proofs.YtlhhpogaaneamaaDoor.X
