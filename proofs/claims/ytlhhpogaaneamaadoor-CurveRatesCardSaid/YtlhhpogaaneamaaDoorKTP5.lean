/- curveRates_holds: the declarations of this seat that its proof uses. Conditions: none. -/
import Derived.Test.YtlhhpogaaneamaaDoorKTP4
namespace Go.Proofs.YtlhhpogaaneamaaDoor.X
open Go.RowKit Go.Proofs.YtlhhpogaaneamaaDoorW.PrintWords Go.Proofs.YtlhhpogaaneamaaDoorW.PrintLast Go.Proofs.YtlhhpogaaneamaaDoorW.PrintMore
set_option linter.unusedVariables false
set_option linter.unusedSimpArgs false
attribute [local go_sem high] eqA25
mutual
def law_CurveRates.j0 : Nat → List (S57) → Int → Int → List (S57) → Bool → Option (Bool)
 | 0, _, _, _, _, _ => none
 | k + 1, x0, x1, x5, x7, x52 => if x52 = true then (some false) else (law_CurveRates.l0 k x0 x1 x5 x7 false false 0 0 0)
def law_CurveRates.l0 : Nat → List (S57) → Int → Int → List (S57) → Bool → Bool → Int → Int → Int → Option (Bool)
 | 0, _, _, _, _, _, _, _, _, _ => none
 | k + 1, x0, x1, x5, x7, x9, x10, x12, x796000, x796001 => if (wrap64 (x12 + 1)) < (x0.length : Int) then (if 0 ≤ (wrap64 (x12 + 1)) then (if 0 ≤ x12 then (if x12 < (x0.length : Int) then (if (wrap64 (((rd_T57 x0 (wrap64 (x12 + 1))).f0) - ((rd_T57 x0 x12).f0))) = 0 then (none) else ((some (([(rd_T57 x0 x12).f0, wrap64 (((rd_T57 x0 (wrap64 (x12 + 1))).f0) - 1), wrap64 (((rd_T57 x0 x12).f0) + (Int.tmod (wrap64 ((Int.tmod x1 (wrap64 (((rd_T57 x0 (wrap64 (x12 + 1))).f0) - ((rd_T57 x0 x12).f0)))) + (wrap64 (((rd_T57 x0 (wrap64 (x12 + 1))).f0) - ((rd_T57 x0 x12).f0))))) (wrap64 (((rd_T57 x0 (wrap64 (x12 + 1))).f0) - ((rd_T57 x0 x12).f0)))))] : List Int) : List Int)).bind fun y804 => (law_CurveRates.l1 k x0 x1 x5 x7 x9 x10 x12 (wrap64 (((rd_T57 x0 (wrap64 (x12 + 1))).f0) - ((rd_T57 x0 x12).f0))) (wrap64 (((rd_T57 x0 (wrap64 (x12 + 1))).f1) - ((rd_T57 x0 x12).f1))) y804 (y804.length : Int) 0 x796000 x796001 0 0))) else (none)) else (none)) else (none)) else (law_CurveRates.l2 k x5 x7 x9 x10 1)
def law_CurveRates.l1 : Nat → List (S57) → Int → Int → List (S57) → Bool → Bool → Int → Int → Int → List Int → Int → Int → Int → Int → Int → Int → Option (Bool)
 | 0, _, _, _, _, _, _, _, _, _, _, _, _, _, _, _, _ => none
 | k + 1, x0, x1, x5, x7, x9, x10, x12, x13, x14, x111, x112, x113, x796000, x796001, x802000, x802001 => if x113 < x112 then (if 0 ≤ x113 then (if x113 < (x111.length : Int) then ((curve_Rate.f x0 (rd x111 x113)).bind fun bt808 => (if bt808.2.2 = 0 then (if bt808.2.1 < 1 then (law_CurveRates.j3 k x0 x1 x5 x7 x9 x10 x12 x13 x14 x111 x112 x113 true x796000 x796001 bt808.1 bt808.2.1) else (if bt808.1 < 1 then (law_CurveRates.j3 k x0 x1 x5 x7 x9 x10 x12 x13 x14 x111 x112 x113 true x796000 x796001 bt808.1 bt808.2.1) else (if bt808.2.1 > 16777216 then (law_CurveRates.j3 k x0 x1 x5 x7 x9 x10 x12 x13 x14 x111 x112 x113 true x796000 x796001 bt808.1 bt808.2.1) else (if bt808.1 > 16777216 then (law_CurveRates.j3 k x0 x1 x5 x7 x9 x10 x12 x13 x14 x111 x112 x113 true x796000 x796001 bt808.1 bt808.2.1) else (if x113 > 0 then (law_CurveRates.j3 k x0 x1 x5 x7 x9 x10 x12 x13 x14 x111 x112 x113 (!(bt808.1 == x802000) || (!(bt808.2.1 == x802001))) x796000 x796001 bt808.1 bt808.2.1) else (law_CurveRates.j3 k x0 x1 x5 x7 x9 x10 x12 x13 x14 x111 x112 x113 false x796000 x796001 bt808.1 bt808.2.1)))))) else (law_CurveRates.j3 k x0 x1 x5 x7 x9 x10 x12 x13 x14 x111 x112 x113 true x796000 x796001 bt808.1 bt808.2.1))) else (none)) else (none)) else (if (wrap64 (x802000 * x13)) = (wrap64 (x14 * x802001)) then (if x12 > 0 then ((ref_Order.f k x796000 x796001 x802000 x802001).bind fun t812 => (if x9 = true then (if x10 = true then (law_CurveRates.l0 k x0 x1 x5 x7 true true (wrap64 (x12 + 1)) x802000 x802001) else (law_CurveRates.l0 k x0 x1 x5 x7 true (decide (t812 > 0)) (wrap64 (x12 + 1)) x802000 x802001)) else (if x10 = true then (law_CurveRates.l0 k x0 x1 x5 x7 (decide (t812 < 0)) true (wrap64 (x12 + 1)) x802000 x802001) else (law_CurveRates.l0 k x0 x1 x5 x7 (decide (t812 < 0)) (decide (t812 > 0)) (wrap64 (x12 + 1)) x802000 x802001)))) else (law_CurveRates.l0 k x0 x1 x5 x7 x9 x10 (wrap64 (x12 + 1)) x802000 x802001)) else (some false))
def law_CurveRates.j3 : Nat → List (S57) → Int → Int → List (S57) → Bool → Bool → Int → Int → Int → List Int → Int → Int → Bool → Int → Int → Int → Int → Option (Bool)
 | 0, _, _, _, _, _, _, _, _, _, _, _, _, _, _, _, _, _ => none
 | k + 1, x0, x1, x5, x7, x9, x10, x12, x13, x14, x111, x112, x113, x154, x796000, x796001, x812000, x812001 => if x154 = true then (some false) else (law_CurveRates.l1 k x0 x1 x5 x7 x9 x10 x12 x13 x14 x111 x112 (wrap64 (x113 + 1)) x796000 x796001 x812000 x812001)
def law_CurveRates.l2 : Nat → Int → List (S57) → Bool → Bool → Int → Option (Bool)
 | 0, _, _, _, _, _ => none
 | k + 1, x5, x7, x9, x10, x22 => if (wrap64 (x22 + 1)) < (x7.length : Int) then (if 0 ≤ x22 then (if x22 < (x7.length : Int) then ((curve_Rate.f x7 (wrap64 (((rd_T57 x7 x22).f0) - 1))).bind fun bt814 => ((curve_Rate.f x7 ((rd_T57 x7 x22).f0)).bind fun bt819 => (if bt814.2.2 = 0 then (if bt819.2.2 = 0 then (law_CurveRates.j5 k x5 x7 x9 x10 x22 (bt814.1 == bt819.1 && (bt814.2.1 == bt819.2.1))) else (law_CurveRates.j5 k x5 x7 x9 x10 x22 true)) else (law_CurveRates.j5 k x5 x7 x9 x10 x22 true)))) else (none)) else (none)) else (if x9 = true then (law_CurveRates.j6 k x5 x9 x10 x10) else (law_CurveRates.j6 k x5 x9 x10 false))
def law_CurveRates.j5 : Nat → Int → List (S57) → Bool → Bool → Int → Bool → Option (Bool)
 | 0, _, _, _, _, _, _ => none
 | k + 1, x5, x7, x9, x10, x22, x220 => if x220 = true then (some false) else (law_CurveRates.l2 k x5 x7 x9 x10 (wrap64 (x22 + 1)))
def law_CurveRates.j6 : Nat → Int → Bool → Bool → Bool → Option (Bool)
 | 0, _, _, _, _ => none
 | k + 1, x5, x9, x10, x221 => if x221 = true then (some (x5 == 2)) else (if x9 = true then (some (x5 == 1)) else (if x10 = true then (some (x5 == (-1))) else (some (x5 == 0))))
end
def law_CurveRates.f (k : Nat) (l0 : List (S57)) (a1 : Int) : Option (Bool) := (law_sane.f).bind fun t786 => (if t786 = true then ((ref_Valid.f k l0).bind fun t787 => (if t787 = true then ((curve_Bent.f l0).bind fun bt788 => ((curve_Normal.f l0).bind fun bt790 => (if bt788.2 = 0 then (if bt790.2 = 0 then ((ref_Valid.f k bt790.1).bind fun t794 => (law_CurveRates.j0 k l0 a1 bt788.1 bt790.1 (!t794))) else (law_CurveRates.j0 k l0 a1 bt788.1 bt790.1 true)) else (law_CurveRates.j0 k l0 a1 bt788.1 bt790.1 true)))) else (some true))) else (some false))
def law_CurveRates.T14 : Bool × List (List Nat × List Nat) := (true, [([], []), ([], []), ([1], [1]), ([0, 2], [0, 2]), ([3], [3]), ([4], [4]), ([], []), ([], []), ([6, 7], [6, 7]), ([8], [8]), ([9], [9]), ([5, 10], [5, 10]), ([], []), ([], []), ([13], [13]), ([12, 14], [12, 14]), ([15], [15]), ([16], [16]), ([], []), ([], []), ([18, 19], [18, 19]), ([20], [20]), ([21], [21]), ([17, 22], [17, 22]), ([11, 0, 1, 2, 3, 4, 5, 6, 7, 8, 9, 10, 11], [11]), ([23, 24, 0, 1, 2, 3, 4, 5, 6, 7, 8, 9, 10, 11, 12, 13, 14, 15, 16, 17, 18, 19, 20, 21, 22, 23, 24], [23])])
def law_CurveRates.B14 : List Nat := [0, 0, 2, 7, 15, 31, 0, 0, 192, 448, 960, 2047, 0, 0, 8192, 28672, 61440, 126976, 0, 0, 786432, 1835008, 3932160, 8384512, 4095, 33554431]
theorem law_CurveRates.tab14 : rtab .any (opsOf Tryd.f16 14) = law_CurveRates.T14 := by kernel_rfl
theorem law_CurveRates.bits14 : waitsOk law_CurveRates.T14.2 law_CurveRates.B14 = true := by kernel_rfl
def law_CurveRates.T15 : Bool × List (List Nat × List Nat) := (true, [([], []), ([], []), ([0, 1], [0, 1]), ([2], [2]), ([3], [3]), ([], []), ([], []), ([5, 6], [5, 6]), ([], []), ([7, 8], [7, 8]), ([], []), ([9, 10], [9, 10]), ([4, 11], [4, 11]), ([12, 0, 1, 2, 3, 4, 5, 6, 7, 8, 9, 10, 11, 12], [12])])
def law_CurveRates.B15 : List Nat := [0, 0, 3, 7, 15, 0, 0, 96, 0, 480, 0, 2016, 4095, 8191]
theorem law_CurveRates.tab15 : rtab .any (opsOf Tryd.f16 15) = law_CurveRates.T15 := by kernel_rfl
theorem law_CurveRates.bits15 : waitsOk law_CurveRates.T15.2 law_CurveRates.B15 = true := by kernel_rfl
def law_CurveRates.T17 : Bool × List (List Nat × List Nat) := (true, [([], []), ([], []), ([0, 1], [0, 1]), ([2], [2]), ([3], [3]), ([], []), ([], []), ([6], [6]), ([5, 7], [5, 7]), ([8], [8]), ([9], [9]), ([10], [10]), ([], []), ([4, 11, 12], [4, 11, 12]), ([13], [13]), ([], [])])
def law_CurveRates.B17 : List Nat := [0, 0, 3, 7, 15, 0, 0, 64, 224, 480, 992, 2016, 0, 8191, 16383, 0]
theorem law_CurveRates.tab17 : rtab .any (opsOf Tryd.f16 17) = law_CurveRates.T17 := by kernel_rfl
theorem law_CurveRates.bits17 : waitsOk law_CurveRates.T17.2 law_CurveRates.B17 = true := by kernel_rfl
set_option maxHeartbeats 8000000 in
set_option maxRecDepth 100000 in
theorem law_CurveRates.calls (k : Nat) (A0 : Option Addr) (c0 : Nat) (l0 : List (S57)) (a1 : Int) (r : Bool) (w : World) (hr0 : Kd.C k57 w A0 l0.length l0) (hc0 : l0.length ≤ c0) (h : law_CurveRates.f k l0 a1 = some r) :
  Calls Tryd.prog 16 #[.slice A0 l0.length c0, .int .i64 a1] w fun e w' => e = .returned (.bool r) ∧ Below w.heap.size w w' := by
 have hu25 := Tryd.underlying25
 have HR0 := Aside0.mk hr0
 have HC0 := Aside0.mk hc0
 clear hr0 hc0
 have HB := Aside0.mk (Below.refl w.heap.size w)
 have H : ((law_sane.f).bind fun t786 => (if t786 = true then ((ref_Valid.f k l0).bind fun t787 => (if t787 = true then ((curve_Bent.f l0).bind fun bt788 => ((curve_Normal.f l0).bind fun bt790 => (if bt788.2 = 0 then (if bt790.2 = 0 then ((ref_Valid.f k bt790.1).bind fun t794 => (law_CurveRates.j0 k l0 a1 bt788.1 bt790.1 (!t794))) else (law_CurveRates.j0 k l0 a1 bt788.1 bt790.1 true)) else (law_CurveRates.j0 k l0 a1 bt788.1 bt790.1 true)))) else (some true))) else (some false))) = some r := h
 clear h
 replace H := Option.bind_eq_some_iff.mp H
 obtain ⟨t786, A30, H⟩ := H
 replace H : (if t786 = true then ((ref_Valid.f k l0).bind fun t787 => (if t787 = true then ((curve_Bent.f l0).bind fun bt788 => ((curve_Normal.f l0).bind fun bt790 => (if bt788.2 = 0 then (if bt790.2 = 0 then ((ref_Valid.f k bt790.1).bind fun t794 => (law_CurveRates.j0 k l0 a1 bt788.1 bt790.1 (!t794))) else (law_CurveRates.j0 k l0 a1 bt788.1 bt790.1 true)) else (law_CurveRates.j0 k l0 a1 bt788.1 bt790.1 true)))) else (some true))) else (some false)) = some r := H
 have A3 := Aside0.mk A30
 clear A30
 by_cases c4 : t786 = true
 ·
  subst c4
  have H1 : ((ref_Valid.f k l0).bind fun t787 => (if t787 = true then ((curve_Bent.f l0).bind fun bt788 => ((curve_Normal.f l0).bind fun bt790 => (if bt788.2 = 0 then (if bt790.2 = 0 then ((ref_Valid.f k bt790.1).bind fun t794 => (law_CurveRates.j0 k l0 a1 bt788.1 bt790.1 (!t794))) else (law_CurveRates.j0 k l0 a1 bt788.1 bt790.1 true)) else (law_CurveRates.j0 k l0 a1 bt788.1 bt790.1 true)))) else (some true))) = some r := by rw [if_pos rfl] at H; exact H
  clear H
  have H := H1
  clear H1
  replace H := Option.bind_eq_some_iff.mp H
  obtain ⟨t787, A50, H⟩ := H
  replace H : (if t787 = true then ((curve_Bent.f l0).bind fun bt788 => ((curve_Normal.f l0).bind fun bt790 => (if bt788.2 = 0 then (if bt790.2 = 0 then ((ref_Valid.f k bt790.1).bind fun t794 => (law_CurveRates.j0 k l0 a1 bt788.1 bt790.1 (!t794))) else (law_CurveRates.j0 k l0 a1 bt788.1 bt790.1 true)) else (law_CurveRates.j0 k l0 a1 bt788.1 bt790.1 true)))) else (some true)) = some r := H
  have A5 := Aside0.mk A50
  clear A50
  by_cases c6 : t787 = true
  ·
   subst c6
   have H1 : ((curve_Bent.f l0).bind fun bt788 => ((curve_Normal.f l0).bind fun bt790 => (if bt788.2 = 0 then (if bt790.2 = 0 then ((ref_Valid.f k bt790.1).bind fun t794 => (law_CurveRates.j0 k l0 a1 bt788.1 bt790.1 (!t794))) else (law_CurveRates.j0 k l0 a1 bt788.1 bt790.1 true)) else (law_CurveRates.j0 k l0 a1 bt788.1 bt790.1 true)))) = some r := by rw [if_pos rfl] at H; exact H
   clear H
   have H := H1
   clear H1
   replace H := Option.bind_eq_some_iff.mp H
   obtain ⟨⟨t788, t789⟩, A70, H⟩ := H
   replace H : ((curve_Normal.f l0).bind fun bt790 => (if t789 = 0 then (if bt790.2 = 0 then ((ref_Valid.f k bt790.1).bind fun t794 => (law_CurveRates.j0 k l0 a1 t788 bt790.1 (!t794))) else (law_CurveRates.j0 k l0 a1 t788 bt790.1 true)) else (law_CurveRates.j0 k l0 a1 t788 bt790.1 true))) = some r := H
   have A7 := Aside0.mk A70
   clear A70
   replace H := Option.bind_eq_some_iff.mp H
   obtain ⟨⟨t790, t791⟩, A80, H⟩ := H
   replace H : (if t789 = 0 then (if t791 = 0 then ((ref_Valid.f k t790).bind fun t794 => (law_CurveRates.j0 k l0 a1 t788 t790 (!t794))) else (law_CurveRates.j0 k l0 a1 t788 t790 true)) else (law_CurveRates.j0 k l0 a1 t788 t790 true)) = some r := H
   have A8 := Aside0.mk A80
   clear A80
   have HC9 := Aside0.mk H
   clear H
   go_enter Tryd.func16, Tryd.ntmps16
   go_upto_region 7 with (first | ((with_reducible refine gate_callee (f := 18) rfl ?_); refine goesL_ (some 27) rfl rfl Tryd.func18 (by kernel_rfl) rfl #[] rfl (by (try simp only [List.map_toArray, List.map_cons, List.map_nil]); first | done | rfl | (simp only [List.length_drop, List.length_take]; rfl)) ?_; (with_reducible refine (law_sane.calls  true _ A3.out).mono ?_); rintro e w10 ⟨rfl, hb⟩; refine ⟨_, rfl, ?_⟩; have n0_ := Aside0.mk (below_step (by repeat (first | (with_reducible first | exact HB.out | apply below_alloc | apply pw_below_drewN | apply below_drew1) | exact HB.out)) hb); clear HB; have HB := n0_; clear n0_; (try clear hb); (try clear hb2); (try clear hk); (try clear hi)) | ((with_reducible refine gate_callee (f := 42) rfl ?_); refine goesL_ (some 30) rfl rfl Tryd.func42 (by kernel_rfl) rfl #[.slice A0 l0.length c0] rfl (by (try simp only [List.map_toArray, List.map_cons, List.map_nil]); first | done | rfl | (simp only [List.length_drop, List.length_take]; rfl)) ?_; (with_reducible refine (ref_Valid.calls k _ _ l0 true _ ?side1 ?side2 A5.out).mono ?_); (case side1 => repeat (first | exact (Kd.C_below HR0.out HB.out) | (with_reducible refine Kd.C_alloc ?_ _) | (with_reducible refine Kd.C_drewN ?_ _) | (with_reducible refine Kd.C_drew ?_))); (case side2 => exact HC0.out); rintro e w' ⟨rfl, ⟨nd, rfl⟩⟩; refine ⟨_, rfl, ?_⟩) | ((with_reducible refine gate_callee (f := 36) rfl ?_); refine goesL_ (some 34) rfl rfl Tryd.func36 (by kernel_rfl) rfl #[.slice A0 l0.length c0] rfl (by (try simp only [List.map_toArray, List.map_cons, List.map_nil]); first | done | rfl | (simp only [List.length_drop, List.length_take]; rfl)) ?_; (with_reducible refine (curve_Bent.calls _ _ l0 t788 t789 _ ?side1 ?side2 A7.out).mono ?_); (case side1 => repeat (first | exact (Kd.C_below HR0.out (by repeat (first | (with_reducible first | exact HB.out | apply below_alloc | apply pw_below_drewN | apply below_drew1) | exact HB.out))) | (with_reducible refine Kd.C_alloc ?_ _) | (with_reducible refine Kd.C_drewN ?_ _) | (with_reducible refine Kd.C_drew ?_))); (case side2 => exact HC0.out); rintro e w11 ⟨rfl, hb⟩; refine ⟨_, rfl, ?_⟩; have n0_ := Aside0.mk (below_step (by repeat (first | (with_reducible first | exact HB.out | apply below_alloc | apply pw_below_drewN | apply below_drew1) | exact HB.out)) hb); clear HB; have HB := n0_; clear n0_; (try clear hb); (try clear hb2); (try clear hk); (try clear hi)) | ((with_reducible refine gate_callee (f := 44) rfl ?_); refine goesL_ (some 39) rfl rfl Tryd.func44 (by kernel_rfl) rfl #[.slice A0 l0.length c0] rfl (by (try simp only [List.map_toArray, List.map_cons, List.map_nil]); first | done | rfl | (simp only [List.length_drop, List.length_take]; rfl)) ?_; (with_reducible refine (curve_Normal.calls _ _ l0 t790 t791 _ ?side1 ?side2 A8.out).mono ?_); (case side1 => repeat (first | exact (Kd.C_below HR0.out HB.out) | (with_reducible refine Kd.C_alloc ?_ _) | (with_reducible refine Kd.C_drewN ?_ _) | (with_reducible refine Kd.C_drew ?_))); (case side2 => exact HC0.out); rintro e w12 ⟨v792, rfl, ho0, hb⟩; refine ⟨_, rfl, ?_⟩; have n0_ := Aside0.mk (Kd.R_lower ho0 (below_size (by repeat (first | (with_reducible first | exact HB.out | apply below_alloc | apply pw_below_drewN | apply below_drew1) | exact HB.out)))); have n1_ := Aside0.mk (below_step (by repeat (first | (with_reducible first | exact HB.out | apply below_alloc | apply pw_below_drewN | apply below_drew1) | exact HB.out)) hb); clear HB; have HO793 := n0_; have HB := n1_; clear n0_ n1_; (try clear hb); (try clear hb2); (try clear hk); (try clear hi); (try clear ho0)))
   (try simp only [Act.put, List.setIfInBounds_toArray, List.set_cons_zero, List.set_cons_succ])
   go_cut [52] (fun v52 wc => ∃ (kq : Nat) (x52_8 : Bool), v52 = .bool x52_8 ∧ Aside0 (law_CurveRates.j0 kq l0 a1 t788 t790 x52_8 = some r) ∧ Aside0 (kq ≤ k) ∧ Aside0 (Kd.R k57 57 wc w.heap.size (fun _ => True) v792 t790) ∧ Aside0 (Below w.heap.size w wc))
   case first => as_aux_lemma =>
    have H := HC9.out
    clear HC9
    by_cases c13 : t789 = 0
    ·
     rw [if_pos c13] at H
     have c13b0 : (t789 == 0) = true := beq_iff_eq.mpr c13
     have c13b1 : (t789 != 0) = false := bne_eq_false_iff_eq.mpr c13
     clear c13
     (first | rw [c13b0] | (simp only [i64_w, i32_w]; rw [c13b0]) | skip)
     by_cases c14 : t791 = 0
     ·
      rw [if_pos c14] at H
      have c14b0 : (t791 == 0) = true := beq_iff_eq.mpr c14
      have c14b1 : (t791 != 0) = false := bne_eq_false_iff_eq.mpr c14
      clear c14
      replace H := Option.bind_eq_some_iff.mp H
      obtain ⟨t794, A150, H⟩ := H
      replace H : (law_CurveRates.j0 k l0 a1 t788 t790 (!t794)) = some r := H
      have A15 := Aside0.mk A150
      clear A150
      have H' := Aside0.mk H
      clear H
      obtain ⟨Ao16, co16, eo16⟩ := Kd.R_slice HO793.out
      subst eo16
      go_wp2_with (first | (go_at_call 42; (with_reducible refine (ref_Valid.calls k _ _ t790 t794 _ ?side1 ?side2 A15.out).mono ?_); (case side1 => repeat (first | exact (Kd.R_reads' HO793.out).2.2 | (with_reducible refine Kd.C_alloc ?_ _) | (with_reducible refine Kd.C_drewN ?_ _) | (with_reducible refine Kd.C_drew ?_))); (case side2 => exact (Kd.R_reads' HO793.out).2.1); rintro e w' ⟨rfl, ⟨nd, rfl⟩⟩))
      go_meet
      case rel => exact ⟨_, (!t794), (by first | rfl | (simp; done) | (simp [*]; done)), H', ⟨by first | omega | exact Nat.le_refl _⟩, ⟨by (with_reducible repeat (first | apply Kd.R_alloc | apply Kd.R_drewN | apply Kd.R_drew)); exact HO793.out⟩, ⟨by repeat (first | (with_reducible first | exact HB.out | apply below_alloc | apply pw_below_drewN | apply below_drew1) | exact HB.out)⟩⟩
     ·
      rw [if_neg c14] at H
      have c14b0 : (t791 == 0) = false := beq_eq_false_iff_ne.mpr c14
      have c14b1 : (t791 != 0) = true := bne_iff_ne.mpr c14
      have H' := Aside0.mk H
      clear H
      go_wp2
      go_meet
      case rel => exact ⟨_, (true), (by first | rfl | (simp; done) | (simp [*]; done)), H', ⟨by first | omega | exact Nat.le_refl _⟩, ⟨by (with_reducible repeat (first | apply Kd.R_alloc | apply Kd.R_drewN | apply Kd.R_drew)); exact HO793.out⟩, ⟨by repeat (first | (with_reducible first | exact HB.out | apply below_alloc | apply pw_below_drewN | apply below_drew1) | exact HB.out)⟩⟩
    ·
     rw [if_neg c13] at H
     have c13b0 : (t789 == 0) = false := beq_eq_false_iff_ne.mpr c13
     have c13b1 : (t789 != 0) = true := bne_iff_ne.mpr c13
     (first | rw [c13b0] | (simp only [i64_w, i32_w]; rw [c13b0]) | skip)
     have H' := Aside0.mk H
     clear H
     go_wp2
     go_meet
     case rel => exact ⟨_, (true), (by first | rfl | (simp; done) | (simp [*]; done)), H', ⟨by first | omega | exact Nat.le_refl _⟩, ⟨by (with_reducible repeat (first | apply Kd.R_alloc | apply Kd.R_drewN | apply Kd.R_drew)); exact HO793.out⟩, ⟨by repeat (first | (with_reducible first | exact HB.out | apply below_alloc | apply pw_below_drewN | apply below_drew1) | exact HB.out)⟩⟩
   case rest => as_aux_lemma =>
    clear HC9
    try clear c1
    try clear p2
    try clear c3
    try clear c4
    try clear c6
    try clear c13
    try clear c13b0
    try clear c13b1
    try clear c14
    try clear c14b0
    try clear c14b1
    try clear c16
    obtain ⟨kq, x52_8, rfl, HA, HJ8, HO_7, HB⟩ := hcut
    cases kq with
    | zero => exact absurd HA.out (by simp [law_CurveRates.j0])
    | succ kj8 =>
     have H := HA.out
     clear HA
     simp only [law_CurveRates.j0] at H
     by_cases c17 : x52_8 = true
     ·
      subst c17
      have H1 : (some false) = some r := by rw [if_pos rfl] at H; exact H
      clear H
      have H := H1
      clear H1
      obtain rfl := Option.some.inj H
      go_wp2
      go_ret
      exact ⟨by first | rfl | (simp [errW_none, errW_some] <;> rfl) | (simp [*, errW_none, errW_some] <;> rfl), by repeat (first | (with_reducible first | exact HB.out | apply below_alloc | apply pw_below_drewN | apply below_drew1) | exact HB.out)⟩
     ·
      replace c17 := Bool.eq_false_iff.mpr c17
      subst c17
      have H1 : (law_CurveRates.l0 kj8 l0 a1 t788 t790 false false 0 0 0) = some r := by rw [if_neg (show ¬ (false = true) by decide)] at H; exact H
      clear H
      have H := H1
      clear H1
      have H' := Aside0.mk H
      clear H
      go_wp2_with (first | ((with_reducible refine gate_dst (N := 11) rfl ?_); refine box_event ?hg (N := 11) ?hd (cs := #[.int .i64 0, .int .i64 0]) (t := 25) ?hr ?_; (case hd => rfl); (case hg => rfl); (case hr => first | (go_simp; done) | (go_simp; rfl)); intro gb795 hg w18 hbox hb; have n0_ := Aside0.mk (Kd.R_below (by (with_reducible repeat (first | apply Kd.R_alloc | apply Kd.R_drewN | apply Kd.R_drew)); exact HO_7.out) hb); have n1_ := Aside0.mk (below_step (by repeat (first | (with_reducible first | exact HB.out | apply below_alloc | apply pw_below_drewN | apply below_drew1) | exact HB.out)) hb); have n2_ := Aside0.mk (hbox); have n3_ := Aside0.mk ((by rw [hg]; exact (below_size (by repeat (first | (with_reducible first | exact HB.out | apply below_alloc | apply pw_below_drewN | apply below_drew1) | exact HB.out))) : w.heap.size ≤ gb795)); have n4_ := Aside0.mk ((by rw [hg]; exact (below_size (by repeat (first | (with_reducible first | exact HB.out | apply below_alloc | apply pw_below_drewN | apply below_drew1) | exact HB.out))) : w.heap.size ≤ gb795)); clear HO_7; clear HB; have HO_7 := n0_; have HB := n1_; have BK795 := n2_; have GW795 := n3_; have GE795 := n4_; clear n0_ n1_ n2_ n3_ n4_; clear hb hbox hg; have hcz19_0 : w18.cell? ⟨gb795, 0, none⟩ = some (.int .i64 0) := (blk_cell BK795.out 0).trans rfl; have hcz19_1 : w18.cell? ⟨gb795, 1, none⟩ = some (.int .i64 0) := (blk_cell BK795.out 1).trans rfl; have hfz19_0 := blk_frozen BK795.out 0; have hfz19_1 := blk_frozen BK795.out 1))
      go_loopg [9, 10, 12] kj8 (fun kq v9 v10 v12 w' => ∃ (x9_2 : Bool) (x10_2 : Bool) (x12_2 : Int) (x796000_2 : Int) (x796001_2 : Int), v9 = .bool x9_2 ∧ v10 = .bool x10_2 ∧ v12 = .int .i64 x12_2 ∧ Aside0 (law_CurveRates.l0 kq l0 a1 t788 t790 x9_2 x10_2 x12_2 x796000_2 x796001_2 = some r) ∧ Aside0 (kq ≤ kj8) ∧ Aside0 (Kd.R k57 57 w' w.heap.size (fun _ => True) v792 t790) ∧ Aside0 (w'.heap[gb795]? = some (.cells #[.int .i64 x796000_2, .int .i64 x796001_2] 25 (0, 0))) ∧ Aside0 (Below w.heap.size w w'))
      case atStart => exact ⟨(false), (false), (0), (0), (0), (by first | rfl | (simp; done) | (simp [*]; done)), (by first | rfl | (simp; done) | (simp [*]; done)), (by first | rfl | (simp; done) | (simp [*]; done)), H', ⟨Nat.le_refl _⟩, ⟨by (with_reducible repeat (first | apply Kd.R_alloc | apply Kd.R_drewN | apply Kd.R_drew)); exact Kd.R_mono (Kd.R_far (p := ⟨gb795, 1, none⟩) (Kd.R_far (p := ⟨gb795, 0, none⟩) (Kd.R_types HO_7.out BK795.out (by decide)) (fun _ hk => hk.2) (.int .i64 0)) (fun _ hk => hk.2) (.int .i64 0)) (fun _ hk => trivial)⟩, ⟨by (with_reducible repeat (first | refine blk_drewN ?_ _ | refine blk_drew ?_ | refine blk_alloc ?_ _)); refine blk_put (cs := #[.int .i64 0, .int .i64 0]) ?_ 1 _ rfl; (with_reducible repeat (first | refine blk_drewN ?_ _ | refine blk_drew ?_ | refine blk_alloc ?_ _)); refine blk_put (cs := #[.int .i64 0, .int .i64 0]) ?_ 0 _ rfl; (with_reducible repeat (first | refine blk_drewN ?_ _ | refine blk_drew ?_ | refine blk_alloc ?_ _)); exact BK795.out⟩, ⟨by repeat (first | (with_reducible first | exact HB.out | apply below_alloc | apply pw_below_drewN | apply below_drew1 | refine below_set ?_ GE795.out) | exact HB.out)⟩⟩
      case round => as_aux_lemma =>
       clear H'
       try clear c1
       try clear p2
       try clear c3
       try clear c4
       try clear c6
       try clear c13
       try clear c13b0
       try clear c13b1
       try clear c14
       try clear c14b0
       try clear c14b1
       try clear c16
       try clear c17
       try clear c18
       try clear hcz19_0
       try clear hcz19_1
       try clear hfz19_0
       try clear hfz19_1
       try clear p2
       obtain ⟨x9_2, x10_2, x12_2, x796000_2, x796001_2, rfl, rfl, rfl, HA, HK2, HO_7, BK795, HB⟩ := hrel
       cases gk with
       | zero => exact absurd HA.out (by simp [law_CurveRates.l0])
       | succ k2 =>
        have H := HA.out
        clear HA
        simp only [law_CurveRates.l0] at H
        by_cases c20 : (wrap64 (x12_2 + 1)) < (l0.length : Int)
        ·
         rw [if_pos c20] at H
         have c20b0 : decide ((wrap64 (x12_2 + 1)) < (l0.length : Int)) = true := decide_eq_true c20
         clear c20
         obtain ⟨ji21, hji21⟩ : ∃ j_ : Int, (wrap64 (x12_2 + 1)) = j_ := ⟨_, rfl⟩
         replace H : (if 0 ≤ (ji21) then (if 0 ≤ x12_2 then (if x12_2 < (l0.length : Int) then (if (wrap64 (((rd_T57 l0 (ji21)).f0) - ((rd_T57 l0 x12_2).f0))) = 0 then (none) else ((some (([(rd_T57 l0 x12_2).f0, wrap64 (((rd_T57 l0 (ji21)).f0) - 1), wrap64 (((rd_T57 l0 x12_2).f0) + (Int.tmod (wrap64 ((Int.tmod a1 (wrap64 (((rd_T57 l0 (ji21)).f0) - ((rd_T57 l0 x12_2).f0)))) + (wrap64 (((rd_T57 l0 (ji21)).f0) - ((rd_T57 l0 x12_2).f0))))) (wrap64 (((rd_T57 l0 (ji21)).f0) - ((rd_T57 l0 x12_2).f0)))))] : List Int) : List Int)).bind fun y804 => (law_CurveRates.l1 k2 l0 a1 t788 t790 x9_2 x10_2 x12_2 (wrap64 (((rd_T57 l0 (ji21)).f0) - ((rd_T57 l0 x12_2).f0))) (wrap64 (((rd_T57 l0 (ji21)).f1) - ((rd_T57 l0 x12_2).f1))) y804 (y804.length : Int) 0 x796000_2 x796001_2 0 0))) else (none)) else (none)) else (none)) = some r := by first | (rw [hji21] at H; exact H) | (simp only [hji21] at H ⊢; exact H)
         (try rw [hji21] at c20b0)
         have hji21w : (IntKind.i64.wrap (x12_2 + 1)) = ji21 := (i64_w _).trans hji21
         by_cases c22 : 0 ≤ (ji21)
         ·
          rw [if_pos c22] at H
          have c22b0 : decide (0 ≤ (ji21)) = true := decide_eq_true c22
          clear c22
          by_cases c23 : 0 ≤ x12_2
          ·
           rw [if_pos c23] at H
           have c23b0 : decide (0 ≤ x12_2) = true := decide_eq_true c23
           clear c23
           by_cases c24 : x12_2 < (l0.length : Int)
           ·
            rw [if_pos c24] at H
            have c24b0 : decide (x12_2 < (l0.length : Int)) = true := decide_eq_true c24
            clear c24
            by_cases c25 : (wrap64 (((rd_T57 l0 (ji21)).f0) - ((rd_T57 l0 x12_2).f0))) = 0
            ·
             rw [if_pos c25] at H
             exact absurd H (by simp)
            ·
             rw [if_neg c25] at H
             have c25b0 : ((wrap64 (((rd_T57 l0 (ji21)).f0) - ((rd_T57 l0 x12_2).f0))) == 0) = false := beq_eq_false_iff_ne.mpr c25
             have c25b1 : ((wrap64 (((rd_T57 l0 (ji21)).f0) - ((rd_T57 l0 x12_2).f0))) != 0) = true := bne_iff_ne.mpr c25
             obtain ⟨y804, hy804⟩ : ∃ y_ : List Int, y_ = (([(rd_T57 l0 x12_2).f0, wrap64 (((rd_T57 l0 (ji21)).f0) - 1), wrap64 (((rd_T57 l0 x12_2).f0) + (Int.tmod (wrap64 ((Int.tmod a1 (wrap64 (((rd_T57 l0 (ji21)).f0) - ((rd_T57 l0 x12_2).f0)))) + (wrap64 (((rd_T57 l0 (ji21)).f0) - ((rd_T57 l0 x12_2).f0))))) (wrap64 (((rd_T57 l0 (ji21)).f0) - ((rd_T57 l0 x12_2).f0)))))] : List Int)) := ⟨_, rfl⟩
             replace H : (law_CurveRates.l1 k2 l0 a1 t788 t790 x9_2 x10_2 x12_2 (wrap64 (((rd_T57 l0 (ji21)).f0) - ((rd_T57 l0 x12_2).f0))) (wrap64 (((rd_T57 l0 (ji21)).f1) - ((rd_T57 l0 x12_2).f1))) y804 (y804.length : Int) 0 x796000_2 x796001_2 0 0) = some r := by first | (rw [hy804]; with_reducible exact H) | (have H2_ := (Option.bind_some _ _).symm.trans H; rw [hy804]; with_reducible exact H2_) | (have H2_ := (Option.bind_some _ _).symm.trans H; with_reducible exact H2_) | with_reducible exact H | (rw [hy804]; exact H) | exact H
             have Ny804 := Aside0.mk hy804
             clear hy804
             have H' := Aside0.mk H
             clear H
             try go_wp2
             have n0_ := Aside0.mk (Kd.R_drew HO_7.out)
             have n1_ := Aside0.mk (blk_drew BK795.out)
             have n2_ := Aside0.mk (below_drew1 HB.out)
             clear HO_7
             clear BK795
             clear HB
             have HO_7 := n0_
             have BK795 := n1_
             have HB := n2_
             clear n0_ n1_ n2_
             have p796 : 0 ≤ ((ji21) : Int) := of_decide_eq_true (by first | (with_reducible assumption) | assumption)
             have q796 : (ji21) < (l0.length : Int) := of_decide_eq_true (by first | (with_reducible assumption) | assumption)
             obtain ⟨ad796, e796, hx796_0, hx796_1⟩ := at_T57 HR0.out (ji21) p796 q796
             have hw796_1 := hx796_1
             have hw796_0 := hx796_0
             cases e796
             replace hx796_0 := (HB.out.cell (World.block_lt_of_cell? w _ hx796_0)).trans hx796_0
             replace hx796_1 := (HB.out.cell (World.block_lt_of_cell? w _ hx796_1)).trans hx796_1
             replace p796 := eq_true p796
             replace q796 := eq_true q796
             have p797 : 0 ≤ (x12_2 : Int) := of_decide_eq_true (by first | (with_reducible assumption) | assumption)
             have q797 : x12_2 < (l0.length : Int) := of_decide_eq_true (by first | (with_reducible assumption) | assumption)
             obtain ⟨ad797, e797, hx797_0, hx797_1⟩ := at_T57 HR0.out x12_2 p797 q797
             have hw797_1 := hx797_1
             have hw797_0 := hx797_0
             obtain rfl : ad796 = ad797 := (by injection e797)
             replace hx797_0 := (HB.out.cell (World.block_lt_of_cell? w _ hx797_0)).trans hx797_0
             replace hx797_1 := (HB.out.cell (World.block_lt_of_cell? w _ hx797_1)).trans hx797_1
             replace p797 := eq_true p797
             replace q797 := eq_true q797
             have p798 : 0 ≤ ((ji21) : Int) := of_decide_eq_true (by first | (with_reducible assumption) | assumption)
             have q798 : (ji21) < (l0.length : Int) := of_decide_eq_true (by first | (with_reducible assumption) | assumption)
             obtain ⟨ad798, e798, hx798_0, hx798_1⟩ := at_T57 HR0.out (ji21) p798 q798
             have hw798_1 := hx798_1
             have hw798_0 := hx798_0
             obtain rfl : ad796 = ad798 := (by injection e798)
             replace hx798_0 := (HB.out.cell (World.block_lt_of_cell? w _ hx798_0)).trans hx798_0
             replace hx798_1 := (HB.out.cell (World.block_lt_of_cell? w _ hx798_1)).trans hx798_1
             replace p798 := eq_true p798
             replace q798 := eq_true q798
             have p799 : 0 ≤ (x12_2 : Int) := of_decide_eq_true (by first | (with_reducible assumption) | assumption)
             have q799 : x12_2 < (l0.length : Int) := of_decide_eq_true (by first | (with_reducible assumption) | assumption)
             obtain ⟨ad799, e799, hx799_0, hx799_1⟩ := at_T57 HR0.out x12_2 p799 q799
             have hw799_1 := hx799_1
             have hw799_0 := hx799_0
             obtain rfl : ad796 = ad799 := (by injection e799)
             replace hx799_0 := (HB.out.cell (World.block_lt_of_cell? w _ hx799_0)).trans hx799_0
             replace hx799_1 := (HB.out.cell (World.block_lt_of_cell? w _ hx799_1)).trans hx799_1
             replace p799 := eq_true p799
             replace q799 := eq_true q799
             refine start_ (n := 26) (S := fun w' => w'.cell? (ad796.add (((ji21)).toNat * 2)) = some (.int .i64 ((rd_T57 l0 (ji21)).f0)) ∧ w'.cell? ⟨(ad796.add (((ji21)).toNat * 2)).block, (ad796.add (((ji21)).toNat * 2)).off + 1, none⟩ = some (.int .i64 ((rd_T57 l0 (ji21)).f1)) ∧ w'.cell? (ad796.add ((x12_2).toNat * 2)) = some (.int .i64 ((rd_T57 l0 x12_2).f0)) ∧ w'.cell? ⟨(ad796.add ((x12_2).toNat * 2)).block, (ad796.add ((x12_2).toNat * 2)).off + 1, none⟩ = some (.int .i64 ((rd_T57 l0 x12_2).f1)) ∧ w'.cell? (ad796.add (((ji21)).toNat * 2)) = some (.int .i64 ((rd_T57 l0 (ji21)).f0)) ∧ w'.cell? ⟨(ad796.add (((ji21)).toNat * 2)).block, (ad796.add (((ji21)).toNat * 2)).off + 1, none⟩ = some (.int .i64 ((rd_T57 l0 (ji21)).f1)) ∧ w'.cell? (ad796.add ((x12_2).toNat * 2)) = some (.int .i64 ((rd_T57 l0 x12_2).f0)) ∧ w'.cell? ⟨(ad796.add ((x12_2).toNat * 2)).block, (ad796.add ((x12_2).toNat * 2)).off + 1, none⟩ = some (.int .i64 ((rd_T57 l0 x12_2).f1))) (ds := []) #[false, false, false, false, false, false, false, false, false, false, false, false, false, false, false, false, false, false, false, false, false, false, false, false, false, false] (by kernel_rfl) rfl rfl ⟨((HB.out.cell (World.block_lt_of_cell? w _ hw796_0)).trans hw796_0), ((HB.out.cell (World.block_lt_of_cell? w _ hw796_1)).trans hw796_1), ((HB.out.cell (World.block_lt_of_cell? w _ hw797_0)).trans hw797_0), ((HB.out.cell (World.block_lt_of_cell? w _ hw797_1)).trans hw797_1), ((HB.out.cell (World.block_lt_of_cell? w _ hw798_0)).trans hw798_0), ((HB.out.cell (World.block_lt_of_cell? w _ hw798_1)).trans hw798_1), ((HB.out.cell (World.block_lt_of_cell? w _ hw799_0)).trans hw799_0), ((HB.out.cell (World.block_lt_of_cell? w _ hw799_1)).trans hw799_1)⟩ (fun hHeld => ?_); refine with_tabW law_CurveRates.tab14 law_CurveRates.bits14 (fun HT_ HW_ => ?_)
             generalize wr.drew = w26 at HO_7 BK795 HB hx796_0 hx796_1 hx797_0 hx797_1 hx798_0 hx798_1 hx799_0 hx799_1 hHeld ⊢
             refine pure_ (i := 0) (N := some 61) (v := ?_) (a' := ?_) #[true, false, false, false, false, false, false, false, false, false, false, false, false, false, false, false, false, false, false, false, false, false, false, false, false, false] rfl rfl (any_of HT_.out (by kernel_rfl)) (fun _ _ _ h => h) (Or.inl ⟨by rfl, ?_⟩) ?_ ?_
             rotate_left
             ·
              intro w'
              go_simp
              with_reducible rfl
             rotate_left
             ·
              simp only [Act.put, List.setIfInBounds_toArray, List.set_cons_zero, List.set_cons_succ, i64_w, i32_w]
              rfl
             refine pure_ (i := 1) (N := some 62) (v := ?_) (a' := ?_) #[true, true, false, false, false, false, false, false, false, false, false, false, false, false, false, false, false, false, false, false, false, false, false, false, false, false] rfl rfl (any_of HT_.out (by kernel_rfl)) (fun _ _ _ h => h) (Or.inl ⟨by rfl, ?_⟩) ?_ ?_
             rotate_left
             ·
              intro w'
              go_simp
              with_reducible rfl
             rotate_left
             ·
              simp only [Act.put, List.setIfInBounds_toArray, List.set_cons_zero, List.set_cons_succ, i64_w, i32_w]
              rfl
             refine pure_ (i := 2) (N := some 63) (v := ?_) (a' := ?_) #[true, true, true, false, false, false, false, false, false, false, false, false, false, false, false, false, false, false, false, false, false, false, false, false, false, false] rfl rfl (any_of HT_.out (by kernel_rfl)) (fun _ _ _ h => h) (Or.inl ⟨by rfl, ?_⟩) ?_ ?_
             rotate_left
             ·
              intro w'
              go_simp
              with_reducible rfl
             rotate_left
             ·
              simp only [Act.put, List.setIfInBounds_toArray, List.set_cons_zero, List.set_cons_succ, i64_w, i32_w]
              rfl
             refine pure_ (i := 3) (N := some 64) (v := ?_) (a' := ?_) #[true, true, true, true, false, false, false, false, false, false, false, false, false, false, false, false, false, false, false, false, false, false, false, false, false, false] rfl rfl (any_of HT_.out (by kernel_rfl)) (fun _ _ _ h => h) (Or.inl ⟨by rfl, ?_⟩) ?_ ?_
             rotate_left
             ·
              intro w'
              go_simp
              with_reducible rfl
             rotate_left
             ·
              simp only [Act.put, List.setIfInBounds_toArray, List.set_cons_zero, List.set_cons_succ, i64_w, i32_w]
              rfl
             refine pure_ (i := 4) (N := some 65) (v := ?_) (a' := ?_) #[true, true, true, true, true, false, false, false, false, false, false, false, false, false, false, false, false, false, false, false, false, false, false, false, false, false] rfl rfl (any_of HT_.out (by kernel_rfl)) (fun _ _ _ h => h) (Or.inl ⟨by rfl, ?_⟩) ?_ ?_
             rotate_left
             ·
              intro w'
              go_simp
              with_reducible rfl
             rotate_left
             ·
              simp only [Act.put, List.setIfInBounds_toArray, List.set_cons_zero, List.set_cons_succ, i64_w, i32_w]
              rfl
             refine pure_ (i := 6) (N := some 67) (v := ?_) (a' := ?_) #[true, true, true, true, true, false, true, false, false, false, false, false, false, false, false, false, false, false, false, false, false, false, false, false, false, false] rfl rfl (any_of HT_.out (by kernel_rfl)) (fun _ _ _ h => h) (Or.inl ⟨by rfl, ?_⟩) ?_ ?_
             rotate_left
             ·
              intro w'
              go_simp
              with_reducible rfl
             rotate_left
             ·
              simp only [Act.put, List.setIfInBounds_toArray, List.set_cons_zero, List.set_cons_succ, i64_w, i32_w]
              rfl
             refine pure_ (i := 7) (N := some 68) (v := ?_) (a' := ?_) #[true, true, true, true, true, false, true, true, false, false, false, false, false, false, false, false, false, false, false, false, false, false, false, false, false, false] rfl rfl (any_of HT_.out (by kernel_rfl)) (fun _ _ _ h => h) (Or.inl ⟨by rfl, ?_⟩) ?_ ?_
             rotate_left
             ·
              intro w'
              go_simp
              with_reducible rfl
             rotate_left
             ·
              simp only [Act.put, List.setIfInBounds_toArray, List.set_cons_zero, List.set_cons_succ, i64_w, i32_w]
              rfl
             refine pure_ (i := 8) (N := some 69) (v := ?_) (a' := ?_) #[true, true, true, true, true, false, true, true, true, false, false, false, false, false, false, false, false, false, false, false, false, false, false, false, false, false] rfl rfl (any_of HT_.out (by kernel_rfl)) (fun _ _ _ h => h) (Or.inl ⟨by rfl, ?_⟩) ?_ ?_
             rotate_left
             ·
              intro w'
              go_simp
              with_reducible rfl
             rotate_left
             ·
              simp only [Act.put, List.setIfInBounds_toArray, List.set_cons_zero, List.set_cons_succ, i64_w, i32_w]
              rfl
             refine pure_ (i := 9) (N := some 70) (v := ?_) (a' := ?_) #[true, true, true, true, true, false, true, true, true, true, false, false, false, false, false, false, false, false, false, false, false, false, false, false, false, false] rfl rfl (any_of HT_.out (by kernel_rfl)) (fun _ _ _ h => h) (Or.inl ⟨by rfl, ?_⟩) ?_ ?_
             rotate_left
             ·
              intro w'
              go_simp
              with_reducible rfl
             rotate_left
             ·
              simp only [Act.put, List.setIfInBounds_toArray, List.set_cons_zero, List.set_cons_succ, i64_w, i32_w]
              rfl
             refine pure_ (i := 12) (N := some 73) (v := ?_) (a' := ?_) #[true, true, true, true, true, false, true, true, true, true, false, false, true, false, false, false, false, false, false, false, false, false, false, false, false, false] rfl rfl (any_of HT_.out (by kernel_rfl)) (fun _ _ _ h => h) (Or.inl ⟨by rfl, ?_⟩) ?_ ?_
             rotate_left
             ·
              intro w'
              go_simp
              with_reducible rfl
             rotate_left
             ·
              simp only [Act.put, List.setIfInBounds_toArray, List.set_cons_zero, List.set_cons_succ, i64_w, i32_w]
              rfl
             refine pure_ (i := 13) (N := some 74) (v := ?_) (a' := ?_) #[true, true, true, true, true, false, true, true, true, true, false, false, true, true, false, false, false, false, false, false, false, false, false, false, false, false] rfl rfl (any_of HT_.out (by kernel_rfl)) (fun _ _ _ h => h) (Or.inl ⟨by rfl, ?_⟩) ?_ ?_
             rotate_left
             ·
              intro w'
              go_simp
              with_reducible rfl
             rotate_left
             ·
              simp only [Act.put, List.setIfInBounds_toArray, List.set_cons_zero, List.set_cons_succ, i64_w, i32_w]
              rfl
             refine pure_ (i := 14) (N := some 75) (v := ?_) (a' := ?_) #[true, true, true, true, true, false, true, true, true, true, false, false, true, true, true, false, false, false, false, false, false, false, false, false, false, false] rfl rfl (any_of HT_.out (by kernel_rfl)) (fun _ _ _ h => h) (Or.inl ⟨by rfl, ?_⟩) ?_ ?_
             rotate_left
             ·
              intro w'
              go_simp
              with_reducible rfl
             rotate_left
             ·
              simp only [Act.put, List.setIfInBounds_toArray, List.set_cons_zero, List.set_cons_succ, i64_w, i32_w]
              rfl
             refine pure_ (i := 15) (N := some 76) (v := ?_) (a' := ?_) #[true, true, true, true, true, false, true, true, true, true, false, false, true, true, true, true, false, false, false, false, false, false, false, false, false, false] rfl rfl (any_of HT_.out (by kernel_rfl)) (fun _ _ _ h => h) (Or.inl ⟨by rfl, ?_⟩) ?_ ?_
             rotate_left
             ·
              intro w'
              go_simp
              with_reducible rfl
             rotate_left
             ·
              simp only [Act.put, List.setIfInBounds_toArray, List.set_cons_zero, List.set_cons_succ, i64_w, i32_w]
              rfl
             refine pure_ (i := 16) (N := some 77) (v := ?_) (a' := ?_) #[true, true, true, true, true, false, true, true, true, true, false, false, true, true, true, true, true, false, false, false, false, false, false, false, false, false] rfl rfl (any_of HT_.out (by kernel_rfl)) (fun _ _ _ h => h) (Or.inl ⟨by rfl, ?_⟩) ?_ ?_
             rotate_left
             ·
              intro w'
              go_simp
              with_reducible rfl
             rotate_left
             ·
              simp only [Act.put, List.setIfInBounds_toArray, List.set_cons_zero, List.set_cons_succ, i64_w, i32_w]
              rfl
             refine pure_ (i := 18) (N := some 79) (v := ?_) (a' := ?_) #[true, true, true, true, true, false, true, true, true, true, false, false, true, true, true, true, true, false, true, false, false, false, false, false, false, false] rfl rfl (any_of HT_.out (by kernel_rfl)) (fun _ _ _ h => h) (Or.inl ⟨by rfl, ?_⟩) ?_ ?_
             rotate_left
             ·
              intro w'
              go_simp
              with_reducible rfl
             rotate_left
             ·
              simp only [Act.put, List.setIfInBounds_toArray, List.set_cons_zero, List.set_cons_succ, i64_w, i32_w]
              rfl
             refine pure_ (i := 19) (N := some 80) (v := ?_) (a' := ?_) #[true, true, true, true, true, false, true, true, true, true, false, false, true, true, true, true, true, false, true, true, false, false, false, false, false, false] rfl rfl (any_of HT_.out (by kernel_rfl)) (fun _ _ _ h => h) (Or.inl ⟨by rfl, ?_⟩) ?_ ?_
             rotate_left
             ·
              intro w'
              go_simp
              with_reducible rfl
             rotate_left
             ·
              simp only [Act.put, List.setIfInBounds_toArray, List.set_cons_zero, List.set_cons_succ, i64_w, i32_w]
              rfl
             refine pure_ (i := 20) (N := some 81) (v := ?_) (a' := ?_) #[true, true, true, true, true, false, true, true, true, true, false, false, true, true, true, true, true, false, true, true, true, false, false, false, false, false] rfl rfl (any_of HT_.out (by kernel_rfl)) (fun _ _ _ h => h) (Or.inl ⟨by rfl, ?_⟩) ?_ ?_
             rotate_left
             ·
              intro w'
              go_simp
              with_reducible rfl
             rotate_left
             ·
              simp only [Act.put, List.setIfInBounds_toArray, List.set_cons_zero, List.set_cons_succ, i64_w, i32_w]
              rfl
             refine pure_ (i := 21) (N := some 82) (v := ?_) (a' := ?_) #[true, true, true, true, true, false, true, true, true, true, false, false, true, true, true, true, true, false, true, true, true, true, false, false, false, false] rfl rfl (any_of HT_.out (by kernel_rfl)) (fun _ _ _ h => h) (Or.inl ⟨by rfl, ?_⟩) ?_ ?_
             rotate_left
             ·
              intro w'
              go_simp
              with_reducible rfl
             rotate_left
             ·
              simp only [Act.put, List.setIfInBounds_toArray, List.set_cons_zero, List.set_cons_succ, i64_w, i32_w]
              rfl
             refine take_ (i := 5) (N := some 66) (v := ?_) (a' := ?_) #[true, true, true, true, true, true, true, true, true, true, false, false, true, true, true, true, true, false, true, true, true, true, false, false, false, false] rfl rfl (take_ofW HT_.out HW_.out (by kernel_rfl)) (fun _ _ _ h => h) (Or.inl ⟨by rfl, ?_⟩) hHeld ?_ ?_
             rotate_left
             ·
              rintro w' ⟨s0, s1, s2, s3, s4, s5, s6, s7⟩
              go_simp
              with_reducible rfl
             rotate_left
             ·
              simp only [Act.put, List.setIfInBounds_toArray, List.set_cons_zero, List.set_cons_succ, i64_w, i32_w]
              rfl
             refine take_ (i := 10) (N := some 71) (v := ?_) (a' := ?_) #[true, true, true, true, true, true, true, true, true, true, true, false, true, true, true, true, true, false, true, true, true, true, false, false, false, false] rfl rfl (take_ofW HT_.out HW_.out (by kernel_rfl)) (fun _ _ _ h => h) (Or.inl ⟨by rfl, ?_⟩) hHeld ?_ ?_
             rotate_left
             ·
              rintro w' ⟨s0, s1, s2, s3, s4, s5, s6, s7⟩
              go_simp
              with_reducible rfl
             rotate_left
             ·
              simp only [Act.put, List.setIfInBounds_toArray, List.set_cons_zero, List.set_cons_succ, i64_w, i32_w]
              rfl
             refine pure_ (i := 11) (N := some 72) (v := ?_) (a' := ?_) #[true, true, true, true, true, true, true, true, true, true, true, true, true, true, true, true, true, false, true, true, true, true, false, false, false, false] rfl rfl (any_of HT_.out (by kernel_rfl)) (fun _ _ _ h => h) (Or.inl ⟨by rfl, ?_⟩) ?_ ?_
             rotate_left
             ·
              intro w'
              go_simp
              with_reducible rfl
             rotate_left
             ·
              simp only [Act.put, List.setIfInBounds_toArray, List.set_cons_zero, List.set_cons_succ, i64_w, i32_w]
              rfl
             refine pure_ (i := 24) (N := some 13) (v := ?_) (a' := ?_) #[true, true, true, true, true, true, true, true, true, true, true, true, true, true, true, true, true, false, true, true, true, true, false, false, true, false] rfl rfl (any_of HT_.out (by kernel_rfl)) (fun _ _ _ h => h) (Or.inl ⟨by rfl, ?_⟩) ?_ ?_
             rotate_left
             ·
              intro w'
              go_simp
              with_reducible rfl
             rotate_left
             ·
              simp only [Act.put, List.setIfInBounds_toArray, List.set_cons_zero, List.set_cons_succ, i64_w, i32_w]
              rfl
             refine take_ (i := 17) (N := some 78) (v := ?_) (a' := ?_) #[true, true, true, true, true, true, true, true, true, true, true, true, true, true, true, true, true, true, true, true, true, true, false, false, true, false] rfl rfl (take_ofW HT_.out HW_.out (by kernel_rfl)) (fun _ _ _ h => h) (Or.inl ⟨by rfl, ?_⟩) hHeld ?_ ?_
             rotate_left
             ·
              rintro w' ⟨s0, s1, s2, s3, s4, s5, s6, s7⟩
              go_simp
              with_reducible rfl
             rotate_left
             ·
              simp only [Act.put, List.setIfInBounds_toArray, List.set_cons_zero, List.set_cons_succ, i64_w, i32_w]
              rfl
             refine take_ (i := 22) (N := some 83) (v := ?_) (a' := ?_) #[true, true, true, true, true, true, true, true, true, true, true, true, true, true, true, true, true, true, true, true, true, true, true, false, true, false] rfl rfl (take_ofW HT_.out HW_.out (by kernel_rfl)) (fun _ _ _ h => h) (Or.inl ⟨by rfl, ?_⟩) hHeld ?_ ?_
             rotate_left
             ·
              rintro w' ⟨s0, s1, s2, s3, s4, s5, s6, s7⟩
              go_simp
              with_reducible rfl
             rotate_left
             ·
              simp only [Act.put, List.setIfInBounds_toArray, List.set_cons_zero, List.set_cons_succ, i64_w, i32_w]
              rfl
             refine pure_ (i := 23) (N := some 84) (v := ?_) (a' := ?_) #[true, true, true, true, true, true, true, true, true, true, true, true, true, true, true, true, true, true, true, true, true, true, true, true, true, false] rfl rfl (any_of HT_.out (by kernel_rfl)) (fun _ _ _ h => h) (Or.inl ⟨by rfl, ?_⟩) ?_ ?_
             rotate_left
             ·
              intro w'
              go_simp
              with_reducible rfl
             rotate_left
             ·
              simp only [Act.put, List.setIfInBounds_toArray, List.set_cons_zero, List.set_cons_succ, i64_w, i32_w]
              rfl
             refine pure_ (i := 25) (N := some 14) (v := ?_) (a' := ?_) #[true, true, true, true, true, true, true, true, true, true, true, true, true, true, true, true, true, true, true, true, true, true, true, true, true, true] rfl rfl (any_of HT_.out (by kernel_rfl)) (fun _ _ _ h => h) (Or.inl ⟨by rfl, ?_⟩) ?_ ?_
             rotate_left
             ·
              intro w'
              go_simp
              with_reducible rfl
             rotate_left
             ·
              simp only [Act.put, List.setIfInBounds_toArray, List.set_cons_zero, List.set_cons_succ, i64_w, i32_w]
              rfl
             refine done_ (done_of HT_.out (by kernel_rfl)) ?_
             try go_wp2
             have n0_ := Aside0.mk (Kd.R_drew HO_7.out)
             have n1_ := Aside0.mk (blk_drew BK795.out)
             have n2_ := Aside0.mk (below_drew1 HB.out)
             clear HO_7
             clear BK795
             clear HB
             have HO_7 := n0_
             have BK795 := n1_
             have HB := n2_
             clear n0_ n1_ n2_
             have p800 : 0 ≤ (x12_2 : Int) := of_decide_eq_true (by first | (with_reducible assumption) | assumption)
             have q800 : x12_2 < (l0.length : Int) := of_decide_eq_true (by first | (with_reducible assumption) | assumption)
             obtain ⟨ad800, e800, hx800_0, hx800_1⟩ := at_T57 HR0.out x12_2 p800 q800
             have hw800_1 := hx800_1
             have hw800_0 := hx800_0
             obtain rfl : ad796 = ad800 := (by injection e800)
             replace hx800_0 := (HB.out.cell (World.block_lt_of_cell? w _ hx800_0)).trans hx800_0
             replace hx800_1 := (HB.out.cell (World.block_lt_of_cell? w _ hx800_1)).trans hx800_1
             replace p800 := eq_true p800
             replace q800 := eq_true q800
             refine start_ (n := 14) (S := fun w' => w'.cell? (ad796.add ((x12_2).toNat * 2)) = some (.int .i64 ((rd_T57 l0 x12_2).f0)) ∧ w'.cell? ⟨(ad796.add ((x12_2).toNat * 2)).block, (ad796.add ((x12_2).toNat * 2)).off + 1, none⟩ = some (.int .i64 ((rd_T57 l0 x12_2).f1))) (ds := []) #[false, false, false, false, false, false, false, false, false, false, false, false, false, false] (by kernel_rfl) rfl rfl ⟨((HB.out.cell (World.block_lt_of_cell? w _ hw800_0)).trans hw800_0), ((HB.out.cell (World.block_lt_of_cell? w _ hw800_1)).trans hw800_1)⟩ (fun hHeld => ?_); refine with_tabW law_CurveRates.tab15 law_CurveRates.bits15 (fun HT_ HW_ => ?_)
             generalize w26.drew = w27 at HO_7 BK795 HB hx800_0 hx800_1 hHeld ⊢
             refine pure_ (i := 0) (N := some 85) (v := ?_) (a' := ?_) #[true, false, false, false, false, false, false, false, false, false, false, false, false, false] rfl rfl (any_of HT_.out (by kernel_rfl)) (fun _ _ _ h => h) (Or.inl ⟨by rfl, ?_⟩) ?_ ?_
             rotate_left
             ·
              intro w'
              go_simp
              with_reducible rfl
             rotate_left
             ·
              simp only [Act.put, List.setIfInBounds_toArray, List.set_cons_zero, List.set_cons_succ, i64_w, i32_w]
              rfl
             refine pure_ (i := 1) (N := some 86) (v := ?_) (a' := ?_) #[true, true, false, false, false, false, false, false, false, false, false, false, false, false] rfl rfl (any_of HT_.out (by kernel_rfl)) (fun _ _ _ h => h) (Or.inl ⟨by rfl, ?_⟩) ?_ ?_
             rotate_left
             ·
              intro w'
              go_simp
              with_reducible rfl
             rotate_left
             ·
              simp only [Act.put, List.setIfInBounds_toArray, List.set_cons_zero, List.set_cons_succ, i64_w, i32_w]
              rfl
             refine pure_ (i := 2) (N := some 87) (v := ?_) (a' := ?_) #[true, true, true, false, false, false, false, false, false, false, false, false, false, false] rfl rfl (any_of HT_.out (by kernel_rfl)) (fun _ _ _ h => h) (Or.inl ⟨by rfl, ?_⟩) ?_ ?_
             rotate_left
             ·
              intro w'
              go_simp
              with_reducible rfl
             rotate_left
             ·
              simp only [Act.put, List.setIfInBounds_toArray, List.set_cons_zero, List.set_cons_succ, i64_w, i32_w]
              rfl
             refine pure_ (i := 3) (N := some 88) (v := ?_) (a' := ?_) #[true, true, true, true, false, false, false, false, false, false, false, false, false, false] rfl rfl (any_of HT_.out (by kernel_rfl)) (fun _ _ _ h => h) (Or.inl ⟨by rfl, ?_⟩) ?_ ?_
             rotate_left
             ·
              intro w'
              go_simp
              with_reducible rfl
             rotate_left
             ·
              simp only [Act.put, List.setIfInBounds_toArray, List.set_cons_zero, List.set_cons_succ, i64_w, i32_w]
              rfl
             refine pure_ (i := 5) (N := some 90) (v := ?_) (a' := ?_) #[true, true, true, true, false, true, false, false, false, false, false, false, false, false] rfl rfl (any_of HT_.out (by kernel_rfl)) (fun _ _ _ h => h) (Or.inl ⟨by rfl, ?_⟩) ?_ ?_
             rotate_left
             ·
              intro w'
              go_simp
              with_reducible rfl
             rotate_left
             ·
              simp only [Act.put, List.setIfInBounds_toArray, List.set_cons_zero, List.set_cons_succ, i64_w, i32_w]
              rfl
             refine pure_ (i := 6) (N := some 91) (v := ?_) (a' := ?_) #[true, true, true, true, false, true, true, false, false, false, false, false, false, false] rfl rfl (any_of HT_.out (by kernel_rfl)) (fun _ _ _ h => h) (Or.inl ⟨by rfl, ?_⟩) ?_ ?_
             rotate_left
             ·
              intro w'
              go_simp
              with_reducible rfl
             rotate_left
             ·
              simp only [Act.put, List.setIfInBounds_toArray, List.set_cons_zero, List.set_cons_succ, i64_w, i32_w]
              rfl
             refine pure_ (i := 7) (N := some 92) (v := ?_) (a' := ?_) #[true, true, true, true, false, true, true, true, false, false, false, false, false, false] rfl rfl (any_of HT_.out (by kernel_rfl)) (fun _ _ _ h => h) (Or.inl ⟨by rfl, ?_⟩) ?_ ?_
             rotate_left
             ·
              intro w'
              go_simp
              with_reducible rfl
             rotate_left
             ·
              simp only [Act.put, List.setIfInBounds_toArray, List.set_cons_zero, List.set_cons_succ, i64_w, i32_w]
              rfl
             refine pure_ (i := 8) (N := some 93) (v := ?_) (a' := ?_) #[true, true, true, true, false, true, true, true, true, false, false, false, false, false] rfl rfl (any_of HT_.out (by kernel_rfl)) (fun _ _ _ h => h) (Or.inl ⟨by rfl, ?_⟩) ?_ ?_
             rotate_left
             ·
              intro w'
              go_simp
              with_reducible rfl
             rotate_left
             ·
              simp only [Act.put, List.setIfInBounds_toArray, List.set_cons_zero, List.set_cons_succ, i64_w, i32_w]
              rfl
             refine pure_ (i := 9) (N := some 94) (v := ?_) (a' := ?_) #[true, true, true, true, false, true, true, true, true, true, false, false, false, false] rfl rfl (any_of HT_.out (by kernel_rfl)) (fun _ _ _ h => h) (Or.inl ⟨by rfl, ?_⟩) ?_ ?_
             rotate_left
             ·
              intro w'
              go_simp
              with_reducible rfl
             rotate_left
             ·
              simp only [Act.put, List.setIfInBounds_toArray, List.set_cons_zero, List.set_cons_succ, i64_w, i32_w]
              rfl
             refine pure_ (i := 10) (N := some 95) (v := ?_) (a' := ?_) #[true, true, true, true, false, true, true, true, true, true, true, false, false, false] rfl rfl (any_of HT_.out (by kernel_rfl)) (fun _ _ _ h => h) (Or.inl ⟨by rfl, ?_⟩) ?_ ?_
             rotate_left
             ·
              intro w'
              go_simp
              with_reducible rfl
             rotate_left
             ·
              simp only [Act.put, List.setIfInBounds_toArray, List.set_cons_zero, List.set_cons_succ, i64_w, i32_w]
              rfl
             refine pure_ (i := 11) (N := some 96) (v := ?_) (a' := ?_) #[true, true, true, true, false, true, true, true, true, true, true, true, false, false] rfl rfl (any_of HT_.out (by kernel_rfl)) (fun _ _ _ h => h) (Or.inl ⟨by rfl, ?_⟩) ?_ ?_
             rotate_left
             ·
              intro w'
              go_simp
              with_reducible rfl
             rotate_left
             ·
              simp only [Act.put, List.setIfInBounds_toArray, List.set_cons_zero, List.set_cons_succ, i64_w, i32_w]
              rfl
             refine take_ (i := 4) (N := some 89) (v := ?_) (a' := ?_) #[true, true, true, true, true, true, true, true, true, true, true, true, false, false] rfl rfl (take_ofW HT_.out HW_.out (by kernel_rfl)) (fun _ _ _ h => h) (Or.inl ⟨by rfl, ?_⟩) hHeld ?_ ?_
             rotate_left
             ·
              rintro w' ⟨s0, s1⟩
              go_simp
              with_reducible rfl
             rotate_left
             ·
              simp only [Act.put, List.setIfInBounds_toArray, List.set_cons_zero, List.set_cons_succ, i64_w, i32_w]
              rfl
             refine pure_ (i := 12) (N := some 97) (v := ?_) (a' := ?_) #[true, true, true, true, true, true, true, true, true, true, true, true, true, false] rfl rfl (any_of HT_.out (by kernel_rfl)) (fun _ _ _ h => h) (Or.inl ⟨by rfl, ?_⟩) ?_ ?_
             rotate_left
             ·
              intro w'
              go_simp
              with_reducible rfl
             rotate_left
             ·
              simp only [Act.put, List.setIfInBounds_toArray, List.set_cons_zero, List.set_cons_succ, i64_w, i32_w]
              rfl
             refine pure_ (i := 13) (N := some 15) (v := ?_) (a' := ?_) #[true, true, true, true, true, true, true, true, true, true, true, true, true, true] rfl rfl (any_of HT_.out (by kernel_rfl)) (fun _ _ _ h => h) (Or.inl ⟨by rfl, ?_⟩) ?_ ?_
             rotate_left
             ·
              intro w'
              go_simp
              with_reducible rfl
             rotate_left
             ·
              simp only [Act.put, List.setIfInBounds_toArray, List.set_cons_zero, List.set_cons_succ, i64_w, i32_w]
              rfl
             refine done_ (done_of HT_.out (by kernel_rfl)) ?_
             try go_wp2_with (first | ((with_reducible refine gate_dst (N := 16) rfl ?_); refine box_event ?hg (N := 16) ?hd (cs := #[.int .i64 0, .int .i64 0]) (t := 25) ?hr ?_; (case hd => rfl); (case hg => rfl); (case hr => first | (go_simp; done) | (go_simp; rfl)); intro gb801 hg w28 hbox hb; have n0_ := Aside0.mk (Kd.R_below (by (with_reducible repeat (first | apply Kd.R_alloc | apply Kd.R_drewN | apply Kd.R_drew)); exact HO_7.out) hb); have n1_ := Aside0.mk (blk_below (g := gb795) (o := .cells #[.int .i64 x796000_2, .int .i64 x796001_2] 25 (0, 0)) (by (with_reducible repeat (first | refine blk_drewN ?_ _ | refine blk_drew ?_ | refine blk_alloc ?_ _)); exact BK795.out) hb); have n2_ := Aside0.mk (below_step (by repeat (first | (with_reducible first | exact HB.out | apply below_alloc | apply pw_below_drewN | apply below_drew1 | refine below_set ?_ GE795.out) | exact HB.out)) hb); have n3_ := Aside0.mk (hbox); have n4_ := Aside0.mk ((by rw [hg]; exact (below_size (by repeat (first | (with_reducible first | exact HB.out | apply below_alloc | apply pw_below_drewN | apply below_drew1 | refine below_set ?_ GE795.out) | exact HB.out))) : w.heap.size ≤ gb801)); have n5_ := Aside0.mk ((by rw [hg]; exact (below_size (by repeat (first | (with_reducible first | exact HB.out | apply below_alloc | apply pw_below_drewN | apply below_drew1 | refine below_set ?_ GE795.out) | exact HB.out))) : w.heap.size ≤ gb801)); have n6_ := Aside0.mk ((by rw [hg]; exact Nat.ne_of_lt (blk_lt (g := gb795) (o := .cells #[.int .i64 x796000_2, .int .i64 x796001_2] 25 (0, 0)) (by (with_reducible repeat (first | refine blk_drewN ?_ _ | refine blk_drew ?_ | refine blk_alloc ?_ _)); exact BK795.out)) : gb795 ≠ gb801)); have n7_ := Aside0.mk ((by rw [hg]; exact Nat.ne_of_gt (blk_lt (g := gb795) (o := .cells #[.int .i64 x796000_2, .int .i64 x796001_2] 25 (0, 0)) (by (with_reducible repeat (first | refine blk_drewN ?_ _ | refine blk_drew ?_ | refine blk_alloc ?_ _)); exact BK795.out)) : gb801 ≠ gb795)); clear HO_7; clear BK795; clear HB; have HO_7 := n0_; have BK795 := n1_; have HB := n2_; have BK801 := n3_; have GW801 := n4_; have GE801 := n5_; have NB795_801 := n6_; have NB801_795 := n7_; clear n0_ n1_ n2_ n3_ n4_ n5_ n6_ n7_; clear hb hbox hg))
             have n0_ := Aside0.mk (Kd.R_drew HO_7.out)
             have n1_ := Aside0.mk (blk_drew BK795.out)
             have n2_ := Aside0.mk (blk_drew BK801.out)
             have n3_ := Aside0.mk (below_drew1 HB.out)
             clear HO_7
             clear BK795
             clear BK801
             clear HB
             have HO_7 := n0_
             have BK795 := n1_
             have BK801 := n2_
             have HB := n3_
             clear n0_ n1_ n2_ n3_
             have p802 : 0 ≤ (x12_2 : Int) := of_decide_eq_true (by first | (with_reducible assumption) | assumption)
             have q802 : x12_2 < (l0.length : Int) := of_decide_eq_true (by first | (with_reducible assumption) | assumption)
             obtain ⟨ad802, e802, hx802_0, hx802_1⟩ := at_T57 HR0.out x12_2 p802 q802
             have hw802_1 := hx802_1
             have hw802_0 := hx802_0
             obtain rfl : ad796 = ad802 := (by injection e802)
             replace hx802_0 := (HB.out.cell (World.block_lt_of_cell? w _ hx802_0)).trans hx802_0
             replace hx802_1 := (HB.out.cell (World.block_lt_of_cell? w _ hx802_1)).trans hx802_1
             replace p802 := eq_true p802
             replace q802 := eq_true q802
             have p803 : 0 ≤ ((ji21) : Int) := of_decide_eq_true (by first | (with_reducible assumption) | assumption)
             have q803 : (ji21) < (l0.length : Int) := of_decide_eq_true (by first | (with_reducible assumption) | assumption)
             obtain ⟨ad803, e803, hx803_0, hx803_1⟩ := at_T57 HR0.out (ji21) p803 q803
             have hw803_1 := hx803_1
             have hw803_0 := hx803_0
             obtain rfl : ad796 = ad803 := (by injection e803)
             replace hx803_0 := (HB.out.cell (World.block_lt_of_cell? w _ hx803_0)).trans hx803_0
             replace hx803_1 := (HB.out.cell (World.block_lt_of_cell? w _ hx803_1)).trans hx803_1
             replace p803 := eq_true p803
             replace q803 := eq_true q803
             refine start_ (n := 16) (S := fun w' => w'.cell? (ad796.add ((x12_2).toNat * 2)) = some (.int .i64 ((rd_T57 l0 x12_2).f0)) ∧ w'.cell? ⟨(ad796.add ((x12_2).toNat * 2)).block, (ad796.add ((x12_2).toNat * 2)).off + 1, none⟩ = some (.int .i64 ((rd_T57 l0 x12_2).f1)) ∧ w'.cell? (ad796.add (((ji21)).toNat * 2)) = some (.int .i64 ((rd_T57 l0 (ji21)).f0)) ∧ w'.cell? ⟨(ad796.add (((ji21)).toNat * 2)).block, (ad796.add (((ji21)).toNat * 2)).off + 1, none⟩ = some (.int .i64 ((rd_T57 l0 (ji21)).f1))) (ds := []) #[false, false, false, false, false, false, false, false, false, false, false, false, false, false, false, false] (by kernel_rfl) rfl rfl ⟨((HB.out.cell (World.block_lt_of_cell? w _ hw802_0)).trans hw802_0), ((HB.out.cell (World.block_lt_of_cell? w _ hw802_1)).trans hw802_1), ((HB.out.cell (World.block_lt_of_cell? w _ hw803_0)).trans hw803_0), ((HB.out.cell (World.block_lt_of_cell? w _ hw803_1)).trans hw803_1)⟩ (fun hHeld => ?_); refine with_tabW law_CurveRates.tab17 law_CurveRates.bits17 (fun HT_ HW_ => ?_)
             generalize w28.drew = w29 at HO_7 BK795 BK801 HB hx802_0 hx802_1 hx803_0 hx803_1 hHeld ⊢
             refine pure_ (i := 0) (N := some 98) (v := ?_) (a' := ?_) #[true, false, false, false, false, false, false, false, false, false, false, false, false, false, false, false] rfl rfl (any_of HT_.out (by kernel_rfl)) (fun _ _ _ h => h) (Or.inl ⟨by rfl, ?_⟩) ?_ ?_
             rotate_left
             ·
              intro w'
              go_simp
              with_reducible rfl
             rotate_left
             ·
              simp only [Act.put, List.setIfInBounds_toArray, List.set_cons_zero, List.set_cons_succ, i64_w, i32_w]
              rfl
             refine pure_ (i := 1) (N := some 99) (v := ?_) (a' := ?_) #[true, true, false, false, false, false, false, false, false, false, false, false, false, false, false, false] rfl rfl (any_of HT_.out (by kernel_rfl)) (fun _ _ _ h => h) (Or.inl ⟨by rfl, ?_⟩) ?_ ?_
             rotate_left
             ·
              intro w'
              go_simp
              with_reducible rfl
             rotate_left
             ·
              simp only [Act.put, List.setIfInBounds_toArray, List.set_cons_zero, List.set_cons_succ, i64_w, i32_w]
              rfl
             refine pure_ (i := 2) (N := some 100) (v := ?_) (a' := ?_) #[true, true, true, false, false, false, false, false, false, false, false, false, false, false, false, false] rfl rfl (any_of HT_.out (by kernel_rfl)) (fun _ _ _ h => h) (Or.inl ⟨by rfl, ?_⟩) ?_ ?_
             rotate_left
             ·
              intro w'
              go_simp
              with_reducible rfl
             rotate_left
             ·
              simp only [Act.put, List.setIfInBounds_toArray, List.set_cons_zero, List.set_cons_succ, i64_w, i32_w]
              rfl
             refine pure_ (i := 3) (N := some 101) (v := ?_) (a' := ?_) #[true, true, true, true, false, false, false, false, false, false, false, false, false, false, false, false] rfl rfl (any_of HT_.out (by kernel_rfl)) (fun _ _ _ h => h) (Or.inl ⟨by rfl, ?_⟩) ?_ ?_
             rotate_left
             ·
              intro w'
              go_simp
              with_reducible rfl
             rotate_left
             ·
              simp only [Act.put, List.setIfInBounds_toArray, List.set_cons_zero, List.set_cons_succ, i64_w, i32_w]
              rfl
             refine pure_ (i := 5) (N := some 103) (v := ?_) (a' := ?_) #[true, true, true, true, false, true, false, false, false, false, false, false, false, false, false, false] rfl rfl (any_of HT_.out (by kernel_rfl)) (fun _ _ _ h => h) (Or.inl ⟨by rfl, ?_⟩) ?_ ?_
             rotate_left
             ·
              intro w'
              go_simp
              with_reducible rfl
             rotate_left
             ·
              simp only [Act.put, List.setIfInBounds_toArray, List.set_cons_zero, List.set_cons_succ, i64_w, i32_w]
              rfl
             refine pure_ (i := 6) (N := some 104) (v := ?_) (a' := ?_) #[true, true, true, true, false, true, true, false, false, false, false, false, false, false, false, false] rfl rfl (any_of HT_.out (by kernel_rfl)) (fun _ _ _ h => h) (Or.inl ⟨by rfl, ?_⟩) ?_ ?_
             rotate_left
             ·
              intro w'
              go_simp
              with_reducible rfl
             rotate_left
             ·
              simp only [Act.put, List.setIfInBounds_toArray, List.set_cons_zero, List.set_cons_succ, i64_w, i32_w]
              rfl
             refine pure_ (i := 7) (N := some 105) (v := ?_) (a' := ?_) #[true, true, true, true, false, true, true, true, false, false, false, false, false, false, false, false] rfl rfl (any_of HT_.out (by kernel_rfl)) (fun _ _ _ h => h) (Or.inl ⟨by rfl, ?_⟩) ?_ ?_
             rotate_left
             ·
              intro w'
              go_simp
              with_reducible rfl
             rotate_left
             ·
              simp only [Act.put, List.setIfInBounds_toArray, List.set_cons_zero, List.set_cons_succ, i64_w, i32_w]
              rfl
             refine pure_ (i := 8) (N := some 106) (v := ?_) (a' := ?_) #[true, true, true, true, false, true, true, true, true, false, false, false, false, false, false, false] rfl rfl (any_of HT_.out (by kernel_rfl)) (fun _ _ _ h => h) (Or.inl ⟨by rfl, ?_⟩) ?_ ?_
             rotate_left
             ·
              intro w'
              go_simp
              with_reducible rfl
             rotate_left
             ·
              simp only [Act.put, List.setIfInBounds_toArray, List.set_cons_zero, List.set_cons_succ, i64_w, i32_w]
              rfl
             refine pure_ (i := 9) (N := some 107) (v := ?_) (a' := ?_) #[true, true, true, true, false, true, true, true, true, true, false, false, false, false, false, false] rfl rfl (any_of HT_.out (by kernel_rfl)) (fun _ _ _ h => h) (Or.inl ⟨by rfl, ?_⟩) ?_ ?_
             rotate_left
             ·
              intro w'
              go_simp
              with_reducible rfl
             rotate_left
             ·
              simp only [Act.put, List.setIfInBounds_toArray, List.set_cons_zero, List.set_cons_succ, i64_w, i32_w]
              rfl
             refine pure_ (i := 12) (N := some 110) (v := ?_) (a' := ?_) #[true, true, true, true, false, true, true, true, true, true, false, false, true, false, false, false] rfl rfl (any_of HT_.out (by kernel_rfl)) (fun _ _ _ h => h) (Or.inl ⟨by rfl, ?_⟩) ?_ ?_
             rotate_left
             ·
              intro w'
              go_simp
              with_reducible rfl
             rotate_left
             ·
              simp only [Act.put, List.setIfInBounds_toArray, List.set_cons_zero, List.set_cons_succ, i64_w, i32_w]
              rfl
             refine pure_ (i := 15) (N := some 113) (v := ?_) (a' := ?_) #[true, true, true, true, false, true, true, true, true, true, false, false, true, false, false, true] rfl rfl (any_of HT_.out (by kernel_rfl)) (fun _ _ _ h => h) (Or.inl ⟨by rfl, ?_⟩) ?_ ?_
             rotate_left
             ·
              intro w'
              go_simp
              with_reducible rfl
             rotate_left
             ·
              simp only [Act.put, List.setIfInBounds_toArray, List.set_cons_zero, List.set_cons_succ, i64_w, i32_w]
              rfl
             refine take_ (i := 4) (N := some 102) (v := ?_) (a' := ?_) #[true, true, true, true, true, true, true, true, true, true, false, false, true, false, false, true] rfl rfl (take_ofW HT_.out HW_.out (by kernel_rfl)) (fun _ _ _ h => h) (Or.inl ⟨by rfl, ?_⟩) hHeld ?_ ?_
             rotate_left
             ·
              rintro w' ⟨s0, s1, s2, s3⟩
              go_simp
              with_reducible rfl
             rotate_left
             ·
              simp only [Act.put, List.setIfInBounds_toArray, List.set_cons_zero, List.set_cons_succ, i64_w, i32_w]
              rfl
             refine take_ (i := 10) (N := some 108) (v := ?_) (a' := ?_) #[true, true, true, true, true, true, true, true, true, true, true, false, true, false, false, true] rfl rfl (take_ofW HT_.out HW_.out (by kernel_rfl)) (fun _ _ _ h => h) (Or.inl ⟨by rfl, ?_⟩) hHeld ?_ ?_
             rotate_left
             ·
              rintro w' ⟨s0, s1, s2, s3⟩
              go_simp
              with_reducible rfl
             rotate_left
             ·
              simp only [Act.put, List.setIfInBounds_toArray, List.set_cons_zero, List.set_cons_succ, i64_w, i32_w]
              rfl
             refine pure_ (i := 11) (N := some 109) (v := ?_) (a' := ?_) #[true, true, true, true, true, true, true, true, true, true, true, true, true, false, false, true] rfl rfl (any_of HT_.out (by kernel_rfl)) (fun _ _ _ h => h) (Or.inl ⟨by rfl, ?_⟩) ?_ ?_
             rotate_left
             ·
              intro w'
              go_simp
              with_reducible rfl
             rotate_left
             ·
              simp only [Act.put, List.setIfInBounds_toArray, List.set_cons_zero, List.set_cons_succ, i64_w, i32_w]
              rfl
             refine one_ (i := 13) (N := some 111) #[true, true, true, true, true, true, true, true, true, true, true, true, true, true, false, true] rfl rfl (one_of HT_.out (by kernel_rfl)) (by decide) (fun K hK => ?_)
             refine Kd.R_lit_step (Kd.int .i64) _ 3 ?hg (N := 111) ?hd (xs := ([(rd_T57 l0 x12_2).f0, wrap64 (((rd_T57 l0 (ji21)).f0) - 1), wrap64 (((rd_T57 l0 x12_2).f0) + (Int.tmod (wrap64 ((Int.tmod a1 (wrap64 (((rd_T57 l0 (ji21)).f0) - ((rd_T57 l0 x12_2).f0)))) + (wrap64 (((rd_T57 l0 (ji21)).f0) - ((rd_T57 l0 x12_2).f0))))) (wrap64 (((rd_T57 l0 (ji21)).f0) - ((rd_T57 l0 x12_2).f0)))))] : List Int)) (inner := [.int .i64 ((rd_T57 l0 x12_2).f0), .int .i64 (wrap64 (((rd_T57 l0 (ji21)).f0) - 1)), .int .i64 (wrap64 (((rd_T57 l0 x12_2).f0) + (Int.tmod (wrap64 ((Int.tmod a1 (wrap64 (((rd_T57 l0 (ji21)).f0) - ((rd_T57 l0 x12_2).f0)))) + (wrap64 (((rd_T57 l0 (ji21)).f0) - ((rd_T57 l0 x12_2).f0))))) (wrap64 (((rd_T57 l0 (ji21)).f0) - ((rd_T57 l0 x12_2).f0))))))]) (ok := fun _ => True) (okp := fun _ => True) ?hr ?hp (fun _ hk => hk) trivial (Below.refl _ _) (Nat.le_refl _) (by simp) ?_; (case hd => rfl); (case hg => rfl); (case hr => first | (go_simp; done) | (go_simp; rfl)); (case hp => exact (Reps.one (show Kd.M (Kd.int .i64) _ _ _ ((rd_T57 l0 x12_2).f0) [.int .i64 ((rd_T57 l0 x12_2).f0)] from rfl) (Reps.one (show Kd.M (Kd.int .i64) _ _ _ (wrap64 (((rd_T57 l0 (ji21)).f0) - 1)) [.int .i64 (wrap64 (((rd_T57 l0 (ji21)).f0) - 1))] from rfl) (Reps.one (show Kd.M (Kd.int .i64) _ _ _ (wrap64 (((rd_T57 l0 x12_2).f0) + (Int.tmod (wrap64 ((Int.tmod a1 (wrap64 (((rd_T57 l0 (ji21)).f0) - ((rd_T57 l0 x12_2).f0)))) + (wrap64 (((rd_T57 l0 (ji21)).f0) - ((rd_T57 l0 x12_2).f0))))) (wrap64 (((rd_T57 l0 (ji21)).f0) - ((rd_T57 l0 x12_2).f0)))))) [.int .i64 (wrap64 (((rd_T57 l0 x12_2).f0) + (Int.tmod (wrap64 ((Int.tmod a1 (wrap64 (((rd_T57 l0 (ji21)).f0) - ((rd_T57 l0 x12_2).f0)))) + (wrap64 (((rd_T57 l0 (ji21)).f0) - ((rd_T57 l0 x12_2).f0))))) (wrap64 (((rd_T57 l0 (ji21)).f0) - ((rd_T57 l0 x12_2).f0))))))] from rfl) (Reps.none _ _)))))
             intro v805 w30 ho31 hb hg_ hnew_
             clear hg_ hnew_
             (first | rw [← Ny804.out] at ho31 | (simp only [Int.reduceToNat] at ho31; rw [← Ny804.out] at ho31))
             have n0_ := Aside0.mk (Kd.R_below (by (with_reducible repeat (first | apply Kd.R_alloc | apply Kd.R_drewN | apply Kd.R_drew)); exact HO_7.out) hb)
             have n1_ := Aside0.mk (Kd.R_lower ho31 (below_size (by repeat (first | (with_reducible first | exact HB.out | apply below_alloc | apply pw_below_drewN | apply below_drew1 | refine below_set ?_ GE795.out | refine below_set ?_ GE801.out) | exact HB.out))))
             have n2_ := Aside0.mk (blk_below (g := gb795) (o := .cells #[.int .i64 x796000_2, .int .i64 x796001_2] 25 (0, 0)) (by (with_reducible repeat (first | refine blk_drewN ?_ _ | refine blk_drew ?_ | refine blk_alloc ?_ _)); exact BK795.out) hb)
             have n3_ := Aside0.mk (blk_below (g := gb801) (o := .cells #[.int .i64 0, .int .i64 0] 25 (0, 0)) (by (with_reducible repeat (first | refine blk_drewN ?_ _ | refine blk_drew ?_ | refine blk_alloc ?_ _)); exact BK801.out) hb)
             have n4_ := Aside0.mk (below_step (by repeat (first | (with_reducible first | exact HB.out | apply below_alloc | apply pw_below_drewN | apply below_drew1 | refine below_set ?_ GE795.out | refine below_set ?_ GE801.out) | exact HB.out)) hb)
             clear HO_7
             clear BK795
             clear BK801
             clear HB
             have HO_7 := n0_
             have HO806 := n1_
             have BK795 := n2_
             have BK801 := n3_
             have HB := n4_
             clear n0_ n1_ n2_ n3_ n4_
             clear hb ho31
             obtain ⟨Ao32, co32, eo32⟩ := Kd.R_slice HO806.out
             (first | subst eo32 | (injection eo32 with f1_ f2_ f3_; have f4_ := f1_.symm; have f5_ := f3_.symm; clear f1_ f2_ f3_; subst f4_; subst f5_))
             refine hK.out _ _ ⟨((HB.out.cell (World.block_lt_of_cell? w _ hw802_0)).trans hw802_0), ((HB.out.cell (World.block_lt_of_cell? w _ hw802_1)).trans hw802_1), ((HB.out.cell (World.block_lt_of_cell? w _ hw803_0)).trans hw803_0), ((HB.out.cell (World.block_lt_of_cell? w _ hw803_1)).trans hw803_1)⟩ (fun hHeld => ?_)
             clear hK K
             refine norm_ (a' := ?_) ?_ ?_
             rotate_left
             ·
              show Act.put _ (some 111) _ = _
              simp only [Act.put, List.setIfInBounds_toArray, List.set_cons_zero, List.set_cons_succ, i64_w, i32_w]
              rfl
             refine pure_ (i := 14) (N := some 112) (v := ?_) (a' := ?_) #[true, true, true, true, true, true, true, true, true, true, true, true, true, true, true, true] rfl rfl (any_of HT_.out (by kernel_rfl)) (fun _ _ _ h => h) (Or.inl ⟨by rfl, ?_⟩) ?_ ?_
             rotate_left
             ·
              intro w'
              go_simp
              with_reducible rfl
             rotate_left
             ·
              simp only [Act.put, List.setIfInBounds_toArray, List.set_cons_zero, List.set_cons_succ, i64_w, i32_w]
              rfl
             refine done_ (done_of HT_.out (by kernel_rfl)) ?_
             try go_wp2
             go_loopg [113] k2 (fun kq v113 w' => ∃ (x113_3 : Int) (x802000_3 : Int) (x802001_3 : Int), v113 = .int .i64 x113_3 ∧ Aside0 (law_CurveRates.l1 kq l0 a1 t788 t790 x9_2 x10_2 x12_2 (wrap64 (((rd_T57 l0 (ji21)).f0) - ((rd_T57 l0 x12_2).f0))) (wrap64 (((rd_T57 l0 (ji21)).f1) - ((rd_T57 l0 x12_2).f1))) y804 (y804.length : Int) x113_3 x796000_2 x796001_2 x802000_3 x802001_3 = some r) ∧ Aside0 (kq ≤ k2) ∧ Aside0 (Kd.R k57 57 w' w.heap.size (fun _ => True) v792 t790) ∧ Aside0 (Kd.R (Kd.int .i64) 3 w' w.heap.size (fun _ => True) (.slice Ao32 y804.length co32) y804) ∧ Aside0 (w'.heap[gb795]? = some (.cells #[.int .i64 x796000_2, .int .i64 x796001_2] 25 (0, 0))) ∧ Aside0 (w'.heap[gb801]? = some (.cells #[.int .i64 x802000_3, .int .i64 x802001_3] 25 (0, 0))) ∧ Aside0 (Below w.heap.size w w'))
             case atStart => exact ⟨(0), (0), (0), (by first | rfl | (simp; done) | (simp [*]; done)), H', ⟨Nat.le_refl _⟩, ⟨by (with_reducible repeat (first | apply Kd.R_alloc | apply Kd.R_drewN | apply Kd.R_drew)); exact HO_7.out⟩, ⟨by (with_reducible repeat (first | apply Kd.R_alloc | apply Kd.R_drewN | apply Kd.R_drew)); exact HO806.out⟩, ⟨by (with_reducible repeat (first | refine blk_drewN ?_ _ | refine blk_drew ?_ | refine blk_alloc ?_ _)); exact BK795.out⟩, ⟨by (with_reducible repeat (first | refine blk_drewN ?_ _ | refine blk_drew ?_ | refine blk_alloc ?_ _)); exact BK801.out⟩, ⟨by repeat (first | (with_reducible first | exact HB.out | apply below_alloc | apply pw_below_drewN | apply below_drew1 | refine below_set ?_ GE795.out | refine below_set ?_ GE801.out) | exact HB.out)⟩⟩
             case round => as_aux_lemma =>
              clear H'
              try clear c2
              try clear p2
              try clear p6
              try clear p7
              try clear q7
              try clear hx7
              try clear p8
              try clear q8
              try clear hx8
              try clear c25
              try clear c25b0
              try clear c25b1
              try clear hx796_0
              try clear hx796_1
              try clear hx797_0
              try clear hx797_1
              try clear hx798_0
              try clear hx798_1
              try clear hx799_0
              try clear hx799_1
              try clear hx800_0
              try clear hx800_1
              try clear hx802_0
              try clear hx802_1
              try clear hx803_0
              try clear hx803_1
              try clear p796
              try clear p797
              try clear p798
              try clear p799
              try clear p800
              try clear p802
              try clear p803
              try clear q796
              try clear q797
              try clear q798
              try clear q799
              try clear q800
              try clear q802
              try clear q803
              obtain ⟨x113_3, x802000_3, x802001_3, rfl, HA, HK3, HO_7, HO_111, BK795, BK801, HB⟩ := hrel
              cases gk with
              | zero => exact absurd HA.out (by simp [law_CurveRates.l1])
              | succ k3 =>
               have H := HA.out
               clear HA
               simp only [law_CurveRates.l1] at H
               by_cases c33 : x113_3 < (y804.length : Int)
               ·
                rw [if_pos c33] at H
                have c33b0 : decide (x113_3 < (y804.length : Int)) = true := decide_eq_true c33
                clear c33
                by_cases c34 : 0 ≤ x113_3
                ·
                 rw [if_pos c34] at H
                 have c34b0 : decide (0 ≤ x113_3) = true := decide_eq_true c34
                 clear c34
                 by_cases c35 : x113_3 < (y804.length : Int)
                 ·
                  rw [if_pos c35] at H
                  have c35b0 : decide (x113_3 < (y804.length : Int)) = true := decide_eq_true c35
                  clear c35
                  replace H := Option.bind_eq_some_iff.mp H
                  obtain ⟨⟨t808, t809, t810⟩, A360, H⟩ := H
                  replace H : (if t810 = 0 then (if t809 < 1 then (law_CurveRates.j3 k3 l0 a1 t788 t790 x9_2 x10_2 x12_2 (wrap64 (((rd_T57 l0 (ji21)).f0) - ((rd_T57 l0 x12_2).f0))) (wrap64 (((rd_T57 l0 (ji21)).f1) - ((rd_T57 l0 x12_2).f1))) y804 (y804.length : Int) x113_3 true x796000_2 x796001_2 t808 t809) else (if t808 < 1 then (law_CurveRates.j3 k3 l0 a1 t788 t790 x9_2 x10_2 x12_2 (wrap64 (((rd_T57 l0 (ji21)).f0) - ((rd_T57 l0 x12_2).f0))) (wrap64 (((rd_T57 l0 (ji21)).f1) - ((rd_T57 l0 x12_2).f1))) y804 (y804.length : Int) x113_3 true x796000_2 x796001_2 t808 t809) else (if t809 > 16777216 then (law_CurveRates.j3 k3 l0 a1 t788 t790 x9_2 x10_2 x12_2 (wrap64 (((rd_T57 l0 (ji21)).f0) - ((rd_T57 l0 x12_2).f0))) (wrap64 (((rd_T57 l0 (ji21)).f1) - ((rd_T57 l0 x12_2).f1))) y804 (y804.length : Int) x113_3 true x796000_2 x796001_2 t808 t809) else (if t808 > 16777216 then (law_CurveRates.j3 k3 l0 a1 t788 t790 x9_2 x10_2 x12_2 (wrap64 (((rd_T57 l0 (ji21)).f0) - ((rd_T57 l0 x12_2).f0))) (wrap64 (((rd_T57 l0 (ji21)).f1) - ((rd_T57 l0 x12_2).f1))) y804 (y804.length : Int) x113_3 true x796000_2 x796001_2 t808 t809) else (if x113_3 > 0 then (law_CurveRates.j3 k3 l0 a1 t788 t790 x9_2 x10_2 x12_2 (wrap64 (((rd_T57 l0 (ji21)).f0) - ((rd_T57 l0 x12_2).f0))) (wrap64 (((rd_T57 l0 (ji21)).f1) - ((rd_T57 l0 x12_2).f1))) y804 (y804.length : Int) x113_3 (!(t808 == x802000_3) || (!(t809 == x802001_3))) x796000_2 x796001_2 t808 t809) else (law_CurveRates.j3 k3 l0 a1 t788 t790 x9_2 x10_2 x12_2 (wrap64 (((rd_T57 l0 (ji21)).f0) - ((rd_T57 l0 x12_2).f0))) (wrap64 (((rd_T57 l0 (ji21)).f1) - ((rd_T57 l0 x12_2).f1))) y804 (y804.length : Int) x113_3 false x796000_2 x796001_2 t808 t809)))))) else (law_CurveRates.j3 k3 l0 a1 t788 t790 x9_2 x10_2 x12_2 (wrap64 (((rd_T57 l0 (ji21)).f0) - ((rd_T57 l0 x12_2).f0))) (wrap64 (((rd_T57 l0 (ji21)).f1) - ((rd_T57 l0 x12_2).f1))) y804 (y804.length : Int) x113_3 true x796000_2 x796001_2 t808 t809)) = some r := H
                  have A36 := Aside0.mk A360
                  clear A360
                  have HC37 := Aside0.mk H
                  clear H
                  have p807 : 0 ≤ (x113_3 : Int) := of_decide_eq_true (by first | (with_reducible assumption) | assumption)
                  have q807 : x113_3 < (y804.length : Int) := of_decide_eq_true (by first | (with_reducible assumption) | assumption)
                  obtain ⟨ad807, e807, hx807_0⟩ := Kd.at_int (Kd.R_reads' HO_111.out).2.2 x113_3 p807 q807
                  cases e807
                  replace p807 := eq_true p807
                  replace q807 := eq_true q807
                  go_upto_region 21 with (first | ((with_reducible refine gate_callee (f := 28) rfl ?_); refine goesL_ (some 121) rfl rfl Tryd.func28 (by kernel_rfl) rfl #[.slice (some ad796) l0.length c0, .int .i64 (rd y804 x113_3)] rfl (by (try simp only [List.map_toArray, List.map_cons, List.map_nil]); first | done | rfl | (simp only [List.length_drop, List.length_take]; rfl)) ?_; (with_reducible refine (curve_Rate.calls _ _ l0 (rd y804 x113_3) t808 t809 t810 _ ?side1 ?side2 A36.out).mono ?_); (case side1 => repeat (first | exact (Kd.C_below HR0.out HB.out) | (with_reducible refine Kd.C_alloc ?_ _) | (with_reducible refine Kd.C_drewN ?_ _) | (with_reducible refine Kd.C_drew ?_))); (case side2 => exact HC0.out); rintro e w38 ⟨rfl, hb⟩; refine ⟨_, rfl, ?_⟩; have n0_ := Aside0.mk (Kd.R_below (by (with_reducible repeat (first | apply Kd.R_alloc | apply Kd.R_drewN | apply Kd.R_drew)); exact HO_7.out) hb); have n1_ := Aside0.mk (Kd.R_below (by (with_reducible repeat (first | apply Kd.R_alloc | apply Kd.R_drewN | apply Kd.R_drew)); exact HO_111.out) hb); have n2_ := Aside0.mk (blk_below (g := gb795) (o := .cells #[.int .i64 x796000_2, .int .i64 x796001_2] 25 (0, 0)) (by (with_reducible repeat (first | refine blk_drewN ?_ _ | refine blk_drew ?_ | refine blk_alloc ?_ _)); exact BK795.out) hb); have n3_ := Aside0.mk (blk_below (g := gb801) (o := .cells #[.int .i64 x802000_3, .int .i64 x802001_3] 25 (0, 0)) (by (with_reducible repeat (first | refine blk_drewN ?_ _ | refine blk_drew ?_ | refine blk_alloc ?_ _)); exact BK801.out) hb); have n4_ := Aside0.mk (below_step (by repeat (first | (with_reducible first | exact HB.out | apply below_alloc | apply pw_below_drewN | apply below_drew1 | refine below_set ?_ GE795.out | refine below_set ?_ GE801.out) | exact HB.out)) hb); clear HO_7; clear HO_111; clear BK795; clear BK801; clear HB; have HO_7 := n0_; have HO_111 := n1_; have BK795 := n2_; have BK801 := n3_; have HB := n4_; clear n0_ n1_ n2_ n3_ n4_; (try clear hb); (try clear hb2); (try clear hk); (try clear hi)) | ((with_reducible refine gate_dst (N := 19) rfl ?_); refine box_event ?hg (N := 19) ?hd (cs := #[.int .i64 0, .int .i64 0]) (t := 25) ?hr ?_; (case hd => rfl); (case hg => rfl); (case hr => first | (go_simp; done) | (go_simp; rfl)); intro gb811 hg w39 hbox hb; have n0_ := Aside0.mk (Kd.R_below (by (with_reducible repeat (first | apply Kd.R_alloc | apply Kd.R_drewN | apply Kd.R_drew)); exact HO_7.out) hb); have n1_ := Aside0.mk (Kd.R_below (by (with_reducible repeat (first | apply Kd.R_alloc | apply Kd.R_drewN | apply Kd.R_drew)); exact HO_111.out) hb); have n2_ := Aside0.mk (blk_below (g := gb795) (o := .cells #[.int .i64 x796000_2, .int .i64 x796001_2] 25 (0, 0)) (by (with_reducible repeat (first | refine blk_drewN ?_ _ | refine blk_drew ?_ | refine blk_alloc ?_ _)); exact BK795.out) hb); have n3_ := Aside0.mk (blk_below (g := gb801) (o := .cells #[.int .i64 x802000_3, .int .i64 x802001_3] 25 (0, 0)) (by (with_reducible repeat (first | refine blk_drewN ?_ _ | refine blk_drew ?_ | refine blk_alloc ?_ _)); exact BK801.out) hb); have n4_ := Aside0.mk (below_step (by repeat (first | (with_reducible first | exact HB.out | apply below_alloc | apply pw_below_drewN | apply below_drew1 | refine below_set ?_ GE795.out | refine below_set ?_ GE801.out) | exact HB.out)) hb); have n5_ := Aside0.mk (hbox); have n6_ := Aside0.mk ((by rw [hg]; exact (below_size (by repeat (first | (with_reducible first | exact HB.out | apply below_alloc | apply pw_below_drewN | apply below_drew1 | refine below_set ?_ GE795.out | refine below_set ?_ GE801.out) | exact HB.out))) : w.heap.size ≤ gb811)); have n7_ := Aside0.mk ((by rw [hg]; exact (below_size (by repeat (first | (with_reducible first | exact HB.out | apply below_alloc | apply pw_below_drewN | apply below_drew1 | refine below_set ?_ GE795.out | refine below_set ?_ GE801.out) | exact HB.out))) : w.heap.size ≤ gb811)); have n8_ := Aside0.mk ((by rw [hg]; exact Nat.ne_of_lt (blk_lt (g := gb795) (o := .cells #[.int .i64 x796000_2, .int .i64 x796001_2] 25 (0, 0)) (by (with_reducible repeat (first | refine blk_drewN ?_ _ | refine blk_drew ?_ | refine blk_alloc ?_ _)); exact BK795.out)) : gb795 ≠ gb811)); have n9_ := Aside0.mk ((by rw [hg]; exact Nat.ne_of_gt (blk_lt (g := gb795) (o := .cells #[.int .i64 x796000_2, .int .i64 x796001_2] 25 (0, 0)) (by (with_reducible repeat (first | refine blk_drewN ?_ _ | refine blk_drew ?_ | refine blk_alloc ?_ _)); exact BK795.out)) : gb811 ≠ gb795)); have n10_ := Aside0.mk ((by rw [hg]; exact Nat.ne_of_lt (blk_lt (g := gb801) (o := .cells #[.int .i64 x802000_3, .int .i64 x802001_3] 25 (0, 0)) (by (with_reducible repeat (first | refine blk_drewN ?_ _ | refine blk_drew ?_ | refine blk_alloc ?_ _)); exact BK801.out)) : gb801 ≠ gb811)); have n11_ := Aside0.mk ((by rw [hg]; exact Nat.ne_of_gt (blk_lt (g := gb801) (o := .cells #[.int .i64 x802000_3, .int .i64 x802001_3] 25 (0, 0)) (by (with_reducible repeat (first | refine blk_drewN ?_ _ | refine blk_drew ?_ | refine blk_alloc ?_ _)); exact BK801.out)) : gb811 ≠ gb801)); clear HO_7; clear HO_111; clear BK795; clear BK801; clear HB; have HO_7 := n0_; have HO_111 := n1_; have BK795 := n2_; have BK801 := n3_; have HB := n4_; have BK811 := n5_; have GW811 := n6_; have GE811 := n7_; have NB795_811 := n8_; have NB811_795 := n9_; have NB801_811 := n10_; have NB811_801 := n11_; clear n0_ n1_ n2_ n3_ n4_ n5_ n6_ n7_ n8_ n9_ n10_ n11_; clear hb hbox hg; have hnb40 := NB811_795.out; have hnc40 := NB795_811.out; have hnb41 := NB811_801.out; have hnc41 := NB801_811.out; have hcz42_0 : w39.cell? ⟨gb811, 0, none⟩ = some (.int .i64 0) := (blk_cell BK811.out 0).trans rfl; have hcz42_1 : w39.cell? ⟨gb811, 1, none⟩ = some (.int .i64 0) := (blk_cell BK811.out 1).trans rfl; have hfz42_0 := blk_frozen BK811.out 0; have hfz42_1 := blk_frozen BK811.out 1))
                  (try simp only [Act.put, List.setIfInBounds_toArray, List.set_cons_zero, List.set_cons_succ])
                  go_cut [154] (fun v154 wc => ∃ (kq : Nat) (x154_36 : Bool), v154 = .bool x154_36 ∧ Aside0 (law_CurveRates.j3 kq l0 a1 t788 t790 x9_2 x10_2 x12_2 (wrap64 (((rd_T57 l0 (ji21)).f0) - ((rd_T57 l0 x12_2).f0))) (wrap64 (((rd_T57 l0 (ji21)).f1) - ((rd_T57 l0 x12_2).f1))) y804 (y804.length : Int) x113_3 x154_36 x796000_2 x796001_2 t808 t809 = some r) ∧ Aside0 (kq ≤ k3) ∧ Aside0 (Kd.R k57 57 wc w.heap.size (fun _ => True) v792 t790) ∧ Aside0 (Kd.R (Kd.int .i64) 3 wc w.heap.size (fun _ => True) (.slice (some ad807) y804.length co32) y804) ∧ Aside0 (wc.heap[gb795]? = some (.cells #[.int .i64 x796000_2, .int .i64 x796001_2] 25 (0, 0))) ∧ Aside0 (wc.heap[gb801]? = some (.cells #[.int .i64 x802000_3, .int .i64 x802001_3] 25 (0, 0))) ∧ Aside0 (wc.heap[gb811]? = some (.cells #[.int .i64 t808, .int .i64 t809] 25 (0, 0))) ∧ Aside0 (Below w.heap.size w wc))
                  case first => as_aux_lemma =>
                   have H := HC37.out
                   clear HC37
                   by_cases c43 : t810 = 0
                   ·
                    rw [if_pos c43] at H
                    have c43b0 : (t810 == 0) = true := beq_iff_eq.mpr c43
                    have c43b1 : (t810 != 0) = false := bne_eq_false_iff_eq.mpr c43
                    clear c43
                    (first | rw [c43b0] | (simp only [i64_w, i32_w]; rw [c43b0]) | skip)
                    by_cases c44 : t809 < 1
                    ·
                     rw [if_pos c44] at H
                     have c44b0 : decide (t809 < 1) = true := decide_eq_true c44
                     clear c44
                     have H' := Aside0.mk H
                     clear H
                     have hnb45 := NB811_795.out
                     have hnc45 := NB795_811.out
                     have hnb46 := NB811_801.out
                     have hnc46 := NB801_811.out
                     have hcz47_0 : w39.cell? ⟨gb811, 0, none⟩ = some (.int .i64 0) := (blk_cell BK811.out 0).trans rfl
                     have hcz47_1 : w39.cell? ⟨gb811, 1, none⟩ = some (.int .i64 0) := (blk_cell BK811.out 1).trans rfl
                     have hfz47_0 := blk_frozen BK811.out 0
                     have hfz47_1 := blk_frozen BK811.out 1
                     go_wp2
                     go_meet
                     case rel => exact ⟨_, (true), (by first | rfl | (simp; done) | (simp [*]; done)), H', ⟨by have := HJ8.out; have := HK2.out; have := HK3.out; first | omega | exact Nat.le_refl _⟩, ⟨by (with_reducible repeat (first | apply Kd.R_alloc | apply Kd.R_drewN | apply Kd.R_drew)); exact Kd.R_mono (Kd.R_far (p := ⟨gb811, 1, none⟩) (Kd.R_far (p := ⟨gb811, 0, none⟩) (Kd.R_types HO_7.out BK811.out (by decide)) (fun _ hk => hk.2) (.int .i64 t808)) (fun _ hk => hk.2) (.int .i64 t809)) (fun _ hk => trivial)⟩, ⟨by (with_reducible repeat (first | apply Kd.R_alloc | apply Kd.R_drewN | apply Kd.R_drew)); exact Kd.R_mono (Kd.R_far (p := ⟨gb811, 1, none⟩) (Kd.R_far (p := ⟨gb811, 0, none⟩) (Kd.R_types HO_111.out BK811.out (by decide)) (fun _ hk => hk.2) (.int .i64 t808)) (fun _ hk => hk.2) (.int .i64 t809)) (fun _ hk => trivial)⟩, ⟨by (with_reducible repeat (first | refine blk_drewN ?_ _ | refine blk_drew ?_ | refine blk_alloc ?_ _)); refine blk_far ?_ NB795_811.out _; (with_reducible repeat (first | refine blk_drewN ?_ _ | refine blk_drew ?_ | refine blk_alloc ?_ _)); refine blk_far ?_ NB795_811.out _; (with_reducible repeat (first | refine blk_drewN ?_ _ | refine blk_drew ?_ | refine blk_alloc ?_ _)); exact BK795.out⟩, ⟨by (with_reducible repeat (first | refine blk_drewN ?_ _ | refine blk_drew ?_ | refine blk_alloc ?_ _)); refine blk_far ?_ NB801_811.out _; (with_reducible repeat (first | refine blk_drewN ?_ _ | refine blk_drew ?_ | refine blk_alloc ?_ _)); refine blk_far ?_ NB801_811.out _; (with_reducible repeat (first | refine blk_drewN ?_ _ | refine blk_drew ?_ | refine blk_alloc ?_ _)); exact BK801.out⟩, ⟨by (with_reducible repeat (first | refine blk_drewN ?_ _ | refine blk_drew ?_ | refine blk_alloc ?_ _)); refine blk_put (cs := #[.int .i64 t808, .int .i64 0]) ?_ 1 _ rfl; (with_reducible repeat (first | refine blk_drewN ?_ _ | refine blk_drew ?_ | refine blk_alloc ?_ _)); refine blk_put (cs := #[.int .i64 0, .int .i64 0]) ?_ 0 _ rfl; (with_reducible repeat (first | refine blk_drewN ?_ _ | refine blk_drew ?_ | refine blk_alloc ?_ _)); exact BK811.out⟩, ⟨by repeat (first | (with_reducible first | exact HB.out | apply below_alloc | apply pw_below_drewN | apply below_drew1 | refine below_set ?_ GE795.out | refine below_set ?_ GE801.out | refine below_set ?_ GE811.out) | exact HB.out)⟩⟩
                    ·
                     rw [if_neg c44] at H
                     have c44b0 : decide (t809 < 1) = false := decide_eq_false c44
                     clear c44
                     by_cases c48 : t808 < 1
                     ·
                      rw [if_pos c48] at H
                      have c48b0 : decide (t808 < 1) = true := decide_eq_true c48
                      clear c48
                      have H' := Aside0.mk H
                      clear H
                      have hnb49 := NB811_795.out
                      have hnc49 := NB795_811.out
                      have hnb50 := NB811_801.out
                      have hnc50 := NB801_811.out
                      have hcz51_0 : w39.cell? ⟨gb811, 0, none⟩ = some (.int .i64 0) := (blk_cell BK811.out 0).trans rfl
                      have hcz51_1 : w39.cell? ⟨gb811, 1, none⟩ = some (.int .i64 0) := (blk_cell BK811.out 1).trans rfl
                      have hfz51_0 := blk_frozen BK811.out 0
                      have hfz51_1 := blk_frozen BK811.out 1
                      go_wp2
                      go_meet
                      case rel => exact ⟨_, (true), (by first | rfl | (simp; done) | (simp [*]; done)), H', ⟨by have := HJ8.out; have := HK2.out; have := HK3.out; first | omega | exact Nat.le_refl _⟩, ⟨by (with_reducible repeat (first | apply Kd.R_alloc | apply Kd.R_drewN | apply Kd.R_drew)); exact Kd.R_mono (Kd.R_far (p := ⟨gb811, 1, none⟩) (Kd.R_far (p := ⟨gb811, 0, none⟩) (Kd.R_types HO_7.out BK811.out (by decide)) (fun _ hk => hk.2) (.int .i64 t808)) (fun _ hk => hk.2) (.int .i64 t809)) (fun _ hk => trivial)⟩, ⟨by (with_reducible repeat (first | apply Kd.R_alloc | apply Kd.R_drewN | apply Kd.R_drew)); exact Kd.R_mono (Kd.R_far (p := ⟨gb811, 1, none⟩) (Kd.R_far (p := ⟨gb811, 0, none⟩) (Kd.R_types HO_111.out BK811.out (by decide)) (fun _ hk => hk.2) (.int .i64 t808)) (fun _ hk => hk.2) (.int .i64 t809)) (fun _ hk => trivial)⟩, ⟨by (with_reducible repeat (first | refine blk_drewN ?_ _ | refine blk_drew ?_ | refine blk_alloc ?_ _)); refine blk_far ?_ NB795_811.out _; (with_reducible repeat (first | refine blk_drewN ?_ _ | refine blk_drew ?_ | refine blk_alloc ?_ _)); refine blk_far ?_ NB795_811.out _; (with_reducible repeat (first | refine blk_drewN ?_ _ | refine blk_drew ?_ | refine blk_alloc ?_ _)); exact BK795.out⟩, ⟨by (with_reducible repeat (first | refine blk_drewN ?_ _ | refine blk_drew ?_ | refine blk_alloc ?_ _)); refine blk_far ?_ NB801_811.out _; (with_reducible repeat (first | refine blk_drewN ?_ _ | refine blk_drew ?_ | refine blk_alloc ?_ _)); refine blk_far ?_ NB801_811.out _; (with_reducible repeat (first | refine blk_drewN ?_ _ | refine blk_drew ?_ | refine blk_alloc ?_ _)); exact BK801.out⟩, ⟨by (with_reducible repeat (first | refine blk_drewN ?_ _ | refine blk_drew ?_ | refine blk_alloc ?_ _)); refine blk_put (cs := #[.int .i64 t808, .int .i64 0]) ?_ 1 _ rfl; (with_reducible repeat (first | refine blk_drewN ?_ _ | refine blk_drew ?_ | refine blk_alloc ?_ _)); refine blk_put (cs := #[.int .i64 0, .int .i64 0]) ?_ 0 _ rfl; (with_reducible repeat (first | refine blk_drewN ?_ _ | refine blk_drew ?_ | refine blk_alloc ?_ _)); exact BK811.out⟩, ⟨by repeat (first | (with_reducible first | exact HB.out | apply below_alloc | apply pw_below_drewN | apply below_drew1 | refine below_set ?_ GE795.out | refine below_set ?_ GE801.out | refine below_set ?_ GE811.out) | exact HB.out)⟩⟩
                     ·
                      rw [if_neg c48] at H
                      have c48b0 : decide (t808 < 1) = false := decide_eq_false c48
                      clear c48
                      by_cases c52 : t809 > 16777216
                      ·
                       rw [if_pos c52] at H
                       have c52b0 : decide (16777216 < t809) = true := decide_eq_true c52
                       clear c52
                       have H' := Aside0.mk H
                       clear H
                       have hnb53 := NB811_795.out
                       have hnc53 := NB795_811.out
                       have hnb54 := NB811_801.out
                       have hnc54 := NB801_811.out
                       have hcz55_0 : w39.cell? ⟨gb811, 0, none⟩ = some (.int .i64 0) := (blk_cell BK811.out 0).trans rfl
                       have hcz55_1 : w39.cell? ⟨gb811, 1, none⟩ = some (.int .i64 0) := (blk_cell BK811.out 1).trans rfl
                       have hfz55_0 := blk_frozen BK811.out 0
                       have hfz55_1 := blk_frozen BK811.out 1
                       go_wp2
                       go_meet
                       case rel => exact ⟨_, (true), (by first | rfl | (simp; done) | (simp [*]; done)), H', ⟨by have := HJ8.out; have := HK2.out; have := HK3.out; first | omega | exact Nat.le_refl _⟩, ⟨by (with_reducible repeat (first | apply Kd.R_alloc | apply Kd.R_drewN | apply Kd.R_drew)); exact Kd.R_mono (Kd.R_far (p := ⟨gb811, 1, none⟩) (Kd.R_far (p := ⟨gb811, 0, none⟩) (Kd.R_types HO_7.out BK811.out (by decide)) (fun _ hk => hk.2) (.int .i64 t808)) (fun _ hk => hk.2) (.int .i64 t809)) (fun _ hk => trivial)⟩, ⟨by (with_reducible repeat (first | apply Kd.R_alloc | apply Kd.R_drewN | apply Kd.R_drew)); exact Kd.R_mono (Kd.R_far (p := ⟨gb811, 1, none⟩) (Kd.R_far (p := ⟨gb811, 0, none⟩) (Kd.R_types HO_111.out BK811.out (by decide)) (fun _ hk => hk.2) (.int .i64 t808)) (fun _ hk => hk.2) (.int .i64 t809)) (fun _ hk => trivial)⟩, ⟨by (with_reducible repeat (first | refine blk_drewN ?_ _ | refine blk_drew ?_ | refine blk_alloc ?_ _)); refine blk_far ?_ NB795_811.out _; (with_reducible repeat (first | refine blk_drewN ?_ _ | refine blk_drew ?_ | refine blk_alloc ?_ _)); refine blk_far ?_ NB795_811.out _; (with_reducible repeat (first | refine blk_drewN ?_ _ | refine blk_drew ?_ | refine blk_alloc ?_ _)); exact BK795.out⟩, ⟨by (with_reducible repeat (first | refine blk_drewN ?_ _ | refine blk_drew ?_ | refine blk_alloc ?_ _)); refine blk_far ?_ NB801_811.out _; (with_reducible repeat (first | refine blk_drewN ?_ _ | refine blk_drew ?_ | refine blk_alloc ?_ _)); refine blk_far ?_ NB801_811.out _; (with_reducible repeat (first | refine blk_drewN ?_ _ | refine blk_drew ?_ | refine blk_alloc ?_ _)); exact BK801.out⟩, ⟨by (with_reducible repeat (first | refine blk_drewN ?_ _ | refine blk_drew ?_ | refine blk_alloc ?_ _)); refine blk_put (cs := #[.int .i64 t808, .int .i64 0]) ?_ 1 _ rfl; (with_reducible repeat (first | refine blk_drewN ?_ _ | refine blk_drew ?_ | refine blk_alloc ?_ _)); refine blk_put (cs := #[.int .i64 0, .int .i64 0]) ?_ 0 _ rfl; (with_reducible repeat (first | refine blk_drewN ?_ _ | refine blk_drew ?_ | refine blk_alloc ?_ _)); exact BK811.out⟩, ⟨by repeat (first | (with_reducible first | exact HB.out | apply below_alloc | apply pw_below_drewN | apply below_drew1 | refine below_set ?_ GE795.out | refine below_set ?_ GE801.out | refine below_set ?_ GE811.out) | exact HB.out)⟩⟩
                      ·
                       rw [if_neg c52] at H
                       have c52b0 : decide (16777216 < t809) = false := decide_eq_false c52
                       clear c52
                       by_cases c56 : t808 > 16777216
                       ·
                        rw [if_pos c56] at H
                        have c56b0 : decide (16777216 < t808) = true := decide_eq_true c56
                        clear c56
                        have H' := Aside0.mk H
                        clear H
                        have hnb57 := NB811_795.out
                        have hnc57 := NB795_811.out
                        have hnb58 := NB811_801.out
                        have hnc58 := NB801_811.out
                        have hcz59_0 : w39.cell? ⟨gb811, 0, none⟩ = some (.int .i64 0) := (blk_cell BK811.out 0).trans rfl
                        have hcz59_1 : w39.cell? ⟨gb811, 1, none⟩ = some (.int .i64 0) := (blk_cell BK811.out 1).trans rfl
                        have hfz59_0 := blk_frozen BK811.out 0
                        have hfz59_1 := blk_frozen BK811.out 1
                        go_wp2
                        go_meet
                        case rel => exact ⟨_, (true), (by first | rfl | (simp; done) | (simp [*]; done)), H', ⟨by have := HJ8.out; have := HK2.out; have := HK3.out; first | omega | exact Nat.le_refl _⟩, ⟨by (with_reducible repeat (first | apply Kd.R_alloc | apply Kd.R_drewN | apply Kd.R_drew)); exact Kd.R_mono (Kd.R_far (p := ⟨gb811, 1, none⟩) (Kd.R_far (p := ⟨gb811, 0, none⟩) (Kd.R_types HO_7.out BK811.out (by decide)) (fun _ hk => hk.2) (.int .i64 t808)) (fun _ hk => hk.2) (.int .i64 t809)) (fun _ hk => trivial)⟩, ⟨by (with_reducible repeat (first | apply Kd.R_alloc | apply Kd.R_drewN | apply Kd.R_drew)); exact Kd.R_mono (Kd.R_far (p := ⟨gb811, 1, none⟩) (Kd.R_far (p := ⟨gb811, 0, none⟩) (Kd.R_types HO_111.out BK811.out (by decide)) (fun _ hk => hk.2) (.int .i64 t808)) (fun _ hk => hk.2) (.int .i64 t809)) (fun _ hk => trivial)⟩, ⟨by (with_reducible repeat (first | refine blk_drewN ?_ _ | refine blk_drew ?_ | refine blk_alloc ?_ _)); refine blk_far ?_ NB795_811.out _; (with_reducible repeat (first | refine blk_drewN ?_ _ | refine blk_drew ?_ | refine blk_alloc ?_ _)); refine blk_far ?_ NB795_811.out _; (with_reducible repeat (first | refine blk_drewN ?_ _ | refine blk_drew ?_ | refine blk_alloc ?_ _)); exact BK795.out⟩, ⟨by (with_reducible repeat (first | refine blk_drewN ?_ _ | refine blk_drew ?_ | refine blk_alloc ?_ _)); refine blk_far ?_ NB801_811.out _; (with_reducible repeat (first | refine blk_drewN ?_ _ | refine blk_drew ?_ | refine blk_alloc ?_ _)); refine blk_far ?_ NB801_811.out _; (with_reducible repeat (first | refine blk_drewN ?_ _ | refine blk_drew ?_ | refine blk_alloc ?_ _)); exact BK801.out⟩, ⟨by (with_reducible repeat (first | refine blk_drewN ?_ _ | refine blk_drew ?_ | refine blk_alloc ?_ _)); refine blk_put (cs := #[.int .i64 t808, .int .i64 0]) ?_ 1 _ rfl; (with_reducible repeat (first | refine blk_drewN ?_ _ | refine blk_drew ?_ | refine blk_alloc ?_ _)); refine blk_put (cs := #[.int .i64 0, .int .i64 0]) ?_ 0 _ rfl; (with_reducible repeat (first | refine blk_drewN ?_ _ | refine blk_drew ?_ | refine blk_alloc ?_ _)); exact BK811.out⟩, ⟨by repeat (first | (with_reducible first | exact HB.out | apply below_alloc | apply pw_below_drewN | apply below_drew1 | refine below_set ?_ GE795.out | refine below_set ?_ GE801.out | refine below_set ?_ GE811.out) | exact HB.out)⟩⟩
                       ·
                        rw [if_neg c56] at H
                        have c56b0 : decide (16777216 < t808) = false := decide_eq_false c56
                        clear c56
                        by_cases c60 : x113_3 > 0
                        ·
                         rw [if_pos c60] at H
                         have c60b0 : decide (0 < x113_3) = true := decide_eq_true c60
                         clear c60
                         have H' := Aside0.mk H
                         clear H
                         have hnb61 := NB811_795.out
                         have hnc61 := NB795_811.out
                         have hnb62 := NB811_801.out
                         have hnc62 := NB801_811.out
                         have hcz63_0 : w39.cell? ⟨gb811, 0, none⟩ = some (.int .i64 0) := (blk_cell BK811.out 0).trans rfl
                         have hcz63_1 : w39.cell? ⟨gb811, 1, none⟩ = some (.int .i64 0) := (blk_cell BK811.out 1).trans rfl
                         have hfz63_0 := blk_frozen BK811.out 0
                         have hfz63_1 := blk_frozen BK811.out 1
                         have hnb64 := NB801_795.out
                         have hnc64 := NB795_801.out
                         have hcz65_0 : w39.cell? ⟨gb801, 0, none⟩ = some (.int .i64 x802000_3) := (blk_cell BK801.out 0).trans rfl
                         have hcz65_1 : w39.cell? ⟨gb801, 1, none⟩ = some (.int .i64 x802001_3) := (blk_cell BK801.out 1).trans rfl
                         have hfz65_0 := blk_frozen BK801.out 0
                         have hfz65_1 := blk_frozen BK801.out 1
                         go_wp2
                         go_meet
                         case rel => exact ⟨_, ((!(t808 == x802000_3) || (!(t809 == x802001_3)))), (by first | rfl | (simp; done) | (simp [*]; done)), H', ⟨by have := HJ8.out; have := HK2.out; have := HK3.out; first | omega | exact Nat.le_refl _⟩, ⟨by (with_reducible repeat (first | apply Kd.R_alloc | apply Kd.R_drewN | apply Kd.R_drew)); exact Kd.R_mono (Kd.R_far (p := ⟨gb811, 1, none⟩) (Kd.R_far (p := ⟨gb811, 0, none⟩) (Kd.R_types HO_7.out BK811.out (by decide)) (fun _ hk => hk.2) (.int .i64 t808)) (fun _ hk => hk.2) (.int .i64 t809)) (fun _ hk => trivial)⟩, ⟨by (with_reducible repeat (first | apply Kd.R_alloc | apply Kd.R_drewN | apply Kd.R_drew)); exact Kd.R_mono (Kd.R_far (p := ⟨gb811, 1, none⟩) (Kd.R_far (p := ⟨gb811, 0, none⟩) (Kd.R_types HO_111.out BK811.out (by decide)) (fun _ hk => hk.2) (.int .i64 t808)) (fun _ hk => hk.2) (.int .i64 t809)) (fun _ hk => trivial)⟩, ⟨by (with_reducible repeat (first | refine blk_drewN ?_ _ | refine blk_drew ?_ | refine blk_alloc ?_ _)); refine blk_far ?_ NB795_811.out _; (with_reducible repeat (first | refine blk_drewN ?_ _ | refine blk_drew ?_ | refine blk_alloc ?_ _)); refine blk_far ?_ NB795_811.out _; (with_reducible repeat (first | refine blk_drewN ?_ _ | refine blk_drew ?_ | refine blk_alloc ?_ _)); exact BK795.out⟩, ⟨by (with_reducible repeat (first | refine blk_drewN ?_ _ | refine blk_drew ?_ | refine blk_alloc ?_ _)); refine blk_far ?_ NB801_811.out _; (with_reducible repeat (first | refine blk_drewN ?_ _ | refine blk_drew ?_ | refine blk_alloc ?_ _)); refine blk_far ?_ NB801_811.out _; (with_reducible repeat (first | refine blk_drewN ?_ _ | refine blk_drew ?_ | refine blk_alloc ?_ _)); exact BK801.out⟩, ⟨by (with_reducible repeat (first | refine blk_drewN ?_ _ | refine blk_drew ?_ | refine blk_alloc ?_ _)); refine blk_put (cs := #[.int .i64 t808, .int .i64 0]) ?_ 1 _ rfl; (with_reducible repeat (first | refine blk_drewN ?_ _ | refine blk_drew ?_ | refine blk_alloc ?_ _)); refine blk_put (cs := #[.int .i64 0, .int .i64 0]) ?_ 0 _ rfl; (with_reducible repeat (first | refine blk_drewN ?_ _ | refine blk_drew ?_ | refine blk_alloc ?_ _)); exact BK811.out⟩, ⟨by repeat (first | (with_reducible first | exact HB.out | apply below_alloc | apply pw_below_drewN | apply below_drew1 | refine below_set ?_ GE795.out | refine below_set ?_ GE801.out | refine below_set ?_ GE811.out) | exact HB.out)⟩⟩
                        ·
                         rw [if_neg c60] at H
                         have c60b0 : decide (0 < x113_3) = false := decide_eq_false c60
                         clear c60
                         have H' := Aside0.mk H
                         clear H
                         have hnb66 := NB811_795.out
                         have hnc66 := NB795_811.out
                         have hnb67 := NB811_801.out
                         have hnc67 := NB801_811.out
                         have hcz68_0 : w39.cell? ⟨gb811, 0, none⟩ = some (.int .i64 0) := (blk_cell BK811.out 0).trans rfl
                         have hcz68_1 : w39.cell? ⟨gb811, 1, none⟩ = some (.int .i64 0) := (blk_cell BK811.out 1).trans rfl
                         have hfz68_0 := blk_frozen BK811.out 0
                         have hfz68_1 := blk_frozen BK811.out 1
                         go_wp2
                         go_meet
                         case rel => exact ⟨_, (false), (by first | rfl | (simp; done) | (simp [*]; done)), H', ⟨by have := HJ8.out; have := HK2.out; have := HK3.out; first | omega | exact Nat.le_refl _⟩, ⟨by (with_reducible repeat (first | apply Kd.R_alloc | apply Kd.R_drewN | apply Kd.R_drew)); exact Kd.R_mono (Kd.R_far (p := ⟨gb811, 1, none⟩) (Kd.R_far (p := ⟨gb811, 0, none⟩) (Kd.R_types HO_7.out BK811.out (by decide)) (fun _ hk => hk.2) (.int .i64 t808)) (fun _ hk => hk.2) (.int .i64 t809)) (fun _ hk => trivial)⟩, ⟨by (with_reducible repeat (first | apply Kd.R_alloc | apply Kd.R_drewN | apply Kd.R_drew)); exact Kd.R_mono (Kd.R_far (p := ⟨gb811, 1, none⟩) (Kd.R_far (p := ⟨gb811, 0, none⟩) (Kd.R_types HO_111.out BK811.out (by decide)) (fun _ hk => hk.2) (.int .i64 t808)) (fun _ hk => hk.2) (.int .i64 t809)) (fun _ hk => trivial)⟩, ⟨by (with_reducible repeat (first | refine blk_drewN ?_ _ | refine blk_drew ?_ | refine blk_alloc ?_ _)); refine blk_far ?_ NB795_811.out _; (with_reducible repeat (first | refine blk_drewN ?_ _ | refine blk_drew ?_ | refine blk_alloc ?_ _)); refine blk_far ?_ NB795_811.out _; (with_reducible repeat (first | refine blk_drewN ?_ _ | refine blk_drew ?_ | refine blk_alloc ?_ _)); exact BK795.out⟩, ⟨by (with_reducible repeat (first | refine blk_drewN ?_ _ | refine blk_drew ?_ | refine blk_alloc ?_ _)); refine blk_far ?_ NB801_811.out _; (with_reducible repeat (first | refine blk_drewN ?_ _ | refine blk_drew ?_ | refine blk_alloc ?_ _)); refine blk_far ?_ NB801_811.out _; (with_reducible repeat (first | refine blk_drewN ?_ _ | refine blk_drew ?_ | refine blk_alloc ?_ _)); exact BK801.out⟩, ⟨by (with_reducible repeat (first | refine blk_drewN ?_ _ | refine blk_drew ?_ | refine blk_alloc ?_ _)); refine blk_put (cs := #[.int .i64 t808, .int .i64 0]) ?_ 1 _ rfl; (with_reducible repeat (first | refine blk_drewN ?_ _ | refine blk_drew ?_ | refine blk_alloc ?_ _)); refine blk_put (cs := #[.int .i64 0, .int .i64 0]) ?_ 0 _ rfl; (with_reducible repeat (first | refine blk_drewN ?_ _ | refine blk_drew ?_ | refine blk_alloc ?_ _)); exact BK811.out⟩, ⟨by repeat (first | (with_reducible first | exact HB.out | apply below_alloc | apply pw_below_drewN | apply below_drew1 | refine below_set ?_ GE795.out | refine below_set ?_ GE801.out | refine below_set ?_ GE811.out) | exact HB.out)⟩⟩
                   ·
                    rw [if_neg c43] at H
                    have c43b0 : (t810 == 0) = false := beq_eq_false_iff_ne.mpr c43
                    have c43b1 : (t810 != 0) = true := bne_iff_ne.mpr c43
                    (first | rw [c43b0] | (simp only [i64_w, i32_w]; rw [c43b0]) | skip)
                    have H' := Aside0.mk H
                    clear H
                    go_wp2
                    go_meet
                    case rel => exact ⟨_, (true), (by first | rfl | (simp; done) | (simp [*]; done)), H', ⟨by have := HJ8.out; have := HK2.out; have := HK3.out; first | omega | exact Nat.le_refl _⟩, ⟨by (with_reducible repeat (first | apply Kd.R_alloc | apply Kd.R_drewN | apply Kd.R_drew)); exact Kd.R_mono (Kd.R_far (p := ⟨gb811, 1, none⟩) (Kd.R_far (p := ⟨gb811, 0, none⟩) (Kd.R_types HO_7.out BK811.out (by decide)) (fun _ hk => hk.2) (.int .i64 t808)) (fun _ hk => hk.2) (.int .i64 t809)) (fun _ hk => trivial)⟩, ⟨by (with_reducible repeat (first | apply Kd.R_alloc | apply Kd.R_drewN | apply Kd.R_drew)); exact Kd.R_mono (Kd.R_far (p := ⟨gb811, 1, none⟩) (Kd.R_far (p := ⟨gb811, 0, none⟩) (Kd.R_types HO_111.out BK811.out (by decide)) (fun _ hk => hk.2) (.int .i64 t808)) (fun _ hk => hk.2) (.int .i64 t809)) (fun _ hk => trivial)⟩, ⟨by (with_reducible repeat (first | refine blk_drewN ?_ _ | refine blk_drew ?_ | refine blk_alloc ?_ _)); refine blk_far ?_ NB795_811.out _; (with_reducible repeat (first | refine blk_drewN ?_ _ | refine blk_drew ?_ | refine blk_alloc ?_ _)); refine blk_far ?_ NB795_811.out _; (with_reducible repeat (first | refine blk_drewN ?_ _ | refine blk_drew ?_ | refine blk_alloc ?_ _)); exact BK795.out⟩, ⟨by (with_reducible repeat (first | refine blk_drewN ?_ _ | refine blk_drew ?_ | refine blk_alloc ?_ _)); refine blk_far ?_ NB801_811.out _; (with_reducible repeat (first | refine blk_drewN ?_ _ | refine blk_drew ?_ | refine blk_alloc ?_ _)); refine blk_far ?_ NB801_811.out _; (with_reducible repeat (first | refine blk_drewN ?_ _ | refine blk_drew ?_ | refine blk_alloc ?_ _)); exact BK801.out⟩, ⟨by (with_reducible repeat (first | refine blk_drewN ?_ _ | refine blk_drew ?_ | refine blk_alloc ?_ _)); refine blk_put (cs := #[.int .i64 t808, .int .i64 0]) ?_ 1 _ rfl; (with_reducible repeat (first | refine blk_drewN ?_ _ | refine blk_drew ?_ | refine blk_alloc ?_ _)); refine blk_put (cs := #[.int .i64 0, .int .i64 0]) ?_ 0 _ rfl; (with_reducible repeat (first | refine blk_drewN ?_ _ | refine blk_drew ?_ | refine blk_alloc ?_ _)); exact BK811.out⟩, ⟨by repeat (first | (with_reducible first | exact HB.out | apply below_alloc | apply pw_below_drewN | apply below_drew1 | refine below_set ?_ GE795.out | refine below_set ?_ GE801.out | refine below_set ?_ GE811.out) | exact HB.out)⟩⟩
                  case rest => as_aux_lemma =>
                   clear HC37
                   try clear c2
                   try clear p2
                   try clear c3
                   try clear c4
                   try clear c5
                   try clear c6
                   try clear p6
                   try clear p7
                   try clear q7
                   try clear hx7
                   try clear p8
                   try clear q8
                   try clear hx8
                   try clear c25
                   try clear c25b0
                   try clear c25b1
                   try clear c28
                   try clear c33
                   try clear c33b0
                   try clear c34
                   try clear c34b0
                   try clear c35
                   try clear c35b0
                   try clear c40
                   try clear c41
                   try clear c43
                   try clear c43b0
                   try clear c43b1
                   try clear c44
                   try clear c44b0
                   try clear c45
                   try clear c46
                   try clear c48
                   try clear c48b0
                   try clear c49
                   try clear c50
                   try clear c52
                   try clear c52b0
                   try clear c53
                   try clear c54
                   try clear c56
                   try clear c56b0
                   try clear c57
                   try clear c58
                   try clear c60
                   try clear c60b0
                   try clear c61
                   try clear c62
                   try clear c64
                   try clear p64
                   try clear c66
                   try clear c67
                   try clear hcz42_0
                   try clear hcz42_1
                   try clear hcz47_0
                   try clear hcz47_1
                   try clear hcz51_0
                   try clear hcz51_1
                   try clear hcz55_0
                   try clear hcz55_1
                   try clear hcz59_0
                   try clear hcz59_1
                   try clear hcz63_0
                   try clear hcz63_1
                   try clear hcz65_0
                   try clear hcz65_1
                   try clear hcz68_0
                   try clear hcz68_1
                   try clear hfz42_0
                   try clear hfz42_1
                   try clear hfz47_0
                   try clear hfz47_1
                   try clear hfz51_0
                   try clear hfz51_1
                   try clear hfz55_0
                   try clear hfz55_1
                   try clear hfz59_0
                   try clear hfz59_1
                   try clear hfz63_0
                   try clear hfz63_1
                   try clear hfz65_0
                   try clear hfz65_1
                   try clear hfz68_0
                   try clear hfz68_1
                   try clear hx796_0
                   try clear hx796_1
                   try clear hx797_0
                   try clear hx797_1
                   try clear hx798_0
                   try clear hx798_1
                   try clear hx799_0
                   try clear hx799_1
                   try clear hx800_0
                   try clear hx800_1
                   try clear hx802_0
                   try clear hx802_1
                   try clear hx803_0
                   try clear hx803_1
                   try clear hx807_0
                   try clear p2
                   try clear p6
                   try clear p7
                   try clear p796
                   try clear p797
                   try clear p798
                   try clear p799
                   try clear p8
                   try clear p800
                   try clear p802
                   try clear p803
                   try clear p807
                   try clear q7
                   try clear q796
                   try clear q797
                   try clear q798
                   try clear q799
                   try clear q8
                   try clear q800
                   try clear q802
                   try clear q803
                   try clear q807
                   obtain ⟨kq, x154_36, rfl, HA, HJ36, HO_7, HO_111, BK795, BK801, BK811, HB⟩ := hcut
                   cases kq with
                   | zero => exact absurd HA.out (by simp [law_CurveRates.j3])
                   | succ kj36 =>
                    have H := HA.out
                    clear HA
                    simp only [law_CurveRates.j3] at H
                    by_cases c69 : x154_36 = true
                    ·
                     subst c69
                     have H1 : (some false) = some r := by rw [if_pos rfl] at H; exact H
                     clear H
                     have H := H1
                     clear H1
                     obtain rfl := Option.some.inj H
                     go_wp2
                     go_ret
                     exact ⟨by first | rfl | (simp [errW_none, errW_some] <;> rfl) | (simp only [← hji21]; first | rfl | (simp [errW_none, errW_some] <;> rfl)) | (simp [*, errW_none, errW_some] <;> rfl), by repeat (first | (with_reducible first | exact HB.out | apply below_alloc | apply pw_below_drewN | apply below_drew1 | refine below_set ?_ GE795.out | refine below_set ?_ GE801.out | refine below_set ?_ GE811.out) | exact HB.out)⟩
                    ·
                     replace c69 := Bool.eq_false_iff.mpr c69
                     subst c69
                     have H1 : (law_CurveRates.l1 kj36 l0 a1 t788 t790 x9_2 x10_2 x12_2 (wrap64 (((rd_T57 l0 (ji21)).f0) - ((rd_T57 l0 x12_2).f0))) (wrap64 (((rd_T57 l0 (ji21)).f1) - ((rd_T57 l0 x12_2).f1))) y804 (y804.length : Int) (wrap64 (x113_3 + 1)) x796000_2 x796001_2 t808 t809) = some r := by rw [if_neg (show ¬ (false = true) by decide)] at H; exact H
                     clear H
                     have H := H1
                     clear H1
                     have H' := Aside0.mk H
                     clear H
                     have hnb70 := NB811_795.out
                     have hnc70 := NB795_811.out
                     have hnb71 := NB811_801.out
                     have hnc71 := NB801_811.out
                     have hcz72_0 : wc.cell? ⟨gb811, 0, none⟩ = some (.int .i64 t808) := (blk_cell BK811.out 0).trans rfl
                     have hcz72_1 : wc.cell? ⟨gb811, 1, none⟩ = some (.int .i64 t809) := (blk_cell BK811.out 1).trans rfl
                     have hfz72_0 := blk_frozen BK811.out 0
                     have hfz72_1 := blk_frozen BK811.out 1
                     have hnb73 := NB801_795.out
                     have hnc73 := NB795_801.out
                     have hcz74_0 : wc.cell? ⟨gb801, 0, none⟩ = some (.int .i64 x802000_3) := (blk_cell BK801.out 0).trans rfl
                     have hcz74_1 : wc.cell? ⟨gb801, 1, none⟩ = some (.int .i64 x802001_3) := (blk_cell BK801.out 1).trans rfl
                     have hfz74_0 := blk_frozen BK801.out 0
                     have hfz74_1 := blk_frozen BK801.out 1
                     go_wp2
                     go_roundg kj36
                     case measure => have := HJ8.out; have := HK2.out; have := HK3.out; have := HJ36.out; omega
                     case rel => exact ⟨(wrap64 (x113_3 + 1)), (t808), (t809), (by first | rfl | (simp; done) | (simp [*]; done)), H', ⟨by have := HJ8.out; have := HK2.out; have := HK3.out; have := HJ36.out; omega⟩, ⟨by (with_reducible repeat (first | apply Kd.R_alloc | apply Kd.R_drewN | apply Kd.R_drew)); exact Kd.R_mono (Kd.R_far (p := ⟨gb801, 1, none⟩) (Kd.R_far (p := ⟨gb801, 0, none⟩) (Kd.R_types HO_7.out BK801.out (by decide)) (fun _ hk => hk.2) (.int .i64 t808)) (fun _ hk => hk.2) (.int .i64 t809)) (fun _ hk => trivial)⟩, ⟨by (with_reducible repeat (first | apply Kd.R_alloc | apply Kd.R_drewN | apply Kd.R_drew)); exact Kd.R_mono (Kd.R_far (p := ⟨gb801, 1, none⟩) (Kd.R_far (p := ⟨gb801, 0, none⟩) (Kd.R_types HO_111.out BK801.out (by decide)) (fun _ hk => hk.2) (.int .i64 t808)) (fun _ hk => hk.2) (.int .i64 t809)) (fun _ hk => trivial)⟩, ⟨by (with_reducible repeat (first | refine blk_drewN ?_ _ | refine blk_drew ?_ | refine blk_alloc ?_ _)); refine blk_far ?_ NB795_801.out _; (with_reducible repeat (first | refine blk_drewN ?_ _ | refine blk_drew ?_ | refine blk_alloc ?_ _)); refine blk_far ?_ NB795_801.out _; (with_reducible repeat (first | refine blk_drewN ?_ _ | refine blk_drew ?_ | refine blk_alloc ?_ _)); exact BK795.out⟩, ⟨by (with_reducible repeat (first | refine blk_drewN ?_ _ | refine blk_drew ?_ | refine blk_alloc ?_ _)); refine blk_put (cs := #[.int .i64 t808, .int .i64 x802001_3]) ?_ 1 _ rfl; (with_reducible repeat (first | refine blk_drewN ?_ _ | refine blk_drew ?_ | refine blk_alloc ?_ _)); refine blk_put (cs := #[.int .i64 x802000_3, .int .i64 x802001_3]) ?_ 0 _ rfl; (with_reducible repeat (first | refine blk_drewN ?_ _ | refine blk_drew ?_ | refine blk_alloc ?_ _)); exact BK801.out⟩, ⟨by repeat (first | (with_reducible first | exact HB.out | apply below_alloc | apply pw_below_drewN | apply below_drew1 | refine below_set ?_ GE795.out | refine below_set ?_ GE801.out | refine below_set ?_ GE811.out) | exact HB.out)⟩⟩
                 ·
                  rw [if_neg c35] at H
                  exact absurd H (by simp)
                ·
                 rw [if_neg c34] at H
                 exact absurd H (by simp)
               ·
                rw [if_neg c33] at H
                have c33b0 : decide (x113_3 < (y804.length : Int)) = false := decide_eq_false c33
                clear c33
                by_cases c75 : (wrap64 (x802000_3 * (wrap64 (((rd_T57 l0 (ji21)).f0) - ((rd_T57 l0 x12_2).f0))))) = (wrap64 ((wrap64 (((rd_T57 l0 (ji21)).f1) - ((rd_T57 l0 x12_2).f1))) * x802001_3))
                ·
                 rw [if_pos c75] at H
                 have c75b0 : ((wrap64 (x802000_3 * (wrap64 (((rd_T57 l0 (ji21)).f0) - ((rd_T57 l0 x12_2).f0))))) == (wrap64 ((wrap64 (((rd_T57 l0 (ji21)).f1) - ((rd_T57 l0 x12_2).f1))) * x802001_3))) = true := beq_iff_eq.mpr c75
                 have c75b1 : ((wrap64 (x802000_3 * (wrap64 (((rd_T57 l0 (ji21)).f0) - ((rd_T57 l0 x12_2).f0))))) != (wrap64 ((wrap64 (((rd_T57 l0 (ji21)).f1) - ((rd_T57 l0 x12_2).f1))) * x802001_3))) = false := bne_eq_false_iff_eq.mpr c75
                 clear c75
                 by_cases c76 : x12_2 > 0
                 ·
                  rw [if_pos c76] at H
                  have c76b0 : decide (0 < x12_2) = true := decide_eq_true c76
                  clear c76
                  replace H := Option.bind_eq_some_iff.mp H
                  obtain ⟨t812, A770, H⟩ := H
                  replace H : (if x9_2 = true then (if x10_2 = true then (law_CurveRates.l0 k3 l0 a1 t788 t790 true true (wrap64 (x12_2 + 1)) x802000_3 x802001_3) else (law_CurveRates.l0 k3 l0 a1 t788 t790 true (decide (t812 > 0)) (wrap64 (x12_2 + 1)) x802000_3 x802001_3)) else (if x10_2 = true then (law_CurveRates.l0 k3 l0 a1 t788 t790 (decide (t812 < 0)) true (wrap64 (x12_2 + 1)) x802000_3 x802001_3) else (law_CurveRates.l0 k3 l0 a1 t788 t790 (decide (t812 < 0)) (decide (t812 > 0)) (wrap64 (x12_2 + 1)) x802000_3 x802001_3))) = some r := H
                  have A77 := Aside0.mk A770
                  clear A770
                  by_cases c78 : x9_2 = true
                  ·
                   subst c78
                   have H1 : (if x10_2 = true then (law_CurveRates.l0 k3 l0 a1 t788 t790 true true (wrap64 (x12_2 + 1)) x802000_3 x802001_3) else (law_CurveRates.l0 k3 l0 a1 t788 t790 true (decide (t812 > 0)) (wrap64 (x12_2 + 1)) x802000_3 x802001_3)) = some r := by rw [if_pos rfl] at H; exact H
                   clear H
                   have H := H1
                   clear H1
                   by_cases c79 : x10_2 = true
                   ·
                    subst c79
                    have H1 : (law_CurveRates.l0 k3 l0 a1 t788 t790 true true (wrap64 (x12_2 + 1)) x802000_3 x802001_3) = some r := by rw [if_pos rfl] at H; exact H
                    clear H
                    have H := H1
                    clear H1
                    have H' := Aside0.mk H
                    clear H
                    have hnb80 := NB801_795.out
                    have hnc80 := NB795_801.out
                    have hcz81_0 : wr.cell? ⟨gb801, 0, none⟩ = some (.int .i64 x802000_3) := (blk_cell BK801.out 0).trans rfl
                    have hcz81_1 : wr.cell? ⟨gb801, 1, none⟩ = some (.int .i64 x802001_3) := (blk_cell BK801.out 1).trans rfl
                    have hfz81_0 := blk_frozen BK801.out 0
                    have hfz81_1 := blk_frozen BK801.out 1
                    have hcz82_0 : wr.cell? ⟨gb795, 0, none⟩ = some (.int .i64 x796000_2) := (blk_cell BK795.out 0).trans rfl
                    have hcz82_1 : wr.cell? ⟨gb795, 1, none⟩ = some (.int .i64 x796001_2) := (blk_cell BK795.out 1).trans rfl
                    have hfz82_0 := blk_frozen BK795.out 0
                    have hfz82_1 := blk_frozen BK795.out 1
                    go_wp2_with (first | ((with_reducible refine gate_callee (f := 53) rfl ?_); refine goesL_ (some 170) rfl rfl Tryd.func53 (by kernel_rfl) rfl #[.agg #[.int .i64 x796000_2, .int .i64 x796001_2], .agg #[.int .i64 x802000_3, .int .i64 x802001_3]] rfl (by (try simp only [List.map_toArray, List.map_cons, List.map_nil]); first | done | rfl | (simp only [List.length_drop, List.length_take]; rfl)) ?_; (with_reducible refine (ref_Order.calls k3 x796000_2 x796001_2 x802000_3 x802001_3 t812 _ A77.out).mono ?_); rintro e w83 ⟨rfl, hb⟩; refine ⟨_, rfl, ?_⟩; have n0_ := Aside0.mk (Kd.R_below (by (with_reducible repeat (first | apply Kd.R_alloc | apply Kd.R_drewN | apply Kd.R_drew)); exact HO_7.out) hb); have n1_ := Aside0.mk (Kd.R_below (by (with_reducible repeat (first | apply Kd.R_alloc | apply Kd.R_drewN | apply Kd.R_drew)); exact HO_111.out) hb); have n2_ := Aside0.mk (blk_below (g := gb795) (o := .cells #[.int .i64 x796000_2, .int .i64 x796001_2] 25 (0, 0)) (by (with_reducible repeat (first | refine blk_drewN ?_ _ | refine blk_drew ?_ | refine blk_alloc ?_ _)); exact BK795.out) hb); have n3_ := Aside0.mk (blk_below (g := gb801) (o := .cells #[.int .i64 x802000_3, .int .i64 x802001_3] 25 (0, 0)) (by (with_reducible repeat (first | refine blk_drewN ?_ _ | refine blk_drew ?_ | refine blk_alloc ?_ _)); exact BK801.out) hb); have n4_ := Aside0.mk (below_step (by repeat (first | (with_reducible first | exact HB.out | apply below_alloc | apply pw_below_drewN | apply below_drew1 | refine below_set ?_ GE795.out | refine below_set ?_ GE801.out) | exact HB.out)) hb); clear HO_7; clear HO_111; clear BK795; clear BK801; clear HB; have HO_7 := n0_; have HO_111 := n1_; have BK795 := n2_; have BK801 := n3_; have HB := n4_; clear n0_ n1_ n2_ n3_ n4_; (try clear hb); (try clear hb2); (try clear hk); (try clear hi); have hcz84_0 : w83.cell? ⟨gb801, 0, none⟩ = some (.int .i64 x802000_3) := (blk_cell BK801.out 0).trans rfl; have hcz84_1 : w83.cell? ⟨gb801, 1, none⟩ = some (.int .i64 x802001_3) := (blk_cell BK801.out 1).trans rfl; have hfz84_0 := blk_frozen BK801.out 0; have hfz84_1 := blk_frozen BK801.out 1; have hcz85_0 : w83.cell? ⟨gb795, 0, none⟩ = some (.int .i64 x796000_2) := (blk_cell BK795.out 0).trans rfl; have hcz85_1 : w83.cell? ⟨gb795, 1, none⟩ = some (.int .i64 x796001_2) := (blk_cell BK795.out 1).trans rfl; have hfz85_0 := blk_frozen BK795.out 0; have hfz85_1 := blk_frozen BK795.out 1))
                    go_roundg k3
                    case measure => have := HJ8.out; have := HK2.out; have := HK3.out; omega
                    case rel => exact ⟨(true), (true), (wrap64 (x12_2 + 1)), (x802000_3), (x802001_3), (by first | rfl | (simp; done) | (simp [*]; done)), (by first | rfl | (simp; done) | (simp [*]; done)), (by first | rfl | (simp; done) | (simp [*]; done)), H', ⟨by have := HJ8.out; have := HK2.out; have := HK3.out; omega⟩, ⟨by (with_reducible repeat (first | apply Kd.R_alloc | apply Kd.R_drewN | apply Kd.R_drew)); exact Kd.R_mono (Kd.R_far (p := ⟨gb795, 1, none⟩) (Kd.R_far (p := ⟨gb795, 0, none⟩) (Kd.R_types HO_7.out BK795.out (by decide)) (fun _ hk => hk.2) (.int .i64 x802000_3)) (fun _ hk => hk.2) (.int .i64 x802001_3)) (fun _ hk => trivial)⟩, ⟨by (with_reducible repeat (first | refine blk_drewN ?_ _ | refine blk_drew ?_ | refine blk_alloc ?_ _)); refine blk_put (cs := #[.int .i64 x802000_3, .int .i64 x796001_2]) ?_ 1 _ rfl; (with_reducible repeat (first | refine blk_drewN ?_ _ | refine blk_drew ?_ | refine blk_alloc ?_ _)); refine blk_put (cs := #[.int .i64 x796000_2, .int .i64 x796001_2]) ?_ 0 _ rfl; (with_reducible repeat (first | refine blk_drewN ?_ _ | refine blk_drew ?_ | refine blk_alloc ?_ _)); exact BK795.out⟩, ⟨by repeat (first | (with_reducible first | exact HB.out | apply below_alloc | apply pw_below_drewN | apply below_drew1 | refine below_set ?_ GE795.out | refine below_set ?_ GE801.out) | exact HB.out)⟩⟩
                   ·
                    replace c79 := Bool.eq_false_iff.mpr c79
                    subst c79
                    have H1 : (law_CurveRates.l0 k3 l0 a1 t788 t790 true (decide (t812 > 0)) (wrap64 (x12_2 + 1)) x802000_3 x802001_3) = some r := by rw [if_neg (show ¬ (false = true) by decide)] at H; exact H
                    clear H
                    have H := H1
                    clear H1
                    have H' := Aside0.mk H
                    clear H
                    have hnb86 := NB801_795.out
                    have hnc86 := NB795_801.out
                    have hcz87_0 : wr.cell? ⟨gb801, 0, none⟩ = some (.int .i64 x802000_3) := (blk_cell BK801.out 0).trans rfl
                    have hcz87_1 : wr.cell? ⟨gb801, 1, none⟩ = some (.int .i64 x802001_3) := (blk_cell BK801.out 1).trans rfl
                    have hfz87_0 := blk_frozen BK801.out 0
                    have hfz87_1 := blk_frozen BK801.out 1
                    have hcz88_0 : wr.cell? ⟨gb795, 0, none⟩ = some (.int .i64 x796000_2) := (blk_cell BK795.out 0).trans rfl
                    have hcz88_1 : wr.cell? ⟨gb795, 1, none⟩ = some (.int .i64 x796001_2) := (blk_cell BK795.out 1).trans rfl
                    have hfz88_0 := blk_frozen BK795.out 0
                    have hfz88_1 := blk_frozen BK795.out 1
                    go_wp2_with (first | ((with_reducible refine gate_callee (f := 53) rfl ?_); refine goesL_ (some 170) rfl rfl Tryd.func53 (by kernel_rfl) rfl #[.agg #[.int .i64 x796000_2, .int .i64 x796001_2], .agg #[.int .i64 x802000_3, .int .i64 x802001_3]] rfl (by (try simp only [List.map_toArray, List.map_cons, List.map_nil]); first | done | rfl | (simp only [List.length_drop, List.length_take]; rfl)) ?_; (with_reducible refine (ref_Order.calls k3 x796000_2 x796001_2 x802000_3 x802001_3 t812 _ A77.out).mono ?_); rintro e w89 ⟨rfl, hb⟩; refine ⟨_, rfl, ?_⟩; have n0_ := Aside0.mk (Kd.R_below (by (with_reducible repeat (first | apply Kd.R_alloc | apply Kd.R_drewN | apply Kd.R_drew)); exact HO_7.out) hb); have n1_ := Aside0.mk (Kd.R_below (by (with_reducible repeat (first | apply Kd.R_alloc | apply Kd.R_drewN | apply Kd.R_drew)); exact HO_111.out) hb); have n2_ := Aside0.mk (blk_below (g := gb795) (o := .cells #[.int .i64 x796000_2, .int .i64 x796001_2] 25 (0, 0)) (by (with_reducible repeat (first | refine blk_drewN ?_ _ | refine blk_drew ?_ | refine blk_alloc ?_ _)); exact BK795.out) hb); have n3_ := Aside0.mk (blk_below (g := gb801) (o := .cells #[.int .i64 x802000_3, .int .i64 x802001_3] 25 (0, 0)) (by (with_reducible repeat (first | refine blk_drewN ?_ _ | refine blk_drew ?_ | refine blk_alloc ?_ _)); exact BK801.out) hb); have n4_ := Aside0.mk (below_step (by repeat (first | (with_reducible first | exact HB.out | apply below_alloc | apply pw_below_drewN | apply below_drew1 | refine below_set ?_ GE795.out | refine below_set ?_ GE801.out) | exact HB.out)) hb); clear HO_7; clear HO_111; clear BK795; clear BK801; clear HB; have HO_7 := n0_; have HO_111 := n1_; have BK795 := n2_; have BK801 := n3_; have HB := n4_; clear n0_ n1_ n2_ n3_ n4_; (try clear hb); (try clear hb2); (try clear hk); (try clear hi); have hcz90_0 : w89.cell? ⟨gb801, 0, none⟩ = some (.int .i64 x802000_3) := (blk_cell BK801.out 0).trans rfl; have hcz90_1 : w89.cell? ⟨gb801, 1, none⟩ = some (.int .i64 x802001_3) := (blk_cell BK801.out 1).trans rfl; have hfz90_0 := blk_frozen BK801.out 0; have hfz90_1 := blk_frozen BK801.out 1; have hcz91_0 : w89.cell? ⟨gb795, 0, none⟩ = some (.int .i64 x796000_2) := (blk_cell BK795.out 0).trans rfl; have hcz91_1 : w89.cell? ⟨gb795, 1, none⟩ = some (.int .i64 x796001_2) := (blk_cell BK795.out 1).trans rfl; have hfz91_0 := blk_frozen BK795.out 0; have hfz91_1 := blk_frozen BK795.out 1))
                    go_roundg k3
                    case measure => have := HJ8.out; have := HK2.out; have := HK3.out; omega
                    case rel => exact ⟨(true), (decide (t812 > 0)), (wrap64 (x12_2 + 1)), (x802000_3), (x802001_3), (by first | rfl | (simp; done) | (simp [*]; done)), (by first | rfl | (simp; done) | (simp [*]; done)), (by first | rfl | (simp; done) | (simp [*]; done)), H', ⟨by have := HJ8.out; have := HK2.out; have := HK3.out; omega⟩, ⟨by (with_reducible repeat (first | apply Kd.R_alloc | apply Kd.R_drewN | apply Kd.R_drew)); exact Kd.R_mono (Kd.R_far (p := ⟨gb795, 1, none⟩) (Kd.R_far (p := ⟨gb795, 0, none⟩) (Kd.R_types HO_7.out BK795.out (by decide)) (fun _ hk => hk.2) (.int .i64 x802000_3)) (fun _ hk => hk.2) (.int .i64 x802001_3)) (fun _ hk => trivial)⟩, ⟨by (with_reducible repeat (first | refine blk_drewN ?_ _ | refine blk_drew ?_ | refine blk_alloc ?_ _)); refine blk_put (cs := #[.int .i64 x802000_3, .int .i64 x796001_2]) ?_ 1 _ rfl; (with_reducible repeat (first | refine blk_drewN ?_ _ | refine blk_drew ?_ | refine blk_alloc ?_ _)); refine blk_put (cs := #[.int .i64 x796000_2, .int .i64 x796001_2]) ?_ 0 _ rfl; (with_reducible repeat (first | refine blk_drewN ?_ _ | refine blk_drew ?_ | refine blk_alloc ?_ _)); exact BK795.out⟩, ⟨by repeat (first | (with_reducible first | exact HB.out | apply below_alloc | apply pw_below_drewN | apply below_drew1 | refine below_set ?_ GE795.out | refine below_set ?_ GE801.out) | exact HB.out)⟩⟩
                  ·
                   replace c78 := Bool.eq_false_iff.mpr c78
                   subst c78
                   have H1 : (if x10_2 = true then (law_CurveRates.l0 k3 l0 a1 t788 t790 (decide (t812 < 0)) true (wrap64 (x12_2 + 1)) x802000_3 x802001_3) else (law_CurveRates.l0 k3 l0 a1 t788 t790 (decide (t812 < 0)) (decide (t812 > 0)) (wrap64 (x12_2 + 1)) x802000_3 x802001_3)) = some r := by rw [if_neg (show ¬ (false = true) by decide)] at H; exact H
                   clear H
                   have H := H1
                   clear H1
                   by_cases c92 : x10_2 = true
                   ·
                    subst c92
                    have H1 : (law_CurveRates.l0 k3 l0 a1 t788 t790 (decide (t812 < 0)) true (wrap64 (x12_2 + 1)) x802000_3 x802001_3) = some r := by rw [if_pos rfl] at H; exact H
                    clear H
                    have H := H1
                    clear H1
                    have H' := Aside0.mk H
                    clear H
                    have hnb93 := NB801_795.out
                    have hnc93 := NB795_801.out
                    have hcz94_0 : wr.cell? ⟨gb801, 0, none⟩ = some (.int .i64 x802000_3) := (blk_cell BK801.out 0).trans rfl
                    have hcz94_1 : wr.cell? ⟨gb801, 1, none⟩ = some (.int .i64 x802001_3) := (blk_cell BK801.out 1).trans rfl
                    have hfz94_0 := blk_frozen BK801.out 0
                    have hfz94_1 := blk_frozen BK801.out 1
                    have hcz95_0 : wr.cell? ⟨gb795, 0, none⟩ = some (.int .i64 x796000_2) := (blk_cell BK795.out 0).trans rfl
                    have hcz95_1 : wr.cell? ⟨gb795, 1, none⟩ = some (.int .i64 x796001_2) := (blk_cell BK795.out 1).trans rfl
                    have hfz95_0 := blk_frozen BK795.out 0
                    have hfz95_1 := blk_frozen BK795.out 1
                    go_wp2_with (first | ((with_reducible refine gate_callee (f := 53) rfl ?_); refine goesL_ (some 170) rfl rfl Tryd.func53 (by kernel_rfl) rfl #[.agg #[.int .i64 x796000_2, .int .i64 x796001_2], .agg #[.int .i64 x802000_3, .int .i64 x802001_3]] rfl (by (try simp only [List.map_toArray, List.map_cons, List.map_nil]); first | done | rfl | (simp only [List.length_drop, List.length_take]; rfl)) ?_; (with_reducible refine (ref_Order.calls k3 x796000_2 x796001_2 x802000_3 x802001_3 t812 _ A77.out).mono ?_); rintro e w96 ⟨rfl, hb⟩; refine ⟨_, rfl, ?_⟩; have n0_ := Aside0.mk (Kd.R_below (by (with_reducible repeat (first | apply Kd.R_alloc | apply Kd.R_drewN | apply Kd.R_drew)); exact HO_7.out) hb); have n1_ := Aside0.mk (Kd.R_below (by (with_reducible repeat (first | apply Kd.R_alloc | apply Kd.R_drewN | apply Kd.R_drew)); exact HO_111.out) hb); have n2_ := Aside0.mk (blk_below (g := gb795) (o := .cells #[.int .i64 x796000_2, .int .i64 x796001_2] 25 (0, 0)) (by (with_reducible repeat (first | refine blk_drewN ?_ _ | refine blk_drew ?_ | refine blk_alloc ?_ _)); exact BK795.out) hb); have n3_ := Aside0.mk (blk_below (g := gb801) (o := .cells #[.int .i64 x802000_3, .int .i64 x802001_3] 25 (0, 0)) (by (with_reducible repeat (first | refine blk_drewN ?_ _ | refine blk_drew ?_ | refine blk_alloc ?_ _)); exact BK801.out) hb); have n4_ := Aside0.mk (below_step (by repeat (first | (with_reducible first | exact HB.out | apply below_alloc | apply pw_below_drewN | apply below_drew1 | refine below_set ?_ GE795.out | refine below_set ?_ GE801.out) | exact HB.out)) hb); clear HO_7; clear HO_111; clear BK795; clear BK801; clear HB; have HO_7 := n0_; have HO_111 := n1_; have BK795 := n2_; have BK801 := n3_; have HB := n4_; clear n0_ n1_ n2_ n3_ n4_; (try clear hb); (try clear hb2); (try clear hk); (try clear hi); have hcz97_0 : w96.cell? ⟨gb801, 0, none⟩ = some (.int .i64 x802000_3) := (blk_cell BK801.out 0).trans rfl; have hcz97_1 : w96.cell? ⟨gb801, 1, none⟩ = some (.int .i64 x802001_3) := (blk_cell BK801.out 1).trans rfl; have hfz97_0 := blk_frozen BK801.out 0; have hfz97_1 := blk_frozen BK801.out 1; have hcz98_0 : w96.cell? ⟨gb795, 0, none⟩ = some (.int .i64 x796000_2) := (blk_cell BK795.out 0).trans rfl; have hcz98_1 : w96.cell? ⟨gb795, 1, none⟩ = some (.int .i64 x796001_2) := (blk_cell BK795.out 1).trans rfl; have hfz98_0 := blk_frozen BK795.out 0; have hfz98_1 := blk_frozen BK795.out 1))
                    go_roundg k3
                    case measure => have := HJ8.out; have := HK2.out; have := HK3.out; omega
                    case rel => exact ⟨(decide (t812 < 0)), (true), (wrap64 (x12_2 + 1)), (x802000_3), (x802001_3), (by first | rfl | (simp; done) | (simp [*]; done)), (by first | rfl | (simp; done) | (simp [*]; done)), (by first | rfl | (simp; done) | (simp [*]; done)), H', ⟨by have := HJ8.out; have := HK2.out; have := HK3.out; omega⟩, ⟨by (with_reducible repeat (first | apply Kd.R_alloc | apply Kd.R_drewN | apply Kd.R_drew)); exact Kd.R_mono (Kd.R_far (p := ⟨gb795, 1, none⟩) (Kd.R_far (p := ⟨gb795, 0, none⟩) (Kd.R_types HO_7.out BK795.out (by decide)) (fun _ hk => hk.2) (.int .i64 x802000_3)) (fun _ hk => hk.2) (.int .i64 x802001_3)) (fun _ hk => trivial)⟩, ⟨by (with_reducible repeat (first | refine blk_drewN ?_ _ | refine blk_drew ?_ | refine blk_alloc ?_ _)); refine blk_put (cs := #[.int .i64 x802000_3, .int .i64 x796001_2]) ?_ 1 _ rfl; (with_reducible repeat (first | refine blk_drewN ?_ _ | refine blk_drew ?_ | refine blk_alloc ?_ _)); refine blk_put (cs := #[.int .i64 x796000_2, .int .i64 x796001_2]) ?_ 0 _ rfl; (with_reducible repeat (first | refine blk_drewN ?_ _ | refine blk_drew ?_ | refine blk_alloc ?_ _)); exact BK795.out⟩, ⟨by repeat (first | (with_reducible first | exact HB.out | apply below_alloc | apply pw_below_drewN | apply below_drew1 | refine below_set ?_ GE795.out | refine below_set ?_ GE801.out) | exact HB.out)⟩⟩
                   ·
                    replace c92 := Bool.eq_false_iff.mpr c92
                    subst c92
                    have H1 : (law_CurveRates.l0 k3 l0 a1 t788 t790 (decide (t812 < 0)) (decide (t812 > 0)) (wrap64 (x12_2 + 1)) x802000_3 x802001_3) = some r := by rw [if_neg (show ¬ (false = true) by decide)] at H; exact H
                    clear H
                    have H := H1
                    clear H1
                    have H' := Aside0.mk H
                    clear H
                    have hnb99 := NB801_795.out
                    have hnc99 := NB795_801.out
                    have hcz100_0 : wr.cell? ⟨gb801, 0, none⟩ = some (.int .i64 x802000_3) := (blk_cell BK801.out 0).trans rfl
                    have hcz100_1 : wr.cell? ⟨gb801, 1, none⟩ = some (.int .i64 x802001_3) := (blk_cell BK801.out 1).trans rfl
                    have hfz100_0 := blk_frozen BK801.out 0
                    have hfz100_1 := blk_frozen BK801.out 1
                    have hcz101_0 : wr.cell? ⟨gb795, 0, none⟩ = some (.int .i64 x796000_2) := (blk_cell BK795.out 0).trans rfl
                    have hcz101_1 : wr.cell? ⟨gb795, 1, none⟩ = some (.int .i64 x796001_2) := (blk_cell BK795.out 1).trans rfl
                    have hfz101_0 := blk_frozen BK795.out 0
                    have hfz101_1 := blk_frozen BK795.out 1
                    go_wp2_with (first | ((with_reducible refine gate_callee (f := 53) rfl ?_); refine goesL_ (some 170) rfl rfl Tryd.func53 (by kernel_rfl) rfl #[.agg #[.int .i64 x796000_2, .int .i64 x796001_2], .agg #[.int .i64 x802000_3, .int .i64 x802001_3]] rfl (by (try simp only [List.map_toArray, List.map_cons, List.map_nil]); first | done | rfl | (simp only [List.length_drop, List.length_take]; rfl)) ?_; (with_reducible refine (ref_Order.calls k3 x796000_2 x796001_2 x802000_3 x802001_3 t812 _ A77.out).mono ?_); rintro e w102 ⟨rfl, hb⟩; refine ⟨_, rfl, ?_⟩; have n0_ := Aside0.mk (Kd.R_below (by (with_reducible repeat (first | apply Kd.R_alloc | apply Kd.R_drewN | apply Kd.R_drew)); exact HO_7.out) hb); have n1_ := Aside0.mk (Kd.R_below (by (with_reducible repeat (first | apply Kd.R_alloc | apply Kd.R_drewN | apply Kd.R_drew)); exact HO_111.out) hb); have n2_ := Aside0.mk (blk_below (g := gb795) (o := .cells #[.int .i64 x796000_2, .int .i64 x796001_2] 25 (0, 0)) (by (with_reducible repeat (first | refine blk_drewN ?_ _ | refine blk_drew ?_ | refine blk_alloc ?_ _)); exact BK795.out) hb); have n3_ := Aside0.mk (blk_below (g := gb801) (o := .cells #[.int .i64 x802000_3, .int .i64 x802001_3] 25 (0, 0)) (by (with_reducible repeat (first | refine blk_drewN ?_ _ | refine blk_drew ?_ | refine blk_alloc ?_ _)); exact BK801.out) hb); have n4_ := Aside0.mk (below_step (by repeat (first | (with_reducible first | exact HB.out | apply below_alloc | apply pw_below_drewN | apply below_drew1 | refine below_set ?_ GE795.out | refine below_set ?_ GE801.out) | exact HB.out)) hb); clear HO_7; clear HO_111; clear BK795; clear BK801; clear HB; have HO_7 := n0_; have HO_111 := n1_; have BK795 := n2_; have BK801 := n3_; have HB := n4_; clear n0_ n1_ n2_ n3_ n4_; (try clear hb); (try clear hb2); (try clear hk); (try clear hi); have hcz103_0 : w102.cell? ⟨gb801, 0, none⟩ = some (.int .i64 x802000_3) := (blk_cell BK801.out 0).trans rfl; have hcz103_1 : w102.cell? ⟨gb801, 1, none⟩ = some (.int .i64 x802001_3) := (blk_cell BK801.out 1).trans rfl; have hfz103_0 := blk_frozen BK801.out 0; have hfz103_1 := blk_frozen BK801.out 1; have hcz104_0 : w102.cell? ⟨gb795, 0, none⟩ = some (.int .i64 x796000_2) := (blk_cell BK795.out 0).trans rfl; have hcz104_1 : w102.cell? ⟨gb795, 1, none⟩ = some (.int .i64 x796001_2) := (blk_cell BK795.out 1).trans rfl; have hfz104_0 := blk_frozen BK795.out 0; have hfz104_1 := blk_frozen BK795.out 1))
                    go_roundg k3
                    case measure => have := HJ8.out; have := HK2.out; have := HK3.out; omega
                    case rel => exact ⟨(decide (t812 < 0)), (decide (t812 > 0)), (wrap64 (x12_2 + 1)), (x802000_3), (x802001_3), (by first | rfl | (simp; done) | (simp [*]; done)), (by first | rfl | (simp; done) | (simp [*]; done)), (by first | rfl | (simp; done) | (simp [*]; done)), H', ⟨by have := HJ8.out; have := HK2.out; have := HK3.out; omega⟩, ⟨by (with_reducible repeat (first | apply Kd.R_alloc | apply Kd.R_drewN | apply Kd.R_drew)); exact Kd.R_mono (Kd.R_far (p := ⟨gb795, 1, none⟩) (Kd.R_far (p := ⟨gb795, 0, none⟩) (Kd.R_types HO_7.out BK795.out (by decide)) (fun _ hk => hk.2) (.int .i64 x802000_3)) (fun _ hk => hk.2) (.int .i64 x802001_3)) (fun _ hk => trivial)⟩, ⟨by (with_reducible repeat (first | refine blk_drewN ?_ _ | refine blk_drew ?_ | refine blk_alloc ?_ _)); refine blk_put (cs := #[.int .i64 x802000_3, .int .i64 x796001_2]) ?_ 1 _ rfl; (with_reducible repeat (first | refine blk_drewN ?_ _ | refine blk_drew ?_ | refine blk_alloc ?_ _)); refine blk_put (cs := #[.int .i64 x796000_2, .int .i64 x796001_2]) ?_ 0 _ rfl; (with_reducible repeat (first | refine blk_drewN ?_ _ | refine blk_drew ?_ | refine blk_alloc ?_ _)); exact BK795.out⟩, ⟨by repeat (first | (with_reducible first | exact HB.out | apply below_alloc | apply pw_below_drewN | apply below_drew1 | refine below_set ?_ GE795.out | refine below_set ?_ GE801.out) | exact HB.out)⟩⟩
                 ·
                  rw [if_neg c76] at H
                  have c76b0 : decide (0 < x12_2) = false := decide_eq_false c76
                  clear c76
                  have H' := Aside0.mk H
                  clear H
                  have hnb105 := NB801_795.out
                  have hnc105 := NB795_801.out
                  have hcz106_0 : wr.cell? ⟨gb801, 0, none⟩ = some (.int .i64 x802000_3) := (blk_cell BK801.out 0).trans rfl
                  have hcz106_1 : wr.cell? ⟨gb801, 1, none⟩ = some (.int .i64 x802001_3) := (blk_cell BK801.out 1).trans rfl
                  have hfz106_0 := blk_frozen BK801.out 0
                  have hfz106_1 := blk_frozen BK801.out 1
                  have hcz107_0 : wr.cell? ⟨gb795, 0, none⟩ = some (.int .i64 x796000_2) := (blk_cell BK795.out 0).trans rfl
                  have hcz107_1 : wr.cell? ⟨gb795, 1, none⟩ = some (.int .i64 x796001_2) := (blk_cell BK795.out 1).trans rfl
                  have hfz107_0 := blk_frozen BK795.out 0
                  have hfz107_1 := blk_frozen BK795.out 1
                  go_wp2
                  go_roundg k3
                  case measure => have := HJ8.out; have := HK2.out; have := HK3.out; omega
                  case rel => exact ⟨(x9_2), (x10_2), (wrap64 (x12_2 + 1)), (x802000_3), (x802001_3), (by first | rfl | (simp; done) | (simp [*]; done)), (by first | rfl | (simp; done) | (simp [*]; done)), (by first | rfl | (simp; done) | (simp [*]; done)), H', ⟨by have := HJ8.out; have := HK2.out; have := HK3.out; omega⟩, ⟨by (with_reducible repeat (first | apply Kd.R_alloc | apply Kd.R_drewN | apply Kd.R_drew)); exact Kd.R_mono (Kd.R_far (p := ⟨gb795, 1, none⟩) (Kd.R_far (p := ⟨gb795, 0, none⟩) (Kd.R_types HO_7.out BK795.out (by decide)) (fun _ hk => hk.2) (.int .i64 x802000_3)) (fun _ hk => hk.2) (.int .i64 x802001_3)) (fun _ hk => trivial)⟩, ⟨by (with_reducible repeat (first | refine blk_drewN ?_ _ | refine blk_drew ?_ | refine blk_alloc ?_ _)); refine blk_put (cs := #[.int .i64 x802000_3, .int .i64 x796001_2]) ?_ 1 _ rfl; (with_reducible repeat (first | refine blk_drewN ?_ _ | refine blk_drew ?_ | refine blk_alloc ?_ _)); refine blk_put (cs := #[.int .i64 x796000_2, .int .i64 x796001_2]) ?_ 0 _ rfl; (with_reducible repeat (first | refine blk_drewN ?_ _ | refine blk_drew ?_ | refine blk_alloc ?_ _)); exact BK795.out⟩, ⟨by repeat (first | (with_reducible first | exact HB.out | apply below_alloc | apply pw_below_drewN | apply below_drew1 | refine below_set ?_ GE795.out | refine below_set ?_ GE801.out) | exact HB.out)⟩⟩
                ·
                 rw [if_neg c75] at H
                 have c75b0 : ((wrap64 (x802000_3 * (wrap64 (((rd_T57 l0 (ji21)).f0) - ((rd_T57 l0 x12_2).f0))))) == (wrap64 ((wrap64 (((rd_T57 l0 (ji21)).f1) - ((rd_T57 l0 x12_2).f1))) * x802001_3))) = false := beq_eq_false_iff_ne.mpr c75
                 have c75b1 : ((wrap64 (x802000_3 * (wrap64 (((rd_T57 l0 (ji21)).f0) - ((rd_T57 l0 x12_2).f0))))) != (wrap64 ((wrap64 (((rd_T57 l0 (ji21)).f1) - ((rd_T57 l0 x12_2).f1))) * x802001_3))) = true := bne_iff_ne.mpr c75
                 obtain rfl := Option.some.inj H
                 have hnb108 := NB801_795.out
                 have hnc108 := NB795_801.out
                 have hcz109_0 : wr.cell? ⟨gb801, 0, none⟩ = some (.int .i64 x802000_3) := (blk_cell BK801.out 0).trans rfl
                 have hcz109_1 : wr.cell? ⟨gb801, 1, none⟩ = some (.int .i64 x802001_3) := (blk_cell BK801.out 1).trans rfl
                 have hfz109_0 := blk_frozen BK801.out 0
                 have hfz109_1 := blk_frozen BK801.out 1
                 go_wp2
                 go_ret
                 exact ⟨by first | rfl | (simp [errW_none, errW_some] <;> rfl) | (simp only [← hji21]; first | rfl | (simp [errW_none, errW_some] <;> rfl)) | (simp [*, errW_none, errW_some] <;> rfl), by repeat (first | (with_reducible first | exact HB.out | apply below_alloc | apply pw_below_drewN | apply below_drew1 | refine below_set ?_ GE795.out | refine below_set ?_ GE801.out) | exact HB.out)⟩
           ·
            rw [if_neg c24] at H
            exact absurd H (by simp)
          ·
           rw [if_neg c23] at H
           exact absurd H (by simp)
         ·
          rw [if_neg c22] at H
          exact absurd H (by simp)
        ·
         rw [if_neg c20] at H
         have c20b0 : decide ((wrap64 (x12_2 + 1)) < (l0.length : Int)) = false := decide_eq_false c20
         clear c20
         have H' := Aside0.mk H
         clear H
         go_wp2
         go_loopg [22] k2 (fun kq v22 w' => ∃ (x22_3 : Int), v22 = .int .i64 x22_3 ∧ Aside0 (law_CurveRates.l2 kq t788 t790 x9_2 x10_2 x22_3 = some r) ∧ Aside0 (kq ≤ k2) ∧ Aside0 (Kd.R k57 57 w' w.heap.size (fun _ => True) v792 t790) ∧ Aside0 (w'.heap[gb795]? = some (.cells #[.int .i64 x796000_2, .int .i64 x796001_2] 25 (0, 0))) ∧ Aside0 (Below w.heap.size w w'))
         case atStart => exact ⟨(1), (by first | rfl | (simp; done) | (simp [*]; done)), H', ⟨Nat.le_refl _⟩, ⟨by (with_reducible repeat (first | apply Kd.R_alloc | apply Kd.R_drewN | apply Kd.R_drew)); exact HO_7.out⟩, ⟨by (with_reducible repeat (first | refine blk_drewN ?_ _ | refine blk_drew ?_ | refine blk_alloc ?_ _)); exact BK795.out⟩, ⟨by repeat (first | (with_reducible first | exact HB.out | apply below_alloc | apply pw_below_drewN | apply below_drew1 | refine below_set ?_ GE795.out) | exact HB.out)⟩⟩
         case round => as_aux_lemma =>
          clear H'
          try clear c1
          try clear c2
          try clear p2
          try clear c3
          try clear c4
          try clear c5
          try clear c6
          try clear p6
          try clear c7
          try clear p7
          try clear q7
          try clear hx7
          try clear c8
          try clear p8
          try clear q8
          try clear hx8
          try clear c9
          try clear c10
          try clear c20
          try clear c20b0
          try clear c22
          try clear c23
          try clear c24
          try clear c25
          try clear c25b0
          try clear c25b1
          try clear c28
          try clear c33
          try clear c33b0
          try clear c34
          try clear c34b0
          try clear c35
          try clear c35b0
          try clear c40
          try clear c41
          try clear c43
          try clear c43b0
          try clear c43b1
          try clear c44
          try clear c44b0
          try clear c45
          try clear c46
          try clear c48
          try clear c48b0
          try clear c49
          try clear c50
          try clear c52
          try clear c52b0
          try clear c53
          try clear c54
          try clear c56
          try clear c56b0
          try clear c57
          try clear c58
          try clear c60
          try clear c60b0
          try clear c61
          try clear c62
          try clear c64
          try clear p64
          try clear c66
          try clear c67
          try clear c69
          try clear c70
          try clear c71
          try clear c73
          try clear c75
          try clear c75b0
          try clear c75b1
          try clear c76
          try clear c76b0
          try clear c78
          try clear c79
          try clear p79
          try clear q79
          try clear hx79
          try clear c80
          try clear p80
          try clear q80
          try clear hx80
          try clear c86
          try clear c92
          try clear c93
          try clear c99
          try clear c105
          try clear c108
          try clear hcz100_0
          try clear hcz100_1
          try clear hcz101_0
          try clear hcz101_1
          try clear hcz103_0
          try clear hcz103_1
          try clear hcz104_0
          try clear hcz104_1
          try clear hcz106_0
          try clear hcz106_1
          try clear hcz107_0
          try clear hcz107_1
          try clear hcz109_0
          try clear hcz109_1
          try clear hcz42_0
          try clear hcz42_1
          try clear hcz47_0
          try clear hcz47_1
          try clear hcz51_0
          try clear hcz51_1
          try clear hcz55_0
          try clear hcz55_1
          try clear hcz59_0
          try clear hcz59_1
          try clear hcz63_0
          try clear hcz63_1
          try clear hcz65_0
          try clear hcz65_1
          try clear hcz68_0
          try clear hcz68_1
          try clear hcz72_0
          try clear hcz72_1
          try clear hcz74_0
          try clear hcz74_1
          try clear hcz81_0
          try clear hcz81_1
          try clear hcz82_0
          try clear hcz82_1
          try clear hcz84_0
          try clear hcz84_1
          try clear hcz85_0
          try clear hcz85_1
          try clear hcz87_0
          try clear hcz87_1
          try clear hcz88_0
          try clear hcz88_1
          try clear hcz90_0
          try clear hcz90_1
          try clear hcz91_0
          try clear hcz91_1
          try clear hcz94_0
          try clear hcz94_1
          try clear hcz95_0
          try clear hcz95_1
          try clear hcz97_0
          try clear hcz97_1
          try clear hcz98_0
          try clear hcz98_1
          try clear hfz100_0
          try clear hfz100_1
          try clear hfz101_0
          try clear hfz101_1
          try clear hfz103_0
          try clear hfz103_1
          try clear hfz104_0
          try clear hfz104_1
          try clear hfz106_0
          try clear hfz106_1
          try clear hfz107_0
          try clear hfz107_1
          try clear hfz109_0
          try clear hfz109_1
          try clear hfz42_0
          try clear hfz42_1
          try clear hfz47_0
          try clear hfz47_1
          try clear hfz51_0
          try clear hfz51_1
          try clear hfz55_0
          try clear hfz55_1
          try clear hfz59_0
          try clear hfz59_1
          try clear hfz63_0
          try clear hfz63_1
          try clear hfz65_0
          try clear hfz65_1
          try clear hfz68_0
          try clear hfz68_1
          try clear hfz72_0
          try clear hfz72_1
          try clear hfz74_0
          try clear hfz74_1
          try clear hfz81_0
          try clear hfz81_1
          try clear hfz82_0
          try clear hfz82_1
          try clear hfz84_0
          try clear hfz84_1
          try clear hfz85_0
          try clear hfz85_1
          try clear hfz87_0
          try clear hfz87_1
          try clear hfz88_0
          try clear hfz88_1
          try clear hfz90_0
          try clear hfz90_1
          try clear hfz91_0
          try clear hfz91_1
          try clear hfz94_0
          try clear hfz94_1
          try clear hfz95_0
          try clear hfz95_1
          try clear hfz97_0
          try clear hfz97_1
          try clear hfz98_0
          try clear hfz98_1
          try clear hx796_0
          try clear hx796_1
          try clear hx797_0
          try clear hx797_1
          try clear hx798_0
          try clear hx798_1
          try clear hx799_0
          try clear hx799_1
          try clear hx800_0
          try clear hx800_1
          try clear hx802_0
          try clear hx802_1
          try clear hx803_0
          try clear hx803_1
          try clear hx807_0
          try clear p2
          try clear p6
          try clear p64
          try clear p7
          try clear p796
          try clear p797
          try clear p798
          try clear p799
          try clear p8
          try clear p800
          try clear p802
          try clear p803
          try clear p807
          try clear q7
          try clear q796
          try clear q797
          try clear q798
          try clear q799
          try clear q8
          try clear q800
          try clear q802
          try clear q803
          try clear q807
          obtain ⟨x22_3, rfl, HA, HK3, HO_7, BK795, HB⟩ := hrel
          cases gk with
          | zero => exact absurd HA.out (by simp [law_CurveRates.l2])
          | succ k3 =>
           have H := HA.out
           clear HA
           simp only [law_CurveRates.l2] at H
           by_cases c110 : (wrap64 (x22_3 + 1)) < (t790.length : Int)
           ·
            rw [if_pos c110] at H
            have c110b0 : decide ((wrap64 (x22_3 + 1)) < (t790.length : Int)) = true := decide_eq_true c110
            clear c110
            by_cases c111 : 0 ≤ x22_3
            ·
             rw [if_pos c111] at H
             have c111b0 : decide (0 ≤ x22_3) = true := decide_eq_true c111
             clear c111
             by_cases c112 : x22_3 < (t790.length : Int)
             ·
              rw [if_pos c112] at H
              have c112b0 : decide (x22_3 < (t790.length : Int)) = true := decide_eq_true c112
              clear c112
              replace H := Option.bind_eq_some_iff.mp H
              obtain ⟨⟨t814, t815, t816⟩, A1130, H⟩ := H
              replace H : ((curve_Rate.f t790 ((rd_T57 t790 x22_3).f0)).bind fun bt819 => (if t816 = 0 then (if bt819.2.2 = 0 then (law_CurveRates.j5 k3 t788 t790 x9_2 x10_2 x22_3 (t814 == bt819.1 && (t815 == bt819.2.1))) else (law_CurveRates.j5 k3 t788 t790 x9_2 x10_2 x22_3 true)) else (law_CurveRates.j5 k3 t788 t790 x9_2 x10_2 x22_3 true))) = some r := H
              have A113 := Aside0.mk A1130
              clear A1130
              replace H := Option.bind_eq_some_iff.mp H
              obtain ⟨⟨t819, t820, t821⟩, A1140, H⟩ := H
              replace H : (if t816 = 0 then (if t821 = 0 then (law_CurveRates.j5 k3 t788 t790 x9_2 x10_2 x22_3 (t814 == t819 && (t815 == t820))) else (law_CurveRates.j5 k3 t788 t790 x9_2 x10_2 x22_3 true)) else (law_CurveRates.j5 k3 t788 t790 x9_2 x10_2 x22_3 true)) = some r := H
              have A114 := Aside0.mk A1140
              clear A1140
              have HC115 := Aside0.mk H
              clear H
              obtain ⟨Ao116, co116, eo116⟩ := Kd.R_slice HO_7.out
              subst eo116
              have p813 : 0 ≤ (x22_3 : Int) := of_decide_eq_true (by first | (with_reducible assumption) | assumption)
              have q813 : x22_3 < (t790.length : Int) := of_decide_eq_true (by first | (with_reducible assumption) | assumption)
              obtain ⟨ad813, e813, hx813_0, hx813_1⟩ := at_T57 (Kd.R_reads' HO_7.out).2.2 x22_3 p813 q813
              cases e813
              replace p813 := eq_true p813
              replace q813 := eq_true q813
              go_upto_region 36 with (first | ((with_reducible refine gate_callee (f := 28) rfl ?_); refine goesL_ (some 197) rfl rfl Tryd.func28 (by kernel_rfl) rfl #[.slice (some ad813) t790.length co116, .int .i64 (wrap64 (((rd_T57 t790 x22_3).f0) - 1))] rfl (by (try simp only [List.map_toArray, List.map_cons, List.map_nil]); first | done | rfl | (simp only [List.length_drop, List.length_take]; rfl)) ?_; (with_reducible refine (curve_Rate.calls _ _ t790 (wrap64 (((rd_T57 t790 x22_3).f0) - 1)) t814 t815 t816 _ ?side1 ?side2 A113.out).mono ?_); (case side1 => repeat (first | exact (Kd.R_reads' HO_7.out).2.2 | (with_reducible refine Kd.C_alloc ?_ _) | (with_reducible refine Kd.C_drewN ?_ _) | (with_reducible refine Kd.C_drew ?_))); (case side2 => exact (Kd.R_reads' HO_7.out).2.1); rintro e w117 ⟨rfl, hb⟩; refine ⟨_, rfl, ?_⟩; have n0_ := Aside0.mk (Kd.R_below (by (with_reducible repeat (first | apply Kd.R_alloc | apply Kd.R_drewN | apply Kd.R_drew)); exact HO_7.out) hb); have n1_ := Aside0.mk (blk_below (g := gb795) (o := .cells #[.int .i64 x796000_2, .int .i64 x796001_2] 25 (0, 0)) (by (with_reducible repeat (first | refine blk_drewN ?_ _ | refine blk_drew ?_ | refine blk_alloc ?_ _)); exact BK795.out) hb); have n2_ := Aside0.mk (below_step (by repeat (first | (with_reducible first | exact HB.out | apply below_alloc | apply pw_below_drewN | apply below_drew1 | refine below_set ?_ GE795.out) | exact HB.out)) hb); clear HO_7; clear BK795; clear HB; have HO_7 := n0_; have BK795 := n1_; have HB := n2_; clear n0_ n1_ n2_; (try clear hb); (try clear hb2); (try clear hk); (try clear hi)) | ((with_reducible refine gate_dst (N := 23) rfl ?_); refine box_event ?hg (N := 23) ?hd (cs := #[.int .i64 0, .int .i64 0]) (t := 25) ?hr ?_; (case hd => rfl); (case hg => rfl); (case hr => first | (go_simp; done) | (go_simp; rfl)); intro gb817 hg w118 hbox hb; have n0_ := Aside0.mk (Kd.R_below (by (with_reducible repeat (first | apply Kd.R_alloc | apply Kd.R_drewN | apply Kd.R_drew)); exact HO_7.out) hb); have n1_ := Aside0.mk (blk_below (g := gb795) (o := .cells #[.int .i64 x796000_2, .int .i64 x796001_2] 25 (0, 0)) (by (with_reducible repeat (first | refine blk_drewN ?_ _ | refine blk_drew ?_ | refine blk_alloc ?_ _)); exact BK795.out) hb); have n2_ := Aside0.mk (below_step (by repeat (first | (with_reducible first | exact HB.out | apply below_alloc | apply pw_below_drewN | apply below_drew1 | refine below_set ?_ GE795.out) | exact HB.out)) hb); have n3_ := Aside0.mk (hbox); have n4_ := Aside0.mk ((by rw [hg]; exact (below_size (by repeat (first | (with_reducible first | exact HB.out | apply below_alloc | apply pw_below_drewN | apply below_drew1 | refine below_set ?_ GE795.out) | exact HB.out))) : w.heap.size ≤ gb817)); have n5_ := Aside0.mk ((by rw [hg]; exact (below_size (by repeat (first | (with_reducible first | exact HB.out | apply below_alloc | apply pw_below_drewN | apply below_drew1 | refine below_set ?_ GE795.out) | exact HB.out))) : w.heap.size ≤ gb817)); have n6_ := Aside0.mk ((by rw [hg]; exact Nat.ne_of_lt (blk_lt (g := gb795) (o := .cells #[.int .i64 x796000_2, .int .i64 x796001_2] 25 (0, 0)) (by (with_reducible repeat (first | refine blk_drewN ?_ _ | refine blk_drew ?_ | refine blk_alloc ?_ _)); exact BK795.out)) : gb795 ≠ gb817)); have n7_ := Aside0.mk ((by rw [hg]; exact Nat.ne_of_gt (blk_lt (g := gb795) (o := .cells #[.int .i64 x796000_2, .int .i64 x796001_2] 25 (0, 0)) (by (with_reducible repeat (first | refine blk_drewN ?_ _ | refine blk_drew ?_ | refine blk_alloc ?_ _)); exact BK795.out)) : gb817 ≠ gb795)); clear HO_7; clear BK795; clear HB; have HO_7 := n0_; have BK795 := n1_; have HB := n2_; have BK817 := n3_; have GW817 := n4_; have GE817 := n5_; have NB795_817 := n6_; have NB817_795 := n7_; clear n0_ n1_ n2_ n3_ n4_ n5_ n6_ n7_; clear hb hbox hg; have hnb119 := NB817_795.out; have hnc119 := NB795_817.out; have hcz120_0 : w118.cell? ⟨gb817, 0, none⟩ = some (.int .i64 0) := (blk_cell BK817.out 0).trans rfl; have hcz120_1 : w118.cell? ⟨gb817, 1, none⟩ = some (.int .i64 0) := (blk_cell BK817.out 1).trans rfl; have hfz120_0 := blk_frozen BK817.out 0; have hfz120_1 := blk_frozen BK817.out 1; have p818 : 0 ≤ (x22_3 : Int) := of_decide_eq_true (by first | (with_reducible assumption) | assumption); have q818 : x22_3 < (t790.length : Int) := of_decide_eq_true (by first | (with_reducible assumption) | assumption); obtain ⟨ad818, e818, hx818_0, hx818_1⟩ := at_T57 (Kd.R_reads' HO_7.out).2.2 x22_3 p818 q818; obtain rfl : ad813 = ad818 := (by injection e818); have hn818_0 : ad813.block ≠ gb817 := Kd.own_blk (Kd.R_ne HO_7.out BK817.out (by decide)); have hn818_1 : ad813.block ≠ gb817 := Kd.own_blk (Kd.R_ne HO_7.out BK817.out (by decide)); replace hx818_0 := (cell_far (p := ⟨gb817, 0, none⟩) (by first | (rw [add_block]; exact hn818_0) | (show (Addr.add _ _).block ≠ _; rw [add_block]; exact hn818_0) | exact hn818_0) (.int .i64 t814)).trans hx818_0; replace hx818_1 := (cell_far (p := ⟨gb817, 0, none⟩) (by first | (rw [add_block]; exact hn818_0) | (show (Addr.add _ _).block ≠ _; rw [add_block]; exact hn818_0) | exact hn818_0) (.int .i64 t814)).trans hx818_1; replace hx818_0 := (cell_far (p := ⟨gb817, 1, none⟩) (by first | (rw [add_block]; exact hn818_1) | (show (Addr.add _ _).block ≠ _; rw [add_block]; exact hn818_1) | exact hn818_1) (.int .i64 t815)).trans hx818_0; replace hx818_1 := (cell_far (p := ⟨gb817, 1, none⟩) (by first | (rw [add_block]; exact hn818_1) | (show (Addr.add _ _).block ≠ _; rw [add_block]; exact hn818_1) | exact hn818_1) (.int .i64 t815)).trans hx818_1; clear hn818_0; clear hn818_1; replace p818 := eq_true p818; replace q818 := eq_true q818) | ((with_reducible refine gate_callee (f := 28) rfl ?_); refine goesL_ (some 207) rfl rfl Tryd.func28 (by kernel_rfl) rfl #[.slice (some ad813) t790.length co116, .int .i64 ((rd_T57 t790 x22_3).f0)] rfl (by (try simp only [List.map_toArray, List.map_cons, List.map_nil]); first | done | rfl | (simp only [List.length_drop, List.length_take]; rfl)) ?_; (with_reducible refine (curve_Rate.calls _ _ t790 ((rd_T57 t790 x22_3).f0) t819 t820 t821 _ ?side1 ?side2 A114.out).mono ?_); (case side1 => refine (Kd.R_reads' (e := 57) (base := w.heap.size) (ok := fun k_ => True) (n := t790.length) (c := co116) ?_).2.2; exact (by (with_reducible repeat (first | apply Kd.R_alloc | apply Kd.R_drewN | apply Kd.R_drew)); exact (Kd.R_mono (Kd.R_far (p := ⟨gb817, 1, none⟩) (Kd.R_far (p := ⟨gb817, 0, none⟩) (Kd.R_types HO_7.out BK817.out (by decide)) (fun _ hk => hk.2) (.int .i64 t814)) (fun _ hk => hk.2) (.int .i64 t815)) (fun _ h_ => h_.1)))); (case side2 => exact (Kd.R_reads' HO_7.out).2.1); rintro e w121 ⟨rfl, hb⟩; refine ⟨_, rfl, ?_⟩; have n0_ := Aside0.mk (Kd.R_below (by (with_reducible repeat (first | apply Kd.R_alloc | apply Kd.R_drewN | apply Kd.R_drew)); exact (Kd.R_mono (Kd.R_far (p := ⟨gb817, 1, none⟩) (Kd.R_far (p := ⟨gb817, 0, none⟩) (Kd.R_types HO_7.out BK817.out (by decide)) (fun _ hk => hk.2) (.int .i64 t814)) (fun _ hk => hk.2) (.int .i64 t815)) (fun _ h_ => h_.1))) hb); have n1_ := Aside0.mk (blk_below (g := gb795) (o := .cells #[.int .i64 x796000_2, .int .i64 x796001_2] 25 (0, 0)) (by (with_reducible repeat (first | refine blk_drewN ?_ _ | refine blk_drew ?_ | refine blk_alloc ?_ _)); refine blk_far ?_ NB795_817.out _; (with_reducible repeat (first | refine blk_drewN ?_ _ | refine blk_drew ?_ | refine blk_alloc ?_ _)); refine blk_far ?_ NB795_817.out _; (with_reducible repeat (first | refine blk_drewN ?_ _ | refine blk_drew ?_ | refine blk_alloc ?_ _)); exact BK795.out) hb); have n2_ := Aside0.mk (blk_below (g := gb817) (o := .cells #[.int .i64 t814, .int .i64 t815] 25 (0, 0)) (by (with_reducible repeat (first | refine blk_drewN ?_ _ | refine blk_drew ?_ | refine blk_alloc ?_ _)); refine blk_put (cs := #[.int .i64 t814, .int .i64 0]) ?_ 1 _ rfl; (with_reducible repeat (first | refine blk_drewN ?_ _ | refine blk_drew ?_ | refine blk_alloc ?_ _)); refine blk_put (cs := #[.int .i64 0, .int .i64 0]) ?_ 0 _ rfl; (with_reducible repeat (first | refine blk_drewN ?_ _ | refine blk_drew ?_ | refine blk_alloc ?_ _)); exact BK817.out) hb); have n3_ := Aside0.mk (below_step (by repeat (first | (with_reducible first | exact HB.out | apply below_alloc | apply pw_below_drewN | apply below_drew1 | refine below_set ?_ GE795.out | refine below_set ?_ GE817.out) | exact HB.out)) hb); clear HO_7; clear BK795; clear BK817; clear HB; have HO_7 := n0_; have BK795 := n1_; have BK817 := n2_; have HB := n3_; clear n0_ n1_ n2_ n3_; (try clear hb); (try clear hb2); (try clear hk); (try clear hi)) | ((with_reducible refine gate_dst (N := 25) rfl ?_); refine box_event ?hg (N := 25) ?hd (cs := #[.int .i64 0, .int .i64 0]) (t := 25) ?hr ?_; (case hd => rfl); (case hg => rfl); (case hr => first | (go_simp; done) | (go_simp; rfl)); intro gb822 hg w122 hbox hb; have n0_ := Aside0.mk (Kd.R_below (by (with_reducible repeat (first | apply Kd.R_alloc | apply Kd.R_drewN | apply Kd.R_drew)); exact HO_7.out) hb); have n1_ := Aside0.mk (blk_below (g := gb795) (o := .cells #[.int .i64 x796000_2, .int .i64 x796001_2] 25 (0, 0)) (by (with_reducible repeat (first | refine blk_drewN ?_ _ | refine blk_drew ?_ | refine blk_alloc ?_ _)); exact BK795.out) hb); have n2_ := Aside0.mk (blk_below (g := gb817) (o := .cells #[.int .i64 t814, .int .i64 t815] 25 (0, 0)) (by (with_reducible repeat (first | refine blk_drewN ?_ _ | refine blk_drew ?_ | refine blk_alloc ?_ _)); exact BK817.out) hb); have n3_ := Aside0.mk (below_step (by repeat (first | (with_reducible first | exact HB.out | apply below_alloc | apply pw_below_drewN | apply below_drew1 | refine below_set ?_ GE795.out | refine below_set ?_ GE817.out) | exact HB.out)) hb); have n4_ := Aside0.mk (hbox); have n5_ := Aside0.mk ((by rw [hg]; exact (below_size (by repeat (first | (with_reducible first | exact HB.out | apply below_alloc | apply pw_below_drewN | apply below_drew1 | refine below_set ?_ GE795.out | refine below_set ?_ GE817.out) | exact HB.out))) : w.heap.size ≤ gb822)); have n6_ := Aside0.mk ((by rw [hg]; exact (below_size (by repeat (first | (with_reducible first | exact HB.out | apply below_alloc | apply pw_below_drewN | apply below_drew1 | refine below_set ?_ GE795.out | refine below_set ?_ GE817.out) | exact HB.out))) : w.heap.size ≤ gb822)); have n7_ := Aside0.mk ((by rw [hg]; exact Nat.ne_of_lt (blk_lt (g := gb795) (o := .cells #[.int .i64 x796000_2, .int .i64 x796001_2] 25 (0, 0)) (by (with_reducible repeat (first | refine blk_drewN ?_ _ | refine blk_drew ?_ | refine blk_alloc ?_ _)); exact BK795.out)) : gb795 ≠ gb822)); have n8_ := Aside0.mk ((by rw [hg]; exact Nat.ne_of_gt (blk_lt (g := gb795) (o := .cells #[.int .i64 x796000_2, .int .i64 x796001_2] 25 (0, 0)) (by (with_reducible repeat (first | refine blk_drewN ?_ _ | refine blk_drew ?_ | refine blk_alloc ?_ _)); exact BK795.out)) : gb822 ≠ gb795)); have n9_ := Aside0.mk ((by rw [hg]; exact Nat.ne_of_lt (blk_lt (g := gb817) (o := .cells #[.int .i64 t814, .int .i64 t815] 25 (0, 0)) (by (with_reducible repeat (first | refine blk_drewN ?_ _ | refine blk_drew ?_ | refine blk_alloc ?_ _)); exact BK817.out)) : gb817 ≠ gb822)); have n10_ := Aside0.mk ((by rw [hg]; exact Nat.ne_of_gt (blk_lt (g := gb817) (o := .cells #[.int .i64 t814, .int .i64 t815] 25 (0, 0)) (by (with_reducible repeat (first | refine blk_drewN ?_ _ | refine blk_drew ?_ | refine blk_alloc ?_ _)); exact BK817.out)) : gb822 ≠ gb817)); clear HO_7; clear BK795; clear BK817; clear HB; have HO_7 := n0_; have BK795 := n1_; have BK817 := n2_; have HB := n3_; have BK822 := n4_; have GW822 := n5_; have GE822 := n6_; have NB795_822 := n7_; have NB822_795 := n8_; have NB817_822 := n9_; have NB822_817 := n10_; clear n0_ n1_ n2_ n3_ n4_ n5_ n6_ n7_ n8_ n9_ n10_; clear hb hbox hg; have hnb123 := NB822_795.out; have hnc123 := NB795_822.out; have hnb124 := NB822_817.out; have hnc124 := NB817_822.out; have hcz125_0 : w122.cell? ⟨gb822, 0, none⟩ = some (.int .i64 0) := (blk_cell BK822.out 0).trans rfl; have hcz125_1 : w122.cell? ⟨gb822, 1, none⟩ = some (.int .i64 0) := (blk_cell BK822.out 1).trans rfl; have hfz125_0 := blk_frozen BK822.out 0; have hfz125_1 := blk_frozen BK822.out 1))
              (try simp only [Act.put, List.setIfInBounds_toArray, List.set_cons_zero, List.set_cons_succ])
              go_cut [220] (fun v220 wc => ∃ (kq : Nat) (x220_114 : Bool), v220 = .bool x220_114 ∧ Aside0 (law_CurveRates.j5 kq t788 t790 x9_2 x10_2 x22_3 x220_114 = some r) ∧ Aside0 (kq ≤ k3) ∧ Aside0 (Kd.R k57 57 wc w.heap.size (fun _ => True) (.slice (some ad813) t790.length co116) t790) ∧ Aside0 (wc.heap[gb795]? = some (.cells #[.int .i64 x796000_2, .int .i64 x796001_2] 25 (0, 0))) ∧ Aside0 (wc.heap[gb817]? = some (.cells #[.int .i64 t814, .int .i64 t815] 25 (0, 0))) ∧ Aside0 (wc.heap[gb822]? = some (.cells #[.int .i64 t819, .int .i64 t820] 25 (0, 0))) ∧ Aside0 (Below w.heap.size w wc))
              case first => as_aux_lemma =>
               have H := HC115.out
               clear HC115
               by_cases c126 : t816 = 0
               ·
                rw [if_pos c126] at H
                have c126b0 : (t816 == 0) = true := beq_iff_eq.mpr c126
                have c126b1 : (t816 != 0) = false := bne_eq_false_iff_eq.mpr c126
                clear c126
                (first | rw [c126b0] | (simp only [i64_w, i32_w]; rw [c126b0]) | skip)
                by_cases c127 : t821 = 0
                ·
                 rw [if_pos c127] at H
                 have c127b0 : (t821 == 0) = true := beq_iff_eq.mpr c127
                 have c127b1 : (t821 != 0) = false := bne_eq_false_iff_eq.mpr c127
                 clear c127
                 have H' := Aside0.mk H
                 clear H
                 have hnb128 := NB817_795.out
                 have hnc128 := NB795_817.out
                 have hnb129 := NB817_822.out
                 have hnc129 := NB822_817.out
                 have hcz130_0 : w122.cell? ⟨gb817, 0, none⟩ = some (.int .i64 t814) := (blk_cell BK817.out 0).trans rfl
                 have hcz130_1 : w122.cell? ⟨gb817, 1, none⟩ = some (.int .i64 t815) := (blk_cell BK817.out 1).trans rfl
                 have hfz130_0 := blk_frozen BK817.out 0
                 have hfz130_1 := blk_frozen BK817.out 1
                 have hnb131 := NB822_795.out
                 have hnc131 := NB795_822.out
                 have hcz132_0 : w122.cell? ⟨gb822, 0, none⟩ = some (.int .i64 0) := (blk_cell BK822.out 0).trans rfl
                 have hcz132_1 : w122.cell? ⟨gb822, 1, none⟩ = some (.int .i64 0) := (blk_cell BK822.out 1).trans rfl
                 have hfz132_0 := blk_frozen BK822.out 0
                 have hfz132_1 := blk_frozen BK822.out 1
                 go_wp2
                 go_meet
                 case rel => exact ⟨_, ((t814 == t819 && (t815 == t820))), (by first | rfl | (simp; done) | (simp [*]; done)), H', ⟨by have := HJ8.out; have := HK2.out; have := HK3.out; first | omega | exact Nat.le_refl _⟩, ⟨by (with_reducible repeat (first | apply Kd.R_alloc | apply Kd.R_drewN | apply Kd.R_drew)); exact Kd.R_mono (Kd.R_far (p := ⟨gb822, 1, none⟩) (Kd.R_far (p := ⟨gb822, 0, none⟩) (Kd.R_types HO_7.out BK822.out (by decide)) (fun _ hk => hk.2) (.int .i64 t819)) (fun _ hk => hk.2) (.int .i64 t820)) (fun _ hk => trivial)⟩, ⟨by (with_reducible repeat (first | refine blk_drewN ?_ _ | refine blk_drew ?_ | refine blk_alloc ?_ _)); refine blk_far ?_ NB795_822.out _; (with_reducible repeat (first | refine blk_drewN ?_ _ | refine blk_drew ?_ | refine blk_alloc ?_ _)); refine blk_far ?_ NB795_822.out _; (with_reducible repeat (first | refine blk_drewN ?_ _ | refine blk_drew ?_ | refine blk_alloc ?_ _)); exact BK795.out⟩, ⟨by (with_reducible repeat (first | refine blk_drewN ?_ _ | refine blk_drew ?_ | refine blk_alloc ?_ _)); refine blk_far ?_ NB817_822.out _; (with_reducible repeat (first | refine blk_drewN ?_ _ | refine blk_drew ?_ | refine blk_alloc ?_ _)); refine blk_far ?_ NB817_822.out _; (with_reducible repeat (first | refine blk_drewN ?_ _ | refine blk_drew ?_ | refine blk_alloc ?_ _)); exact BK817.out⟩, ⟨by (with_reducible repeat (first | refine blk_drewN ?_ _ | refine blk_drew ?_ | refine blk_alloc ?_ _)); refine blk_put (cs := #[.int .i64 t819, .int .i64 0]) ?_ 1 _ rfl; (with_reducible repeat (first | refine blk_drewN ?_ _ | refine blk_drew ?_ | refine blk_alloc ?_ _)); refine blk_put (cs := #[.int .i64 0, .int .i64 0]) ?_ 0 _ rfl; (with_reducible repeat (first | refine blk_drewN ?_ _ | refine blk_drew ?_ | refine blk_alloc ?_ _)); exact BK822.out⟩, ⟨by repeat (first | (with_reducible first | exact HB.out | apply below_alloc | apply pw_below_drewN | apply below_drew1 | refine below_set ?_ GE795.out | refine below_set ?_ GE817.out | refine below_set ?_ GE822.out) | exact HB.out)⟩⟩
                ·
                 rw [if_neg c127] at H
                 have c127b0 : (t821 == 0) = false := beq_eq_false_iff_ne.mpr c127
                 have c127b1 : (t821 != 0) = true := bne_iff_ne.mpr c127
                 have H' := Aside0.mk H
                 clear H
                 go_wp2
                 go_meet
                 case rel => exact ⟨_, (true), (by first | rfl | (simp; done) | (simp [*]; done)), H', ⟨by have := HJ8.out; have := HK2.out; have := HK3.out; first | omega | exact Nat.le_refl _⟩, ⟨by (with_reducible repeat (first | apply Kd.R_alloc | apply Kd.R_drewN | apply Kd.R_drew)); exact Kd.R_mono (Kd.R_far (p := ⟨gb822, 1, none⟩) (Kd.R_far (p := ⟨gb822, 0, none⟩) (Kd.R_types HO_7.out BK822.out (by decide)) (fun _ hk => hk.2) (.int .i64 t819)) (fun _ hk => hk.2) (.int .i64 t820)) (fun _ hk => trivial)⟩, ⟨by (with_reducible repeat (first | refine blk_drewN ?_ _ | refine blk_drew ?_ | refine blk_alloc ?_ _)); refine blk_far ?_ NB795_822.out _; (with_reducible repeat (first | refine blk_drewN ?_ _ | refine blk_drew ?_ | refine blk_alloc ?_ _)); refine blk_far ?_ NB795_822.out _; (with_reducible repeat (first | refine blk_drewN ?_ _ | refine blk_drew ?_ | refine blk_alloc ?_ _)); exact BK795.out⟩, ⟨by (with_reducible repeat (first | refine blk_drewN ?_ _ | refine blk_drew ?_ | refine blk_alloc ?_ _)); refine blk_far ?_ NB817_822.out _; (with_reducible repeat (first | refine blk_drewN ?_ _ | refine blk_drew ?_ | refine blk_alloc ?_ _)); refine blk_far ?_ NB817_822.out _; (with_reducible repeat (first | refine blk_drewN ?_ _ | refine blk_drew ?_ | refine blk_alloc ?_ _)); exact BK817.out⟩, ⟨by (with_reducible repeat (first | refine blk_drewN ?_ _ | refine blk_drew ?_ | refine blk_alloc ?_ _)); refine blk_put (cs := #[.int .i64 t819, .int .i64 0]) ?_ 1 _ rfl; (with_reducible repeat (first | refine blk_drewN ?_ _ | refine blk_drew ?_ | refine blk_alloc ?_ _)); refine blk_put (cs := #[.int .i64 0, .int .i64 0]) ?_ 0 _ rfl; (with_reducible repeat (first | refine blk_drewN ?_ _ | refine blk_drew ?_ | refine blk_alloc ?_ _)); exact BK822.out⟩, ⟨by repeat (first | (with_reducible first | exact HB.out | apply below_alloc | apply pw_below_drewN | apply below_drew1 | refine below_set ?_ GE795.out | refine below_set ?_ GE817.out | refine below_set ?_ GE822.out) | exact HB.out)⟩⟩
               ·
                rw [if_neg c126] at H
                have c126b0 : (t816 == 0) = false := beq_eq_false_iff_ne.mpr c126
                have c126b1 : (t816 != 0) = true := bne_iff_ne.mpr c126
                (first | rw [c126b0] | (simp only [i64_w, i32_w]; rw [c126b0]) | skip)
                have H' := Aside0.mk H
                clear H
                go_wp2
                go_meet
                case rel => exact ⟨_, (true), (by first | rfl | (simp; done) | (simp [*]; done)), H', ⟨by have := HJ8.out; have := HK2.out; have := HK3.out; first | omega | exact Nat.le_refl _⟩, ⟨by (with_reducible repeat (first | apply Kd.R_alloc | apply Kd.R_drewN | apply Kd.R_drew)); exact Kd.R_mono (Kd.R_far (p := ⟨gb822, 1, none⟩) (Kd.R_far (p := ⟨gb822, 0, none⟩) (Kd.R_types HO_7.out BK822.out (by decide)) (fun _ hk => hk.2) (.int .i64 t819)) (fun _ hk => hk.2) (.int .i64 t820)) (fun _ hk => trivial)⟩, ⟨by (with_reducible repeat (first | refine blk_drewN ?_ _ | refine blk_drew ?_ | refine blk_alloc ?_ _)); refine blk_far ?_ NB795_822.out _; (with_reducible repeat (first | refine blk_drewN ?_ _ | refine blk_drew ?_ | refine blk_alloc ?_ _)); refine blk_far ?_ NB795_822.out _; (with_reducible repeat (first | refine blk_drewN ?_ _ | refine blk_drew ?_ | refine blk_alloc ?_ _)); exact BK795.out⟩, ⟨by (with_reducible repeat (first | refine blk_drewN ?_ _ | refine blk_drew ?_ | refine blk_alloc ?_ _)); refine blk_far ?_ NB817_822.out _; (with_reducible repeat (first | refine blk_drewN ?_ _ | refine blk_drew ?_ | refine blk_alloc ?_ _)); refine blk_far ?_ NB817_822.out _; (with_reducible repeat (first | refine blk_drewN ?_ _ | refine blk_drew ?_ | refine blk_alloc ?_ _)); exact BK817.out⟩, ⟨by (with_reducible repeat (first | refine blk_drewN ?_ _ | refine blk_drew ?_ | refine blk_alloc ?_ _)); refine blk_put (cs := #[.int .i64 t819, .int .i64 0]) ?_ 1 _ rfl; (with_reducible repeat (first | refine blk_drewN ?_ _ | refine blk_drew ?_ | refine blk_alloc ?_ _)); refine blk_put (cs := #[.int .i64 0, .int .i64 0]) ?_ 0 _ rfl; (with_reducible repeat (first | refine blk_drewN ?_ _ | refine blk_drew ?_ | refine blk_alloc ?_ _)); exact BK822.out⟩, ⟨by repeat (first | (with_reducible first | exact HB.out | apply below_alloc | apply pw_below_drewN | apply below_drew1 | refine below_set ?_ GE795.out | refine below_set ?_ GE817.out | refine below_set ?_ GE822.out) | exact HB.out)⟩⟩
              case rest => as_aux_lemma =>
               clear HC115
               try clear c1
               try clear c2
               try clear p2
               try clear c3
               try clear c4
               try clear c5
               try clear c6
               try clear p6
               try clear c7
               try clear p7
               try clear q7
               try clear hx7
               try clear c8
               try clear p8
               try clear q8
               try clear hx8
               try clear c9
               try clear c10
               try clear c11
               try clear c12
               try clear c13
               try clear c20
               try clear c20b0
               try clear c22
               try clear c23
               try clear c24
               try clear c25
               try clear c25b0
               try clear c25b1
               try clear c28
               try clear c33
               try clear c33b0
               try clear c34
               try clear c34b0
               try clear c35
               try clear c35b0
               try clear c40
               try clear c41
               try clear c43
               try clear c43b0
               try clear c43b1
               try clear c44
               try clear c44b0
               try clear c45
               try clear c46
               try clear c48
               try clear c48b0
               try clear c49
               try clear c50
               try clear c52
               try clear c52b0
               try clear c53
               try clear c54
               try clear c56
               try clear c56b0
               try clear c57
               try clear c58
               try clear c60
               try clear c60b0
               try clear c61
               try clear c62
               try clear c64
               try clear p64
               try clear c66
               try clear c67
               try clear c69
               try clear c70
               try clear c71
               try clear c73
               try clear c75
               try clear c75b0
               try clear c75b1
               try clear c76
               try clear c76b0
               try clear c78
               try clear c79
               try clear p79
               try clear q79
               try clear hx79
               try clear c80
               try clear p80
               try clear q80
               try clear hx80
               try clear p81
               try clear q81
               try clear hx81
               try clear c86
               try clear c92
               try clear c93
               try clear c99
               try clear c105
               try clear c108
               try clear c110
               try clear c110b0
               try clear c111
               try clear c111b0
               try clear c112
               try clear c112b0
               try clear c119
               try clear c123
               try clear c124
               try clear c126
               try clear c126b0
               try clear c126b1
               try clear c127
               try clear c127b0
               try clear c127b1
               try clear c128
               try clear c129
               try clear c131
               try clear hcz100_0
               try clear hcz100_1
               try clear hcz101_0
               try clear hcz101_1
               try clear hcz103_0
               try clear hcz103_1
               try clear hcz104_0
               try clear hcz104_1
               try clear hcz106_0
               try clear hcz106_1
               try clear hcz107_0
               try clear hcz107_1
               try clear hcz109_0
               try clear hcz109_1
               try clear hcz120_0
               try clear hcz120_1
               try clear hcz125_0
               try clear hcz125_1
               try clear hcz130_0
               try clear hcz130_1
               try clear hcz132_0
               try clear hcz132_1
               try clear hcz42_0
               try clear hcz42_1
               try clear hcz47_0
               try clear hcz47_1
               try clear hcz51_0
               try clear hcz51_1
               try clear hcz55_0
               try clear hcz55_1
               try clear hcz59_0
               try clear hcz59_1
               try clear hcz63_0
               try clear hcz63_1
               try clear hcz65_0
               try clear hcz65_1
               try clear hcz68_0
               try clear hcz68_1
               try clear hcz72_0
               try clear hcz72_1
               try clear hcz74_0
               try clear hcz74_1
               try clear hcz81_0
               try clear hcz81_1
               try clear hcz82_0
               try clear hcz82_1
               try clear hcz84_0
               try clear hcz84_1
               try clear hcz85_0
               try clear hcz85_1
               try clear hcz87_0
               try clear hcz87_1
               try clear hcz88_0
               try clear hcz88_1
               try clear hcz90_0
               try clear hcz90_1
               try clear hcz91_0
               try clear hcz91_1
               try clear hcz94_0
               try clear hcz94_1
               try clear hcz95_0
               try clear hcz95_1
               try clear hcz97_0
               try clear hcz97_1
               try clear hcz98_0
               try clear hcz98_1
               try clear hfz100_0
               try clear hfz100_1
               try clear hfz101_0
               try clear hfz101_1
               try clear hfz103_0
               try clear hfz103_1
               try clear hfz104_0
               try clear hfz104_1
               try clear hfz106_0
               try clear hfz106_1
               try clear hfz107_0
               try clear hfz107_1
               try clear hfz109_0
               try clear hfz109_1
               try clear hfz120_0
               try clear hfz120_1
               try clear hfz125_0
               try clear hfz125_1
               try clear hfz130_0
               try clear hfz130_1
               try clear hfz132_0
               try clear hfz132_1
               try clear hfz42_0
               try clear hfz42_1
               try clear hfz47_0
               try clear hfz47_1
               try clear hfz51_0
               try clear hfz51_1
               try clear hfz55_0
               try clear hfz55_1
               try clear hfz59_0
               try clear hfz59_1
               try clear hfz63_0
               try clear hfz63_1
               try clear hfz65_0
               try clear hfz65_1
               try clear hfz68_0
               try clear hfz68_1
               try clear hfz72_0
               try clear hfz72_1
               try clear hfz74_0
               try clear hfz74_1
               try clear hfz81_0
               try clear hfz81_1
               try clear hfz82_0
               try clear hfz82_1
               try clear hfz84_0
               try clear hfz84_1
               try clear hfz85_0
               try clear hfz85_1
               try clear hfz87_0
               try clear hfz87_1
               try clear hfz88_0
               try clear hfz88_1
               try clear hfz90_0
               try clear hfz90_1
               try clear hfz91_0
               try clear hfz91_1
               try clear hfz94_0
               try clear hfz94_1
               try clear hfz95_0
               try clear hfz95_1
               try clear hfz97_0
               try clear hfz97_1
               try clear hfz98_0
               try clear hfz98_1
               try clear hx796_0
               try clear hx796_1
               try clear hx797_0
               try clear hx797_1
               try clear hx798_0
               try clear hx798_1
               try clear hx799_0
               try clear hx799_1
               try clear hx800_0
               try clear hx800_1
               try clear hx802_0
               try clear hx802_1
               try clear hx803_0
               try clear hx803_1
               try clear hx807_0
               try clear hx813_0
               try clear hx813_1
               try clear hx818_0
               try clear hx818_1
               try clear p2
               try clear p6
               try clear p64
               try clear p7
               try clear p79
               try clear p796
               try clear p797
               try clear p798
               try clear p799
               try clear p8
               try clear p80
               try clear p800
               try clear p802
               try clear p803
               try clear p807
               try clear p813
               try clear p818
               try clear q7
               try clear q79
               try clear q796
               try clear q797
               try clear q798
               try clear q799
               try clear q8
               try clear q80
               try clear q800
               try clear q802
               try clear q803
               try clear q807
               try clear q813
               try clear q818
               obtain ⟨kq, x220_114, rfl, HA, HJ114, HO_7, BK795, BK817, BK822, HB⟩ := hcut
               cases kq with
               | zero => exact absurd HA.out (by simp [law_CurveRates.j5])
               | succ kj114 =>
                have H := HA.out
                clear HA
                simp only [law_CurveRates.j5] at H
                by_cases c133 : x220_114 = true
                ·
                 subst c133
                 have H1 : (some false) = some r := by rw [if_pos rfl] at H; exact H
                 clear H
                 have H := H1
                 clear H1
                 obtain rfl := Option.some.inj H
                 go_wp2
                 go_ret
                 exact ⟨by first | rfl | (simp [errW_none, errW_some] <;> rfl) | (simp [*, errW_none, errW_some] <;> rfl), by repeat (first | (with_reducible first | exact HB.out | apply below_alloc | apply pw_below_drewN | apply below_drew1 | refine below_set ?_ GE795.out | refine below_set ?_ GE817.out | refine below_set ?_ GE822.out) | exact HB.out)⟩
                ·
                 replace c133 := Bool.eq_false_iff.mpr c133
                 subst c133
                 have H1 : (law_CurveRates.l2 kj114 t788 t790 x9_2 x10_2 (wrap64 (x22_3 + 1))) = some r := by rw [if_neg (show ¬ (false = true) by decide)] at H; exact H
                 clear H
                 have H := H1
                 clear H1
                 have H' := Aside0.mk H
                 clear H
                 go_wp2
                 go_roundg kj114
                 case measure => have := HJ8.out; have := HK2.out; have := HK3.out; have := HJ114.out; omega
                 case rel => exact ⟨(wrap64 (x22_3 + 1)), (by first | rfl | (simp; done) | (simp [*]; done)), H', ⟨by have := HJ8.out; have := HK2.out; have := HK3.out; have := HJ114.out; omega⟩, ⟨by (with_reducible repeat (first | apply Kd.R_alloc | apply Kd.R_drewN | apply Kd.R_drew)); exact HO_7.out⟩, ⟨by (with_reducible repeat (first | refine blk_drewN ?_ _ | refine blk_drew ?_ | refine blk_alloc ?_ _)); exact BK795.out⟩, ⟨by repeat (first | (with_reducible first | exact HB.out | apply below_alloc | apply pw_below_drewN | apply below_drew1 | refine below_set ?_ GE795.out | refine below_set ?_ GE817.out | refine below_set ?_ GE822.out) | exact HB.out)⟩⟩
             ·
              rw [if_neg c112] at H
              exact absurd H (by simp)
            ·
             rw [if_neg c111] at H
             exact absurd H (by simp)
           ·
            rw [if_neg c110] at H
            have c110b0 : decide ((wrap64 (x22_3 + 1)) < (t790.length : Int)) = false := decide_eq_false c110
            clear c110
            have HC134 := Aside0.mk H
            clear H
            obtain ⟨Ao135, co135, eo135⟩ := Kd.R_slice HO_7.out
            subst eo135
            go_upto_region 38 with (fail)
            go_cut [221] (fun v221 wc => ∃ (kq : Nat) (x221_133 : Bool), v221 = .bool x221_133 ∧ Aside0 (law_CurveRates.j6 kq t788 x9_2 x10_2 x221_133 = some r) ∧ Aside0 (kq ≤ k3) ∧ Aside0 (wc.heap[gb795]? = some (.cells #[.int .i64 x796000_2, .int .i64 x796001_2] 25 (0, 0))) ∧ Aside0 (Below w.heap.size w wc))
            case first => as_aux_lemma =>
             have H := HC134.out
             clear HC134
             by_cases c136 : x9_2 = true
             ·
              subst c136
              have H1 : (law_CurveRates.j6 k3 t788 true x10_2 x10_2) = some r := by rw [if_pos rfl] at H; exact H
              clear H
              have H := H1
              clear H1
              have H' := Aside0.mk H
              clear H
              go_wp2
              go_meet
              case rel => exact ⟨_, (x10_2), (by first | rfl | (simp; done) | (simp [*]; done)), H', ⟨by have := HJ8.out; have := HK2.out; have := HK3.out; first | omega | exact Nat.le_refl _⟩, ⟨by (with_reducible repeat (first | refine blk_drewN ?_ _ | refine blk_drew ?_ | refine blk_alloc ?_ _)); exact BK795.out⟩, ⟨by repeat (first | (with_reducible first | exact HB.out | apply below_alloc | apply pw_below_drewN | apply below_drew1 | refine below_set ?_ GE795.out) | exact HB.out)⟩⟩
             ·
              replace c136 := Bool.eq_false_iff.mpr c136
              subst c136
              have H1 : (law_CurveRates.j6 k3 t788 false x10_2 false) = some r := by rw [if_neg (show ¬ (false = true) by decide)] at H; exact H
              clear H
              have H := H1
              clear H1
              have H' := Aside0.mk H
              clear H
              go_wp2
              go_meet
              case rel => exact ⟨_, (false), (by first | rfl | (simp; done) | (simp [*]; done)), H', ⟨by have := HJ8.out; have := HK2.out; have := HK3.out; first | omega | exact Nat.le_refl _⟩, ⟨by (with_reducible repeat (first | refine blk_drewN ?_ _ | refine blk_drew ?_ | refine blk_alloc ?_ _)); exact BK795.out⟩, ⟨by repeat (first | (with_reducible first | exact HB.out | apply below_alloc | apply pw_below_drewN | apply below_drew1 | refine below_set ?_ GE795.out) | exact HB.out)⟩⟩
            case rest => as_aux_lemma =>
             clear HC134
             try clear c1
             try clear c2
             try clear p2
             try clear c3
             try clear c4
             try clear c5
             try clear c6
             try clear p6
             try clear c7
             try clear p7
             try clear q7
             try clear hx7
             try clear c8
             try clear p8
             try clear q8
             try clear hx8
             try clear c9
             try clear c10
             try clear c11
             try clear c12
             try clear c13
             try clear c20
             try clear c20b0
             try clear c22
             try clear c23
             try clear c24
             try clear c25
             try clear c25b0
             try clear c25b1
             try clear c28
             try clear c33
             try clear c33b0
             try clear c34
             try clear c34b0
             try clear c35
             try clear c35b0
             try clear c40
             try clear c41
             try clear c43
             try clear c43b0
             try clear c43b1
             try clear c44
             try clear c44b0
             try clear c45
             try clear c46
             try clear c48
             try clear c48b0
             try clear c49
             try clear c50
             try clear c52
             try clear c52b0
             try clear c53
             try clear c54
             try clear c56
             try clear c56b0
             try clear c57
             try clear c58
             try clear c60
             try clear c60b0
             try clear c61
             try clear c62
             try clear c64
             try clear p64
             try clear c66
             try clear c67
             try clear c69
             try clear c70
             try clear c71
             try clear c73
             try clear c75
             try clear c75b0
             try clear c75b1
             try clear c76
             try clear c76b0
             try clear c78
             try clear c79
             try clear p79
             try clear q79
             try clear hx79
             try clear c80
             try clear p80
             try clear q80
             try clear hx80
             try clear p81
             try clear q81
             try clear hx81
             try clear c86
             try clear c92
             try clear c93
             try clear c99
             try clear c105
             try clear c108
             try clear c110
             try clear c110b0
             try clear c111
             try clear c111b0
             try clear c112
             try clear c112b0
             try clear c119
             try clear c123
             try clear c124
             try clear c126
             try clear c126b0
             try clear c126b1
             try clear c127
             try clear c127b0
             try clear c127b1
             try clear c128
             try clear c129
             try clear c131
             try clear c133
             try clear c136
             try clear hcz100_0
             try clear hcz100_1
             try clear hcz101_0
             try clear hcz101_1
             try clear hcz103_0
             try clear hcz103_1
             try clear hcz104_0
             try clear hcz104_1
             try clear hcz106_0
             try clear hcz106_1
             try clear hcz107_0
             try clear hcz107_1
             try clear hcz109_0
             try clear hcz109_1
             try clear hcz120_0
             try clear hcz120_1
             try clear hcz125_0
             try clear hcz125_1
             try clear hcz130_0
             try clear hcz130_1
             try clear hcz132_0
             try clear hcz132_1
             try clear hcz42_0
             try clear hcz42_1
             try clear hcz47_0
             try clear hcz47_1
             try clear hcz51_0
             try clear hcz51_1
             try clear hcz55_0
             try clear hcz55_1
             try clear hcz59_0
             try clear hcz59_1
             try clear hcz63_0
             try clear hcz63_1
             try clear hcz65_0
             try clear hcz65_1
             try clear hcz68_0
             try clear hcz68_1
             try clear hcz72_0
             try clear hcz72_1
             try clear hcz74_0
             try clear hcz74_1
             try clear hcz81_0
             try clear hcz81_1
             try clear hcz82_0
             try clear hcz82_1
             try clear hcz84_0
             try clear hcz84_1
             try clear hcz85_0
             try clear hcz85_1
             try clear hcz87_0
             try clear hcz87_1
             try clear hcz88_0
             try clear hcz88_1
             try clear hcz90_0
             try clear hcz90_1
             try clear hcz91_0
             try clear hcz91_1
             try clear hcz94_0
             try clear hcz94_1
             try clear hcz95_0
             try clear hcz95_1
             try clear hcz97_0
             try clear hcz97_1
             try clear hcz98_0
             try clear hcz98_1
             try clear hfz100_0
             try clear hfz100_1
             try clear hfz101_0
             try clear hfz101_1
             try clear hfz103_0
             try clear hfz103_1
             try clear hfz104_0
             try clear hfz104_1
             try clear hfz106_0
             try clear hfz106_1
             try clear hfz107_0
             try clear hfz107_1
             try clear hfz109_0
             try clear hfz109_1
             try clear hfz120_0
             try clear hfz120_1
             try clear hfz125_0
             try clear hfz125_1
             try clear hfz130_0
             try clear hfz130_1
             try clear hfz132_0
             try clear hfz132_1
             try clear hfz42_0
             try clear hfz42_1
             try clear hfz47_0
             try clear hfz47_1
             try clear hfz51_0
             try clear hfz51_1
             try clear hfz55_0
             try clear hfz55_1
             try clear hfz59_0
             try clear hfz59_1
             try clear hfz63_0
             try clear hfz63_1
             try clear hfz65_0
             try clear hfz65_1
             try clear hfz68_0
             try clear hfz68_1
             try clear hfz72_0
             try clear hfz72_1
             try clear hfz74_0
             try clear hfz74_1
             try clear hfz81_0
             try clear hfz81_1
             try clear hfz82_0
             try clear hfz82_1
             try clear hfz84_0
             try clear hfz84_1
             try clear hfz85_0
             try clear hfz85_1
             try clear hfz87_0
             try clear hfz87_1
             try clear hfz88_0
             try clear hfz88_1
             try clear hfz90_0
             try clear hfz90_1
             try clear hfz91_0
             try clear hfz91_1
             try clear hfz94_0
             try clear hfz94_1
             try clear hfz95_0
             try clear hfz95_1
             try clear hfz97_0
             try clear hfz97_1
             try clear hfz98_0
             try clear hfz98_1
             try clear hx796_0
             try clear hx796_1
             try clear hx797_0
             try clear hx797_1
             try clear hx798_0
             try clear hx798_1
             try clear hx799_0
             try clear hx799_1
             try clear hx800_0
             try clear hx800_1
             try clear hx802_0
             try clear hx802_1
             try clear hx803_0
             try clear hx803_1
             try clear hx807_0
             try clear hx813_0
             try clear hx813_1
             try clear hx818_0
             try clear hx818_1
             try clear p2
             try clear p6
             try clear p64
             try clear p7
             try clear p79
             try clear p796
             try clear p797
             try clear p798
             try clear p799
             try clear p8
             try clear p80
             try clear p800
             try clear p802
             try clear p803
             try clear p807
             try clear p81
             try clear p813
             try clear p818
             try clear q7
             try clear q79
             try clear q796
             try clear q797
             try clear q798
             try clear q799
             try clear q8
             try clear q80
             try clear q800
             try clear q802
             try clear q803
             try clear q807
             try clear q81
             try clear q813
             try clear q818
             obtain ⟨kq, x221_133, rfl, HA, HJ133, BK795, HB⟩ := hcut
             cases kq with
             | zero => exact absurd HA.out (by simp [law_CurveRates.j6])
             | succ kj133 =>
              have H := HA.out
              clear HA
              simp only [law_CurveRates.j6] at H
              by_cases c137 : x221_133 = true
              ·
               subst c137
               have H1 : (some (t788 == 2)) = some r := by rw [if_pos rfl] at H; exact H
               clear H
               have H := H1
               clear H1
               obtain rfl := Option.some.inj H
               go_wp2
               go_ret
               exact ⟨by first | rfl | (simp [errW_none, errW_some] <;> rfl) | (simp [*, errW_none, errW_some] <;> rfl), by repeat (first | (with_reducible first | exact HB.out | apply below_alloc | apply pw_below_drewN | apply below_drew1 | refine below_set ?_ GE795.out) | exact HB.out)⟩
              ·
               replace c137 := Bool.eq_false_iff.mpr c137
               subst c137
               have H1 : (if x9_2 = true then (some (t788 == 1)) else (if x10_2 = true then (some (t788 == (-1))) else (some (t788 == 0)))) = some r := by rw [if_neg (show ¬ (false = true) by decide)] at H; exact H
               clear H
               have H := H1
               clear H1
               by_cases c138 : x9_2 = true
               ·
                subst c138
                have H1 : (some (t788 == 1)) = some r := by rw [if_pos rfl] at H; exact H
                clear H
                have H := H1
                clear H1
                obtain rfl := Option.some.inj H
                go_wp2
                go_ret
                exact ⟨by first | rfl | (simp [errW_none, errW_some] <;> rfl) | (simp [*, errW_none, errW_some] <;> rfl), by repeat (first | (with_reducible first | exact HB.out | apply below_alloc | apply pw_below_drewN | apply below_drew1 | refine below_set ?_ GE795.out) | exact HB.out)⟩
               ·
                replace c138 := Bool.eq_false_iff.mpr c138
                subst c138
                have H1 : (if x10_2 = true then (some (t788 == (-1))) else (some (t788 == 0))) = some r := by rw [if_neg (show ¬ (false = true) by decide)] at H; exact H
                clear H
                have H := H1
                clear H1
                by_cases c139 : x10_2 = true
                ·
                 subst c139
                 have H1 : (some (t788 == (-1))) = some r := by rw [if_pos rfl] at H; exact H
                 clear H
                 have H := H1
                 clear H1
                 obtain rfl := Option.some.inj H
                 go_wp2
                 go_ret
                 exact ⟨by first | rfl | (simp [errW_none, errW_some] <;> rfl) | (simp [*, errW_none, errW_some] <;> rfl), by repeat (first | (with_reducible first | exact HB.out | apply below_alloc | apply pw_below_drewN | apply below_drew1 | refine below_set ?_ GE795.out) | exact HB.out)⟩
                ·
                 replace c139 := Bool.eq_false_iff.mpr c139
                 subst c139
                 have H1 : (some (t788 == 0)) = some r := by rw [if_neg (show ¬ (false = true) by decide)] at H; exact H
                 clear H
                 have H := H1
                 clear H1
                 obtain rfl := Option.some.inj H
                 go_wp2
                 go_ret
                 exact ⟨by first | rfl | (simp [errW_none, errW_some] <;> rfl) | (simp [*, errW_none, errW_some] <;> rfl), by repeat (first | (with_reducible first | exact HB.out | apply below_alloc | apply pw_below_drewN | apply below_drew1 | refine below_set ?_ GE795.out) | exact HB.out)⟩
  ·
   replace c6 := Bool.eq_false_iff.mpr c6
   subst c6
   have H1 : (some true) = some r := by rw [if_neg (show ¬ (false = true) by decide)] at H; exact H
   clear H
   have H := H1
   clear H1
   obtain rfl := Option.some.inj H
   go_enter Tryd.func16, Tryd.ntmps16
   go_wp2_with (first | ((with_reducible refine gate_callee (f := 18) rfl ?_); refine goesL_ (some 27) rfl rfl Tryd.func18 (by kernel_rfl) rfl #[] rfl (by (try simp only [List.map_toArray, List.map_cons, List.map_nil]); first | done | rfl | (simp only [List.length_drop, List.length_take]; rfl)) ?_; (with_reducible refine (law_sane.calls  true _ A3.out).mono ?_); rintro e w140 ⟨rfl, hb⟩; refine ⟨_, rfl, ?_⟩; have n0_ := Aside0.mk (below_step (by repeat (first | (with_reducible first | exact HB.out | apply below_alloc | apply pw_below_drewN | apply below_drew1) | exact HB.out)) hb); clear HB; have HB := n0_; clear n0_; (try clear hb); (try clear hb2); (try clear hk); (try clear hi)) | ((with_reducible refine gate_callee (f := 42) rfl ?_); refine goesL_ (some 30) rfl rfl Tryd.func42 (by kernel_rfl) rfl #[.slice A0 l0.length c0] rfl (by (try simp only [List.map_toArray, List.map_cons, List.map_nil]); first | done | rfl | (simp only [List.length_drop, List.length_take]; rfl)) ?_; (with_reducible refine (ref_Valid.calls k _ _ l0 false _ ?side1 ?side2 A5.out).mono ?_); (case side1 => repeat (first | exact (Kd.C_below HR0.out HB.out) | (with_reducible refine Kd.C_alloc ?_ _) | (with_reducible refine Kd.C_drewN ?_ _) | (with_reducible refine Kd.C_drew ?_))); (case side2 => exact HC0.out); rintro e w' ⟨rfl, ⟨nd, rfl⟩⟩; refine ⟨_, rfl, ?_⟩))
   go_ret
   exact ⟨by first | rfl | (simp [errW_none, errW_some] <;> rfl) | (simp [*, errW_none, errW_some] <;> rfl), by repeat (first | (with_reducible first | exact HB.out | apply below_alloc | apply pw_below_drewN | apply below_drew1) | exact HB.out)⟩
 ·
  replace c4 := Bool.eq_false_iff.mpr c4
  subst c4
  have H1 : (some false) = some r := by rw [if_neg (show ¬ (false = true) by decide)] at H; exact H
  clear H
  have H := H1
  clear H1
  obtain rfl := Option.some.inj H
  go_enter Tryd.func16, Tryd.ntmps16
  go_wp2_with (first | ((with_reducible refine gate_callee (f := 18) rfl ?_); refine goesL_ (some 27) rfl rfl Tryd.func18 (by kernel_rfl) rfl #[] rfl (by (try simp only [List.map_toArray, List.map_cons, List.map_nil]); first | done | rfl | (simp only [List.length_drop, List.length_take]; rfl)) ?_; (with_reducible refine (law_sane.calls  false _ A3.out).mono ?_); rintro e w141 ⟨rfl, hb⟩; refine ⟨_, rfl, ?_⟩; have n0_ := Aside0.mk (below_step (by repeat (first | (with_reducible first | exact HB.out | apply below_alloc | apply pw_below_drewN | apply below_drew1) | exact HB.out)) hb); clear HB; have HB := n0_; clear n0_; (try clear hb); (try clear hb2); (try clear hk); (try clear hi)))
  go_ret
  exact ⟨by first | rfl | (simp [errW_none, errW_some] <;> rfl) | (simp [*, errW_none, errW_some] <;> rfl), by repeat (first | (with_reducible first | exact HB.out | apply below_alloc | apply pw_below_drewN | apply below_drew1) | exact HB.out)⟩
end Go.Proofs.YtlhhpogaaneamaaDoor.X
namespace Go.Proofs.YtlhhpogaaneamaaDoor.X
open Go.RowKit Go.Proofs.YtlhhpogaaneamaaDoorW.PrintWords Go.Proofs.YtlhhpogaaneamaaDoorW.PrintLast Go.Proofs.YtlhhpogaaneamaaDoorW.PrintMore
set_option linter.unusedVariables false
set_option linter.unusedSimpArgs false
theorem rateR_sl {c : List S57} (i : Nat) : rateR c i = sl (c.getD i z57) (c.getD (i + 1) z57) := by
 unfold rateR sl highI wideI
 rw [Rat.intCast_sub, Rat.intCast_sub]
theorem noStr_at : ∀ {c : List S57} (i : Nat), NoStr c → i + 2 < c.length → rateR c i ≠ rateR c (i + 1) := by
 intro c i
 induction i generalizing c with
 | zero =>
  intro h hi
  match c, hi, h with
  | p :: q :: r :: t, _, h => rw [rateR_sl, rateR_sl]; exact h.1
 | succ i ih =>
  intro h hi
  match c, hi, h with
  | p :: q :: r :: t, hi, h =>
   have := ih (c := q :: r :: t) h.2 (by simp only [List.length_cons] at hi ⊢; omega)
   exact this
  | [p, q], hi, _ => exact absurd hi (by simp)
  | [p], hi, _ => exact absurd hi (by simp)
  | [], hi, _ => exact absurd hi (by simp)
theorem rates_j6 (u d : Bool) (k : Nat) : (if u = true then law_CurveRates.j6 (k + 1) (bentI u d) u d d else law_CurveRates.j6 (k + 1) (bentI u d) u d false) = some true := by
 cases u <;> cases d <;> simp [law_CurveRates.j6, bentI]
theorem rates_l2 {n : List S57} (h : Good n) (ns : NoStr n) (u d : Bool) : ∀ m i : Nat, 1 ≤ i → i + 1 + m = n.length → Evn (fun k => law_CurveRates.l2 k (bentI u d) n u d i) true := by
 have h64 := h.len64
 intro m
 induction m with
 | zero =>
  intro i h1 hi
  refine Evn.step (Evn.step (Evn.of fun k => ?_))
  simp only [law_CurveRates.l2]
  rw [w64 (n := (i : Int) + 1) (by omega) (by omega), if_neg (by omega)]
  exact rates_j6 u d k
 | succ m ih =>
  intro i h1 hi
  have ix0 := h.ix (i - 1) (by omega)
  rw [show i - 1 + 1 = i by omega] at ix0
  have ix1 := h.ix i (by omega)
  have bx := h.bx i (by omega)
  have e1 := rateR_i h (x := px n i - 1) (i := i - 1) (by omega) (by omega) (by rw [show i - 1 + 1 = i by omega]; omega)
  have e2 := rateR_i h (x := px n i) (i := i) (by omega) (Int.le_refl _) ix1
  have hne := noStr_at (i - 1) ns (by omega)
  rw [show i - 1 + 1 = i by omega] at hne
  have hb : ((rateR n (i - 1)).num == (rateR n i).num && (((rateR n (i - 1)).den : Int) == ((rateR n i).den : Int))) = false := by
   cases hh : ((rateR n (i - 1)).num == (rateR n i).num && (((rateR n (i - 1)).den : Int) == ((rateR n i).den : Int))) with
   | false => rfl
   | true =>
    rw [Bool.and_eq_true, beq_iff_eq, beq_iff_eq] at hh
    exact absurd ((rat_eq_iff _ _).2 hh) hne
  refine Evn.step (Evn.step (Evn.ext (ih (i + 1) (by omega) (by omega)) fun k => ?_))
  have r : (rd_T57 n (i : Int)).f0 = px n i := by rw [rd_nat]; rfl
  simp only [law_CurveRates.l2]
  rw [w64 (n := (i : Int) + 1) (by omega) (by omega), if_pos (by omega), if_pos (by omega), if_pos (by omega), r, w64 (n := px n i - 1) (by omega) (by omega), e1, Option.bind_some, e2, Option.bind_some, if_pos rfl, if_pos rfl, hb]
  simp only [law_CurveRates.j5]
  rw [if_neg (by simp), w64 (n := (i : Int) + 1) (by omega) (by omega)]
  rfl
theorem rates_l1 {c : List S57} {at_ bent : Int} {n : List S57} {u d : Bool} {i W H N D : Int} {y : List Int} (hy : y.length = 3) (hr : ∀ j : Nat, j < 3 → curve_Rate.f c (rd y j) = some (N, D, 0)) (b1 : 1 ≤ N) (b2 : N ≤ 16777216) (b3 : 1 ≤ D) (b4 : D ≤ 16777216) (j : Nat) (hj : j < 3) (l0 l1 : Int) (z0 z1 : Int) (hz : 0 < j → z0 = N ∧ z1 = D) (k : Nat) :
  law_CurveRates.l1 (k + 2) c at_ bent n u d i W H y (y.length : Int) j l0 l1 z0 z1 = law_CurveRates.l1 k c at_ bent n u d i W H y (y.length : Int) ((j + 1 : Nat) : Int) l0 l1 N D := by
 simp only [law_CurveRates.l1]
 rw [if_pos (by omega), if_pos (by omega), if_pos (by omega), hr j hj, Option.bind_some]
 dsimp only
 rw [if_pos rfl, if_neg (by omega), if_neg (by omega), if_neg (by omega), if_neg (by omega)]
 have w : wrap64 ((j : Int) + 1) = ((j + 1 : Nat) : Int) := by rw [w64 (by omega) (by omega)]; omega
 by_cases hj0 : (j : Int) > 0
 ·
  obtain ⟨rfl, rfl⟩ := hz (by omega)
  rw [if_pos hj0]
  simp only [beq_self_eq_true, Bool.not_true, Bool.or_self, law_CurveRates.j3]
  rw [if_neg (by simp), w]
 ·
  rw [if_neg hj0]
  simp only [law_CurveRates.j3]
  rw [if_neg (by simp), w]
theorem rate_cross {c : List S57} (h : Good c) {i : Nat} (hi : i + 1 < c.length) : (rateR c i).num * (px c (i + 1) - px c i) = (py c (i + 1) - py c i) * ((rateR c i).den : Int) := by
 have hw := (line_okG h hi).wide.1
 have e := rat_eta (rateR c i)
 have := (div_eq_div_iff (rateR c i).num (rateR c i).den (highI (c.getD i z57, c.getD (i + 1) z57)) (wideI (c.getD i z57, c.getD (i + 1) z57)) (den_pos _) hw).1 e
 exact this
theorem tmod_in (a W : Int) (hW : 0 < W) (hW' : W ≤ 16777216) : 0 ≤ Int.tmod (wrap64 (Int.tmod a W + W)) W ∧ Int.tmod (wrap64 (Int.tmod a W + W)) W < W := by
 have h1 : -W < Int.tmod a W ∧ Int.tmod a W < W := by
  have := Int.tmod_lt_of_pos a hW
  have := Int.lt_tmod_of_pos a hW
  omega
 rw [w64 (by omega) (by omega)]
 exact ⟨Int.tmod_nonneg _ (by omega), Int.tmod_lt_of_pos _ hW⟩
theorem rates_step {c n : List S57} (h : Good c) (at_ B : Int) {i : Nat} (hi : i + 1 < c.length) {z0 z1 : Int} (hz : 0 < i → z0 = (rateR c (i - 1)).num ∧ z1 = ((rateR c (i - 1)).den : Int))
  (ih : Evn (fun k => law_CurveRates.l0 k c at_ B n (upN c i) (downN c i) ((i + 1 : Nat) : Int) (rateR c i).num ((rateR c i).den : Int)) true) :
  Evn (fun k => law_CurveRates.l0 k c at_ B n (upN c (i - 1)) (downN c (i - 1)) i z0 z1) true := by
 have h64 := h.len64
 have ix := h.ix i hi
 have iy := h.iy i hi
 have bx := h.bx i (by omega)
 have bx1 := h.bx (i + 1) hi
 have by_ := h.by_ i (by omega)
 have by1 := h.by_ (i + 1) hi
 have rb := rateR_bounds h hi
 have w1 : wrap64 ((i : Int) + 1) = ((i + 1 : Nat) : Int) := by rw [w64 (by omega) (by omega)]; omega
 have ra : (rd_T57 c (i : Int)).f0 = px c i := by rw [rd_nat]; rfl
 have ra1 : (rd_T57 c ((i + 1 : Nat) : Int)).f0 = px c (i + 1) := by rw [rd_nat]; rfl
 have rc : (rd_T57 c (i : Int)).f1 = py c i := by rw [rd_nat]; rfl
 have rc1 : (rd_T57 c ((i + 1 : Nat) : Int)).f1 = py c (i + 1) := by rw [rd_nat]; rfl
 have cr := rate_cross h hi
 have wW : wrap64 (px c (i + 1) - px c i) = px c (i + 1) - px c i := w64 (by omega) (by omega)
 have wH : wrap64 (py c (i + 1) - py c i) = py c (i + 1) - py c i := w64 (by omega) (by omega)
 obtain ⟨W, hW⟩ : ∃ W, px c (i + 1) - px c i = W := ⟨_, rfl⟩
 obtain ⟨H, hH⟩ : ∃ H, py c (i + 1) - py c i = H := ⟨_, rfl⟩
 rw [hW] at wW cr
 rw [hH] at wH cr
 obtain ⟨y, hy⟩ : ∃ y : List Int, [px c i, wrap64 (px c (i + 1) - 1), wrap64 (px c i + Int.tmod (wrap64 (Int.tmod at_ W + W)) W)] = y := ⟨_, rfl⟩
 have hl : y.length = 3 := by rw [← hy]; rfl
 have tm := tmod_in at_ W (by omega) (by omega)
 have hr : ∀ j : Nat, j < 3 → curve_Rate.f c (rd y j) = some ((rateR c i).num, ((rateR c i).den : Int), 0) := by
  intro j hj
  have hb : px c i ≤ rd y j ∧ rd y j < px c (i + 1) := by
   rw [← hy]
   match j, hj with
   | 0, _ => show px c i ≤ px c i ∧ px c i < px c (i + 1); omega
   | 1, _ => show px c i ≤ wrap64 (px c (i + 1) - 1) ∧ wrap64 (px c (i + 1) - 1) < px c (i + 1); rw [w64 (by omega) (by omega)]; omega
   | 2, _ =>
    show px c i ≤ wrap64 (px c i + Int.tmod (wrap64 (Int.tmod at_ W + W)) W) ∧ wrap64 (px c i + Int.tmod (wrap64 (Int.tmod at_ W + W)) W) < px c (i + 1)
    rw [w64 (by omega) (by omega)]; omega
  exact rateR_i h hi hb.1 hb.2
 have st : ∀ K, law_CurveRates.l0 (K + 8) c at_ B n (upN c (i - 1)) (downN c (i - 1)) i z0 z1 = law_CurveRates.l1 (K + 1) c at_ B n (upN c (i - 1)) (downN c (i - 1)) i W H y (y.length : Int) ((3 : Nat) : Int) z0 z1 (rateR c i).num ((rateR c i).den : Int) := by
  intro K
  have s0 : law_CurveRates.l0 (K + 8) c at_ B n (upN c (i - 1)) (downN c (i - 1)) i z0 z1 = law_CurveRates.l1 (K + 7) c at_ B n (upN c (i - 1)) (downN c (i - 1)) i W H y (y.length : Int) ((0 : Nat) : Int) z0 z1 0 0 := by
   simp only [law_CurveRates.l0]
   rw [w1, if_pos (by omega), if_pos (by omega), if_pos (by omega), if_pos (by omega), ra, ra1, rc, rc1, hW, hH, wW, wH, if_neg (by omega), Option.bind_some, hy]
   rfl
  rw [s0, rates_l1 (k := K + 5) hl hr rb.1 (by omega) rb.2.2.1 (by omega) 0 (by omega) z0 z1 0 0 (fun q => by omega),
   rates_l1 (k := K + 3) hl hr rb.1 (by omega) rb.2.2.1 (by omega) 1 (by omega) z0 z1 _ _ (fun q => ⟨rfl, rfl⟩),
   rates_l1 (k := K + 1) hl hr rb.1 (by omega) rb.2.2.1 (by omega) 2 (by omega) z0 z1 _ _ (fun q => ⟨rfl, rfl⟩)]
 by_cases h0 : i = 0
 ·
  subst h0
  obtain ⟨k0, g0⟩ := ih
  refine ⟨k0 + 8, fun k hk => ?_⟩
  obtain ⟨K, rfl⟩ : ∃ K, k = K + 8 := ⟨k - 8, by omega⟩
  show law_CurveRates.l0 (K + 8) c at_ B n (upN c (0 - 1)) (downN c (0 - 1)) ((0 : Nat) : Int) z0 z1 = some true
  rw [st]
  simp only [law_CurveRates.l1]
  rw [if_neg (by omega), if_pos (by rw [cr]), if_neg (by omega), w1]
  exact g0 K (by omega)
 ·
  obtain ⟨rfl, rfl⟩ := hz (by omega)
  have rb0 := rateR_bounds h (i := i - 1) (by omega)
  rw [show i - 1 + 1 = i by omega] at rb0
  have bx0 := h.bx (i - 1) (by omega)
  have by0 := h.by_ (i - 1) (by omega)
  have O := order_ev (a := (rateR c (i - 1)).num) (b := (rateR c (i - 1)).den) (c := (rateR c i).num) (d := (rateR c i).den) (by omega) (by omega) (by omega) (by omega) (by omega) (by omega) (by omega) (by omega)
  rw [cmpI_rat] at O
  obtain ⟨k1, g1⟩ := O
  obtain ⟨k0, g0⟩ := ih
  have hc := cmpAt_eq h (i := i) (by omega) hi
  have hu := upN_succ c i (by omega)
  have hd := downN_succ c i (by omega)
  have ni : ((i : Int) - 1).toNat = i - 1 := by omega
  rw [Int.toNat_natCast, ni, hc] at hu hd
  refine ⟨k0 + k1 + 8, fun k hk => ?_⟩
  obtain ⟨K, rfl⟩ : ∃ K, k = K + 8 := ⟨k - 8, by omega⟩
  show law_CurveRates.l0 (K + 8) c at_ B n (upN c (i - 1)) (downN c (i - 1)) i _ _ = some true
  rw [st]
  have g1' := g1 K (by omega)
  have g0' := g0 K (by omega)
  dsimp only at g1' g0'
  rw [hu, hd] at g0'
  simp only [law_CurveRates.l1]
  rw [if_neg (by omega), if_pos (by rw [cr]), if_pos (by omega), g1', Option.bind_some, w1]
  have e1 : decide (0 < (if rateR c i < rateR c (i - 1) then (-1 : Int) else if rateR c (i - 1) < rateR c i then 1 else 0)) = decide ((if rateR c (i - 1) < rateR c i then (-1 : Int) else if rateR c i < rateR c (i - 1) then 1 else 0) < 0) := by
   by_cases q1 : rateR c i < rateR c (i - 1)
   ·
    have q2 : ¬ rateR c (i - 1) < rateR c i := by grind
    rw [if_pos q1, if_neg q2, if_pos q1]; rfl
   ·
    rw [if_neg q1]
    by_cases q2 : rateR c (i - 1) < rateR c i
    ·
     rw [if_pos q2, if_pos q2]; rfl
    ·
     rw [if_neg q2, if_neg q2, if_neg q1]
  have e2 : decide ((if rateR c i < rateR c (i - 1) then (-1 : Int) else if rateR c (i - 1) < rateR c i then 1 else 0) < 0) = decide ((if rateR c (i - 1) < rateR c i then (-1 : Int) else if rateR c i < rateR c (i - 1) then 1 else 0) > 0) := by
   by_cases q1 : rateR c i < rateR c (i - 1)
   ·
    have q2 : ¬ rateR c (i - 1) < rateR c i := by grind
    rw [if_pos q1, if_neg q2, if_pos q1]; rfl
   ·
    rw [if_neg q1]
    by_cases q2 : rateR c (i - 1) < rateR c i
    ·
     rw [if_pos q2, if_pos q2]; rfl
    ·
     rw [if_neg q2, if_neg q2, if_neg q1]
  rw [e1, e2] at g0'
  cases hU : upN c (i - 1) <;> cases hD : downN c (i - 1) <;> simp only [hU, hD, Bool.true_or, Bool.false_or, if_true, if_false, Bool.false_eq_true] at g0' ⊢ <;> exact g0'
theorem rates_l0 {c n : List S57} (h : Good c) (hn : Good n) (ns : NoStr n) (at_ : Int) : ∀ m i : Nat, i + 1 + m = c.length → ∀ z0 z1, (0 < i → z0 = (rateR c (i - 1)).num ∧ z1 = ((rateR c (i - 1)).den : Int)) →
  Evn (fun k => law_CurveRates.l0 k c at_ (bentI (upN c (c.length - 2)) (downN c (c.length - 2))) n (upN c (i - 1)) (downN c (i - 1)) i z0 z1) true := by
 have h2 := h.len2
 have h64 := h.len64
 intro m
 induction m with
 | zero =>
  intro i hi z0 z1 hz
  have e : i - 1 = c.length - 2 := by omega
  have n2 := hn.len2
  rw [e]
  refine Evn.step (Evn.ext (rates_l2 hn ns (upN c (c.length - 2)) (downN c (c.length - 2)) (n.length - 2) 1 (by omega) (by omega)) fun k => ?_)
  simp only [law_CurveRates.l0]
  rw [w64 (n := (i : Int) + 1) (by omega) (by omega), if_neg (by omega)]
  rfl
 | succ m ih =>
  intro i hi z0 z1 hz
  have := ih (i + 1) (by omega) (rateR c i).num ((rateR c i).den : Int) (fun _ => by rw [Nat.add_sub_cancel]; exact ⟨rfl, rfl⟩)
  rw [Nat.add_sub_cancel] at this
  exact rates_step h at_ _ (by omega) hz this
theorem rates_true (c : List S57) (at_ : Int) : ∃ k, law_CurveRates.f k c at_ = some true := by
 have v := valid_ev c
 cases hg : goodB c with
 | false =>
  rw [hg] at v
  obtain ⟨k, h⟩ := v.one
  refine ⟨k, ?_⟩
  simp [law_CurveRates.f, law_sane.f, h]
 | true =>
  rw [hg] at v
  have h := good_of hg
  have h2 := h.len2
  obtain ⟨hn, ns, _⟩ := norm_good h
  have vn := valid_ev (normC c)
  rw [good_iff.2 hn] at vn
  have key := rates_l0 h hn ns at_ (c.length - 1) 0 (by omega) 0 0 (fun q => absurd q (by omega))
  have eb : curve_Bent.f c = some (bentI (upN c (c.length - 2)) (downN c (c.length - 2)), 0) := by unfold curve_Bent.f; rw [if_pos hg]
  have en : curve_Normal.f c = some (normC c, 0) := by unfold curve_Normal.f; rw [if_pos hg]
  obtain ⟨k1, h1⟩ := v.fix
  obtain ⟨k2, h2'⟩ := vn.fix
  obtain ⟨k3, h3⟩ := key.fix
  refine ⟨k1 + k2 + k3 + 1, ?_⟩
  have g1 := h1 (k1 + k2 + k3 + 1) (by omega) 0
  have g2 := h2' (k1 + k2 + k3 + 1) (by omega) 0
  have g3 := h3 (k1 + k2 + k3) (by omega) 0
  simp only [Nat.add_zero] at g1 g2 g3
  unfold law_CurveRates.f
  rw [show law_sane.f = some true from rfl, Option.bind_some, if_pos rfl, g1, Option.bind_some, if_pos rfl, eb, Option.bind_some, en, Option.bind_some]
  dsimp only
  rw [if_pos rfl, if_pos rfl, g2, Option.bind_some]
  simp only [law_CurveRates.j0]
  rw [if_neg (by simp)]
  exact g3
end Go.Proofs.YtlhhpogaaneamaaDoor.X
