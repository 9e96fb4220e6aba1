/- curveJoins_holds: the declarations of this seat that its proof uses. Conditions: none. -/
import Derived.Test.YtlhhpogaaneamaaDoorKJP4
namespace Go.Proofs.YtlhhpogaaneamaaDoor.X
open Go.RowKit Go.Proofs.YtlhhpogaaneamaaDoorW.PrintWords Go.Proofs.YtlhhpogaaneamaaDoorW.PrintLast Go.Proofs.YtlhhpogaaneamaaDoorW.PrintMore
set_option linter.unusedVariables false
set_option linter.unusedSimpArgs false
attribute [local go_sem high] eqA25
mutual
def law_CurveJoins.j0 : Nat → List (S57) → List (S57) → List (S57) → Int → Bool → Option (Bool)
 | 0, _, _, _, _, _ => none
 | k + 1, x0, x1, x2, x3, x40 => if x40 = true then (some true) else ((curve_Join.f x0 x1).bind fun bt593 => ((curve_Join.f x1 x2).bind fun bt597 => (if bt593.2 = 0 then (if bt597.2 = 0 then (law_CurveJoins.j1 k x0 x1 x2 x3 bt593.1 bt593.2 bt597.1 bt597.2 false) else (law_CurveJoins.j1 k x0 x1 x2 x3 bt593.1 bt593.2 bt597.1 bt597.2 (bt597.2 != 2))) else (if bt593.2 = 2 then (if bt597.2 = 0 then (law_CurveJoins.j1 k x0 x1 x2 x3 bt593.1 bt593.2 bt597.1 bt597.2 false) else (law_CurveJoins.j1 k x0 x1 x2 x3 bt593.1 bt593.2 bt597.1 bt597.2 (bt597.2 != 2))) else (law_CurveJoins.j1 k x0 x1 x2 x3 bt593.1 bt593.2 bt597.1 bt597.2 true)))))
def law_CurveJoins.j1 : Nat → List (S57) → List (S57) → List (S57) → Int → List (S57) → Int → List (S57) → Int → Bool → Option (Bool)
 | 0, _, _, _, _, _, _, _, _, _ => none
 | k + 1, x0, x1, x2, x3, x9, x10, x11, x12, x66 => if x66 = true then (some false) else (if x10 = 0 then (law_CurveJoins.j2 k x0 x1 x2 x3 x9 x10 x11 (x12 == 0)) else (law_CurveJoins.j2 k x0 x1 x2 x3 x9 x10 x11 false))
def law_CurveJoins.j2 : Nat → List (S57) → List (S57) → List (S57) → Int → List (S57) → Int → List (S57) → Bool → Option (Bool)
 | 0, _, _, _, _, _, _, _, _ => none
 | k + 1, x0, x1, x2, x3, x9, x10, x11, x72 => if x72 = true then ((curve_Join.f x9 x2).bind fun bt601 => ((curve_Join.f x0 x11).bind fun bt605 => ((law_same.f k bt601.1 bt601.2 bt605.1 bt605.2).bind fun t609 => (if t609 = true then (law_CurveJoins.j3 k x0 x1 x3 x9 x10) else (some false))))) else (law_CurveJoins.j3 k x0 x1 x3 x9 x10)
def law_CurveJoins.j3 : Nat → List (S57) → List (S57) → Int → List (S57) → Int → Option (Bool)
 | 0, _, _, _, _, _ => none
 | k + 1, x0, x1, x3, x9, x10 => if x10 = 0 then ((ref_In.f x0 x3).bind fun t610 => (if t610 = true then ((curve_Exact.f k x0 x3).bind fun bt611 => ((curve_Exact.f k x9 x3).bind fun bt615 => (if bt611.2.2 = 0 then (if bt615.2.2 = 0 then (law_CurveJoins.j4 k x0 x1 x3 x9 (!(bt611.1 == bt615.1) || (!(bt611.2.1 == bt615.2.1)))) else (law_CurveJoins.j4 k x0 x1 x3 x9 true)) else (law_CurveJoins.j4 k x0 x1 x3 x9 true)))) else (law_CurveJoins.j5 k x0 x1 x3 x9))) else (some true)
def law_CurveJoins.j5 : Nat → List (S57) → List (S57) → Int → List (S57) → Option (Bool)
 | 0, _, _, _, _ => none
 | k + 1, x0, x1, x3, x9 => (ref_In.f x1 x3).bind fun t619 => (if t619 = true then (if 0 ≤ (wrap64 ((x0.length : Int) - 1)) then (if (wrap64 ((x0.length : Int) - 1)) < (x0.length : Int) then ((curve_Exact.f k x1 x3).bind fun bt622 => (if 0 < (x1.length : Int) then ((curve_Exact.f k x9 (wrap64 ((wrap64 (((rd_T57 x0 (wrap64 ((x0.length : Int) - 1))).f0) + x3)) - ((rd_T57 x1 0).f0)))).bind fun bt627 => (if bt622.2.2 = 0 then (if bt627.2.2 = 0 then (if bt622.2.1 = bt627.2.1 then (law_CurveJoins.j6 k (bt627.1 != (wrap64 (bt622.1 + (wrap64 ((wrap64 (((rd_T57 x0 (wrap64 ((x0.length : Int) - 1))).f1) - ((rd_T57 x1 0).f1))) * bt622.2.1)))))) else (law_CurveJoins.j6 k true)) else (law_CurveJoins.j6 k true)) else (law_CurveJoins.j6 k true))) else (none))) else (none)) else (none)) else (some true))
def law_CurveJoins.j6 : Nat → Bool → Option (Bool)
 | 0, _ => none
 | k + 1, x178 => if x178 = true then (some false) else (some true)
def law_CurveJoins.j4 : Nat → List (S57) → List (S57) → Int → List (S57) → Bool → Option (Bool)
 | 0, _, _, _, _, _ => none
 | k + 1, x0, x1, x3, x9, x118 => if x118 = true then (some false) else (law_CurveJoins.j5 k x0 x1 x3 x9)
end
def law_CurveJoins.f (k : Nat) (l0 : List (S57)) (l1 : List (S57)) (l2 : List (S57)) (a3 : Int) : Option (Bool) := (law_sane.f).bind fun t589 => (if t589 = true then ((ref_Valid.f k l0).bind fun t590 => (if t590 = true then ((ref_Valid.f k l1).bind fun t591 => (if t591 = true then ((ref_Valid.f k l2).bind fun t592 => (law_CurveJoins.j0 k l0 l1 l2 a3 (!t592))) else (law_CurveJoins.j0 k l0 l1 l2 a3 true))) else (law_CurveJoins.j0 k l0 l1 l2 a3 true))) else (some false))
def law_CurveJoins.T24 : Bool × List (List Nat × List Nat) := (true, [([], []), ([], []), ([1], [1]), ([], []), ([2, 3], [2, 3]), ([], []), ([5], [5]), ([6], [6]), ([7], [7]), ([4, 8], [4, 8]), ([0, 9], [0, 9]), ([10], [10]), ([11], [11]), ([11], [11]), ([], []), ([14, 12, 10, 0, 1, 2, 3, 4, 5, 6, 7, 8, 9, 10, 11, 12, 14], [12, 14]), ([13, 15, 0, 1, 2, 3, 4, 5, 6, 7, 8, 9, 10, 11, 12, 13, 14, 15], [13])])
def law_CurveJoins.B24 : List Nat := [0, 0, 2, 0, 14, 0, 32, 96, 224, 510, 1023, 2047, 4095, 4095, 0, 24575, 65535]
theorem law_CurveJoins.tab24 : rtab .any (opsOf Tryd.f10 24) = law_CurveJoins.T24 := by kernel_rfl
theorem law_CurveJoins.bits24 : waitsOk law_CurveJoins.T24.2 law_CurveJoins.B24 = true := by kernel_rfl
def law_CurveJoins.T25 : Bool × List (List Nat × List Nat) := (true, [([], []), ([0], [0]), ([1], [1]), ([2], [2]), ([3, 2], [2, 3]), ([2, 4], [2, 4]), ([5, 2], [5]), ([6], [6]), ([7, 6], [6, 7]), ([6], [6]), ([9, 6], [6, 9]), ([8, 10, 6], [6, 8, 10]), ([6, 11], [6, 11]), ([12, 6], [12]), ([13], [13]), ([14, 13], [13, 14]), ([13], [13]), ([16, 13], [13, 16]), ([13], [13]), ([18, 13], [13, 18]), ([13], [13]), ([20, 13], [13, 20]), ([21, 13], [13, 21]), ([22, 13], [13, 22]), ([19, 23, 13], [13, 19, 23]), ([13], [13]), ([25, 13], [13, 25]), ([24, 26, 13], [13, 24, 26]), ([17, 27, 13], [13, 17, 27]), ([15, 28, 13], [13, 15, 28]), ([13, 29], [13, 29])])
def law_CurveJoins.B25 : List Nat := [0, 1, 3, 7, 15, 31, 63, 127, 255, 127, 639, 2047, 4095, 8191, 16383, 32767, 16383, 81919, 16383, 278527, 16383, 1064959, 3162111, 7356415, 16531455, 16383, 33570815, 133971967, 268386303, 536870911, 1073741823]
theorem law_CurveJoins.tab25 : rtab .any (opsOf Tryd.f10 25) = law_CurveJoins.T25 := by kernel_rfl
theorem law_CurveJoins.bits25 : waitsOk law_CurveJoins.T25.2 law_CurveJoins.B25 = true := by kernel_rfl
set_option maxHeartbeats 8000000 in
set_option maxRecDepth 100000 in
theorem law_CurveJoins.calls (k : Nat) (A0 : Option Addr) (c0 : Nat) (l0 : List (S57)) (A1 : Option Addr) (c1 : Nat) (l1 : List (S57)) (A2 : Option Addr) (c2 : Nat) (l2 : List (S57)) (a3 : Int) (r : Bool) (w : World) (hr0 : Kd.C k57 w A0 l0.length l0) (hc0 : l0.length ≤ c0) (hr1 : Kd.C k57 w A1 l1.length l1) (hc1 : l1.length ≤ c1) (hr2 : Kd.C k57 w A2 l2.length l2) (hc2 : l2.length ≤ c2) (h : law_CurveJoins.f k l0 l1 l2 a3 = some r) :
  Calls Tryd.prog 10 #[.slice A0 l0.length c0, .slice A1 l1.length c1, .slice A2 l2.length c2, .int .i64 a3] w fun e w' => e = .returned (.bool r) ∧ Below w.heap.size w w' := by
 have hu25 := Tryd.underlying25
 have hu57 := Tryd.underlying57
 have HR0 := Aside0.mk hr0
 have HC0 := Aside0.mk hc0
 clear hr0 hc0
 have HR1 := Aside0.mk hr1
 have HC1 := Aside0.mk hc1
 clear hr1 hc1
 have HR2 := Aside0.mk hr2
 have HC2 := Aside0.mk hc2
 clear hr2 hc2
 have HB := Aside0.mk (Below.refl w.heap.size w)
 have H : ((law_sane.f).bind fun t589 => (if t589 = true then ((ref_Valid.f k l0).bind fun t590 => (if t590 = true then ((ref_Valid.f k l1).bind fun t591 => (if t591 = true then ((ref_Valid.f k l2).bind fun t592 => (law_CurveJoins.j0 k l0 l1 l2 a3 (!t592))) else (law_CurveJoins.j0 k l0 l1 l2 a3 true))) else (law_CurveJoins.j0 k l0 l1 l2 a3 true))) else (some false))) = some r := h
 clear h
 replace H := Option.bind_eq_some_iff.mp H
 obtain ⟨t589, A50, H⟩ := H
 replace H : (if t589 = true then ((ref_Valid.f k l0).bind fun t590 => (if t590 = true then ((ref_Valid.f k l1).bind fun t591 => (if t591 = true then ((ref_Valid.f k l2).bind fun t592 => (law_CurveJoins.j0 k l0 l1 l2 a3 (!t592))) else (law_CurveJoins.j0 k l0 l1 l2 a3 true))) else (law_CurveJoins.j0 k l0 l1 l2 a3 true))) else (some false)) = some r := H
 have A5 := Aside0.mk A50
 clear A50
 by_cases c6 : t589 = true
 ·
  subst c6
  have H1 : ((ref_Valid.f k l0).bind fun t590 => (if t590 = true then ((ref_Valid.f k l1).bind fun t591 => (if t591 = true then ((ref_Valid.f k l2).bind fun t592 => (law_CurveJoins.j0 k l0 l1 l2 a3 (!t592))) else (law_CurveJoins.j0 k l0 l1 l2 a3 true))) else (law_CurveJoins.j0 k l0 l1 l2 a3 true))) = some r := by rw [if_pos rfl] at H; exact H
  clear H
  have H := H1
  clear H1
  have HC7 := Aside0.mk H
  clear H
  go_enter Tryd.func10, Tryd.ntmps10
  go_upto_region 3 with (first | ((with_reducible refine gate_callee (f := 18) rfl ?_); refine goesL_ (some 26) rfl rfl Tryd.func18 (by kernel_rfl) rfl #[] rfl (by (try simp only [List.map_toArray, List.map_cons, List.map_nil]); first | done | rfl | (simp only [List.length_drop, List.length_take]; rfl)) ?_; (with_reducible refine (law_sane.calls  true _ A5.out).mono ?_); rintro e w8 ⟨rfl, hb⟩; refine ⟨_, rfl, ?_⟩; have n0_ := Aside0.mk (below_step (by repeat (first | (with_reducible first | exact HB.out | apply below_alloc | apply pw_below_drewN | apply below_drew1) | exact HB.out)) hb); clear HB; have HB := n0_; clear n0_; (try clear hb); (try clear hb2); (try clear hk); (try clear hi)))
  (try simp only [Act.put, List.setIfInBounds_toArray, List.set_cons_zero, List.set_cons_succ])
  go_cut [40] (fun v40 wc => ∃ (kq : Nat) (x40_6 : Bool), v40 = .bool x40_6 ∧ Aside0 (law_CurveJoins.j0 kq l0 l1 l2 a3 x40_6 = some r) ∧ Aside0 (kq ≤ k) ∧ Aside0 (Below w.heap.size w wc))
  case first => as_aux_lemma =>
   have H := HC7.out
   clear HC7
   replace H := Option.bind_eq_some_iff.mp H
   obtain ⟨t590, A90, H⟩ := H
   replace H : (if t590 = true then ((ref_Valid.f k l1).bind fun t591 => (if t591 = true then ((ref_Valid.f k l2).bind fun t592 => (law_CurveJoins.j0 k l0 l1 l2 a3 (!t592))) else (law_CurveJoins.j0 k l0 l1 l2 a3 true))) else (law_CurveJoins.j0 k l0 l1 l2 a3 true)) = some r := H
   have A9 := Aside0.mk A90
   clear A90
   by_cases c10 : t590 = true
   ·
    subst c10
    have H1 : ((ref_Valid.f k l1).bind fun t591 => (if t591 = true then ((ref_Valid.f k l2).bind fun t592 => (law_CurveJoins.j0 k l0 l1 l2 a3 (!t592))) else (law_CurveJoins.j0 k l0 l1 l2 a3 true))) = some r := by rw [if_pos rfl] at H; exact H
    clear H
    have H := H1
    clear H1
    replace H := Option.bind_eq_some_iff.mp H
    obtain ⟨t591, A110, H⟩ := H
    replace H : (if t591 = true then ((ref_Valid.f k l2).bind fun t592 => (law_CurveJoins.j0 k l0 l1 l2 a3 (!t592))) else (law_CurveJoins.j0 k l0 l1 l2 a3 true)) = some r := H
    have A11 := Aside0.mk A110
    clear A110
    by_cases c12 : t591 = true
    ·
     subst c12
     have H1 : ((ref_Valid.f k l2).bind fun t592 => (law_CurveJoins.j0 k l0 l1 l2 a3 (!t592))) = some r := by rw [if_pos rfl] at H; exact H
     clear H
     have H := H1
     clear H1
     replace H := Option.bind_eq_some_iff.mp H
     obtain ⟨t592, A130, H⟩ := H
     replace H : (law_CurveJoins.j0 k l0 l1 l2 a3 (!t592)) = some r := H
     have A13 := Aside0.mk A130
     clear A130
     have H' := Aside0.mk H
     clear H
     go_wp2_with (first | ((with_reducible refine gate_callee (f := 42) rfl ?_); refine goesL_ (some 29) rfl rfl Tryd.func42 (by kernel_rfl) rfl #[.slice A0 l0.length c0] rfl (by (try simp only [List.map_toArray, List.map_cons, List.map_nil]); first | done | rfl | (simp only [List.length_drop, List.length_take]; rfl)) ?_; (with_reducible refine (ref_Valid.calls k _ _ l0 true _ ?side1 ?side2 A9.out).mono ?_); (case side1 => repeat (first | exact (Kd.C_below HR0.out HB.out) | (with_reducible refine Kd.C_alloc ?_ _) | (with_reducible refine Kd.C_drewN ?_ _) | (with_reducible refine Kd.C_drew ?_))); (case side2 => exact HC0.out); rintro e w' ⟨rfl, ⟨nd, rfl⟩⟩; refine ⟨_, rfl, ?_⟩) | (go_at_call 42; (with_reducible refine (ref_Valid.calls k _ _ l1 true _ ?side1 ?side2 A11.out).mono ?_); (case side1 => repeat (first | exact (Kd.C_below HR1.out (by repeat (first | (with_reducible first | exact HB.out | apply below_alloc | apply pw_below_drewN | apply below_drew1) | exact HB.out))) | (with_reducible refine Kd.C_alloc ?_ _) | (with_reducible refine Kd.C_drewN ?_ _) | (with_reducible refine Kd.C_drew ?_))); (case side2 => exact HC1.out); rintro e w' ⟨rfl, ⟨nd, rfl⟩⟩) | (go_at_call 42; (with_reducible refine (ref_Valid.calls k _ _ l2 t592 _ ?side1 ?side2 A13.out).mono ?_); (case side1 => repeat (first | exact (Kd.C_below HR2.out (by repeat (first | (with_reducible first | exact HB.out | apply below_alloc | apply pw_below_drewN | apply below_drew1) | exact HB.out))) | (with_reducible refine Kd.C_alloc ?_ _) | (with_reducible refine Kd.C_drewN ?_ _) | (with_reducible refine Kd.C_drew ?_))); (case side2 => exact HC2.out); rintro e w' ⟨rfl, ⟨nd, rfl⟩⟩))
     go_meet
     case rel => exact ⟨_, (!t592), (by first | rfl | (simp; done) | (simp [*]; done)), H', ⟨by first | omega | exact Nat.le_refl _⟩, ⟨by repeat (first | (with_reducible first | exact HB.out | apply below_alloc | apply pw_below_drewN | apply below_drew1) | exact HB.out)⟩⟩
    ·
     replace c12 := Bool.eq_false_iff.mpr c12
     subst c12
     have H1 : (law_CurveJoins.j0 k l0 l1 l2 a3 true) = some r := by rw [if_neg (show ¬ (false = true) by decide)] at H; exact H
     clear H
     have H := H1
     clear H1
     have H' := Aside0.mk H
     clear H
     go_wp2_with (first | ((with_reducible refine gate_callee (f := 42) rfl ?_); refine goesL_ (some 29) rfl rfl Tryd.func42 (by kernel_rfl) rfl #[.slice A0 l0.length c0] rfl (by (try simp only [List.map_toArray, List.map_cons, List.map_nil]); first | done | rfl | (simp only [List.length_drop, List.length_take]; rfl)) ?_; (with_reducible refine (ref_Valid.calls k _ _ l0 true _ ?side1 ?side2 A9.out).mono ?_); (case side1 => repeat (first | exact (Kd.C_below HR0.out HB.out) | (with_reducible refine Kd.C_alloc ?_ _) | (with_reducible refine Kd.C_drewN ?_ _) | (with_reducible refine Kd.C_drew ?_))); (case side2 => exact HC0.out); rintro e w' ⟨rfl, ⟨nd, rfl⟩⟩; refine ⟨_, rfl, ?_⟩) | (go_at_call 42; (with_reducible refine (ref_Valid.calls k _ _ l1 false _ ?side1 ?side2 A11.out).mono ?_); (case side1 => repeat (first | exact (Kd.C_below HR1.out (by repeat (first | (with_reducible first | exact HB.out | apply below_alloc | apply pw_below_drewN | apply below_drew1) | exact HB.out))) | (with_reducible refine Kd.C_alloc ?_ _) | (with_reducible refine Kd.C_drewN ?_ _) | (with_reducible refine Kd.C_drew ?_))); (case side2 => exact HC1.out); rintro e w' ⟨rfl, ⟨nd, rfl⟩⟩))
     go_meet
     case rel => exact ⟨_, (true), (by first | rfl | (simp; done) | (simp [*]; done)), H', ⟨by first | omega | exact Nat.le_refl _⟩, ⟨by repeat (first | (with_reducible first | exact HB.out | apply below_alloc | apply pw_below_drewN | apply below_drew1) | exact HB.out)⟩⟩
   ·
    replace c10 := Bool.eq_false_iff.mpr c10
    subst c10
    have H1 : (law_CurveJoins.j0 k l0 l1 l2 a3 true) = some r := by rw [if_neg (show ¬ (false = true) by decide)] at H; exact H
    clear H
    have H := H1
    clear H1
    have H' := Aside0.mk H
    clear H
    go_wp2_with (first | ((with_reducible refine gate_callee (f := 42) rfl ?_); refine goesL_ (some 29) rfl rfl Tryd.func42 (by kernel_rfl) rfl #[.slice A0 l0.length c0] rfl (by (try simp only [List.map_toArray, List.map_cons, List.map_nil]); first | done | rfl | (simp only [List.length_drop, List.length_take]; rfl)) ?_; (with_reducible refine (ref_Valid.calls k _ _ l0 false _ ?side1 ?side2 A9.out).mono ?_); (case side1 => repeat (first | exact (Kd.C_below HR0.out HB.out) | (with_reducible refine Kd.C_alloc ?_ _) | (with_reducible refine Kd.C_drewN ?_ _) | (with_reducible refine Kd.C_drew ?_))); (case side2 => exact HC0.out); rintro e w' ⟨rfl, ⟨nd, rfl⟩⟩; refine ⟨_, rfl, ?_⟩))
    go_meet
    case rel => exact ⟨_, (true), (by first | rfl | (simp; done) | (simp [*]; done)), H', ⟨by first | omega | exact Nat.le_refl _⟩, ⟨by repeat (first | (with_reducible first | exact HB.out | apply below_alloc | apply pw_below_drewN | apply below_drew1) | exact HB.out)⟩⟩
  case rest => as_aux_lemma =>
   clear HC7
   try clear c1
   try clear c2
   try clear p2
   try clear c4
   try clear c6
   try clear c10
   try clear c12
   obtain ⟨kq, x40_6, rfl, HA, HJ6, HB⟩ := hcut
   cases kq with
   | zero => exact absurd HA.out (by simp [law_CurveJoins.j0])
   | succ kj6 =>
    have H := HA.out
    clear HA
    simp only [law_CurveJoins.j0] at H
    by_cases c14 : x40_6 = true
    ·
     subst c14
     have H1 : (some true) = some r := by rw [if_pos rfl] at H; exact H
     clear H
     have H := H1
     clear H1
     obtain rfl := Option.some.inj H
     go_wp2
     go_ret
     exact ⟨by first | rfl | (simp [errW_none, errW_some] <;> rfl) | (simp [*, errW_none, errW_some] <;> rfl), by repeat (first | (with_reducible first | exact HB.out | apply below_alloc | apply pw_below_drewN | apply below_drew1) | exact HB.out)⟩
    ·
     replace c14 := Bool.eq_false_iff.mpr c14
     subst c14
     have H1 : ((curve_Join.f l0 l1).bind fun bt593 => ((curve_Join.f l1 l2).bind fun bt597 => (if bt593.2 = 0 then (if bt597.2 = 0 then (law_CurveJoins.j1 kj6 l0 l1 l2 a3 bt593.1 bt593.2 bt597.1 bt597.2 false) else (law_CurveJoins.j1 kj6 l0 l1 l2 a3 bt593.1 bt593.2 bt597.1 bt597.2 (bt597.2 != 2))) else (if bt593.2 = 2 then (if bt597.2 = 0 then (law_CurveJoins.j1 kj6 l0 l1 l2 a3 bt593.1 bt593.2 bt597.1 bt597.2 false) else (law_CurveJoins.j1 kj6 l0 l1 l2 a3 bt593.1 bt593.2 bt597.1 bt597.2 (bt597.2 != 2))) else (law_CurveJoins.j1 kj6 l0 l1 l2 a3 bt593.1 bt593.2 bt597.1 bt597.2 true))))) = some r := by rw [if_neg (show ¬ (false = true) by decide)] at H; exact H
     clear H
     have H := H1
     clear H1
     replace H := Option.bind_eq_some_iff.mp H
     obtain ⟨⟨t593, t594⟩, A150, H⟩ := H
     replace H : ((curve_Join.f l1 l2).bind fun bt597 => (if t594 = 0 then (if bt597.2 = 0 then (law_CurveJoins.j1 kj6 l0 l1 l2 a3 t593 t594 bt597.1 bt597.2 false) else (law_CurveJoins.j1 kj6 l0 l1 l2 a3 t593 t594 bt597.1 bt597.2 (bt597.2 != 2))) else (if t594 = 2 then (if bt597.2 = 0 then (law_CurveJoins.j1 kj6 l0 l1 l2 a3 t593 t594 bt597.1 bt597.2 false) else (law_CurveJoins.j1 kj6 l0 l1 l2 a3 t593 t594 bt597.1 bt597.2 (bt597.2 != 2))) else (law_CurveJoins.j1 kj6 l0 l1 l2 a3 t593 t594 bt597.1 bt597.2 true)))) = some r := H
     have A15 := Aside0.mk A150
     clear A150
     replace H := Option.bind_eq_some_iff.mp H
     obtain ⟨⟨t597, t598⟩, A160, H⟩ := H
     replace H : (if t594 = 0 then (if t598 = 0 then (law_CurveJoins.j1 kj6 l0 l1 l2 a3 t593 t594 t597 t598 false) else (law_CurveJoins.j1 kj6 l0 l1 l2 a3 t593 t594 t597 t598 (t598 != 2))) else (if t594 = 2 then (if t598 = 0 then (law_CurveJoins.j1 kj6 l0 l1 l2 a3 t593 t594 t597 t598 false) else (law_CurveJoins.j1 kj6 l0 l1 l2 a3 t593 t594 t597 t598 (t598 != 2))) else (law_CurveJoins.j1 kj6 l0 l1 l2 a3 t593 t594 t597 t598 true))) = some r := H
     have A16 := Aside0.mk A160
     clear A160
     have HC17 := Aside0.mk H
     clear H
     go_upto_region 7 with (first | ((with_reducible refine gate_callee (f := 49) rfl ?_); refine goesL_ (some 44) rfl rfl Tryd.func49 (by kernel_rfl) rfl #[.slice A0 l0.length c0, .slice A1 l1.length c1] rfl (by (try simp only [List.map_toArray, List.map_cons, List.map_nil]); first | done | rfl | (simp only [List.length_drop, List.length_take]; rfl)) ?_; (with_reducible refine (curve_Join.calls _ _ l0 _ _ l1 t593 t594 _ ?side1 ?side2 ?side3 ?side4 A15.out).mono ?_); (case side1 => repeat (first | exact (Kd.C_below HR0.out HB.out) | (with_reducible refine Kd.C_alloc ?_ _) | (with_reducible refine Kd.C_drewN ?_ _) | (with_reducible refine Kd.C_drew ?_))); (case side2 => exact HC0.out); (case side3 => repeat (first | exact (Kd.C_below HR1.out HB.out) | (with_reducible refine Kd.C_alloc ?_ _) | (with_reducible refine Kd.C_drewN ?_ _) | (with_reducible refine Kd.C_drew ?_))); (case side4 => exact HC1.out); rintro e w18 ⟨v595, rfl, ho0, hb⟩; refine ⟨_, rfl, ?_⟩; have n0_ := Aside0.mk (Kd.R_lower ho0 (below_size (by repeat (first | (with_reducible first | exact HB.out | apply below_alloc | apply pw_below_drewN | apply below_drew1) | exact HB.out)))); have n1_ := Aside0.mk (below_step (by repeat (first | (with_reducible first | exact HB.out | apply below_alloc | apply pw_below_drewN | apply below_drew1) | exact HB.out)) hb); clear HB; have HO596 := n0_; have HB := n1_; clear n0_ n1_; (try clear hb); (try clear hb2); (try clear hk); (try clear hi); (try clear ho0)) | ((with_reducible refine gate_callee (f := 49) rfl ?_); refine goesL_ (some 50) rfl rfl Tryd.func49 (by kernel_rfl) rfl #[.slice A1 l1.length c1, .slice A2 l2.length c2] rfl (by (try simp only [List.map_toArray, List.map_cons, List.map_nil]); first | done | rfl | (simp only [List.length_drop, List.length_take]; rfl)) ?_; (with_reducible refine (curve_Join.calls _ _ l1 _ _ l2 t597 t598 _ ?side1 ?side2 ?side3 ?side4 A16.out).mono ?_); (case side1 => repeat (first | exact (Kd.C_below HR1.out HB.out) | (with_reducible refine Kd.C_alloc ?_ _) | (with_reducible refine Kd.C_drewN ?_ _) | (with_reducible refine Kd.C_drew ?_))); (case side2 => exact HC1.out); (case side3 => repeat (first | exact (Kd.C_below HR2.out HB.out) | (with_reducible refine Kd.C_alloc ?_ _) | (with_reducible refine Kd.C_drewN ?_ _) | (with_reducible refine Kd.C_drew ?_))); (case side4 => exact HC2.out); rintro e w19 ⟨v599, rfl, ho0, hb⟩; refine ⟨_, rfl, ?_⟩; have n0_ := Aside0.mk (Kd.R_elder' (by (with_reducible repeat (first | apply Kd.R_alloc | apply Kd.R_drewN | apply Kd.R_drew)); exact HO596.out) (Kd.R_base ho0) hb); have n1_ := Aside0.mk (Kd.R_lower (Kd.R_new' ho0 (Kd.R_lt (by (with_reducible repeat (first | apply Kd.R_alloc | apply Kd.R_drewN | apply Kd.R_drew)); exact HO596.out))) (below_size (by repeat (first | (with_reducible first | exact HB.out | apply below_alloc | apply pw_below_drewN | apply below_drew1) | exact HB.out)))); have n2_ := Aside0.mk (below_step (by repeat (first | (with_reducible first | exact HB.out | apply below_alloc | apply pw_below_drewN | apply below_drew1) | exact HB.out)) hb); clear HO596; clear HB; have HO596 := n0_; have HO600 := n1_; have HB := n2_; clear n0_ n1_ n2_; (try clear hb); (try clear hb2); (try clear hk); (try clear hi); (try clear ho0)))
     (try simp only [Act.put, List.setIfInBounds_toArray, List.set_cons_zero, List.set_cons_succ])
     go_cut [66] (fun v66 wc => ∃ (kq : Nat) (x66_16 : Bool), v66 = .bool x66_16 ∧ Aside0 (law_CurveJoins.j1 kq l0 l1 l2 a3 t593 t594 t597 t598 x66_16 = some r) ∧ Aside0 (kq ≤ kj6) ∧ Aside0 (Kd.R k57 57 wc w.heap.size (fun k_ => some k_ ≠ (v599 : Value).ownBlock) v595 t593) ∧ Aside0 (Kd.R k57 57 wc w.heap.size (fun k_ => some k_ ≠ (v595 : Value).ownBlock) v599 t597) ∧ Aside0 (Below w.heap.size w wc))
     case first => as_aux_lemma =>
      have H := HC17.out
      clear HC17
      by_cases c20 : t594 = 0
      ·
       rw [if_pos c20] at H
       have c20b0 : (t594 == 0) = true := beq_iff_eq.mpr c20
       have c20b1 : (t594 != 0) = false := bne_eq_false_iff_eq.mpr c20
       clear c20
       (first | rw [c20b0] | (simp only [i64_w, i32_w]; rw [c20b0]) | skip)
       by_cases c21 : t598 = 0
       ·
        rw [if_pos c21] at H
        have c21b0 : (t598 == 0) = true := beq_iff_eq.mpr c21
        have c21b1 : (t598 != 0) = false := bne_eq_false_iff_eq.mpr c21
        clear c21
        have H' := Aside0.mk H
        clear H
        go_wp2
        go_meet
        case rel => exact ⟨_, (false), (by first | rfl | (simp; done) | (simp [*]; done)), H', ⟨by have := HJ6.out; first | omega | exact Nat.le_refl _⟩, ⟨by (with_reducible repeat (first | apply Kd.R_alloc | apply Kd.R_drewN | apply Kd.R_drew)); exact Kd.R_mono HO596.out (fun _ hk => hk.2)⟩, ⟨by (with_reducible repeat (first | apply Kd.R_alloc | apply Kd.R_drewN | apply Kd.R_drew)); exact Kd.R_mono HO600.out (fun _ hk => hk.2)⟩, ⟨by repeat (first | (with_reducible first | exact HB.out | apply below_alloc | apply pw_below_drewN | apply below_drew1) | exact HB.out)⟩⟩
       ·
        rw [if_neg c21] at H
        have c21b0 : (t598 == 0) = false := beq_eq_false_iff_ne.mpr c21
        have c21b1 : (t598 != 0) = true := bne_iff_ne.mpr c21
        have H' := Aside0.mk H
        clear H
        go_wp2
        go_meet
        case rel => exact ⟨_, ((t598 != 2)), (by first | rfl | (simp; done) | (simp [*]; done)), H', ⟨by have := HJ6.out; first | omega | exact Nat.le_refl _⟩, ⟨by (with_reducible repeat (first | apply Kd.R_alloc | apply Kd.R_drewN | apply Kd.R_drew)); exact Kd.R_mono HO596.out (fun _ hk => hk.2)⟩, ⟨by (with_reducible repeat (first | apply Kd.R_alloc | apply Kd.R_drewN | apply Kd.R_drew)); exact Kd.R_mono HO600.out (fun _ hk => hk.2)⟩, ⟨by repeat (first | (with_reducible first | exact HB.out | apply below_alloc | apply pw_below_drewN | apply below_drew1) | exact HB.out)⟩⟩
      ·
       rw [if_neg c20] at H
       have c20b0 : (t594 == 0) = false := beq_eq_false_iff_ne.mpr c20
       have c20b1 : (t594 != 0) = true := bne_iff_ne.mpr c20
       (first | rw [c20b0] | (simp only [i64_w, i32_w]; rw [c20b0]) | skip)
       by_cases c22 : t594 = 2
       ·
        rw [if_pos c22] at H
        have c22b0 : (t594 == 2) = true := beq_iff_eq.mpr c22
        have c22b1 : (t594 != 2) = false := bne_eq_false_iff_eq.mpr c22
        clear c22
        by_cases c23 : t598 = 0
        ·
         rw [if_pos c23] at H
         have c23b0 : (t598 == 0) = true := beq_iff_eq.mpr c23
         have c23b1 : (t598 != 0) = false := bne_eq_false_iff_eq.mpr c23
         clear c23
         have H' := Aside0.mk H
         clear H
         go_wp2
         go_meet
         case rel => exact ⟨_, (false), (by first | rfl | (simp; done) | (simp [*]; done)), H', ⟨by have := HJ6.out; first | omega | exact Nat.le_refl _⟩, ⟨by (with_reducible repeat (first | apply Kd.R_alloc | apply Kd.R_drewN | apply Kd.R_drew)); exact Kd.R_mono HO596.out (fun _ hk => hk.2)⟩, ⟨by (with_reducible repeat (first | apply Kd.R_alloc | apply Kd.R_drewN | apply Kd.R_drew)); exact Kd.R_mono HO600.out (fun _ hk => hk.2)⟩, ⟨by repeat (first | (with_reducible first | exact HB.out | apply below_alloc | apply pw_below_drewN | apply below_drew1) | exact HB.out)⟩⟩
        ·
         rw [if_neg c23] at H
         have c23b0 : (t598 == 0) = false := beq_eq_false_iff_ne.mpr c23
         have c23b1 : (t598 != 0) = true := bne_iff_ne.mpr c23
         have H' := Aside0.mk H
         clear H
         go_wp2
         go_meet
         case rel => exact ⟨_, ((t598 != 2)), (by first | rfl | (simp; done) | (simp [*]; done)), H', ⟨by have := HJ6.out; first | omega | exact Nat.le_refl _⟩, ⟨by (with_reducible repeat (first | apply Kd.R_alloc | apply Kd.R_drewN | apply Kd.R_drew)); exact Kd.R_mono HO596.out (fun _ hk => hk.2)⟩, ⟨by (with_reducible repeat (first | apply Kd.R_alloc | apply Kd.R_drewN | apply Kd.R_drew)); exact Kd.R_mono HO600.out (fun _ hk => hk.2)⟩, ⟨by repeat (first | (with_reducible first | exact HB.out | apply below_alloc | apply pw_below_drewN | apply below_drew1) | exact HB.out)⟩⟩
       ·
        rw [if_neg c22] at H
        have c22b0 : (t594 == 2) = false := beq_eq_false_iff_ne.mpr c22
        have c22b1 : (t594 != 2) = true := bne_iff_ne.mpr c22
        have H' := Aside0.mk H
        clear H
        go_wp2
        go_meet
        case rel => exact ⟨_, (true), (by first | rfl | (simp; done) | (simp [*]; done)), H', ⟨by have := HJ6.out; first | omega | exact Nat.le_refl _⟩, ⟨by (with_reducible repeat (first | apply Kd.R_alloc | apply Kd.R_drewN | apply Kd.R_drew)); exact Kd.R_mono HO596.out (fun _ hk => hk.2)⟩, ⟨by (with_reducible repeat (first | apply Kd.R_alloc | apply Kd.R_drewN | apply Kd.R_drew)); exact Kd.R_mono HO600.out (fun _ hk => hk.2)⟩, ⟨by repeat (first | (with_reducible first | exact HB.out | apply below_alloc | apply pw_below_drewN | apply below_drew1) | exact HB.out)⟩⟩
     case rest => as_aux_lemma =>
      clear HC17
      try clear c1
      try clear c2
      try clear p2
      try clear c4
      try clear c6
      try clear c10
      try clear c12
      try clear c14
      try clear c18
      try clear c20
      try clear c20b0
      try clear c20b1
      try clear c21
      try clear c21b0
      try clear c21b1
      try clear c22
      try clear c22b0
      try clear c22b1
      try clear c23
      try clear c23b0
      try clear c23b1
      try clear p2
      obtain ⟨kq, x66_16, rfl, HA, HJ16, HO_9, HO_11, HB⟩ := hcut
      cases kq with
      | zero => exact absurd HA.out (by simp [law_CurveJoins.j1])
      | succ kj16 =>
       have H := HA.out
       clear HA
       simp only [law_CurveJoins.j1] at H
       by_cases c24 : x66_16 = true
       ·
        subst c24
        have H1 : (some false) = some r := by rw [if_pos rfl] at H; exact H
        clear H
        have H := H1
        clear H1
        obtain rfl := Option.some.inj H
        go_wp2
        go_ret
        exact ⟨by first | rfl | (simp [errW_none, errW_some] <;> rfl) | (simp [*, errW_none, errW_some] <;> rfl), by repeat (first | (with_reducible first | exact HB.out | apply below_alloc | apply pw_below_drewN | apply below_drew1) | exact HB.out)⟩
       ·
        replace c24 := Bool.eq_false_iff.mpr c24
        subst c24
        have H1 : (if t594 = 0 then (law_CurveJoins.j2 kj16 l0 l1 l2 a3 t593 t594 t597 (t598 == 0)) else (law_CurveJoins.j2 kj16 l0 l1 l2 a3 t593 t594 t597 false)) = some r := by rw [if_neg (show ¬ (false = true) by decide)] at H; exact H
        clear H
        have H := H1
        clear H1
        have HC25 := Aside0.mk H
        clear H
        go_upto_region 9 with (fail)
        go_cut [72] (fun v72 wc => ∃ (kq : Nat) (x72_24 : Bool), v72 = .bool x72_24 ∧ Aside0 (law_CurveJoins.j2 kq l0 l1 l2 a3 t593 t594 t597 x72_24 = some r) ∧ Aside0 (kq ≤ kj16) ∧ Aside0 (Kd.R k57 57 wc w.heap.size (fun k_ => some k_ ≠ (v599 : Value).ownBlock) v595 t593) ∧ Aside0 (Kd.R k57 57 wc w.heap.size (fun k_ => some k_ ≠ (v595 : Value).ownBlock) v599 t597) ∧ Aside0 (Below w.heap.size w wc))
        case first => as_aux_lemma =>
         have H := HC25.out
         clear HC25
         by_cases c26 : t594 = 0
         ·
          rw [if_pos c26] at H
          have c26b0 : (t594 == 0) = true := beq_iff_eq.mpr c26
          have c26b1 : (t594 != 0) = false := bne_eq_false_iff_eq.mpr c26
          clear c26
          (first | rw [c26b0] | (simp only [i64_w, i32_w]; rw [c26b0]) | skip)
          have H' := Aside0.mk H
          clear H
          go_wp2
          go_meet
          case rel => exact ⟨_, ((t598 == 0)), (by first | rfl | (simp; done) | (simp [*]; done)), H', ⟨by have := HJ6.out; have := HJ16.out; first | omega | exact Nat.le_refl _⟩, ⟨by (with_reducible repeat (first | apply Kd.R_alloc | apply Kd.R_drewN | apply Kd.R_drew)); exact HO_9.out⟩, ⟨by (with_reducible repeat (first | apply Kd.R_alloc | apply Kd.R_drewN | apply Kd.R_drew)); exact HO_11.out⟩, ⟨by repeat (first | (with_reducible first | exact HB.out | apply below_alloc | apply pw_below_drewN | apply below_drew1) | exact HB.out)⟩⟩
         ·
          rw [if_neg c26] at H
          have c26b0 : (t594 == 0) = false := beq_eq_false_iff_ne.mpr c26
          have c26b1 : (t594 != 0) = true := bne_iff_ne.mpr c26
          (first | rw [c26b0] | (simp only [i64_w, i32_w]; rw [c26b0]) | skip)
          have H' := Aside0.mk H
          clear H
          go_wp2
          go_meet
          case rel => exact ⟨_, (false), (by first | rfl | (simp; done) | (simp [*]; done)), H', ⟨by have := HJ6.out; have := HJ16.out; first | omega | exact Nat.le_refl _⟩, ⟨by (with_reducible repeat (first | apply Kd.R_alloc | apply Kd.R_drewN | apply Kd.R_drew)); exact HO_9.out⟩, ⟨by (with_reducible repeat (first | apply Kd.R_alloc | apply Kd.R_drewN | apply Kd.R_drew)); exact HO_11.out⟩, ⟨by repeat (first | (with_reducible first | exact HB.out | apply below_alloc | apply pw_below_drewN | apply below_drew1) | exact HB.out)⟩⟩
        case rest => as_aux_lemma =>
         clear HC25
         try clear c1
         try clear c2
         try clear p2
         try clear c4
         try clear c6
         try clear c10
         try clear c12
         try clear c14
         try clear c18
         try clear c20
         try clear c20b0
         try clear c20b1
         try clear c21
         try clear c21b0
         try clear c21b1
         try clear c22
         try clear c22b0
         try clear c22b1
         try clear c23
         try clear c23b0
         try clear c23b1
         try clear c24
         try clear c26
         try clear c26b0
         try clear c26b1
         try clear p2
         obtain ⟨kq, x72_24, rfl, HA, HJ24, HO_9, HO_11, HB⟩ := hcut
         cases kq with
         | zero => exact absurd HA.out (by simp [law_CurveJoins.j2])
         | succ kj24 =>
          have H := HA.out
          clear HA
          simp only [law_CurveJoins.j2] at H
          have HC27 := Aside0.mk H
          clear H
          go_upto_if 72 with (fail)
          go_cut [] (fun wc => ∃ (kq : Nat), Aside0 (law_CurveJoins.j3 kq l0 l1 a3 t593 t594 = some r) ∧ Aside0 (kq ≤ kj24) ∧ Aside0 (Kd.R k57 57 wc w.heap.size (fun _ => True) v595 t593) ∧ Aside0 (Below w.heap.size w wc))
          case first => as_aux_lemma =>
           have H := HC27.out
           clear HC27
           by_cases c28 : x72_24 = true
           ·
            subst c28
            have H1 : ((curve_Join.f t593 l2).bind fun bt601 => ((curve_Join.f l0 t597).bind fun bt605 => ((law_same.f kj24 bt601.1 bt601.2 bt605.1 bt605.2).bind fun t609 => (if t609 = true then (law_CurveJoins.j3 kj24 l0 l1 a3 t593 t594) else (some false))))) = some r := by rw [if_pos rfl] at H; exact H
            clear H
            have H := H1
            clear H1
            replace H := Option.bind_eq_some_iff.mp H
            obtain ⟨⟨t601, t602⟩, A290, H⟩ := H
            replace H : ((curve_Join.f l0 t597).bind fun bt605 => ((law_same.f kj24 t601 t602 bt605.1 bt605.2).bind fun t609 => (if t609 = true then (law_CurveJoins.j3 kj24 l0 l1 a3 t593 t594) else (some false)))) = some r := H
            have A29 := Aside0.mk A290
            clear A290
            replace H := Option.bind_eq_some_iff.mp H
            obtain ⟨⟨t605, t606⟩, A300, H⟩ := H
            replace H : ((law_same.f kj24 t601 t602 t605 t606).bind fun t609 => (if t609 = true then (law_CurveJoins.j3 kj24 l0 l1 a3 t593 t594) else (some false))) = some r := H
            have A30 := Aside0.mk A300
            clear A300
            replace H := Option.bind_eq_some_iff.mp H
            obtain ⟨t609, A310, H⟩ := H
            replace H : (if t609 = true then (law_CurveJoins.j3 kj24 l0 l1 a3 t593 t594) else (some false)) = some r := H
            have A31 := Aside0.mk A310
            clear A310
            by_cases c32 : t609 = true
            ·
             subst c32
             have H1 : (law_CurveJoins.j3 kj24 l0 l1 a3 t593 t594) = some r := by rw [if_pos rfl] at H; exact H
             clear H
             have H := H1
             clear H1
             have H' := Aside0.mk H
             clear H
             obtain ⟨Ao33, co33, eo33⟩ := Kd.R_slice HO_9.out
             subst eo33
             go_wp2_with (first | ((with_reducible refine gate_callee (f := 49) rfl ?_); refine goesL_ (some 76) rfl rfl Tryd.func49 (by kernel_rfl) rfl #[.slice Ao33 t593.length co33, .slice A2 l2.length c2] rfl (by (try simp only [List.map_toArray, List.map_cons, List.map_nil]); first | done | rfl | (simp only [List.length_drop, List.length_take]; rfl)) ?_; (with_reducible refine (curve_Join.calls _ _ t593 _ _ l2 t601 t602 _ ?side1 ?side2 ?side3 ?side4 A29.out).mono ?_); (case side1 => repeat (first | exact (Kd.R_reads' HO_9.out).2.2 | (with_reducible refine Kd.C_alloc ?_ _) | (with_reducible refine Kd.C_drewN ?_ _) | (with_reducible refine Kd.C_drew ?_))); (case side2 => exact (Kd.R_reads' HO_9.out).2.1); (case side3 => repeat (first | exact (Kd.C_below HR2.out HB.out) | (with_reducible refine Kd.C_alloc ?_ _) | (with_reducible refine Kd.C_drewN ?_ _) | (with_reducible refine Kd.C_drew ?_))); (case side4 => exact HC2.out); rintro e w34 ⟨v603, rfl, ho0, hb⟩; refine ⟨_, rfl, ?_⟩; have n0_ := Aside0.mk (Kd.R_elder' (by (with_reducible repeat (first | apply Kd.R_alloc | apply Kd.R_drewN | apply Kd.R_drew)); exact HO_9.out) (Kd.R_base ho0) hb); have n1_ := Aside0.mk (Kd.R_elder' (by (with_reducible repeat (first | apply Kd.R_alloc | apply Kd.R_drewN | apply Kd.R_drew)); exact HO_11.out) (Kd.R_base ho0) hb); have n2_ := Aside0.mk (Kd.R_lower (Kd.R_new' (Kd.R_new' ho0 (Kd.R_lt (by (with_reducible repeat (first | apply Kd.R_alloc | apply Kd.R_drewN | apply Kd.R_drew)); exact HO_9.out))) (Kd.R_lt (by (with_reducible repeat (first | apply Kd.R_alloc | apply Kd.R_drewN | apply Kd.R_drew)); exact HO_11.out))) (below_size (by repeat (first | (with_reducible first | exact HB.out | apply below_alloc | apply pw_below_drewN | apply below_drew1) | exact HB.out)))); have n3_ := Aside0.mk (below_step (by repeat (first | (with_reducible first | exact HB.out | apply below_alloc | apply pw_below_drewN | apply below_drew1) | exact HB.out)) hb); clear HO_9; clear HO_11; clear HB; have HO_9 := n0_; have HO_11 := n1_; have HO604 := n2_; have HB := n3_; clear n0_ n1_ n2_ n3_; (try clear hb); (try clear hb2); (try clear hk); (try clear hi); (try clear ho0); obtain ⟨Ao35, co35, eo35⟩ := Kd.R_slice HO_11.out; subst eo35) | ((with_reducible refine gate_callee (f := 49) rfl ?_); refine goesL_ (some 82) rfl rfl Tryd.func49 (by kernel_rfl) rfl #[.slice A0 l0.length c0, .slice Ao35 t597.length co35] rfl (by (try simp only [List.map_toArray, List.map_cons, List.map_nil]); first | done | rfl | (simp only [List.length_drop, List.length_take]; rfl)) ?_; (with_reducible refine (curve_Join.calls _ _ l0 _ _ t597 t605 t606 _ ?side1 ?side2 ?side3 ?side4 A30.out).mono ?_); (case side1 => repeat (first | exact (Kd.C_below HR0.out HB.out) | (with_reducible refine Kd.C_alloc ?_ _) | (with_reducible refine Kd.C_drewN ?_ _) | (with_reducible refine Kd.C_drew ?_))); (case side2 => exact HC0.out); (case side3 => repeat (first | exact (Kd.R_reads' HO_11.out).2.2 | (with_reducible refine Kd.C_alloc ?_ _) | (with_reducible refine Kd.C_drewN ?_ _) | (with_reducible refine Kd.C_drew ?_))); (case side4 => exact (Kd.R_reads' HO_11.out).2.1); rintro e w36 ⟨v607, rfl, ho0, hb⟩; refine ⟨_, rfl, ?_⟩; have n0_ := Aside0.mk (Kd.R_elder' (by (with_reducible repeat (first | apply Kd.R_alloc | apply Kd.R_drewN | apply Kd.R_drew)); exact HO_9.out) (Kd.R_base ho0) hb); have n1_ := Aside0.mk (Kd.R_elder' (by (with_reducible repeat (first | apply Kd.R_alloc | apply Kd.R_drewN | apply Kd.R_drew)); exact HO_11.out) (Kd.R_base ho0) hb); have n2_ := Aside0.mk (Kd.R_elder' (by (with_reducible repeat (first | apply Kd.R_alloc | apply Kd.R_drewN | apply Kd.R_drew)); exact HO604.out) (Kd.R_base ho0) hb); have n3_ := Aside0.mk (Kd.R_lower (Kd.R_new' (Kd.R_new' (Kd.R_new' ho0 (Kd.R_lt (by (with_reducible repeat (first | apply Kd.R_alloc | apply Kd.R_drewN | apply Kd.R_drew)); exact HO_9.out))) (Kd.R_lt (by (with_reducible repeat (first | apply Kd.R_alloc | apply Kd.R_drewN | apply Kd.R_drew)); exact HO_11.out))) (Kd.R_lt (by (with_reducible repeat (first | apply Kd.R_alloc | apply Kd.R_drewN | apply Kd.R_drew)); exact HO604.out))) (below_size (by repeat (first | (with_reducible first | exact HB.out | apply below_alloc | apply pw_below_drewN | apply below_drew1) | exact HB.out)))); have n4_ := Aside0.mk (below_step (by repeat (first | (with_reducible first | exact HB.out | apply below_alloc | apply pw_below_drewN | apply below_drew1) | exact HB.out)) hb); clear HO_9; clear HO_11; clear HO604; clear HB; have HO_9 := n0_; have HO_11 := n1_; have HO604 := n2_; have HO608 := n3_; have HB := n4_; clear n0_ n1_ n2_ n3_ n4_; (try clear hb); (try clear hb2); (try clear hk); (try clear hi); (try clear ho0); obtain ⟨Ao37, co37, eo37⟩ := Kd.R_slice HO604.out; subst eo37; obtain ⟨Ao38, co38, eo38⟩ := Kd.R_slice HO608.out; subst eo38) | ((with_reducible refine gate_callee (f := 55) rfl ?_); refine goesL_ (some 89) rfl rfl Tryd.func55 (by kernel_rfl) rfl #[.slice Ao37 t601.length co37, .int .i64 t602, .slice Ao38 t605.length co38, .int .i64 t606] rfl (by (try simp only [List.map_toArray, List.map_cons, List.map_nil]); first | done | rfl | (simp only [List.length_drop, List.length_take]; rfl)) ?_; (with_reducible refine (law_same.calls kj24 _ _ t601 t602 _ _ t605 t606 true _ ?side1 ?side2 ?side3 ?side4 A31.out).mono ?_); (case side1 => repeat (first | exact (Kd.R_reads' HO604.out).2.2 | (with_reducible refine Kd.C_alloc ?_ _) | (with_reducible refine Kd.C_drewN ?_ _) | (with_reducible refine Kd.C_drew ?_))); (case side2 => exact (Kd.R_reads' HO604.out).2.1); (case side3 => repeat (first | exact (Kd.R_reads' HO608.out).2.2 | (with_reducible refine Kd.C_alloc ?_ _) | (with_reducible refine Kd.C_drewN ?_ _) | (with_reducible refine Kd.C_drew ?_))); (case side4 => exact (Kd.R_reads' HO608.out).2.1); rintro e w' ⟨rfl, ⟨nd, rfl⟩⟩; refine ⟨_, rfl, ?_⟩))
             go_meet
             case rel => exact ⟨_, H', ⟨by have := HJ6.out; have := HJ16.out; have := HJ24.out; first | omega | exact Nat.le_refl _⟩, ⟨by (with_reducible repeat (first | apply Kd.R_alloc | apply Kd.R_drewN | apply Kd.R_drew)); exact Kd.R_mono HO_9.out (fun _ hk => trivial)⟩, ⟨by repeat (first | (with_reducible first | exact HB.out | apply below_alloc | apply pw_below_drewN | apply below_drew1) | exact HB.out)⟩⟩
            ·
             replace c32 := Bool.eq_false_iff.mpr c32
             subst c32
             have H1 : (some false) = some r := by rw [if_neg (show ¬ (false = true) by decide)] at H; exact H
             clear H
             have H := H1
             clear H1
             obtain rfl := Option.some.inj H
             obtain ⟨Ao39, co39, eo39⟩ := Kd.R_slice HO_9.out
             subst eo39
             go_wp2_with (first | ((with_reducible refine gate_callee (f := 49) rfl ?_); refine goesL_ (some 76) rfl rfl Tryd.func49 (by kernel_rfl) rfl #[.slice Ao39 t593.length co39, .slice A2 l2.length c2] rfl (by (try simp only [List.map_toArray, List.map_cons, List.map_nil]); first | done | rfl | (simp only [List.length_drop, List.length_take]; rfl)) ?_; (with_reducible refine (curve_Join.calls _ _ t593 _ _ l2 t601 t602 _ ?side1 ?side2 ?side3 ?side4 A29.out).mono ?_); (case side1 => repeat (first | exact (Kd.R_reads' HO_9.out).2.2 | (with_reducible refine Kd.C_alloc ?_ _) | (with_reducible refine Kd.C_drewN ?_ _) | (with_reducible refine Kd.C_drew ?_))); (case side2 => exact (Kd.R_reads' HO_9.out).2.1); (case side3 => repeat (first | exact (Kd.C_below HR2.out HB.out) | (with_reducible refine Kd.C_alloc ?_ _) | (with_reducible refine Kd.C_drewN ?_ _) | (with_reducible refine Kd.C_drew ?_))); (case side4 => exact HC2.out); rintro e w40 ⟨v603, rfl, ho0, hb⟩; refine ⟨_, rfl, ?_⟩; have n0_ := Aside0.mk (Kd.R_elder' (by (with_reducible repeat (first | apply Kd.R_alloc | apply Kd.R_drewN | apply Kd.R_drew)); exact HO_9.out) (Kd.R_base ho0) hb); have n1_ := Aside0.mk (Kd.R_elder' (by (with_reducible repeat (first | apply Kd.R_alloc | apply Kd.R_drewN | apply Kd.R_drew)); exact HO_11.out) (Kd.R_base ho0) hb); have n2_ := Aside0.mk (Kd.R_lower (Kd.R_new' (Kd.R_new' ho0 (Kd.R_lt (by (with_reducible repeat (first | apply Kd.R_alloc | apply Kd.R_drewN | apply Kd.R_drew)); exact HO_9.out))) (Kd.R_lt (by (with_reducible repeat (first | apply Kd.R_alloc | apply Kd.R_drewN | apply Kd.R_drew)); exact HO_11.out))) (below_size (by repeat (first | (with_reducible first | exact HB.out | apply below_alloc | apply pw_below_drewN | apply below_drew1) | exact HB.out)))); have n3_ := Aside0.mk (below_step (by repeat (first | (with_reducible first | exact HB.out | apply below_alloc | apply pw_below_drewN | apply below_drew1) | exact HB.out)) hb); clear HO_9; clear HO_11; clear HB; have HO_9 := n0_; have HO_11 := n1_; have HO604 := n2_; have HB := n3_; clear n0_ n1_ n2_ n3_; (try clear hb); (try clear hb2); (try clear hk); (try clear hi); (try clear ho0); obtain ⟨Ao41, co41, eo41⟩ := Kd.R_slice HO_11.out; subst eo41) | ((with_reducible refine gate_callee (f := 49) rfl ?_); refine goesL_ (some 82) rfl rfl Tryd.func49 (by kernel_rfl) rfl #[.slice A0 l0.length c0, .slice Ao41 t597.length co41] rfl (by (try simp only [List.map_toArray, List.map_cons, List.map_nil]); first | done | rfl | (simp only [List.length_drop, List.length_take]; rfl)) ?_; (with_reducible refine (curve_Join.calls _ _ l0 _ _ t597 t605 t606 _ ?side1 ?side2 ?side3 ?side4 A30.out).mono ?_); (case side1 => repeat (first | exact (Kd.C_below HR0.out HB.out) | (with_reducible refine Kd.C_alloc ?_ _) | (with_reducible refine Kd.C_drewN ?_ _) | (with_reducible refine Kd.C_drew ?_))); (case side2 => exact HC0.out); (case side3 => repeat (first | exact (Kd.R_reads' HO_11.out).2.2 | (with_reducible refine Kd.C_alloc ?_ _) | (with_reducible refine Kd.C_drewN ?_ _) | (with_reducible refine Kd.C_drew ?_))); (case side4 => exact (Kd.R_reads' HO_11.out).2.1); rintro e w42 ⟨v607, rfl, ho0, hb⟩; refine ⟨_, rfl, ?_⟩; have n0_ := Aside0.mk (Kd.R_elder' (by (with_reducible repeat (first | apply Kd.R_alloc | apply Kd.R_drewN | apply Kd.R_drew)); exact HO_9.out) (Kd.R_base ho0) hb); have n1_ := Aside0.mk (Kd.R_elder' (by (with_reducible repeat (first | apply Kd.R_alloc | apply Kd.R_drewN | apply Kd.R_drew)); exact HO_11.out) (Kd.R_base ho0) hb); have n2_ := Aside0.mk (Kd.R_elder' (by (with_reducible repeat (first | apply Kd.R_alloc | apply Kd.R_drewN | apply Kd.R_drew)); exact HO604.out) (Kd.R_base ho0) hb); have n3_ := Aside0.mk (Kd.R_lower (Kd.R_new' (Kd.R_new' (Kd.R_new' ho0 (Kd.R_lt (by (with_reducible repeat (first | apply Kd.R_alloc | apply Kd.R_drewN | apply Kd.R_drew)); exact HO_9.out))) (Kd.R_lt (by (with_reducible repeat (first | apply Kd.R_alloc | apply Kd.R_drewN | apply Kd.R_drew)); exact HO_11.out))) (Kd.R_lt (by (with_reducible repeat (first | apply Kd.R_alloc | apply Kd.R_drewN | apply Kd.R_drew)); exact HO604.out))) (below_size (by repeat (first | (with_reducible first | exact HB.out | apply below_alloc | apply pw_below_drewN | apply below_drew1) | exact HB.out)))); have n4_ := Aside0.mk (below_step (by repeat (first | (with_reducible first | exact HB.out | apply below_alloc | apply pw_below_drewN | apply below_drew1) | exact HB.out)) hb); clear HO_9; clear HO_11; clear HO604; clear HB; have HO_9 := n0_; have HO_11 := n1_; have HO604 := n2_; have HO608 := n3_; have HB := n4_; clear n0_ n1_ n2_ n3_ n4_; (try clear hb); (try clear hb2); (try clear hk); (try clear hi); (try clear ho0); obtain ⟨Ao43, co43, eo43⟩ := Kd.R_slice HO604.out; subst eo43; obtain ⟨Ao44, co44, eo44⟩ := Kd.R_slice HO608.out; subst eo44) | ((with_reducible refine gate_callee (f := 55) rfl ?_); refine goesL_ (some 89) rfl rfl Tryd.func55 (by kernel_rfl) rfl #[.slice Ao43 t601.length co43, .int .i64 t602, .slice Ao44 t605.length co44, .int .i64 t606] rfl (by (try simp only [List.map_toArray, List.map_cons, List.map_nil]); first | done | rfl | (simp only [List.length_drop, List.length_take]; rfl)) ?_; (with_reducible refine (law_same.calls kj24 _ _ t601 t602 _ _ t605 t606 false _ ?side1 ?side2 ?side3 ?side4 A31.out).mono ?_); (case side1 => repeat (first | exact (Kd.R_reads' HO604.out).2.2 | (with_reducible refine Kd.C_alloc ?_ _) | (with_reducible refine Kd.C_drewN ?_ _) | (with_reducible refine Kd.C_drew ?_))); (case side2 => exact (Kd.R_reads' HO604.out).2.1); (case side3 => repeat (first | exact (Kd.R_reads' HO608.out).2.2 | (with_reducible refine Kd.C_alloc ?_ _) | (with_reducible refine Kd.C_drewN ?_ _) | (with_reducible refine Kd.C_drew ?_))); (case side4 => exact (Kd.R_reads' HO608.out).2.1); rintro e w' ⟨rfl, ⟨nd, rfl⟩⟩; refine ⟨_, rfl, ?_⟩))
             go_ret
             exact ⟨by first | rfl | (simp [errW_none, errW_some] <;> rfl) | (simp [*, errW_none, errW_some] <;> rfl), by repeat (first | (with_reducible first | exact HB.out | apply below_alloc | apply pw_below_drewN | apply below_drew1) | exact HB.out)⟩
           ·
            replace c28 := Bool.eq_false_iff.mpr c28
            subst c28
            have H1 : (law_CurveJoins.j3 kj24 l0 l1 a3 t593 t594) = some r := by rw [if_neg (show ¬ (false = true) by decide)] at H; exact H
            clear H
            have H := H1
            clear H1
            have H' := Aside0.mk H
            clear H
            go_wp2
            go_meet
            case rel => exact ⟨_, H', ⟨by have := HJ6.out; have := HJ16.out; have := HJ24.out; first | omega | exact Nat.le_refl _⟩, ⟨by (with_reducible repeat (first | apply Kd.R_alloc | apply Kd.R_drewN | apply Kd.R_drew)); exact Kd.R_mono HO_9.out (fun _ hk => trivial)⟩, ⟨by repeat (first | (with_reducible first | exact HB.out | apply below_alloc | apply pw_below_drewN | apply below_drew1) | exact HB.out)⟩⟩
          case rest => as_aux_lemma =>
           clear HC27
           try clear c1
           try clear c2
           try clear p2
           try clear c3
           try clear c4
           try clear c5
           try clear c6
           try clear c10
           try clear c12
           try clear c14
           try clear c18
           try clear c20
           try clear c20b0
           try clear c20b1
           try clear c21
           try clear c21b0
           try clear c21b1
           try clear c22
           try clear c22b0
           try clear c22b1
           try clear c23
           try clear c23b0
           try clear c23b1
           try clear c24
           try clear c26
           try clear c26b0
           try clear c26b1
           try clear c28
           try clear c32
           try clear c42
           try clear p2
           obtain ⟨kq, HA, HJ26, HO_9, HB⟩ := hcut
           cases kq with
           | zero => exact absurd HA.out (by simp [law_CurveJoins.j3])
           | succ kj26 =>
            have H := HA.out
            clear HA
            simp only [law_CurveJoins.j3] at H
            by_cases c45 : t594 = 0
            ·
             rw [if_pos c45] at H
             have c45b0 : (t594 == 0) = true := beq_iff_eq.mpr c45
             have c45b1 : (t594 != 0) = false := bne_eq_false_iff_eq.mpr c45
             clear c45
             replace H := Option.bind_eq_some_iff.mp H
             obtain ⟨t610, A460, H⟩ := H
             replace H : (if t610 = true then ((curve_Exact.f kj26 l0 a3).bind fun bt611 => ((curve_Exact.f kj26 t593 a3).bind fun bt615 => (if bt611.2.2 = 0 then (if bt615.2.2 = 0 then (law_CurveJoins.j4 kj26 l0 l1 a3 t593 (!(bt611.1 == bt615.1) || (!(bt611.2.1 == bt615.2.1)))) else (law_CurveJoins.j4 kj26 l0 l1 a3 t593 true)) else (law_CurveJoins.j4 kj26 l0 l1 a3 t593 true)))) else (law_CurveJoins.j5 kj26 l0 l1 a3 t593)) = some r := H
             have A46 := Aside0.mk A460
             clear A460
             have HC47 := Aside0.mk H
             clear H
             go_upto_if 95 with (first | ((with_reducible refine gate_callee (f := 43) rfl ?_); refine goesL_ (some 95) rfl rfl Tryd.func43 (by kernel_rfl) rfl #[.slice A0 l0.length c0, .int .i64 a3] rfl (by (try simp only [List.map_toArray, List.map_cons, List.map_nil]); first | done | rfl | (simp only [List.length_drop, List.length_take]; rfl)) ?_; (with_reducible refine (ref_In.calls _ _ l0 a3 t610 _ ?side1 ?side2 A46.out).mono ?_); (case side1 => repeat (first | exact (Kd.C_below HR0.out HB.out) | (with_reducible refine Kd.C_alloc ?_ _) | (with_reducible refine Kd.C_drewN ?_ _) | (with_reducible refine Kd.C_drew ?_))); (case side2 => exact HC0.out); rintro e w' ⟨rfl, ⟨nd, rfl⟩⟩; refine ⟨_, rfl, ?_⟩))
             (try simp only [Act.put, List.setIfInBounds_toArray, List.set_cons_zero, List.set_cons_succ])
             go_cut [] (fun wc => ∃ (kq : Nat), Aside0 (law_CurveJoins.j5 kq l0 l1 a3 t593 = some r) ∧ Aside0 (kq ≤ kj26) ∧ Aside0 (Kd.R k57 57 wc w.heap.size (fun _ => True) v595 t593) ∧ Aside0 (Below w.heap.size w wc))
             case first => as_aux_lemma =>
              have H := HC47.out
              clear HC47
              by_cases c48 : t610 = true
              ·
               subst c48
               have H1 : ((curve_Exact.f kj26 l0 a3).bind fun bt611 => ((curve_Exact.f kj26 t593 a3).bind fun bt615 => (if bt611.2.2 = 0 then (if bt615.2.2 = 0 then (law_CurveJoins.j4 kj26 l0 l1 a3 t593 (!(bt611.1 == bt615.1) || (!(bt611.2.1 == bt615.2.1)))) else (law_CurveJoins.j4 kj26 l0 l1 a3 t593 true)) else (law_CurveJoins.j4 kj26 l0 l1 a3 t593 true)))) = some r := by rw [if_pos rfl] at H; exact H
               clear H
               have H := H1
               clear H1
               replace H := Option.bind_eq_some_iff.mp H
               obtain ⟨⟨t611, t612, t613⟩, A490, H⟩ := H
               replace H : ((curve_Exact.f kj26 t593 a3).bind fun bt615 => (if t613 = 0 then (if bt615.2.2 = 0 then (law_CurveJoins.j4 kj26 l0 l1 a3 t593 (!(t611 == bt615.1) || (!(t612 == bt615.2.1)))) else (law_CurveJoins.j4 kj26 l0 l1 a3 t593 true)) else (law_CurveJoins.j4 kj26 l0 l1 a3 t593 true))) = some r := H
               have A49 := Aside0.mk A490
               clear A490
               replace H := Option.bind_eq_some_iff.mp H
               obtain ⟨⟨t615, t616, t617⟩, A500, H⟩ := H
               replace H : (if t613 = 0 then (if t617 = 0 then (law_CurveJoins.j4 kj26 l0 l1 a3 t593 (!(t611 == t615) || (!(t612 == t616)))) else (law_CurveJoins.j4 kj26 l0 l1 a3 t593 true)) else (law_CurveJoins.j4 kj26 l0 l1 a3 t593 true)) = some r := H
               have A50 := Aside0.mk A500
               clear A500
               have HC51 := Aside0.mk H
               clear H
               go_upto_region 19 with (first | ((with_reducible refine gate_callee (f := 22) rfl ?_); refine goesL_ (some 99) rfl rfl Tryd.func22 (by kernel_rfl) rfl #[.slice A0 l0.length c0, .int .i64 a3] rfl (by (try simp only [List.map_toArray, List.map_cons, List.map_nil]); first | done | rfl | (simp only [List.length_drop, List.length_take]; rfl)) ?_; (with_reducible refine (curve_Exact.calls kj26 _ _ l0 a3 t611 t612 t613 _ ?side1 ?side2 A49.out).mono ?_); (case side1 => repeat (first | exact (Kd.C_below HR0.out HB.out) | (with_reducible refine Kd.C_alloc ?_ _) | (with_reducible refine Kd.C_drewN ?_ _) | (with_reducible refine Kd.C_drew ?_))); (case side2 => exact HC0.out); rintro e w52 ⟨rfl, hb⟩; refine ⟨_, rfl, ?_⟩; have n0_ := Aside0.mk (Kd.R_below (by (with_reducible repeat (first | apply Kd.R_alloc | apply Kd.R_drewN | apply Kd.R_drew)); exact HO_9.out) hb); have n1_ := Aside0.mk (below_step (by repeat (first | (with_reducible first | exact HB.out | apply below_alloc | apply pw_below_drewN | apply below_drew1) | exact HB.out)) hb); clear HO_9; clear HB; have HO_9 := n0_; have HB := n1_; clear n0_ n1_; (try clear hb); (try clear hb2); (try clear hk); (try clear hi)) | ((with_reducible refine gate_dst (N := 17) rfl ?_); refine box_event ?hg (N := 17) ?hd (cs := #[.int .i64 0, .int .i64 0]) (t := 25) ?hr ?_; (case hd => rfl); (case hg => rfl); (case hr => first | (go_simp; done) | (go_simp; rfl)); intro gb614 hg w53 hbox hb; have n0_ := Aside0.mk (Kd.R_below (by (with_reducible repeat (first | apply Kd.R_alloc | apply Kd.R_drewN | apply Kd.R_drew)); exact HO_9.out) hb); have n1_ := Aside0.mk (below_step (by repeat (first | (with_reducible first | exact HB.out | apply below_alloc | apply pw_below_drewN | apply below_drew1) | exact HB.out)) hb); have n2_ := Aside0.mk (hbox); have n3_ := Aside0.mk ((by rw [hg]; exact (below_size (by repeat (first | (with_reducible first | exact HB.out | apply below_alloc | apply pw_below_drewN | apply below_drew1) | exact HB.out))) : w.heap.size ≤ gb614)); have n4_ := Aside0.mk ((by rw [hg]; exact (below_size (by repeat (first | (with_reducible first | exact HB.out | apply below_alloc | apply pw_below_drewN | apply below_drew1) | exact HB.out))) : w.heap.size ≤ gb614)); clear HO_9; clear HB; have HO_9 := n0_; have HB := n1_; have BK614 := n2_; have GW614 := n3_; have GE614 := n4_; clear n0_ n1_ n2_ n3_ n4_; clear hb hbox hg; have hcz54_0 : w53.cell? ⟨gb614, 0, none⟩ = some (.int .i64 0) := (blk_cell BK614.out 0).trans rfl; have hcz54_1 : w53.cell? ⟨gb614, 1, none⟩ = some (.int .i64 0) := (blk_cell BK614.out 1).trans rfl; have hfz54_0 := blk_frozen BK614.out 0; have hfz54_1 := blk_frozen BK614.out 1; obtain ⟨Ao55, co55, eo55⟩ := Kd.R_slice HO_9.out; subst eo55) | ((with_reducible refine gate_callee (f := 22) rfl ?_); refine goesL_ (some 105) rfl rfl Tryd.func22 (by kernel_rfl) rfl #[.slice Ao55 t593.length co55, .int .i64 a3] rfl (by (try simp only [List.map_toArray, List.map_cons, List.map_nil]); first | done | rfl | (simp only [List.length_drop, List.length_take]; rfl)) ?_; (with_reducible refine (curve_Exact.calls kj26 _ _ t593 a3 t615 t616 t617 _ ?side1 ?side2 A50.out).mono ?_); (case side1 => refine (Kd.R_reads' (e := 57) (base := w.heap.size) (ok := fun k_ => True) (n := t593.length) (c := co55) ?_).2.2; exact (by (with_reducible repeat (first | apply Kd.R_alloc | apply Kd.R_drewN | apply Kd.R_drew)); exact (Kd.R_mono (Kd.R_far (p := ⟨gb614, 1, none⟩) (Kd.R_far (p := ⟨gb614, 0, none⟩) (Kd.R_types HO_9.out BK614.out (by decide)) (fun _ hk => hk.2) (.int .i64 t611)) (fun _ hk => hk.2) (.int .i64 t612)) (fun _ h_ => h_.1)))); (case side2 => exact (Kd.R_reads' HO_9.out).2.1); rintro e w56 ⟨rfl, hb⟩; refine ⟨_, rfl, ?_⟩; have n0_ := Aside0.mk (Kd.R_below (by (with_reducible repeat (first | apply Kd.R_alloc | apply Kd.R_drewN | apply Kd.R_drew)); exact (Kd.R_mono (Kd.R_far (p := ⟨gb614, 1, none⟩) (Kd.R_far (p := ⟨gb614, 0, none⟩) (Kd.R_types HO_9.out BK614.out (by decide)) (fun _ hk => hk.2) (.int .i64 t611)) (fun _ hk => hk.2) (.int .i64 t612)) (fun _ h_ => h_.1))) hb); have n1_ := Aside0.mk (blk_below (g := gb614) (o := .cells #[.int .i64 t611, .int .i64 t612] 25 (0, 0)) (by (with_reducible repeat (first | refine blk_drewN ?_ _ | refine blk_drew ?_ | refine blk_alloc ?_ _)); refine blk_put (cs := #[.int .i64 t611, .int .i64 0]) ?_ 1 _ rfl; (with_reducible repeat (first | refine blk_drewN ?_ _ | refine blk_drew ?_ | refine blk_alloc ?_ _)); refine blk_put (cs := #[.int .i64 0, .int .i64 0]) ?_ 0 _ rfl; (with_reducible repeat (first | refine blk_drewN ?_ _ | refine blk_drew ?_ | refine blk_alloc ?_ _)); exact BK614.out) hb); have n2_ := Aside0.mk (below_step (by repeat (first | (with_reducible first | exact HB.out | apply below_alloc | apply pw_below_drewN | apply below_drew1 | refine below_set ?_ GE614.out) | exact HB.out)) hb); clear HO_9; clear BK614; clear HB; have HO_9 := n0_; have BK614 := n1_; have HB := n2_; clear n0_ n1_ n2_; (try clear hb); (try clear hb2); (try clear hk); (try clear hi)) | ((with_reducible refine gate_dst (N := 19) rfl ?_); refine box_event ?hg (N := 19) ?hd (cs := #[.int .i64 0, .int .i64 0]) (t := 25) ?hr ?_; (case hd => rfl); (case hg => rfl); (case hr => first | (go_simp; done) | (go_simp; rfl)); intro gb618 hg w57 hbox hb; have n0_ := Aside0.mk (Kd.R_below (by (with_reducible repeat (first | apply Kd.R_alloc | apply Kd.R_drewN | apply Kd.R_drew)); exact HO_9.out) hb); have n1_ := Aside0.mk (blk_below (g := gb614) (o := .cells #[.int .i64 t611, .int .i64 t612] 25 (0, 0)) (by (with_reducible repeat (first | refine blk_drewN ?_ _ | refine blk_drew ?_ | refine blk_alloc ?_ _)); exact BK614.out) hb); have n2_ := Aside0.mk (below_step (by repeat (first | (with_reducible first | exact HB.out | apply below_alloc | apply pw_below_drewN | apply below_drew1 | refine below_set ?_ GE614.out) | exact HB.out)) hb); have n3_ := Aside0.mk (hbox); have n4_ := Aside0.mk ((by rw [hg]; exact (below_size (by repeat (first | (with_reducible first | exact HB.out | apply below_alloc | apply pw_below_drewN | apply below_drew1 | refine below_set ?_ GE614.out) | exact HB.out))) : w.heap.size ≤ gb618)); have n5_ := Aside0.mk ((by rw [hg]; exact (below_size (by repeat (first | (with_reducible first | exact HB.out | apply below_alloc | apply pw_below_drewN | apply below_drew1 | refine below_set ?_ GE614.out) | exact HB.out))) : w.heap.size ≤ gb618)); have n6_ := Aside0.mk ((by rw [hg]; exact Nat.ne_of_lt (blk_lt (g := gb614) (o := .cells #[.int .i64 t611, .int .i64 t612] 25 (0, 0)) (by (with_reducible repeat (first | refine blk_drewN ?_ _ | refine blk_drew ?_ | refine blk_alloc ?_ _)); exact BK614.out)) : gb614 ≠ gb618)); have n7_ := Aside0.mk ((by rw [hg]; exact Nat.ne_of_gt (blk_lt (g := gb614) (o := .cells #[.int .i64 t611, .int .i64 t612] 25 (0, 0)) (by (with_reducible repeat (first | refine blk_drewN ?_ _ | refine blk_drew ?_ | refine blk_alloc ?_ _)); exact BK614.out)) : gb618 ≠ gb614)); clear HO_9; clear BK614; clear HB; have HO_9 := n0_; have BK614 := n1_; have HB := n2_; have BK618 := n3_; have GW618 := n4_; have GE618 := n5_; have NB614_618 := n6_; have NB618_614 := n7_; clear n0_ n1_ n2_ n3_ n4_ n5_ n6_ n7_; clear hb hbox hg; have hnb58 := NB618_614.out; have hnc58 := NB614_618.out; have hcz59_0 : w57.cell? ⟨gb618, 0, none⟩ = some (.int .i64 0) := (blk_cell BK618.out 0).trans rfl; have hcz59_1 : w57.cell? ⟨gb618, 1, none⟩ = some (.int .i64 0) := (blk_cell BK618.out 1).trans rfl; have hfz59_0 := blk_frozen BK618.out 0; have hfz59_1 := blk_frozen BK618.out 1))
               (try simp only [Act.put, List.setIfInBounds_toArray, List.set_cons_zero, List.set_cons_succ])
               go_cut [118] (fun v118 wc => ∃ (kq : Nat) (x118_50 : Bool), v118 = .bool x118_50 ∧ Aside0 (law_CurveJoins.j4 kq l0 l1 a3 t593 x118_50 = some r) ∧ Aside0 (kq ≤ kj26) ∧ Aside0 (Kd.R k57 57 wc w.heap.size (fun _ => True) (.slice Ao55 t593.length co55) t593) ∧ Aside0 (wc.heap[gb614]? = some (.cells #[.int .i64 t611, .int .i64 t612] 25 (0, 0))) ∧ Aside0 (wc.heap[gb618]? = some (.cells #[.int .i64 t615, .int .i64 t616] 25 (0, 0))) ∧ Aside0 (Below w.heap.size w wc))
               case first => as_aux_lemma =>
                have H := HC51.out
                clear HC51
                by_cases c60 : t613 = 0
                ·
                 rw [if_pos c60] at H
                 have c60b0 : (t613 == 0) = true := beq_iff_eq.mpr c60
                 have c60b1 : (t613 != 0) = false := bne_eq_false_iff_eq.mpr c60
                 clear c60
                 (first | rw [c60b0] | (simp only [i64_w, i32_w]; rw [c60b0]) | skip)
                 by_cases c61 : t617 = 0
                 ·
                  rw [if_pos c61] at H
                  have c61b0 : (t617 == 0) = true := beq_iff_eq.mpr c61
                  have c61b1 : (t617 != 0) = false := bne_eq_false_iff_eq.mpr c61
                  clear c61
                  have H' := Aside0.mk H
                  clear H
                  have hnb62 := NB614_618.out
                  have hnc62 := NB618_614.out
                  have hcz63_0 : w57.cell? ⟨gb614, 0, none⟩ = some (.int .i64 t611) := (blk_cell BK614.out 0).trans rfl
                  have hcz63_1 : w57.cell? ⟨gb614, 1, none⟩ = some (.int .i64 t612) := (blk_cell BK614.out 1).trans rfl
                  have hfz63_0 := blk_frozen BK614.out 0
                  have hfz63_1 := blk_frozen BK614.out 1
                  have hcz64_0 : w57.cell? ⟨gb618, 0, none⟩ = some (.int .i64 0) := (blk_cell BK618.out 0).trans rfl
                  have hcz64_1 : w57.cell? ⟨gb618, 1, none⟩ = some (.int .i64 0) := (blk_cell BK618.out 1).trans rfl
                  have hfz64_0 := blk_frozen BK618.out 0
                  have hfz64_1 := blk_frozen BK618.out 1
                  go_wp2
                  go_meet
                  case rel => exact ⟨_, ((!(t611 == t615) || (!(t612 == t616)))), (by first | rfl | (simp; done) | (simp [*]; done)), H', ⟨by have := HJ6.out; have := HJ16.out; have := HJ24.out; have := HJ26.out; first | omega | exact Nat.le_refl _⟩, ⟨by (with_reducible repeat (first | apply Kd.R_alloc | apply Kd.R_drewN | apply Kd.R_drew)); exact Kd.R_mono (Kd.R_far (p := ⟨gb618, 1, none⟩) (Kd.R_far (p := ⟨gb618, 0, none⟩) (Kd.R_types HO_9.out BK618.out (by decide)) (fun _ hk => hk.2) (.int .i64 t615)) (fun _ hk => hk.2) (.int .i64 t616)) (fun _ hk => trivial)⟩, ⟨by (with_reducible repeat (first | refine blk_drewN ?_ _ | refine blk_drew ?_ | refine blk_alloc ?_ _)); refine blk_far ?_ NB614_618.out _; (with_reducible repeat (first | refine blk_drewN ?_ _ | refine blk_drew ?_ | refine blk_alloc ?_ _)); refine blk_far ?_ NB614_618.out _; (with_reducible repeat (first | refine blk_drewN ?_ _ | refine blk_drew ?_ | refine blk_alloc ?_ _)); exact BK614.out⟩, ⟨by (with_reducible repeat (first | refine blk_drewN ?_ _ | refine blk_drew ?_ | refine blk_alloc ?_ _)); refine blk_put (cs := #[.int .i64 t615, .int .i64 0]) ?_ 1 _ rfl; (with_reducible repeat (first | refine blk_drewN ?_ _ | refine blk_drew ?_ | refine blk_alloc ?_ _)); refine blk_put (cs := #[.int .i64 0, .int .i64 0]) ?_ 0 _ rfl; (with_reducible repeat (first | refine blk_drewN ?_ _ | refine blk_drew ?_ | refine blk_alloc ?_ _)); exact BK618.out⟩, ⟨by repeat (first | (with_reducible first | exact HB.out | apply below_alloc | apply pw_below_drewN | apply below_drew1 | refine below_set ?_ GE614.out | refine below_set ?_ GE618.out) | exact HB.out)⟩⟩
                 ·
                  rw [if_neg c61] at H
                  have c61b0 : (t617 == 0) = false := beq_eq_false_iff_ne.mpr c61
                  have c61b1 : (t617 != 0) = true := bne_iff_ne.mpr c61
                  have H' := Aside0.mk H
                  clear H
                  go_wp2
                  go_meet
                  case rel => exact ⟨_, (true), (by first | rfl | (simp; done) | (simp [*]; done)), H', ⟨by have := HJ6.out; have := HJ16.out; have := HJ24.out; have := HJ26.out; first | omega | exact Nat.le_refl _⟩, ⟨by (with_reducible repeat (first | apply Kd.R_alloc | apply Kd.R_drewN | apply Kd.R_drew)); exact Kd.R_mono (Kd.R_far (p := ⟨gb618, 1, none⟩) (Kd.R_far (p := ⟨gb618, 0, none⟩) (Kd.R_types HO_9.out BK618.out (by decide)) (fun _ hk => hk.2) (.int .i64 t615)) (fun _ hk => hk.2) (.int .i64 t616)) (fun _ hk => trivial)⟩, ⟨by (with_reducible repeat (first | refine blk_drewN ?_ _ | refine blk_drew ?_ | refine blk_alloc ?_ _)); refine blk_far ?_ NB614_618.out _; (with_reducible repeat (first | refine blk_drewN ?_ _ | refine blk_drew ?_ | refine blk_alloc ?_ _)); refine blk_far ?_ NB614_618.out _; (with_reducible repeat (first | refine blk_drewN ?_ _ | refine blk_drew ?_ | refine blk_alloc ?_ _)); exact BK614.out⟩, ⟨by (with_reducible repeat (first | refine blk_drewN ?_ _ | refine blk_drew ?_ | refine blk_alloc ?_ _)); refine blk_put (cs := #[.int .i64 t615, .int .i64 0]) ?_ 1 _ rfl; (with_reducible repeat (first | refine blk_drewN ?_ _ | refine blk_drew ?_ | refine blk_alloc ?_ _)); refine blk_put (cs := #[.int .i64 0, .int .i64 0]) ?_ 0 _ rfl; (with_reducible repeat (first | refine blk_drewN ?_ _ | refine blk_drew ?_ | refine blk_alloc ?_ _)); exact BK618.out⟩, ⟨by repeat (first | (with_reducible first | exact HB.out | apply below_alloc | apply pw_below_drewN | apply below_drew1 | refine below_set ?_ GE614.out | refine below_set ?_ GE618.out) | exact HB.out)⟩⟩
                ·
                 rw [if_neg c60] at H
                 have c60b0 : (t613 == 0) = false := beq_eq_false_iff_ne.mpr c60
                 have c60b1 : (t613 != 0) = true := bne_iff_ne.mpr c60
                 (first | rw [c60b0] | (simp only [i64_w, i32_w]; rw [c60b0]) | skip)
                 have H' := Aside0.mk H
                 clear H
                 go_wp2
                 go_meet
                 case rel => exact ⟨_, (true), (by first | rfl | (simp; done) | (simp [*]; done)), H', ⟨by have := HJ6.out; have := HJ16.out; have := HJ24.out; have := HJ26.out; first | omega | exact Nat.le_refl _⟩, ⟨by (with_reducible repeat (first | apply Kd.R_alloc | apply Kd.R_drewN | apply Kd.R_drew)); exact Kd.R_mono (Kd.R_far (p := ⟨gb618, 1, none⟩) (Kd.R_far (p := ⟨gb618, 0, none⟩) (Kd.R_types HO_9.out BK618.out (by decide)) (fun _ hk => hk.2) (.int .i64 t615)) (fun _ hk => hk.2) (.int .i64 t616)) (fun _ hk => trivial)⟩, ⟨by (with_reducible repeat (first | refine blk_drewN ?_ _ | refine blk_drew ?_ | refine blk_alloc ?_ _)); refine blk_far ?_ NB614_618.out _; (with_reducible repeat (first | refine blk_drewN ?_ _ | refine blk_drew ?_ | refine blk_alloc ?_ _)); refine blk_far ?_ NB614_618.out _; (with_reducible repeat (first | refine blk_drewN ?_ _ | refine blk_drew ?_ | refine blk_alloc ?_ _)); exact BK614.out⟩, ⟨by (with_reducible repeat (first | refine blk_drewN ?_ _ | refine blk_drew ?_ | refine blk_alloc ?_ _)); refine blk_put (cs := #[.int .i64 t615, .int .i64 0]) ?_ 1 _ rfl; (with_reducible repeat (first | refine blk_drewN ?_ _ | refine blk_drew ?_ | refine blk_alloc ?_ _)); refine blk_put (cs := #[.int .i64 0, .int .i64 0]) ?_ 0 _ rfl; (with_reducible repeat (first | refine blk_drewN ?_ _ | refine blk_drew ?_ | refine blk_alloc ?_ _)); exact BK618.out⟩, ⟨by repeat (first | (with_reducible first | exact HB.out | apply below_alloc | apply pw_below_drewN | apply below_drew1 | refine below_set ?_ GE614.out | refine below_set ?_ GE618.out) | exact HB.out)⟩⟩
               case rest => as_aux_lemma =>
                clear HC51
                try clear c1
                try clear c2
                try clear p2
                try clear c3
                try clear c4
                try clear c5
                try clear c6
                try clear c10
                try clear c12
                try clear c14
                try clear c18
                try clear c20
                try clear c20b0
                try clear c20b1
                try clear c21
                try clear c21b0
                try clear c21b1
                try clear c22
                try clear c22b0
                try clear c22b1
                try clear c23
                try clear c23b0
                try clear c23b1
                try clear c24
                try clear c26
                try clear c26b0
                try clear c26b1
                try clear c28
                try clear c32
                try clear c42
                try clear c43
                try clear c45
                try clear c45b0
                try clear c45b1
                try clear c48
                try clear c49
                try clear c55
                try clear c58
                try clear c60
                try clear c60b0
                try clear c60b1
                try clear c61
                try clear c61b0
                try clear c61b1
                try clear c62
                try clear hcz54_0
                try clear hcz54_1
                try clear hcz59_0
                try clear hcz59_1
                try clear hcz63_0
                try clear hcz63_1
                try clear hcz64_0
                try clear hcz64_1
                try clear hfz54_0
                try clear hfz54_1
                try clear hfz59_0
                try clear hfz59_1
                try clear hfz63_0
                try clear hfz63_1
                try clear hfz64_0
                try clear hfz64_1
                try clear p2
                obtain ⟨kq, x118_50, rfl, HA, HJ50, HO_9, BK614, BK618, HB⟩ := hcut
                cases kq with
                | zero => exact absurd HA.out (by simp [law_CurveJoins.j4])
                | succ kj50 =>
                 have H := HA.out
                 clear HA
                 simp only [law_CurveJoins.j4] at H
                 by_cases c65 : x118_50 = true
                 ·
                  subst c65
                  have H1 : (some false) = some r := by rw [if_pos rfl] at H; exact H
                  clear H
                  have H := H1
                  clear H1
                  obtain rfl := Option.some.inj H
                  go_wp2
                  go_ret
                  exact ⟨by first | rfl | (simp [errW_none, errW_some] <;> rfl) | (simp [*, errW_none, errW_some] <;> rfl), by repeat (first | (with_reducible first | exact HB.out | apply below_alloc | apply pw_below_drewN | apply below_drew1 | refine below_set ?_ GE614.out | refine below_set ?_ GE618.out) | exact HB.out)⟩
                 ·
                  replace c65 := Bool.eq_false_iff.mpr c65
                  subst c65
                  have H1 : (law_CurveJoins.j5 kj50 l0 l1 a3 t593) = some r := by rw [if_neg (show ¬ (false = true) by decide)] at H; exact H
                  clear H
                  have H := H1
                  clear H1
                  have H' := Aside0.mk H
                  clear H
                  go_wp2
                  go_meet
                  case rel => exact ⟨_, H', ⟨by have := HJ6.out; have := HJ16.out; have := HJ24.out; have := HJ26.out; have := HJ50.out; first | omega | exact Nat.le_refl _⟩, ⟨by (with_reducible repeat (first | apply Kd.R_alloc | apply Kd.R_drewN | apply Kd.R_drew)); exact HO_9.out⟩, ⟨by repeat (first | (with_reducible first | exact HB.out | apply below_alloc | apply pw_below_drewN | apply below_drew1 | refine below_set ?_ GE614.out | refine below_set ?_ GE618.out) | exact HB.out)⟩⟩
              ·
               replace c48 := Bool.eq_false_iff.mpr c48
               subst c48
               have H1 : (law_CurveJoins.j5 kj26 l0 l1 a3 t593) = some r := by rw [if_neg (show ¬ (false = true) by decide)] at H; exact H
               clear H
               have H := H1
               clear H1
               have H' := Aside0.mk H
               clear H
               go_wp2
               go_meet
               case rel => exact ⟨_, H', ⟨by have := HJ6.out; have := HJ16.out; have := HJ24.out; have := HJ26.out; first | omega | exact Nat.le_refl _⟩, ⟨by (with_reducible repeat (first | apply Kd.R_alloc | apply Kd.R_drewN | apply Kd.R_drew)); exact HO_9.out⟩, ⟨by repeat (first | (with_reducible first | exact HB.out | apply below_alloc | apply pw_below_drewN | apply below_drew1) | exact HB.out)⟩⟩
             case rest => as_aux_lemma =>
              clear HC47
              try clear c1
              try clear c2
              try clear p2
              try clear c3
              try clear c4
              try clear c5
              try clear c6
              try clear c10
              try clear c12
              try clear c14
              try clear c18
              try clear c20
              try clear c20b0
              try clear c20b1
              try clear c21
              try clear c21b0
              try clear c21b1
              try clear c22
              try clear c22b0
              try clear c22b1
              try clear c23
              try clear c23b0
              try clear c23b1
              try clear c24
              try clear c26
              try clear c26b0
              try clear c26b1
              try clear c28
              try clear c32
              try clear c42
              try clear c43
              try clear c45
              try clear c45b0
              try clear c45b1
              try clear c48
              try clear c49
              try clear c55
              try clear c58
              try clear c60
              try clear c60b0
              try clear c60b1
              try clear c61
              try clear c61b0
              try clear c61b1
              try clear c62
              try clear c65
              try clear hcz54_0
              try clear hcz54_1
              try clear hcz59_0
              try clear hcz59_1
              try clear hcz63_0
              try clear hcz63_1
              try clear hcz64_0
              try clear hcz64_1
              try clear hfz54_0
              try clear hfz54_1
              try clear hfz59_0
              try clear hfz59_1
              try clear hfz63_0
              try clear hfz63_1
              try clear hfz64_0
              try clear hfz64_1
              try clear p2
              obtain ⟨kq, HA, HJ46, HO_9, HB⟩ := hcut
              cases kq with
              | zero => exact absurd HA.out (by simp [law_CurveJoins.j5])
              | succ kj46 =>
               have H := HA.out
               clear HA
               simp only [law_CurveJoins.j5] at H
               replace H := Option.bind_eq_some_iff.mp H
               obtain ⟨t619, A660, H⟩ := H
               replace H : (if t619 = true then (if 0 ≤ (wrap64 ((l0.length : Int) - 1)) then (if (wrap64 ((l0.length : Int) - 1)) < (l0.length : Int) then ((curve_Exact.f kj46 l1 a3).bind fun bt622 => (if 0 < (l1.length : Int) then ((curve_Exact.f kj46 t593 (wrap64 ((wrap64 (((rd_T57 l0 (wrap64 ((l0.length : Int) - 1))).f0) + a3)) - ((rd_T57 l1 0).f0)))).bind fun bt627 => (if bt622.2.2 = 0 then (if bt627.2.2 = 0 then (if bt622.2.1 = bt627.2.1 then (law_CurveJoins.j6 kj46 (bt627.1 != (wrap64 (bt622.1 + (wrap64 ((wrap64 (((rd_T57 l0 (wrap64 ((l0.length : Int) - 1))).f1) - ((rd_T57 l1 0).f1))) * bt622.2.1)))))) else (law_CurveJoins.j6 kj46 true)) else (law_CurveJoins.j6 kj46 true)) else (law_CurveJoins.j6 kj46 true))) else (none))) else (none)) else (none)) else (some true)) = some r := H
               have A66 := Aside0.mk A660
               clear A660
               by_cases c67 : t619 = true
               ·
                subst c67
                have H1 : (if 0 ≤ (wrap64 ((l0.length : Int) - 1)) then (if (wrap64 ((l0.length : Int) - 1)) < (l0.length : Int) then ((curve_Exact.f kj46 l1 a3).bind fun bt622 => (if 0 < (l1.length : Int) then ((curve_Exact.f kj46 t593 (wrap64 ((wrap64 (((rd_T57 l0 (wrap64 ((l0.length : Int) - 1))).f0) + a3)) - ((rd_T57 l1 0).f0)))).bind fun bt627 => (if bt622.2.2 = 0 then (if bt627.2.2 = 0 then (if bt622.2.1 = bt627.2.1 then (law_CurveJoins.j6 kj46 (bt627.1 != (wrap64 (bt622.1 + (wrap64 ((wrap64 (((rd_T57 l0 (wrap64 ((l0.length : Int) - 1))).f1) - ((rd_T57 l1 0).f1))) * bt622.2.1)))))) else (law_CurveJoins.j6 kj46 true)) else (law_CurveJoins.j6 kj46 true)) else (law_CurveJoins.j6 kj46 true))) else (none))) else (none)) else (none)) = some r := by rw [if_pos rfl] at H; exact H
                clear H
                have H := H1
                clear H1
                obtain ⟨ji68, hji68⟩ : ∃ j_ : Int, (wrap64 ((l0.length : Int) - 1)) = j_ := ⟨_, rfl⟩
                replace H : (if 0 ≤ (ji68) then (if (ji68) < (l0.length : Int) then ((curve_Exact.f kj46 l1 a3).bind fun bt622 => (if 0 < (l1.length : Int) then ((curve_Exact.f kj46 t593 (wrap64 ((wrap64 (((rd_T57 l0 (ji68)).f0) + a3)) - ((rd_T57 l1 0).f0)))).bind fun bt627 => (if bt622.2.2 = 0 then (if bt627.2.2 = 0 then (if bt622.2.1 = bt627.2.1 then (law_CurveJoins.j6 kj46 (bt627.1 != (wrap64 (bt622.1 + (wrap64 ((wrap64 (((rd_T57 l0 (ji68)).f1) - ((rd_T57 l1 0).f1))) * bt622.2.1)))))) else (law_CurveJoins.j6 kj46 true)) else (law_CurveJoins.j6 kj46 true)) else (law_CurveJoins.j6 kj46 true))) else (none))) else (none)) else (none)) = some r := by first | (rw [hji68] at H; exact H) | (simp only [hji68] at H ⊢; exact H)
                (try rw [hji68] at A66)
                have hji68w : (IntKind.i64.wrap ((l0.length : Int) - 1)) = ji68 := (i64_w _).trans hji68
                by_cases c69 : 0 ≤ (ji68)
                ·
                 rw [if_pos c69] at H
                 have c69b0 : decide (0 ≤ (ji68)) = true := decide_eq_true c69
                 clear c69
                 by_cases c70 : (ji68) < (l0.length : Int)
                 ·
                  rw [if_pos c70] at H
                  have c70b0 : decide ((ji68) < (l0.length : Int)) = true := decide_eq_true c70
                  clear c70
                  replace H := Option.bind_eq_some_iff.mp H
                  obtain ⟨⟨t622, t623, t624⟩, A710, H⟩ := H
                  replace H : (if 0 < (l1.length : Int) then ((curve_Exact.f kj46 t593 (wrap64 ((wrap64 (((rd_T57 l0 (ji68)).f0) + a3)) - ((rd_T57 l1 0).f0)))).bind fun bt627 => (if t624 = 0 then (if bt627.2.2 = 0 then (if t623 = bt627.2.1 then (law_CurveJoins.j6 kj46 (bt627.1 != (wrap64 (t622 + (wrap64 ((wrap64 (((rd_T57 l0 (ji68)).f1) - ((rd_T57 l1 0).f1))) * t623)))))) else (law_CurveJoins.j6 kj46 true)) else (law_CurveJoins.j6 kj46 true)) else (law_CurveJoins.j6 kj46 true))) else (none)) = some r := H
                  have A71 := Aside0.mk A710
                  clear A710
                  by_cases c72 : 0 < (l1.length : Int)
                  ·
                   rw [if_pos c72] at H
                   have c72b0 : decide (0 < (l1.length : Int)) = true := decide_eq_true c72
                   have c72b1 : decide (0 < l1.length) = true := decide_eq_true (by omega)
                   clear c72
                   replace H := Option.bind_eq_some_iff.mp H
                   obtain ⟨⟨t627, t628, t629⟩, A730, H⟩ := H
                   replace H : (if t624 = 0 then (if t629 = 0 then (if t623 = t628 then (law_CurveJoins.j6 kj46 (t627 != (wrap64 (t622 + (wrap64 ((wrap64 (((rd_T57 l0 (ji68)).f1) - ((rd_T57 l1 0).f1))) * t623)))))) else (law_CurveJoins.j6 kj46 true)) else (law_CurveJoins.j6 kj46 true)) else (law_CurveJoins.j6 kj46 true)) = some r := H
                   have A73 := Aside0.mk A730
                   clear A730
                   have HC74 := Aside0.mk H
                   clear H
                   try go_wp2_with (first | ((with_reducible refine gate_callee (f := 43) rfl ?_); refine goesL_ (some 121) rfl rfl Tryd.func43 (by kernel_rfl) rfl #[.slice A1 l1.length c1, .int .i64 a3] rfl (by (try simp only [List.map_toArray, List.map_cons, List.map_nil]); first | done | rfl | (simp only [List.length_drop, List.length_take]; rfl)) ?_; (with_reducible refine (ref_In.calls _ _ l1 a3 true _ ?side1 ?side2 A66.out).mono ?_); (case side1 => repeat (first | exact (Kd.C_below HR1.out HB.out) | (with_reducible refine Kd.C_alloc ?_ _) | (with_reducible refine Kd.C_drewN ?_ _) | (with_reducible refine Kd.C_drew ?_))); (case side2 => exact HC1.out); rintro e w' ⟨rfl, ⟨nd, rfl⟩⟩; refine ⟨_, rfl, ?_⟩; (try (rw [drewN_self wc]; generalize hq_ : World.drewN wc _ = wc; have n0_ : Aside0 (Kd.R k57 57 wc w.heap.size (fun _ => True) v595 t593) := ⟨by rw [← hq_]; exact (by (with_reducible repeat (first | apply Kd.R_alloc | apply Kd.R_drewN | apply Kd.R_drew)); exact HO_9.out)⟩; have n1_ : Aside0 (Below w.heap.size w wc) := ⟨by rw [← hq_]; exact (by repeat (first | (with_reducible first | exact HB.out | apply below_alloc | apply pw_below_drewN | apply below_drew1) | exact HB.out))⟩; clear HO_9 HB hq_; have HO_9 := n0_; have HB := n1_; clear n0_ n1_)); have p620 : 0 ≤ ((ji68) : Int) := of_decide_eq_true (by first | (with_reducible assumption) | assumption); have q620 : (ji68) < (l0.length : Int) := of_decide_eq_true (by first | (with_reducible assumption) | assumption); obtain ⟨ad620, e620, hx620_0, hx620_1⟩ := at_T57 HR0.out (ji68) p620 q620; cases e620; replace hx620_0 := (HB.out.cell (World.block_lt_of_cell? w _ hx620_0)).trans hx620_0; replace hx620_1 := (HB.out.cell (World.block_lt_of_cell? w _ hx620_1)).trans hx620_1; replace p620 := eq_true p620; replace q620 := eq_true q620) | ((with_reducible refine gate_dst (N := 21) rfl ?_); refine box_event ?hg (N := 21) ?hd (cs := #[.int .i64 0, .int .i64 0]) (t := 57) ?hr ?_; (case hd => rfl); (case hg => rfl); (case hr => first | (go_simp; done) | (go_simp; rfl)); intro gb621 hg w75 hbox hb; have n0_ := Aside0.mk (Kd.R_below (Kd.R_elderB (by (with_reducible repeat (first | apply Kd.R_alloc | apply Kd.R_drewN | apply Kd.R_drew)); exact HO_9.out) gb621 (Nat.le_of_eq hg.symm)) hb); have n1_ := Aside0.mk (below_step (by repeat (first | (with_reducible first | exact HB.out | apply below_alloc | apply pw_below_drewN | apply below_drew1) | exact HB.out)) hb); have n2_ := Aside0.mk (hbox); have n3_ := Aside0.mk ((by rw [hg]; exact (below_size (by repeat (first | (with_reducible first | exact HB.out | apply below_alloc | apply pw_below_drewN | apply below_drew1) | exact HB.out))) : w.heap.size ≤ gb621)); have n4_ := Aside0.mk ((by rw [hg]; exact (below_size (by repeat (first | (with_reducible first | exact HB.out | apply below_alloc | apply pw_below_drewN | apply below_drew1) | exact HB.out))) : w.heap.size ≤ gb621)); clear HO_9; clear HB; have HO_9 := n0_; have HB := n1_; have BK621 := n2_; have GW621 := n3_; have GE621 := n4_; clear n0_ n1_ n2_ n3_ n4_; clear hb hbox hg; have hcz76_0 : w75.cell? ⟨gb621, 0, none⟩ = some (.int .i64 0) := (blk_cell BK621.out 0).trans rfl; have hcz76_1 : w75.cell? ⟨gb621, 1, none⟩ = some (.int .i64 0) := (blk_cell BK621.out 1).trans rfl; have hfz76_0 := blk_frozen BK621.out 0; have hfz76_1 := blk_frozen BK621.out 1) | ((with_reducible refine gate_callee (f := 22) rfl ?_); refine goesL_ (some 131) rfl rfl Tryd.func22 (by kernel_rfl) rfl #[.slice A1 l1.length c1, .int .i64 a3] rfl (by (try simp only [List.map_toArray, List.map_cons, List.map_nil]); first | done | rfl | (simp only [List.length_drop, List.length_take]; rfl)) ?_; (with_reducible refine (curve_Exact.calls kj46 _ _ l1 a3 t622 t623 t624 _ ?side1 ?side2 A71.out).mono ?_); (case side1 => exact Kd.C_below HR1.out (by repeat (first | (with_reducible first | exact HB.out | apply below_alloc | apply pw_below_drewN | apply below_drew1 | refine below_set ?_ GE621.out) | exact HB.out))); (case side2 => exact HC1.out); rintro e w77 ⟨rfl, hb⟩; refine ⟨_, rfl, ?_⟩; have n0_ := Aside0.mk (Kd.R_below (by (with_reducible repeat (first | apply Kd.R_alloc | apply Kd.R_drewN | apply Kd.R_drew)); exact (Kd.R_mono (Kd.R_far (p := ⟨gb621, 1, none⟩) (Kd.R_far (p := ⟨gb621, 0, none⟩) (Kd.R_mono HO_9.out (fun k_ hk => (⟨hk, hk.2⟩ : _ ∧ k_ ≠ gb621))) (fun _ hk => hk.2) (.int .i64 ((rd_T57 l0 (ji68)).f0))) (fun _ hk => hk.2) (.int .i64 ((rd_T57 l0 (ji68)).f1))) (fun _ h_ => h_.1))) hb); have n1_ := Aside0.mk (blk_below (g := gb621) (o := .cells #[.int .i64 ((rd_T57 l0 (ji68)).f0), .int .i64 ((rd_T57 l0 (ji68)).f1)] 57 (0, 0)) (by (with_reducible repeat (first | refine blk_drewN ?_ _ | refine blk_drew ?_ | refine blk_alloc ?_ _)); refine blk_put (cs := #[.int .i64 ((rd_T57 l0 (ji68)).f0), .int .i64 0]) ?_ 1 _ rfl; (with_reducible repeat (first | refine blk_drewN ?_ _ | refine blk_drew ?_ | refine blk_alloc ?_ _)); refine blk_put (cs := #[.int .i64 0, .int .i64 0]) ?_ 0 _ rfl; (with_reducible repeat (first | refine blk_drewN ?_ _ | refine blk_drew ?_ | refine blk_alloc ?_ _)); exact BK621.out) hb); have n2_ := Aside0.mk (below_step (by repeat (first | (with_reducible first | exact HB.out | apply below_alloc | apply pw_below_drewN | apply below_drew1 | refine below_set ?_ GE621.out) | exact HB.out)) hb); clear HO_9; clear BK621; clear HB; have HO_9 := n0_; have BK621 := n1_; have HB := n2_; clear n0_ n1_ n2_; (try clear hb); (try clear hb2); (try clear hk); (try clear hi)) | ((with_reducible refine gate_dst (N := 22) rfl ?_); refine box_event ?hg (N := 22) ?hd (cs := #[.int .i64 0, .int .i64 0]) (t := 25) ?hr ?_; (case hd => rfl); (case hg => rfl); (case hr => first | (go_simp; done) | (go_simp; rfl)); intro gb625 hg w78 hbox hb; have n0_ := Aside0.mk (Kd.R_below (by (with_reducible repeat (first | apply Kd.R_alloc | apply Kd.R_drewN | apply Kd.R_drew)); exact HO_9.out) hb); have n1_ := Aside0.mk (blk_below (g := gb621) (o := .cells #[.int .i64 ((rd_T57 l0 (ji68)).f0), .int .i64 ((rd_T57 l0 (ji68)).f1)] 57 (0, 0)) (by (with_reducible repeat (first | refine blk_drewN ?_ _ | refine blk_drew ?_ | refine blk_alloc ?_ _)); exact BK621.out) hb); have n2_ := Aside0.mk (below_step (by repeat (first | (with_reducible first | exact HB.out | apply below_alloc | apply pw_below_drewN | apply below_drew1 | refine below_set ?_ GE621.out) | exact HB.out)) hb); have n3_ := Aside0.mk (hbox); have n4_ := Aside0.mk ((by rw [hg]; exact (below_size (by repeat (first | (with_reducible first | exact HB.out | apply below_alloc | apply pw_below_drewN | apply below_drew1 | refine below_set ?_ GE621.out) | exact HB.out))) : w.heap.size ≤ gb625)); have n5_ := Aside0.mk ((by rw [hg]; exact (below_size (by repeat (first | (with_reducible first | exact HB.out | apply below_alloc | apply pw_below_drewN | apply below_drew1 | refine below_set ?_ GE621.out) | exact HB.out))) : w.heap.size ≤ gb625)); have n6_ := Aside0.mk ((by rw [hg]; exact Nat.ne_of_lt (blk_lt (g := gb621) (o := .cells #[.int .i64 ((rd_T57 l0 (ji68)).f0), .int .i64 ((rd_T57 l0 (ji68)).f1)] 57 (0, 0)) (by (with_reducible repeat (first | refine blk_drewN ?_ _ | refine blk_drew ?_ | refine blk_alloc ?_ _)); exact BK621.out)) : gb621 ≠ gb625)); have n7_ := Aside0.mk ((by rw [hg]; exact Nat.ne_of_gt (blk_lt (g := gb621) (o := .cells #[.int .i64 ((rd_T57 l0 (ji68)).f0), .int .i64 ((rd_T57 l0 (ji68)).f1)] 57 (0, 0)) (by (with_reducible repeat (first | refine blk_drewN ?_ _ | refine blk_drew ?_ | refine blk_alloc ?_ _)); exact BK621.out)) : gb625 ≠ gb621)); clear HO_9; clear BK621; clear HB; have HO_9 := n0_; have BK621 := n1_; have HB := n2_; have BK625 := n3_; have GW625 := n4_; have GE625 := n5_; have NB621_625 := n6_; have NB625_621 := n7_; clear n0_ n1_ n2_ n3_ n4_ n5_ n6_ n7_; clear hb hbox hg; have hnb79 := NB625_621.out; have hnc79 := NB621_625.out; have hcz80_0 : w78.cell? ⟨gb625, 0, none⟩ = some (.int .i64 0) := (blk_cell BK625.out 0).trans rfl; have hcz80_1 : w78.cell? ⟨gb625, 1, none⟩ = some (.int .i64 0) := (blk_cell BK625.out 1).trans rfl; have hfz80_0 := blk_frozen BK625.out 0; have hfz80_1 := blk_frozen BK625.out 1; obtain ⟨Ao81, co81, eo81⟩ := Kd.R_slice HO_9.out; subst eo81))
                   have n0_ : Aside0 (Kd.R k57 57 ((w78.setCell ⟨gb625, 0, none⟩ (.int .i64 t622)).setCell ⟨gb625, 1, none⟩ (.int .i64 t623)) w.heap.size (fun k_ => k_ ≠ gb621) (.slice Ao81 t593.length co81) t593) := ⟨by (with_reducible repeat (first | apply Kd.R_alloc | apply Kd.R_drewN | apply Kd.R_drew)); exact Kd.R_mono (Kd.R_far (p := ⟨gb625, 1, none⟩) (Kd.R_far (p := ⟨gb625, 0, none⟩) (Kd.R_types HO_9.out BK625.out (by decide)) (fun _ hk => hk.2) (.int .i64 t622)) (fun _ hk => hk.2) (.int .i64 t623)) (fun _ hk => hk.1.2)⟩
                   have n1_ : Aside0 (((w78.setCell ⟨gb625, 0, none⟩ (.int .i64 t622)).setCell ⟨gb625, 1, none⟩ (.int .i64 t623)).heap[gb621]? = some (.cells #[.int .i64 ((rd_T57 l0 (ji68)).f0), .int .i64 ((rd_T57 l0 (ji68)).f1)] 57 (0, 0))) := ⟨by (with_reducible repeat (first | refine blk_drewN ?_ _ | refine blk_drew ?_ | refine blk_alloc ?_ _)); refine blk_far ?_ NB621_625.out _; (with_reducible repeat (first | refine blk_drewN ?_ _ | refine blk_drew ?_ | refine blk_alloc ?_ _)); refine blk_far ?_ NB621_625.out _; (with_reducible repeat (first | refine blk_drewN ?_ _ | refine blk_drew ?_ | refine blk_alloc ?_ _)); exact BK621.out⟩
                   have n2_ : Aside0 (((w78.setCell ⟨gb625, 0, none⟩ (.int .i64 t622)).setCell ⟨gb625, 1, none⟩ (.int .i64 t623)).heap[gb625]? = some (.cells #[.int .i64 t622, .int .i64 t623] 25 (0, 0))) := ⟨by (with_reducible repeat (first | refine blk_drewN ?_ _ | refine blk_drew ?_ | refine blk_alloc ?_ _)); refine blk_put (cs := #[.int .i64 t622, .int .i64 0]) ?_ 1 _ rfl; (with_reducible repeat (first | refine blk_drewN ?_ _ | refine blk_drew ?_ | refine blk_alloc ?_ _)); refine blk_put (cs := #[.int .i64 0, .int .i64 0]) ?_ 0 _ rfl; (with_reducible repeat (first | refine blk_drewN ?_ _ | refine blk_drew ?_ | refine blk_alloc ?_ _)); exact BK625.out⟩
                   have n3_ : Aside0 (Below w.heap.size w ((w78.setCell ⟨gb625, 0, none⟩ (.int .i64 t622)).setCell ⟨gb625, 1, none⟩ (.int .i64 t623))) := ⟨by repeat (first | (with_reducible first | exact HB.out | apply below_alloc | apply pw_below_drewN | apply below_drew1 | refine below_set ?_ GE621.out | refine below_set ?_ GE625.out) | exact HB.out)⟩
                   (try clear HO_9)
                   (try clear BK621)
                   (try clear BK625)
                   (try clear HB)
                   generalize ((w78.setCell ⟨gb625, 0, none⟩ (.int .i64 t622)).setCell ⟨gb625, 1, none⟩ (.int .i64 t623)) = w82 at n0_ n1_ n2_ n3_ ⊢
                   have HO_9 := n0_
                   have BK621 := n1_
                   have BK625 := n2_
                   have HB := n3_
                   clear n0_ n1_ n2_ n3_
                   have n0_ := Aside0.mk (Kd.R_drew HO_9.out)
                   have n1_ := Aside0.mk (blk_drew BK621.out)
                   have n2_ := Aside0.mk (blk_drew BK625.out)
                   have n3_ := Aside0.mk (below_drew1 HB.out)
                   clear HO_9
                   clear BK621
                   clear BK625
                   clear HB
                   have HO_9 := n0_
                   have BK621 := n1_
                   have BK625 := n2_
                   have HB := n3_
                   clear n0_ n1_ n2_ n3_
                   have p626 : 0 ≤ (0 : Int) := (by omega)
                   have q626 : 0 < (l1.length : Int) := of_decide_eq_true (by first | (with_reducible assumption) | assumption)
                   obtain ⟨ad626, e626, hx626_0, hx626_1⟩ := at_T57 HR1.out 0 p626 q626
                   have hw626_1 := hx626_1
                   (try rw [show ((0 : Int)).toNat = 0 from rfl] at hw626_1)
                   (try rw [show 0 * 2 = 0 from rfl] at hw626_1)
                   (try rw [Addr.add_zero'] at hw626_1)
                   have hw626_0 := hx626_0
                   (try rw [show ((0 : Int)).toNat = 0 from rfl] at hw626_0)
                   (try rw [show 0 * 2 = 0 from rfl] at hw626_0)
                   (try rw [Addr.add_zero'] at hw626_0)
                   cases e626
                   have qi626 : (0 < l1.length) = True := eq_true (by omega)
                   (try rw [show ((0 : Int)).toNat = 0 from rfl] at hx626_0)
                   (try rw [show 0 * 2 = 0 from rfl] at hx626_0)
                   (try rw [Addr.add_zero'] at hx626_0)
                   (try rw [show ((0 : Int)).toNat = 0 from rfl] at hx626_1)
                   (try rw [show 0 * 2 = 0 from rfl] at hx626_1)
                   (try rw [Addr.add_zero'] at hx626_1)
                   replace hx626_0 := (HB.out.cell (World.block_lt_of_cell? w _ hx626_0)).trans hx626_0
                   replace hx626_1 := (HB.out.cell (World.block_lt_of_cell? w _ hx626_1)).trans hx626_1
                   replace p626 := eq_true p626
                   replace q626 := eq_true q626
                   refine start_ (n := 17) (S := fun w' => w'.cell? ⟨gb621, 0, none⟩ = some (.int .i64 ((rd_T57 l0 (ji68)).f0)) ∧ w'.cell? ⟨gb621, 1, none⟩ = some (.int .i64 ((rd_T57 l0 (ji68)).f1)) ∧ w'.cell? ad626 = some (.int .i64 ((rd_T57 l1 0).f0)) ∧ w'.cell? ⟨ad626.block, ad626.off + 1, none⟩ = some (.int .i64 ((rd_T57 l1 0).f1))) (ds := []) #[false, false, false, false, false, false, false, false, false, false, false, false, false, false, false, false, false] (by kernel_rfl) rfl rfl ⟨(blk_cell BK621.out 0).trans rfl, (blk_cell BK621.out 1).trans rfl, ((HB.out.cell (World.block_lt_of_cell? w _ hw626_0)).trans hw626_0), ((HB.out.cell (World.block_lt_of_cell? w _ hw626_1)).trans hw626_1)⟩ (fun hHeld => ?_); refine with_tabW law_CurveJoins.tab24 law_CurveJoins.bits24 (fun HT_ HW_ => ?_)
                   generalize w82.drew = w83 at HO_9 BK621 BK625 HB hx626_0 hx626_1 hHeld ⊢
                   refine pure_ (i := 0) (N := some 135) (v := ?_) (a' := ?_) #[true, false, false, false, false, false, false, false, false, false, false, false, false, false, false, false, false] rfl rfl (any_of HT_.out (by kernel_rfl)) (fun _ _ _ h => h) (Or.inl ⟨by rfl, ?_⟩) ?_ ?_
                   rotate_left
                   ·
                    intro w'
                    go_simp
                    with_reducible rfl
                   rotate_left
                   ·
                    simp only [Act.put, List.setIfInBounds_toArray, List.set_cons_zero, List.set_cons_succ, i64_w, i32_w]
                    rfl
                   refine pure_ (i := 1) (N := some 136) (v := ?_) (a' := ?_) #[true, true, false, false, false, false, false, false, false, false, false, false, false, false, false, false, false] rfl rfl (any_of HT_.out (by kernel_rfl)) (fun _ _ _ h => h) (Or.inl ⟨by rfl, ?_⟩) ?_ ?_
                   rotate_left
                   ·
                    intro w'
                    go_simp
                    with_reducible rfl
                   rotate_left
                   ·
                    simp only [Act.put, List.setIfInBounds_toArray, List.set_cons_zero, List.set_cons_succ, i64_w, i32_w]
                    rfl
                   refine pure_ (i := 3) (N := some 138) (v := ?_) (a' := ?_) #[true, true, false, true, false, false, false, false, false, false, false, false, false, false, false, false, false] rfl rfl (any_of HT_.out (by kernel_rfl)) (fun _ _ _ h => h) (Or.inl ⟨by rfl, ?_⟩) ?_ ?_
                   rotate_left
                   ·
                    intro w'
                    go_simp
                    with_reducible rfl
                   rotate_left
                   ·
                    simp only [Act.put, List.setIfInBounds_toArray, List.set_cons_zero, List.set_cons_succ, i64_w, i32_w]
                    rfl
                   refine pure_ (i := 5) (N := some 140) (v := ?_) (a' := ?_) #[true, true, false, true, false, true, false, false, false, false, false, false, false, false, false, false, false] rfl rfl (any_of HT_.out (by kernel_rfl)) (fun _ _ _ h => h) (Or.inl ⟨by rfl, ?_⟩) ?_ ?_
                   rotate_left
                   ·
                    intro w'
                    go_simp
                    with_reducible rfl
                   rotate_left
                   ·
                    simp only [Act.put, List.setIfInBounds_toArray, List.set_cons_zero, List.set_cons_succ, i64_w, i32_w]
                    rfl
                   refine pure_ (i := 6) (N := some 141) (v := ?_) (a' := ?_) #[true, true, false, true, false, true, true, false, false, false, false, false, false, false, false, false, false] rfl rfl (any_of HT_.out (by kernel_rfl)) (fun _ _ _ h => h) (Or.inl ⟨by rfl, ?_⟩) ?_ ?_
                   rotate_left
                   ·
                    intro w'
                    go_simp
                    with_reducible rfl
                   rotate_left
                   ·
                    simp only [Act.put, List.setIfInBounds_toArray, List.set_cons_zero, List.set_cons_succ, i64_w, i32_w]
                    rfl
                   refine pure_ (i := 7) (N := some 142) (v := ?_) (a' := ?_) #[true, true, false, true, false, true, true, true, false, false, false, false, false, false, false, false, false] rfl rfl (any_of HT_.out (by kernel_rfl)) (fun _ _ _ h => h) (Or.inl ⟨by rfl, ?_⟩) ?_ ?_
                   rotate_left
                   ·
                    intro w'
                    go_simp
                    with_reducible rfl
                   rotate_left
                   ·
                    simp only [Act.put, List.setIfInBounds_toArray, List.set_cons_zero, List.set_cons_succ, i64_w, i32_w]
                    rfl
                   refine take_ (i := 2) (N := some 137) (v := ?_) (a' := ?_) #[true, true, true, true, false, true, true, true, false, false, false, false, false, false, false, false, false] rfl rfl (take_ofW HT_.out HW_.out (by kernel_rfl)) (fun _ _ _ h => h) (Or.inl ⟨by rfl, ?_⟩) hHeld ?_ ?_
                   rotate_left
                   ·
                    rintro w' ⟨s0, s1, s2, s3⟩
                    go_simp
                    with_reducible rfl
                   rotate_left
                   ·
                    simp only [Act.put, List.setIfInBounds_toArray, List.set_cons_zero, List.set_cons_succ, i64_w, i32_w]
                    rfl
                   refine pure_ (i := 4) (N := some 139) (v := ?_) (a' := ?_) #[true, true, true, true, true, true, true, true, false, false, false, false, false, false, false, false, false] rfl rfl (any_of HT_.out (by kernel_rfl)) (fun _ _ _ h => h) (Or.inl ⟨by rfl, ?_⟩) ?_ ?_
                   rotate_left
                   ·
                    intro w'
                    go_simp
                    with_reducible rfl
                   rotate_left
                   ·
                    simp only [Act.put, List.setIfInBounds_toArray, List.set_cons_zero, List.set_cons_succ, i64_w, i32_w]
                    rfl
                   refine take_ (i := 8) (N := some 143) (v := ?_) (a' := ?_) #[true, true, true, true, true, true, true, true, true, false, false, false, false, false, false, false, false] rfl rfl (take_ofW HT_.out HW_.out (by kernel_rfl)) (fun _ _ _ h => h) (Or.inl ⟨by rfl, ?_⟩) hHeld ?_ ?_
                   rotate_left
                   ·
                    rintro w' ⟨s0, s1, s2, s3⟩
                    go_simp
                    with_reducible rfl
                   rotate_left
                   ·
                    simp only [Act.put, List.setIfInBounds_toArray, List.set_cons_zero, List.set_cons_succ, i64_w, i32_w]
                    rfl
                   refine pure_ (i := 9) (N := some 144) (v := ?_) (a' := ?_) #[true, true, true, true, true, true, true, true, true, true, false, false, false, false, false, false, false] rfl rfl (any_of HT_.out (by kernel_rfl)) (fun _ _ _ h => h) (Or.inl ⟨by rfl, ?_⟩) ?_ ?_
                   rotate_left
                   ·
                    intro w'
                    go_simp
                    with_reducible rfl
                   rotate_left
                   ·
                    simp only [Act.put, List.setIfInBounds_toArray, List.set_cons_zero, List.set_cons_succ, i64_w, i32_w]
                    rfl
                   refine join_ (σ := Nat) 2 #[true, true, true, true, true, true, true, true, true, true, true, true, true, true, true, false, false] (fun s_ => [(145, .tuple #[.agg #[.int .i64 t627, .int .i64 t628], .int .i64 t629]), (24, .pointer (some ⟨s_, 0, none⟩)), (134, .tuple #[.agg #[.int .i64 t627, .int .i64 t628], .int .i64 t629]), (146, .agg #[.int .i64 t627, .int .i64 t628]), (147, .int .i64 t629)]) (fun s_ w' => (w'.cell? ⟨gb621, 0, none⟩ = some (.int .i64 ((rd_T57 l0 (ji68)).f0)) ∧ w'.cell? ⟨gb621, 1, none⟩ = some (.int .i64 ((rd_T57 l0 (ji68)).f1)) ∧ w'.cell? ad626 = some (.int .i64 ((rd_T57 l1 0).f0)) ∧ w'.cell? ⟨ad626.block, ad626.off + 1, none⟩ = some (.int .i64 ((rd_T57 l1 0).f1))) ∧ (Kd.R k57 57 w' w.heap.size (fun k_ => k_ ≠ gb621) (.slice Ao81 t593.length co81) t593) ∧ (w'.heap[gb621]? = some (.cells #[.int .i64 ((rd_T57 l0 (ji68)).f0), .int .i64 ((rd_T57 l0 (ji68)).f1)] 57 (0, 0))) ∧ (w'.heap[gb625]? = some (.cells #[.int .i64 t622, .int .i64 t623] 25 (0, 0))) ∧ (w'.heap[s_]? = some (.cells #[.int .i64 0, .int .i64 0] 25 (0, 0))) ∧ (w.heap.size ≤ s_) ∧ (w.heap.size ≤ s_) ∧ (gb621 ≠ s_) ∧ (s_ ≠ gb621) ∧ (gb625 ≠ s_) ∧ (s_ ≠ gb625) ∧ (Below w.heap.size w w')) ?_ ?_
                   rotate_left
                   ·
                    intro hCont
                    refine two_ (i := 10) (j := 14) (Ni := some 145) (Nj := some 24) #[true, true, true, true, true, true, true, true, true, true, true, false, false, false, false, false, false] #[true, true, true, true, true, true, true, true, true, true, false, false, false, false, true, false, false] rfl rfl rfl rfl (two_of HT_.out (by kernel_rfl)) (by decide) (by decide) (fun K hK => ?_) (fun K hK => ?_)
                    ·
                     skip
                     refine goes_ Tryd.func22 (by kernel_rfl) rfl #[.slice Ao81 t593.length co81, .int .i64 (wrap64 ((wrap64 (((rd_T57 l0 (ji68)).f0) + a3)) - ((rd_T57 l1 0).f0)))] (by rfl) rfl rfl (by (try simp only [List.map_toArray, List.map_cons, List.map_nil]); first | done | (simp only [hji68]; rfl) | rfl | (simp only [List.length_drop, List.length_take]; rfl)) ?_
                     with_reducible refine (curve_Exact.calls kj46 _ _ t593 (wrap64 ((wrap64 (((rd_T57 l0 (ji68)).f0) + a3)) - ((rd_T57 l1 0).f0))) t627 t628 t629 _ ?side1 ?side2 A73.out).mono ?_
                     (case side1 => repeat (first | exact (Kd.R_reads' HO_9.out).2.2 | (with_reducible refine Kd.C_alloc ?_ _) | (with_reducible refine Kd.C_drewN ?_ _) | (with_reducible refine Kd.C_drew ?_)))
                     (case side2 => exact (Kd.R_reads' HO_9.out).2.1)
                     rintro e w84 ⟨rfl, hb⟩
                     refine ⟨_, rfl, ?_⟩
                     have n0_ := Aside0.mk (Kd.R_below (by (with_reducible repeat (first | apply Kd.R_alloc | apply Kd.R_drewN | apply Kd.R_drew)); exact HO_9.out) hb)
                     have n1_ := Aside0.mk (blk_below (g := gb621) (o := .cells #[.int .i64 ((rd_T57 l0 (ji68)).f0), .int .i64 ((rd_T57 l0 (ji68)).f1)] 57 (0, 0)) (by (with_reducible repeat (first | refine blk_drewN ?_ _ | refine blk_drew ?_ | refine blk_alloc ?_ _)); exact BK621.out) hb)
                     have n2_ := Aside0.mk (blk_below (g := gb625) (o := .cells #[.int .i64 t622, .int .i64 t623] 25 (0, 0)) (by (with_reducible repeat (first | refine blk_drewN ?_ _ | refine blk_drew ?_ | refine blk_alloc ?_ _)); exact BK625.out) hb)
                     have n3_ := Aside0.mk (below_step (by repeat (first | (with_reducible first | exact HB.out | apply below_alloc | apply pw_below_drewN | apply below_drew1 | refine below_set ?_ GE621.out | refine below_set ?_ GE625.out) | exact HB.out)) hb)
                     clear HO_9
                     clear BK621
                     clear BK625
                     clear HB
                     have HO_9 := n0_
                     have BK621 := n1_
                     have BK625 := n2_
                     have HB := n3_
                     clear n0_ n1_ n2_ n3_
                     (try clear hb)
                     (try clear hb2)
                     (try clear hk)
                     (try clear hi)
                     refine hK.out _ _ ⟨(blk_cell BK621.out 0).trans rfl, (blk_cell BK621.out 1).trans rfl, ((HB.out.cell (World.block_lt_of_cell? w _ hw626_0)).trans hw626_0), ((HB.out.cell (World.block_lt_of_cell? w _ hw626_1)).trans hw626_1)⟩ (fun hHeld => ?_)
                     clear hK K
                     refine norm_ (a' := ?_) ?_ ?_
                     rotate_left
                     ·
                      show Act.put _ (some 145) _ = _
                      simp only [Act.put, List.setIfInBounds_toArray, List.set_cons_zero, List.set_cons_succ, i64_w, i32_w]
                      rfl
                     refine pure_ (i := 11) (N := some 134) (v := ?_) (a' := ?_) #[true, true, true, true, true, true, true, true, true, true, true, true, false, false, false, false, false] rfl rfl (any_of HT_.out (by kernel_rfl)) (fun _ _ _ h => h) (Or.inl ⟨by rfl, ?_⟩) ?_ ?_
                     rotate_left
                     ·
                      intro w'
                      go_simp
                      with_reducible rfl
                     rotate_left
                     ·
                      simp only [Act.put, List.setIfInBounds_toArray, List.set_cons_zero, List.set_cons_succ, i64_w, i32_w]
                      rfl
                     refine pure_ (i := 12) (N := some 146) (v := ?_) (a' := ?_) #[true, true, true, true, true, true, true, true, true, true, true, true, true, false, false, false, false] rfl rfl (any_of HT_.out (by kernel_rfl)) (fun _ _ _ h => h) (Or.inl ⟨by rfl, ?_⟩) ?_ ?_
                     rotate_left
                     ·
                      intro w'
                      go_simp
                      with_reducible rfl
                     rotate_left
                     ·
                      simp only [Act.put, List.setIfInBounds_toArray, List.set_cons_zero, List.set_cons_succ, i64_w, i32_w]
                      rfl
                     refine pure_ (i := 13) (N := some 147) (v := ?_) (a' := ?_) #[true, true, true, true, true, true, true, true, true, true, true, true, true, true, false, false, false] rfl rfl (any_of HT_.out (by kernel_rfl)) (fun _ _ _ h => h) (Or.inl ⟨by rfl, ?_⟩) ?_ ?_
                     rotate_left
                     ·
                      intro w'
                      go_simp
                      with_reducible rfl
                     rotate_left
                     ·
                      simp only [Act.put, List.setIfInBounds_toArray, List.set_cons_zero, List.set_cons_succ, i64_w, i32_w]
                      rfl
                     refine one_ (i := 14) (N := some 24) #[true, true, true, true, true, true, true, true, true, true, true, true, true, true, true, false, false] rfl rfl (one_of HT_.out (by kernel_rfl)) (by decide) (fun K hK => ?_)
                     refine box_step ?hg (N := 24) ?hd (cs := #[.int .i64 0, .int .i64 0]) (t := 25) ?hr ?_; (case hd => rfl); (case hg => rfl); (case hr => first | (go_simp; done) | (go_simp; rfl))
                     intro gb630 hg w85 hbox hb
                     have n0_ := Aside0.mk (Kd.R_below (by (with_reducible repeat (first | apply Kd.R_alloc | apply Kd.R_drewN | apply Kd.R_drew)); exact HO_9.out) hb)
                     have n1_ := Aside0.mk (blk_below (g := gb621) (o := .cells #[.int .i64 ((rd_T57 l0 (ji68)).f0), .int .i64 ((rd_T57 l0 (ji68)).f1)] 57 (0, 0)) (by (with_reducible repeat (first | refine blk_drewN ?_ _ | refine blk_drew ?_ | refine blk_alloc ?_ _)); exact BK621.out) hb)
                     have n2_ := Aside0.mk (blk_below (g := gb625) (o := .cells #[.int .i64 t622, .int .i64 t623] 25 (0, 0)) (by (with_reducible repeat (first | refine blk_drewN ?_ _ | refine blk_drew ?_ | refine blk_alloc ?_ _)); exact BK625.out) hb)
                     have n3_ := Aside0.mk (below_step (by repeat (first | (with_reducible first | exact HB.out | apply below_alloc | apply pw_below_drewN | apply below_drew1 | refine below_set ?_ GE621.out | refine below_set ?_ GE625.out) | exact HB.out)) hb)
                     have n4_ := Aside0.mk (hbox)
                     have n5_ := Aside0.mk ((by rw [hg]; exact (below_size (by repeat (first | (with_reducible first | exact HB.out | apply below_alloc | apply pw_below_drewN | apply below_drew1 | refine below_set ?_ GE621.out | refine below_set ?_ GE625.out) | exact HB.out))) : w.heap.size ≤ gb630))
                     have n6_ := Aside0.mk ((by rw [hg]; exact (below_size (by repeat (first | (with_reducible first | exact HB.out | apply below_alloc | apply pw_below_drewN | apply below_drew1 | refine below_set ?_ GE621.out | refine below_set ?_ GE625.out) | exact HB.out))) : w.heap.size ≤ gb630))
                     have n7_ := Aside0.mk ((by rw [hg]; exact Nat.ne_of_lt (blk_lt (g := gb621) (o := .cells #[.int .i64 ((rd_T57 l0 (ji68)).f0), .int .i64 ((rd_T57 l0 (ji68)).f1)] 57 (0, 0)) (by (with_reducible repeat (first | refine blk_drewN ?_ _ | refine blk_drew ?_ | refine blk_alloc ?_ _)); exact BK621.out)) : gb621 ≠ gb630))
                     have n8_ := Aside0.mk ((by rw [hg]; exact Nat.ne_of_gt (blk_lt (g := gb621) (o := .cells #[.int .i64 ((rd_T57 l0 (ji68)).f0), .int .i64 ((rd_T57 l0 (ji68)).f1)] 57 (0, 0)) (by (with_reducible repeat (first | refine blk_drewN ?_ _ | refine blk_drew ?_ | refine blk_alloc ?_ _)); exact BK621.out)) : gb630 ≠ gb621))
                     have n9_ := Aside0.mk ((by rw [hg]; exact Nat.ne_of_lt (blk_lt (g := gb625) (o := .cells #[.int .i64 t622, .int .i64 t623] 25 (0, 0)) (by (with_reducible repeat (first | refine blk_drewN ?_ _ | refine blk_drew ?_ | refine blk_alloc ?_ _)); exact BK625.out)) : gb625 ≠ gb630))
                     have n10_ := Aside0.mk ((by rw [hg]; exact Nat.ne_of_gt (blk_lt (g := gb625) (o := .cells #[.int .i64 t622, .int .i64 t623] 25 (0, 0)) (by (with_reducible repeat (first | refine blk_drewN ?_ _ | refine blk_drew ?_ | refine blk_alloc ?_ _)); exact BK625.out)) : gb630 ≠ gb625))
                     clear HO_9
                     clear BK621
                     clear BK625
                     clear HB
                     have HO_9 := n0_
                     have BK621 := n1_
                     have BK625 := n2_
                     have HB := n3_
                     have BK630 := n4_
                     have GW630 := n5_
                     have GE630 := n6_
                     have NB621_630 := n7_
                     have NB630_621 := n8_
                     have NB625_630 := n9_
                     have NB630_625 := n10_
                     clear n0_ n1_ n2_ n3_ n4_ n5_ n6_ n7_ n8_ n9_ n10_
                     clear hb hbox hg
                     refine hK.out _ _ ⟨(blk_cell BK621.out 0).trans rfl, (blk_cell BK621.out 1).trans rfl, ((HB.out.cell (World.block_lt_of_cell? w _ hw626_0)).trans hw626_0), ((HB.out.cell (World.block_lt_of_cell? w _ hw626_1)).trans hw626_1)⟩ (fun hHeld => ?_)
                     clear hK K
                     refine norm_ (a' := ?_) ?_ ?_
                     rotate_left
                     ·
                      show Act.put _ (some 24) _ = _
                      simp only [Act.put, List.setIfInBounds_toArray, List.set_cons_zero, List.set_cons_succ, i64_w, i32_w]
                      rfl
                     exact norm_ (by simp only [putAll, Act.put, List.setIfInBounds_toArray, List.set_cons_zero, List.set_cons_succ]) (hCont (gb630) _ ⟨hHeld, (by (with_reducible repeat (first | apply Kd.R_alloc | apply Kd.R_drewN | apply Kd.R_drew)); exact HO_9.out), (by (with_reducible repeat (first | refine blk_drewN ?_ _ | refine blk_drew ?_ | refine blk_alloc ?_ _)); exact BK621.out), (by (with_reducible repeat (first | refine blk_drewN ?_ _ | refine blk_drew ?_ | refine blk_alloc ?_ _)); exact BK625.out), (by (with_reducible repeat (first | refine blk_drewN ?_ _ | refine blk_drew ?_ | refine blk_alloc ?_ _)); exact BK630.out), GW630.out, GE630.out, NB621_630.out, NB630_621.out, NB625_630.out, NB630_625.out, (by repeat (first | (with_reducible first | exact HB.out | apply below_alloc | apply pw_below_drewN | apply below_drew1 | refine below_set ?_ GE621.out | refine below_set ?_ GE625.out | refine below_set ?_ GE630.out) | exact HB.out))⟩)
                    ·
                     skip
                     refine box_step ?hg (N := 24) ?hd (cs := #[.int .i64 0, .int .i64 0]) (t := 25) ?hr ?_; (case hd => rfl); (case hg => rfl); (case hr => first | (go_simp; done) | (go_simp; rfl))
                     intro gb630 hg w84 hbox hb
                     have n0_ := Aside0.mk (Kd.R_below (by (with_reducible repeat (first | apply Kd.R_alloc | apply Kd.R_drewN | apply Kd.R_drew)); exact HO_9.out) hb)
                     have n1_ := Aside0.mk (blk_below (g := gb621) (o := .cells #[.int .i64 ((rd_T57 l0 (ji68)).f0), .int .i64 ((rd_T57 l0 (ji68)).f1)] 57 (0, 0)) (by (with_reducible repeat (first | refine blk_drewN ?_ _ | refine blk_drew ?_ | refine blk_alloc ?_ _)); exact BK621.out) hb)
                     have n2_ := Aside0.mk (blk_below (g := gb625) (o := .cells #[.int .i64 t622, .int .i64 t623] 25 (0, 0)) (by (with_reducible repeat (first | refine blk_drewN ?_ _ | refine blk_drew ?_ | refine blk_alloc ?_ _)); exact BK625.out) hb)
                     have n3_ := Aside0.mk (below_step (by repeat (first | (with_reducible first | exact HB.out | apply below_alloc | apply pw_below_drewN | apply below_drew1 | refine below_set ?_ GE621.out | refine below_set ?_ GE625.out) | exact HB.out)) hb)
                     have n4_ := Aside0.mk (hbox)
                     have n5_ := Aside0.mk ((by rw [hg]; exact (below_size (by repeat (first | (with_reducible first | exact HB.out | apply below_alloc | apply pw_below_drewN | apply below_drew1 | refine below_set ?_ GE621.out | refine below_set ?_ GE625.out) | exact HB.out))) : w.heap.size ≤ gb630))
                     have n6_ := Aside0.mk ((by rw [hg]; exact (below_size (by repeat (first | (with_reducible first | exact HB.out | apply below_alloc | apply pw_below_drewN | apply below_drew1 | refine below_set ?_ GE621.out | refine below_set ?_ GE625.out) | exact HB.out))) : w.heap.size ≤ gb630))
                     have n7_ := Aside0.mk ((by rw [hg]; exact Nat.ne_of_lt (blk_lt (g := gb621) (o := .cells #[.int .i64 ((rd_T57 l0 (ji68)).f0), .int .i64 ((rd_T57 l0 (ji68)).f1)] 57 (0, 0)) (by (with_reducible repeat (first | refine blk_drewN ?_ _ | refine blk_drew ?_ | refine blk_alloc ?_ _)); exact BK621.out)) : gb621 ≠ gb630))
                     have n8_ := Aside0.mk ((by rw [hg]; exact Nat.ne_of_gt (blk_lt (g := gb621) (o := .cells #[.int .i64 ((rd_T57 l0 (ji68)).f0), .int .i64 ((rd_T57 l0 (ji68)).f1)] 57 (0, 0)) (by (with_reducible repeat (first | refine blk_drewN ?_ _ | refine blk_drew ?_ | refine blk_alloc ?_ _)); exact BK621.out)) : gb630 ≠ gb621))
                     have n9_ := Aside0.mk ((by rw [hg]; exact Nat.ne_of_lt (blk_lt (g := gb625) (o := .cells #[.int .i64 t622, .int .i64 t623] 25 (0, 0)) (by (with_reducible repeat (first | refine blk_drewN ?_ _ | refine blk_drew ?_ | refine blk_alloc ?_ _)); exact BK625.out)) : gb625 ≠ gb630))
                     have n10_ := Aside0.mk ((by rw [hg]; exact Nat.ne_of_gt (blk_lt (g := gb625) (o := .cells #[.int .i64 t622, .int .i64 t623] 25 (0, 0)) (by (with_reducible repeat (first | refine blk_drewN ?_ _ | refine blk_drew ?_ | refine blk_alloc ?_ _)); exact BK625.out)) : gb630 ≠ gb625))
                     clear HO_9
                     clear BK621
                     clear BK625
                     clear HB
                     have HO_9 := n0_
                     have BK621 := n1_
                     have BK625 := n2_
                     have HB := n3_
                     have BK630 := n4_
                     have GW630 := n5_
                     have GE630 := n6_
                     have NB621_630 := n7_
                     have NB630_621 := n8_
                     have NB625_630 := n9_
                     have NB630_625 := n10_
                     clear n0_ n1_ n2_ n3_ n4_ n5_ n6_ n7_ n8_ n9_ n10_
                     clear hb hbox hg
                     refine hK.out _ _ ⟨(blk_cell BK621.out 0).trans rfl, (blk_cell BK621.out 1).trans rfl, ((HB.out.cell (World.block_lt_of_cell? w _ hw626_0)).trans hw626_0), ((HB.out.cell (World.block_lt_of_cell? w _ hw626_1)).trans hw626_1)⟩ (fun hHeld => ?_)
                     clear hK K
                     refine norm_ (a' := ?_) ?_ ?_
                     rotate_left
                     ·
                      show Act.put _ (some 24) _ = _
                      simp only [Act.put, List.setIfInBounds_toArray, List.set_cons_zero, List.set_cons_succ, i64_w, i32_w]
                      rfl
                     refine one_ (i := 10) (N := some 145) #[true, true, true, true, true, true, true, true, true, true, true, false, false, false, true, false, false] rfl rfl (one_of HT_.out (by kernel_rfl)) (by decide) (fun K hK => ?_)
                     refine goes_ Tryd.func22 (by kernel_rfl) rfl #[.slice Ao81 t593.length co81, .int .i64 (wrap64 ((wrap64 (((rd_T57 l0 (ji68)).f0) + a3)) - ((rd_T57 l1 0).f0)))] (by rfl) rfl rfl (by (try simp only [List.map_toArray, List.map_cons, List.map_nil]); first | done | (simp only [hji68]; rfl) | rfl | (simp only [List.length_drop, List.length_take]; rfl)) ?_
                     with_reducible refine (curve_Exact.calls kj46 _ _ t593 (wrap64 ((wrap64 (((rd_T57 l0 (ji68)).f0) + a3)) - ((rd_T57 l1 0).f0))) t627 t628 t629 _ ?side1 ?side2 A73.out).mono ?_
                     (case side1 => repeat (first | exact (Kd.R_reads' HO_9.out).2.2 | (with_reducible refine Kd.C_alloc ?_ _) | (with_reducible refine Kd.C_drewN ?_ _) | (with_reducible refine Kd.C_drew ?_)))
                     (case side2 => exact (Kd.R_reads' HO_9.out).2.1)
                     rintro e w85 ⟨rfl, hb⟩
                     refine ⟨_, rfl, ?_⟩
                     have n0_ := Aside0.mk (Kd.R_below (by (with_reducible repeat (first | apply Kd.R_alloc | apply Kd.R_drewN | apply Kd.R_drew)); exact HO_9.out) hb)
                     have n1_ := Aside0.mk (blk_below (g := gb621) (o := .cells #[.int .i64 ((rd_T57 l0 (ji68)).f0), .int .i64 ((rd_T57 l0 (ji68)).f1)] 57 (0, 0)) (by (with_reducible repeat (first | refine blk_drewN ?_ _ | refine blk_drew ?_ | refine blk_alloc ?_ _)); exact BK621.out) hb)
                     have n2_ := Aside0.mk (blk_below (g := gb625) (o := .cells #[.int .i64 t622, .int .i64 t623] 25 (0, 0)) (by (with_reducible repeat (first | refine blk_drewN ?_ _ | refine blk_drew ?_ | refine blk_alloc ?_ _)); exact BK625.out) hb)
                     have n3_ := Aside0.mk (blk_below (g := gb630) (o := .cells #[.int .i64 0, .int .i64 0] 25 (0, 0)) (by (with_reducible repeat (first | refine blk_drewN ?_ _ | refine blk_drew ?_ | refine blk_alloc ?_ _)); exact BK630.out) hb)
                     have n4_ := Aside0.mk (below_step (by repeat (first | (with_reducible first | exact HB.out | apply below_alloc | apply pw_below_drewN | apply below_drew1 | refine below_set ?_ GE621.out | refine below_set ?_ GE625.out | refine below_set ?_ GE630.out) | exact HB.out)) hb)
                     clear HO_9
                     clear BK621
                     clear BK625
                     clear BK630
                     clear HB
                     have HO_9 := n0_
                     have BK621 := n1_
                     have BK625 := n2_
                     have BK630 := n3_
                     have HB := n4_
                     clear n0_ n1_ n2_ n3_ n4_
                     (try clear hb)
                     (try clear hb2)
                     (try clear hk)
                     (try clear hi)
                     refine hK.out _ _ ⟨(blk_cell BK621.out 0).trans rfl, (blk_cell BK621.out 1).trans rfl, ((HB.out.cell (World.block_lt_of_cell? w _ hw626_0)).trans hw626_0), ((HB.out.cell (World.block_lt_of_cell? w _ hw626_1)).trans hw626_1)⟩ (fun hHeld => ?_)
                     clear hK K
                     refine norm_ (a' := ?_) ?_ ?_
                     rotate_left
                     ·
                      show Act.put _ (some 145) _ = _
                      simp only [Act.put, List.setIfInBounds_toArray, List.set_cons_zero, List.set_cons_succ, i64_w, i32_w]
                      rfl
                     refine pure_ (i := 11) (N := some 134) (v := ?_) (a' := ?_) #[true, true, true, true, true, true, true, true, true, true, true, true, false, false, true, false, false] rfl rfl (any_of HT_.out (by kernel_rfl)) (fun _ _ _ h => h) (Or.inl ⟨by rfl, ?_⟩) ?_ ?_
                     rotate_left
                     ·
                      intro w'
                      go_simp
                      with_reducible rfl
                     rotate_left
                     ·
                      simp only [Act.put, List.setIfInBounds_toArray, List.set_cons_zero, List.set_cons_succ, i64_w, i32_w]
                      rfl
                     refine pure_ (i := 12) (N := some 146) (v := ?_) (a' := ?_) #[true, true, true, true, true, true, true, true, true, true, true, true, true, false, true, false, false] rfl rfl (any_of HT_.out (by kernel_rfl)) (fun _ _ _ h => h) (Or.inl ⟨by rfl, ?_⟩) ?_ ?_
                     rotate_left
                     ·
                      intro w'
                      go_simp
                      with_reducible rfl
                     rotate_left
                     ·
                      simp only [Act.put, List.setIfInBounds_toArray, List.set_cons_zero, List.set_cons_succ, i64_w, i32_w]
                      rfl
                     refine pure_ (i := 13) (N := some 147) (v := ?_) (a' := ?_) #[true, true, true, true, true, true, true, true, true, true, true, true, true, true, true, false, false] rfl rfl (any_of HT_.out (by kernel_rfl)) (fun _ _ _ h => h) (Or.inl ⟨by rfl, ?_⟩) ?_ ?_
                     rotate_left
                     ·
                      intro w'
                      go_simp
                      with_reducible rfl
                     rotate_left
                     ·
                      simp only [Act.put, List.setIfInBounds_toArray, List.set_cons_zero, List.set_cons_succ, i64_w, i32_w]
                      rfl
                     exact norm_ (by simp only [putAll, Act.put, List.setIfInBounds_toArray, List.set_cons_zero, List.set_cons_succ]) (hCont (gb630) _ ⟨hHeld, (by (with_reducible repeat (first | apply Kd.R_alloc | apply Kd.R_drewN | apply Kd.R_drew)); exact HO_9.out), (by (with_reducible repeat (first | refine blk_drewN ?_ _ | refine blk_drew ?_ | refine blk_alloc ?_ _)); exact BK621.out), (by (with_reducible repeat (first | refine blk_drewN ?_ _ | refine blk_drew ?_ | refine blk_alloc ?_ _)); exact BK625.out), (by (with_reducible repeat (first | refine blk_drewN ?_ _ | refine blk_drew ?_ | refine blk_alloc ?_ _)); exact BK630.out), GW630.out, GE630.out, NB621_630.out, NB630_621.out, NB625_630.out, NB630_625.out, (by repeat (first | (with_reducible first | exact HB.out | apply below_alloc | apply pw_below_drewN | apply below_drew1 | refine below_set ?_ GE621.out | refine below_set ?_ GE625.out | refine below_set ?_ GE630.out) | exact HB.out))⟩)
                   rintro gb630 w86 ⟨hS_, h0_, h1_, h2_, h3_, h4_, h5_, h6_, h7_, h8_, h9_, h10_⟩
                   have n0_ : Aside0 (Kd.R k57 57 w86 w.heap.size (fun k_ => k_ ≠ gb621) (.slice Ao81 t593.length co81) t593) := ⟨h0_⟩
                   have n1_ : Aside0 (w86.heap[gb621]? = some (.cells #[.int .i64 ((rd_T57 l0 (ji68)).f0), .int .i64 ((rd_T57 l0 (ji68)).f1)] 57 (0, 0))) := ⟨h1_⟩
                   have n2_ : Aside0 (w86.heap[gb625]? = some (.cells #[.int .i64 t622, .int .i64 t623] 25 (0, 0))) := ⟨h2_⟩
                   have n3_ : Aside0 (w86.heap[gb630]? = some (.cells #[.int .i64 0, .int .i64 0] 25 (0, 0))) := ⟨h3_⟩
                   have n4_ : Aside0 (w.heap.size ≤ gb630) := ⟨h4_⟩
                   have n5_ : Aside0 (w.heap.size ≤ gb630) := ⟨h5_⟩
                   have n6_ : Aside0 (gb621 ≠ gb630) := ⟨h6_⟩
                   have n7_ : Aside0 (gb630 ≠ gb621) := ⟨h7_⟩
                   have n8_ : Aside0 (gb625 ≠ gb630) := ⟨h8_⟩
                   have n9_ : Aside0 (gb630 ≠ gb625) := ⟨h9_⟩
                   have n10_ : Aside0 (Below w.heap.size w w86) := ⟨h10_⟩
                   clear HO_9
                   clear BK621
                   clear BK625
                   clear HB
                   clear h0_ h1_ h2_ h3_ h4_ h5_ h6_ h7_ h8_ h9_ h10_
                   have HO_9 := n0_
                   have BK621 := n1_
                   have BK625 := n2_
                   have BK630 := n3_
                   have GW630 := n4_
                   have GE630 := n5_
                   have NB621_630 := n6_
                   have NB630_621 := n7_
                   have NB625_630 := n8_
                   have NB630_625 := n9_
                   have HB := n10_
                   clear n0_ n1_ n2_ n3_ n4_ n5_ n6_ n7_ n8_ n9_ n10_
                   have hHeld : w86.cell? ⟨gb621, 0, none⟩ = some (.int .i64 ((rd_T57 l0 (ji68)).f0)) ∧ w86.cell? ⟨gb621, 1, none⟩ = some (.int .i64 ((rd_T57 l0 (ji68)).f1)) ∧ w86.cell? ad626 = some (.int .i64 ((rd_T57 l1 0).f0)) ∧ w86.cell? ⟨ad626.block, ad626.off + 1, none⟩ = some (.int .i64 ((rd_T57 l1 0).f1)) := hS_
                   refine norm_ (a' := ?_) ?_ ?_
                   rotate_left
                   ·
                    simp only [putAll, Act.put, List.setIfInBounds_toArray, List.set_cons_zero, List.set_cons_succ]
                    rfl
                   refine one_ (i := 15) (N := none) #[true, true, true, true, true, true, true, true, true, true, true, true, true, true, true, true, false] rfl rfl (one_of HT_.out (by kernel_rfl)) (by decide) (fun K hK => ?_)
                   have hs87 : w86.cell? ⟨gb630, 0, none⟩ = some (.int .i64 0) := (blk_cell BK630.out 0).trans rfl
                   have hfs87 := blk_frozen BK630.out 0
                   have hns87_0 := NB621_630.out
                   have hns87_1 := NB625_630.out
                   have hms87_0 := NB630_621.out
                   have hms87_1 := NB630_625.out
                   have hs88 : w86.cell? ⟨gb630, 1, none⟩ = some (.int .i64 0) := (blk_cell BK630.out 1).trans rfl
                   have hfs88 := blk_frozen BK630.out 1
                   have hns88_0 := NB621_630.out
                   have hns88_1 := NB625_630.out
                   have hms88_0 := NB630_621.out
                   have hms88_1 := NB630_625.out
                   refine skip_ (w1 := ?_) (by rfl) rfl ?_ ?_
                   rotate_left
                   ·
                    go_simp
                    rfl
                   refine hK.out _ _ ⟨((cell_far (p := ⟨gb630, _, none⟩) NB621_630.out _).trans (((cell_far (p := ⟨gb630, _, none⟩) NB621_630.out _).trans (hHeld.1)))), ((cell_far (p := ⟨gb630, _, none⟩) NB621_630.out _).trans (((cell_far (p := ⟨gb630, _, none⟩) NB621_630.out _).trans (hHeld.2.1)))), ((cell_far (p := ⟨gb630, _, none⟩) (by first | exact Nat.ne_of_lt (Nat.lt_of_lt_of_le (by have := World.block_lt_of_cell? _ _ hw626_0; first | rwa [add_block] at this | exact this) GW630.out) | (rw [add_block]; exact Nat.ne_of_lt (Nat.lt_of_lt_of_le (by have := World.block_lt_of_cell? _ _ hw626_0; first | rwa [add_block] at this | exact this) GW630.out)) | (show (Addr.add _ _).block ≠ _; rw [add_block]; exact Nat.ne_of_lt (Nat.lt_of_lt_of_le (by have := World.block_lt_of_cell? _ _ hw626_0; first | rwa [add_block] at this | exact this) GW630.out)) | (dsimp only; exact Nat.ne_of_lt (Nat.lt_of_lt_of_le (by have := World.block_lt_of_cell? _ _ hw626_0; first | rwa [add_block] at this | exact this) GW630.out))) _).trans (((cell_far (p := ⟨gb630, _, none⟩) (by first | exact Nat.ne_of_lt (Nat.lt_of_lt_of_le (by have := World.block_lt_of_cell? _ _ hw626_0; first | rwa [add_block] at this | exact this) GW630.out) | (rw [add_block]; exact Nat.ne_of_lt (Nat.lt_of_lt_of_le (by have := World.block_lt_of_cell? _ _ hw626_0; first | rwa [add_block] at this | exact this) GW630.out)) | (show (Addr.add _ _).block ≠ _; rw [add_block]; exact Nat.ne_of_lt (Nat.lt_of_lt_of_le (by have := World.block_lt_of_cell? _ _ hw626_0; first | rwa [add_block] at this | exact this) GW630.out)) | (dsimp only; exact Nat.ne_of_lt (Nat.lt_of_lt_of_le (by have := World.block_lt_of_cell? _ _ hw626_0; first | rwa [add_block] at this | exact this) GW630.out))) _).trans (hHeld.2.2.1)))), ((cell_far (p := ⟨gb630, _, none⟩) (by first | exact Nat.ne_of_lt (Nat.lt_of_lt_of_le (by have := World.block_lt_of_cell? _ _ hw626_1; first | rwa [add_block] at this | exact this) GW630.out) | (rw [add_block]; exact Nat.ne_of_lt (Nat.lt_of_lt_of_le (by have := World.block_lt_of_cell? _ _ hw626_1; first | rwa [add_block] at this | exact this) GW630.out)) | (show (Addr.add _ _).block ≠ _; rw [add_block]; exact Nat.ne_of_lt (Nat.lt_of_lt_of_le (by have := World.block_lt_of_cell? _ _ hw626_1; first | rwa [add_block] at this | exact this) GW630.out)) | (dsimp only; exact Nat.ne_of_lt (Nat.lt_of_lt_of_le (by have := World.block_lt_of_cell? _ _ hw626_1; first | rwa [add_block] at this | exact this) GW630.out))) _).trans (((cell_far (p := ⟨gb630, _, none⟩) (by first | exact Nat.ne_of_lt (Nat.lt_of_lt_of_le (by have := World.block_lt_of_cell? _ _ hw626_1; first | rwa [add_block] at this | exact this) GW630.out) | (rw [add_block]; exact Nat.ne_of_lt (Nat.lt_of_lt_of_le (by have := World.block_lt_of_cell? _ _ hw626_1; first | rwa [add_block] at this | exact this) GW630.out)) | (show (Addr.add _ _).block ≠ _; rw [add_block]; exact Nat.ne_of_lt (Nat.lt_of_lt_of_le (by have := World.block_lt_of_cell? _ _ hw626_1; first | rwa [add_block] at this | exact this) GW630.out)) | (dsimp only; exact Nat.ne_of_lt (Nat.lt_of_lt_of_le (by have := World.block_lt_of_cell? _ _ hw626_1; first | rwa [add_block] at this | exact this) GW630.out))) _).trans (hHeld.2.2.2))))⟩ (fun hHeld => ?_)
                   clear hK K
                   refine pure_ (i := 16) (N := some 25) (v := ?_) (a' := ?_) #[true, true, true, true, true, true, true, true, true, true, true, true, true, true, true, true, true] rfl rfl (any_of HT_.out (by kernel_rfl)) (fun _ _ _ h => h) (Or.inl ⟨by rfl, ?_⟩) ?_ ?_
                   rotate_left
                   ·
                    intro w'
                    go_simp
                    with_reducible rfl
                   rotate_left
                   ·
                    simp only [Act.put, List.setIfInBounds_toArray, List.set_cons_zero, List.set_cons_succ, i64_w, i32_w]
                    rfl
                   refine done_ (done_of HT_.out (by kernel_rfl)) ?_
                   go_upto_region 25 with (fail)
                   go_cut [178] (fun v178 wc => ∃ (kq : Nat) (x178_73 : Bool), v178 = .bool x178_73 ∧ Aside0 (law_CurveJoins.j6 kq x178_73 = some r) ∧ Aside0 (kq ≤ kj46) ∧ Aside0 (wc.heap[gb621]? = some (.cells #[.int .i64 ((rd_T57 l0 (ji68)).f0), .int .i64 ((rd_T57 l0 (ji68)).f1)] 57 (0, 0))) ∧ Aside0 (wc.heap[gb625]? = some (.cells #[.int .i64 t622, .int .i64 t623] 25 (0, 0))) ∧ Aside0 (wc.heap[gb630]? = some (.cells #[.int .i64 t627, .int .i64 t628] 25 (0, 0))) ∧ Aside0 (Below w.heap.size w wc))
                   case first => as_aux_lemma =>
                    have H := HC74.out
                    clear HC74
                    by_cases c89 : t624 = 0
                    ·
                     rw [if_pos c89] at H
                     have c89b0 : (t624 == 0) = true := beq_iff_eq.mpr c89
                     have c89b1 : (t624 != 0) = false := bne_eq_false_iff_eq.mpr c89
                     clear c89
                     (first | rw [c89b0] | (simp only [i64_w, i32_w]; rw [c89b0]) | skip)
                     by_cases c90 : t629 = 0
                     ·
                      rw [if_pos c90] at H
                      have c90b0 : (t629 == 0) = true := beq_iff_eq.mpr c90
                      have c90b1 : (t629 != 0) = false := bne_eq_false_iff_eq.mpr c90
                      clear c90
                      by_cases c91 : t623 = t628
                      ·
                       rw [if_pos c91] at H
                       have c91b0 : (t623 == t628) = true := beq_iff_eq.mpr c91
                       have c91b1 : (t623 != t628) = false := bne_eq_false_iff_eq.mpr c91
                       clear c91
                       have H' := Aside0.mk H
                       clear H
                       try go_wp2
                       have n0_ : Aside0 (Kd.R k57 57 ((w86.setCell ⟨gb630, 0, none⟩ (.int .i64 t627)).setCell ⟨gb630, 1, none⟩ (.int .i64 t628)) w.heap.size (fun k_ => k_ ≠ gb621) (.slice Ao81 t593.length co81) t593) := ⟨by (with_reducible repeat (first | apply Kd.R_alloc | apply Kd.R_drewN | apply Kd.R_drew)); exact Kd.R_mono (Kd.R_far (p := ⟨gb630, 1, none⟩) (Kd.R_far (p := ⟨gb630, 0, none⟩) (Kd.R_types HO_9.out BK630.out (by decide)) (fun _ hk => hk.2) (.int .i64 t627)) (fun _ hk => hk.2) (.int .i64 t628)) (fun _ hk => hk.1)⟩
                       have n1_ : Aside0 (((w86.setCell ⟨gb630, 0, none⟩ (.int .i64 t627)).setCell ⟨gb630, 1, none⟩ (.int .i64 t628)).heap[gb621]? = some (.cells #[.int .i64 ((rd_T57 l0 (ji68)).f0), .int .i64 ((rd_T57 l0 (ji68)).f1)] 57 (0, 0))) := ⟨by (with_reducible repeat (first | refine blk_drewN ?_ _ | refine blk_drew ?_ | refine blk_alloc ?_ _)); refine blk_far ?_ NB621_630.out _; (with_reducible repeat (first | refine blk_drewN ?_ _ | refine blk_drew ?_ | refine blk_alloc ?_ _)); refine blk_far ?_ NB621_630.out _; (with_reducible repeat (first | refine blk_drewN ?_ _ | refine blk_drew ?_ | refine blk_alloc ?_ _)); exact BK621.out⟩
                       have n2_ : Aside0 (((w86.setCell ⟨gb630, 0, none⟩ (.int .i64 t627)).setCell ⟨gb630, 1, none⟩ (.int .i64 t628)).heap[gb625]? = some (.cells #[.int .i64 t622, .int .i64 t623] 25 (0, 0))) := ⟨by (with_reducible repeat (first | refine blk_drewN ?_ _ | refine blk_drew ?_ | refine blk_alloc ?_ _)); refine blk_far ?_ NB625_630.out _; (with_reducible repeat (first | refine blk_drewN ?_ _ | refine blk_drew ?_ | refine blk_alloc ?_ _)); refine blk_far ?_ NB625_630.out _; (with_reducible repeat (first | refine blk_drewN ?_ _ | refine blk_drew ?_ | refine blk_alloc ?_ _)); exact BK625.out⟩
                       have n3_ : Aside0 (((w86.setCell ⟨gb630, 0, none⟩ (.int .i64 t627)).setCell ⟨gb630, 1, none⟩ (.int .i64 t628)).heap[gb630]? = some (.cells #[.int .i64 t627, .int .i64 t628] 25 (0, 0))) := ⟨by (with_reducible repeat (first | refine blk_drewN ?_ _ | refine blk_drew ?_ | refine blk_alloc ?_ _)); refine blk_put (cs := #[.int .i64 t627, .int .i64 0]) ?_ 1 _ rfl; (with_reducible repeat (first | refine blk_drewN ?_ _ | refine blk_drew ?_ | refine blk_alloc ?_ _)); refine blk_put (cs := #[.int .i64 0, .int .i64 0]) ?_ 0 _ rfl; (with_reducible repeat (first | refine blk_drewN ?_ _ | refine blk_drew ?_ | refine blk_alloc ?_ _)); exact BK630.out⟩
                       have n4_ : Aside0 (Below w.heap.size w ((w86.setCell ⟨gb630, 0, none⟩ (.int .i64 t627)).setCell ⟨gb630, 1, none⟩ (.int .i64 t628))) := ⟨by repeat (first | (with_reducible first | exact HB.out | apply below_alloc | apply pw_below_drewN | apply below_drew1 | refine below_set ?_ GE621.out | refine below_set ?_ GE625.out | refine below_set ?_ GE630.out) | exact HB.out)⟩
                       (try clear HO_9)
                       (try clear BK621)
                       (try clear BK625)
                       (try clear BK630)
                       (try clear HB)
                       generalize ((w86.setCell ⟨gb630, 0, none⟩ (.int .i64 t627)).setCell ⟨gb630, 1, none⟩ (.int .i64 t628)) = w92 at n0_ n1_ n2_ n3_ n4_ ⊢
                       have HO_9 := n0_
                       have BK621 := n1_
                       have BK625 := n2_
                       have BK630 := n3_
                       have HB := n4_
                       clear n0_ n1_ n2_ n3_ n4_
                       have n0_ := Aside0.mk (Kd.R_drew HO_9.out)
                       have n1_ := Aside0.mk (blk_drew BK621.out)
                       have n2_ := Aside0.mk (blk_drew BK625.out)
                       have n3_ := Aside0.mk (blk_drew BK630.out)
                       have n4_ := Aside0.mk (below_drew1 HB.out)
                       clear HO_9
                       clear BK621
                       clear BK625
                       clear BK630
                       clear HB
                       have HO_9 := n0_
                       have BK621 := n1_
                       have BK625 := n2_
                       have BK630 := n3_
                       have HB := n4_
                       clear n0_ n1_ n2_ n3_ n4_
                       have p631 : 0 ≤ (0 : Int) := (by omega)
                       have q631 : 0 < (l1.length : Int) := of_decide_eq_true (by first | (with_reducible assumption) | assumption)
                       obtain ⟨ad631, e631, hx631_0, hx631_1⟩ := at_T57 HR1.out 0 p631 q631
                       have hw631_1 := hx631_1
                       (try rw [show ((0 : Int)).toNat = 0 from rfl] at hw631_1)
                       (try rw [show 0 * 2 = 0 from rfl] at hw631_1)
                       (try rw [Addr.add_zero'] at hw631_1)
                       have hw631_0 := hx631_0
                       (try rw [show ((0 : Int)).toNat = 0 from rfl] at hw631_0)
                       (try rw [show 0 * 2 = 0 from rfl] at hw631_0)
                       (try rw [Addr.add_zero'] at hw631_0)
                       obtain rfl : ad626 = ad631 := (by injection e631)
                       have qi631 : (0 < l1.length) = True := eq_true (by omega)
                       (try rw [show ((0 : Int)).toNat = 0 from rfl] at hx631_0)
                       (try rw [show 0 * 2 = 0 from rfl] at hx631_0)
                       (try rw [Addr.add_zero'] at hx631_0)
                       (try rw [show ((0 : Int)).toNat = 0 from rfl] at hx631_1)
                       (try rw [show 0 * 2 = 0 from rfl] at hx631_1)
                       (try rw [Addr.add_zero'] at hx631_1)
                       replace hx631_0 := (HB.out.cell (World.block_lt_of_cell? w _ hx631_0)).trans hx631_0
                       replace hx631_1 := (HB.out.cell (World.block_lt_of_cell? w _ hx631_1)).trans hx631_1
                       replace p631 := eq_true p631
                       replace q631 := eq_true q631
                       refine start_ (n := 31) (S := fun w' => w'.cell? ⟨gb625, 0, none⟩ = some (.int .i64 t622) ∧ w'.cell? ⟨gb625, 1, none⟩ = some (.int .i64 t623) ∧ w'.cell? ⟨gb630, 0, none⟩ = some (.int .i64 t627) ∧ w'.cell? ⟨gb630, 1, none⟩ = some (.int .i64 t628) ∧ w'.cell? ⟨gb621, 0, none⟩ = some (.int .i64 ((rd_T57 l0 (ji68)).f0)) ∧ w'.cell? ⟨gb621, 1, none⟩ = some (.int .i64 ((rd_T57 l0 (ji68)).f1)) ∧ w'.cell? ad626 = some (.int .i64 ((rd_T57 l1 0).f0)) ∧ w'.cell? ⟨ad626.block, ad626.off + 1, none⟩ = some (.int .i64 ((rd_T57 l1 0).f1))) (ds := []) #[false, false, false, false, false, false, false, false, false, false, false, false, false, false, false, false, false, false, false, false, false, false, false, false, false, false, false, false, false, false, false] (by kernel_rfl) rfl rfl ⟨(blk_cell BK625.out 0).trans rfl, (blk_cell BK625.out 1).trans rfl, (blk_cell BK630.out 0).trans rfl, (blk_cell BK630.out 1).trans rfl, (blk_cell BK621.out 0).trans rfl, (blk_cell BK621.out 1).trans rfl, ((HB.out.cell (World.block_lt_of_cell? w _ hw631_0)).trans hw631_0), ((HB.out.cell (World.block_lt_of_cell? w _ hw631_1)).trans hw631_1)⟩ (fun hHeld => ?_); refine with_tabW law_CurveJoins.tab25 law_CurveJoins.bits25 (fun HT_ HW_ => ?_)
                       generalize w92.drew = w93 at HO_9 BK621 BK625 BK630 HB hx631_0 hx631_1 hHeld ⊢
                       refine pure_ (i := 0) (N := some 148) (v := ?_) (a' := ?_) #[true, false, false, false, false, false, false, false, false, false, false, false, false, false, false, false, false, false, false, false, false, false, false, false, false, false, false, false, false, false, false] rfl rfl (any_of HT_.out (by kernel_rfl)) (fun _ _ _ h => h) (Or.inl ⟨by rfl, ?_⟩) ?_ ?_
                       rotate_left
                       ·
                        intro w'
                        go_simp
                        with_reducible rfl
                       rotate_left
                       ·
                        simp only [Act.put, List.setIfInBounds_toArray, List.set_cons_zero, List.set_cons_succ, i64_w, i32_w]
                        rfl
                       refine pure_ (i := 1) (N := some 149) (v := ?_) (a' := ?_) #[true, true, false, false, false, false, false, false, false, false, false, false, false, false, false, false, false, false, false, false, false, false, false, false, false, false, false, false, false, false, false] rfl rfl (any_of HT_.out (by kernel_rfl)) (fun _ _ _ h => h) (Or.inl ⟨by rfl, ?_⟩) ?_ ?_
                       rotate_left
                       ·
                        intro w'
                        go_simp
                        with_reducible rfl
                       rotate_left
                       ·
                        simp only [Act.put, List.setIfInBounds_toArray, List.set_cons_zero, List.set_cons_succ, i64_w, i32_w]
                        rfl
                       refine pure_ (i := 2) (N := some 150) (v := ?_) (a' := ?_) #[true, true, true, false, false, false, false, false, false, false, false, false, false, false, false, false, false, false, false, false, false, false, false, false, false, false, false, false, false, false, false] rfl rfl (any_of HT_.out (by kernel_rfl)) (fun _ _ _ h => h) (Or.inl ⟨by rfl, ?_⟩) ?_ ?_
                       rotate_left
                       ·
                        intro w'
                        go_simp
                        with_reducible rfl
                       rotate_left
                       ·
                        simp only [Act.put, List.setIfInBounds_toArray, List.set_cons_zero, List.set_cons_succ, i64_w, i32_w]
                        rfl
                       refine pure_ (i := 3) (N := some 151) (v := ?_) (a' := ?_) #[true, true, true, true, false, false, false, false, false, false, false, false, false, false, false, false, false, false, false, false, false, false, false, false, false, false, false, false, false, false, false] rfl rfl (any_of HT_.out (by kernel_rfl)) (fun _ _ _ h => h) (Or.inl ⟨by rfl, ?_⟩) ?_ ?_
                       rotate_left
                       ·
                        intro w'
                        go_simp
                        with_reducible rfl
                       rotate_left
                       ·
                        simp only [Act.put, List.setIfInBounds_toArray, List.set_cons_zero, List.set_cons_succ, i64_w, i32_w]
                        rfl
                       refine pure_ (i := 4) (N := some 152) (v := ?_) (a' := ?_) #[true, true, true, true, true, false, false, false, false, false, false, false, false, false, false, false, false, false, false, false, false, false, false, false, false, false, false, false, false, false, false] rfl rfl (any_of HT_.out (by kernel_rfl)) (fun _ _ _ h => h) (Or.inl ⟨by rfl, ?_⟩) ?_ ?_
                       rotate_left
                       ·
                        intro w'
                        go_simp
                        with_reducible rfl
                       rotate_left
                       ·
                        simp only [Act.put, List.setIfInBounds_toArray, List.set_cons_zero, List.set_cons_succ, i64_w, i32_w]
                        rfl
                       refine pure_ (i := 5) (N := some 153) (v := ?_) (a' := ?_) #[true, true, true, true, true, true, false, false, false, false, false, false, false, false, false, false, false, false, false, false, false, false, false, false, false, false, false, false, false, false, false] rfl rfl (any_of HT_.out (by kernel_rfl)) (fun _ _ _ h => h) (Or.inl ⟨by rfl, ?_⟩) ?_ ?_
                       rotate_left
                       ·
                        intro w'
                        go_simp
                        with_reducible rfl
                       rotate_left
                       ·
                        simp only [Act.put, List.setIfInBounds_toArray, List.set_cons_zero, List.set_cons_succ, i64_w, i32_w]
                        rfl
                       refine pure_ (i := 6) (N := some 154) (v := ?_) (a' := ?_) #[true, true, true, true, true, true, true, false, false, false, false, false, false, false, false, false, false, false, false, false, false, false, false, false, false, false, false, false, false, false, false] rfl rfl (any_of HT_.out (by kernel_rfl)) (fun _ _ _ h => h) (Or.inl ⟨by rfl, ?_⟩) ?_ ?_
                       rotate_left
                       ·
                        intro w'
                        go_simp
                        with_reducible rfl
                       rotate_left
                       ·
                        simp only [Act.put, List.setIfInBounds_toArray, List.set_cons_zero, List.set_cons_succ, i64_w, i32_w]
                        rfl
                       refine pure_ (i := 7) (N := some 155) (v := ?_) (a' := ?_) #[true, true, true, true, true, true, true, true, false, false, false, false, false, false, false, false, false, false, false, false, false, false, false, false, false, false, false, false, false, false, false] rfl rfl (any_of HT_.out (by kernel_rfl)) (fun _ _ _ h => h) (Or.inl ⟨by rfl, ?_⟩) ?_ ?_
                       rotate_left
                       ·
                        intro w'
                        go_simp
                        with_reducible rfl
                       rotate_left
                       ·
                        simp only [Act.put, List.setIfInBounds_toArray, List.set_cons_zero, List.set_cons_succ, i64_w, i32_w]
                        rfl
                       refine pure_ (i := 9) (N := some 157) (v := ?_) (a' := ?_) #[true, true, true, true, true, true, true, true, false, true, false, false, false, false, false, false, false, false, false, false, false, false, false, false, false, false, false, false, false, false, false] rfl rfl (any_of HT_.out (by kernel_rfl)) (fun _ _ _ h => h) (Or.inl ⟨by rfl, ?_⟩) ?_ ?_
                       rotate_left
                       ·
                        intro w'
                        go_simp
                        with_reducible rfl
                       rotate_left
                       ·
                        simp only [Act.put, List.setIfInBounds_toArray, List.set_cons_zero, List.set_cons_succ, i64_w, i32_w]
                        rfl
                       refine take_ (i := 8) (N := some 156) (v := ?_) (a' := ?_) #[true, true, true, true, true, true, true, true, true, true, false, false, false, false, false, false, false, false, false, false, false, false, false, false, false, false, false, false, false, false, false] rfl rfl (take_ofW HT_.out HW_.out (by kernel_rfl)) (fun _ _ _ h => h) (Or.inl ⟨by rfl, ?_⟩) hHeld ?_ ?_
                       rotate_left
                       ·
                        rintro w' ⟨s0, s1, s2, s3, s4, s5, s6, s7⟩
                        go_simp
                        with_reducible rfl
                       rotate_left
                       ·
                        simp only [Act.put, List.setIfInBounds_toArray, List.set_cons_zero, List.set_cons_succ, i64_w, i32_w]
                        rfl
                       refine take_ (i := 10) (N := some 158) (v := ?_) (a' := ?_) #[true, true, true, true, true, true, true, true, true, true, true, false, false, false, false, false, false, false, false, false, false, false, false, false, false, false, false, false, false, false, false] rfl rfl (take_ofW HT_.out HW_.out (by kernel_rfl)) (fun _ _ _ h => h) (Or.inl ⟨by rfl, ?_⟩) hHeld ?_ ?_
                       rotate_left
                       ·
                        rintro w' ⟨s0, s1, s2, s3, s4, s5, s6, s7⟩
                        go_simp
                        with_reducible rfl
                       rotate_left
                       ·
                        simp only [Act.put, List.setIfInBounds_toArray, List.set_cons_zero, List.set_cons_succ, i64_w, i32_w]
                        rfl
                       refine pure_ (i := 11) (N := some 159) (v := ?_) (a' := ?_) #[true, true, true, true, true, true, true, true, true, true, true, true, false, false, false, false, false, false, false, false, false, false, false, false, false, false, false, false, false, false, false] rfl rfl (any_of HT_.out (by kernel_rfl)) (fun _ _ _ h => h) (Or.inl ⟨by rfl, ?_⟩) ?_ ?_
                       rotate_left
                       ·
                        intro w'
                        go_simp
                        with_reducible rfl
                       rotate_left
                       ·
                        simp only [Act.put, List.setIfInBounds_toArray, List.set_cons_zero, List.set_cons_succ, i64_w, i32_w]
                        rfl
                       refine pure_ (i := 12) (N := some 160) (v := ?_) (a' := ?_) #[true, true, true, true, true, true, true, true, true, true, true, true, true, false, false, false, false, false, false, false, false, false, false, false, false, false, false, false, false, false, false] rfl rfl (any_of HT_.out (by kernel_rfl)) (fun _ _ _ h => h) (Or.inl ⟨by rfl, ?_⟩) ?_ ?_
                       rotate_left
                       ·
                        intro w'
                        go_simp
                        with_reducible rfl
                       rotate_left
                       ·
                        simp only [Act.put, List.setIfInBounds_toArray, List.set_cons_zero, List.set_cons_succ, i64_w, i32_w]
                        rfl
                       refine pure_ (i := 13) (N := some 161) (v := ?_) (a' := ?_) #[true, true, true, true, true, true, true, true, true, true, true, true, true, true, false, false, false, false, false, false, false, false, false, false, false, false, false, false, false, false, false] rfl rfl (any_of HT_.out (by kernel_rfl)) (fun _ _ _ h => h) (Or.inl ⟨by rfl, ?_⟩) ?_ ?_
                       rotate_left
                       ·
                        intro w'
                        go_simp
                        with_reducible rfl
                       rotate_left
                       ·
                        simp only [Act.put, List.setIfInBounds_toArray, List.set_cons_zero, List.set_cons_succ, i64_w, i32_w]
                        rfl
                       refine pure_ (i := 14) (N := some 162) (v := ?_) (a' := ?_) #[true, true, true, true, true, true, true, true, true, true, true, true, true, true, true, false, false, false, false, false, false, false, false, false, false, false, false, false, false, false, false] rfl rfl (any_of HT_.out (by kernel_rfl)) (fun _ _ _ h => h) (Or.inl ⟨by rfl, ?_⟩) ?_ ?_
                       rotate_left
                       ·
                        intro w'
                        go_simp
                        with_reducible rfl
                       rotate_left
                       ·
                        simp only [Act.put, List.setIfInBounds_toArray, List.set_cons_zero, List.set_cons_succ, i64_w, i32_w]
                        rfl
                       refine pure_ (i := 16) (N := some 164) (v := ?_) (a' := ?_) #[true, true, true, true, true, true, true, true, true, true, true, true, true, true, true, false, true, false, false, false, false, false, false, false, false, false, false, false, false, false, false] rfl rfl (any_of HT_.out (by kernel_rfl)) (fun _ _ _ h => h) (Or.inl ⟨by rfl, ?_⟩) ?_ ?_
                       rotate_left
                       ·
                        intro w'
                        go_simp
                        with_reducible rfl
                       rotate_left
                       ·
                        simp only [Act.put, List.setIfInBounds_toArray, List.set_cons_zero, List.set_cons_succ, i64_w, i32_w]
                        rfl
                       refine pure_ (i := 18) (N := some 166) (v := ?_) (a' := ?_) #[true, true, true, true, true, true, true, true, true, true, true, true, true, true, true, false, true, false, true, false, false, false, false, false, false, false, false, false, false, false, false] rfl rfl (any_of HT_.out (by kernel_rfl)) (fun _ _ _ h => h) (Or.inl ⟨by rfl, ?_⟩) ?_ ?_
                       rotate_left
                       ·
                        intro w'
                        go_simp
                        with_reducible rfl
                       rotate_left
                       ·
                        simp only [Act.put, List.setIfInBounds_toArray, List.set_cons_zero, List.set_cons_succ, i64_w, i32_w]
                        rfl
                       refine pure_ (i := 20) (N := some 168) (v := ?_) (a' := ?_) #[true, true, true, true, true, true, true, true, true, true, true, true, true, true, true, false, true, false, true, false, true, false, false, false, false, false, false, false, false, false, false] rfl rfl (any_of HT_.out (by kernel_rfl)) (fun _ _ _ h => h) (Or.inl ⟨by rfl, ?_⟩) ?_ ?_
                       rotate_left
                       ·
                        intro w'
                        go_simp
                        with_reducible rfl
                       rotate_left
                       ·
                        simp only [Act.put, List.setIfInBounds_toArray, List.set_cons_zero, List.set_cons_succ, i64_w, i32_w]
                        rfl
                       refine pure_ (i := 21) (N := some 169) (v := ?_) (a' := ?_) #[true, true, true, true, true, true, true, true, true, true, true, true, true, true, true, false, true, false, true, false, true, true, false, false, false, false, false, false, false, false, false] rfl rfl (any_of HT_.out (by kernel_rfl)) (fun _ _ _ h => h) (Or.inl ⟨by rfl, ?_⟩) ?_ ?_
                       rotate_left
                       ·
                        intro w'
                        go_simp
                        with_reducible rfl
                       rotate_left
                       ·
                        simp only [Act.put, List.setIfInBounds_toArray, List.set_cons_zero, List.set_cons_succ, i64_w, i32_w]
                        rfl
                       refine pure_ (i := 22) (N := some 170) (v := ?_) (a' := ?_) #[true, true, true, true, true, true, true, true, true, true, true, true, true, true, true, false, true, false, true, false, true, true, true, false, false, false, false, false, false, false, false] rfl rfl (any_of HT_.out (by kernel_rfl)) (fun _ _ _ h => h) (Or.inl ⟨by rfl, ?_⟩) ?_ ?_
                       rotate_left
                       ·
                        intro w'
                        go_simp
                        with_reducible rfl
                       rotate_left
                       ·
                        simp only [Act.put, List.setIfInBounds_toArray, List.set_cons_zero, List.set_cons_succ, i64_w, i32_w]
                        rfl
                       refine pure_ (i := 25) (N := some 173) (v := ?_) (a' := ?_) #[true, true, true, true, true, true, true, true, true, true, true, true, true, true, true, false, true, false, true, false, true, true, true, false, false, true, false, false, false, false, false] rfl rfl (any_of HT_.out (by kernel_rfl)) (fun _ _ _ h => h) (Or.inl ⟨by rfl, ?_⟩) ?_ ?_
                       rotate_left
                       ·
                        intro w'
                        go_simp
                        with_reducible rfl
                       rotate_left
                       ·
                        simp only [Act.put, List.setIfInBounds_toArray, List.set_cons_zero, List.set_cons_succ, i64_w, i32_w]
                        rfl
                       refine take_ (i := 15) (N := some 163) (v := ?_) (a' := ?_) #[true, true, true, true, true, true, true, true, true, true, true, true, true, true, true, true, true, false, true, false, true, true, true, false, false, true, false, false, false, false, false] rfl rfl (take_ofW HT_.out HW_.out (by kernel_rfl)) (fun _ _ _ h => h) (Or.inl ⟨by rfl, ?_⟩) hHeld ?_ ?_
                       rotate_left
                       ·
                        rintro w' ⟨s0, s1, s2, s3, s4, s5, s6, s7⟩
                        go_simp
                        with_reducible rfl
                       rotate_left
                       ·
                        simp only [Act.put, List.setIfInBounds_toArray, List.set_cons_zero, List.set_cons_succ, i64_w, i32_w]
                        rfl
                       refine take_ (i := 17) (N := some 165) (v := ?_) (a' := ?_) #[true, true, true, true, true, true, true, true, true, true, true, true, true, true, true, true, true, true, true, false, true, true, true, false, false, true, false, false, false, false, false] rfl rfl (take_ofW HT_.out HW_.out (by kernel_rfl)) (fun _ _ _ h => h) (Or.inl ⟨by rfl, ?_⟩) hHeld ?_ ?_
                       rotate_left
                       ·
                        rintro w' ⟨s0, s1, s2, s3, s4, s5, s6, s7⟩
                        go_simp
                        with_reducible rfl
                       rotate_left
                       ·
                        simp only [Act.put, List.setIfInBounds_toArray, List.set_cons_zero, List.set_cons_succ, i64_w, i32_w]
                        rfl
                       refine take_ (i := 19) (N := some 167) (v := ?_) (a' := ?_) #[true, true, true, true, true, true, true, true, true, true, true, true, true, true, true, true, true, true, true, true, true, true, true, false, false, true, false, false, false, false, false] rfl rfl (take_ofW HT_.out HW_.out (by kernel_rfl)) (fun _ _ _ h => h) (Or.inl ⟨by rfl, ?_⟩) hHeld ?_ ?_
                       rotate_left
                       ·
                        rintro w' ⟨s0, s1, s2, s3, s4, s5, s6, s7⟩
                        go_simp
                        with_reducible rfl
                       rotate_left
                       ·
                        simp only [Act.put, List.setIfInBounds_toArray, List.set_cons_zero, List.set_cons_succ, i64_w, i32_w]
                        rfl
                       refine take_ (i := 23) (N := some 171) (v := ?_) (a' := ?_) #[true, true, true, true, true, true, true, true, true, true, true, true, true, true, true, true, true, true, true, true, true, true, true, true, false, true, false, false, false, false, false] rfl rfl (take_ofW HT_.out HW_.out (by kernel_rfl)) (fun _ _ _ h => h) (Or.inl ⟨by rfl, ?_⟩) hHeld ?_ ?_
                       rotate_left
                       ·
                        rintro w' ⟨s0, s1, s2, s3, s4, s5, s6, s7⟩
                        go_simp
                        with_reducible rfl
                       rotate_left
                       ·
                        simp only [Act.put, List.setIfInBounds_toArray, List.set_cons_zero, List.set_cons_succ, i64_w, i32_w]
                        rfl
                       refine pure_ (i := 24) (N := some 172) (v := ?_) (a' := ?_) #[true, true, true, true, true, true, true, true, true, true, true, true, true, true, true, true, true, true, true, true, true, true, true, true, true, true, false, false, false, false, false] rfl rfl (any_of HT_.out (by kernel_rfl)) (fun _ _ _ h => h) (Or.inl ⟨by rfl, ?_⟩) ?_ ?_
                       rotate_left
                       ·
                        intro w'
                        go_simp
                        with_reducible rfl
                       rotate_left
                       ·
                        simp only [Act.put, List.setIfInBounds_toArray, List.set_cons_zero, List.set_cons_succ, i64_w, i32_w]
                        rfl
                       refine take_ (i := 26) (N := some 174) (v := ?_) (a' := ?_) #[true, true, true, true, true, true, true, true, true, true, true, true, true, true, true, true, true, true, true, true, true, true, true, true, true, true, true, false, false, false, false] rfl rfl (take_ofW HT_.out HW_.out (by kernel_rfl)) (fun _ _ _ h => h) (Or.inl ⟨by rfl, ?_⟩) hHeld ?_ ?_
                       rotate_left
                       ·
                        rintro w' ⟨s0, s1, s2, s3, s4, s5, s6, s7⟩
                        go_simp
                        with_reducible rfl
                       rotate_left
                       ·
                        simp only [Act.put, List.setIfInBounds_toArray, List.set_cons_zero, List.set_cons_succ, i64_w, i32_w]
                        rfl
                       refine pure_ (i := 27) (N := some 175) (v := ?_) (a' := ?_) #[true, true, true, true, true, true, true, true, true, true, true, true, true, true, true, true, true, true, true, true, true, true, true, true, true, true, true, true, false, false, false] rfl rfl (any_of HT_.out (by kernel_rfl)) (fun _ _ _ h => h) (Or.inl ⟨by rfl, ?_⟩) ?_ ?_
                       rotate_left
                       ·
                        intro w'
                        go_simp
                        with_reducible rfl
                       rotate_left
                       ·
                        simp only [Act.put, List.setIfInBounds_toArray, List.set_cons_zero, List.set_cons_succ, i64_w, i32_w]
                        rfl
                       refine pure_ (i := 28) (N := some 176) (v := ?_) (a' := ?_) #[true, true, true, true, true, true, true, true, true, true, true, true, true, true, true, true, true, true, true, true, true, true, true, true, true, true, true, true, true, false, false] rfl rfl (any_of HT_.out (by kernel_rfl)) (fun _ _ _ h => h) (Or.inl ⟨by rfl, ?_⟩) ?_ ?_
                       rotate_left
                       ·
                        intro w'
                        go_simp
                        with_reducible rfl
                       rotate_left
                       ·
                        simp only [Act.put, List.setIfInBounds_toArray, List.set_cons_zero, List.set_cons_succ, i64_w, i32_w]
                        rfl
                       refine pure_ (i := 29) (N := some 177) (v := ?_) (a' := ?_) #[true, true, true, true, true, true, true, true, true, true, true, true, true, true, true, true, true, true, true, true, true, true, true, true, true, true, true, true, true, true, false] rfl rfl (any_of HT_.out (by kernel_rfl)) (fun _ _ _ h => h) (Or.inl ⟨by rfl, ?_⟩) ?_ ?_
                       rotate_left
                       ·
                        intro w'
                        go_simp
                        with_reducible rfl
                       rotate_left
                       ·
                        simp only [Act.put, List.setIfInBounds_toArray, List.set_cons_zero, List.set_cons_succ, i64_w, i32_w]
                        rfl
                       refine pure_ (i := 30) (N := some 178) (v := ?_) (a' := ?_) #[true, true, true, true, true, true, true, true, true, true, true, true, true, true, true, true, true, true, true, true, true, true, true, true, true, true, true, true, true, true, true] rfl rfl (any_of HT_.out (by kernel_rfl)) (fun _ _ _ h => h) (Or.inl ⟨by rfl, ?_⟩) ?_ ?_
                       rotate_left
                       ·
                        intro w'
                        go_simp
                        with_reducible rfl
                       rotate_left
                       ·
                        simp only [Act.put, List.setIfInBounds_toArray, List.set_cons_zero, List.set_cons_succ, i64_w, i32_w]
                        rfl
                       refine done_ (done_of HT_.out (by kernel_rfl)) ?_
                       try go_wp2
                       go_meet
                       case rel => exact ⟨_, ((t627 != (wrap64 (t622 + (wrap64 ((wrap64 (((rd_T57 l0 (ji68)).f1) - ((rd_T57 l1 0).f1))) * t623)))))), (by first | rfl | (simp; done) | (simp only [← hji68] <;> (first | rfl | simp)) | (simp [*]; done)), H', ⟨by have := HJ6.out; have := HJ16.out; have := HJ24.out; have := HJ26.out; have := HJ46.out; first | omega | exact Nat.le_refl _⟩, ⟨by (with_reducible repeat (first | refine blk_drewN ?_ _ | refine blk_drew ?_ | refine blk_alloc ?_ _)); exact BK621.out⟩, ⟨by (with_reducible repeat (first | refine blk_drewN ?_ _ | refine blk_drew ?_ | refine blk_alloc ?_ _)); exact BK625.out⟩, ⟨by (with_reducible repeat (first | refine blk_drewN ?_ _ | refine blk_drew ?_ | refine blk_alloc ?_ _)); exact BK630.out⟩, ⟨by repeat (first | (with_reducible first | exact HB.out | apply below_alloc | apply pw_below_drewN | apply below_drew1 | refine below_set ?_ GE621.out | refine below_set ?_ GE625.out | refine below_set ?_ GE630.out) | exact HB.out)⟩⟩
                      ·
                       rw [if_neg c91] at H
                       have c91b0 : (t623 == t628) = false := beq_eq_false_iff_ne.mpr c91
                       have c91b1 : (t623 != t628) = true := bne_iff_ne.mpr c91
                       have H' := Aside0.mk H
                       clear H
                       try go_wp2
                       have n0_ : Aside0 (Kd.R k57 57 ((w86.setCell ⟨gb630, 0, none⟩ (.int .i64 t627)).setCell ⟨gb630, 1, none⟩ (.int .i64 t628)) w.heap.size (fun k_ => k_ ≠ gb621) (.slice Ao81 t593.length co81) t593) := ⟨by (with_reducible repeat (first | apply Kd.R_alloc | apply Kd.R_drewN | apply Kd.R_drew)); exact Kd.R_mono (Kd.R_far (p := ⟨gb630, 1, none⟩) (Kd.R_far (p := ⟨gb630, 0, none⟩) (Kd.R_types HO_9.out BK630.out (by decide)) (fun _ hk => hk.2) (.int .i64 t627)) (fun _ hk => hk.2) (.int .i64 t628)) (fun _ hk => hk.1)⟩
                       have n1_ : Aside0 (((w86.setCell ⟨gb630, 0, none⟩ (.int .i64 t627)).setCell ⟨gb630, 1, none⟩ (.int .i64 t628)).heap[gb621]? = some (.cells #[.int .i64 ((rd_T57 l0 (ji68)).f0), .int .i64 ((rd_T57 l0 (ji68)).f1)] 57 (0, 0))) := ⟨by (with_reducible repeat (first | refine blk_drewN ?_ _ | refine blk_drew ?_ | refine blk_alloc ?_ _)); refine blk_far ?_ NB621_630.out _; (with_reducible repeat (first | refine blk_drewN ?_ _ | refine blk_drew ?_ | refine blk_alloc ?_ _)); refine blk_far ?_ NB621_630.out _; (with_reducible repeat (first | refine blk_drewN ?_ _ | refine blk_drew ?_ | refine blk_alloc ?_ _)); exact BK621.out⟩
                       have n2_ : Aside0 (((w86.setCell ⟨gb630, 0, none⟩ (.int .i64 t627)).setCell ⟨gb630, 1, none⟩ (.int .i64 t628)).heap[gb625]? = some (.cells #[.int .i64 t622, .int .i64 t623] 25 (0, 0))) := ⟨by (with_reducible repeat (first | refine blk_drewN ?_ _ | refine blk_drew ?_ | refine blk_alloc ?_ _)); refine blk_far ?_ NB625_630.out _; (with_reducible repeat (first | refine blk_drewN ?_ _ | refine blk_drew ?_ | refine blk_alloc ?_ _)); refine blk_far ?_ NB625_630.out _; (with_reducible repeat (first | refine blk_drewN ?_ _ | refine blk_drew ?_ | refine blk_alloc ?_ _)); exact BK625.out⟩
                       have n3_ : Aside0 (((w86.setCell ⟨gb630, 0, none⟩ (.int .i64 t627)).setCell ⟨gb630, 1, none⟩ (.int .i64 t628)).heap[gb630]? = some (.cells #[.int .i64 t627, .int .i64 t628] 25 (0, 0))) := ⟨by (with_reducible repeat (first | refine blk_drewN ?_ _ | refine blk_drew ?_ | refine blk_alloc ?_ _)); refine blk_put (cs := #[.int .i64 t627, .int .i64 0]) ?_ 1 _ rfl; (with_reducible repeat (first | refine blk_drewN ?_ _ | refine blk_drew ?_ | refine blk_alloc ?_ _)); refine blk_put (cs := #[.int .i64 0, .int .i64 0]) ?_ 0 _ rfl; (with_reducible repeat (first | refine blk_drewN ?_ _ | refine blk_drew ?_ | refine blk_alloc ?_ _)); exact BK630.out⟩
                       have n4_ : Aside0 (Below w.heap.size w ((w86.setCell ⟨gb630, 0, none⟩ (.int .i64 t627)).setCell ⟨gb630, 1, none⟩ (.int .i64 t628))) := ⟨by repeat (first | (with_reducible first | exact HB.out | apply below_alloc | apply pw_below_drewN | apply below_drew1 | refine below_set ?_ GE621.out | refine below_set ?_ GE625.out | refine below_set ?_ GE630.out) | exact HB.out)⟩
                       (try clear HO_9)
                       (try clear BK621)
                       (try clear BK625)
                       (try clear BK630)
                       (try clear HB)
                       generalize ((w86.setCell ⟨gb630, 0, none⟩ (.int .i64 t627)).setCell ⟨gb630, 1, none⟩ (.int .i64 t628)) = w94 at n0_ n1_ n2_ n3_ n4_ ⊢
                       have HO_9 := n0_
                       have BK621 := n1_
                       have BK625 := n2_
                       have BK630 := n3_
                       have HB := n4_
                       clear n0_ n1_ n2_ n3_ n4_
                       have n0_ := Aside0.mk (Kd.R_drew HO_9.out)
                       have n1_ := Aside0.mk (blk_drew BK621.out)
                       have n2_ := Aside0.mk (blk_drew BK625.out)
                       have n3_ := Aside0.mk (blk_drew BK630.out)
                       have n4_ := Aside0.mk (below_drew1 HB.out)
                       clear HO_9
                       clear BK621
                       clear BK625
                       clear BK630
                       clear HB
                       have HO_9 := n0_
                       have BK621 := n1_
                       have BK625 := n2_
                       have BK630 := n3_
                       have HB := n4_
                       clear n0_ n1_ n2_ n3_ n4_
                       refine start_ (n := 31) (S := fun w' => w'.cell? ⟨gb625, 0, none⟩ = some (.int .i64 t622) ∧ w'.cell? ⟨gb625, 1, none⟩ = some (.int .i64 t623) ∧ w'.cell? ⟨gb630, 0, none⟩ = some (.int .i64 t627) ∧ w'.cell? ⟨gb630, 1, none⟩ = some (.int .i64 t628)) (ds := []) #[false, false, false, false, false, false, false, false, false, false, false, false, false, false, false, false, false, false, false, false, false, false, false, false, false, false, false, false, false, false, false] (by kernel_rfl) rfl rfl ⟨(blk_cell BK625.out 0).trans rfl, (blk_cell BK625.out 1).trans rfl, (blk_cell BK630.out 0).trans rfl, (blk_cell BK630.out 1).trans rfl⟩ (fun hHeld => ?_); refine with_tabW law_CurveJoins.tab25 law_CurveJoins.bits25 (fun HT_ HW_ => ?_)
                       generalize w94.drew = w95 at HO_9 BK621 BK625 BK630 HB hHeld ⊢
                       refine pure_ (i := 0) (N := some 148) (v := ?_) (a' := ?_) #[true, false, false, false, false, false, false, false, false, false, false, false, false, false, false, false, false, false, false, false, false, false, false, false, false, false, false, false, false, false, false] rfl rfl (any_of HT_.out (by kernel_rfl)) (fun _ _ _ h => h) (Or.inl ⟨by rfl, ?_⟩) ?_ ?_
                       rotate_left
                       ·
                        intro w'
                        go_simp
                        with_reducible rfl
                       rotate_left
                       ·
                        simp only [Act.put, List.setIfInBounds_toArray, List.set_cons_zero, List.set_cons_succ, i64_w, i32_w]
                        rfl
                       refine pure_ (i := 1) (N := some 149) (v := ?_) (a' := ?_) #[true, true, false, false, false, false, false, false, false, false, false, false, false, false, false, false, false, false, false, false, false, false, false, false, false, false, false, false, false, false, false] rfl rfl (any_of HT_.out (by kernel_rfl)) (fun _ _ _ h => h) (Or.inl ⟨by rfl, ?_⟩) ?_ ?_
                       rotate_left
                       ·
                        intro w'
                        go_simp
                        with_reducible rfl
                       rotate_left
                       ·
                        simp only [Act.put, List.setIfInBounds_toArray, List.set_cons_zero, List.set_cons_succ, i64_w, i32_w]
                        rfl
                       refine pure_ (i := 2) (N := some 150) (v := ?_) (a' := ?_) #[true, true, true, false, false, false, false, false, false, false, false, false, false, false, false, false, false, false, false, false, false, false, false, false, false, false, false, false, false, false, false] rfl rfl (any_of HT_.out (by kernel_rfl)) (fun _ _ _ h => h) (Or.inl ⟨by rfl, ?_⟩) ?_ ?_
                       rotate_left
                       ·
                        intro w'
                        go_simp
                        with_reducible rfl
                       rotate_left
                       ·
                        simp only [Act.put, List.setIfInBounds_toArray, List.set_cons_zero, List.set_cons_succ, i64_w, i32_w]
                        rfl
                       refine pure_ (i := 3) (N := some 151) (v := ?_) (a' := ?_) #[true, true, true, true, false, false, false, false, false, false, false, false, false, false, false, false, false, false, false, false, false, false, false, false, false, false, false, false, false, false, false] rfl rfl (any_of HT_.out (by kernel_rfl)) (fun _ _ _ h => h) (Or.inl ⟨by rfl, ?_⟩) ?_ ?_
                       rotate_left
                       ·
                        intro w'
                        go_simp
                        with_reducible rfl
                       rotate_left
                       ·
                        simp only [Act.put, List.setIfInBounds_toArray, List.set_cons_zero, List.set_cons_succ, i64_w, i32_w]
                        rfl
                       refine pure_ (i := 4) (N := some 152) (v := ?_) (a' := ?_) #[true, true, true, true, true, false, false, false, false, false, false, false, false, false, false, false, false, false, false, false, false, false, false, false, false, false, false, false, false, false, false] rfl rfl (any_of HT_.out (by kernel_rfl)) (fun _ _ _ h => h) (Or.inl ⟨by rfl, ?_⟩) ?_ ?_
                       rotate_left
                       ·
                        intro w'
                        go_simp
                        with_reducible rfl
                       rotate_left
                       ·
                        simp only [Act.put, List.setIfInBounds_toArray, List.set_cons_zero, List.set_cons_succ, i64_w, i32_w]
                        rfl
                       refine pure_ (i := 5) (N := some 153) (v := ?_) (a' := ?_) #[true, true, true, true, true, true, false, false, false, false, false, false, false, false, false, false, false, false, false, false, false, false, false, false, false, false, false, false, false, false, false] rfl rfl (any_of HT_.out (by kernel_rfl)) (fun _ _ _ h => h) (Or.inl ⟨by rfl, ?_⟩) ?_ ?_
                       rotate_left
                       ·
                        intro w'
                        go_simp
                        with_reducible rfl
                       rotate_left
                       ·
                        simp only [Act.put, List.setIfInBounds_toArray, List.set_cons_zero, List.set_cons_succ, i64_w, i32_w]
                        rfl
                       refine pure_ (i := 6) (N := some 154) (v := ?_) (a' := ?_) #[true, true, true, true, true, true, true, false, false, false, false, false, false, false, false, false, false, false, false, false, false, false, false, false, false, false, false, false, false, false, false] rfl rfl (any_of HT_.out (by kernel_rfl)) (fun _ _ _ h => h) (Or.inl ⟨by rfl, ?_⟩) ?_ ?_
                       rotate_left
                       ·
                        intro w'
                        go_simp
                        with_reducible rfl
                       rotate_left
                       ·
                        simp only [Act.put, List.setIfInBounds_toArray, List.set_cons_zero, List.set_cons_succ, i64_w, i32_w]
                        rfl
                       refine pure_ (i := 7) (N := some 155) (v := ?_) (a' := ?_) #[true, true, true, true, true, true, true, true, false, false, false, false, false, false, false, false, false, false, false, false, false, false, false, false, false, false, false, false, false, false, false] rfl rfl (any_of HT_.out (by kernel_rfl)) (fun _ _ _ h => h) (Or.inl ⟨by rfl, ?_⟩) ?_ ?_
                       rotate_left
                       ·
                        intro w'
                        go_simp
                        with_reducible rfl
                       rotate_left
                       ·
                        simp only [Act.put, List.setIfInBounds_toArray, List.set_cons_zero, List.set_cons_succ, i64_w, i32_w]
                        rfl
                       refine pure_ (i := 9) (N := some 157) (v := ?_) (a' := ?_) #[true, true, true, true, true, true, true, true, false, true, false, false, false, false, false, false, false, false, false, false, false, false, false, false, false, false, false, false, false, false, false] rfl rfl (any_of HT_.out (by kernel_rfl)) (fun _ _ _ h => h) (Or.inl ⟨by rfl, ?_⟩) ?_ ?_
                       rotate_left
                       ·
                        intro w'
                        go_simp
                        with_reducible rfl
                       rotate_left
                       ·
                        simp only [Act.put, List.setIfInBounds_toArray, List.set_cons_zero, List.set_cons_succ, i64_w, i32_w]
                        rfl
                       refine take_ (i := 8) (N := some 156) (v := ?_) (a' := ?_) #[true, true, true, true, true, true, true, true, true, true, false, false, false, false, false, false, false, false, false, false, false, false, false, false, false, false, false, false, false, false, false] rfl rfl (take_ofW HT_.out HW_.out (by kernel_rfl)) (fun _ _ _ h => h) (Or.inl ⟨by rfl, ?_⟩) hHeld ?_ ?_
                       rotate_left
                       ·
                        rintro w' ⟨s0, s1, s2, s3⟩
                        go_simp
                        with_reducible rfl
                       rotate_left
                       ·
                        simp only [Act.put, List.setIfInBounds_toArray, List.set_cons_zero, List.set_cons_succ, i64_w, i32_w]
                        rfl
                       refine take_ (i := 10) (N := some 158) (v := ?_) (a' := ?_) #[true, true, true, true, true, true, true, true, true, true, true, false, false, false, false, false, false, false, false, false, false, false, false, false, false, false, false, false, false, false, false] rfl rfl (take_ofW HT_.out HW_.out (by kernel_rfl)) (fun _ _ _ h => h) (Or.inl ⟨by rfl, ?_⟩) hHeld ?_ ?_
                       rotate_left
                       ·
                        rintro w' ⟨s0, s1, s2, s3⟩
                        go_simp
                        with_reducible rfl
                       rotate_left
                       ·
                        simp only [Act.put, List.setIfInBounds_toArray, List.set_cons_zero, List.set_cons_succ, i64_w, i32_w]
                        rfl
                       refine pure_ (i := 11) (N := some 159) (v := ?_) (a' := ?_) #[true, true, true, true, true, true, true, true, true, true, true, true, false, false, false, false, false, false, false, false, false, false, false, false, false, false, false, false, false, false, false] rfl rfl (any_of HT_.out (by kernel_rfl)) (fun _ _ _ h => h) (Or.inl ⟨by rfl, ?_⟩) ?_ ?_
                       rotate_left
                       ·
                        intro w'
                        go_simp
                        with_reducible rfl
                       rotate_left
                       ·
                        simp only [Act.put, List.setIfInBounds_toArray, List.set_cons_zero, List.set_cons_succ, i64_w, i32_w]
                        rfl
                       refine pure_ (i := 12) (N := some 160) (v := ?_) (a' := ?_) #[true, true, true, true, true, true, true, true, true, true, true, true, true, false, false, false, false, false, false, false, false, false, false, false, false, false, false, false, false, false, false] rfl rfl (any_of HT_.out (by kernel_rfl)) (fun _ _ _ h => h) (Or.inl ⟨by rfl, ?_⟩) ?_ ?_
                       rotate_left
                       ·
                        intro w'
                        go_simp
                        with_reducible rfl
                       rotate_left
                       ·
                        simp only [Act.put, List.setIfInBounds_toArray, List.set_cons_zero, List.set_cons_succ, i64_w, i32_w]
                        rfl
                       refine pure_ (i := 13) (N := some 161) (v := ?_) (a' := ?_) #[true, true, true, true, true, true, true, true, true, true, true, true, true, true, false, false, false, false, false, false, false, false, false, false, false, false, false, false, false, false, false] rfl rfl (any_of HT_.out (by kernel_rfl)) (fun _ _ _ h => h) (Or.inl ⟨by rfl, ?_⟩) ?_ ?_
                       rotate_left
                       ·
                        intro w'
                        go_simp
                        with_reducible rfl
                       rotate_left
                       ·
                        simp only [Act.put, List.setIfInBounds_toArray, List.set_cons_zero, List.set_cons_succ, i64_w, i32_w]
                        rfl
                       refine pure_ (i := 14) (N := some 162) (v := undef) (a' := ?_) #[true, true, true, true, true, true, true, true, true, true, true, true, true, true, true, false, false, false, false, false, false, false, false, false, false, false, false, false, false, false, false] rfl rfl (any_of HT_.out (by kernel_rfl)) (fun _ _ _ h => h) (Or.inr ⟨by rfl, rfl⟩) ?_ ?_
                       rotate_left
                       ·
                        simp only [Act.put, List.setIfInBounds_toArray, List.set_cons_zero, List.set_cons_succ, i64_w, i32_w]
                        rfl
                       refine pure_ (i := 15) (N := some 163) (v := undef) (a' := ?_) #[true, true, true, true, true, true, true, true, true, true, true, true, true, true, true, true, false, false, false, false, false, false, false, false, false, false, false, false, false, false, false] rfl rfl (any_of HT_.out (by kernel_rfl)) (fun _ _ _ h => h) (Or.inr ⟨by rfl, rfl⟩) ?_ ?_
                       rotate_left
                       ·
                        simp only [Act.put, List.setIfInBounds_toArray, List.set_cons_zero, List.set_cons_succ, i64_w, i32_w]
                        rfl
                       refine pure_ (i := 16) (N := some 164) (v := undef) (a' := ?_) #[true, true, true, true, true, true, true, true, true, true, true, true, true, true, true, true, true, false, false, false, false, false, false, false, false, false, false, false, false, false, false] rfl rfl (any_of HT_.out (by kernel_rfl)) (fun _ _ _ h => h) (Or.inr ⟨by rfl, rfl⟩) ?_ ?_
                       rotate_left
                       ·
                        simp only [Act.put, List.setIfInBounds_toArray, List.set_cons_zero, List.set_cons_succ, i64_w, i32_w]
                        rfl
                       refine pure_ (i := 17) (N := some 165) (v := undef) (a' := ?_) #[true, true, true, true, true, true, true, true, true, true, true, true, true, true, true, true, true, true, false, false, false, false, false, false, false, false, false, false, false, false, false] rfl rfl (any_of HT_.out (by kernel_rfl)) (fun _ _ _ h => h) (Or.inr ⟨by rfl, rfl⟩) ?_ ?_
                       rotate_left
                       ·
                        simp only [Act.put, List.setIfInBounds_toArray, List.set_cons_zero, List.set_cons_succ, i64_w, i32_w]
                        rfl
                       refine pure_ (i := 18) (N := some 166) (v := undef) (a' := ?_) #[true, true, true, true, true, true, true, true, true, true, true, true, true, true, true, true, true, true, true, false, false, false, false, false, false, false, false, false, false, false, false] rfl rfl (any_of HT_.out (by kernel_rfl)) (fun _ _ _ h => h) (Or.inr ⟨by rfl, rfl⟩) ?_ ?_
                       rotate_left
                       ·
                        simp only [Act.put, List.setIfInBounds_toArray, List.set_cons_zero, List.set_cons_succ, i64_w, i32_w]
                        rfl
                       refine pure_ (i := 19) (N := some 167) (v := undef) (a' := ?_) #[true, true, true, true, true, true, true, true, true, true, true, true, true, true, true, true, true, true, true, true, false, false, false, false, false, false, false, false, false, false, false] rfl rfl (any_of HT_.out (by kernel_rfl)) (fun _ _ _ h => h) (Or.inr ⟨by rfl, rfl⟩) ?_ ?_
                       rotate_left
                       ·
                        simp only [Act.put, List.setIfInBounds_toArray, List.set_cons_zero, List.set_cons_succ, i64_w, i32_w]
                        rfl
                       refine pure_ (i := 20) (N := some 168) (v := undef) (a' := ?_) #[true, true, true, true, true, true, true, true, true, true, true, true, true, true, true, true, true, true, true, true, true, false, false, false, false, false, false, false, false, false, false] rfl rfl (any_of HT_.out (by kernel_rfl)) (fun _ _ _ h => h) (Or.inr ⟨by rfl, rfl⟩) ?_ ?_
                       rotate_left
                       ·
                        simp only [Act.put, List.setIfInBounds_toArray, List.set_cons_zero, List.set_cons_succ, i64_w, i32_w]
                        rfl
                       refine pure_ (i := 21) (N := some 169) (v := undef) (a' := ?_) #[true, true, true, true, true, true, true, true, true, true, true, true, true, true, true, true, true, true, true, true, true, true, false, false, false, false, false, false, false, false, false] rfl rfl (any_of HT_.out (by kernel_rfl)) (fun _ _ _ h => h) (Or.inr ⟨by rfl, rfl⟩) ?_ ?_
                       rotate_left
                       ·
                        simp only [Act.put, List.setIfInBounds_toArray, List.set_cons_zero, List.set_cons_succ, i64_w, i32_w]
                        rfl
                       refine pure_ (i := 22) (N := some 170) (v := undef) (a' := ?_) #[true, true, true, true, true, true, true, true, true, true, true, true, true, true, true, true, true, true, true, true, true, true, true, false, false, false, false, false, false, false, false] rfl rfl (any_of HT_.out (by kernel_rfl)) (fun _ _ _ h => h) (Or.inr ⟨by rfl, rfl⟩) ?_ ?_
                       rotate_left
                       ·
                        simp only [Act.put, List.setIfInBounds_toArray, List.set_cons_zero, List.set_cons_succ, i64_w, i32_w]
                        rfl
                       refine pure_ (i := 23) (N := some 171) (v := undef) (a' := ?_) #[true, true, true, true, true, true, true, true, true, true, true, true, true, true, true, true, true, true, true, true, true, true, true, true, false, false, false, false, false, false, false] rfl rfl (any_of HT_.out (by kernel_rfl)) (fun _ _ _ h => h) (Or.inr ⟨by rfl, rfl⟩) ?_ ?_
                       rotate_left
                       ·
                        simp only [Act.put, List.setIfInBounds_toArray, List.set_cons_zero, List.set_cons_succ, i64_w, i32_w]
                        rfl
                       refine pure_ (i := 24) (N := some 172) (v := undef) (a' := ?_) #[true, true, true, true, true, true, true, true, true, true, true, true, true, true, true, true, true, true, true, true, true, true, true, true, true, false, false, false, false, false, false] rfl rfl (any_of HT_.out (by kernel_rfl)) (fun _ _ _ h => h) (Or.inr ⟨by rfl, rfl⟩) ?_ ?_
                       rotate_left
                       ·
                        simp only [Act.put, List.setIfInBounds_toArray, List.set_cons_zero, List.set_cons_succ, i64_w, i32_w]
                        rfl
                       refine pure_ (i := 25) (N := some 173) (v := undef) (a' := ?_) #[true, true, true, true, true, true, true, true, true, true, true, true, true, true, true, true, true, true, true, true, true, true, true, true, true, true, false, false, false, false, false] rfl rfl (any_of HT_.out (by kernel_rfl)) (fun _ _ _ h => h) (Or.inr ⟨by rfl, rfl⟩) ?_ ?_
                       rotate_left
                       ·
                        simp only [Act.put, List.setIfInBounds_toArray, List.set_cons_zero, List.set_cons_succ, i64_w, i32_w]
                        rfl
                       refine pure_ (i := 26) (N := some 174) (v := undef) (a' := ?_) #[true, true, true, true, true, true, true, true, true, true, true, true, true, true, true, true, true, true, true, true, true, true, true, true, true, true, true, false, false, false, false] rfl rfl (any_of HT_.out (by kernel_rfl)) (fun _ _ _ h => h) (Or.inr ⟨by rfl, rfl⟩) ?_ ?_
                       rotate_left
                       ·
                        simp only [Act.put, List.setIfInBounds_toArray, List.set_cons_zero, List.set_cons_succ, i64_w, i32_w]
                        rfl
                       refine pure_ (i := 27) (N := some 175) (v := undef) (a' := ?_) #[true, true, true, true, true, true, true, true, true, true, true, true, true, true, true, true, true, true, true, true, true, true, true, true, true, true, true, true, false, false, false] rfl rfl (any_of HT_.out (by kernel_rfl)) (fun _ _ _ h => h) (Or.inr ⟨by rfl, rfl⟩) ?_ ?_
                       rotate_left
                       ·
                        simp only [Act.put, List.setIfInBounds_toArray, List.set_cons_zero, List.set_cons_succ, i64_w, i32_w]
                        rfl
                       refine pure_ (i := 28) (N := some 176) (v := undef) (a' := ?_) #[true, true, true, true, true, true, true, true, true, true, true, true, true, true, true, true, true, true, true, true, true, true, true, true, true, true, true, true, true, false, false] rfl rfl (any_of HT_.out (by kernel_rfl)) (fun _ _ _ h => h) (Or.inr ⟨by rfl, rfl⟩) ?_ ?_
                       rotate_left
                       ·
                        simp only [Act.put, List.setIfInBounds_toArray, List.set_cons_zero, List.set_cons_succ, i64_w, i32_w]
                        rfl
                       refine pure_ (i := 29) (N := some 177) (v := undef) (a' := ?_) #[true, true, true, true, true, true, true, true, true, true, true, true, true, true, true, true, true, true, true, true, true, true, true, true, true, true, true, true, true, true, false] rfl rfl (any_of HT_.out (by kernel_rfl)) (fun _ _ _ h => h) (Or.inr ⟨by rfl, rfl⟩) ?_ ?_
                       rotate_left
                       ·
                        simp only [Act.put, List.setIfInBounds_toArray, List.set_cons_zero, List.set_cons_succ, i64_w, i32_w]
                        rfl
                       refine pure_ (i := 30) (N := some 178) (v := ?_) (a' := ?_) #[true, true, true, true, true, true, true, true, true, true, true, true, true, true, true, true, true, true, true, true, true, true, true, true, true, true, true, true, true, true, true] rfl rfl (any_of HT_.out (by kernel_rfl)) (fun _ _ _ h => h) (Or.inl ⟨by rfl, ?_⟩) ?_ ?_
                       rotate_left
                       ·
                        intro w'
                        go_simp
                        with_reducible rfl
                       rotate_left
                       ·
                        simp only [Act.put, List.setIfInBounds_toArray, List.set_cons_zero, List.set_cons_succ, i64_w, i32_w]
                        rfl
                       refine done_ (done_of HT_.out (by kernel_rfl)) ?_
                       try go_wp2
                       go_meet
                       case rel => exact ⟨_, (true), (by first | rfl | (simp; done) | (simp [*]; done)), H', ⟨by have := HJ6.out; have := HJ16.out; have := HJ24.out; have := HJ26.out; have := HJ46.out; first | omega | exact Nat.le_refl _⟩, ⟨by (with_reducible repeat (first | refine blk_drewN ?_ _ | refine blk_drew ?_ | refine blk_alloc ?_ _)); exact BK621.out⟩, ⟨by (with_reducible repeat (first | refine blk_drewN ?_ _ | refine blk_drew ?_ | refine blk_alloc ?_ _)); exact BK625.out⟩, ⟨by (with_reducible repeat (first | refine blk_drewN ?_ _ | refine blk_drew ?_ | refine blk_alloc ?_ _)); exact BK630.out⟩, ⟨by repeat (first | (with_reducible first | exact HB.out | apply below_alloc | apply pw_below_drewN | apply below_drew1 | refine below_set ?_ GE621.out | refine below_set ?_ GE625.out | refine below_set ?_ GE630.out) | exact HB.out)⟩⟩
                     ·
                      rw [if_neg c90] at H
                      have c90b0 : (t629 == 0) = false := beq_eq_false_iff_ne.mpr c90
                      have c90b1 : (t629 != 0) = true := bne_iff_ne.mpr c90
                      have H' := Aside0.mk H
                      clear H
                      try go_wp2
                      have n0_ : Aside0 (Kd.R k57 57 ((w86.setCell ⟨gb630, 0, none⟩ (.int .i64 t627)).setCell ⟨gb630, 1, none⟩ (.int .i64 t628)) w.heap.size (fun k_ => k_ ≠ gb621) (.slice Ao81 t593.length co81) t593) := ⟨by (with_reducible repeat (first | apply Kd.R_alloc | apply Kd.R_drewN | apply Kd.R_drew)); exact Kd.R_mono (Kd.R_far (p := ⟨gb630, 1, none⟩) (Kd.R_far (p := ⟨gb630, 0, none⟩) (Kd.R_types HO_9.out BK630.out (by decide)) (fun _ hk => hk.2) (.int .i64 t627)) (fun _ hk => hk.2) (.int .i64 t628)) (fun _ hk => hk.1)⟩
                      have n1_ : Aside0 (((w86.setCell ⟨gb630, 0, none⟩ (.int .i64 t627)).setCell ⟨gb630, 1, none⟩ (.int .i64 t628)).heap[gb621]? = some (.cells #[.int .i64 ((rd_T57 l0 (ji68)).f0), .int .i64 ((rd_T57 l0 (ji68)).f1)] 57 (0, 0))) := ⟨by (with_reducible repeat (first | refine blk_drewN ?_ _ | refine blk_drew ?_ | refine blk_alloc ?_ _)); refine blk_far ?_ NB621_630.out _; (with_reducible repeat (first | refine blk_drewN ?_ _ | refine blk_drew ?_ | refine blk_alloc ?_ _)); refine blk_far ?_ NB621_630.out _; (with_reducible repeat (first | refine blk_drewN ?_ _ | refine blk_drew ?_ | refine blk_alloc ?_ _)); exact BK621.out⟩
                      have n2_ : Aside0 (((w86.setCell ⟨gb630, 0, none⟩ (.int .i64 t627)).setCell ⟨gb630, 1, none⟩ (.int .i64 t628)).heap[gb625]? = some (.cells #[.int .i64 t622, .int .i64 t623] 25 (0, 0))) := ⟨by (with_reducible repeat (first | refine blk_drewN ?_ _ | refine blk_drew ?_ | refine blk_alloc ?_ _)); refine blk_far ?_ NB625_630.out _; (with_reducible repeat (first | refine blk_drewN ?_ _ | refine blk_drew ?_ | refine blk_alloc ?_ _)); refine blk_far ?_ NB625_630.out _; (with_reducible repeat (first | refine blk_drewN ?_ _ | refine blk_drew ?_ | refine blk_alloc ?_ _)); exact BK625.out⟩
                      have n3_ : Aside0 (((w86.setCell ⟨gb630, 0, none⟩ (.int .i64 t627)).setCell ⟨gb630, 1, none⟩ (.int .i64 t628)).heap[gb630]? = some (.cells #[.int .i64 t627, .int .i64 t628] 25 (0, 0))) := ⟨by (with_reducible repeat (first | refine blk_drewN ?_ _ | refine blk_drew ?_ | refine blk_alloc ?_ _)); refine blk_put (cs := #[.int .i64 t627, .int .i64 0]) ?_ 1 _ rfl; (with_reducible repeat (first | refine blk_drewN ?_ _ | refine blk_drew ?_ | refine blk_alloc ?_ _)); refine blk_put (cs := #[.int .i64 0, .int .i64 0]) ?_ 0 _ rfl; (with_reducible repeat (first | refine blk_drewN ?_ _ | refine blk_drew ?_ | refine blk_alloc ?_ _)); exact BK630.out⟩
                      have n4_ : Aside0 (Below w.heap.size w ((w86.setCell ⟨gb630, 0, none⟩ (.int .i64 t627)).setCell ⟨gb630, 1, none⟩ (.int .i64 t628))) := ⟨by repeat (first | (with_reducible first | exact HB.out | apply below_alloc | apply pw_below_drewN | apply below_drew1 | refine below_set ?_ GE621.out | refine below_set ?_ GE625.out | refine below_set ?_ GE630.out) | exact HB.out)⟩
                      (try clear HO_9)
                      (try clear BK621)
                      (try clear BK625)
                      (try clear BK630)
                      (try clear HB)
                      generalize ((w86.setCell ⟨gb630, 0, none⟩ (.int .i64 t627)).setCell ⟨gb630, 1, none⟩ (.int .i64 t628)) = w96 at n0_ n1_ n2_ n3_ n4_ ⊢
                      have HO_9 := n0_
                      have BK621 := n1_
                      have BK625 := n2_
                      have BK630 := n3_
                      have HB := n4_
                      clear n0_ n1_ n2_ n3_ n4_
                      have n0_ := Aside0.mk (Kd.R_drew HO_9.out)
                      have n1_ := Aside0.mk (blk_drew BK621.out)
                      have n2_ := Aside0.mk (blk_drew BK625.out)
                      have n3_ := Aside0.mk (blk_drew BK630.out)
                      have n4_ := Aside0.mk (below_drew1 HB.out)
                      clear HO_9
                      clear BK621
                      clear BK625
                      clear BK630
                      clear HB
                      have HO_9 := n0_
                      have BK621 := n1_
                      have BK625 := n2_
                      have BK630 := n3_
                      have HB := n4_
                      clear n0_ n1_ n2_ n3_ n4_
                      refine start_ (n := 31) (S := fun w' => True) (ds := []) #[false, false, false, false, false, false, false, false, false, false, false, false, false, false, false, false, false, false, false, false, false, false, false, false, false, false, false, false, false, false, false] (by kernel_rfl) rfl rfl trivial (fun hHeld => ?_); refine with_tabW law_CurveJoins.tab25 law_CurveJoins.bits25 (fun HT_ HW_ => ?_)
                      generalize w96.drew = w97 at HO_9 BK621 BK625 BK630 HB hHeld ⊢
                      refine pure_ (i := 0) (N := some 148) (v := ?_) (a' := ?_) #[true, false, false, false, false, false, false, false, false, false, false, false, false, false, false, false, false, false, false, false, false, false, false, false, false, false, false, false, false, false, false] rfl rfl (any_of HT_.out (by kernel_rfl)) (fun _ _ _ h => h) (Or.inl ⟨by rfl, ?_⟩) ?_ ?_
                      rotate_left
                      ·
                       intro w'
                       go_simp
                       with_reducible rfl
                      rotate_left
                      ·
                       simp only [Act.put, List.setIfInBounds_toArray, List.set_cons_zero, List.set_cons_succ, i64_w, i32_w]
                       rfl
                      refine pure_ (i := 1) (N := some 149) (v := ?_) (a' := ?_) #[true, true, false, false, false, false, false, false, false, false, false, false, false, false, false, false, false, false, false, false, false, false, false, false, false, false, false, false, false, false, false] rfl rfl (any_of HT_.out (by kernel_rfl)) (fun _ _ _ h => h) (Or.inl ⟨by rfl, ?_⟩) ?_ ?_
                      rotate_left
                      ·
                       intro w'
                       go_simp
                       with_reducible rfl
                      rotate_left
                      ·
                       simp only [Act.put, List.setIfInBounds_toArray, List.set_cons_zero, List.set_cons_succ, i64_w, i32_w]
                       rfl
                      refine pure_ (i := 2) (N := some 150) (v := ?_) (a' := ?_) #[true, true, true, false, false, false, false, false, false, false, false, false, false, false, false, false, false, false, false, false, false, false, false, false, false, false, false, false, false, false, false] rfl rfl (any_of HT_.out (by kernel_rfl)) (fun _ _ _ h => h) (Or.inl ⟨by rfl, ?_⟩) ?_ ?_
                      rotate_left
                      ·
                       intro w'
                       go_simp
                       with_reducible rfl
                      rotate_left
                      ·
                       simp only [Act.put, List.setIfInBounds_toArray, List.set_cons_zero, List.set_cons_succ, i64_w, i32_w]
                       rfl
                      refine pure_ (i := 3) (N := some 151) (v := ?_) (a' := ?_) #[true, true, true, true, false, false, false, false, false, false, false, false, false, false, false, false, false, false, false, false, false, false, false, false, false, false, false, false, false, false, false] rfl rfl (any_of HT_.out (by kernel_rfl)) (fun _ _ _ h => h) (Or.inl ⟨by rfl, ?_⟩) ?_ ?_
                      rotate_left
                      ·
                       intro w'
                       go_simp
                       with_reducible rfl
                      rotate_left
                      ·
                       simp only [Act.put, List.setIfInBounds_toArray, List.set_cons_zero, List.set_cons_succ, i64_w, i32_w]
                       rfl
                      refine pure_ (i := 4) (N := some 152) (v := ?_) (a' := ?_) #[true, true, true, true, true, false, false, false, false, false, false, false, false, false, false, false, false, false, false, false, false, false, false, false, false, false, false, false, false, false, false] rfl rfl (any_of HT_.out (by kernel_rfl)) (fun _ _ _ h => h) (Or.inl ⟨by rfl, ?_⟩) ?_ ?_
                      rotate_left
                      ·
                       intro w'
                       go_simp
                       with_reducible rfl
                      rotate_left
                      ·
                       simp only [Act.put, List.setIfInBounds_toArray, List.set_cons_zero, List.set_cons_succ, i64_w, i32_w]
                       rfl
                      refine pure_ (i := 5) (N := some 153) (v := ?_) (a' := ?_) #[true, true, true, true, true, true, false, false, false, false, false, false, false, false, false, false, false, false, false, false, false, false, false, false, false, false, false, false, false, false, false] rfl rfl (any_of HT_.out (by kernel_rfl)) (fun _ _ _ h => h) (Or.inl ⟨by rfl, ?_⟩) ?_ ?_
                      rotate_left
                      ·
                       intro w'
                       go_simp
                       with_reducible rfl
                      rotate_left
                      ·
                       simp only [Act.put, List.setIfInBounds_toArray, List.set_cons_zero, List.set_cons_succ, i64_w, i32_w]
                       rfl
                      refine pure_ (i := 6) (N := some 154) (v := ?_) (a' := ?_) #[true, true, true, true, true, true, true, false, false, false, false, false, false, false, false, false, false, false, false, false, false, false, false, false, false, false, false, false, false, false, false] rfl rfl (any_of HT_.out (by kernel_rfl)) (fun _ _ _ h => h) (Or.inl ⟨by rfl, ?_⟩) ?_ ?_
                      rotate_left
                      ·
                       intro w'
                       go_simp
                       with_reducible rfl
                      rotate_left
                      ·
                       simp only [Act.put, List.setIfInBounds_toArray, List.set_cons_zero, List.set_cons_succ, i64_w, i32_w]
                       rfl
                      refine pure_ (i := 7) (N := some 155) (v := undef) (a' := ?_) #[true, true, true, true, true, true, true, true, false, false, false, false, false, false, false, false, false, false, false, false, false, false, false, false, false, false, false, false, false, false, false] rfl rfl (any_of HT_.out (by kernel_rfl)) (fun _ _ _ h => h) (Or.inr ⟨by rfl, rfl⟩) ?_ ?_
                      rotate_left
                      ·
                       simp only [Act.put, List.setIfInBounds_toArray, List.set_cons_zero, List.set_cons_succ, i64_w, i32_w]
                       rfl
                      refine pure_ (i := 8) (N := some 156) (v := undef) (a' := ?_) #[true, true, true, true, true, true, true, true, true, false, false, false, false, false, false, false, false, false, false, false, false, false, false, false, false, false, false, false, false, false, false] rfl rfl (any_of HT_.out (by kernel_rfl)) (fun _ _ _ h => h) (Or.inr ⟨by rfl, rfl⟩) ?_ ?_
                      rotate_left
                      ·
                       simp only [Act.put, List.setIfInBounds_toArray, List.set_cons_zero, List.set_cons_succ, i64_w, i32_w]
                       rfl
                      refine pure_ (i := 9) (N := some 157) (v := undef) (a' := ?_) #[true, true, true, true, true, true, true, true, true, true, false, false, false, false, false, false, false, false, false, false, false, false, false, false, false, false, false, false, false, false, false] rfl rfl (any_of HT_.out (by kernel_rfl)) (fun _ _ _ h => h) (Or.inr ⟨by rfl, rfl⟩) ?_ ?_
                      rotate_left
                      ·
                       simp only [Act.put, List.setIfInBounds_toArray, List.set_cons_zero, List.set_cons_succ, i64_w, i32_w]
                       rfl
                      refine pure_ (i := 10) (N := some 158) (v := undef) (a' := ?_) #[true, true, true, true, true, true, true, true, true, true, true, false, false, false, false, false, false, false, false, false, false, false, false, false, false, false, false, false, false, false, false] rfl rfl (any_of HT_.out (by kernel_rfl)) (fun _ _ _ h => h) (Or.inr ⟨by rfl, rfl⟩) ?_ ?_
                      rotate_left
                      ·
                       simp only [Act.put, List.setIfInBounds_toArray, List.set_cons_zero, List.set_cons_succ, i64_w, i32_w]
                       rfl
                      refine pure_ (i := 11) (N := some 159) (v := undef) (a' := ?_) #[true, true, true, true, true, true, true, true, true, true, true, true, false, false, false, false, false, false, false, false, false, false, false, false, false, false, false, false, false, false, false] rfl rfl (any_of HT_.out (by kernel_rfl)) (fun _ _ _ h => h) (Or.inr ⟨by rfl, rfl⟩) ?_ ?_
                      rotate_left
                      ·
                       simp only [Act.put, List.setIfInBounds_toArray, List.set_cons_zero, List.set_cons_succ, i64_w, i32_w]
                       rfl
                      refine pure_ (i := 12) (N := some 160) (v := ?_) (a' := ?_) #[true, true, true, true, true, true, true, true, true, true, true, true, true, false, false, false, false, false, false, false, false, false, false, false, false, false, false, false, false, false, false] rfl rfl (any_of HT_.out (by kernel_rfl)) (fun _ _ _ h => h) (Or.inl ⟨by rfl, ?_⟩) ?_ ?_
                      rotate_left
                      ·
                       intro w'
                       go_simp
                       with_reducible rfl
                      rotate_left
                      ·
                       simp only [Act.put, List.setIfInBounds_toArray, List.set_cons_zero, List.set_cons_succ, i64_w, i32_w]
                       rfl
                      refine pure_ (i := 13) (N := some 161) (v := ?_) (a' := ?_) #[true, true, true, true, true, true, true, true, true, true, true, true, true, true, false, false, false, false, false, false, false, false, false, false, false, false, false, false, false, false, false] rfl rfl (any_of HT_.out (by kernel_rfl)) (fun _ _ _ h => h) (Or.inl ⟨by rfl, ?_⟩) ?_ ?_
                      rotate_left
                      ·
                       intro w'
                       go_simp
                       with_reducible rfl
                      rotate_left
                      ·
                       simp only [Act.put, List.setIfInBounds_toArray, List.set_cons_zero, List.set_cons_succ, i64_w, i32_w]
                       rfl
                      refine pure_ (i := 14) (N := some 162) (v := undef) (a' := ?_) #[true, true, true, true, true, true, true, true, true, true, true, true, true, true, true, false, false, false, false, false, false, false, false, false, false, false, false, false, false, false, false] rfl rfl (any_of HT_.out (by kernel_rfl)) (fun _ _ _ h => h) (Or.inr ⟨by rfl, rfl⟩) ?_ ?_
                      rotate_left
                      ·
                       simp only [Act.put, List.setIfInBounds_toArray, List.set_cons_zero, List.set_cons_succ, i64_w, i32_w]
                       rfl
                      refine pure_ (i := 15) (N := some 163) (v := undef) (a' := ?_) #[true, true, true, true, true, true, true, true, true, true, true, true, true, true, true, true, false, false, false, false, false, false, false, false, false, false, false, false, false, false, false] rfl rfl (any_of HT_.out (by kernel_rfl)) (fun _ _ _ h => h) (Or.inr ⟨by rfl, rfl⟩) ?_ ?_
                      rotate_left
                      ·
                       simp only [Act.put, List.setIfInBounds_toArray, List.set_cons_zero, List.set_cons_succ, i64_w, i32_w]
                       rfl
                      refine pure_ (i := 16) (N := some 164) (v := undef) (a' := ?_) #[true, true, true, true, true, true, true, true, true, true, true, true, true, true, true, true, true, false, false, false, false, false, false, false, false, false, false, false, false, false, false] rfl rfl (any_of HT_.out (by kernel_rfl)) (fun _ _ _ h => h) (Or.inr ⟨by rfl, rfl⟩) ?_ ?_
                      rotate_left
                      ·
                       simp only [Act.put, List.setIfInBounds_toArray, List.set_cons_zero, List.set_cons_succ, i64_w, i32_w]
                       rfl
                      refine pure_ (i := 17) (N := some 165) (v := undef) (a' := ?_) #[true, true, true, true, true, true, true, true, true, true, true, true, true, true, true, true, true, true, false, false, false, false, false, false, false, false, false, false, false, false, false] rfl rfl (any_of HT_.out (by kernel_rfl)) (fun _ _ _ h => h) (Or.inr ⟨by rfl, rfl⟩) ?_ ?_
                      rotate_left
                      ·
                       simp only [Act.put, List.setIfInBounds_toArray, List.set_cons_zero, List.set_cons_succ, i64_w, i32_w]
                       rfl
                      refine pure_ (i := 18) (N := some 166) (v := undef) (a' := ?_) #[true, true, true, true, true, true, true, true, true, true, true, true, true, true, true, true, true, true, true, false, false, false, false, false, false, false, false, false, false, false, false] rfl rfl (any_of HT_.out (by kernel_rfl)) (fun _ _ _ h => h) (Or.inr ⟨by rfl, rfl⟩) ?_ ?_
                      rotate_left
                      ·
                       simp only [Act.put, List.setIfInBounds_toArray, List.set_cons_zero, List.set_cons_succ, i64_w, i32_w]
                       rfl
                      refine pure_ (i := 19) (N := some 167) (v := undef) (a' := ?_) #[true, true, true, true, true, true, true, true, true, true, true, true, true, true, true, true, true, true, true, true, false, false, false, false, false, false, false, false, false, false, false] rfl rfl (any_of HT_.out (by kernel_rfl)) (fun _ _ _ h => h) (Or.inr ⟨by rfl, rfl⟩) ?_ ?_
                      rotate_left
                      ·
                       simp only [Act.put, List.setIfInBounds_toArray, List.set_cons_zero, List.set_cons_succ, i64_w, i32_w]
                       rfl
                      refine pure_ (i := 20) (N := some 168) (v := undef) (a' := ?_) #[true, true, true, true, true, true, true, true, true, true, true, true, true, true, true, true, true, true, true, true, true, false, false, false, false, false, false, false, false, false, false] rfl rfl (any_of HT_.out (by kernel_rfl)) (fun _ _ _ h => h) (Or.inr ⟨by rfl, rfl⟩) ?_ ?_
                      rotate_left
                      ·
                       simp only [Act.put, List.setIfInBounds_toArray, List.set_cons_zero, List.set_cons_succ, i64_w, i32_w]
                       rfl
                      refine pure_ (i := 21) (N := some 169) (v := undef) (a' := ?_) #[true, true, true, true, true, true, true, true, true, true, true, true, true, true, true, true, true, true, true, true, true, true, false, false, false, false, false, false, false, false, false] rfl rfl (any_of HT_.out (by kernel_rfl)) (fun _ _ _ h => h) (Or.inr ⟨by rfl, rfl⟩) ?_ ?_
                      rotate_left
                      ·
                       simp only [Act.put, List.setIfInBounds_toArray, List.set_cons_zero, List.set_cons_succ, i64_w, i32_w]
                       rfl
                      refine pure_ (i := 22) (N := some 170) (v := undef) (a' := ?_) #[true, true, true, true, true, true, true, true, true, true, true, true, true, true, true, true, true, true, true, true, true, true, true, false, false, false, false, false, false, false, false] rfl rfl (any_of HT_.out (by kernel_rfl)) (fun _ _ _ h => h) (Or.inr ⟨by rfl, rfl⟩) ?_ ?_
                      rotate_left
                      ·
                       simp only [Act.put, List.setIfInBounds_toArray, List.set_cons_zero, List.set_cons_succ, i64_w, i32_w]
                       rfl
                      refine pure_ (i := 23) (N := some 171) (v := undef) (a' := ?_) #[true, true, true, true, true, true, true, true, true, true, true, true, true, true, true, true, true, true, true, true, true, true, true, true, false, false, false, false, false, false, false] rfl rfl (any_of HT_.out (by kernel_rfl)) (fun _ _ _ h => h) (Or.inr ⟨by rfl, rfl⟩) ?_ ?_
                      rotate_left
                      ·
                       simp only [Act.put, List.setIfInBounds_toArray, List.set_cons_zero, List.set_cons_succ, i64_w, i32_w]
                       rfl
                      refine pure_ (i := 24) (N := some 172) (v := undef) (a' := ?_) #[true, true, true, true, true, true, true, true, true, true, true, true, true, true, true, true, true, true, true, true, true, true, true, true, true, false, false, false, false, false, false] rfl rfl (any_of HT_.out (by kernel_rfl)) (fun _ _ _ h => h) (Or.inr ⟨by rfl, rfl⟩) ?_ ?_
                      rotate_left
                      ·
                       simp only [Act.put, List.setIfInBounds_toArray, List.set_cons_zero, List.set_cons_succ, i64_w, i32_w]
                       rfl
                      refine pure_ (i := 25) (N := some 173) (v := undef) (a' := ?_) #[true, true, true, true, true, true, true, true, true, true, true, true, true, true, true, true, true, true, true, true, true, true, true, true, true, true, false, false, false, false, false] rfl rfl (any_of HT_.out (by kernel_rfl)) (fun _ _ _ h => h) (Or.inr ⟨by rfl, rfl⟩) ?_ ?_
                      rotate_left
                      ·
                       simp only [Act.put, List.setIfInBounds_toArray, List.set_cons_zero, List.set_cons_succ, i64_w, i32_w]
                       rfl
                      refine pure_ (i := 26) (N := some 174) (v := undef) (a' := ?_) #[true, true, true, true, true, true, true, true, true, true, true, true, true, true, true, true, true, true, true, true, true, true, true, true, true, true, true, false, false, false, false] rfl rfl (any_of HT_.out (by kernel_rfl)) (fun _ _ _ h => h) (Or.inr ⟨by rfl, rfl⟩) ?_ ?_
                      rotate_left
                      ·
                       simp only [Act.put, List.setIfInBounds_toArray, List.set_cons_zero, List.set_cons_succ, i64_w, i32_w]
                       rfl
                      refine pure_ (i := 27) (N := some 175) (v := undef) (a' := ?_) #[true, true, true, true, true, true, true, true, true, true, true, true, true, true, true, true, true, true, true, true, true, true, true, true, true, true, true, true, false, false, false] rfl rfl (any_of HT_.out (by kernel_rfl)) (fun _ _ _ h => h) (Or.inr ⟨by rfl, rfl⟩) ?_ ?_
                      rotate_left
                      ·
                       simp only [Act.put, List.setIfInBounds_toArray, List.set_cons_zero, List.set_cons_succ, i64_w, i32_w]
                       rfl
                      refine pure_ (i := 28) (N := some 176) (v := undef) (a' := ?_) #[true, true, true, true, true, true, true, true, true, true, true, true, true, true, true, true, true, true, true, true, true, true, true, true, true, true, true, true, true, false, false] rfl rfl (any_of HT_.out (by kernel_rfl)) (fun _ _ _ h => h) (Or.inr ⟨by rfl, rfl⟩) ?_ ?_
                      rotate_left
                      ·
                       simp only [Act.put, List.setIfInBounds_toArray, List.set_cons_zero, List.set_cons_succ, i64_w, i32_w]
                       rfl
                      refine pure_ (i := 29) (N := some 177) (v := undef) (a' := ?_) #[true, true, true, true, true, true, true, true, true, true, true, true, true, true, true, true, true, true, true, true, true, true, true, true, true, true, true, true, true, true, false] rfl rfl (any_of HT_.out (by kernel_rfl)) (fun _ _ _ h => h) (Or.inr ⟨by rfl, rfl⟩) ?_ ?_
                      rotate_left
                      ·
                       simp only [Act.put, List.setIfInBounds_toArray, List.set_cons_zero, List.set_cons_succ, i64_w, i32_w]
                       rfl
                      refine pure_ (i := 30) (N := some 178) (v := ?_) (a' := ?_) #[true, true, true, true, true, true, true, true, true, true, true, true, true, true, true, true, true, true, true, true, true, true, true, true, true, true, true, true, true, true, true] rfl rfl (any_of HT_.out (by kernel_rfl)) (fun _ _ _ h => h) (Or.inl ⟨by rfl, ?_⟩) ?_ ?_
                      rotate_left
                      ·
                       intro w'
                       go_simp
                       with_reducible rfl
                      rotate_left
                      ·
                       simp only [Act.put, List.setIfInBounds_toArray, List.set_cons_zero, List.set_cons_succ, i64_w, i32_w]
                       rfl
                      refine done_ (done_of HT_.out (by kernel_rfl)) ?_
                      try go_wp2
                      go_meet
                      case rel => exact ⟨_, (true), (by first | rfl | (simp; done) | (simp [*]; done)), H', ⟨by have := HJ6.out; have := HJ16.out; have := HJ24.out; have := HJ26.out; have := HJ46.out; first | omega | exact Nat.le_refl _⟩, ⟨by (with_reducible repeat (first | refine blk_drewN ?_ _ | refine blk_drew ?_ | refine blk_alloc ?_ _)); exact BK621.out⟩, ⟨by (with_reducible repeat (first | refine blk_drewN ?_ _ | refine blk_drew ?_ | refine blk_alloc ?_ _)); exact BK625.out⟩, ⟨by (with_reducible repeat (first | refine blk_drewN ?_ _ | refine blk_drew ?_ | refine blk_alloc ?_ _)); exact BK630.out⟩, ⟨by repeat (first | (with_reducible first | exact HB.out | apply below_alloc | apply pw_below_drewN | apply below_drew1 | refine below_set ?_ GE621.out | refine below_set ?_ GE625.out | refine below_set ?_ GE630.out) | exact HB.out)⟩⟩
                    ·
                     rw [if_neg c89] at H
                     have c89b0 : (t624 == 0) = false := beq_eq_false_iff_ne.mpr c89
                     have c89b1 : (t624 != 0) = true := bne_iff_ne.mpr c89
                     (first | rw [c89b0] | (simp only [i64_w, i32_w]; rw [c89b0]) | skip)
                     have H' := Aside0.mk H
                     clear H
                     try go_wp2
                     have n0_ : Aside0 (Kd.R k57 57 ((w86.setCell ⟨gb630, 0, none⟩ (.int .i64 t627)).setCell ⟨gb630, 1, none⟩ (.int .i64 t628)) w.heap.size (fun k_ => k_ ≠ gb621) (.slice Ao81 t593.length co81) t593) := ⟨by (with_reducible repeat (first | apply Kd.R_alloc | apply Kd.R_drewN | apply Kd.R_drew)); exact Kd.R_mono (Kd.R_far (p := ⟨gb630, 1, none⟩) (Kd.R_far (p := ⟨gb630, 0, none⟩) (Kd.R_types HO_9.out BK630.out (by decide)) (fun _ hk => hk.2) (.int .i64 t627)) (fun _ hk => hk.2) (.int .i64 t628)) (fun _ hk => hk.1)⟩
                     have n1_ : Aside0 (((w86.setCell ⟨gb630, 0, none⟩ (.int .i64 t627)).setCell ⟨gb630, 1, none⟩ (.int .i64 t628)).heap[gb621]? = some (.cells #[.int .i64 ((rd_T57 l0 (ji68)).f0), .int .i64 ((rd_T57 l0 (ji68)).f1)] 57 (0, 0))) := ⟨by (with_reducible repeat (first | refine blk_drewN ?_ _ | refine blk_drew ?_ | refine blk_alloc ?_ _)); refine blk_far ?_ NB621_630.out _; (with_reducible repeat (first | refine blk_drewN ?_ _ | refine blk_drew ?_ | refine blk_alloc ?_ _)); refine blk_far ?_ NB621_630.out _; (with_reducible repeat (first | refine blk_drewN ?_ _ | refine blk_drew ?_ | refine blk_alloc ?_ _)); exact BK621.out⟩
                     have n2_ : Aside0 (((w86.setCell ⟨gb630, 0, none⟩ (.int .i64 t627)).setCell ⟨gb630, 1, none⟩ (.int .i64 t628)).heap[gb625]? = some (.cells #[.int .i64 t622, .int .i64 t623] 25 (0, 0))) := ⟨by (with_reducible repeat (first | refine blk_drewN ?_ _ | refine blk_drew ?_ | refine blk_alloc ?_ _)); refine blk_far ?_ NB625_630.out _; (with_reducible repeat (first | refine blk_drewN ?_ _ | refine blk_drew ?_ | refine blk_alloc ?_ _)); refine blk_far ?_ NB625_630.out _; (with_reducible repeat (first | refine blk_drewN ?_ _ | refine blk_drew ?_ | refine blk_alloc ?_ _)); exact BK625.out⟩
                     have n3_ : Aside0 (((w86.setCell ⟨gb630, 0, none⟩ (.int .i64 t627)).setCell ⟨gb630, 1, none⟩ (.int .i64 t628)).heap[gb630]? = some (.cells #[.int .i64 t627, .int .i64 t628] 25 (0, 0))) := ⟨by (with_reducible repeat (first | refine blk_drewN ?_ _ | refine blk_drew ?_ | refine blk_alloc ?_ _)); refine blk_put (cs := #[.int .i64 t627, .int .i64 0]) ?_ 1 _ rfl; (with_reducible repeat (first | refine blk_drewN ?_ _ | refine blk_drew ?_ | refine blk_alloc ?_ _)); refine blk_put (cs := #[.int .i64 0, .int .i64 0]) ?_ 0 _ rfl; (with_reducible repeat (first | refine blk_drewN ?_ _ | refine blk_drew ?_ | refine blk_alloc ?_ _)); exact BK630.out⟩
                     have n4_ : Aside0 (Below w.heap.size w ((w86.setCell ⟨gb630, 0, none⟩ (.int .i64 t627)).setCell ⟨gb630, 1, none⟩ (.int .i64 t628))) := ⟨by repeat (first | (with_reducible first | exact HB.out | apply below_alloc | apply pw_below_drewN | apply below_drew1 | refine below_set ?_ GE621.out | refine below_set ?_ GE625.out | refine below_set ?_ GE630.out) | exact HB.out)⟩
                     (try clear HO_9)
                     (try clear BK621)
                     (try clear BK625)
                     (try clear BK630)
                     (try clear HB)
                     generalize ((w86.setCell ⟨gb630, 0, none⟩ (.int .i64 t627)).setCell ⟨gb630, 1, none⟩ (.int .i64 t628)) = w98 at n0_ n1_ n2_ n3_ n4_ ⊢
                     have HO_9 := n0_
                     have BK621 := n1_
                     have BK625 := n2_
                     have BK630 := n3_
                     have HB := n4_
                     clear n0_ n1_ n2_ n3_ n4_
                     have n0_ := Aside0.mk (Kd.R_drew HO_9.out)
                     have n1_ := Aside0.mk (blk_drew BK621.out)
                     have n2_ := Aside0.mk (blk_drew BK625.out)
                     have n3_ := Aside0.mk (blk_drew BK630.out)
                     have n4_ := Aside0.mk (below_drew1 HB.out)
                     clear HO_9
                     clear BK621
                     clear BK625
                     clear BK630
                     clear HB
                     have HO_9 := n0_
                     have BK621 := n1_
                     have BK625 := n2_
                     have BK630 := n3_
                     have HB := n4_
                     clear n0_ n1_ n2_ n3_ n4_
                     refine start_ (n := 31) (S := fun w' => True) (ds := []) #[false, false, false, false, false, false, false, false, false, false, false, false, false, false, false, false, false, false, false, false, false, false, false, false, false, false, false, false, false, false, false] (by kernel_rfl) rfl rfl trivial (fun hHeld => ?_); refine with_tabW law_CurveJoins.tab25 law_CurveJoins.bits25 (fun HT_ HW_ => ?_)
                     generalize w98.drew = w99 at HO_9 BK621 BK625 BK630 HB hHeld ⊢
                     refine pure_ (i := 0) (N := some 148) (v := ?_) (a' := ?_) #[true, false, false, false, false, false, false, false, false, false, false, false, false, false, false, false, false, false, false, false, false, false, false, false, false, false, false, false, false, false, false] rfl rfl (any_of HT_.out (by kernel_rfl)) (fun _ _ _ h => h) (Or.inl ⟨by rfl, ?_⟩) ?_ ?_
                     rotate_left
                     ·
                      intro w'
                      go_simp
                      with_reducible rfl
                     rotate_left
                     ·
                      simp only [Act.put, List.setIfInBounds_toArray, List.set_cons_zero, List.set_cons_succ, i64_w, i32_w]
                      rfl
                     refine pure_ (i := 1) (N := some 149) (v := ?_) (a' := ?_) #[true, true, false, false, false, false, false, false, false, false, false, false, false, false, false, false, false, false, false, false, false, false, false, false, false, false, false, false, false, false, false] rfl rfl (any_of HT_.out (by kernel_rfl)) (fun _ _ _ h => h) (Or.inl ⟨by rfl, ?_⟩) ?_ ?_
                     rotate_left
                     ·
                      intro w'
                      go_simp
                      with_reducible rfl
                     rotate_left
                     ·
                      simp only [Act.put, List.setIfInBounds_toArray, List.set_cons_zero, List.set_cons_succ, i64_w, i32_w]
                      rfl
                     refine pure_ (i := 2) (N := some 150) (v := ?_) (a' := ?_) #[true, true, true, false, false, false, false, false, false, false, false, false, false, false, false, false, false, false, false, false, false, false, false, false, false, false, false, false, false, false, false] rfl rfl (any_of HT_.out (by kernel_rfl)) (fun _ _ _ h => h) (Or.inl ⟨by rfl, ?_⟩) ?_ ?_
                     rotate_left
                     ·
                      intro w'
                      go_simp
                      with_reducible rfl
                     rotate_left
                     ·
                      simp only [Act.put, List.setIfInBounds_toArray, List.set_cons_zero, List.set_cons_succ, i64_w, i32_w]
                      rfl
                     refine pure_ (i := 3) (N := some 151) (v := undef) (a' := ?_) #[true, true, true, true, false, false, false, false, false, false, false, false, false, false, false, false, false, false, false, false, false, false, false, false, false, false, false, false, false, false, false] rfl rfl (any_of HT_.out (by kernel_rfl)) (fun _ _ _ h => h) (Or.inr ⟨by rfl, rfl⟩) ?_ ?_
                     rotate_left
                     ·
                      simp only [Act.put, List.setIfInBounds_toArray, List.set_cons_zero, List.set_cons_succ, i64_w, i32_w]
                      rfl
                     refine pure_ (i := 4) (N := some 152) (v := undef) (a' := ?_) #[true, true, true, true, true, false, false, false, false, false, false, false, false, false, false, false, false, false, false, false, false, false, false, false, false, false, false, false, false, false, false] rfl rfl (any_of HT_.out (by kernel_rfl)) (fun _ _ _ h => h) (Or.inr ⟨by rfl, rfl⟩) ?_ ?_
                     rotate_left
                     ·
                      simp only [Act.put, List.setIfInBounds_toArray, List.set_cons_zero, List.set_cons_succ, i64_w, i32_w]
                      rfl
                     refine pure_ (i := 5) (N := some 153) (v := ?_) (a' := ?_) #[true, true, true, true, true, true, false, false, false, false, false, false, false, false, false, false, false, false, false, false, false, false, false, false, false, false, false, false, false, false, false] rfl rfl (any_of HT_.out (by kernel_rfl)) (fun _ _ _ h => h) (Or.inl ⟨by rfl, ?_⟩) ?_ ?_
                     rotate_left
                     ·
                      intro w'
                      go_simp
                      with_reducible rfl
                     rotate_left
                     ·
                      simp only [Act.put, List.setIfInBounds_toArray, List.set_cons_zero, List.set_cons_succ, i64_w, i32_w]
                      rfl
                     refine pure_ (i := 6) (N := some 154) (v := ?_) (a' := ?_) #[true, true, true, true, true, true, true, false, false, false, false, false, false, false, false, false, false, false, false, false, false, false, false, false, false, false, false, false, false, false, false] rfl rfl (any_of HT_.out (by kernel_rfl)) (fun _ _ _ h => h) (Or.inl ⟨by rfl, ?_⟩) ?_ ?_
                     rotate_left
                     ·
                      intro w'
                      go_simp
                      with_reducible rfl
                     rotate_left
                     ·
                      simp only [Act.put, List.setIfInBounds_toArray, List.set_cons_zero, List.set_cons_succ, i64_w, i32_w]
                      rfl
                     refine pure_ (i := 7) (N := some 155) (v := undef) (a' := ?_) #[true, true, true, true, true, true, true, true, false, false, false, false, false, false, false, false, false, false, false, false, false, false, false, false, false, false, false, false, false, false, false] rfl rfl (any_of HT_.out (by kernel_rfl)) (fun _ _ _ h => h) (Or.inr ⟨by rfl, rfl⟩) ?_ ?_
                     rotate_left
                     ·
                      simp only [Act.put, List.setIfInBounds_toArray, List.set_cons_zero, List.set_cons_succ, i64_w, i32_w]
                      rfl
                     refine pure_ (i := 8) (N := some 156) (v := undef) (a' := ?_) #[true, true, true, true, true, true, true, true, true, false, false, false, false, false, false, false, false, false, false, false, false, false, false, false, false, false, false, false, false, false, false] rfl rfl (any_of HT_.out (by kernel_rfl)) (fun _ _ _ h => h) (Or.inr ⟨by rfl, rfl⟩) ?_ ?_
                     rotate_left
                     ·
                      simp only [Act.put, List.setIfInBounds_toArray, List.set_cons_zero, List.set_cons_succ, i64_w, i32_w]
                      rfl
                     refine pure_ (i := 9) (N := some 157) (v := undef) (a' := ?_) #[true, true, true, true, true, true, true, true, true, true, false, false, false, false, false, false, false, false, false, false, false, false, false, false, false, false, false, false, false, false, false] rfl rfl (any_of HT_.out (by kernel_rfl)) (fun _ _ _ h => h) (Or.inr ⟨by rfl, rfl⟩) ?_ ?_
                     rotate_left
                     ·
                      simp only [Act.put, List.setIfInBounds_toArray, List.set_cons_zero, List.set_cons_succ, i64_w, i32_w]
                      rfl
                     refine pure_ (i := 10) (N := some 158) (v := undef) (a' := ?_) #[true, true, true, true, true, true, true, true, true, true, true, false, false, false, false, false, false, false, false, false, false, false, false, false, false, false, false, false, false, false, false] rfl rfl (any_of HT_.out (by kernel_rfl)) (fun _ _ _ h => h) (Or.inr ⟨by rfl, rfl⟩) ?_ ?_
                     rotate_left
                     ·
                      simp only [Act.put, List.setIfInBounds_toArray, List.set_cons_zero, List.set_cons_succ, i64_w, i32_w]
                      rfl
                     refine pure_ (i := 11) (N := some 159) (v := undef) (a' := ?_) #[true, true, true, true, true, true, true, true, true, true, true, true, false, false, false, false, false, false, false, false, false, false, false, false, false, false, false, false, false, false, false] rfl rfl (any_of HT_.out (by kernel_rfl)) (fun _ _ _ h => h) (Or.inr ⟨by rfl, rfl⟩) ?_ ?_
                     rotate_left
                     ·
                      simp only [Act.put, List.setIfInBounds_toArray, List.set_cons_zero, List.set_cons_succ, i64_w, i32_w]
                      rfl
                     refine pure_ (i := 12) (N := some 160) (v := ?_) (a' := ?_) #[true, true, true, true, true, true, true, true, true, true, true, true, true, false, false, false, false, false, false, false, false, false, false, false, false, false, false, false, false, false, false] rfl rfl (any_of HT_.out (by kernel_rfl)) (fun _ _ _ h => h) (Or.inl ⟨by rfl, ?_⟩) ?_ ?_
                     rotate_left
                     ·
                      intro w'
                      go_simp
                      with_reducible rfl
                     rotate_left
                     ·
                      simp only [Act.put, List.setIfInBounds_toArray, List.set_cons_zero, List.set_cons_succ, i64_w, i32_w]
                      rfl
                     refine pure_ (i := 13) (N := some 161) (v := ?_) (a' := ?_) #[true, true, true, true, true, true, true, true, true, true, true, true, true, true, false, false, false, false, false, false, false, false, false, false, false, false, false, false, false, false, false] rfl rfl (any_of HT_.out (by kernel_rfl)) (fun _ _ _ h => h) (Or.inl ⟨by rfl, ?_⟩) ?_ ?_
                     rotate_left
                     ·
                      intro w'
                      go_simp
                      with_reducible rfl
                     rotate_left
                     ·
                      simp only [Act.put, List.setIfInBounds_toArray, List.set_cons_zero, List.set_cons_succ, i64_w, i32_w]
                      rfl
                     refine pure_ (i := 14) (N := some 162) (v := undef) (a' := ?_) #[true, true, true, true, true, true, true, true, true, true, true, true, true, true, true, false, false, false, false, false, false, false, false, false, false, false, false, false, false, false, false] rfl rfl (any_of HT_.out (by kernel_rfl)) (fun _ _ _ h => h) (Or.inr ⟨by rfl, rfl⟩) ?_ ?_
                     rotate_left
                     ·
                      simp only [Act.put, List.setIfInBounds_toArray, List.set_cons_zero, List.set_cons_succ, i64_w, i32_w]
                      rfl
                     refine pure_ (i := 15) (N := some 163) (v := undef) (a' := ?_) #[true, true, true, true, true, true, true, true, true, true, true, true, true, true, true, true, false, false, false, false, false, false, false, false, false, false, false, false, false, false, false] rfl rfl (any_of HT_.out (by kernel_rfl)) (fun _ _ _ h => h) (Or.inr ⟨by rfl, rfl⟩) ?_ ?_
                     rotate_left
                     ·
                      simp only [Act.put, List.setIfInBounds_toArray, List.set_cons_zero, List.set_cons_succ, i64_w, i32_w]
                      rfl
                     refine pure_ (i := 16) (N := some 164) (v := undef) (a' := ?_) #[true, true, true, true, true, true, true, true, true, true, true, true, true, true, true, true, true, false, false, false, false, false, false, false, false, false, false, false, false, false, false] rfl rfl (any_of HT_.out (by kernel_rfl)) (fun _ _ _ h => h) (Or.inr ⟨by rfl, rfl⟩) ?_ ?_
                     rotate_left
                     ·
                      simp only [Act.put, List.setIfInBounds_toArray, List.set_cons_zero, List.set_cons_succ, i64_w, i32_w]
                      rfl
                     refine pure_ (i := 17) (N := some 165) (v := undef) (a' := ?_) #[true, true, true, true, true, true, true, true, true, true, true, true, true, true, true, true, true, true, false, false, false, false, false, false, false, false, false, false, false, false, false] rfl rfl (any_of HT_.out (by kernel_rfl)) (fun _ _ _ h => h) (Or.inr ⟨by rfl, rfl⟩) ?_ ?_
                     rotate_left
                     ·
                      simp only [Act.put, List.setIfInBounds_toArray, List.set_cons_zero, List.set_cons_succ, i64_w, i32_w]
                      rfl
                     refine pure_ (i := 18) (N := some 166) (v := undef) (a' := ?_) #[true, true, true, true, true, true, true, true, true, true, true, true, true, true, true, true, true, true, true, false, false, false, false, false, false, false, false, false, false, false, false] rfl rfl (any_of HT_.out (by kernel_rfl)) (fun _ _ _ h => h) (Or.inr ⟨by rfl, rfl⟩) ?_ ?_
                     rotate_left
                     ·
                      simp only [Act.put, List.setIfInBounds_toArray, List.set_cons_zero, List.set_cons_succ, i64_w, i32_w]
                      rfl
                     refine pure_ (i := 19) (N := some 167) (v := undef) (a' := ?_) #[true, true, true, true, true, true, true, true, true, true, true, true, true, true, true, true, true, true, true, true, false, false, false, false, false, false, false, false, false, false, false] rfl rfl (any_of HT_.out (by kernel_rfl)) (fun _ _ _ h => h) (Or.inr ⟨by rfl, rfl⟩) ?_ ?_
                     rotate_left
                     ·
                      simp only [Act.put, List.setIfInBounds_toArray, List.set_cons_zero, List.set_cons_succ, i64_w, i32_w]
                      rfl
                     refine pure_ (i := 20) (N := some 168) (v := undef) (a' := ?_) #[true, true, true, true, true, true, true, true, true, true, true, true, true, true, true, true, true, true, true, true, true, false, false, false, false, false, false, false, false, false, false] rfl rfl (any_of HT_.out (by kernel_rfl)) (fun _ _ _ h => h) (Or.inr ⟨by rfl, rfl⟩) ?_ ?_
                     rotate_left
                     ·
                      simp only [Act.put, List.setIfInBounds_toArray, List.set_cons_zero, List.set_cons_succ, i64_w, i32_w]
                      rfl
                     refine pure_ (i := 21) (N := some 169) (v := undef) (a' := ?_) #[true, true, true, true, true, true, true, true, true, true, true, true, true, true, true, true, true, true, true, true, true, true, false, false, false, false, false, false, false, false, false] rfl rfl (any_of HT_.out (by kernel_rfl)) (fun _ _ _ h => h) (Or.inr ⟨by rfl, rfl⟩) ?_ ?_
                     rotate_left
                     ·
                      simp only [Act.put, List.setIfInBounds_toArray, List.set_cons_zero, List.set_cons_succ, i64_w, i32_w]
                      rfl
                     refine pure_ (i := 22) (N := some 170) (v := undef) (a' := ?_) #[true, true, true, true, true, true, true, true, true, true, true, true, true, true, true, true, true, true, true, true, true, true, true, false, false, false, false, false, false, false, false] rfl rfl (any_of HT_.out (by kernel_rfl)) (fun _ _ _ h => h) (Or.inr ⟨by rfl, rfl⟩) ?_ ?_
                     rotate_left
                     ·
                      simp only [Act.put, List.setIfInBounds_toArray, List.set_cons_zero, List.set_cons_succ, i64_w, i32_w]
                      rfl
                     refine pure_ (i := 23) (N := some 171) (v := undef) (a' := ?_) #[true, true, true, true, true, true, true, true, true, true, true, true, true, true, true, true, true, true, true, true, true, true, true, true, false, false, false, false, false, false, false] rfl rfl (any_of HT_.out (by kernel_rfl)) (fun _ _ _ h => h) (Or.inr ⟨by rfl, rfl⟩) ?_ ?_
                     rotate_left
                     ·
                      simp only [Act.put, List.setIfInBounds_toArray, List.set_cons_zero, List.set_cons_succ, i64_w, i32_w]
                      rfl
                     refine pure_ (i := 24) (N := some 172) (v := undef) (a' := ?_) #[true, true, true, true, true, true, true, true, true, true, true, true, true, true, true, true, true, true, true, true, true, true, true, true, true, false, false, false, false, false, false] rfl rfl (any_of HT_.out (by kernel_rfl)) (fun _ _ _ h => h) (Or.inr ⟨by rfl, rfl⟩) ?_ ?_
                     rotate_left
                     ·
                      simp only [Act.put, List.setIfInBounds_toArray, List.set_cons_zero, List.set_cons_succ, i64_w, i32_w]
                      rfl
                     refine pure_ (i := 25) (N := some 173) (v := undef) (a' := ?_) #[true, true, true, true, true, true, true, true, true, true, true, true, true, true, true, true, true, true, true, true, true, true, true, true, true, true, false, false, false, false, false] rfl rfl (any_of HT_.out (by kernel_rfl)) (fun _ _ _ h => h) (Or.inr ⟨by rfl, rfl⟩) ?_ ?_
                     rotate_left
                     ·
                      simp only [Act.put, List.setIfInBounds_toArray, List.set_cons_zero, List.set_cons_succ, i64_w, i32_w]
                      rfl
                     refine pure_ (i := 26) (N := some 174) (v := undef) (a' := ?_) #[true, true, true, true, true, true, true, true, true, true, true, true, true, true, true, true, true, true, true, true, true, true, true, true, true, true, true, false, false, false, false] rfl rfl (any_of HT_.out (by kernel_rfl)) (fun _ _ _ h => h) (Or.inr ⟨by rfl, rfl⟩) ?_ ?_
                     rotate_left
                     ·
                      simp only [Act.put, List.setIfInBounds_toArray, List.set_cons_zero, List.set_cons_succ, i64_w, i32_w]
                      rfl
                     refine pure_ (i := 27) (N := some 175) (v := undef) (a' := ?_) #[true, true, true, true, true, true, true, true, true, true, true, true, true, true, true, true, true, true, true, true, true, true, true, true, true, true, true, true, false, false, false] rfl rfl (any_of HT_.out (by kernel_rfl)) (fun _ _ _ h => h) (Or.inr ⟨by rfl, rfl⟩) ?_ ?_
                     rotate_left
                     ·
                      simp only [Act.put, List.setIfInBounds_toArray, List.set_cons_zero, List.set_cons_succ, i64_w, i32_w]
                      rfl
                     refine pure_ (i := 28) (N := some 176) (v := undef) (a' := ?_) #[true, true, true, true, true, true, true, true, true, true, true, true, true, true, true, true, true, true, true, true, true, true, true, true, true, true, true, true, true, false, false] rfl rfl (any_of HT_.out (by kernel_rfl)) (fun _ _ _ h => h) (Or.inr ⟨by rfl, rfl⟩) ?_ ?_
                     rotate_left
                     ·
                      simp only [Act.put, List.setIfInBounds_toArray, List.set_cons_zero, List.set_cons_succ, i64_w, i32_w]
                      rfl
                     refine pure_ (i := 29) (N := some 177) (v := undef) (a' := ?_) #[true, true, true, true, true, true, true, true, true, true, true, true, true, true, true, true, true, true, true, true, true, true, true, true, true, true, true, true, true, true, false] rfl rfl (any_of HT_.out (by kernel_rfl)) (fun _ _ _ h => h) (Or.inr ⟨by rfl, rfl⟩) ?_ ?_
                     rotate_left
                     ·
                      simp only [Act.put, List.setIfInBounds_toArray, List.set_cons_zero, List.set_cons_succ, i64_w, i32_w]
                      rfl
                     refine pure_ (i := 30) (N := some 178) (v := ?_) (a' := ?_) #[true, true, true, true, true, true, true, true, true, true, true, true, true, true, true, true, true, true, true, true, true, true, true, true, true, true, true, true, true, true, true] rfl rfl (any_of HT_.out (by kernel_rfl)) (fun _ _ _ h => h) (Or.inl ⟨by rfl, ?_⟩) ?_ ?_
                     rotate_left
                     ·
                      intro w'
                      go_simp
                      with_reducible rfl
                     rotate_left
                     ·
                      simp only [Act.put, List.setIfInBounds_toArray, List.set_cons_zero, List.set_cons_succ, i64_w, i32_w]
                      rfl
                     refine done_ (done_of HT_.out (by kernel_rfl)) ?_
                     try go_wp2
                     go_meet
                     case rel => exact ⟨_, (true), (by first | rfl | (simp; done) | (simp [*]; done)), H', ⟨by have := HJ6.out; have := HJ16.out; have := HJ24.out; have := HJ26.out; have := HJ46.out; first | omega | exact Nat.le_refl _⟩, ⟨by (with_reducible repeat (first | refine blk_drewN ?_ _ | refine blk_drew ?_ | refine blk_alloc ?_ _)); exact BK621.out⟩, ⟨by (with_reducible repeat (first | refine blk_drewN ?_ _ | refine blk_drew ?_ | refine blk_alloc ?_ _)); exact BK625.out⟩, ⟨by (with_reducible repeat (first | refine blk_drewN ?_ _ | refine blk_drew ?_ | refine blk_alloc ?_ _)); exact BK630.out⟩, ⟨by repeat (first | (with_reducible first | exact HB.out | apply below_alloc | apply pw_below_drewN | apply below_drew1 | refine below_set ?_ GE621.out | refine below_set ?_ GE625.out | refine below_set ?_ GE630.out) | exact HB.out)⟩⟩
                   case rest => as_aux_lemma =>
                    clear HC74
                    try clear p2
                    try clear c8
                    try clear c9
                    try clear c89
                    try clear c89b0
                    try clear c89b1
                    try clear c90
                    try clear c90b0
                    try clear c90b1
                    obtain ⟨kq, x178_73, rfl, HA, HJ73, BK621, BK625, BK630, HB⟩ := hcut
                    cases kq with
                    | zero => exact absurd HA.out (by simp [law_CurveJoins.j6])
                    | succ kj73 =>
                     have H := HA.out
                     clear HA
                     simp only [law_CurveJoins.j6] at H
                     by_cases c100 : x178_73 = true
                     ·
                      subst c100
                      have H1 : (some false) = some r := by rw [if_pos rfl] at H; exact H
                      clear H
                      have H := H1
                      clear H1
                      obtain rfl := Option.some.inj H
                      go_wp2
                      go_ret
                      exact ⟨by first | rfl | (simp [errW_none, errW_some] <;> rfl) | (simp only [← hji68]; first | rfl | (simp [errW_none, errW_some] <;> rfl)) | (simp [*, errW_none, errW_some] <;> rfl), by repeat (first | (with_reducible first | exact HB.out | apply below_alloc | apply pw_below_drewN | apply below_drew1 | refine below_set ?_ GE621.out | refine below_set ?_ GE625.out | refine below_set ?_ GE630.out) | exact HB.out)⟩
                     ·
                      replace c100 := Bool.eq_false_iff.mpr c100
                      subst c100
                      have H1 : (some true) = some r := by rw [if_neg (show ¬ (false = true) by decide)] at H; exact H
                      clear H
                      have H := H1
                      clear H1
                      obtain rfl := Option.some.inj H
                      go_wp2
                      go_ret
                      exact ⟨by first | rfl | (simp [errW_none, errW_some] <;> rfl) | (simp only [← hji68]; first | rfl | (simp [errW_none, errW_some] <;> rfl)) | (simp [*, errW_none, errW_some] <;> rfl), by repeat (first | (with_reducible first | exact HB.out | apply below_alloc | apply pw_below_drewN | apply below_drew1 | refine below_set ?_ GE621.out | refine below_set ?_ GE625.out | refine below_set ?_ GE630.out) | exact HB.out)⟩
                  ·
                   rw [if_neg c72] at H
                   exact absurd H (by simp)
                 ·
                  rw [if_neg c70] at H
                  exact absurd H (by simp)
                ·
                 rw [if_neg c69] at H
                 exact absurd H (by simp)
               ·
                replace c67 := Bool.eq_false_iff.mpr c67
                subst c67
                have H1 : (some true) = some r := by rw [if_neg (show ¬ (false = true) by decide)] at H; exact H
                clear H
                have H := H1
                clear H1
                obtain rfl := Option.some.inj H
                go_wp2_with (first | ((with_reducible refine gate_callee (f := 43) rfl ?_); refine goesL_ (some 121) rfl rfl Tryd.func43 (by kernel_rfl) rfl #[.slice A1 l1.length c1, .int .i64 a3] rfl (by (try simp only [List.map_toArray, List.map_cons, List.map_nil]); first | done | rfl | (simp only [List.length_drop, List.length_take]; rfl)) ?_; (with_reducible refine (ref_In.calls _ _ l1 a3 false _ ?side1 ?side2 A66.out).mono ?_); (case side1 => repeat (first | exact (Kd.C_below HR1.out HB.out) | (with_reducible refine Kd.C_alloc ?_ _) | (with_reducible refine Kd.C_drewN ?_ _) | (with_reducible refine Kd.C_drew ?_))); (case side2 => exact HC1.out); rintro e w' ⟨rfl, ⟨nd, rfl⟩⟩; refine ⟨_, rfl, ?_⟩))
                go_ret
                exact ⟨by first | rfl | (simp [errW_none, errW_some] <;> rfl) | (simp [*, errW_none, errW_some] <;> rfl), by repeat (first | (with_reducible first | exact HB.out | apply below_alloc | apply pw_below_drewN | apply below_drew1) | exact HB.out)⟩
            ·
             rw [if_neg c45] at H
             have c45b0 : (t594 == 0) = false := beq_eq_false_iff_ne.mpr c45
             have c45b1 : (t594 != 0) = true := bne_iff_ne.mpr c45
             obtain rfl := Option.some.inj H
             go_wp2
             go_ret
             exact ⟨by first | rfl | (simp [errW_none, errW_some] <;> rfl) | (simp [*, errW_none, errW_some] <;> rfl), by repeat (first | (with_reducible first | exact HB.out | apply below_alloc | apply pw_below_drewN | apply below_drew1) | exact HB.out)⟩
 ·
  replace c6 := Bool.eq_false_iff.mpr c6
  subst c6
  have H1 : (some false) = some r := by rw [if_neg (show ¬ (false = true) by decide)] at H; exact H
  clear H
  have H := H1
  clear H1
  obtain rfl := Option.some.inj H
  go_enter Tryd.func10, Tryd.ntmps10
  go_wp2_with (first | ((with_reducible refine gate_callee (f := 18) rfl ?_); refine goesL_ (some 26) rfl rfl Tryd.func18 (by kernel_rfl) rfl #[] rfl (by (try simp only [List.map_toArray, List.map_cons, List.map_nil]); first | done | rfl | (simp only [List.length_drop, List.length_take]; rfl)) ?_; (with_reducible refine (law_sane.calls  false _ A5.out).mono ?_); rintro e w101 ⟨rfl, hb⟩; refine ⟨_, rfl, ?_⟩; have n0_ := Aside0.mk (below_step (by repeat (first | (with_reducible first | exact HB.out | apply below_alloc | apply pw_below_drewN | apply below_drew1) | exact HB.out)) hb); clear HB; have HB := n0_; clear n0_; (try clear hb); (try clear hb2); (try clear hk); (try clear hi)))
  go_ret
  exact ⟨by first | rfl | (simp [errW_none, errW_some] <;> rfl) | (simp [*, errW_none, errW_some] <;> rfl), by repeat (first | (with_reducible first | exact HB.out | apply below_alloc | apply pw_below_drewN | apply below_drew1) | exact HB.out)⟩
end Go.Proofs.YtlhhpogaaneamaaDoor.X
namespace Go.Proofs.YtlhhpogaaneamaaDoor.X
open Go.RowKit
set_option linter.unusedVariables false
set_option linter.unusedSimpArgs false
theorem ext_pp {c d : List S57} (hl : c.length = d.length) (h : ∀ i, i < c.length → px c i = px d i ∧ py c i = py d i) : c = d := by
 refine List.ext_getElem hl fun i h1 h2 => ?_
 obtain ⟨e1, e2⟩ := h i h1
 unfold px at e1
 unfold py at e2
 rw [getD_of h1, getD_of h2] at e1 e2
 generalize c[i] = p at e1 e2
 generalize d[i] = q at e1 e2
 obtain ⟨p0, p1⟩ := p
 obtain ⟨q0, q1⟩ := q
 simp only at e1 e2
 rw [e1, e2]
theorem rd_last {c : List S57} (h : Good c) : rd_T57 c ((c.length : Int) - 1) = c.getD (c.length - 1) z57 := by
 have := h.len2
 rw [show (c.length : Int) - 1 = ((c.length - 1 : Nat) : Int) by omega, rd_nat]
theorem joinC_eq {a b : List S57} (ha : Good a) : joinC a b = a ++ movedC (b.drop 1) (px a (a.length - 1) - px b 0) (py a (a.length - 1) - py b 0) := by
 unfold joinC
 rw [rd_last ha]
 rfl
theorem joinC_len {a b : List S57} (ha : Good a) : (joinC a b).length = a.length + (b.length - 1) := by
 rw [joinC_eq ha]; simp [movedC]
theorem joinC_l {a b : List S57} (ha : Good a) {i : Nat} (hi : i < a.length) : px (joinC a b) i = px a i ∧ py (joinC a b) i = py a i := by
 rw [joinC_eq ha]
 unfold px py
 rw [List.getD_eq_getElem?_getD, List.getElem?_append_left hi, ← List.getD_eq_getElem?_getD]
 exact ⟨rfl, rfl⟩
theorem joinC_r {a b : List S57} (ha : Good a) (hb : Good b) {i : Nat} (hi : i < b.length) :
  px (joinC a b) (a.length - 1 + i) = px b i + (px a (a.length - 1) - px b 0) ∧ py (joinC a b) (a.length - 1 + i) = py b i + (py a (a.length - 1) - py b 0) := by
 have la := ha.len2
 cases i with
 | zero =>
  have := joinC_l (b := b) ha (i := a.length - 1) (by omega)
  rw [Nat.add_zero, this.1, this.2]
  omega
 | succ i =>
  have a1 := ha.bx (a.length - 1) (by omega)
  have a2 := ha.by_ (a.length - 1) (by omega)
  have b1 := hb.bx 0 (by omega)
  have b2 := hb.by_ 0 (by omega)
  have c1 := hb.bx (i + 1) hi
  have c2 := hb.by_ (i + 1) hi
  rw [joinC_eq ha]
  have e : (a ++ movedC (b.drop 1) (px a (a.length - 1) - px b 0) (py a (a.length - 1) - py b 0)).getD (a.length - 1 + (i + 1)) z57 = ⟨wrap64 (px b (i + 1) + (px a (a.length - 1) - px b 0)), wrap64 (py b (i + 1) + (py a (a.length - 1) - py b 0))⟩ := by
   rw [List.getD_eq_getElem?_getD, List.getElem?_append_right (by omega), show a.length - 1 + (i + 1) - a.length = i by omega]
   unfold movedC
   rw [List.getElem?_map, List.getElem?_drop, show 1 + i = i + 1 by omega, List.getElem?_eq_getElem hi]
   show (⟨wrap64 (b[i + 1].f0 + _), wrap64 (b[i + 1].f1 + _)⟩ : S57) = _
   unfold px py
   rw [getD_of hi]
  simp only [px, py] at e c1 c2 a1 a2 b1 b2 ⊢
  rw [e]
  exact ⟨w64 (by omega) (by omega), w64 (by omega) (by omega)⟩
theorem joinC_good {a b : List S57} (ha : Good a) (hb : Good b) (hl : (joinC a b).length ≤ 64) (hr : rightB (joinC a b) = true) : Good (joinC a b) := by
 have la := ha.len2
 have lb := hb.len2
 have e := joinC_len (b := b) ha
 unfold rightB at hr
 rw [List.all_eq_true] at hr
 have hb' : ∀ i, i < (joinC a b).length → okp ((joinC a b).getD i z57) = true := fun i hi => hr _ (by rw [getD_of hi]; exact List.getElem_mem _)
 have st : ∀ i, i + 1 < (joinC a b).length → px (joinC a b) i < px (joinC a b) (i + 1) ∧ py (joinC a b) i < py (joinC a b) (i + 1) := by
  intro i hi
  by_cases h : i + 1 < a.length
  ·
   have h1 := joinC_l (b := b) ha (i := i) (by omega)
   have h2 := joinC_l (b := b) ha (i := i + 1) h
   have x1 := ha.ix i h
   have x2 := ha.iy i h
   omega
  ·
   obtain ⟨n, rfl⟩ : ∃ n, i = a.length - 1 + n := ⟨i - (a.length - 1), by omega⟩
   have h1 := joinC_r ha hb (i := n) (by omega)
   have h2 := joinC_r ha hb (i := n + 1) (by omega)
   rw [← Nat.add_assoc] at h2
   have x1 := hb.ix n (by omega)
   have x2 := hb.iy n (by omega)
   omega
 refine ⟨by omega, hl, fun i hi => ?_, fun i hi => ?_, fun i hi => (st i hi).1, fun i hi => (st i hi).2⟩
 ·
  have := hb' i hi; simp only [okp, okc, Bool.and_eq_true, decide_eq_true_eq] at this; exact this.1
 ·
  have := hb' i hi; simp only [okp, okc, Bool.and_eq_true, decide_eq_true_eq] at this; exact this.2
theorem join_cases {a b : List S57} (ha : Good a) (hb : Good b) : curve_Join.f a b = some ([], 2) ∨ (curve_Join.f a b = some (joinC a b, 0) ∧ Good (joinC a b)) := by
 unfold curve_Join.f
 rw [if_pos ⟨good_iff.2 ha, good_iff.2 hb⟩]
 by_cases h : (joinC a b).length ≤ 64 ∧ rightB (joinC a b) = true
 ·
  rw [if_pos h]; exact Or.inr ⟨rfl, joinC_good ha hb h.1 h.2⟩
 ·
  rw [if_neg h]; exact Or.inl rfl
theorem joinC_assoc {a b c : List S57} (ha : Good a) (hb : Good b) (hc : Good c) (hj : Good (joinC a b)) (hk : Good (joinC b c)) : joinC (joinC a b) c = joinC a (joinC b c) := by
 have la := ha.len2
 have lb := hb.len2
 have lc := hc.len2
 have ej := joinC_len (b := b) ha
 have ek := joinC_len (b := c) hb
 have e1 := joinC_len (b := c) hj
 have e2 := joinC_len (b := joinC b c) ha
 have jl := joinC_r ha hb (i := b.length - 1) (by omega)
 rw [show a.length - 1 + (b.length - 1) = (joinC a b).length - 1 by omega] at jl
 have k0 := joinC_l (b := c) hb (i := 0) (by omega)
 refine ext_pp (by omega) fun n hn => ?_
 by_cases h1 : n < a.length
 ·
  have t1 := joinC_l (b := c) hj (i := n) (by omega)
  have t2 := joinC_l (b := b) ha (i := n) h1
  have t3 := joinC_l (b := joinC b c) ha (i := n) h1
  omega
 ·
  by_cases h2 : n < (joinC a b).length
  ·
   obtain ⟨i, rfl⟩ : ∃ i, n = a.length - 1 + i := ⟨n - (a.length - 1), by omega⟩
   have t1 := joinC_l (b := c) hj (i := a.length - 1 + i) (by omega)
   have t2 := joinC_r ha hb (i := i) (by omega)
   have t3 := joinC_r ha hk (i := i) (by omega)
   have t4 := joinC_l (b := c) hb (i := i) (by omega)
   omega
  ·
   obtain ⟨i, rfl⟩ : ∃ i, n = (joinC a b).length - 1 + i := ⟨n - ((joinC a b).length - 1), by omega⟩
   have t1 := joinC_r hj hc (i := i) (by omega)
   have t2 := joinC_r ha hk (i := b.length - 1 + i) (by omega)
   have t3 := joinC_r hb hc (i := i) (by omega)
   rw [show a.length - 1 + (b.length - 1 + i) = (joinC a b).length - 1 + i by omega] at t2
   omega
theorem join_on_l {a b : List S57} (ha : Good a) {x v : Rat} (o : On a x v) : On (joinC a b) x v := by
 obtain ⟨i, hi, h1, h2, h3⟩ := o
 have e := joinC_len (b := b) ha
 have t1 := joinC_l (b := b) ha (i := i) (by omega)
 have t2 := joinC_l (b := b) ha (i := i + 1) hi
 exact ⟨i, by omega, by rw [t1.1]; exact h1, by rw [t2.1]; exact h2, by rw [t1.1, t1.2, t2.1, t2.2]; exact h3⟩
theorem join_on_r {a b : List S57} (ha : Good a) (hb : Good b) {x v : Rat} (o : On b x v) : On (joinC a b) (x + ((px a (a.length - 1) - px b 0 : Int) : Rat)) (v + ((py a (a.length - 1) - py b 0 : Int) : Rat)) := by
 obtain ⟨i, hi, h1, h2, h3⟩ := o
 have la := ha.len2
 have e := joinC_len (b := b) ha
 have t1 := joinC_r ha hb (i := i) (by omega)
 have t2 := joinC_r ha hb (i := i + 1) hi
 rw [← Nat.add_assoc] at t2
 generalize px a (a.length - 1) - px b 0 = dx at *
 generalize py a (a.length - 1) - py b 0 = dy at *
 refine ⟨a.length - 1 + i, by omega, ?_, ?_, ?_⟩
 ·
  rw [t1.1, Rat.intCast_add]; grind
 ·
  rw [t2.1, Rat.intCast_add]; grind
 ·
  rw [t1.1, t1.2, t2.1, t2.2]
  simp only [Rat.intCast_add]
  grind
theorem num_den_add (v : Rat) (n : Int) : (v + (n : Rat)).num = v.num + n * (v.den : Int) ∧ ((v + (n : Rat)).den : Int) = (v.den : Int) := by
 have hd := den_pos v
 have e : v + (n : Rat) = ((v.num + n * (v.den : Int) : Int) : Rat) / ((v.den : Int) : Rat) := by
  have := rat_eta v
  have n1 := cast_pos hd
  have n2 : (((v.den : Int)) : Rat) ≠ 0 := by grind
  rw [Rat.intCast_add, Rat.intCast_mul]
  grind
 have k := num_den (v.num + n * (v.den : Int)) (v.den : Int) hd
 have g : Int.gcd (v.num + n * (v.den : Int)) (v.den : Int) = 1 := by
  rw [Int.gcd_add_mul_right_left]
  exact v.reduced
 rw [e, k.1, k.2, g]
 simp
theorem lawsame_ev (l : List S57) (e : Int) (hm : l.length ≤ 1000000) : Evn (fun k => law_same.f k l e l e) true := by
 obtain ⟨r, h, hr⟩ := same_ev l l hm
 rw [hr.2 rfl] at h
 refine Evn.ext (h.bind (f := fun _ t => some t) (Evn.of fun _ => rfl)) fun k => ?_
 unfold law_same.f
 rw [if_pos rfl]
theorem joins_j5 {a b : List S57} (ha : Good a) (hb : Good b) (hj : Good (joinC a b)) (x : Int) : Evn (fun k => law_CurveJoins.j5 k a b x (joinC a b)) true := by
 have la := ha.len2
 have lb := hb.len2
 have la64 := ha.len64
 cases hx : inB b x with
 | false => refine Evn.step (Evn.of fun k => ?_); simp only [law_CurveJoins.j5, in_eq hb, hx, Option.bind_some]; rfl
 | true =>
  have rx := (inB_iff hb).1 hx
  have lj := joinC_len (b := b) ha
  have a1 := ha.bx (a.length - 1) (by omega)
  have a2 := ha.by_ (a.length - 1) (by omega)
  have b1 := hb.bx 0 (by omega)
  have b2 := hb.by_ 0 (by omega)
  have b3 := hb.bx (b.length - 1) (by omega)
  have on := join_on_r ha hb (valR_on hb rx.1 rx.2)
  obtain ⟨dx, hdx⟩ : ∃ d, px a (a.length - 1) - px b 0 = d := ⟨_, rfl⟩
  obtain ⟨dy, hdy⟩ : ∃ d, py a (a.length - 1) - py b 0 = d := ⟨_, rfl⟩
  rw [hdx, hdy, ← Rat.intCast_add] at on
  have ev := valR_eq hj on
  have rj := on.range hj.rising
  have hxj : inB (joinC a b) (x + dx) = true := (inB_iff hj).2 ⟨of_cast_le rj.1, of_cast_le rj.2⟩
  have E1 := exact_in hb hx
  have E2 := exact_in hj hxj
  have vb := val_bounds hb hx
  have nd := num_den_add (valR b x) dy
  rw [ev, nd.1, nd.2] at E2
  obtain ⟨v, hv⟩ : ∃ v, valR b x = v := ⟨_, rfl⟩
  rw [hv] at E1 E2 vb
  have m1 := Int.mul_le_mul_of_nonneg_right (show dy ≤ 16777216 by omega) (Int.le_of_lt vb.2.2.1)
  have m2 := Int.mul_le_mul_of_nonneg_right (show -16777216 ≤ dy by omega) (Int.le_of_lt vb.2.2.1)
  have w0 : wrap64 ((a.length : Int) - 1) = ((a.length - 1 : Nat) : Int) := by rw [w64 (by omega) (by omega)]; omega
  have w1 : wrap64 ((rd_T57 a (wrap64 ((a.length : Int) - 1))).f0 + x) = px a (a.length - 1) + x := by
   rw [w0, rd_nat]; show wrap64 (px a (a.length - 1) + x) = _; exact w64 (by omega) (by omega)
  have r0 : (rd_T57 b 0).f0 = px b 0 := rfl
  have r1 : (rd_T57 b 0).f1 = py b 0 := rfl
  have w2 : wrap64 (wrap64 ((rd_T57 a (wrap64 ((a.length : Int) - 1))).f0 + x) - (rd_T57 b 0).f0) = x + dx := by
   rw [w1, r0, w64 (by omega) (by omega)]; omega
  have w3 : wrap64 ((rd_T57 a (wrap64 ((a.length : Int) - 1))).f1 - (rd_T57 b 0).f1) = dy := by
   rw [w0, rd_nat, r1]; show wrap64 (py a (a.length - 1) - py b 0) = _; rw [hdy]; exact w64 (by omega) (by omega)
  have w4 : wrap64 (dy * (v.den : Int)) = dy * (v.den : Int) := w64 (by omega) (by omega)
  have w5 : wrap64 (v.num + dy * (v.den : Int)) = v.num + dy * (v.den : Int) := w64 (by omega) (by omega)
  obtain ⟨k1, g1⟩ := E1.fix
  obtain ⟨k2, g2⟩ := E2.fix
  refine ⟨k1 + k2 + 2, fun k hk => ?_⟩
  obtain ⟨K, rfl⟩ : ∃ K, k = K + 2 := ⟨k - 2, by omega⟩
  have g1' := g1 K (by omega)
  have g2' := g2 K (by omega)
  show law_CurveJoins.j5 (K + 2) a b x (joinC a b) = some true
  simp only [law_CurveJoins.j5, in_eq hb, hx, Option.bind_some, if_true]
  rw [if_pos (by rw [w0]; omega), if_pos (by rw [w0]; omega), g1', Option.bind_some, if_pos (by omega), w2, g2', Option.bind_some]
  simp only [w3, w4, w5, if_true, law_CurveJoins.j6]
  simp
theorem joins_j3 {a b : List S57} (ha : Good a) (hb : Good b) (hj : Good (joinC a b)) (x : Int) : Evn (fun k => law_CurveJoins.j3 k a b x (joinC a b) 0) true := by
 have key := joins_j5 ha hb hj x
 cases hx : inB a x with
 | false =>
  refine Evn.step (Evn.ext key fun k => ?_)
  simp only [law_CurveJoins.j3, if_true, in_eq ha, hx, Option.bind_some]
  rfl
 | true =>
  have rx := (inB_iff ha).1 hx
  have on := join_on_l (b := b) ha (valR_on ha rx.1 rx.2)
  have ev := valR_eq hj on
  have rj := on.range hj.rising
  have hxj : inB (joinC a b) x = true := (inB_iff hj).2 ⟨of_cast_le rj.1, of_cast_le rj.2⟩
  have E1 := exact_in ha hx
  have E2 := exact_in hj hxj
  rw [ev] at E2
  obtain ⟨k1, g1⟩ := E1.fix
  obtain ⟨k2, g2⟩ := E2.fix
  obtain ⟨k3, g3⟩ := key.fix
  refine ⟨k1 + k2 + k3 + 2, fun k hk => ?_⟩
  obtain ⟨K, rfl⟩ : ∃ K, k = K + 2 := ⟨k - 2, by omega⟩
  have g1' := g1 K (by omega)
  have g2' := g2 K (by omega)
  have g3' := g3 K (by omega) 0
  rw [Nat.add_zero] at g3'
  show law_CurveJoins.j3 (K + 2) a b x (joinC a b) 0 = some true
  simp only [law_CurveJoins.j3, if_true, in_eq ha, hx, Option.bind_some, g1', g2']
  simp only [law_CurveJoins.j4, beq_self_eq_true, Bool.not_true, Bool.or_self]
  exact g3'
theorem joins_j0 {a b c : List S57} (ha : Good a) (hb : Good b) (hc : Good c) (x : Int) : Evn (fun k => law_CurveJoins.j0 k a b c x false) true := by
 rcases join_cases ha hb with e1 | ⟨e1, hj⟩
 ·
  have fin : ∀ k l, law_CurveJoins.j3 (k + 1) a b x l 2 = some true := fun k l => by simp [law_CurveJoins.j3]
  rcases join_cases hb hc with e2 | ⟨e2, hk⟩
  ·
   refine ⟨4, fun k hk => ?_⟩
   obtain ⟨K, rfl⟩ : ∃ K, k = K + 4 := ⟨k - 4, by omega⟩
   simp [law_CurveJoins.j0, e1, e2, law_CurveJoins.j1, law_CurveJoins.j2, fin]
  ·
   refine ⟨4, fun k hk => ?_⟩
   obtain ⟨K, rfl⟩ : ∃ K, k = K + 4 := ⟨k - 4, by omega⟩
   simp [law_CurveJoins.j0, e1, e2, law_CurveJoins.j1, law_CurveJoins.j2, fin]
 ·
  obtain ⟨k3, g3⟩ := (joins_j3 ha hb hj x).fix
  rcases join_cases hb hc with e2 | ⟨e2, hk⟩
  ·
   refine ⟨k3 + 4, fun k hk => ?_⟩
   obtain ⟨K, rfl⟩ : ∃ K, k = K + 4 := ⟨k - 4, by omega⟩
   have g3' := g3 K (by omega)
   simp [law_CurveJoins.j0, e1, e2, law_CurveJoins.j1, law_CurveJoins.j2, g3']
  ·
   have es : curve_Join.f (joinC a b) c = curve_Join.f a (joinC b c) := by
    have t1 : ∀ {p q : List S57}, Good p → Good q → curve_Join.f p q = some (if (joinC p q).length ≤ 64 ∧ rightB (joinC p q) = true then (joinC p q, 0) else ([], 2)) := fun h1 h2 => by
     unfold curve_Join.f; rw [if_pos ⟨good_iff.2 h1, good_iff.2 h2⟩]
    rw [t1 hj hc, t1 ha hk, joinC_assoc ha hb hc hj hk]
   have ex : ∃ l e, curve_Join.f a (joinC b c) = some (l, e) ∧ l.length ≤ 1000000 := by
    rcases join_cases ha hk with e | ⟨e, h⟩
    ·
     exact ⟨_, _, e, by simp⟩
    ·
     exact ⟨_, _, e, by have := h.len64; omega⟩
   obtain ⟨l, e, ee, hl⟩ := ex
   rw [ee] at es
   obtain ⟨k4, g4⟩ := (lawsame_ev l e hl).fix
   refine ⟨k3 + k4 + 4, fun k hk => ?_⟩
   obtain ⟨K, rfl⟩ : ∃ K, k = K + 4 := ⟨k - 4, by omega⟩
   have g3' := g3 K (by omega)
   have g4' := g4 K (by omega)
   simp [law_CurveJoins.j0, e1, e2, law_CurveJoins.j1, law_CurveJoins.j2, es, ee, g4', g3']
theorem joins_true (a b c : List S57) (x : Int) : ∃ k, law_CurveJoins.f k a b c x = some true := by
 obtain ⟨k1, h1⟩ := (valid_ev a).fix
 obtain ⟨k2, h2⟩ := (valid_ev b).fix
 obtain ⟨k3, h3⟩ := (valid_ev c).fix
 have out : ∀ K, law_CurveJoins.j0 (K + 10) a b c x true = some true := fun K => by simp [law_CurveJoins.j0]
 have h1' := h1 (k1 + k2 + k3) (by omega)
 have h2' := h2 (k1 + k2 + k3) (by omega)
 have h3' := h3 (k1 + k2 + k3) (by omega)
 cases hga : goodB a with
 | false => exact ⟨k1 + k2 + k3 + 10, by rw [hga] at h1'; simp [law_CurveJoins.f, law_sane.f, h1', out]⟩
 | true =>
  rw [hga] at h1'
  cases hgb : goodB b with
  | false => exact ⟨k1 + k2 + k3 + 10, by rw [hgb] at h2'; simp [law_CurveJoins.f, law_sane.f, h1', h2', out]⟩
  | true =>
   rw [hgb] at h2'
   cases hgc : goodB c with
   | false => exact ⟨k1 + k2 + k3 + 10, by rw [hgc] at h3'; simp [law_CurveJoins.f, law_sane.f, h1', h2', h3', out]⟩
   | true =>
    rw [hgc] at h3'
    obtain ⟨k4, h4⟩ := (joins_j0 (good_of hga) (good_of hgb) (good_of hgc) x).fix
    refine ⟨k1 + k2 + k3 + k4, ?_⟩
    have h1' := h1' k4
    have h2' := h2' k4
    have h3' := h3' k4
    have h4' := h4 (k1 + k2 + k3 + k4) (by omega) 0
    rw [Nat.add_zero] at h4'
    simp [law_CurveJoins.f, law_sane.f, h1', h2', h3', h4']
end Go.Proofs.YtlhhpogaaneamaaDoor.X
