/- curveMeets_holds: the declarations of this seat that its proof uses. Conditions: none. -/
import Derived.Test.YtlhhpogaaneamaaDoorCards
import Derived.SevenTiedAt
import Derived.OpenShut
import Derived.ChangeOld
import Derived.Test.YtlhhpogaaneamaaDoorKMP4
namespace Go.Proofs.YtlhhpogaaneamaaDoor.X
open Go.RowKit Go.Proofs.YtlhhpogaaneamaaDoorW.PrintWords Go.Proofs.YtlhhpogaaneamaaDoorW.PrintLast Go.Proofs.YtlhhpogaaneamaaDoorW.PrintMore
set_option linter.unusedVariables false
set_option linter.unusedSimpArgs false
mutual
def law_CurveMeets.j0 : Nat → List (S57) → List (S57) → Int → Int → Bool → Option (Bool)
  | 0, _, _, _, _, _ => none
  | k + 1, x0, x1, x2, x3, x41 => if x41 = true then (some true) else ((curve_Turned.f x1).bind fun bt740 => ((curve_Exact.f k x0 x2).bind fun bt744 => ((curve_Exact.f k x1 x3).bind fun bt748 => (if bt740.2 = 0 then (if bt744.2.2 = 0 then (if bt748.2.2 = 0 then (if bt744.2.1 < 1 then (law_CurveMeets.j1 k x0 x1 x2 x3 bt740.1 true bt744.1 bt744.2.1 bt748.1 bt748.2.1) else (if bt748.2.1 < 1 then (law_CurveMeets.j1 k x0 x1 x2 x3 bt740.1 true bt744.1 bt744.2.1 bt748.1 bt748.2.1) else (if bt744.2.1 > 16777216 then (law_CurveMeets.j1 k x0 x1 x2 x3 bt740.1 true bt744.1 bt744.2.1 bt748.1 bt748.2.1) else (law_CurveMeets.j1 k x0 x1 x2 x3 bt740.1 (decide (bt748.2.1 > 16777216)) bt744.1 bt744.2.1 bt748.1 bt748.2.1)))) else (law_CurveMeets.j1 k x0 x1 x2 x3 bt740.1 true bt744.1 bt744.2.1 bt748.1 bt748.2.1)) else (law_CurveMeets.j1 k x0 x1 x2 x3 bt740.1 true bt744.1 bt744.2.1 bt748.1 bt748.2.1)) else (law_CurveMeets.j1 k x0 x1 x2 x3 bt740.1 true bt744.1 bt744.2.1 bt748.1 bt748.2.1)))))
def law_CurveMeets.j1 : Nat → List (S57) → List (S57) → Int → Int → List (S57) → Bool → Int → Int → Int → Int → Option (Bool)
  | 0, _, _, _, _, _, _, _, _, _, _ => none
  | k + 1, x0, x1, x2, x3, x9, x88, x748000, x748001, x752000, x752001 => if x88 = true then (some false) else ((curve_Through.f x0 x9 x2).bind fun bt752 => (if 0 < (x1.length : Int) then (if 0 ≤ (wrap64 ((x1.length : Int) - 1)) then (if (wrap64 ((x1.length : Int) - 1)) < (x1.length : Int) then ((ref_Order.f k x748000 x748001 ((rd_T57 x1 0).f1) 1).bind fun t760 => (if t760 < 0 then (law_CurveMeets.j2 k x1 x3 bt752.2.2 true x748000 x748001 x752000 x752001 bt752.1 bt752.2.1) else ((ref_Order.f k x748000 x748001 ((rd_T57 x1 (wrap64 ((x1.length : Int) - 1))).f1) 1).bind fun t761 => (law_CurveMeets.j2 k x1 x3 bt752.2.2 (decide (t761 > 0)) x748000 x748001 x752000 x752001 bt752.1 bt752.2.1)))) else (none)) else (none)) else (none)))
def law_CurveMeets.j2 : Nat → List (S57) → Int → Int → Bool → Int → Int → Int → Int → Int → Int → Option (Bool)
  | 0, _, _, _, _, _, _, _, _, _, _ => none
  | k + 1, x1, x3, x16, x118, x748000, x748001, x752000, x752001, x756000, x756001 => if x118 = true then (some (x16 == 1)) else ((ref_Order.f k x752000 x752001 x748000 x748001).bind fun t762 => (if x16 = 0 then ((ref_In.f x1 x756000).bind fun t763 => (if t763 = true then ((ref_In.f x1 x756001).bind fun t764 => (if t764 = true then (if ((decide (t762 ≥ 0)) == (decide (x3 ≥ x756001))) = true then (some ((decide (t762 ≤ 0)) == (decide (x3 ≤ x756000)))) else (some false)) else (some false))) else (some false))) else (some false)))
end
def law_CurveMeets.f (k : Nat) (l0 : List (S57)) (l1 : List (S57)) (a2 : Int) (a3 : Int) : Option (Bool) := (law_sane.f).bind fun t735 => (if t735 = true then ((ref_Valid.f k l0).bind fun t736 => (if t736 = true then ((ref_Valid.f k l1).bind fun t737 => (if t737 = true then ((ref_In.f l0 a2).bind fun t738 => (if t738 = true then ((ref_In.f l1 a3).bind fun t739 => (law_CurveMeets.j0 k l0 l1 a2 a3 (!t739))) else (law_CurveMeets.j0 k l0 l1 a2 a3 true))) else (law_CurveMeets.j0 k l0 l1 a2 a3 true))) else (law_CurveMeets.j0 k l0 l1 a2 a3 true))) else (some false))
def law_CurveMeets.T11 : Bool × List (List Nat × List Nat) := (true, [([], []), ([0], [0]), ([1], [1]), ([2], [2]), ([3], [3]), ([], []), ([], []), ([6], [6]), ([7], [7]), ([5, 8], [5, 8]), ([9], [9]), ([10], [10]), ([11], [11]), ([], []), ([], []), ([13, 4, 0, 1, 2, 3, 4, 13, 14], [4, 13]), ([14, 12, 15, 0, 1, 2, 3, 4, 5, 6, 7, 8, 9, 10, 11, 12, 13, 14, 15], [12, 14])])
def law_CurveMeets.B11 : List Nat := [0, 1, 3, 7, 15, 0, 0, 64, 192, 480, 992, 2016, 4064, 0, 0, 24607, 65535]
theorem law_CurveMeets.tab11 : rtab .any (opsOf Tryd.f14 11) = law_CurveMeets.T11 := by kernel_rfl
theorem law_CurveMeets.bits11 : waitsOk law_CurveMeets.T11.2 law_CurveMeets.B11 = true := by kernel_rfl
set_option maxHeartbeats 8000000 in
set_option maxRecDepth 100000 in
theorem law_CurveMeets.calls (k : Nat) (A0 : Option Addr) (c0 : Nat) (l0 : List (S57)) (A1 : Option Addr) (c1 : Nat) (l1 : List (S57)) (a2 : Int) (a3 : Int) (r : Bool) (w : World) (hr0 : Kd.C k57 w A0 l0.length l0) (hc0 : l0.length ≤ c0) (hr1 : Kd.C k57 w A1 l1.length l1) (hc1 : l1.length ≤ c1) (h : law_CurveMeets.f k l0 l1 a2 a3 = some r) :
    Calls Tryd.prog 14 #[.slice A0 l0.length c0, .slice A1 l1.length c1, .int .i64 a2, .int .i64 a3] w fun e w' => e = .returned (.bool r) ∧ Below w.heap.size w w' := by
  have hu25 := Tryd.underlying25
  have hu43 := Tryd.underlying43
  have HR0 := Aside0.mk hr0
  have HC0 := Aside0.mk hc0
  clear hr0 hc0
  have HR1 := Aside0.mk hr1
  have HC1 := Aside0.mk hc1
  clear hr1 hc1
  have HB := Aside0.mk (Below.refl w.heap.size w)
  have H : ((law_sane.f).bind fun t735 => (if t735 = true then ((ref_Valid.f k l0).bind fun t736 => (if t736 = true then ((ref_Valid.f k l1).bind fun t737 => (if t737 = true then ((ref_In.f l0 a2).bind fun t738 => (if t738 = true then ((ref_In.f l1 a3).bind fun t739 => (law_CurveMeets.j0 k l0 l1 a2 a3 (!t739))) else (law_CurveMeets.j0 k l0 l1 a2 a3 true))) else (law_CurveMeets.j0 k l0 l1 a2 a3 true))) else (law_CurveMeets.j0 k l0 l1 a2 a3 true))) else (some false))) = some r := h
  clear h
  replace H := Option.bind_eq_some_iff.mp H
  obtain ⟨t735, A50, H⟩ := H
  replace H : (if t735 = true then ((ref_Valid.f k l0).bind fun t736 => (if t736 = true then ((ref_Valid.f k l1).bind fun t737 => (if t737 = true then ((ref_In.f l0 a2).bind fun t738 => (if t738 = true then ((ref_In.f l1 a3).bind fun t739 => (law_CurveMeets.j0 k l0 l1 a2 a3 (!t739))) else (law_CurveMeets.j0 k l0 l1 a2 a3 true))) else (law_CurveMeets.j0 k l0 l1 a2 a3 true))) else (law_CurveMeets.j0 k l0 l1 a2 a3 true))) else (some false)) = some r := H
  have A5 := Aside0.mk A50
  clear A50
  by_cases c6 : t735 = true
  · subst c6
    have H1 : ((ref_Valid.f k l0).bind fun t736 => (if t736 = true then ((ref_Valid.f k l1).bind fun t737 => (if t737 = true then ((ref_In.f l0 a2).bind fun t738 => (if t738 = true then ((ref_In.f l1 a3).bind fun t739 => (law_CurveMeets.j0 k l0 l1 a2 a3 (!t739))) else (law_CurveMeets.j0 k l0 l1 a2 a3 true))) else (law_CurveMeets.j0 k l0 l1 a2 a3 true))) else (law_CurveMeets.j0 k l0 l1 a2 a3 true))) = some r := by rw [if_pos rfl] at H; exact H
    clear H
    have H := H1
    clear H1
    have HC7 := Aside0.mk H
    clear H
    go_enter Tryd.func14, Tryd.ntmps14
    go_upto_region 3 with (first | ((with_reducible refine gate_callee (f := 18) rfl ?_); refine goesL_ (some 20) rfl rfl Tryd.func18 (by kernel_rfl) rfl #[] rfl (by (try simp only [List.map_toArray, List.map_cons, List.map_nil]); first | done | rfl | (simp only [List.length_drop, List.length_take]; rfl)) ?_; (with_reducible refine (law_sane.calls  true _ A5.out).mono ?_); rintro e w8 ⟨rfl, hb⟩; refine ⟨_, rfl, ?_⟩; have n0_ := Aside0.mk (below_step (by repeat (first | (with_reducible first | exact HB.out | apply below_alloc | apply pw_below_drewN | apply below_drew1) | exact HB.out)) hb); clear HB; have HB := n0_; clear n0_; (try clear hb); (try clear hb2); (try clear hk); (try clear hi)))
    (try simp only [Act.put, List.setIfInBounds_toArray, List.set_cons_zero, List.set_cons_succ])
    go_cut [41] (fun v41 wc => ∃ (kq : Nat) (x41_6 : Bool), v41 = .bool x41_6 ∧ Aside0 (law_CurveMeets.j0 kq l0 l1 a2 a3 x41_6 = some r) ∧ Aside0 (kq ≤ k) ∧ Aside0 (Below w.heap.size w wc))
    case first => as_aux_lemma =>
      have H := HC7.out
      clear HC7
      replace H := Option.bind_eq_some_iff.mp H
      obtain ⟨t736, A90, H⟩ := H
      replace H : (if t736 = true then ((ref_Valid.f k l1).bind fun t737 => (if t737 = true then ((ref_In.f l0 a2).bind fun t738 => (if t738 = true then ((ref_In.f l1 a3).bind fun t739 => (law_CurveMeets.j0 k l0 l1 a2 a3 (!t739))) else (law_CurveMeets.j0 k l0 l1 a2 a3 true))) else (law_CurveMeets.j0 k l0 l1 a2 a3 true))) else (law_CurveMeets.j0 k l0 l1 a2 a3 true)) = some r := H
      have A9 := Aside0.mk A90
      clear A90
      by_cases c10 : t736 = true
      · subst c10
        have H1 : ((ref_Valid.f k l1).bind fun t737 => (if t737 = true then ((ref_In.f l0 a2).bind fun t738 => (if t738 = true then ((ref_In.f l1 a3).bind fun t739 => (law_CurveMeets.j0 k l0 l1 a2 a3 (!t739))) else (law_CurveMeets.j0 k l0 l1 a2 a3 true))) else (law_CurveMeets.j0 k l0 l1 a2 a3 true))) = some r := by rw [if_pos rfl] at H; exact H
        clear H
        have H := H1
        clear H1
        replace H := Option.bind_eq_some_iff.mp H
        obtain ⟨t737, A110, H⟩ := H
        replace H : (if t737 = true then ((ref_In.f l0 a2).bind fun t738 => (if t738 = true then ((ref_In.f l1 a3).bind fun t739 => (law_CurveMeets.j0 k l0 l1 a2 a3 (!t739))) else (law_CurveMeets.j0 k l0 l1 a2 a3 true))) else (law_CurveMeets.j0 k l0 l1 a2 a3 true)) = some r := H
        have A11 := Aside0.mk A110
        clear A110
        by_cases c12 : t737 = true
        · subst c12
          have H1 : ((ref_In.f l0 a2).bind fun t738 => (if t738 = true then ((ref_In.f l1 a3).bind fun t739 => (law_CurveMeets.j0 k l0 l1 a2 a3 (!t739))) else (law_CurveMeets.j0 k l0 l1 a2 a3 true))) = some r := by rw [if_pos rfl] at H; exact H
          clear H
          have H := H1
          clear H1
          replace H := Option.bind_eq_some_iff.mp H
          obtain ⟨t738, A130, H⟩ := H
          replace H : (if t738 = true then ((ref_In.f l1 a3).bind fun t739 => (law_CurveMeets.j0 k l0 l1 a2 a3 (!t739))) else (law_CurveMeets.j0 k l0 l1 a2 a3 true)) = some r := H
          have A13 := Aside0.mk A130
          clear A130
          by_cases c14 : t738 = true
          · subst c14
            have H1 : ((ref_In.f l1 a3).bind fun t739 => (law_CurveMeets.j0 k l0 l1 a2 a3 (!t739))) = some r := by rw [if_pos rfl] at H; exact H
            clear H
            have H := H1
            clear H1
            replace H := Option.bind_eq_some_iff.mp H
            obtain ⟨t739, A150, H⟩ := H
            replace H : (law_CurveMeets.j0 k l0 l1 a2 a3 (!t739)) = some r := H
            have A15 := Aside0.mk A150
            clear A150
            have H' := Aside0.mk H
            clear H
            go_wp2_with (first | ((with_reducible refine gate_callee (f := 42) rfl ?_); refine goesL_ (some 23) rfl rfl Tryd.func42 (by kernel_rfl) rfl #[.slice A0 l0.length c0] rfl (by (try simp only [List.map_toArray, List.map_cons, List.map_nil]); first | done | rfl | (simp only [List.length_drop, List.length_take]; rfl)) ?_; (with_reducible refine (ref_Valid.calls k _ _ l0 true _ ?side1 ?side2 A9.out).mono ?_); (case side1 => repeat (first | exact (Kd.C_below HR0.out HB.out) | (with_reducible refine Kd.C_alloc ?_ _) | (with_reducible refine Kd.C_drewN ?_ _) | (with_reducible refine Kd.C_drew ?_))); (case side2 => exact HC0.out); rintro e w' ⟨rfl, ⟨nd, rfl⟩⟩; refine ⟨_, rfl, ?_⟩) | (go_at_call 42; (with_reducible refine (ref_Valid.calls k _ _ l1 true _ ?side1 ?side2 A11.out).mono ?_); (case side1 => repeat (first | exact (Kd.C_below HR1.out (by repeat (first | (with_reducible first | exact HB.out | apply below_alloc | apply pw_below_drewN | apply below_drew1) | exact HB.out))) | (with_reducible refine Kd.C_alloc ?_ _) | (with_reducible refine Kd.C_drewN ?_ _) | (with_reducible refine Kd.C_drew ?_))); (case side2 => exact HC1.out); rintro e w' ⟨rfl, ⟨nd, rfl⟩⟩) | (go_at_call 43; (with_reducible refine (ref_In.calls _ _ l0 a2 true _ ?side1 ?side2 A13.out).mono ?_); (case side1 => repeat (first | exact (Kd.C_below HR0.out (by repeat (first | (with_reducible first | exact HB.out | apply below_alloc | apply pw_below_drewN | apply below_drew1) | exact HB.out))) | (with_reducible refine Kd.C_alloc ?_ _) | (with_reducible refine Kd.C_drewN ?_ _) | (with_reducible refine Kd.C_drew ?_))); (case side2 => exact HC0.out); rintro e w' ⟨rfl, ⟨nd, rfl⟩⟩) | (go_at_call 43; (with_reducible refine (ref_In.calls _ _ l1 a3 t739 _ ?side1 ?side2 A15.out).mono ?_); (case side1 => repeat (first | exact (Kd.C_below HR1.out (by repeat (first | (with_reducible first | exact HB.out | apply below_alloc | apply pw_below_drewN | apply below_drew1) | exact HB.out))) | (with_reducible refine Kd.C_alloc ?_ _) | (with_reducible refine Kd.C_drewN ?_ _) | (with_reducible refine Kd.C_drew ?_))); (case side2 => exact HC1.out); rintro e w' ⟨rfl, ⟨nd, rfl⟩⟩))
            go_meet
            case rel => exact ⟨_, (!t739), (by first | rfl | (simp; done) | (simp [*]; done)), H', ⟨by first | omega | exact Nat.le_refl _⟩, ⟨by repeat (first | (with_reducible first | exact HB.out | apply below_alloc | apply pw_below_drewN | apply below_drew1) | exact HB.out)⟩⟩
          · replace c14 := Bool.eq_false_iff.mpr c14
            subst c14
            have H1 : (law_CurveMeets.j0 k l0 l1 a2 a3 true) = some r := by rw [if_neg (show ¬ (false = true) by decide)] at H; exact H
            clear H
            have H := H1
            clear H1
            have H' := Aside0.mk H
            clear H
            go_wp2_with (first | ((with_reducible refine gate_callee (f := 42) rfl ?_); refine goesL_ (some 23) rfl rfl Tryd.func42 (by kernel_rfl) rfl #[.slice A0 l0.length c0] rfl (by (try simp only [List.map_toArray, List.map_cons, List.map_nil]); first | done | rfl | (simp only [List.length_drop, List.length_take]; rfl)) ?_; (with_reducible refine (ref_Valid.calls k _ _ l0 true _ ?side1 ?side2 A9.out).mono ?_); (case side1 => repeat (first | exact (Kd.C_below HR0.out HB.out) | (with_reducible refine Kd.C_alloc ?_ _) | (with_reducible refine Kd.C_drewN ?_ _) | (with_reducible refine Kd.C_drew ?_))); (case side2 => exact HC0.out); rintro e w' ⟨rfl, ⟨nd, rfl⟩⟩; refine ⟨_, rfl, ?_⟩) | (go_at_call 42; (with_reducible refine (ref_Valid.calls k _ _ l1 true _ ?side1 ?side2 A11.out).mono ?_); (case side1 => repeat (first | exact (Kd.C_below HR1.out (by repeat (first | (with_reducible first | exact HB.out | apply below_alloc | apply pw_below_drewN | apply below_drew1) | exact HB.out))) | (with_reducible refine Kd.C_alloc ?_ _) | (with_reducible refine Kd.C_drewN ?_ _) | (with_reducible refine Kd.C_drew ?_))); (case side2 => exact HC1.out); rintro e w' ⟨rfl, ⟨nd, rfl⟩⟩) | (go_at_call 43; (with_reducible refine (ref_In.calls _ _ l0 a2 false _ ?side1 ?side2 A13.out).mono ?_); (case side1 => repeat (first | exact (Kd.C_below HR0.out (by repeat (first | (with_reducible first | exact HB.out | apply below_alloc | apply pw_below_drewN | apply below_drew1) | exact HB.out))) | (with_reducible refine Kd.C_alloc ?_ _) | (with_reducible refine Kd.C_drewN ?_ _) | (with_reducible refine Kd.C_drew ?_))); (case side2 => exact HC0.out); rintro e w' ⟨rfl, ⟨nd, rfl⟩⟩))
            go_meet
            case rel => exact ⟨_, (true), (by first | rfl | (simp; done) | (simp [*]; done)), H', ⟨by first | omega | exact Nat.le_refl _⟩, ⟨by repeat (first | (with_reducible first | exact HB.out | apply below_alloc | apply pw_below_drewN | apply below_drew1) | exact HB.out)⟩⟩
        · replace c12 := Bool.eq_false_iff.mpr c12
          subst c12
          have H1 : (law_CurveMeets.j0 k l0 l1 a2 a3 true) = some r := by rw [if_neg (show ¬ (false = true) by decide)] at H; exact H
          clear H
          have H := H1
          clear H1
          have H' := Aside0.mk H
          clear H
          go_wp2_with (first | ((with_reducible refine gate_callee (f := 42) rfl ?_); refine goesL_ (some 23) rfl rfl Tryd.func42 (by kernel_rfl) rfl #[.slice A0 l0.length c0] rfl (by (try simp only [List.map_toArray, List.map_cons, List.map_nil]); first | done | rfl | (simp only [List.length_drop, List.length_take]; rfl)) ?_; (with_reducible refine (ref_Valid.calls k _ _ l0 true _ ?side1 ?side2 A9.out).mono ?_); (case side1 => repeat (first | exact (Kd.C_below HR0.out HB.out) | (with_reducible refine Kd.C_alloc ?_ _) | (with_reducible refine Kd.C_drewN ?_ _) | (with_reducible refine Kd.C_drew ?_))); (case side2 => exact HC0.out); rintro e w' ⟨rfl, ⟨nd, rfl⟩⟩; refine ⟨_, rfl, ?_⟩) | (go_at_call 42; (with_reducible refine (ref_Valid.calls k _ _ l1 false _ ?side1 ?side2 A11.out).mono ?_); (case side1 => repeat (first | exact (Kd.C_below HR1.out (by repeat (first | (with_reducible first | exact HB.out | apply below_alloc | apply pw_below_drewN | apply below_drew1) | exact HB.out))) | (with_reducible refine Kd.C_alloc ?_ _) | (with_reducible refine Kd.C_drewN ?_ _) | (with_reducible refine Kd.C_drew ?_))); (case side2 => exact HC1.out); rintro e w' ⟨rfl, ⟨nd, rfl⟩⟩))
          go_meet
          case rel => exact ⟨_, (true), (by first | rfl | (simp; done) | (simp [*]; done)), H', ⟨by first | omega | exact Nat.le_refl _⟩, ⟨by repeat (first | (with_reducible first | exact HB.out | apply below_alloc | apply pw_below_drewN | apply below_drew1) | exact HB.out)⟩⟩
      · replace c10 := Bool.eq_false_iff.mpr c10
        subst c10
        have H1 : (law_CurveMeets.j0 k l0 l1 a2 a3 true) = some r := by rw [if_neg (show ¬ (false = true) by decide)] at H; exact H
        clear H
        have H := H1
        clear H1
        have H' := Aside0.mk H
        clear H
        go_wp2_with (first | ((with_reducible refine gate_callee (f := 42) rfl ?_); refine goesL_ (some 23) rfl rfl Tryd.func42 (by kernel_rfl) rfl #[.slice A0 l0.length c0] rfl (by (try simp only [List.map_toArray, List.map_cons, List.map_nil]); first | done | rfl | (simp only [List.length_drop, List.length_take]; rfl)) ?_; (with_reducible refine (ref_Valid.calls k _ _ l0 false _ ?side1 ?side2 A9.out).mono ?_); (case side1 => repeat (first | exact (Kd.C_below HR0.out HB.out) | (with_reducible refine Kd.C_alloc ?_ _) | (with_reducible refine Kd.C_drewN ?_ _) | (with_reducible refine Kd.C_drew ?_))); (case side2 => exact HC0.out); rintro e w' ⟨rfl, ⟨nd, rfl⟩⟩; refine ⟨_, rfl, ?_⟩))
        go_meet
        case rel => exact ⟨_, (true), (by first | rfl | (simp; done) | (simp [*]; done)), H', ⟨by first | omega | exact Nat.le_refl _⟩, ⟨by repeat (first | (with_reducible first | exact HB.out | apply below_alloc | apply pw_below_drewN | apply below_drew1) | exact HB.out)⟩⟩
    case rest => as_aux_lemma =>
      clear HC7
      try clear c1
      try clear p2
      try clear c4
      try clear c6
      try clear c10
      try clear c12
      try clear c14
      obtain ⟨kq, x41_6, rfl, HA, HJ6, HB⟩ := hcut
      cases kq with
      | zero => exact absurd HA.out (by simp [law_CurveMeets.j0])
      | succ kj6 =>
        have H := HA.out
        clear HA
        simp only [law_CurveMeets.j0] at H
        by_cases c16 : x41_6 = true
        · subst c16
          have H1 : (some true) = some r := by rw [if_pos rfl] at H; exact H
          clear H
          have H := H1
          clear H1
          obtain rfl := Option.some.inj H
          go_wp2
          go_ret
          exact ⟨by first | rfl | (simp [errW_none, errW_some] <;> rfl) | (simp [*, errW_none, errW_some] <;> rfl), by repeat (first | (with_reducible first | exact HB.out | apply below_alloc | apply pw_below_drewN | apply below_drew1) | exact HB.out)⟩
        · replace c16 := Bool.eq_false_iff.mpr c16
          subst c16
          have H1 : ((curve_Turned.f l1).bind fun bt740 => ((curve_Exact.f kj6 l0 a2).bind fun bt744 => ((curve_Exact.f kj6 l1 a3).bind fun bt748 => (if bt740.2 = 0 then (if bt744.2.2 = 0 then (if bt748.2.2 = 0 then (if bt744.2.1 < 1 then (law_CurveMeets.j1 kj6 l0 l1 a2 a3 bt740.1 true bt744.1 bt744.2.1 bt748.1 bt748.2.1) else (if bt748.2.1 < 1 then (law_CurveMeets.j1 kj6 l0 l1 a2 a3 bt740.1 true bt744.1 bt744.2.1 bt748.1 bt748.2.1) else (if bt744.2.1 > 16777216 then (law_CurveMeets.j1 kj6 l0 l1 a2 a3 bt740.1 true bt744.1 bt744.2.1 bt748.1 bt748.2.1) else (law_CurveMeets.j1 kj6 l0 l1 a2 a3 bt740.1 (decide (bt748.2.1 > 16777216)) bt744.1 bt744.2.1 bt748.1 bt748.2.1)))) else (law_CurveMeets.j1 kj6 l0 l1 a2 a3 bt740.1 true bt744.1 bt744.2.1 bt748.1 bt748.2.1)) else (law_CurveMeets.j1 kj6 l0 l1 a2 a3 bt740.1 true bt744.1 bt744.2.1 bt748.1 bt748.2.1)) else (law_CurveMeets.j1 kj6 l0 l1 a2 a3 bt740.1 true bt744.1 bt744.2.1 bt748.1 bt748.2.1))))) = some r := by rw [if_neg (show ¬ (false = true) by decide)] at H; exact H
          clear H
          have H := H1
          clear H1
          replace H := Option.bind_eq_some_iff.mp H
          obtain ⟨⟨t740, t741⟩, A170, H⟩ := H
          replace H : ((curve_Exact.f kj6 l0 a2).bind fun bt744 => ((curve_Exact.f kj6 l1 a3).bind fun bt748 => (if t741 = 0 then (if bt744.2.2 = 0 then (if bt748.2.2 = 0 then (if bt744.2.1 < 1 then (law_CurveMeets.j1 kj6 l0 l1 a2 a3 t740 true bt744.1 bt744.2.1 bt748.1 bt748.2.1) else (if bt748.2.1 < 1 then (law_CurveMeets.j1 kj6 l0 l1 a2 a3 t740 true bt744.1 bt744.2.1 bt748.1 bt748.2.1) else (if bt744.2.1 > 16777216 then (law_CurveMeets.j1 kj6 l0 l1 a2 a3 t740 true bt744.1 bt744.2.1 bt748.1 bt748.2.1) else (law_CurveMeets.j1 kj6 l0 l1 a2 a3 t740 (decide (bt748.2.1 > 16777216)) bt744.1 bt744.2.1 bt748.1 bt748.2.1)))) else (law_CurveMeets.j1 kj6 l0 l1 a2 a3 t740 true bt744.1 bt744.2.1 bt748.1 bt748.2.1)) else (law_CurveMeets.j1 kj6 l0 l1 a2 a3 t740 true bt744.1 bt744.2.1 bt748.1 bt748.2.1)) else (law_CurveMeets.j1 kj6 l0 l1 a2 a3 t740 true bt744.1 bt744.2.1 bt748.1 bt748.2.1)))) = some r := H
          have A17 := Aside0.mk A170
          clear A170
          replace H := Option.bind_eq_some_iff.mp H
          obtain ⟨⟨t744, t745, t746⟩, A180, H⟩ := H
          replace H : ((curve_Exact.f kj6 l1 a3).bind fun bt748 => (if t741 = 0 then (if t746 = 0 then (if bt748.2.2 = 0 then (if t745 < 1 then (law_CurveMeets.j1 kj6 l0 l1 a2 a3 t740 true t744 t745 bt748.1 bt748.2.1) else (if bt748.2.1 < 1 then (law_CurveMeets.j1 kj6 l0 l1 a2 a3 t740 true t744 t745 bt748.1 bt748.2.1) else (if t745 > 16777216 then (law_CurveMeets.j1 kj6 l0 l1 a2 a3 t740 true t744 t745 bt748.1 bt748.2.1) else (law_CurveMeets.j1 kj6 l0 l1 a2 a3 t740 (decide (bt748.2.1 > 16777216)) t744 t745 bt748.1 bt748.2.1)))) else (law_CurveMeets.j1 kj6 l0 l1 a2 a3 t740 true t744 t745 bt748.1 bt748.2.1)) else (law_CurveMeets.j1 kj6 l0 l1 a2 a3 t740 true t744 t745 bt748.1 bt748.2.1)) else (law_CurveMeets.j1 kj6 l0 l1 a2 a3 t740 true t744 t745 bt748.1 bt748.2.1))) = some r := H
          have A18 := Aside0.mk A180
          clear A180
          replace H := Option.bind_eq_some_iff.mp H
          obtain ⟨⟨t748, t749, t750⟩, A190, H⟩ := H
          replace H : (if t741 = 0 then (if t746 = 0 then (if t750 = 0 then (if t745 < 1 then (law_CurveMeets.j1 kj6 l0 l1 a2 a3 t740 true t744 t745 t748 t749) else (if t749 < 1 then (law_CurveMeets.j1 kj6 l0 l1 a2 a3 t740 true t744 t745 t748 t749) else (if t745 > 16777216 then (law_CurveMeets.j1 kj6 l0 l1 a2 a3 t740 true t744 t745 t748 t749) else (law_CurveMeets.j1 kj6 l0 l1 a2 a3 t740 (decide (t749 > 16777216)) t744 t745 t748 t749)))) else (law_CurveMeets.j1 kj6 l0 l1 a2 a3 t740 true t744 t745 t748 t749)) else (law_CurveMeets.j1 kj6 l0 l1 a2 a3 t740 true t744 t745 t748 t749)) else (law_CurveMeets.j1 kj6 l0 l1 a2 a3 t740 true t744 t745 t748 t749)) = some r := H
          have A19 := Aside0.mk A190
          clear A190
          have HC20 := Aside0.mk H
          clear H
          go_upto_region 8 with (first | ((with_reducible refine gate_callee (f := 52) rfl ?_); refine goesL_ (some 44) rfl rfl Tryd.func52 (by kernel_rfl) rfl #[.slice A1 l1.length c1] rfl (by (try simp only [List.map_toArray, List.map_cons, List.map_nil]); first | done | rfl | (simp only [List.length_drop, List.length_take]; rfl)) ?_; (with_reducible refine (curve_Turned.calls _ _ l1 t740 t741 _ ?side1 ?side2 A17.out).mono ?_); (case side1 => repeat (first | exact (Kd.C_below HR1.out HB.out) | (with_reducible refine Kd.C_alloc ?_ _) | (with_reducible refine Kd.C_drewN ?_ _) | (with_reducible refine Kd.C_drew ?_))); (case side2 => exact HC1.out); rintro e w21 ⟨v742, rfl, ho0, hb⟩; refine ⟨_, rfl, ?_⟩; have n0_ := Aside0.mk (Kd.R_lower ho0 (below_size (by repeat (first | (with_reducible first | exact HB.out | apply below_alloc | apply pw_below_drewN | apply below_drew1) | exact HB.out)))); have n1_ := Aside0.mk (below_step (by repeat (first | (with_reducible first | exact HB.out | apply below_alloc | apply pw_below_drewN | apply below_drew1) | exact HB.out)) hb); clear HB; have HO743 := n0_; have HB := n1_; clear n0_ n1_; (try clear hb); (try clear hb2); (try clear hk); (try clear hi); (try clear ho0)) | ((with_reducible refine gate_callee (f := 22) rfl ?_); refine goesL_ (some 50) rfl rfl Tryd.func22 (by kernel_rfl) rfl #[.slice A0 l0.length c0, .int .i64 a2] rfl (by (try simp only [List.map_toArray, List.map_cons, List.map_nil]); first | done | rfl | (simp only [List.length_drop, List.length_take]; rfl)) ?_; (with_reducible refine (curve_Exact.calls kj6 _ _ l0 a2 t744 t745 t746 _ ?side1 ?side2 A18.out).mono ?_); (case side1 => repeat (first | exact (Kd.C_below HR0.out HB.out) | (with_reducible refine Kd.C_alloc ?_ _) | (with_reducible refine Kd.C_drewN ?_ _) | (with_reducible refine Kd.C_drew ?_))); (case side2 => exact HC0.out); rintro e w22 ⟨rfl, hb⟩; refine ⟨_, rfl, ?_⟩; have n0_ := Aside0.mk (Kd.R_below (by (with_reducible repeat (first | apply Kd.R_alloc | apply Kd.R_drewN | apply Kd.R_drew)); exact HO743.out) hb); have n1_ := Aside0.mk (below_step (by repeat (first | (with_reducible first | exact HB.out | apply below_alloc | apply pw_below_drewN | apply below_drew1) | exact HB.out)) hb); clear HO743; clear HB; have HO743 := n0_; have HB := n1_; clear n0_ n1_; (try clear hb); (try clear hb2); (try clear hk); (try clear hi)) | ((with_reducible refine gate_dst (N := 11) rfl ?_); refine box_event ?hg (N := 11) ?hd (cs := #[.int .i64 0, .int .i64 0]) (t := 25) ?hr ?_; (case hd => rfl); (case hg => rfl); (case hr => first | (go_simp; done) | (go_simp; rfl)); intro gb747 hg w23 hbox hb; have n0_ := Aside0.mk (Kd.R_below (by (with_reducible repeat (first | apply Kd.R_alloc | apply Kd.R_drewN | apply Kd.R_drew)); exact HO743.out) hb); have n1_ := Aside0.mk (below_step (by repeat (first | (with_reducible first | exact HB.out | apply below_alloc | apply pw_below_drewN | apply below_drew1) | exact HB.out)) hb); have n2_ := Aside0.mk (hbox); have n3_ := Aside0.mk ((by rw [hg]; exact (below_size (by repeat (first | (with_reducible first | exact HB.out | apply below_alloc | apply pw_below_drewN | apply below_drew1) | exact HB.out))) : w.heap.size ≤ gb747)); have n4_ := Aside0.mk ((by rw [hg]; exact (below_size (by repeat (first | (with_reducible first | exact HB.out | apply below_alloc | apply pw_below_drewN | apply below_drew1) | exact HB.out))) : w.heap.size ≤ gb747)); clear HO743; clear HB; have HO743 := n0_; have HB := n1_; have BK747 := n2_; have GW747 := n3_; have GE747 := n4_; clear n0_ n1_ n2_ n3_ n4_; clear hb hbox hg; have hcz24_0 : w23.cell? ⟨gb747, 0, none⟩ = some (.int .i64 0) := (blk_cell BK747.out 0).trans rfl; have hcz24_1 : w23.cell? ⟨gb747, 1, none⟩ = some (.int .i64 0) := (blk_cell BK747.out 1).trans rfl; have hfz24_0 := blk_frozen BK747.out 0; have hfz24_1 := blk_frozen BK747.out 1) | ((with_reducible refine gate_callee (f := 22) rfl ?_); refine goesL_ (some 56) rfl rfl Tryd.func22 (by kernel_rfl) rfl #[.slice A1 l1.length c1, .int .i64 a3] rfl (by (try simp only [List.map_toArray, List.map_cons, List.map_nil]); first | done | rfl | (simp only [List.length_drop, List.length_take]; rfl)) ?_; (with_reducible refine (curve_Exact.calls kj6 _ _ l1 a3 t748 t749 t750 _ ?side1 ?side2 A19.out).mono ?_); (case side1 => exact Kd.C_below HR1.out (by repeat (first | (with_reducible first | exact HB.out | apply below_alloc | apply pw_below_drewN | apply below_drew1 | refine below_set ?_ GE747.out) | exact HB.out))); (case side2 => exact HC1.out); rintro e w25 ⟨rfl, hb⟩; refine ⟨_, rfl, ?_⟩; have n0_ := Aside0.mk (Kd.R_below (by (with_reducible repeat (first | apply Kd.R_alloc | apply Kd.R_drewN | apply Kd.R_drew)); exact (Kd.R_mono (Kd.R_far (p := ⟨gb747, 1, none⟩) (Kd.R_far (p := ⟨gb747, 0, none⟩) (Kd.R_types HO743.out BK747.out (by decide)) (fun _ hk => hk.2) (.int .i64 t744)) (fun _ hk => hk.2) (.int .i64 t745)) (fun _ h_ => h_.1))) hb); have n1_ := Aside0.mk (blk_below (g := gb747) (o := .cells #[.int .i64 t744, .int .i64 t745] 25 (0, 0)) (by (with_reducible repeat (first | refine blk_drewN ?_ _ | refine blk_drew ?_ | refine blk_alloc ?_ _)); refine blk_put (cs := #[.int .i64 t744, .int .i64 0]) ?_ 1 _ rfl; (with_reducible repeat (first | refine blk_drewN ?_ _ | refine blk_drew ?_ | refine blk_alloc ?_ _)); refine blk_put (cs := #[.int .i64 0, .int .i64 0]) ?_ 0 _ rfl; (with_reducible repeat (first | refine blk_drewN ?_ _ | refine blk_drew ?_ | refine blk_alloc ?_ _)); exact BK747.out) hb); have n2_ := Aside0.mk (below_step (by repeat (first | (with_reducible first | exact HB.out | apply below_alloc | apply pw_below_drewN | apply below_drew1 | refine below_set ?_ GE747.out) | exact HB.out)) hb); clear HO743; clear BK747; clear HB; have HO743 := n0_; have BK747 := n1_; have HB := n2_; clear n0_ n1_ n2_; (try clear hb); (try clear hb2); (try clear hk); (try clear hi)) | ((with_reducible refine gate_dst (N := 13) rfl ?_); refine box_event ?hg (N := 13) ?hd (cs := #[.int .i64 0, .int .i64 0]) (t := 25) ?hr ?_; (case hd => rfl); (case hg => rfl); (case hr => first | (go_simp; done) | (go_simp; rfl)); intro gb751 hg w26 hbox hb; have n0_ := Aside0.mk (Kd.R_below (by (with_reducible repeat (first | apply Kd.R_alloc | apply Kd.R_drewN | apply Kd.R_drew)); exact HO743.out) hb); have n1_ := Aside0.mk (blk_below (g := gb747) (o := .cells #[.int .i64 t744, .int .i64 t745] 25 (0, 0)) (by (with_reducible repeat (first | refine blk_drewN ?_ _ | refine blk_drew ?_ | refine blk_alloc ?_ _)); exact BK747.out) hb); have n2_ := Aside0.mk (below_step (by repeat (first | (with_reducible first | exact HB.out | apply below_alloc | apply pw_below_drewN | apply below_drew1 | refine below_set ?_ GE747.out) | exact HB.out)) hb); have n3_ := Aside0.mk (hbox); have n4_ := Aside0.mk ((by rw [hg]; exact (below_size (by repeat (first | (with_reducible first | exact HB.out | apply below_alloc | apply pw_below_drewN | apply below_drew1 | refine below_set ?_ GE747.out) | exact HB.out))) : w.heap.size ≤ gb751)); have n5_ := Aside0.mk ((by rw [hg]; exact (below_size (by repeat (first | (with_reducible first | exact HB.out | apply below_alloc | apply pw_below_drewN | apply below_drew1 | refine below_set ?_ GE747.out) | exact HB.out))) : w.heap.size ≤ gb751)); have n6_ := Aside0.mk ((by rw [hg]; exact Nat.ne_of_lt (blk_lt (g := gb747) (o := .cells #[.int .i64 t744, .int .i64 t745] 25 (0, 0)) (by (with_reducible repeat (first | refine blk_drewN ?_ _ | refine blk_drew ?_ | refine blk_alloc ?_ _)); exact BK747.out)) : gb747 ≠ gb751)); have n7_ := Aside0.mk ((by rw [hg]; exact Nat.ne_of_gt (blk_lt (g := gb747) (o := .cells #[.int .i64 t744, .int .i64 t745] 25 (0, 0)) (by (with_reducible repeat (first | refine blk_drewN ?_ _ | refine blk_drew ?_ | refine blk_alloc ?_ _)); exact BK747.out)) : gb751 ≠ gb747)); clear HO743; clear BK747; clear HB; have HO743 := n0_; have BK747 := n1_; have HB := n2_; have BK751 := n3_; have GW751 := n4_; have GE751 := n5_; have NB747_751 := n6_; have NB751_747 := n7_; clear n0_ n1_ n2_ n3_ n4_ n5_ n6_ n7_; clear hb hbox hg; have hnb27 := NB751_747.out; have hnc27 := NB747_751.out; have hcz28_0 : w26.cell? ⟨gb751, 0, none⟩ = some (.int .i64 0) := (blk_cell BK751.out 0).trans rfl; have hcz28_1 : w26.cell? ⟨gb751, 1, none⟩ = some (.int .i64 0) := (blk_cell BK751.out 1).trans rfl; have hfz28_0 := blk_frozen BK751.out 0; have hfz28_1 := blk_frozen BK751.out 1))
          (try simp only [Act.put, List.setIfInBounds_toArray, List.set_cons_zero, List.set_cons_succ])
          go_cut [88] (fun v88 wc => ∃ (kq : Nat) (x88_19 : Bool), v88 = .bool x88_19 ∧ Aside0 (law_CurveMeets.j1 kq l0 l1 a2 a3 t740 x88_19 t744 t745 t748 t749 = some r) ∧ Aside0 (kq ≤ kj6) ∧ Aside0 (Kd.R k57 57 wc w.heap.size (fun _ => True) v742 t740) ∧ Aside0 (wc.heap[gb747]? = some (.cells #[.int .i64 t744, .int .i64 t745] 25 (0, 0))) ∧ Aside0 (wc.heap[gb751]? = some (.cells #[.int .i64 t748, .int .i64 t749] 25 (0, 0))) ∧ Aside0 (Below w.heap.size w wc))
          case first => as_aux_lemma =>
            have H := HC20.out
            clear HC20
            by_cases c29 : t741 = 0
            · rw [if_pos c29] at H
              have c29b0 : (t741 == 0) = true := beq_iff_eq.mpr c29
              have c29b1 : (t741 != 0) = false := bne_eq_false_iff_eq.mpr c29
              clear c29
              (first | rw [c29b0] | (simp only [i64_w, i32_w]; rw [c29b0]) | skip)
              by_cases c30 : t746 = 0
              · rw [if_pos c30] at H
                have c30b0 : (t746 == 0) = true := beq_iff_eq.mpr c30
                have c30b1 : (t746 != 0) = false := bne_eq_false_iff_eq.mpr c30
                clear c30
                by_cases c31 : t750 = 0
                · rw [if_pos c31] at H
                  have c31b0 : (t750 == 0) = true := beq_iff_eq.mpr c31
                  have c31b1 : (t750 != 0) = false := bne_eq_false_iff_eq.mpr c31
                  clear c31
                  by_cases c32 : t745 < 1
                  · rw [if_pos c32] at H
                    have c32b0 : decide (t745 < 1) = true := decide_eq_true c32
                    clear c32
                    have H' := Aside0.mk H
                    clear H
                    have hnb33 := NB747_751.out
                    have hnc33 := NB751_747.out
                    have hcz34_0 : w26.cell? ⟨gb747, 0, none⟩ = some (.int .i64 t744) := (blk_cell BK747.out 0).trans rfl
                    have hcz34_1 : w26.cell? ⟨gb747, 1, none⟩ = some (.int .i64 t745) := (blk_cell BK747.out 1).trans rfl
                    have hfz34_0 := blk_frozen BK747.out 0
                    have hfz34_1 := blk_frozen BK747.out 1
                    go_wp2
                    go_meet
                    case rel => exact ⟨_, (true), (by first | rfl | (simp; done) | (simp [*]; done)), H', ⟨by have := HJ6.out; first | omega | exact Nat.le_refl _⟩, ⟨by (with_reducible repeat (first | apply Kd.R_alloc | apply Kd.R_drewN | apply Kd.R_drew)); exact Kd.R_mono (Kd.R_far (p := ⟨gb751, 1, none⟩) (Kd.R_far (p := ⟨gb751, 0, none⟩) (Kd.R_types HO743.out BK751.out (by decide)) (fun _ hk => hk.2) (.int .i64 t748)) (fun _ hk => hk.2) (.int .i64 t749)) (fun _ hk => trivial)⟩, ⟨by (with_reducible repeat (first | refine blk_drewN ?_ _ | refine blk_drew ?_ | refine blk_alloc ?_ _)); refine blk_far ?_ NB747_751.out _; (with_reducible repeat (first | refine blk_drewN ?_ _ | refine blk_drew ?_ | refine blk_alloc ?_ _)); refine blk_far ?_ NB747_751.out _; (with_reducible repeat (first | refine blk_drewN ?_ _ | refine blk_drew ?_ | refine blk_alloc ?_ _)); exact BK747.out⟩, ⟨by (with_reducible repeat (first | refine blk_drewN ?_ _ | refine blk_drew ?_ | refine blk_alloc ?_ _)); refine blk_put (cs := #[.int .i64 t748, .int .i64 0]) ?_ 1 _ rfl; (with_reducible repeat (first | refine blk_drewN ?_ _ | refine blk_drew ?_ | refine blk_alloc ?_ _)); refine blk_put (cs := #[.int .i64 0, .int .i64 0]) ?_ 0 _ rfl; (with_reducible repeat (first | refine blk_drewN ?_ _ | refine blk_drew ?_ | refine blk_alloc ?_ _)); exact BK751.out⟩, ⟨by repeat (first | (with_reducible first | exact HB.out | apply below_alloc | apply pw_below_drewN | apply below_drew1 | refine below_set ?_ GE747.out | refine below_set ?_ GE751.out) | exact HB.out)⟩⟩
                  · rw [if_neg c32] at H
                    have c32b0 : decide (t745 < 1) = false := decide_eq_false c32
                    clear c32
                    by_cases c35 : t749 < 1
                    · rw [if_pos c35] at H
                      have c35b0 : decide (t749 < 1) = true := decide_eq_true c35
                      clear c35
                      have H' := Aside0.mk H
                      clear H
                      have hnb36 := NB747_751.out
                      have hnc36 := NB751_747.out
                      have hcz37_0 : w26.cell? ⟨gb747, 0, none⟩ = some (.int .i64 t744) := (blk_cell BK747.out 0).trans rfl
                      have hcz37_1 : w26.cell? ⟨gb747, 1, none⟩ = some (.int .i64 t745) := (blk_cell BK747.out 1).trans rfl
                      have hfz37_0 := blk_frozen BK747.out 0
                      have hfz37_1 := blk_frozen BK747.out 1
                      have hcz38_0 : w26.cell? ⟨gb751, 0, none⟩ = some (.int .i64 0) := (blk_cell BK751.out 0).trans rfl
                      have hcz38_1 : w26.cell? ⟨gb751, 1, none⟩ = some (.int .i64 0) := (blk_cell BK751.out 1).trans rfl
                      have hfz38_0 := blk_frozen BK751.out 0
                      have hfz38_1 := blk_frozen BK751.out 1
                      go_wp2
                      go_meet
                      case rel => exact ⟨_, (true), (by first | rfl | (simp; done) | (simp [*]; done)), H', ⟨by have := HJ6.out; first | omega | exact Nat.le_refl _⟩, ⟨by (with_reducible repeat (first | apply Kd.R_alloc | apply Kd.R_drewN | apply Kd.R_drew)); exact Kd.R_mono (Kd.R_far (p := ⟨gb751, 1, none⟩) (Kd.R_far (p := ⟨gb751, 0, none⟩) (Kd.R_types HO743.out BK751.out (by decide)) (fun _ hk => hk.2) (.int .i64 t748)) (fun _ hk => hk.2) (.int .i64 t749)) (fun _ hk => trivial)⟩, ⟨by (with_reducible repeat (first | refine blk_drewN ?_ _ | refine blk_drew ?_ | refine blk_alloc ?_ _)); refine blk_far ?_ NB747_751.out _; (with_reducible repeat (first | refine blk_drewN ?_ _ | refine blk_drew ?_ | refine blk_alloc ?_ _)); refine blk_far ?_ NB747_751.out _; (with_reducible repeat (first | refine blk_drewN ?_ _ | refine blk_drew ?_ | refine blk_alloc ?_ _)); exact BK747.out⟩, ⟨by (with_reducible repeat (first | refine blk_drewN ?_ _ | refine blk_drew ?_ | refine blk_alloc ?_ _)); refine blk_put (cs := #[.int .i64 t748, .int .i64 0]) ?_ 1 _ rfl; (with_reducible repeat (first | refine blk_drewN ?_ _ | refine blk_drew ?_ | refine blk_alloc ?_ _)); refine blk_put (cs := #[.int .i64 0, .int .i64 0]) ?_ 0 _ rfl; (with_reducible repeat (first | refine blk_drewN ?_ _ | refine blk_drew ?_ | refine blk_alloc ?_ _)); exact BK751.out⟩, ⟨by repeat (first | (with_reducible first | exact HB.out | apply below_alloc | apply pw_below_drewN | apply below_drew1 | refine below_set ?_ GE747.out | refine below_set ?_ GE751.out) | exact HB.out)⟩⟩
                    · rw [if_neg c35] at H
                      have c35b0 : decide (t749 < 1) = false := decide_eq_false c35
                      clear c35
                      by_cases c39 : t745 > 16777216
                      · rw [if_pos c39] at H
                        have c39b0 : decide (16777216 < t745) = true := decide_eq_true c39
                        clear c39
                        have H' := Aside0.mk H
                        clear H
                        have hnb40 := NB747_751.out
                        have hnc40 := NB751_747.out
                        have hcz41_0 : w26.cell? ⟨gb747, 0, none⟩ = some (.int .i64 t744) := (blk_cell BK747.out 0).trans rfl
                        have hcz41_1 : w26.cell? ⟨gb747, 1, none⟩ = some (.int .i64 t745) := (blk_cell BK747.out 1).trans rfl
                        have hfz41_0 := blk_frozen BK747.out 0
                        have hfz41_1 := blk_frozen BK747.out 1
                        have hcz42_0 : w26.cell? ⟨gb751, 0, none⟩ = some (.int .i64 0) := (blk_cell BK751.out 0).trans rfl
                        have hcz42_1 : w26.cell? ⟨gb751, 1, none⟩ = some (.int .i64 0) := (blk_cell BK751.out 1).trans rfl
                        have hfz42_0 := blk_frozen BK751.out 0
                        have hfz42_1 := blk_frozen BK751.out 1
                        go_wp2
                        go_meet
                        case rel => exact ⟨_, (true), (by first | rfl | (simp; done) | (simp [*]; done)), H', ⟨by have := HJ6.out; first | omega | exact Nat.le_refl _⟩, ⟨by (with_reducible repeat (first | apply Kd.R_alloc | apply Kd.R_drewN | apply Kd.R_drew)); exact Kd.R_mono (Kd.R_far (p := ⟨gb751, 1, none⟩) (Kd.R_far (p := ⟨gb751, 0, none⟩) (Kd.R_types HO743.out BK751.out (by decide)) (fun _ hk => hk.2) (.int .i64 t748)) (fun _ hk => hk.2) (.int .i64 t749)) (fun _ hk => trivial)⟩, ⟨by (with_reducible repeat (first | refine blk_drewN ?_ _ | refine blk_drew ?_ | refine blk_alloc ?_ _)); refine blk_far ?_ NB747_751.out _; (with_reducible repeat (first | refine blk_drewN ?_ _ | refine blk_drew ?_ | refine blk_alloc ?_ _)); refine blk_far ?_ NB747_751.out _; (with_reducible repeat (first | refine blk_drewN ?_ _ | refine blk_drew ?_ | refine blk_alloc ?_ _)); exact BK747.out⟩, ⟨by (with_reducible repeat (first | refine blk_drewN ?_ _ | refine blk_drew ?_ | refine blk_alloc ?_ _)); refine blk_put (cs := #[.int .i64 t748, .int .i64 0]) ?_ 1 _ rfl; (with_reducible repeat (first | refine blk_drewN ?_ _ | refine blk_drew ?_ | refine blk_alloc ?_ _)); refine blk_put (cs := #[.int .i64 0, .int .i64 0]) ?_ 0 _ rfl; (with_reducible repeat (first | refine blk_drewN ?_ _ | refine blk_drew ?_ | refine blk_alloc ?_ _)); exact BK751.out⟩, ⟨by repeat (first | (with_reducible first | exact HB.out | apply below_alloc | apply pw_below_drewN | apply below_drew1 | refine below_set ?_ GE747.out | refine below_set ?_ GE751.out) | exact HB.out)⟩⟩
                      · rw [if_neg c39] at H
                        have c39b0 : decide (16777216 < t745) = false := decide_eq_false c39
                        clear c39
                        have H' := Aside0.mk H
                        clear H
                        have hnb43 := NB747_751.out
                        have hnc43 := NB751_747.out
                        have hcz44_0 : w26.cell? ⟨gb747, 0, none⟩ = some (.int .i64 t744) := (blk_cell BK747.out 0).trans rfl
                        have hcz44_1 : w26.cell? ⟨gb747, 1, none⟩ = some (.int .i64 t745) := (blk_cell BK747.out 1).trans rfl
                        have hfz44_0 := blk_frozen BK747.out 0
                        have hfz44_1 := blk_frozen BK747.out 1
                        have hcz45_0 : w26.cell? ⟨gb751, 0, none⟩ = some (.int .i64 0) := (blk_cell BK751.out 0).trans rfl
                        have hcz45_1 : w26.cell? ⟨gb751, 1, none⟩ = some (.int .i64 0) := (blk_cell BK751.out 1).trans rfl
                        have hfz45_0 := blk_frozen BK751.out 0
                        have hfz45_1 := blk_frozen BK751.out 1
                        go_wp2
                        go_meet
                        case rel => exact ⟨_, (decide (t749 > 16777216)), (by first | rfl | (simp; done) | (simp [*]; done)), H', ⟨by have := HJ6.out; first | omega | exact Nat.le_refl _⟩, ⟨by (with_reducible repeat (first | apply Kd.R_alloc | apply Kd.R_drewN | apply Kd.R_drew)); exact Kd.R_mono (Kd.R_far (p := ⟨gb751, 1, none⟩) (Kd.R_far (p := ⟨gb751, 0, none⟩) (Kd.R_types HO743.out BK751.out (by decide)) (fun _ hk => hk.2) (.int .i64 t748)) (fun _ hk => hk.2) (.int .i64 t749)) (fun _ hk => trivial)⟩, ⟨by (with_reducible repeat (first | refine blk_drewN ?_ _ | refine blk_drew ?_ | refine blk_alloc ?_ _)); refine blk_far ?_ NB747_751.out _; (with_reducible repeat (first | refine blk_drewN ?_ _ | refine blk_drew ?_ | refine blk_alloc ?_ _)); refine blk_far ?_ NB747_751.out _; (with_reducible repeat (first | refine blk_drewN ?_ _ | refine blk_drew ?_ | refine blk_alloc ?_ _)); exact BK747.out⟩, ⟨by (with_reducible repeat (first | refine blk_drewN ?_ _ | refine blk_drew ?_ | refine blk_alloc ?_ _)); refine blk_put (cs := #[.int .i64 t748, .int .i64 0]) ?_ 1 _ rfl; (with_reducible repeat (first | refine blk_drewN ?_ _ | refine blk_drew ?_ | refine blk_alloc ?_ _)); refine blk_put (cs := #[.int .i64 0, .int .i64 0]) ?_ 0 _ rfl; (with_reducible repeat (first | refine blk_drewN ?_ _ | refine blk_drew ?_ | refine blk_alloc ?_ _)); exact BK751.out⟩, ⟨by repeat (first | (with_reducible first | exact HB.out | apply below_alloc | apply pw_below_drewN | apply below_drew1 | refine below_set ?_ GE747.out | refine below_set ?_ GE751.out) | exact HB.out)⟩⟩
                · rw [if_neg c31] at H
                  have c31b0 : (t750 == 0) = false := beq_eq_false_iff_ne.mpr c31
                  have c31b1 : (t750 != 0) = true := bne_iff_ne.mpr c31
                  have H' := Aside0.mk H
                  clear H
                  go_wp2
                  go_meet
                  case rel => exact ⟨_, (true), (by first | rfl | (simp; done) | (simp [*]; done)), H', ⟨by have := HJ6.out; first | omega | exact Nat.le_refl _⟩, ⟨by (with_reducible repeat (first | apply Kd.R_alloc | apply Kd.R_drewN | apply Kd.R_drew)); exact Kd.R_mono (Kd.R_far (p := ⟨gb751, 1, none⟩) (Kd.R_far (p := ⟨gb751, 0, none⟩) (Kd.R_types HO743.out BK751.out (by decide)) (fun _ hk => hk.2) (.int .i64 t748)) (fun _ hk => hk.2) (.int .i64 t749)) (fun _ hk => trivial)⟩, ⟨by (with_reducible repeat (first | refine blk_drewN ?_ _ | refine blk_drew ?_ | refine blk_alloc ?_ _)); refine blk_far ?_ NB747_751.out _; (with_reducible repeat (first | refine blk_drewN ?_ _ | refine blk_drew ?_ | refine blk_alloc ?_ _)); refine blk_far ?_ NB747_751.out _; (with_reducible repeat (first | refine blk_drewN ?_ _ | refine blk_drew ?_ | refine blk_alloc ?_ _)); exact BK747.out⟩, ⟨by (with_reducible repeat (first | refine blk_drewN ?_ _ | refine blk_drew ?_ | refine blk_alloc ?_ _)); refine blk_put (cs := #[.int .i64 t748, .int .i64 0]) ?_ 1 _ rfl; (with_reducible repeat (first | refine blk_drewN ?_ _ | refine blk_drew ?_ | refine blk_alloc ?_ _)); refine blk_put (cs := #[.int .i64 0, .int .i64 0]) ?_ 0 _ rfl; (with_reducible repeat (first | refine blk_drewN ?_ _ | refine blk_drew ?_ | refine blk_alloc ?_ _)); exact BK751.out⟩, ⟨by repeat (first | (with_reducible first | exact HB.out | apply below_alloc | apply pw_below_drewN | apply below_drew1 | refine below_set ?_ GE747.out | refine below_set ?_ GE751.out) | exact HB.out)⟩⟩
              · rw [if_neg c30] at H
                have c30b0 : (t746 == 0) = false := beq_eq_false_iff_ne.mpr c30
                have c30b1 : (t746 != 0) = true := bne_iff_ne.mpr c30
                have H' := Aside0.mk H
                clear H
                go_wp2
                go_meet
                case rel => exact ⟨_, (true), (by first | rfl | (simp; done) | (simp [*]; done)), H', ⟨by have := HJ6.out; first | omega | exact Nat.le_refl _⟩, ⟨by (with_reducible repeat (first | apply Kd.R_alloc | apply Kd.R_drewN | apply Kd.R_drew)); exact Kd.R_mono (Kd.R_far (p := ⟨gb751, 1, none⟩) (Kd.R_far (p := ⟨gb751, 0, none⟩) (Kd.R_types HO743.out BK751.out (by decide)) (fun _ hk => hk.2) (.int .i64 t748)) (fun _ hk => hk.2) (.int .i64 t749)) (fun _ hk => trivial)⟩, ⟨by (with_reducible repeat (first | refine blk_drewN ?_ _ | refine blk_drew ?_ | refine blk_alloc ?_ _)); refine blk_far ?_ NB747_751.out _; (with_reducible repeat (first | refine blk_drewN ?_ _ | refine blk_drew ?_ | refine blk_alloc ?_ _)); refine blk_far ?_ NB747_751.out _; (with_reducible repeat (first | refine blk_drewN ?_ _ | refine blk_drew ?_ | refine blk_alloc ?_ _)); exact BK747.out⟩, ⟨by (with_reducible repeat (first | refine blk_drewN ?_ _ | refine blk_drew ?_ | refine blk_alloc ?_ _)); refine blk_put (cs := #[.int .i64 t748, .int .i64 0]) ?_ 1 _ rfl; (with_reducible repeat (first | refine blk_drewN ?_ _ | refine blk_drew ?_ | refine blk_alloc ?_ _)); refine blk_put (cs := #[.int .i64 0, .int .i64 0]) ?_ 0 _ rfl; (with_reducible repeat (first | refine blk_drewN ?_ _ | refine blk_drew ?_ | refine blk_alloc ?_ _)); exact BK751.out⟩, ⟨by repeat (first | (with_reducible first | exact HB.out | apply below_alloc | apply pw_below_drewN | apply below_drew1 | refine below_set ?_ GE747.out | refine below_set ?_ GE751.out) | exact HB.out)⟩⟩
            · rw [if_neg c29] at H
              have c29b0 : (t741 == 0) = false := beq_eq_false_iff_ne.mpr c29
              have c29b1 : (t741 != 0) = true := bne_iff_ne.mpr c29
              (first | rw [c29b0] | (simp only [i64_w, i32_w]; rw [c29b0]) | skip)
              have H' := Aside0.mk H
              clear H
              go_wp2
              go_meet
              case rel => exact ⟨_, (true), (by first | rfl | (simp; done) | (simp [*]; done)), H', ⟨by have := HJ6.out; first | omega | exact Nat.le_refl _⟩, ⟨by (with_reducible repeat (first | apply Kd.R_alloc | apply Kd.R_drewN | apply Kd.R_drew)); exact Kd.R_mono (Kd.R_far (p := ⟨gb751, 1, none⟩) (Kd.R_far (p := ⟨gb751, 0, none⟩) (Kd.R_types HO743.out BK751.out (by decide)) (fun _ hk => hk.2) (.int .i64 t748)) (fun _ hk => hk.2) (.int .i64 t749)) (fun _ hk => trivial)⟩, ⟨by (with_reducible repeat (first | refine blk_drewN ?_ _ | refine blk_drew ?_ | refine blk_alloc ?_ _)); refine blk_far ?_ NB747_751.out _; (with_reducible repeat (first | refine blk_drewN ?_ _ | refine blk_drew ?_ | refine blk_alloc ?_ _)); refine blk_far ?_ NB747_751.out _; (with_reducible repeat (first | refine blk_drewN ?_ _ | refine blk_drew ?_ | refine blk_alloc ?_ _)); exact BK747.out⟩, ⟨by (with_reducible repeat (first | refine blk_drewN ?_ _ | refine blk_drew ?_ | refine blk_alloc ?_ _)); refine blk_put (cs := #[.int .i64 t748, .int .i64 0]) ?_ 1 _ rfl; (with_reducible repeat (first | refine blk_drewN ?_ _ | refine blk_drew ?_ | refine blk_alloc ?_ _)); refine blk_put (cs := #[.int .i64 0, .int .i64 0]) ?_ 0 _ rfl; (with_reducible repeat (first | refine blk_drewN ?_ _ | refine blk_drew ?_ | refine blk_alloc ?_ _)); exact BK751.out⟩, ⟨by repeat (first | (with_reducible first | exact HB.out | apply below_alloc | apply pw_below_drewN | apply below_drew1 | refine below_set ?_ GE747.out | refine below_set ?_ GE751.out) | exact HB.out)⟩⟩
          case rest => as_aux_lemma =>
            clear HC20
            try clear c1
            try clear c2
            try clear p2
            try clear c3
            try clear c4
            try clear c5
            try clear c6
            try clear c10
            try clear c12
            try clear c14
            try clear c16
            try clear c18
            try clear c22
            try clear c27
            try clear c29
            try clear c29b0
            try clear c29b1
            try clear c30
            try clear c30b0
            try clear c30b1
            try clear c31
            try clear c31b0
            try clear c31b1
            try clear c32
            try clear c32b0
            try clear c33
            try clear c35
            try clear c35b0
            try clear c36
            try clear c39
            try clear c39b0
            try clear c40
            try clear c42
            try clear c43
            try clear hcz24_0
            try clear hcz24_1
            try clear hcz28_0
            try clear hcz28_1
            try clear hcz34_0
            try clear hcz34_1
            try clear hcz37_0
            try clear hcz37_1
            try clear hcz38_0
            try clear hcz38_1
            try clear hcz41_0
            try clear hcz41_1
            try clear hcz42_0
            try clear hcz42_1
            try clear hcz44_0
            try clear hcz44_1
            try clear hcz45_0
            try clear hcz45_1
            try clear hfz24_0
            try clear hfz24_1
            try clear hfz28_0
            try clear hfz28_1
            try clear hfz34_0
            try clear hfz34_1
            try clear hfz37_0
            try clear hfz37_1
            try clear hfz38_0
            try clear hfz38_1
            try clear hfz41_0
            try clear hfz41_1
            try clear hfz42_0
            try clear hfz42_1
            try clear hfz44_0
            try clear hfz44_1
            try clear hfz45_0
            try clear hfz45_1
            try clear p2
            obtain ⟨kq, x88_19, rfl, HA, HJ19, HO_9, BK747, BK751, HB⟩ := hcut
            cases kq with
            | zero => exact absurd HA.out (by simp [law_CurveMeets.j1])
            | succ kj19 =>
              have H := HA.out
              clear HA
              simp only [law_CurveMeets.j1] at H
              by_cases c46 : x88_19 = true
              · subst c46
                have H1 : (some false) = some r := by rw [if_pos rfl] at H; exact H
                clear H
                have H := H1
                clear H1
                obtain rfl := Option.some.inj H
                go_wp2
                go_ret
                exact ⟨by first | rfl | (simp [errW_none, errW_some] <;> rfl) | (simp [*, errW_none, errW_some] <;> rfl), by repeat (first | (with_reducible first | exact HB.out | apply below_alloc | apply pw_below_drewN | apply below_drew1 | refine below_set ?_ GE747.out | refine below_set ?_ GE751.out) | exact HB.out)⟩
              · replace c46 := Bool.eq_false_iff.mpr c46
                subst c46
                have H1 : ((curve_Through.f l0 t740 a2).bind fun bt752 => (if 0 < (l1.length : Int) then (if 0 ≤ (wrap64 ((l1.length : Int) - 1)) then (if (wrap64 ((l1.length : Int) - 1)) < (l1.length : Int) then ((ref_Order.f kj19 t744 t745 ((rd_T57 l1 0).f1) 1).bind fun t760 => (if t760 < 0 then (law_CurveMeets.j2 kj19 l1 a3 bt752.2.2 true t744 t745 t748 t749 bt752.1 bt752.2.1) else ((ref_Order.f kj19 t744 t745 ((rd_T57 l1 (wrap64 ((l1.length : Int) - 1))).f1) 1).bind fun t761 => (law_CurveMeets.j2 kj19 l1 a3 bt752.2.2 (decide (t761 > 0)) t744 t745 t748 t749 bt752.1 bt752.2.1)))) else (none)) else (none)) else (none))) = some r := by rw [if_neg (show ¬ (false = true) by decide)] at H; exact H
                clear H
                have H := H1
                clear H1
                replace H := Option.bind_eq_some_iff.mp H
                obtain ⟨⟨t752, t753, t754⟩, A470, H⟩ := H
                replace H : (if 0 < (l1.length : Int) then (if 0 ≤ (wrap64 ((l1.length : Int) - 1)) then (if (wrap64 ((l1.length : Int) - 1)) < (l1.length : Int) then ((ref_Order.f kj19 t744 t745 ((rd_T57 l1 0).f1) 1).bind fun t760 => (if t760 < 0 then (law_CurveMeets.j2 kj19 l1 a3 t754 true t744 t745 t748 t749 t752 t753) else ((ref_Order.f kj19 t744 t745 ((rd_T57 l1 (wrap64 ((l1.length : Int) - 1))).f1) 1).bind fun t761 => (law_CurveMeets.j2 kj19 l1 a3 t754 (decide (t761 > 0)) t744 t745 t748 t749 t752 t753)))) else (none)) else (none)) else (none)) = some r := H
                have A47 := Aside0.mk A470
                clear A470
                by_cases c48 : 0 < (l1.length : Int)
                · rw [if_pos c48] at H
                  have c48b0 : decide (0 < (l1.length : Int)) = true := decide_eq_true c48
                  have c48b1 : decide (0 < l1.length) = true := decide_eq_true (by omega)
                  clear c48
                  obtain ⟨ji49, hji49⟩ : ∃ j_ : Int, (wrap64 ((l1.length : Int) - 1)) = j_ := ⟨_, rfl⟩
                  replace H : (if 0 ≤ (ji49) then (if (ji49) < (l1.length : Int) then ((ref_Order.f kj19 t744 t745 ((rd_T57 l1 0).f1) 1).bind fun t760 => (if t760 < 0 then (law_CurveMeets.j2 kj19 l1 a3 t754 true t744 t745 t748 t749 t752 t753) else ((ref_Order.f kj19 t744 t745 ((rd_T57 l1 (ji49)).f1) 1).bind fun t761 => (law_CurveMeets.j2 kj19 l1 a3 t754 (decide (t761 > 0)) t744 t745 t748 t749 t752 t753)))) else (none)) else (none)) = some r := by first | (rw [hji49] at H; exact H) | (simp only [hji49] at H ⊢; exact H)
                  (try rw [hji49] at A47)
                  have hji49w : (IntKind.i64.wrap ((l1.length : Int) - 1)) = ji49 := (i64_w _).trans hji49
                  by_cases c50 : 0 ≤ (ji49)
                  · rw [if_pos c50] at H
                    have c50b0 : decide (0 ≤ (ji49)) = true := decide_eq_true c50
                    clear c50
                    by_cases c51 : (ji49) < (l1.length : Int)
                    · rw [if_pos c51] at H
                      have c51b0 : decide ((ji49) < (l1.length : Int)) = true := decide_eq_true c51
                      clear c51
                      have HC52 := Aside0.mk H
                      clear H
                      obtain ⟨Ao53, co53, eo53⟩ := Kd.R_slice HO_9.out
                      subst eo53
                      try go_wp2_with (first | ((with_reducible refine gate_callee (f := 40) rfl ?_); refine goesL_ (some 93) rfl rfl Tryd.func40 (by kernel_rfl) rfl #[.slice A0 l0.length c0, .slice Ao53 t740.length co53, .int .i64 a2] rfl (by (try simp only [List.map_toArray, List.map_cons, List.map_nil]); first | done | rfl | (simp only [List.length_drop, List.length_take]; rfl)) ?_; (with_reducible refine (curve_Through.calls _ _ l0 _ _ t740 a2 t752 t753 t754 _ ?side1 ?side2 ?side3 ?side4 A47.out).mono ?_); (case side1 => repeat (first | exact (Kd.C_below HR0.out HB.out) | (with_reducible refine Kd.C_alloc ?_ _) | (with_reducible refine Kd.C_drewN ?_ _) | (with_reducible refine Kd.C_drew ?_))); (case side2 => exact HC0.out); (case side3 => repeat (first | exact (Kd.R_reads' HO_9.out).2.2 | (with_reducible refine Kd.C_alloc ?_ _) | (with_reducible refine Kd.C_drewN ?_ _) | (with_reducible refine Kd.C_drew ?_))); (case side4 => exact (Kd.R_reads' HO_9.out).2.1); rintro e w54 ⟨rfl, hb⟩; refine ⟨_, rfl, ?_⟩; have n0_ := Aside0.mk (Kd.R_below (by (with_reducible repeat (first | apply Kd.R_alloc | apply Kd.R_drewN | apply Kd.R_drew)); exact HO_9.out) hb); have n1_ := Aside0.mk (blk_below (g := gb747) (o := .cells #[.int .i64 t744, .int .i64 t745] 25 (0, 0)) (by (with_reducible repeat (first | refine blk_drewN ?_ _ | refine blk_drew ?_ | refine blk_alloc ?_ _)); exact BK747.out) hb); have n2_ := Aside0.mk (blk_below (g := gb751) (o := .cells #[.int .i64 t748, .int .i64 t749] 25 (0, 0)) (by (with_reducible repeat (first | refine blk_drewN ?_ _ | refine blk_drew ?_ | refine blk_alloc ?_ _)); exact BK751.out) hb); have n3_ := Aside0.mk (below_step (by repeat (first | (with_reducible first | exact HB.out | apply below_alloc | apply pw_below_drewN | apply below_drew1 | refine below_set ?_ GE747.out | refine below_set ?_ GE751.out) | exact HB.out)) hb); clear HO_9; clear BK747; clear BK751; clear HB; have HO_9 := n0_; have BK747 := n1_; have BK751 := n2_; have HB := n3_; clear n0_ n1_ n2_ n3_; (try clear hb); (try clear hb2); (try clear hk); (try clear hi)) | ((with_reducible refine gate_dst (N := 15) rfl ?_); refine box_event ?hg (N := 15) ?hd (cs := #[.int .i64 0, .int .i64 0]) (t := 43) ?hr ?_; (case hd => rfl); (case hg => rfl); (case hr => first | (go_simp; done) | (go_simp; rfl)); intro gb755 hg w55 hbox hb; have n0_ := Aside0.mk (Kd.R_below (by (with_reducible repeat (first | apply Kd.R_alloc | apply Kd.R_drewN | apply Kd.R_drew)); exact HO_9.out) hb); have n1_ := Aside0.mk (blk_below (g := gb747) (o := .cells #[.int .i64 t744, .int .i64 t745] 25 (0, 0)) (by (with_reducible repeat (first | refine blk_drewN ?_ _ | refine blk_drew ?_ | refine blk_alloc ?_ _)); exact BK747.out) hb); have n2_ := Aside0.mk (blk_below (g := gb751) (o := .cells #[.int .i64 t748, .int .i64 t749] 25 (0, 0)) (by (with_reducible repeat (first | refine blk_drewN ?_ _ | refine blk_drew ?_ | refine blk_alloc ?_ _)); exact BK751.out) hb); have n3_ := Aside0.mk (below_step (by repeat (first | (with_reducible first | exact HB.out | apply below_alloc | apply pw_below_drewN | apply below_drew1 | refine below_set ?_ GE747.out | refine below_set ?_ GE751.out) | exact HB.out)) hb); have n4_ := Aside0.mk (hbox); have n5_ := Aside0.mk ((by rw [hg]; exact (below_size (by repeat (first | (with_reducible first | exact HB.out | apply below_alloc | apply pw_below_drewN | apply below_drew1 | refine below_set ?_ GE747.out | refine below_set ?_ GE751.out) | exact HB.out))) : w.heap.size ≤ gb755)); have n6_ := Aside0.mk ((by rw [hg]; exact (below_size (by repeat (first | (with_reducible first | exact HB.out | apply below_alloc | apply pw_below_drewN | apply below_drew1 | refine below_set ?_ GE747.out | refine below_set ?_ GE751.out) | exact HB.out))) : w.heap.size ≤ gb755)); have n7_ := Aside0.mk ((by rw [hg]; exact Nat.ne_of_lt (blk_lt (g := gb747) (o := .cells #[.int .i64 t744, .int .i64 t745] 25 (0, 0)) (by (with_reducible repeat (first | refine blk_drewN ?_ _ | refine blk_drew ?_ | refine blk_alloc ?_ _)); exact BK747.out)) : gb747 ≠ gb755)); have n8_ := Aside0.mk ((by rw [hg]; exact Nat.ne_of_gt (blk_lt (g := gb747) (o := .cells #[.int .i64 t744, .int .i64 t745] 25 (0, 0)) (by (with_reducible repeat (first | refine blk_drewN ?_ _ | refine blk_drew ?_ | refine blk_alloc ?_ _)); exact BK747.out)) : gb755 ≠ gb747)); have n9_ := Aside0.mk ((by rw [hg]; exact Nat.ne_of_lt (blk_lt (g := gb751) (o := .cells #[.int .i64 t748, .int .i64 t749] 25 (0, 0)) (by (with_reducible repeat (first | refine blk_drewN ?_ _ | refine blk_drew ?_ | refine blk_alloc ?_ _)); exact BK751.out)) : gb751 ≠ gb755)); have n10_ := Aside0.mk ((by rw [hg]; exact Nat.ne_of_gt (blk_lt (g := gb751) (o := .cells #[.int .i64 t748, .int .i64 t749] 25 (0, 0)) (by (with_reducible repeat (first | refine blk_drewN ?_ _ | refine blk_drew ?_ | refine blk_alloc ?_ _)); exact BK751.out)) : gb755 ≠ gb751)); clear HO_9; clear BK747; clear BK751; clear HB; have HO_9 := n0_; have BK747 := n1_; have BK751 := n2_; have HB := n3_; have BK755 := n4_; have GW755 := n5_; have GE755 := n6_; have NB747_755 := n7_; have NB755_747 := n8_; have NB751_755 := n9_; have NB755_751 := n10_; clear n0_ n1_ n2_ n3_ n4_ n5_ n6_ n7_ n8_ n9_ n10_; clear hb hbox hg; have hnb56 := NB755_747.out; have hnc56 := NB747_755.out; have hnb57 := NB755_751.out; have hnc57 := NB751_755.out; have hcz58_0 : w55.cell? ⟨gb755, 0, none⟩ = some (.int .i64 0) := (blk_cell BK755.out 0).trans rfl; have hcz58_1 : w55.cell? ⟨gb755, 1, none⟩ = some (.int .i64 0) := (blk_cell BK755.out 1).trans rfl; have hfz58_0 := blk_frozen BK755.out 0; have hfz58_1 := blk_frozen BK755.out 1))
                      have n0_ : Aside0 (Kd.R k57 57 ((w55.setCell ⟨gb755, 0, none⟩ (.int .i64 t752)).setCell ⟨gb755, 1, none⟩ (.int .i64 t753)) w.heap.size (fun _ => True) (.slice Ao53 t740.length co53) t740) := ⟨by (with_reducible repeat (first | apply Kd.R_alloc | apply Kd.R_drewN | apply Kd.R_drew)); exact Kd.R_mono (Kd.R_far (p := ⟨gb755, 1, none⟩) (Kd.R_far (p := ⟨gb755, 0, none⟩) (Kd.R_types HO_9.out BK755.out (by decide)) (fun _ hk => hk.2) (.int .i64 t752)) (fun _ hk => hk.2) (.int .i64 t753)) (fun _ hk => trivial)⟩
                      have n1_ : Aside0 (((w55.setCell ⟨gb755, 0, none⟩ (.int .i64 t752)).setCell ⟨gb755, 1, none⟩ (.int .i64 t753)).heap[gb747]? = some (.cells #[.int .i64 t744, .int .i64 t745] 25 (0, 0))) := ⟨by (with_reducible repeat (first | refine blk_drewN ?_ _ | refine blk_drew ?_ | refine blk_alloc ?_ _)); refine blk_far ?_ NB747_755.out _; (with_reducible repeat (first | refine blk_drewN ?_ _ | refine blk_drew ?_ | refine blk_alloc ?_ _)); refine blk_far ?_ NB747_755.out _; (with_reducible repeat (first | refine blk_drewN ?_ _ | refine blk_drew ?_ | refine blk_alloc ?_ _)); exact BK747.out⟩
                      have n2_ : Aside0 (((w55.setCell ⟨gb755, 0, none⟩ (.int .i64 t752)).setCell ⟨gb755, 1, none⟩ (.int .i64 t753)).heap[gb751]? = some (.cells #[.int .i64 t748, .int .i64 t749] 25 (0, 0))) := ⟨by (with_reducible repeat (first | refine blk_drewN ?_ _ | refine blk_drew ?_ | refine blk_alloc ?_ _)); refine blk_far ?_ NB751_755.out _; (with_reducible repeat (first | refine blk_drewN ?_ _ | refine blk_drew ?_ | refine blk_alloc ?_ _)); refine blk_far ?_ NB751_755.out _; (with_reducible repeat (first | refine blk_drewN ?_ _ | refine blk_drew ?_ | refine blk_alloc ?_ _)); exact BK751.out⟩
                      have n3_ : Aside0 (((w55.setCell ⟨gb755, 0, none⟩ (.int .i64 t752)).setCell ⟨gb755, 1, none⟩ (.int .i64 t753)).heap[gb755]? = some (.cells #[.int .i64 t752, .int .i64 t753] 43 (0, 0))) := ⟨by (with_reducible repeat (first | refine blk_drewN ?_ _ | refine blk_drew ?_ | refine blk_alloc ?_ _)); refine blk_put (cs := #[.int .i64 t752, .int .i64 0]) ?_ 1 _ rfl; (with_reducible repeat (first | refine blk_drewN ?_ _ | refine blk_drew ?_ | refine blk_alloc ?_ _)); refine blk_put (cs := #[.int .i64 0, .int .i64 0]) ?_ 0 _ rfl; (with_reducible repeat (first | refine blk_drewN ?_ _ | refine blk_drew ?_ | refine blk_alloc ?_ _)); exact BK755.out⟩
                      have n4_ : Aside0 (Below w.heap.size w ((w55.setCell ⟨gb755, 0, none⟩ (.int .i64 t752)).setCell ⟨gb755, 1, none⟩ (.int .i64 t753))) := ⟨by repeat (first | (with_reducible first | exact HB.out | apply below_alloc | apply pw_below_drewN | apply below_drew1 | refine below_set ?_ GE747.out | refine below_set ?_ GE751.out | refine below_set ?_ GE755.out) | exact HB.out)⟩
                      (try clear HO_9)
                      (try clear BK747)
                      (try clear BK751)
                      (try clear BK755)
                      (try clear HB)
                      generalize ((w55.setCell ⟨gb755, 0, none⟩ (.int .i64 t752)).setCell ⟨gb755, 1, none⟩ (.int .i64 t753)) = w59 at n0_ n1_ n2_ n3_ n4_ ⊢
                      have HO_9 := n0_
                      have BK747 := n1_
                      have BK751 := n2_
                      have BK755 := n3_
                      have HB := n4_
                      clear n0_ n1_ n2_ n3_ n4_
                      have n0_ := Aside0.mk (Kd.R_drew HO_9.out)
                      have n1_ := Aside0.mk (blk_drew BK747.out)
                      have n2_ := Aside0.mk (blk_drew BK751.out)
                      have n3_ := Aside0.mk (blk_drew BK755.out)
                      have n4_ := Aside0.mk (below_drew1 HB.out)
                      clear HO_9
                      clear BK747
                      clear BK751
                      clear BK755
                      clear HB
                      have HO_9 := n0_
                      have BK747 := n1_
                      have BK751 := n2_
                      have BK755 := n3_
                      have HB := n4_
                      clear n0_ n1_ n2_ n3_ n4_
                      have p756 : 0 ≤ (0 : Int) := (by omega)
                      have q756 : 0 < (l1.length : Int) := of_decide_eq_true (by first | (with_reducible assumption) | assumption)
                      obtain ⟨ad756, e756, hx756_0, hx756_1⟩ := at_T57 HR1.out 0 p756 q756
                      have hw756_1 := hx756_1
                      (try rw [show ((0 : Int)).toNat = 0 from rfl] at hw756_1)
                      (try rw [show 0 * 2 = 0 from rfl] at hw756_1)
                      (try rw [Addr.add_zero'] at hw756_1)
                      have hw756_0 := hx756_0
                      (try rw [show ((0 : Int)).toNat = 0 from rfl] at hw756_0)
                      (try rw [show 0 * 2 = 0 from rfl] at hw756_0)
                      (try rw [Addr.add_zero'] at hw756_0)
                      cases e756
                      have qi756 : (0 < l1.length) = True := eq_true (by omega)
                      (try rw [show ((0 : Int)).toNat = 0 from rfl] at hx756_0)
                      (try rw [show 0 * 2 = 0 from rfl] at hx756_0)
                      (try rw [Addr.add_zero'] at hx756_0)
                      (try rw [show ((0 : Int)).toNat = 0 from rfl] at hx756_1)
                      (try rw [show 0 * 2 = 0 from rfl] at hx756_1)
                      (try rw [Addr.add_zero'] at hx756_1)
                      replace hx756_0 := (HB.out.cell (World.block_lt_of_cell? w _ hx756_0)).trans hx756_0
                      replace hx756_1 := (HB.out.cell (World.block_lt_of_cell? w _ hx756_1)).trans hx756_1
                      replace p756 := eq_true p756
                      replace q756 := eq_true q756
                      have p757 : 0 ≤ ((ji49) : Int) := of_decide_eq_true (by first | (with_reducible assumption) | assumption)
                      have q757 : (ji49) < (l1.length : Int) := of_decide_eq_true (by first | (with_reducible assumption) | assumption)
                      obtain ⟨ad757, e757, hx757_0, hx757_1⟩ := at_T57 HR1.out (ji49) p757 q757
                      have hw757_1 := hx757_1
                      have hw757_0 := hx757_0
                      obtain rfl : ad756 = ad757 := (by injection e757)
                      replace hx757_0 := (HB.out.cell (World.block_lt_of_cell? w _ hx757_0)).trans hx757_0
                      replace hx757_1 := (HB.out.cell (World.block_lt_of_cell? w _ hx757_1)).trans hx757_1
                      replace p757 := eq_true p757
                      replace q757 := eq_true q757
                      refine start_ (n := 17) (S := fun w' => w'.cell? ad756 = some (.int .i64 ((rd_T57 l1 0).f0)) ∧ w'.cell? ⟨ad756.block, ad756.off + 1, none⟩ = some (.int .i64 ((rd_T57 l1 0).f1)) ∧ w'.cell? (ad756.add (((ji49)).toNat * 2)) = some (.int .i64 ((rd_T57 l1 (ji49)).f0)) ∧ w'.cell? ⟨(ad756.add (((ji49)).toNat * 2)).block, (ad756.add (((ji49)).toNat * 2)).off + 1, none⟩ = some (.int .i64 ((rd_T57 l1 (ji49)).f1))) (ds := []) #[false, false, false, false, false, false, false, false, false, false, false, false, false, false, false, false, false] (by kernel_rfl) rfl rfl ⟨((HB.out.cell (World.block_lt_of_cell? w _ hw756_0)).trans hw756_0), ((HB.out.cell (World.block_lt_of_cell? w _ hw756_1)).trans hw756_1), ((HB.out.cell (World.block_lt_of_cell? w _ hw757_0)).trans hw757_0), ((HB.out.cell (World.block_lt_of_cell? w _ hw757_1)).trans hw757_1)⟩ (fun hHeld => ?_); refine with_tabW law_CurveMeets.tab11 law_CurveMeets.bits11 (fun HT_ HW_ => ?_)
                      generalize w59.drew = w60 at HO_9 BK747 BK751 BK755 HB hx756_0 hx756_1 hx757_0 hx757_1 hHeld ⊢
                      refine pure_ (i := 0) (N := some 96) (v := ?_) (a' := ?_) #[true, false, false, false, false, false, false, false, false, false, false, false, false, false, false, false, false] rfl rfl (any_of HT_.out (by kernel_rfl)) (fun _ _ _ h => h) (Or.inl ⟨by rfl, ?_⟩) ?_ ?_
                      rotate_left
                      · intro w'
                        go_simp
                        with_reducible rfl
                      rotate_left
                      · simp only [Act.put, List.setIfInBounds_toArray, List.set_cons_zero, List.set_cons_succ, i64_w, i32_w]
                        rfl
                      refine pure_ (i := 1) (N := some 97) (v := ?_) (a' := ?_) #[true, true, false, false, false, false, false, false, false, false, false, false, false, false, false, false, false] rfl rfl (any_of HT_.out (by kernel_rfl)) (fun _ _ _ h => h) (Or.inl ⟨by rfl, ?_⟩) ?_ ?_
                      rotate_left
                      · intro w'
                        go_simp
                        with_reducible rfl
                      rotate_left
                      · simp only [Act.put, List.setIfInBounds_toArray, List.set_cons_zero, List.set_cons_succ, i64_w, i32_w]
                        rfl
                      refine pure_ (i := 2) (N := some 98) (v := ?_) (a' := ?_) #[true, true, true, false, false, false, false, false, false, false, false, false, false, false, false, false, false] rfl rfl (any_of HT_.out (by kernel_rfl)) (fun _ _ _ h => h) (Or.inl ⟨by rfl, ?_⟩) ?_ ?_
                      rotate_left
                      · intro w'
                        go_simp
                        with_reducible rfl
                      rotate_left
                      · simp only [Act.put, List.setIfInBounds_toArray, List.set_cons_zero, List.set_cons_succ, i64_w, i32_w]
                        rfl
                      refine pure_ (i := 5) (N := some 101) (v := ?_) (a' := ?_) #[true, true, true, false, false, true, false, false, false, false, false, false, false, false, false, false, false] rfl rfl (any_of HT_.out (by kernel_rfl)) (fun _ _ _ h => h) (Or.inl ⟨by rfl, ?_⟩) ?_ ?_
                      rotate_left
                      · intro w'
                        go_simp
                        with_reducible rfl
                      rotate_left
                      · simp only [Act.put, List.setIfInBounds_toArray, List.set_cons_zero, List.set_cons_succ, i64_w, i32_w]
                        rfl
                      refine pure_ (i := 6) (N := some 102) (v := ?_) (a' := ?_) #[true, true, true, false, false, true, true, false, false, false, false, false, false, false, false, false, false] rfl rfl (any_of HT_.out (by kernel_rfl)) (fun _ _ _ h => h) (Or.inl ⟨by rfl, ?_⟩) ?_ ?_
                      rotate_left
                      · intro w'
                        go_simp
                        with_reducible rfl
                      rotate_left
                      · simp only [Act.put, List.setIfInBounds_toArray, List.set_cons_zero, List.set_cons_succ, i64_w, i32_w]
                        rfl
                      refine pure_ (i := 7) (N := some 103) (v := ?_) (a' := ?_) #[true, true, true, false, false, true, true, true, false, false, false, false, false, false, false, false, false] rfl rfl (any_of HT_.out (by kernel_rfl)) (fun _ _ _ h => h) (Or.inl ⟨by rfl, ?_⟩) ?_ ?_
                      rotate_left
                      · intro w'
                        go_simp
                        with_reducible rfl
                      rotate_left
                      · simp only [Act.put, List.setIfInBounds_toArray, List.set_cons_zero, List.set_cons_succ, i64_w, i32_w]
                        rfl
                      refine pure_ (i := 8) (N := some 104) (v := ?_) (a' := ?_) #[true, true, true, false, false, true, true, true, true, false, false, false, false, false, false, false, false] rfl rfl (any_of HT_.out (by kernel_rfl)) (fun _ _ _ h => h) (Or.inl ⟨by rfl, ?_⟩) ?_ ?_
                      rotate_left
                      · intro w'
                        go_simp
                        with_reducible rfl
                      rotate_left
                      · simp only [Act.put, List.setIfInBounds_toArray, List.set_cons_zero, List.set_cons_succ, i64_w, i32_w]
                        rfl
                      refine pure_ (i := 9) (N := some 105) (v := ?_) (a' := ?_) #[true, true, true, false, false, true, true, true, true, true, false, false, false, false, false, false, false] rfl rfl (any_of HT_.out (by kernel_rfl)) (fun _ _ _ h => h) (Or.inl ⟨by rfl, ?_⟩) ?_ ?_
                      rotate_left
                      · intro w'
                        go_simp
                        with_reducible rfl
                      rotate_left
                      · simp only [Act.put, List.setIfInBounds_toArray, List.set_cons_zero, List.set_cons_succ, i64_w, i32_w]
                        rfl
                      refine pure_ (i := 10) (N := some 106) (v := ?_) (a' := ?_) #[true, true, true, false, false, true, true, true, true, true, true, false, false, false, false, false, false] rfl rfl (any_of HT_.out (by kernel_rfl)) (fun _ _ _ h => h) (Or.inl ⟨by rfl, ?_⟩) ?_ ?_
                      rotate_left
                      · intro w'
                        go_simp
                        with_reducible rfl
                      rotate_left
                      · simp only [Act.put, List.setIfInBounds_toArray, List.set_cons_zero, List.set_cons_succ, i64_w, i32_w]
                        rfl
                      refine take_ (i := 3) (N := some 99) (v := ?_) (a' := ?_) #[true, true, true, true, false, true, true, true, true, true, true, false, false, false, false, false, false] rfl rfl (take_ofW HT_.out HW_.out (by kernel_rfl)) (fun _ _ _ h => h) (Or.inl ⟨by rfl, ?_⟩) hHeld ?_ ?_
                      rotate_left
                      · rintro w' ⟨s0, s1, s2, s3⟩
                        go_simp
                        with_reducible rfl
                      rotate_left
                      · simp only [Act.put, List.setIfInBounds_toArray, List.set_cons_zero, List.set_cons_succ, i64_w, i32_w]
                        rfl
                      refine pure_ (i := 4) (N := some 100) (v := ?_) (a' := ?_) #[true, true, true, true, true, true, true, true, true, true, true, false, false, false, false, false, false] rfl rfl (any_of HT_.out (by kernel_rfl)) (fun _ _ _ h => h) (Or.inl ⟨by rfl, ?_⟩) ?_ ?_
                      rotate_left
                      · intro w'
                        go_simp
                        with_reducible rfl
                      rotate_left
                      · simp only [Act.put, List.setIfInBounds_toArray, List.set_cons_zero, List.set_cons_succ, i64_w, i32_w]
                        rfl
                      refine take_ (i := 11) (N := some 107) (v := ?_) (a' := ?_) #[true, true, true, true, true, true, true, true, true, true, true, true, false, false, false, false, false] rfl rfl (take_ofW HT_.out HW_.out (by kernel_rfl)) (fun _ _ _ h => h) (Or.inl ⟨by rfl, ?_⟩) hHeld ?_ ?_
                      rotate_left
                      · rintro w' ⟨s0, s1, s2, s3⟩
                        go_simp
                        with_reducible rfl
                      rotate_left
                      · simp only [Act.put, List.setIfInBounds_toArray, List.set_cons_zero, List.set_cons_succ, i64_w, i32_w]
                        rfl
                      refine pure_ (i := 12) (N := some 108) (v := ?_) (a' := ?_) #[true, true, true, true, true, true, true, true, true, true, true, true, true, false, false, false, false] rfl rfl (any_of HT_.out (by kernel_rfl)) (fun _ _ _ h => h) (Or.inl ⟨by rfl, ?_⟩) ?_ ?_
                      rotate_left
                      · intro w'
                        go_simp
                        with_reducible rfl
                      rotate_left
                      · simp only [Act.put, List.setIfInBounds_toArray, List.set_cons_zero, List.set_cons_succ, i64_w, i32_w]
                        rfl
                      refine join_ (σ := Nat × Nat) 2 #[true, true, true, true, true, true, true, true, true, true, true, true, true, true, true, false, false] (fun s_ => [(17, .pointer (some ⟨s_.1, 0, none⟩)), (18, .pointer (some ⟨s_.2, 0, none⟩))]) (fun s_ w' => (w'.cell? ad756 = some (.int .i64 ((rd_T57 l1 0).f0)) ∧ w'.cell? ⟨ad756.block, ad756.off + 1, none⟩ = some (.int .i64 ((rd_T57 l1 0).f1)) ∧ w'.cell? (ad756.add (((ji49)).toNat * 2)) = some (.int .i64 ((rd_T57 l1 (ji49)).f0)) ∧ w'.cell? ⟨(ad756.add (((ji49)).toNat * 2)).block, (ad756.add (((ji49)).toNat * 2)).off + 1, none⟩ = some (.int .i64 ((rd_T57 l1 (ji49)).f1))) ∧ (Kd.R k57 57 w' w.heap.size (fun _ => True) (.slice Ao53 t740.length co53) t740) ∧ (w'.heap[gb747]? = some (.cells #[.int .i64 t744, .int .i64 t745] 25 (0, 0))) ∧ (w'.heap[gb751]? = some (.cells #[.int .i64 t748, .int .i64 t749] 25 (0, 0))) ∧ (w'.heap[gb755]? = some (.cells #[.int .i64 t752, .int .i64 t753] 43 (0, 0))) ∧ (w'.heap[s_.1]? = some (.cells #[.int .i64 0, .int .i64 0] 25 (0, 0))) ∧ (w'.heap[s_.2]? = some (.cells #[.int .i64 0, .int .i64 0] 25 (0, 0))) ∧ (w.heap.size ≤ s_.1) ∧ (w.heap.size ≤ s_.1) ∧ (gb747 ≠ s_.1) ∧ (s_.1 ≠ gb747) ∧ (gb751 ≠ s_.1) ∧ (s_.1 ≠ gb751) ∧ (gb755 ≠ s_.1) ∧ (s_.1 ≠ gb755) ∧ (s_.2 ≠ s_.1) ∧ (s_.1 ≠ s_.2) ∧ (w.heap.size ≤ s_.2) ∧ (w.heap.size ≤ s_.2) ∧ (gb747 ≠ s_.2) ∧ (s_.2 ≠ gb747) ∧ (gb751 ≠ s_.2) ∧ (s_.2 ≠ gb751) ∧ (gb755 ≠ s_.2) ∧ (s_.2 ≠ gb755) ∧ (Below w.heap.size w w')) ?_ ?_
                      rotate_left
                      · intro hCont
                        refine two_ (i := 13) (j := 14) (Ni := some 17) (Nj := some 18) #[true, true, true, true, true, true, true, true, true, true, true, true, true, true, false, false, false] #[true, true, true, true, true, true, true, true, true, true, true, true, true, false, true, false, false] rfl rfl rfl rfl (two_of HT_.out (by kernel_rfl)) (by decide) (by decide) (fun K hK => ?_) (fun K hK => ?_)
                        · skip
                          refine box_step ?hg (N := 17) ?hd (cs := #[.int .i64 0, .int .i64 0]) (t := 25) ?hr ?_; (case hd => rfl); (case hg => rfl); (case hr => first | (go_simp; done) | (go_simp; rfl))
                          intro gb758 hg w61 hbox hb
                          have n0_ := Aside0.mk (Kd.R_below (by (with_reducible repeat (first | apply Kd.R_alloc | apply Kd.R_drewN | apply Kd.R_drew)); exact HO_9.out) hb)
                          have n1_ := Aside0.mk (blk_below (g := gb747) (o := .cells #[.int .i64 t744, .int .i64 t745] 25 (0, 0)) (by (with_reducible repeat (first | refine blk_drewN ?_ _ | refine blk_drew ?_ | refine blk_alloc ?_ _)); exact BK747.out) hb)
                          have n2_ := Aside0.mk (blk_below (g := gb751) (o := .cells #[.int .i64 t748, .int .i64 t749] 25 (0, 0)) (by (with_reducible repeat (first | refine blk_drewN ?_ _ | refine blk_drew ?_ | refine blk_alloc ?_ _)); exact BK751.out) hb)
                          have n3_ := Aside0.mk (blk_below (g := gb755) (o := .cells #[.int .i64 t752, .int .i64 t753] 43 (0, 0)) (by (with_reducible repeat (first | refine blk_drewN ?_ _ | refine blk_drew ?_ | refine blk_alloc ?_ _)); exact BK755.out) hb)
                          have n4_ := Aside0.mk (below_step (by repeat (first | (with_reducible first | exact HB.out | apply below_alloc | apply pw_below_drewN | apply below_drew1 | refine below_set ?_ GE747.out | refine below_set ?_ GE751.out | refine below_set ?_ GE755.out) | exact HB.out)) hb)
                          have n5_ := Aside0.mk (hbox)
                          have n6_ := Aside0.mk ((by rw [hg]; exact (below_size (by repeat (first | (with_reducible first | exact HB.out | apply below_alloc | apply pw_below_drewN | apply below_drew1 | refine below_set ?_ GE747.out | refine below_set ?_ GE751.out | refine below_set ?_ GE755.out) | exact HB.out))) : w.heap.size ≤ gb758))
                          have n7_ := Aside0.mk ((by rw [hg]; exact (below_size (by repeat (first | (with_reducible first | exact HB.out | apply below_alloc | apply pw_below_drewN | apply below_drew1 | refine below_set ?_ GE747.out | refine below_set ?_ GE751.out | refine below_set ?_ GE755.out) | exact HB.out))) : w.heap.size ≤ gb758))
                          have n8_ := Aside0.mk ((by rw [hg]; exact Nat.ne_of_lt (blk_lt (g := gb747) (o := .cells #[.int .i64 t744, .int .i64 t745] 25 (0, 0)) (by (with_reducible repeat (first | refine blk_drewN ?_ _ | refine blk_drew ?_ | refine blk_alloc ?_ _)); exact BK747.out)) : gb747 ≠ gb758))
                          have n9_ := Aside0.mk ((by rw [hg]; exact Nat.ne_of_gt (blk_lt (g := gb747) (o := .cells #[.int .i64 t744, .int .i64 t745] 25 (0, 0)) (by (with_reducible repeat (first | refine blk_drewN ?_ _ | refine blk_drew ?_ | refine blk_alloc ?_ _)); exact BK747.out)) : gb758 ≠ gb747))
                          have n10_ := Aside0.mk ((by rw [hg]; exact Nat.ne_of_lt (blk_lt (g := gb751) (o := .cells #[.int .i64 t748, .int .i64 t749] 25 (0, 0)) (by (with_reducible repeat (first | refine blk_drewN ?_ _ | refine blk_drew ?_ | refine blk_alloc ?_ _)); exact BK751.out)) : gb751 ≠ gb758))
                          have n11_ := Aside0.mk ((by rw [hg]; exact Nat.ne_of_gt (blk_lt (g := gb751) (o := .cells #[.int .i64 t748, .int .i64 t749] 25 (0, 0)) (by (with_reducible repeat (first | refine blk_drewN ?_ _ | refine blk_drew ?_ | refine blk_alloc ?_ _)); exact BK751.out)) : gb758 ≠ gb751))
                          have n12_ := Aside0.mk ((by rw [hg]; exact Nat.ne_of_lt (blk_lt (g := gb755) (o := .cells #[.int .i64 t752, .int .i64 t753] 43 (0, 0)) (by (with_reducible repeat (first | refine blk_drewN ?_ _ | refine blk_drew ?_ | refine blk_alloc ?_ _)); exact BK755.out)) : gb755 ≠ gb758))
                          have n13_ := Aside0.mk ((by rw [hg]; exact Nat.ne_of_gt (blk_lt (g := gb755) (o := .cells #[.int .i64 t752, .int .i64 t753] 43 (0, 0)) (by (with_reducible repeat (first | refine blk_drewN ?_ _ | refine blk_drew ?_ | refine blk_alloc ?_ _)); exact BK755.out)) : gb758 ≠ gb755))
                          clear HO_9
                          clear BK747
                          clear BK751
                          clear BK755
                          clear HB
                          have HO_9 := n0_
                          have BK747 := n1_
                          have BK751 := n2_
                          have BK755 := n3_
                          have HB := n4_
                          have BK758 := n5_
                          have GW758 := n6_
                          have GE758 := n7_
                          have NB747_758 := n8_
                          have NB758_747 := n9_
                          have NB751_758 := n10_
                          have NB758_751 := n11_
                          have NB755_758 := n12_
                          have NB758_755 := n13_
                          clear n0_ n1_ n2_ n3_ n4_ n5_ n6_ n7_ n8_ n9_ n10_ n11_ n12_ n13_
                          clear hb hbox hg
                          refine hK.out _ _ ⟨((HB.out.cell (World.block_lt_of_cell? w _ hw756_0)).trans hw756_0), ((HB.out.cell (World.block_lt_of_cell? w _ hw756_1)).trans hw756_1), ((HB.out.cell (World.block_lt_of_cell? w _ hw757_0)).trans hw757_0), ((HB.out.cell (World.block_lt_of_cell? w _ hw757_1)).trans hw757_1)⟩ (fun hHeld => ?_)
                          clear hK K
                          refine norm_ (a' := ?_) ?_ ?_
                          rotate_left
                          · show Act.put _ (some 17) _ = _
                            simp only [Act.put, List.setIfInBounds_toArray, List.set_cons_zero, List.set_cons_succ, i64_w, i32_w]
                            rfl
                          refine one_ (i := 14) (N := some 18) #[true, true, true, true, true, true, true, true, true, true, true, true, true, true, true, false, false] rfl rfl (one_of HT_.out (by kernel_rfl)) (by decide) (fun K hK => ?_)
                          refine box_step ?hg (N := 18) ?hd (cs := #[.int .i64 0, .int .i64 0]) (t := 25) ?hr ?_; (case hd => rfl); (case hg => rfl); (case hr => first | (go_simp; done) | (go_simp; rfl))
                          intro gb759 hg w62 hbox hb
                          have n0_ := Aside0.mk (Kd.R_below (by (with_reducible repeat (first | apply Kd.R_alloc | apply Kd.R_drewN | apply Kd.R_drew)); exact HO_9.out) hb)
                          have n1_ := Aside0.mk (blk_below (g := gb747) (o := .cells #[.int .i64 t744, .int .i64 t745] 25 (0, 0)) (by (with_reducible repeat (first | refine blk_drewN ?_ _ | refine blk_drew ?_ | refine blk_alloc ?_ _)); exact BK747.out) hb)
                          have n2_ := Aside0.mk (blk_below (g := gb751) (o := .cells #[.int .i64 t748, .int .i64 t749] 25 (0, 0)) (by (with_reducible repeat (first | refine blk_drewN ?_ _ | refine blk_drew ?_ | refine blk_alloc ?_ _)); exact BK751.out) hb)
                          have n3_ := Aside0.mk (blk_below (g := gb755) (o := .cells #[.int .i64 t752, .int .i64 t753] 43 (0, 0)) (by (with_reducible repeat (first | refine blk_drewN ?_ _ | refine blk_drew ?_ | refine blk_alloc ?_ _)); exact BK755.out) hb)
                          have n4_ := Aside0.mk (blk_below (g := gb758) (o := .cells #[.int .i64 0, .int .i64 0] 25 (0, 0)) (by (with_reducible repeat (first | refine blk_drewN ?_ _ | refine blk_drew ?_ | refine blk_alloc ?_ _)); exact BK758.out) hb)
                          have n5_ := Aside0.mk (below_step (by repeat (first | (with_reducible first | exact HB.out | apply below_alloc | apply pw_below_drewN | apply below_drew1 | refine below_set ?_ GE747.out | refine below_set ?_ GE751.out | refine below_set ?_ GE755.out | refine below_set ?_ GE758.out) | exact HB.out)) hb)
                          have n6_ := Aside0.mk (hbox)
                          have n7_ := Aside0.mk ((by rw [hg]; exact (below_size (by repeat (first | (with_reducible first | exact HB.out | apply below_alloc | apply pw_below_drewN | apply below_drew1 | refine below_set ?_ GE747.out | refine below_set ?_ GE751.out | refine below_set ?_ GE755.out | refine below_set ?_ GE758.out) | exact HB.out))) : w.heap.size ≤ gb759))
                          have n8_ := Aside0.mk ((by rw [hg]; exact (below_size (by repeat (first | (with_reducible first | exact HB.out | apply below_alloc | apply pw_below_drewN | apply below_drew1 | refine below_set ?_ GE747.out | refine below_set ?_ GE751.out | refine below_set ?_ GE755.out | refine below_set ?_ GE758.out) | exact HB.out))) : w.heap.size ≤ gb759))
                          have n9_ := Aside0.mk ((by rw [hg]; exact Nat.ne_of_lt (blk_lt (g := gb747) (o := .cells #[.int .i64 t744, .int .i64 t745] 25 (0, 0)) (by (with_reducible repeat (first | refine blk_drewN ?_ _ | refine blk_drew ?_ | refine blk_alloc ?_ _)); exact BK747.out)) : gb747 ≠ gb759))
                          have n10_ := Aside0.mk ((by rw [hg]; exact Nat.ne_of_gt (blk_lt (g := gb747) (o := .cells #[.int .i64 t744, .int .i64 t745] 25 (0, 0)) (by (with_reducible repeat (first | refine blk_drewN ?_ _ | refine blk_drew ?_ | refine blk_alloc ?_ _)); exact BK747.out)) : gb759 ≠ gb747))
                          have n11_ := Aside0.mk ((by rw [hg]; exact Nat.ne_of_lt (blk_lt (g := gb751) (o := .cells #[.int .i64 t748, .int .i64 t749] 25 (0, 0)) (by (with_reducible repeat (first | refine blk_drewN ?_ _ | refine blk_drew ?_ | refine blk_alloc ?_ _)); exact BK751.out)) : gb751 ≠ gb759))
                          have n12_ := Aside0.mk ((by rw [hg]; exact Nat.ne_of_gt (blk_lt (g := gb751) (o := .cells #[.int .i64 t748, .int .i64 t749] 25 (0, 0)) (by (with_reducible repeat (first | refine blk_drewN ?_ _ | refine blk_drew ?_ | refine blk_alloc ?_ _)); exact BK751.out)) : gb759 ≠ gb751))
                          have n13_ := Aside0.mk ((by rw [hg]; exact Nat.ne_of_lt (blk_lt (g := gb755) (o := .cells #[.int .i64 t752, .int .i64 t753] 43 (0, 0)) (by (with_reducible repeat (first | refine blk_drewN ?_ _ | refine blk_drew ?_ | refine blk_alloc ?_ _)); exact BK755.out)) : gb755 ≠ gb759))
                          have n14_ := Aside0.mk ((by rw [hg]; exact Nat.ne_of_gt (blk_lt (g := gb755) (o := .cells #[.int .i64 t752, .int .i64 t753] 43 (0, 0)) (by (with_reducible repeat (first | refine blk_drewN ?_ _ | refine blk_drew ?_ | refine blk_alloc ?_ _)); exact BK755.out)) : gb759 ≠ gb755))
                          have n15_ := Aside0.mk ((by rw [hg]; exact Nat.ne_of_lt (blk_lt (g := gb758) (o := .cells #[.int .i64 0, .int .i64 0] 25 (0, 0)) (by (with_reducible repeat (first | refine blk_drewN ?_ _ | refine blk_drew ?_ | refine blk_alloc ?_ _)); exact BK758.out)) : gb758 ≠ gb759))
                          have n16_ := Aside0.mk ((by rw [hg]; exact Nat.ne_of_gt (blk_lt (g := gb758) (o := .cells #[.int .i64 0, .int .i64 0] 25 (0, 0)) (by (with_reducible repeat (first | refine blk_drewN ?_ _ | refine blk_drew ?_ | refine blk_alloc ?_ _)); exact BK758.out)) : gb759 ≠ gb758))
                          clear HO_9
                          clear BK747
                          clear BK751
                          clear BK755
                          clear BK758
                          clear HB
                          have HO_9 := n0_
                          have BK747 := n1_
                          have BK751 := n2_
                          have BK755 := n3_
                          have BK758 := n4_
                          have HB := n5_
                          have BK759 := n6_
                          have GW759 := n7_
                          have GE759 := n8_
                          have NB747_759 := n9_
                          have NB759_747 := n10_
                          have NB751_759 := n11_
                          have NB759_751 := n12_
                          have NB755_759 := n13_
                          have NB759_755 := n14_
                          have NB758_759 := n15_
                          have NB759_758 := n16_
                          clear n0_ n1_ n2_ n3_ n4_ n5_ n6_ n7_ n8_ n9_ n10_ n11_ n12_ n13_ n14_ n15_ n16_
                          clear hb hbox hg
                          refine hK.out _ _ ⟨((HB.out.cell (World.block_lt_of_cell? w _ hw756_0)).trans hw756_0), ((HB.out.cell (World.block_lt_of_cell? w _ hw756_1)).trans hw756_1), ((HB.out.cell (World.block_lt_of_cell? w _ hw757_0)).trans hw757_0), ((HB.out.cell (World.block_lt_of_cell? w _ hw757_1)).trans hw757_1)⟩ (fun hHeld => ?_)
                          clear hK K
                          refine norm_ (a' := ?_) ?_ ?_
                          rotate_left
                          · show Act.put _ (some 18) _ = _
                            simp only [Act.put, List.setIfInBounds_toArray, List.set_cons_zero, List.set_cons_succ, i64_w, i32_w]
                            rfl
                          exact norm_ (by simp only [putAll, Act.put, List.setIfInBounds_toArray, List.set_cons_zero, List.set_cons_succ]) (hCont (gb758, gb759) _ ⟨hHeld, (by (with_reducible repeat (first | apply Kd.R_alloc | apply Kd.R_drewN | apply Kd.R_drew)); exact HO_9.out), (by (with_reducible repeat (first | refine blk_drewN ?_ _ | refine blk_drew ?_ | refine blk_alloc ?_ _)); exact BK747.out), (by (with_reducible repeat (first | refine blk_drewN ?_ _ | refine blk_drew ?_ | refine blk_alloc ?_ _)); exact BK751.out), (by (with_reducible repeat (first | refine blk_drewN ?_ _ | refine blk_drew ?_ | refine blk_alloc ?_ _)); exact BK755.out), (by (with_reducible repeat (first | refine blk_drewN ?_ _ | refine blk_drew ?_ | refine blk_alloc ?_ _)); exact BK758.out), (by (with_reducible repeat (first | refine blk_drewN ?_ _ | refine blk_drew ?_ | refine blk_alloc ?_ _)); exact BK759.out), GW758.out, GE758.out, NB747_758.out, NB758_747.out, NB751_758.out, NB758_751.out, NB755_758.out, NB758_755.out, NB759_758.out, NB758_759.out, GW759.out, GE759.out, NB747_759.out, NB759_747.out, NB751_759.out, NB759_751.out, NB755_759.out, NB759_755.out, (by repeat (first | (with_reducible first | exact HB.out | apply below_alloc | apply pw_below_drewN | apply below_drew1 | refine below_set ?_ GE747.out | refine below_set ?_ GE751.out | refine below_set ?_ GE755.out | refine below_set ?_ GE758.out | refine below_set ?_ GE759.out) | exact HB.out))⟩)
                        · skip
                          refine box_step ?hg (N := 18) ?hd (cs := #[.int .i64 0, .int .i64 0]) (t := 25) ?hr ?_; (case hd => rfl); (case hg => rfl); (case hr => first | (go_simp; done) | (go_simp; rfl))
                          intro gb759 hg w61 hbox hb
                          have n0_ := Aside0.mk (Kd.R_below (by (with_reducible repeat (first | apply Kd.R_alloc | apply Kd.R_drewN | apply Kd.R_drew)); exact HO_9.out) hb)
                          have n1_ := Aside0.mk (blk_below (g := gb747) (o := .cells #[.int .i64 t744, .int .i64 t745] 25 (0, 0)) (by (with_reducible repeat (first | refine blk_drewN ?_ _ | refine blk_drew ?_ | refine blk_alloc ?_ _)); exact BK747.out) hb)
                          have n2_ := Aside0.mk (blk_below (g := gb751) (o := .cells #[.int .i64 t748, .int .i64 t749] 25 (0, 0)) (by (with_reducible repeat (first | refine blk_drewN ?_ _ | refine blk_drew ?_ | refine blk_alloc ?_ _)); exact BK751.out) hb)
                          have n3_ := Aside0.mk (blk_below (g := gb755) (o := .cells #[.int .i64 t752, .int .i64 t753] 43 (0, 0)) (by (with_reducible repeat (first | refine blk_drewN ?_ _ | refine blk_drew ?_ | refine blk_alloc ?_ _)); exact BK755.out) hb)
                          have n4_ := Aside0.mk (below_step (by repeat (first | (with_reducible first | exact HB.out | apply below_alloc | apply pw_below_drewN | apply below_drew1 | refine below_set ?_ GE747.out | refine below_set ?_ GE751.out | refine below_set ?_ GE755.out) | exact HB.out)) hb)
                          have n5_ := Aside0.mk (hbox)
                          have n6_ := Aside0.mk ((by rw [hg]; exact (below_size (by repeat (first | (with_reducible first | exact HB.out | apply below_alloc | apply pw_below_drewN | apply below_drew1 | refine below_set ?_ GE747.out | refine below_set ?_ GE751.out | refine below_set ?_ GE755.out) | exact HB.out))) : w.heap.size ≤ gb759))
                          have n7_ := Aside0.mk ((by rw [hg]; exact (below_size (by repeat (first | (with_reducible first | exact HB.out | apply below_alloc | apply pw_below_drewN | apply below_drew1 | refine below_set ?_ GE747.out | refine below_set ?_ GE751.out | refine below_set ?_ GE755.out) | exact HB.out))) : w.heap.size ≤ gb759))
                          have n8_ := Aside0.mk ((by rw [hg]; exact Nat.ne_of_lt (blk_lt (g := gb747) (o := .cells #[.int .i64 t744, .int .i64 t745] 25 (0, 0)) (by (with_reducible repeat (first | refine blk_drewN ?_ _ | refine blk_drew ?_ | refine blk_alloc ?_ _)); exact BK747.out)) : gb747 ≠ gb759))
                          have n9_ := Aside0.mk ((by rw [hg]; exact Nat.ne_of_gt (blk_lt (g := gb747) (o := .cells #[.int .i64 t744, .int .i64 t745] 25 (0, 0)) (by (with_reducible repeat (first | refine blk_drewN ?_ _ | refine blk_drew ?_ | refine blk_alloc ?_ _)); exact BK747.out)) : gb759 ≠ gb747))
                          have n10_ := Aside0.mk ((by rw [hg]; exact Nat.ne_of_lt (blk_lt (g := gb751) (o := .cells #[.int .i64 t748, .int .i64 t749] 25 (0, 0)) (by (with_reducible repeat (first | refine blk_drewN ?_ _ | refine blk_drew ?_ | refine blk_alloc ?_ _)); exact BK751.out)) : gb751 ≠ gb759))
                          have n11_ := Aside0.mk ((by rw [hg]; exact Nat.ne_of_gt (blk_lt (g := gb751) (o := .cells #[.int .i64 t748, .int .i64 t749] 25 (0, 0)) (by (with_reducible repeat (first | refine blk_drewN ?_ _ | refine blk_drew ?_ | refine blk_alloc ?_ _)); exact BK751.out)) : gb759 ≠ gb751))
                          have n12_ := Aside0.mk ((by rw [hg]; exact Nat.ne_of_lt (blk_lt (g := gb755) (o := .cells #[.int .i64 t752, .int .i64 t753] 43 (0, 0)) (by (with_reducible repeat (first | refine blk_drewN ?_ _ | refine blk_drew ?_ | refine blk_alloc ?_ _)); exact BK755.out)) : gb755 ≠ gb759))
                          have n13_ := Aside0.mk ((by rw [hg]; exact Nat.ne_of_gt (blk_lt (g := gb755) (o := .cells #[.int .i64 t752, .int .i64 t753] 43 (0, 0)) (by (with_reducible repeat (first | refine blk_drewN ?_ _ | refine blk_drew ?_ | refine blk_alloc ?_ _)); exact BK755.out)) : gb759 ≠ gb755))
                          clear HO_9
                          clear BK747
                          clear BK751
                          clear BK755
                          clear HB
                          have HO_9 := n0_
                          have BK747 := n1_
                          have BK751 := n2_
                          have BK755 := n3_
                          have HB := n4_
                          have BK759 := n5_
                          have GW759 := n6_
                          have GE759 := n7_
                          have NB747_759 := n8_
                          have NB759_747 := n9_
                          have NB751_759 := n10_
                          have NB759_751 := n11_
                          have NB755_759 := n12_
                          have NB759_755 := n13_
                          clear n0_ n1_ n2_ n3_ n4_ n5_ n6_ n7_ n8_ n9_ n10_ n11_ n12_ n13_
                          clear hb hbox hg
                          refine hK.out _ _ ⟨((HB.out.cell (World.block_lt_of_cell? w _ hw756_0)).trans hw756_0), ((HB.out.cell (World.block_lt_of_cell? w _ hw756_1)).trans hw756_1), ((HB.out.cell (World.block_lt_of_cell? w _ hw757_0)).trans hw757_0), ((HB.out.cell (World.block_lt_of_cell? w _ hw757_1)).trans hw757_1)⟩ (fun hHeld => ?_)
                          clear hK K
                          refine norm_ (a' := ?_) ?_ ?_
                          rotate_left
                          · show Act.put _ (some 18) _ = _
                            simp only [Act.put, List.setIfInBounds_toArray, List.set_cons_zero, List.set_cons_succ, i64_w, i32_w]
                            rfl
                          refine one_ (i := 13) (N := some 17) #[true, true, true, true, true, true, true, true, true, true, true, true, true, true, true, false, false] rfl rfl (one_of HT_.out (by kernel_rfl)) (by decide) (fun K hK => ?_)
                          refine box_step ?hg (N := 17) ?hd (cs := #[.int .i64 0, .int .i64 0]) (t := 25) ?hr ?_; (case hd => rfl); (case hg => rfl); (case hr => first | (go_simp; done) | (go_simp; rfl))
                          intro gb758 hg w62 hbox hb
                          have n0_ := Aside0.mk (Kd.R_below (by (with_reducible repeat (first | apply Kd.R_alloc | apply Kd.R_drewN | apply Kd.R_drew)); exact HO_9.out) hb)
                          have n1_ := Aside0.mk (blk_below (g := gb747) (o := .cells #[.int .i64 t744, .int .i64 t745] 25 (0, 0)) (by (with_reducible repeat (first | refine blk_drewN ?_ _ | refine blk_drew ?_ | refine blk_alloc ?_ _)); exact BK747.out) hb)
                          have n2_ := Aside0.mk (blk_below (g := gb751) (o := .cells #[.int .i64 t748, .int .i64 t749] 25 (0, 0)) (by (with_reducible repeat (first | refine blk_drewN ?_ _ | refine blk_drew ?_ | refine blk_alloc ?_ _)); exact BK751.out) hb)
                          have n3_ := Aside0.mk (blk_below (g := gb755) (o := .cells #[.int .i64 t752, .int .i64 t753] 43 (0, 0)) (by (with_reducible repeat (first | refine blk_drewN ?_ _ | refine blk_drew ?_ | refine blk_alloc ?_ _)); exact BK755.out) hb)
                          have n4_ := Aside0.mk (blk_below (g := gb759) (o := .cells #[.int .i64 0, .int .i64 0] 25 (0, 0)) (by (with_reducible repeat (first | refine blk_drewN ?_ _ | refine blk_drew ?_ | refine blk_alloc ?_ _)); exact BK759.out) hb)
                          have n5_ := Aside0.mk (below_step (by repeat (first | (with_reducible first | exact HB.out | apply below_alloc | apply pw_below_drewN | apply below_drew1 | refine below_set ?_ GE747.out | refine below_set ?_ GE751.out | refine below_set ?_ GE755.out | refine below_set ?_ GE759.out) | exact HB.out)) hb)
                          have n6_ := Aside0.mk (hbox)
                          have n7_ := Aside0.mk ((by rw [hg]; exact (below_size (by repeat (first | (with_reducible first | exact HB.out | apply below_alloc | apply pw_below_drewN | apply below_drew1 | refine below_set ?_ GE747.out | refine below_set ?_ GE751.out | refine below_set ?_ GE755.out | refine below_set ?_ GE759.out) | exact HB.out))) : w.heap.size ≤ gb758))
                          have n8_ := Aside0.mk ((by rw [hg]; exact (below_size (by repeat (first | (with_reducible first | exact HB.out | apply below_alloc | apply pw_below_drewN | apply below_drew1 | refine below_set ?_ GE747.out | refine below_set ?_ GE751.out | refine below_set ?_ GE755.out | refine below_set ?_ GE759.out) | exact HB.out))) : w.heap.size ≤ gb758))
                          have n9_ := Aside0.mk ((by rw [hg]; exact Nat.ne_of_lt (blk_lt (g := gb747) (o := .cells #[.int .i64 t744, .int .i64 t745] 25 (0, 0)) (by (with_reducible repeat (first | refine blk_drewN ?_ _ | refine blk_drew ?_ | refine blk_alloc ?_ _)); exact BK747.out)) : gb747 ≠ gb758))
                          have n10_ := Aside0.mk ((by rw [hg]; exact Nat.ne_of_gt (blk_lt (g := gb747) (o := .cells #[.int .i64 t744, .int .i64 t745] 25 (0, 0)) (by (with_reducible repeat (first | refine blk_drewN ?_ _ | refine blk_drew ?_ | refine blk_alloc ?_ _)); exact BK747.out)) : gb758 ≠ gb747))
                          have n11_ := Aside0.mk ((by rw [hg]; exact Nat.ne_of_lt (blk_lt (g := gb751) (o := .cells #[.int .i64 t748, .int .i64 t749] 25 (0, 0)) (by (with_reducible repeat (first | refine blk_drewN ?_ _ | refine blk_drew ?_ | refine blk_alloc ?_ _)); exact BK751.out)) : gb751 ≠ gb758))
                          have n12_ := Aside0.mk ((by rw [hg]; exact Nat.ne_of_gt (blk_lt (g := gb751) (o := .cells #[.int .i64 t748, .int .i64 t749] 25 (0, 0)) (by (with_reducible repeat (first | refine blk_drewN ?_ _ | refine blk_drew ?_ | refine blk_alloc ?_ _)); exact BK751.out)) : gb758 ≠ gb751))
                          have n13_ := Aside0.mk ((by rw [hg]; exact Nat.ne_of_lt (blk_lt (g := gb755) (o := .cells #[.int .i64 t752, .int .i64 t753] 43 (0, 0)) (by (with_reducible repeat (first | refine blk_drewN ?_ _ | refine blk_drew ?_ | refine blk_alloc ?_ _)); exact BK755.out)) : gb755 ≠ gb758))
                          have n14_ := Aside0.mk ((by rw [hg]; exact Nat.ne_of_gt (blk_lt (g := gb755) (o := .cells #[.int .i64 t752, .int .i64 t753] 43 (0, 0)) (by (with_reducible repeat (first | refine blk_drewN ?_ _ | refine blk_drew ?_ | refine blk_alloc ?_ _)); exact BK755.out)) : gb758 ≠ gb755))
                          have n15_ := Aside0.mk ((by rw [hg]; exact Nat.ne_of_lt (blk_lt (g := gb759) (o := .cells #[.int .i64 0, .int .i64 0] 25 (0, 0)) (by (with_reducible repeat (first | refine blk_drewN ?_ _ | refine blk_drew ?_ | refine blk_alloc ?_ _)); exact BK759.out)) : gb759 ≠ gb758))
                          have n16_ := Aside0.mk ((by rw [hg]; exact Nat.ne_of_gt (blk_lt (g := gb759) (o := .cells #[.int .i64 0, .int .i64 0] 25 (0, 0)) (by (with_reducible repeat (first | refine blk_drewN ?_ _ | refine blk_drew ?_ | refine blk_alloc ?_ _)); exact BK759.out)) : gb758 ≠ gb759))
                          clear HO_9
                          clear BK747
                          clear BK751
                          clear BK755
                          clear BK759
                          clear HB
                          have HO_9 := n0_
                          have BK747 := n1_
                          have BK751 := n2_
                          have BK755 := n3_
                          have BK759 := n4_
                          have HB := n5_
                          have BK758 := n6_
                          have GW758 := n7_
                          have GE758 := n8_
                          have NB747_758 := n9_
                          have NB758_747 := n10_
                          have NB751_758 := n11_
                          have NB758_751 := n12_
                          have NB755_758 := n13_
                          have NB758_755 := n14_
                          have NB759_758 := n15_
                          have NB758_759 := n16_
                          clear n0_ n1_ n2_ n3_ n4_ n5_ n6_ n7_ n8_ n9_ n10_ n11_ n12_ n13_ n14_ n15_ n16_
                          clear hb hbox hg
                          refine hK.out _ _ ⟨((HB.out.cell (World.block_lt_of_cell? w _ hw756_0)).trans hw756_0), ((HB.out.cell (World.block_lt_of_cell? w _ hw756_1)).trans hw756_1), ((HB.out.cell (World.block_lt_of_cell? w _ hw757_0)).trans hw757_0), ((HB.out.cell (World.block_lt_of_cell? w _ hw757_1)).trans hw757_1)⟩ (fun hHeld => ?_)
                          clear hK K
                          refine norm_ (a' := ?_) ?_ ?_
                          rotate_left
                          · show Act.put _ (some 17) _ = _
                            simp only [Act.put, List.setIfInBounds_toArray, List.set_cons_zero, List.set_cons_succ, i64_w, i32_w]
                            rfl
                          exact norm_ (by simp only [putAll, Act.put, List.setIfInBounds_toArray, List.set_cons_zero, List.set_cons_succ]) (hCont (gb758, gb759) _ ⟨hHeld, (by (with_reducible repeat (first | apply Kd.R_alloc | apply Kd.R_drewN | apply Kd.R_drew)); exact HO_9.out), (by (with_reducible repeat (first | refine blk_drewN ?_ _ | refine blk_drew ?_ | refine blk_alloc ?_ _)); exact BK747.out), (by (with_reducible repeat (first | refine blk_drewN ?_ _ | refine blk_drew ?_ | refine blk_alloc ?_ _)); exact BK751.out), (by (with_reducible repeat (first | refine blk_drewN ?_ _ | refine blk_drew ?_ | refine blk_alloc ?_ _)); exact BK755.out), (by (with_reducible repeat (first | refine blk_drewN ?_ _ | refine blk_drew ?_ | refine blk_alloc ?_ _)); exact BK758.out), (by (with_reducible repeat (first | refine blk_drewN ?_ _ | refine blk_drew ?_ | refine blk_alloc ?_ _)); exact BK759.out), GW758.out, GE758.out, NB747_758.out, NB758_747.out, NB751_758.out, NB758_751.out, NB755_758.out, NB758_755.out, NB759_758.out, NB758_759.out, GW759.out, GE759.out, NB747_759.out, NB759_747.out, NB751_759.out, NB759_751.out, NB755_759.out, NB759_755.out, (by repeat (first | (with_reducible first | exact HB.out | apply below_alloc | apply pw_below_drewN | apply below_drew1 | refine below_set ?_ GE747.out | refine below_set ?_ GE751.out | refine below_set ?_ GE755.out | refine below_set ?_ GE759.out | refine below_set ?_ GE758.out) | exact HB.out))⟩)
                      rintro ⟨gb758, gb759⟩ w63 ⟨hS_, h0_, h1_, h2_, h3_, h4_, h5_, h6_, h7_, h8_, h9_, h10_, h11_, h12_, h13_, h14_, h15_, h16_, h17_, h18_, h19_, h20_, h21_, h22_, h23_, h24_⟩
                      have n0_ : Aside0 (Kd.R k57 57 w63 w.heap.size (fun _ => True) (.slice Ao53 t740.length co53) t740) := ⟨h0_⟩
                      have n1_ : Aside0 (w63.heap[gb747]? = some (.cells #[.int .i64 t744, .int .i64 t745] 25 (0, 0))) := ⟨h1_⟩
                      have n2_ : Aside0 (w63.heap[gb751]? = some (.cells #[.int .i64 t748, .int .i64 t749] 25 (0, 0))) := ⟨h2_⟩
                      have n3_ : Aside0 (w63.heap[gb755]? = some (.cells #[.int .i64 t752, .int .i64 t753] 43 (0, 0))) := ⟨h3_⟩
                      have n4_ : Aside0 (w63.heap[gb758]? = some (.cells #[.int .i64 0, .int .i64 0] 25 (0, 0))) := ⟨h4_⟩
                      have n5_ : Aside0 (w63.heap[gb759]? = some (.cells #[.int .i64 0, .int .i64 0] 25 (0, 0))) := ⟨h5_⟩
                      have n6_ : Aside0 (w.heap.size ≤ gb758) := ⟨h6_⟩
                      have n7_ : Aside0 (w.heap.size ≤ gb758) := ⟨h7_⟩
                      have n8_ : Aside0 (gb747 ≠ gb758) := ⟨h8_⟩
                      have n9_ : Aside0 (gb758 ≠ gb747) := ⟨h9_⟩
                      have n10_ : Aside0 (gb751 ≠ gb758) := ⟨h10_⟩
                      have n11_ : Aside0 (gb758 ≠ gb751) := ⟨h11_⟩
                      have n12_ : Aside0 (gb755 ≠ gb758) := ⟨h12_⟩
                      have n13_ : Aside0 (gb758 ≠ gb755) := ⟨h13_⟩
                      have n14_ : Aside0 (gb759 ≠ gb758) := ⟨h14_⟩
                      have n15_ : Aside0 (gb758 ≠ gb759) := ⟨h15_⟩
                      have n16_ : Aside0 (w.heap.size ≤ gb759) := ⟨h16_⟩
                      have n17_ : Aside0 (w.heap.size ≤ gb759) := ⟨h17_⟩
                      have n18_ : Aside0 (gb747 ≠ gb759) := ⟨h18_⟩
                      have n19_ : Aside0 (gb759 ≠ gb747) := ⟨h19_⟩
                      have n20_ : Aside0 (gb751 ≠ gb759) := ⟨h20_⟩
                      have n21_ : Aside0 (gb759 ≠ gb751) := ⟨h21_⟩
                      have n22_ : Aside0 (gb755 ≠ gb759) := ⟨h22_⟩
                      have n23_ : Aside0 (gb759 ≠ gb755) := ⟨h23_⟩
                      have n24_ : Aside0 (Below w.heap.size w w63) := ⟨h24_⟩
                      clear HO_9
                      clear BK747
                      clear BK751
                      clear BK755
                      clear HB
                      clear h0_ h1_ h2_ h3_ h4_ h5_ h6_ h7_ h8_ h9_ h10_ h11_ h12_ h13_ h14_ h15_ h16_ h17_ h18_ h19_ h20_ h21_ h22_ h23_ h24_
                      have HO_9 := n0_
                      have BK747 := n1_
                      have BK751 := n2_
                      have BK755 := n3_
                      have BK758 := n4_
                      have BK759 := n5_
                      have GW758 := n6_
                      have GE758 := n7_
                      have NB747_758 := n8_
                      have NB758_747 := n9_
                      have NB751_758 := n10_
                      have NB758_751 := n11_
                      have NB755_758 := n12_
                      have NB758_755 := n13_
                      have NB759_758 := n14_
                      have NB758_759 := n15_
                      have GW759 := n16_
                      have GE759 := n17_
                      have NB747_759 := n18_
                      have NB759_747 := n19_
                      have NB751_759 := n20_
                      have NB759_751 := n21_
                      have NB755_759 := n22_
                      have NB759_755 := n23_
                      have HB := n24_
                      clear n0_ n1_ n2_ n3_ n4_ n5_ n6_ n7_ n8_ n9_ n10_ n11_ n12_ n13_ n14_ n15_ n16_ n17_ n18_ n19_ n20_ n21_ n22_ n23_ n24_
                      have hHeld : w63.cell? ad756 = some (.int .i64 ((rd_T57 l1 0).f0)) ∧ w63.cell? ⟨ad756.block, ad756.off + 1, none⟩ = some (.int .i64 ((rd_T57 l1 0).f1)) ∧ w63.cell? (ad756.add (((ji49)).toNat * 2)) = some (.int .i64 ((rd_T57 l1 (ji49)).f0)) ∧ w63.cell? ⟨(ad756.add (((ji49)).toNat * 2)).block, (ad756.add (((ji49)).toNat * 2)).off + 1, none⟩ = some (.int .i64 ((rd_T57 l1 (ji49)).f1)) := hS_
                      refine norm_ (a' := ?_) ?_ ?_
                      rotate_left
                      · simp only [putAll, Act.put, List.setIfInBounds_toArray, List.set_cons_zero, List.set_cons_succ]
                        rfl
                      refine one_ (i := 15) (N := none) #[true, true, true, true, true, true, true, true, true, true, true, true, true, true, true, true, false] rfl rfl (one_of HT_.out (by kernel_rfl)) (by decide) (fun K hK => ?_)
                      have hs64 : w63.cell? ⟨gb758, 0, none⟩ = some (.int .i64 0) := (blk_cell BK758.out 0).trans rfl
                      have hfs64 := blk_frozen BK758.out 0
                      have hns64_0 := NB747_758.out
                      have hns64_1 := NB751_758.out
                      have hns64_2 := NB755_758.out
                      have hns64_4 := NB759_758.out
                      have hms64_0 := NB758_747.out
                      have hms64_1 := NB758_751.out
                      have hms64_2 := NB758_755.out
                      have hms64_4 := NB758_759.out
                      have hs65 : w63.cell? ⟨gb758, 1, none⟩ = some (.int .i64 0) := (blk_cell BK758.out 1).trans rfl
                      have hfs65 := blk_frozen BK758.out 1
                      have hns65_0 := NB747_758.out
                      have hns65_1 := NB751_758.out
                      have hns65_2 := NB755_758.out
                      have hns65_4 := NB759_758.out
                      have hms65_0 := NB758_747.out
                      have hms65_1 := NB758_751.out
                      have hms65_2 := NB758_755.out
                      have hms65_4 := NB758_759.out
                      refine skip_ (w1 := ?_) (by rfl) rfl ?_ ?_
                      rotate_left
                      · go_simp
                        rfl
                      refine hK.out _ _ ⟨((cell_far (p := ⟨gb758, _, none⟩) (by first | exact Nat.ne_of_lt (Nat.lt_of_lt_of_le (by have := World.block_lt_of_cell? _ _ hw756_0; first | rwa [add_block] at this | exact this) GW758.out) | (rw [add_block]; exact Nat.ne_of_lt (Nat.lt_of_lt_of_le (by have := World.block_lt_of_cell? _ _ hw756_0; first | rwa [add_block] at this | exact this) GW758.out)) | (show (Addr.add _ _).block ≠ _; rw [add_block]; exact Nat.ne_of_lt (Nat.lt_of_lt_of_le (by have := World.block_lt_of_cell? _ _ hw756_0; first | rwa [add_block] at this | exact this) GW758.out)) | (dsimp only; exact Nat.ne_of_lt (Nat.lt_of_lt_of_le (by have := World.block_lt_of_cell? _ _ hw756_0; first | rwa [add_block] at this | exact this) GW758.out))) _).trans (((cell_far (p := ⟨gb758, _, none⟩) (by first | exact Nat.ne_of_lt (Nat.lt_of_lt_of_le (by have := World.block_lt_of_cell? _ _ hw756_0; first | rwa [add_block] at this | exact this) GW758.out) | (rw [add_block]; exact Nat.ne_of_lt (Nat.lt_of_lt_of_le (by have := World.block_lt_of_cell? _ _ hw756_0; first | rwa [add_block] at this | exact this) GW758.out)) | (show (Addr.add _ _).block ≠ _; rw [add_block]; exact Nat.ne_of_lt (Nat.lt_of_lt_of_le (by have := World.block_lt_of_cell? _ _ hw756_0; first | rwa [add_block] at this | exact this) GW758.out)) | (dsimp only; exact Nat.ne_of_lt (Nat.lt_of_lt_of_le (by have := World.block_lt_of_cell? _ _ hw756_0; first | rwa [add_block] at this | exact this) GW758.out))) _).trans (hHeld.1)))), ((cell_far (p := ⟨gb758, _, none⟩) (by first | exact Nat.ne_of_lt (Nat.lt_of_lt_of_le (by have := World.block_lt_of_cell? _ _ hw756_1; first | rwa [add_block] at this | exact this) GW758.out) | (rw [add_block]; exact Nat.ne_of_lt (Nat.lt_of_lt_of_le (by have := World.block_lt_of_cell? _ _ hw756_1; first | rwa [add_block] at this | exact this) GW758.out)) | (show (Addr.add _ _).block ≠ _; rw [add_block]; exact Nat.ne_of_lt (Nat.lt_of_lt_of_le (by have := World.block_lt_of_cell? _ _ hw756_1; first | rwa [add_block] at this | exact this) GW758.out)) | (dsimp only; exact Nat.ne_of_lt (Nat.lt_of_lt_of_le (by have := World.block_lt_of_cell? _ _ hw756_1; first | rwa [add_block] at this | exact this) GW758.out))) _).trans (((cell_far (p := ⟨gb758, _, none⟩) (by first | exact Nat.ne_of_lt (Nat.lt_of_lt_of_le (by have := World.block_lt_of_cell? _ _ hw756_1; first | rwa [add_block] at this | exact this) GW758.out) | (rw [add_block]; exact Nat.ne_of_lt (Nat.lt_of_lt_of_le (by have := World.block_lt_of_cell? _ _ hw756_1; first | rwa [add_block] at this | exact this) GW758.out)) | (show (Addr.add _ _).block ≠ _; rw [add_block]; exact Nat.ne_of_lt (Nat.lt_of_lt_of_le (by have := World.block_lt_of_cell? _ _ hw756_1; first | rwa [add_block] at this | exact this) GW758.out)) | (dsimp only; exact Nat.ne_of_lt (Nat.lt_of_lt_of_le (by have := World.block_lt_of_cell? _ _ hw756_1; first | rwa [add_block] at this | exact this) GW758.out))) _).trans (hHeld.2.1)))), ((cell_far (p := ⟨gb758, _, none⟩) (by first | exact Nat.ne_of_lt (Nat.lt_of_lt_of_le (by have := World.block_lt_of_cell? _ _ hw757_0; first | rwa [add_block] at this | exact this) GW758.out) | (rw [add_block]; exact Nat.ne_of_lt (Nat.lt_of_lt_of_le (by have := World.block_lt_of_cell? _ _ hw757_0; first | rwa [add_block] at this | exact this) GW758.out)) | (show (Addr.add _ _).block ≠ _; rw [add_block]; exact Nat.ne_of_lt (Nat.lt_of_lt_of_le (by have := World.block_lt_of_cell? _ _ hw757_0; first | rwa [add_block] at this | exact this) GW758.out)) | (dsimp only; exact Nat.ne_of_lt (Nat.lt_of_lt_of_le (by have := World.block_lt_of_cell? _ _ hw757_0; first | rwa [add_block] at this | exact this) GW758.out))) _).trans (((cell_far (p := ⟨gb758, _, none⟩) (by first | exact Nat.ne_of_lt (Nat.lt_of_lt_of_le (by have := World.block_lt_of_cell? _ _ hw757_0; first | rwa [add_block] at this | exact this) GW758.out) | (rw [add_block]; exact Nat.ne_of_lt (Nat.lt_of_lt_of_le (by have := World.block_lt_of_cell? _ _ hw757_0; first | rwa [add_block] at this | exact this) GW758.out)) | (show (Addr.add _ _).block ≠ _; rw [add_block]; exact Nat.ne_of_lt (Nat.lt_of_lt_of_le (by have := World.block_lt_of_cell? _ _ hw757_0; first | rwa [add_block] at this | exact this) GW758.out)) | (dsimp only; exact Nat.ne_of_lt (Nat.lt_of_lt_of_le (by have := World.block_lt_of_cell? _ _ hw757_0; first | rwa [add_block] at this | exact this) GW758.out))) _).trans (hHeld.2.2.1)))), ((cell_far (p := ⟨gb758, _, none⟩) (by first | exact Nat.ne_of_lt (Nat.lt_of_lt_of_le (by have := World.block_lt_of_cell? _ _ hw757_1; first | rwa [add_block] at this | exact this) GW758.out) | (rw [add_block]; exact Nat.ne_of_lt (Nat.lt_of_lt_of_le (by have := World.block_lt_of_cell? _ _ hw757_1; first | rwa [add_block] at this | exact this) GW758.out)) | (show (Addr.add _ _).block ≠ _; rw [add_block]; exact Nat.ne_of_lt (Nat.lt_of_lt_of_le (by have := World.block_lt_of_cell? _ _ hw757_1; first | rwa [add_block] at this | exact this) GW758.out)) | (dsimp only; exact Nat.ne_of_lt (Nat.lt_of_lt_of_le (by have := World.block_lt_of_cell? _ _ hw757_1; first | rwa [add_block] at this | exact this) GW758.out))) _).trans (((cell_far (p := ⟨gb758, _, none⟩) (by first | exact Nat.ne_of_lt (Nat.lt_of_lt_of_le (by have := World.block_lt_of_cell? _ _ hw757_1; first | rwa [add_block] at this | exact this) GW758.out) | (rw [add_block]; exact Nat.ne_of_lt (Nat.lt_of_lt_of_le (by have := World.block_lt_of_cell? _ _ hw757_1; first | rwa [add_block] at this | exact this) GW758.out)) | (show (Addr.add _ _).block ≠ _; rw [add_block]; exact Nat.ne_of_lt (Nat.lt_of_lt_of_le (by have := World.block_lt_of_cell? _ _ hw757_1; first | rwa [add_block] at this | exact this) GW758.out)) | (dsimp only; exact Nat.ne_of_lt (Nat.lt_of_lt_of_le (by have := World.block_lt_of_cell? _ _ hw757_1; first | rwa [add_block] at this | exact this) GW758.out))) _).trans (hHeld.2.2.2))))⟩ (fun hHeld => ?_)
                      clear hK K
                      refine one_ (i := 16) (N := none) #[true, true, true, true, true, true, true, true, true, true, true, true, true, true, true, true, true] rfl rfl (one_of HT_.out (by kernel_rfl)) (by decide) (fun K hK => ?_)
                      have hs66 : w63.cell? ⟨gb759, 0, none⟩ = some (.int .i64 0) := (blk_cell BK759.out 0).trans rfl
                      have hfs66 := blk_frozen BK759.out 0
                      have hns66_0 := NB747_759.out
                      have hns66_1 := NB751_759.out
                      have hns66_2 := NB755_759.out
                      have hns66_3 := NB758_759.out
                      have hms66_0 := NB759_747.out
                      have hms66_1 := NB759_751.out
                      have hms66_2 := NB759_755.out
                      have hms66_3 := NB759_758.out
                      have hs67 : w63.cell? ⟨gb759, 1, none⟩ = some (.int .i64 0) := (blk_cell BK759.out 1).trans rfl
                      have hfs67 := blk_frozen BK759.out 1
                      have hns67_0 := NB747_759.out
                      have hns67_1 := NB751_759.out
                      have hns67_2 := NB755_759.out
                      have hns67_3 := NB758_759.out
                      have hms67_0 := NB759_747.out
                      have hms67_1 := NB759_751.out
                      have hms67_2 := NB759_755.out
                      have hms67_3 := NB759_758.out
                      refine skip_ (w1 := ?_) (by rfl) rfl ?_ ?_
                      rotate_left
                      · go_simp
                        rfl
                      refine hK.out _ _ ⟨((cell_far (p := ⟨gb759, _, none⟩) (by first | exact Nat.ne_of_lt (Nat.lt_of_lt_of_le (by have := World.block_lt_of_cell? _ _ hw756_0; first | rwa [add_block] at this | exact this) GW759.out) | (rw [add_block]; exact Nat.ne_of_lt (Nat.lt_of_lt_of_le (by have := World.block_lt_of_cell? _ _ hw756_0; first | rwa [add_block] at this | exact this) GW759.out)) | (show (Addr.add _ _).block ≠ _; rw [add_block]; exact Nat.ne_of_lt (Nat.lt_of_lt_of_le (by have := World.block_lt_of_cell? _ _ hw756_0; first | rwa [add_block] at this | exact this) GW759.out)) | (dsimp only; exact Nat.ne_of_lt (Nat.lt_of_lt_of_le (by have := World.block_lt_of_cell? _ _ hw756_0; first | rwa [add_block] at this | exact this) GW759.out))) _).trans (((cell_far (p := ⟨gb759, _, none⟩) (by first | exact Nat.ne_of_lt (Nat.lt_of_lt_of_le (by have := World.block_lt_of_cell? _ _ hw756_0; first | rwa [add_block] at this | exact this) GW759.out) | (rw [add_block]; exact Nat.ne_of_lt (Nat.lt_of_lt_of_le (by have := World.block_lt_of_cell? _ _ hw756_0; first | rwa [add_block] at this | exact this) GW759.out)) | (show (Addr.add _ _).block ≠ _; rw [add_block]; exact Nat.ne_of_lt (Nat.lt_of_lt_of_le (by have := World.block_lt_of_cell? _ _ hw756_0; first | rwa [add_block] at this | exact this) GW759.out)) | (dsimp only; exact Nat.ne_of_lt (Nat.lt_of_lt_of_le (by have := World.block_lt_of_cell? _ _ hw756_0; first | rwa [add_block] at this | exact this) GW759.out))) _).trans (hHeld.1)))), ((cell_far (p := ⟨gb759, _, none⟩) (by first | exact Nat.ne_of_lt (Nat.lt_of_lt_of_le (by have := World.block_lt_of_cell? _ _ hw756_1; first | rwa [add_block] at this | exact this) GW759.out) | (rw [add_block]; exact Nat.ne_of_lt (Nat.lt_of_lt_of_le (by have := World.block_lt_of_cell? _ _ hw756_1; first | rwa [add_block] at this | exact this) GW759.out)) | (show (Addr.add _ _).block ≠ _; rw [add_block]; exact Nat.ne_of_lt (Nat.lt_of_lt_of_le (by have := World.block_lt_of_cell? _ _ hw756_1; first | rwa [add_block] at this | exact this) GW759.out)) | (dsimp only; exact Nat.ne_of_lt (Nat.lt_of_lt_of_le (by have := World.block_lt_of_cell? _ _ hw756_1; first | rwa [add_block] at this | exact this) GW759.out))) _).trans (((cell_far (p := ⟨gb759, _, none⟩) (by first | exact Nat.ne_of_lt (Nat.lt_of_lt_of_le (by have := World.block_lt_of_cell? _ _ hw756_1; first | rwa [add_block] at this | exact this) GW759.out) | (rw [add_block]; exact Nat.ne_of_lt (Nat.lt_of_lt_of_le (by have := World.block_lt_of_cell? _ _ hw756_1; first | rwa [add_block] at this | exact this) GW759.out)) | (show (Addr.add _ _).block ≠ _; rw [add_block]; exact Nat.ne_of_lt (Nat.lt_of_lt_of_le (by have := World.block_lt_of_cell? _ _ hw756_1; first | rwa [add_block] at this | exact this) GW759.out)) | (dsimp only; exact Nat.ne_of_lt (Nat.lt_of_lt_of_le (by have := World.block_lt_of_cell? _ _ hw756_1; first | rwa [add_block] at this | exact this) GW759.out))) _).trans (hHeld.2.1)))), ((cell_far (p := ⟨gb759, _, none⟩) (by first | exact Nat.ne_of_lt (Nat.lt_of_lt_of_le (by have := World.block_lt_of_cell? _ _ hw757_0; first | rwa [add_block] at this | exact this) GW759.out) | (rw [add_block]; exact Nat.ne_of_lt (Nat.lt_of_lt_of_le (by have := World.block_lt_of_cell? _ _ hw757_0; first | rwa [add_block] at this | exact this) GW759.out)) | (show (Addr.add _ _).block ≠ _; rw [add_block]; exact Nat.ne_of_lt (Nat.lt_of_lt_of_le (by have := World.block_lt_of_cell? _ _ hw757_0; first | rwa [add_block] at this | exact this) GW759.out)) | (dsimp only; exact Nat.ne_of_lt (Nat.lt_of_lt_of_le (by have := World.block_lt_of_cell? _ _ hw757_0; first | rwa [add_block] at this | exact this) GW759.out))) _).trans (((cell_far (p := ⟨gb759, _, none⟩) (by first | exact Nat.ne_of_lt (Nat.lt_of_lt_of_le (by have := World.block_lt_of_cell? _ _ hw757_0; first | rwa [add_block] at this | exact this) GW759.out) | (rw [add_block]; exact Nat.ne_of_lt (Nat.lt_of_lt_of_le (by have := World.block_lt_of_cell? _ _ hw757_0; first | rwa [add_block] at this | exact this) GW759.out)) | (show (Addr.add _ _).block ≠ _; rw [add_block]; exact Nat.ne_of_lt (Nat.lt_of_lt_of_le (by have := World.block_lt_of_cell? _ _ hw757_0; first | rwa [add_block] at this | exact this) GW759.out)) | (dsimp only; exact Nat.ne_of_lt (Nat.lt_of_lt_of_le (by have := World.block_lt_of_cell? _ _ hw757_0; first | rwa [add_block] at this | exact this) GW759.out))) _).trans (hHeld.2.2.1)))), ((cell_far (p := ⟨gb759, _, none⟩) (by first | exact Nat.ne_of_lt (Nat.lt_of_lt_of_le (by have := World.block_lt_of_cell? _ _ hw757_1; first | rwa [add_block] at this | exact this) GW759.out) | (rw [add_block]; exact Nat.ne_of_lt (Nat.lt_of_lt_of_le (by have := World.block_lt_of_cell? _ _ hw757_1; first | rwa [add_block] at this | exact this) GW759.out)) | (show (Addr.add _ _).block ≠ _; rw [add_block]; exact Nat.ne_of_lt (Nat.lt_of_lt_of_le (by have := World.block_lt_of_cell? _ _ hw757_1; first | rwa [add_block] at this | exact this) GW759.out)) | (dsimp only; exact Nat.ne_of_lt (Nat.lt_of_lt_of_le (by have := World.block_lt_of_cell? _ _ hw757_1; first | rwa [add_block] at this | exact this) GW759.out))) _).trans (((cell_far (p := ⟨gb759, _, none⟩) (by first | exact Nat.ne_of_lt (Nat.lt_of_lt_of_le (by have := World.block_lt_of_cell? _ _ hw757_1; first | rwa [add_block] at this | exact this) GW759.out) | (rw [add_block]; exact Nat.ne_of_lt (Nat.lt_of_lt_of_le (by have := World.block_lt_of_cell? _ _ hw757_1; first | rwa [add_block] at this | exact this) GW759.out)) | (show (Addr.add _ _).block ≠ _; rw [add_block]; exact Nat.ne_of_lt (Nat.lt_of_lt_of_le (by have := World.block_lt_of_cell? _ _ hw757_1; first | rwa [add_block] at this | exact this) GW759.out)) | (dsimp only; exact Nat.ne_of_lt (Nat.lt_of_lt_of_le (by have := World.block_lt_of_cell? _ _ hw757_1; first | rwa [add_block] at this | exact this) GW759.out))) _).trans (hHeld.2.2.2))))⟩ (fun hHeld => ?_)
                      clear hK K
                      refine done_ (done_of HT_.out (by kernel_rfl)) ?_
                      go_upto_region 12 with (fail)
                      go_cut [118] (fun v118 wc => ∃ (kq : Nat) (x118_51 : Bool), v118 = .bool x118_51 ∧ Aside0 (law_CurveMeets.j2 kq l1 a3 t754 x118_51 t744 t745 t748 t749 t752 t753 = some r) ∧ Aside0 (kq ≤ kj19) ∧ Aside0 (wc.heap[gb747]? = some (.cells #[.int .i64 t744, .int .i64 t745] 25 (0, 0))) ∧ Aside0 (wc.heap[gb751]? = some (.cells #[.int .i64 t748, .int .i64 t749] 25 (0, 0))) ∧ Aside0 (wc.heap[gb755]? = some (.cells #[.int .i64 t752, .int .i64 t753] 43 (0, 0))) ∧ Aside0 (wc.heap[gb758]? = some (.cells #[.int .i64 ((rd_T57 l1 0).f1), .int .i64 1] 25 (0, 0))) ∧ Aside0 (wc.heap[gb759]? = some (.cells #[.int .i64 ((rd_T57 l1 (ji49)).f1), .int .i64 1] 25 (0, 0))) ∧ Aside0 (Below w.heap.size w wc))
                      case first => as_aux_lemma =>
                        have H := HC52.out
                        clear HC52
                        replace H := Option.bind_eq_some_iff.mp H
                        obtain ⟨t760, A680, H⟩ := H
                        replace H : (if t760 < 0 then (law_CurveMeets.j2 kj19 l1 a3 t754 true t744 t745 t748 t749 t752 t753) else ((ref_Order.f kj19 t744 t745 ((rd_T57 l1 (ji49)).f1) 1).bind fun t761 => (law_CurveMeets.j2 kj19 l1 a3 t754 (decide (t761 > 0)) t744 t745 t748 t749 t752 t753))) = some r := H
                        have A68 := Aside0.mk A680
                        clear A680
                        by_cases c69 : t760 < 0
                        · rw [if_pos c69] at H
                          have c69b0 : decide (t760 < 0) = true := decide_eq_true c69
                          clear c69
                          (first | rw [c69b0] | (simp only [i64_w, i32_w]; rw [c69b0]) | skip)
                          have H' := Aside0.mk H
                          clear H
                          have hnb70 := NB747_751.out
                          have hnc70 := NB751_747.out
                          have hnb71 := NB747_755.out
                          have hnc71 := NB755_747.out
                          have hnb72 := NB747_758.out
                          have hnc72 := NB758_747.out
                          have hnb73 := NB747_759.out
                          have hnc73 := NB759_747.out
                          have hcz74_0 : w63.cell? ⟨gb747, 0, none⟩ = some (.int .i64 t744) := (blk_cell BK747.out 0).trans rfl
                          have hcz74_1 : w63.cell? ⟨gb747, 1, none⟩ = some (.int .i64 t745) := (blk_cell BK747.out 1).trans rfl
                          have hfz74_0 := blk_frozen BK747.out 0
                          have hfz74_1 := blk_frozen BK747.out 1
                          have hnb75 := NB758_751.out
                          have hnc75 := NB751_758.out
                          have hnb76 := NB758_755.out
                          have hnc76 := NB755_758.out
                          have hnb77 := NB758_759.out
                          have hnc77 := NB759_758.out
                          have hcz78_0 : w63.cell? ⟨gb758, 0, none⟩ = some (.int .i64 0) := (blk_cell BK758.out 0).trans rfl
                          have hcz78_1 : w63.cell? ⟨gb758, 1, none⟩ = some (.int .i64 0) := (blk_cell BK758.out 1).trans rfl
                          have hfz78_0 := blk_frozen BK758.out 0
                          have hfz78_1 := blk_frozen BK758.out 1
                          go_wp2_with (first | ((with_reducible refine gate_callee (f := 53) rfl ?_); refine goesL_ (some 111) rfl rfl Tryd.func53 (by kernel_rfl) rfl #[.agg #[.int .i64 t744, .int .i64 t745], .agg #[.int .i64 ((rd_T57 l1 0).f1), .int .i64 1]] rfl (by (try simp only [List.map_toArray, List.map_cons, List.map_nil]); first | done | rfl | (simp only [List.length_drop, List.length_take]; rfl)) ?_; (with_reducible refine (ref_Order.calls kj19 t744 t745 ((rd_T57 l1 0).f1) 1 t760 _ A68.out).mono ?_); rintro e w79 ⟨rfl, hb⟩; refine ⟨_, rfl, ?_⟩; have n0_ := Aside0.mk (Kd.R_below (by (with_reducible repeat (first | apply Kd.R_alloc | apply Kd.R_drewN | apply Kd.R_drew)); exact (Kd.R_mono (Kd.R_mono (Kd.R_far (p := ⟨gb759, 1, none⟩) (Kd.R_far (p := ⟨gb759, 0, none⟩) (Kd.R_far (p := ⟨gb758, 1, none⟩) (Kd.R_far (p := ⟨gb758, 0, none⟩) (Kd.R_types (Kd.R_types HO_9.out BK758.out (by decide)) BK759.out (by decide)) (fun _ hk => hk.1.2) (.int .i64 ((rd_T57 l1 0).f1))) (fun _ hk => hk.1.2) (.int .i64 1)) (fun _ hk => hk.2) (.int .i64 ((rd_T57 l1 (ji49)).f1))) (fun _ hk => hk.2) (.int .i64 1)) (fun _ h_ => h_.1)) (fun _ h_ => h_.1))) hb); have n1_ := Aside0.mk (blk_below (g := gb747) (o := .cells #[.int .i64 t744, .int .i64 t745] 25 (0, 0)) (by (with_reducible repeat (first | refine blk_drewN ?_ _ | refine blk_drew ?_ | refine blk_alloc ?_ _)); refine blk_far ?_ NB747_759.out _; (with_reducible repeat (first | refine blk_drewN ?_ _ | refine blk_drew ?_ | refine blk_alloc ?_ _)); refine blk_far ?_ NB747_759.out _; (with_reducible repeat (first | refine blk_drewN ?_ _ | refine blk_drew ?_ | refine blk_alloc ?_ _)); refine blk_far ?_ NB747_758.out _; (with_reducible repeat (first | refine blk_drewN ?_ _ | refine blk_drew ?_ | refine blk_alloc ?_ _)); refine blk_far ?_ NB747_758.out _; (with_reducible repeat (first | refine blk_drewN ?_ _ | refine blk_drew ?_ | refine blk_alloc ?_ _)); exact BK747.out) hb); have n2_ := Aside0.mk (blk_below (g := gb751) (o := .cells #[.int .i64 t748, .int .i64 t749] 25 (0, 0)) (by (with_reducible repeat (first | refine blk_drewN ?_ _ | refine blk_drew ?_ | refine blk_alloc ?_ _)); refine blk_far ?_ NB751_759.out _; (with_reducible repeat (first | refine blk_drewN ?_ _ | refine blk_drew ?_ | refine blk_alloc ?_ _)); refine blk_far ?_ NB751_759.out _; (with_reducible repeat (first | refine blk_drewN ?_ _ | refine blk_drew ?_ | refine blk_alloc ?_ _)); refine blk_far ?_ NB751_758.out _; (with_reducible repeat (first | refine blk_drewN ?_ _ | refine blk_drew ?_ | refine blk_alloc ?_ _)); refine blk_far ?_ NB751_758.out _; (with_reducible repeat (first | refine blk_drewN ?_ _ | refine blk_drew ?_ | refine blk_alloc ?_ _)); exact BK751.out) hb); have n3_ := Aside0.mk (blk_below (g := gb755) (o := .cells #[.int .i64 t752, .int .i64 t753] 43 (0, 0)) (by (with_reducible repeat (first | refine blk_drewN ?_ _ | refine blk_drew ?_ | refine blk_alloc ?_ _)); refine blk_far ?_ NB755_759.out _; (with_reducible repeat (first | refine blk_drewN ?_ _ | refine blk_drew ?_ | refine blk_alloc ?_ _)); refine blk_far ?_ NB755_759.out _; (with_reducible repeat (first | refine blk_drewN ?_ _ | refine blk_drew ?_ | refine blk_alloc ?_ _)); refine blk_far ?_ NB755_758.out _; (with_reducible repeat (first | refine blk_drewN ?_ _ | refine blk_drew ?_ | refine blk_alloc ?_ _)); refine blk_far ?_ NB755_758.out _; (with_reducible repeat (first | refine blk_drewN ?_ _ | refine blk_drew ?_ | refine blk_alloc ?_ _)); exact BK755.out) hb); have n4_ := Aside0.mk (blk_below (g := gb758) (o := .cells #[.int .i64 ((rd_T57 l1 0).f1), .int .i64 1] 25 (0, 0)) (by (with_reducible repeat (first | refine blk_drewN ?_ _ | refine blk_drew ?_ | refine blk_alloc ?_ _)); refine blk_far ?_ NB758_759.out _; (with_reducible repeat (first | refine blk_drewN ?_ _ | refine blk_drew ?_ | refine blk_alloc ?_ _)); refine blk_far ?_ NB758_759.out _; (with_reducible repeat (first | refine blk_drewN ?_ _ | refine blk_drew ?_ | refine blk_alloc ?_ _)); refine blk_put (cs := #[.int .i64 ((rd_T57 l1 0).f1), .int .i64 0]) ?_ 1 _ rfl; (with_reducible repeat (first | refine blk_drewN ?_ _ | refine blk_drew ?_ | refine blk_alloc ?_ _)); refine blk_put (cs := #[.int .i64 0, .int .i64 0]) ?_ 0 _ rfl; (with_reducible repeat (first | refine blk_drewN ?_ _ | refine blk_drew ?_ | refine blk_alloc ?_ _)); exact BK758.out) hb); have n5_ := Aside0.mk (blk_below (g := gb759) (o := .cells #[.int .i64 ((rd_T57 l1 (ji49)).f1), .int .i64 1] 25 (0, 0)) (by (with_reducible repeat (first | refine blk_drewN ?_ _ | refine blk_drew ?_ | refine blk_alloc ?_ _)); refine blk_put (cs := #[.int .i64 ((rd_T57 l1 (ji49)).f1), .int .i64 0]) ?_ 1 _ rfl; (with_reducible repeat (first | refine blk_drewN ?_ _ | refine blk_drew ?_ | refine blk_alloc ?_ _)); refine blk_put (cs := #[.int .i64 0, .int .i64 0]) ?_ 0 _ rfl; (with_reducible repeat (first | refine blk_drewN ?_ _ | refine blk_drew ?_ | refine blk_alloc ?_ _)); refine blk_far ?_ NB759_758.out _; (with_reducible repeat (first | refine blk_drewN ?_ _ | refine blk_drew ?_ | refine blk_alloc ?_ _)); refine blk_far ?_ NB759_758.out _; (with_reducible repeat (first | refine blk_drewN ?_ _ | refine blk_drew ?_ | refine blk_alloc ?_ _)); exact BK759.out) hb); have n6_ := Aside0.mk (below_step (by repeat (first | (with_reducible first | exact HB.out | apply below_alloc | apply pw_below_drewN | apply below_drew1 | refine below_set ?_ GE747.out | refine below_set ?_ GE751.out | refine below_set ?_ GE755.out | refine below_set ?_ GE758.out | refine below_set ?_ GE759.out) | exact HB.out)) hb); clear HO_9; clear BK747; clear BK751; clear BK755; clear BK758; clear BK759; clear HB; have HO_9 := n0_; have BK747 := n1_; have BK751 := n2_; have BK755 := n3_; have BK758 := n4_; have BK759 := n5_; have HB := n6_; clear n0_ n1_ n2_ n3_ n4_ n5_ n6_; (try clear hb); (try clear hb2); (try clear hk); (try clear hi)))
                          go_meet
                          case rel => exact ⟨_, (true), (by first | rfl | (simp; done) | (simp [*]; done)), H', ⟨by have := HJ6.out; have := HJ19.out; first | omega | exact Nat.le_refl _⟩, ⟨by (with_reducible repeat (first | refine blk_drewN ?_ _ | refine blk_drew ?_ | refine blk_alloc ?_ _)); exact BK747.out⟩, ⟨by (with_reducible repeat (first | refine blk_drewN ?_ _ | refine blk_drew ?_ | refine blk_alloc ?_ _)); exact BK751.out⟩, ⟨by (with_reducible repeat (first | refine blk_drewN ?_ _ | refine blk_drew ?_ | refine blk_alloc ?_ _)); exact BK755.out⟩, ⟨by (with_reducible repeat (first | refine blk_drewN ?_ _ | refine blk_drew ?_ | refine blk_alloc ?_ _)); exact BK758.out⟩, ⟨by (with_reducible repeat (first | refine blk_drewN ?_ _ | refine blk_drew ?_ | refine blk_alloc ?_ _)); exact BK759.out⟩, ⟨by repeat (first | (with_reducible first | exact HB.out | apply below_alloc | apply pw_below_drewN | apply below_drew1 | refine below_set ?_ GE747.out | refine below_set ?_ GE751.out | refine below_set ?_ GE755.out | refine below_set ?_ GE758.out | refine below_set ?_ GE759.out) | exact HB.out)⟩⟩
                        · rw [if_neg c69] at H
                          have c69b0 : decide (t760 < 0) = false := decide_eq_false c69
                          clear c69
                          (first | rw [c69b0] | (simp only [i64_w, i32_w]; rw [c69b0]) | skip)
                          replace H := Option.bind_eq_some_iff.mp H
                          obtain ⟨t761, A800, H⟩ := H
                          replace H : (law_CurveMeets.j2 kj19 l1 a3 t754 (decide (t761 > 0)) t744 t745 t748 t749 t752 t753) = some r := H
                          have A80 := Aside0.mk A800
                          clear A800
                          have H' := Aside0.mk H
                          clear H
                          have hnb81 := NB747_751.out
                          have hnc81 := NB751_747.out
                          have hnb82 := NB747_755.out
                          have hnc82 := NB755_747.out
                          have hnb83 := NB747_758.out
                          have hnc83 := NB758_747.out
                          have hnb84 := NB747_759.out
                          have hnc84 := NB759_747.out
                          have hcz85_0 : w63.cell? ⟨gb747, 0, none⟩ = some (.int .i64 t744) := (blk_cell BK747.out 0).trans rfl
                          have hcz85_1 : w63.cell? ⟨gb747, 1, none⟩ = some (.int .i64 t745) := (blk_cell BK747.out 1).trans rfl
                          have hfz85_0 := blk_frozen BK747.out 0
                          have hfz85_1 := blk_frozen BK747.out 1
                          have hnb86 := NB758_751.out
                          have hnc86 := NB751_758.out
                          have hnb87 := NB758_755.out
                          have hnc87 := NB755_758.out
                          have hnb88 := NB758_759.out
                          have hnc88 := NB759_758.out
                          have hcz89_0 : w63.cell? ⟨gb758, 0, none⟩ = some (.int .i64 0) := (blk_cell BK758.out 0).trans rfl
                          have hcz89_1 : w63.cell? ⟨gb758, 1, none⟩ = some (.int .i64 0) := (blk_cell BK758.out 1).trans rfl
                          have hfz89_0 := blk_frozen BK758.out 0
                          have hfz89_1 := blk_frozen BK758.out 1
                          go_wp2_with (first | ((with_reducible refine gate_callee (f := 53) rfl ?_); refine goesL_ (some 111) rfl rfl Tryd.func53 (by kernel_rfl) rfl #[.agg #[.int .i64 t744, .int .i64 t745], .agg #[.int .i64 ((rd_T57 l1 0).f1), .int .i64 1]] rfl (by (try simp only [List.map_toArray, List.map_cons, List.map_nil]); first | done | rfl | (simp only [List.length_drop, List.length_take]; rfl)) ?_; (with_reducible refine (ref_Order.calls kj19 t744 t745 ((rd_T57 l1 0).f1) 1 t760 _ A68.out).mono ?_); rintro e w90 ⟨rfl, hb⟩; refine ⟨_, rfl, ?_⟩; have n0_ := Aside0.mk (Kd.R_below (by (with_reducible repeat (first | apply Kd.R_alloc | apply Kd.R_drewN | apply Kd.R_drew)); exact (Kd.R_mono (Kd.R_mono (Kd.R_far (p := ⟨gb759, 1, none⟩) (Kd.R_far (p := ⟨gb759, 0, none⟩) (Kd.R_far (p := ⟨gb758, 1, none⟩) (Kd.R_far (p := ⟨gb758, 0, none⟩) (Kd.R_types (Kd.R_types HO_9.out BK758.out (by decide)) BK759.out (by decide)) (fun _ hk => hk.1.2) (.int .i64 ((rd_T57 l1 0).f1))) (fun _ hk => hk.1.2) (.int .i64 1)) (fun _ hk => hk.2) (.int .i64 ((rd_T57 l1 (ji49)).f1))) (fun _ hk => hk.2) (.int .i64 1)) (fun _ h_ => h_.1)) (fun _ h_ => h_.1))) hb); have n1_ := Aside0.mk (blk_below (g := gb747) (o := .cells #[.int .i64 t744, .int .i64 t745] 25 (0, 0)) (by (with_reducible repeat (first | refine blk_drewN ?_ _ | refine blk_drew ?_ | refine blk_alloc ?_ _)); refine blk_far ?_ NB747_759.out _; (with_reducible repeat (first | refine blk_drewN ?_ _ | refine blk_drew ?_ | refine blk_alloc ?_ _)); refine blk_far ?_ NB747_759.out _; (with_reducible repeat (first | refine blk_drewN ?_ _ | refine blk_drew ?_ | refine blk_alloc ?_ _)); refine blk_far ?_ NB747_758.out _; (with_reducible repeat (first | refine blk_drewN ?_ _ | refine blk_drew ?_ | refine blk_alloc ?_ _)); refine blk_far ?_ NB747_758.out _; (with_reducible repeat (first | refine blk_drewN ?_ _ | refine blk_drew ?_ | refine blk_alloc ?_ _)); exact BK747.out) hb); have n2_ := Aside0.mk (blk_below (g := gb751) (o := .cells #[.int .i64 t748, .int .i64 t749] 25 (0, 0)) (by (with_reducible repeat (first | refine blk_drewN ?_ _ | refine blk_drew ?_ | refine blk_alloc ?_ _)); refine blk_far ?_ NB751_759.out _; (with_reducible repeat (first | refine blk_drewN ?_ _ | refine blk_drew ?_ | refine blk_alloc ?_ _)); refine blk_far ?_ NB751_759.out _; (with_reducible repeat (first | refine blk_drewN ?_ _ | refine blk_drew ?_ | refine blk_alloc ?_ _)); refine blk_far ?_ NB751_758.out _; (with_reducible repeat (first | refine blk_drewN ?_ _ | refine blk_drew ?_ | refine blk_alloc ?_ _)); refine blk_far ?_ NB751_758.out _; (with_reducible repeat (first | refine blk_drewN ?_ _ | refine blk_drew ?_ | refine blk_alloc ?_ _)); exact BK751.out) hb); have n3_ := Aside0.mk (blk_below (g := gb755) (o := .cells #[.int .i64 t752, .int .i64 t753] 43 (0, 0)) (by (with_reducible repeat (first | refine blk_drewN ?_ _ | refine blk_drew ?_ | refine blk_alloc ?_ _)); refine blk_far ?_ NB755_759.out _; (with_reducible repeat (first | refine blk_drewN ?_ _ | refine blk_drew ?_ | refine blk_alloc ?_ _)); refine blk_far ?_ NB755_759.out _; (with_reducible repeat (first | refine blk_drewN ?_ _ | refine blk_drew ?_ | refine blk_alloc ?_ _)); refine blk_far ?_ NB755_758.out _; (with_reducible repeat (first | refine blk_drewN ?_ _ | refine blk_drew ?_ | refine blk_alloc ?_ _)); refine blk_far ?_ NB755_758.out _; (with_reducible repeat (first | refine blk_drewN ?_ _ | refine blk_drew ?_ | refine blk_alloc ?_ _)); exact BK755.out) hb); have n4_ := Aside0.mk (blk_below (g := gb758) (o := .cells #[.int .i64 ((rd_T57 l1 0).f1), .int .i64 1] 25 (0, 0)) (by (with_reducible repeat (first | refine blk_drewN ?_ _ | refine blk_drew ?_ | refine blk_alloc ?_ _)); refine blk_far ?_ NB758_759.out _; (with_reducible repeat (first | refine blk_drewN ?_ _ | refine blk_drew ?_ | refine blk_alloc ?_ _)); refine blk_far ?_ NB758_759.out _; (with_reducible repeat (first | refine blk_drewN ?_ _ | refine blk_drew ?_ | refine blk_alloc ?_ _)); refine blk_put (cs := #[.int .i64 ((rd_T57 l1 0).f1), .int .i64 0]) ?_ 1 _ rfl; (with_reducible repeat (first | refine blk_drewN ?_ _ | refine blk_drew ?_ | refine blk_alloc ?_ _)); refine blk_put (cs := #[.int .i64 0, .int .i64 0]) ?_ 0 _ rfl; (with_reducible repeat (first | refine blk_drewN ?_ _ | refine blk_drew ?_ | refine blk_alloc ?_ _)); exact BK758.out) hb); have n5_ := Aside0.mk (blk_below (g := gb759) (o := .cells #[.int .i64 ((rd_T57 l1 (ji49)).f1), .int .i64 1] 25 (0, 0)) (by (with_reducible repeat (first | refine blk_drewN ?_ _ | refine blk_drew ?_ | refine blk_alloc ?_ _)); refine blk_put (cs := #[.int .i64 ((rd_T57 l1 (ji49)).f1), .int .i64 0]) ?_ 1 _ rfl; (with_reducible repeat (first | refine blk_drewN ?_ _ | refine blk_drew ?_ | refine blk_alloc ?_ _)); refine blk_put (cs := #[.int .i64 0, .int .i64 0]) ?_ 0 _ rfl; (with_reducible repeat (first | refine blk_drewN ?_ _ | refine blk_drew ?_ | refine blk_alloc ?_ _)); refine blk_far ?_ NB759_758.out _; (with_reducible repeat (first | refine blk_drewN ?_ _ | refine blk_drew ?_ | refine blk_alloc ?_ _)); refine blk_far ?_ NB759_758.out _; (with_reducible repeat (first | refine blk_drewN ?_ _ | refine blk_drew ?_ | refine blk_alloc ?_ _)); exact BK759.out) hb); have n6_ := Aside0.mk (below_step (by repeat (first | (with_reducible first | exact HB.out | apply below_alloc | apply pw_below_drewN | apply below_drew1 | refine below_set ?_ GE747.out | refine below_set ?_ GE751.out | refine below_set ?_ GE755.out | refine below_set ?_ GE758.out | refine below_set ?_ GE759.out) | exact HB.out)) hb); clear HO_9; clear BK747; clear BK751; clear BK755; clear BK758; clear BK759; clear HB; have HO_9 := n0_; have BK747 := n1_; have BK751 := n2_; have BK755 := n3_; have BK758 := n4_; have BK759 := n5_; have HB := n6_; clear n0_ n1_ n2_ n3_ n4_ n5_ n6_; (try clear hb); (try clear hb2); (try clear hk); (try clear hi); have hcz91_0 : w90.cell? ⟨gb747, 0, none⟩ = some (.int .i64 t744) := (blk_cell BK747.out 0).trans rfl; have hcz91_1 : w90.cell? ⟨gb747, 1, none⟩ = some (.int .i64 t745) := (blk_cell BK747.out 1).trans rfl; have hfz91_0 := blk_frozen BK747.out 0; have hfz91_1 := blk_frozen BK747.out 1; have hnb92 := NB759_751.out; have hnc92 := NB751_759.out; have hnb93 := NB759_755.out; have hnc93 := NB755_759.out; have hcz94_0 : w90.cell? ⟨gb759, 0, none⟩ = some (.int .i64 ((rd_T57 l1 (ji49)).f1)) := (blk_cell BK759.out 0).trans rfl; have hcz94_1 : w90.cell? ⟨gb759, 1, none⟩ = some (.int .i64 1) := (blk_cell BK759.out 1).trans rfl; have hfz94_0 := blk_frozen BK759.out 0; have hfz94_1 := blk_frozen BK759.out 1) | (go_at_call 53; (with_reducible refine (ref_Order.calls kj19 t744 t745 ((rd_T57 l1 (ji49)).f1) 1 t761 _ A80.out).mono ?_); rintro e w95 ⟨rfl, hb⟩; have n0_ := Aside0.mk (Kd.R_below (by (with_reducible repeat (first | apply Kd.R_alloc | apply Kd.R_drewN | apply Kd.R_drew)); exact HO_9.out) hb); have n1_ := Aside0.mk (blk_below (g := gb747) (o := .cells #[.int .i64 t744, .int .i64 t745] 25 (0, 0)) (by (with_reducible repeat (first | refine blk_drewN ?_ _ | refine blk_drew ?_ | refine blk_alloc ?_ _)); exact BK747.out) hb); have n2_ := Aside0.mk (blk_below (g := gb751) (o := .cells #[.int .i64 t748, .int .i64 t749] 25 (0, 0)) (by (with_reducible repeat (first | refine blk_drewN ?_ _ | refine blk_drew ?_ | refine blk_alloc ?_ _)); exact BK751.out) hb); have n3_ := Aside0.mk (blk_below (g := gb755) (o := .cells #[.int .i64 t752, .int .i64 t753] 43 (0, 0)) (by (with_reducible repeat (first | refine blk_drewN ?_ _ | refine blk_drew ?_ | refine blk_alloc ?_ _)); exact BK755.out) hb); have n4_ := Aside0.mk (blk_below (g := gb758) (o := .cells #[.int .i64 ((rd_T57 l1 0).f1), .int .i64 1] 25 (0, 0)) (by (with_reducible repeat (first | refine blk_drewN ?_ _ | refine blk_drew ?_ | refine blk_alloc ?_ _)); exact BK758.out) hb); have n5_ := Aside0.mk (blk_below (g := gb759) (o := .cells #[.int .i64 ((rd_T57 l1 (ji49)).f1), .int .i64 1] 25 (0, 0)) (by (with_reducible repeat (first | refine blk_drewN ?_ _ | refine blk_drew ?_ | refine blk_alloc ?_ _)); exact BK759.out) hb); have n6_ := Aside0.mk (below_step (by repeat (first | (with_reducible first | exact HB.out | apply below_alloc | apply pw_below_drewN | apply below_drew1 | refine below_set ?_ GE747.out | refine below_set ?_ GE751.out | refine below_set ?_ GE755.out | refine below_set ?_ GE758.out | refine below_set ?_ GE759.out) | exact HB.out)) hb); clear HO_9; clear BK747; clear BK751; clear BK755; clear BK758; clear BK759; clear HB; have HO_9 := n0_; have BK747 := n1_; have BK751 := n2_; have BK755 := n3_; have BK758 := n4_; have BK759 := n5_; have HB := n6_; clear n0_ n1_ n2_ n3_ n4_ n5_ n6_; (try clear hb); (try clear hb2); (try clear hk); (try clear hi)))
                          go_meet
                          case rel => exact ⟨_, (decide (t761 > 0)), (by first | rfl | (simp; done) | (simp [*]; done)), H', ⟨by have := HJ6.out; have := HJ19.out; first | omega | exact Nat.le_refl _⟩, ⟨by (with_reducible repeat (first | refine blk_drewN ?_ _ | refine blk_drew ?_ | refine blk_alloc ?_ _)); exact BK747.out⟩, ⟨by (with_reducible repeat (first | refine blk_drewN ?_ _ | refine blk_drew ?_ | refine blk_alloc ?_ _)); exact BK751.out⟩, ⟨by (with_reducible repeat (first | refine blk_drewN ?_ _ | refine blk_drew ?_ | refine blk_alloc ?_ _)); exact BK755.out⟩, ⟨by (with_reducible repeat (first | refine blk_drewN ?_ _ | refine blk_drew ?_ | refine blk_alloc ?_ _)); exact BK758.out⟩, ⟨by (with_reducible repeat (first | refine blk_drewN ?_ _ | refine blk_drew ?_ | refine blk_alloc ?_ _)); exact BK759.out⟩, ⟨by repeat (first | (with_reducible first | exact HB.out | apply below_alloc | apply pw_below_drewN | apply below_drew1 | refine below_set ?_ GE747.out | refine below_set ?_ GE751.out | refine below_set ?_ GE755.out | refine below_set ?_ GE758.out | refine below_set ?_ GE759.out) | exact HB.out)⟩⟩
                      case rest => as_aux_lemma =>
                        clear HC52
                        try clear p2
                        try clear c4
                        try clear c5
                        try clear c6
                        try clear p6
                        try clear c7
                        try clear p7
                        try clear q7
                        try clear hx7
                        try clear qi7
                        try clear c8
                        try clear c9
                        try clear c40
                        try clear c48
                        try clear c48b0
                        try clear c48b1
                        try clear c50
                        try clear c50b0
                        try clear c51
                        try clear c51b0
                        try clear c53
                        try clear c56
                        try clear c57
                        try clear p64
                        try clear c69
                        try clear c69b0
                        try clear c70
                        try clear c71
                        try clear c72
                        try clear c73
                        try clear c75
                        try clear p75
                        try clear q75
                        try clear hx75
                        try clear qi75
                        try clear c76
                        try clear c77
                        try clear c81
                        try clear c82
                        try clear c83
                        try clear c84
                        try clear c86
                        try clear c87
                        try clear c88
                        try clear c92
                        try clear c93
                        try clear hcz58_0
                        try clear hcz58_1
                        try clear hcz74_0
                        try clear hcz74_1
                        try clear hcz78_0
                        try clear hcz78_1
                        try clear hcz85_0
                        try clear hcz85_1
                        try clear hcz89_0
                        try clear hcz89_1
                        try clear hcz91_0
                        try clear hcz91_1
                        try clear hcz94_0
                        try clear hcz94_1
                        try clear hfz58_0
                        try clear hfz58_1
                        try clear hfz74_0
                        try clear hfz74_1
                        try clear hfz78_0
                        try clear hfz78_1
                        try clear hfz85_0
                        try clear hfz85_1
                        try clear hfz89_0
                        try clear hfz89_1
                        try clear hfz91_0
                        try clear hfz91_1
                        try clear hfz94_0
                        try clear hfz94_1
                        try clear hx756_0
                        try clear hx756_1
                        try clear hx757_0
                        try clear hx757_1
                        try clear p756
                        try clear p757
                        try clear q756
                        try clear q757
                        obtain ⟨kq, x118_51, rfl, HA, HJ51, BK747, BK751, BK755, BK758, BK759, HB⟩ := hcut
                        cases kq with
                        | zero => exact absurd HA.out (by simp [law_CurveMeets.j2])
                        | succ kj51 =>
                          have H := HA.out
                          clear HA
                          simp only [law_CurveMeets.j2] at H
                          by_cases c96 : x118_51 = true
                          · subst c96
                            have H1 : (some (t754 == 1)) = some r := by rw [if_pos rfl] at H; exact H
                            clear H
                            have H := H1
                            clear H1
                            obtain rfl := Option.some.inj H
                            go_wp2
                            go_ret
                            exact ⟨by first | rfl | (simp [errW_none, errW_some] <;> rfl) | (simp only [← hji49]; first | rfl | (simp [errW_none, errW_some] <;> rfl)) | (simp [*, errW_none, errW_some] <;> rfl), by repeat (first | (with_reducible first | exact HB.out | apply below_alloc | apply pw_below_drewN | apply below_drew1 | refine below_set ?_ GE747.out | refine below_set ?_ GE751.out | refine below_set ?_ GE755.out | refine below_set ?_ GE758.out | refine below_set ?_ GE759.out) | exact HB.out)⟩
                          · replace c96 := Bool.eq_false_iff.mpr c96
                            subst c96
                            have H1 : ((ref_Order.f kj51 t748 t749 t744 t745).bind fun t762 => (if t754 = 0 then ((ref_In.f l1 t752).bind fun t763 => (if t763 = true then ((ref_In.f l1 t753).bind fun t764 => (if t764 = true then (if ((decide (t762 ≥ 0)) == (decide (a3 ≥ t753))) = true then (some ((decide (t762 ≤ 0)) == (decide (a3 ≤ t752)))) else (some false)) else (some false))) else (some false))) else (some false))) = some r := by rw [if_neg (show ¬ (false = true) by decide)] at H; exact H
                            clear H
                            have H := H1
                            clear H1
                            replace H := Option.bind_eq_some_iff.mp H
                            obtain ⟨t762, A970, H⟩ := H
                            replace H : (if t754 = 0 then ((ref_In.f l1 t752).bind fun t763 => (if t763 = true then ((ref_In.f l1 t753).bind fun t764 => (if t764 = true then (if ((decide (t762 ≥ 0)) == (decide (a3 ≥ t753))) = true then (some ((decide (t762 ≤ 0)) == (decide (a3 ≤ t752)))) else (some false)) else (some false))) else (some false))) else (some false)) = some r := H
                            have A97 := Aside0.mk A970
                            clear A970
                            by_cases c98 : t754 = 0
                            · rw [if_pos c98] at H
                              have c98b0 : (t754 == 0) = true := beq_iff_eq.mpr c98
                              have c98b1 : (t754 != 0) = false := bne_eq_false_iff_eq.mpr c98
                              clear c98
                              replace H := Option.bind_eq_some_iff.mp H
                              obtain ⟨t763, A990, H⟩ := H
                              replace H : (if t763 = true then ((ref_In.f l1 t753).bind fun t764 => (if t764 = true then (if ((decide (t762 ≥ 0)) == (decide (a3 ≥ t753))) = true then (some ((decide (t762 ≤ 0)) == (decide (a3 ≤ t752)))) else (some false)) else (some false))) else (some false)) = some r := H
                              have A99 := Aside0.mk A990
                              clear A990
                              by_cases c100 : t763 = true
                              · subst c100
                                have H1 : ((ref_In.f l1 t753).bind fun t764 => (if t764 = true then (if ((decide (t762 ≥ 0)) == (decide (a3 ≥ t753))) = true then (some ((decide (t762 ≤ 0)) == (decide (a3 ≤ t752)))) else (some false)) else (some false))) = some r := by rw [if_pos rfl] at H; exact H
                                clear H
                                have H := H1
                                clear H1
                                replace H := Option.bind_eq_some_iff.mp H
                                obtain ⟨t764, A1010, H⟩ := H
                                replace H : (if t764 = true then (if ((decide (t762 ≥ 0)) == (decide (a3 ≥ t753))) = true then (some ((decide (t762 ≤ 0)) == (decide (a3 ≤ t752)))) else (some false)) else (some false)) = some r := H
                                have A101 := Aside0.mk A1010
                                clear A1010
                                by_cases c102 : t764 = true
                                · subst c102
                                  have H1 : (if ((decide (t762 ≥ 0)) == (decide (a3 ≥ t753))) = true then (some ((decide (t762 ≤ 0)) == (decide (a3 ≤ t752)))) else (some false)) = some r := by rw [if_pos rfl] at H; exact H
                                  clear H
                                  have H := H1
                                  clear H1
                                  by_cases c103 : ((decide (t762 ≥ 0)) == (decide (a3 ≥ t753))) = true
                                  · rw [if_pos c103] at H
                                    have c103b0 : ((decide (t762 ≥ 0)) == (decide (a3 ≥ t753))) = true := c103
                                    (try (have c103b1 : decide ((decide (t762 ≥ 0)) = (decide (a3 ≥ t753))) = true := by simpa using c103))
                                    (try (have c103b2 : ((decide (t762 ≥ 0)) == (decide (a3 ≥ t753))) = true := by simpa using c103))
                                    clear c103
                                    obtain rfl := Option.some.inj H
                                    have hnb104 := NB751_747.out
                                    have hnc104 := NB747_751.out
                                    have hnb105 := NB751_755.out
                                    have hnc105 := NB755_751.out
                                    have hnb106 := NB751_758.out
                                    have hnc106 := NB758_751.out
                                    have hnb107 := NB751_759.out
                                    have hnc107 := NB759_751.out
                                    have hcz108_0 : wc.cell? ⟨gb751, 0, none⟩ = some (.int .i64 t748) := (blk_cell BK751.out 0).trans rfl
                                    have hcz108_1 : wc.cell? ⟨gb751, 1, none⟩ = some (.int .i64 t749) := (blk_cell BK751.out 1).trans rfl
                                    have hfz108_0 := blk_frozen BK751.out 0
                                    have hfz108_1 := blk_frozen BK751.out 1
                                    have hnb109 := NB747_755.out
                                    have hnc109 := NB755_747.out
                                    have hnb110 := NB747_758.out
                                    have hnc110 := NB758_747.out
                                    have hnb111 := NB747_759.out
                                    have hnc111 := NB759_747.out
                                    have hcz112_0 : wc.cell? ⟨gb747, 0, none⟩ = some (.int .i64 t744) := (blk_cell BK747.out 0).trans rfl
                                    have hcz112_1 : wc.cell? ⟨gb747, 1, none⟩ = some (.int .i64 t745) := (blk_cell BK747.out 1).trans rfl
                                    have hfz112_0 := blk_frozen BK747.out 0
                                    have hfz112_1 := blk_frozen BK747.out 1
                                    go_wp2_with (first | ((with_reducible refine gate_callee (f := 53) rfl ?_); refine goesL_ (some 123) rfl rfl Tryd.func53 (by kernel_rfl) rfl #[.agg #[.int .i64 t748, .int .i64 t749], .agg #[.int .i64 t744, .int .i64 t745]] rfl (by (try simp only [List.map_toArray, List.map_cons, List.map_nil]); first | done | rfl | (simp only [List.length_drop, List.length_take]; rfl)) ?_; (with_reducible refine (ref_Order.calls kj51 t748 t749 t744 t745 t762 _ A97.out).mono ?_); rintro e w113 ⟨rfl, hb⟩; refine ⟨_, rfl, ?_⟩; have n0_ := Aside0.mk (blk_below (g := gb747) (o := .cells #[.int .i64 t744, .int .i64 t745] 25 (0, 0)) (by (with_reducible repeat (first | refine blk_drewN ?_ _ | refine blk_drew ?_ | refine blk_alloc ?_ _)); exact BK747.out) hb); have n1_ := Aside0.mk (blk_below (g := gb751) (o := .cells #[.int .i64 t748, .int .i64 t749] 25 (0, 0)) (by (with_reducible repeat (first | refine blk_drewN ?_ _ | refine blk_drew ?_ | refine blk_alloc ?_ _)); exact BK751.out) hb); have n2_ := Aside0.mk (blk_below (g := gb755) (o := .cells #[.int .i64 t752, .int .i64 t753] 43 (0, 0)) (by (with_reducible repeat (first | refine blk_drewN ?_ _ | refine blk_drew ?_ | refine blk_alloc ?_ _)); exact BK755.out) hb); have n3_ := Aside0.mk (blk_below (g := gb758) (o := .cells #[.int .i64 ((rd_T57 l1 0).f1), .int .i64 1] 25 (0, 0)) (by (with_reducible repeat (first | refine blk_drewN ?_ _ | refine blk_drew ?_ | refine blk_alloc ?_ _)); exact BK758.out) hb); have n4_ := Aside0.mk (blk_below (g := gb759) (o := .cells #[.int .i64 ((rd_T57 l1 (ji49)).f1), .int .i64 1] 25 (0, 0)) (by (with_reducible repeat (first | refine blk_drewN ?_ _ | refine blk_drew ?_ | refine blk_alloc ?_ _)); exact BK759.out) hb); have n5_ := Aside0.mk (below_step (by repeat (first | (with_reducible first | exact HB.out | apply below_alloc | apply pw_below_drewN | apply below_drew1 | refine below_set ?_ GE747.out | refine below_set ?_ GE751.out | refine below_set ?_ GE755.out | refine below_set ?_ GE758.out | refine below_set ?_ GE759.out) | exact HB.out)) hb); clear BK747; clear BK751; clear BK755; clear BK758; clear BK759; clear HB; have BK747 := n0_; have BK751 := n1_; have BK755 := n2_; have BK758 := n3_; have BK759 := n4_; have HB := n5_; clear n0_ n1_ n2_ n3_ n4_ n5_; (try clear hb); (try clear hb2); (try clear hk); (try clear hi); have hnb114 := NB755_758.out; have hnc114 := NB758_755.out; have hnb115 := NB755_759.out; have hnc115 := NB759_755.out; have hcz116_0 : w113.cell? ⟨gb755, 0, none⟩ = some (.int .i64 t752) := (blk_cell BK755.out 0).trans rfl; have hcz116_1 : w113.cell? ⟨gb755, 1, none⟩ = some (.int .i64 t753) := (blk_cell BK755.out 1).trans rfl; have hfz116_0 := blk_frozen BK755.out 0; have hfz116_1 := blk_frozen BK755.out 1) | (go_at_call 43; (with_reducible refine (ref_In.calls _ _ l1 t752 true _ ?side1 ?side2 A99.out).mono ?_); (case side1 => repeat (first | exact (Kd.C_below HR1.out HB.out) | (with_reducible refine Kd.C_alloc ?_ _) | (with_reducible refine Kd.C_drewN ?_ _) | (with_reducible refine Kd.C_drew ?_))); (case side2 => exact HC1.out); rintro e w' ⟨rfl, ⟨nd, rfl⟩⟩) | (go_at_call 43; (with_reducible refine (ref_In.calls _ _ l1 t753 true _ ?side1 ?side2 A101.out).mono ?_); (case side1 => repeat (first | exact (Kd.C_below HR1.out (by repeat (first | (with_reducible first | exact HB.out | apply below_alloc | apply pw_below_drewN | apply below_drew1 | refine below_set ?_ GE747.out | refine below_set ?_ GE751.out | refine below_set ?_ GE755.out | refine below_set ?_ GE758.out | refine below_set ?_ GE759.out) | exact HB.out))) | (with_reducible refine Kd.C_alloc ?_ _) | (with_reducible refine Kd.C_drewN ?_ _) | (with_reducible refine Kd.C_drew ?_))); (case side2 => exact HC1.out); rintro e w' ⟨rfl, ⟨nd, rfl⟩⟩))
                                    go_ret
                                    exact ⟨by first | rfl | (simp [errW_none, errW_some] <;> rfl) | (simp only [← hji49]; first | rfl | (simp [errW_none, errW_some] <;> rfl)) | (simp [*, errW_none, errW_some] <;> rfl), by repeat (first | (with_reducible first | exact HB.out | apply below_alloc | apply pw_below_drewN | apply below_drew1 | refine below_set ?_ GE747.out | refine below_set ?_ GE751.out | refine below_set ?_ GE755.out | refine below_set ?_ GE758.out | refine below_set ?_ GE759.out) | exact HB.out)⟩
                                  · rw [if_neg c103] at H
                                    have c103b0 : ((decide (t762 ≥ 0)) == (decide (a3 ≥ t753))) = false := by simpa using c103
                                    (try (have c103b1 : decide ((decide (t762 ≥ 0)) = (decide (a3 ≥ t753))) = false := by simpa using c103))
                                    (try (have c103b2 : ((decide (t762 ≥ 0)) == (decide (a3 ≥ t753))) = false := by simpa using c103))
                                    (try (have c103b3 : ¬ ((decide (t762 ≥ 0)) = (decide (a3 ≥ t753))) := by simpa using c103))
                                    clear c103
                                    obtain rfl := Option.some.inj H
                                    have hnb117 := NB751_747.out
                                    have hnc117 := NB747_751.out
                                    have hnb118 := NB751_755.out
                                    have hnc118 := NB755_751.out
                                    have hnb119 := NB751_758.out
                                    have hnc119 := NB758_751.out
                                    have hnb120 := NB751_759.out
                                    have hnc120 := NB759_751.out
                                    have hcz121_0 : wc.cell? ⟨gb751, 0, none⟩ = some (.int .i64 t748) := (blk_cell BK751.out 0).trans rfl
                                    have hcz121_1 : wc.cell? ⟨gb751, 1, none⟩ = some (.int .i64 t749) := (blk_cell BK751.out 1).trans rfl
                                    have hfz121_0 := blk_frozen BK751.out 0
                                    have hfz121_1 := blk_frozen BK751.out 1
                                    have hnb122 := NB747_755.out
                                    have hnc122 := NB755_747.out
                                    have hnb123 := NB747_758.out
                                    have hnc123 := NB758_747.out
                                    have hnb124 := NB747_759.out
                                    have hnc124 := NB759_747.out
                                    have hcz125_0 : wc.cell? ⟨gb747, 0, none⟩ = some (.int .i64 t744) := (blk_cell BK747.out 0).trans rfl
                                    have hcz125_1 : wc.cell? ⟨gb747, 1, none⟩ = some (.int .i64 t745) := (blk_cell BK747.out 1).trans rfl
                                    have hfz125_0 := blk_frozen BK747.out 0
                                    have hfz125_1 := blk_frozen BK747.out 1
                                    go_wp2_with (first | ((with_reducible refine gate_callee (f := 53) rfl ?_); refine goesL_ (some 123) rfl rfl Tryd.func53 (by kernel_rfl) rfl #[.agg #[.int .i64 t748, .int .i64 t749], .agg #[.int .i64 t744, .int .i64 t745]] rfl (by (try simp only [List.map_toArray, List.map_cons, List.map_nil]); first | done | rfl | (simp only [List.length_drop, List.length_take]; rfl)) ?_; (with_reducible refine (ref_Order.calls kj51 t748 t749 t744 t745 t762 _ A97.out).mono ?_); rintro e w126 ⟨rfl, hb⟩; refine ⟨_, rfl, ?_⟩; have n0_ := Aside0.mk (blk_below (g := gb747) (o := .cells #[.int .i64 t744, .int .i64 t745] 25 (0, 0)) (by (with_reducible repeat (first | refine blk_drewN ?_ _ | refine blk_drew ?_ | refine blk_alloc ?_ _)); exact BK747.out) hb); have n1_ := Aside0.mk (blk_below (g := gb751) (o := .cells #[.int .i64 t748, .int .i64 t749] 25 (0, 0)) (by (with_reducible repeat (first | refine blk_drewN ?_ _ | refine blk_drew ?_ | refine blk_alloc ?_ _)); exact BK751.out) hb); have n2_ := Aside0.mk (blk_below (g := gb755) (o := .cells #[.int .i64 t752, .int .i64 t753] 43 (0, 0)) (by (with_reducible repeat (first | refine blk_drewN ?_ _ | refine blk_drew ?_ | refine blk_alloc ?_ _)); exact BK755.out) hb); have n3_ := Aside0.mk (blk_below (g := gb758) (o := .cells #[.int .i64 ((rd_T57 l1 0).f1), .int .i64 1] 25 (0, 0)) (by (with_reducible repeat (first | refine blk_drewN ?_ _ | refine blk_drew ?_ | refine blk_alloc ?_ _)); exact BK758.out) hb); have n4_ := Aside0.mk (blk_below (g := gb759) (o := .cells #[.int .i64 ((rd_T57 l1 (ji49)).f1), .int .i64 1] 25 (0, 0)) (by (with_reducible repeat (first | refine blk_drewN ?_ _ | refine blk_drew ?_ | refine blk_alloc ?_ _)); exact BK759.out) hb); have n5_ := Aside0.mk (below_step (by repeat (first | (with_reducible first | exact HB.out | apply below_alloc | apply pw_below_drewN | apply below_drew1 | refine below_set ?_ GE747.out | refine below_set ?_ GE751.out | refine below_set ?_ GE755.out | refine below_set ?_ GE758.out | refine below_set ?_ GE759.out) | exact HB.out)) hb); clear BK747; clear BK751; clear BK755; clear BK758; clear BK759; clear HB; have BK747 := n0_; have BK751 := n1_; have BK755 := n2_; have BK758 := n3_; have BK759 := n4_; have HB := n5_; clear n0_ n1_ n2_ n3_ n4_ n5_; (try clear hb); (try clear hb2); (try clear hk); (try clear hi); have hnb127 := NB755_758.out; have hnc127 := NB758_755.out; have hnb128 := NB755_759.out; have hnc128 := NB759_755.out; have hcz129_0 : w126.cell? ⟨gb755, 0, none⟩ = some (.int .i64 t752) := (blk_cell BK755.out 0).trans rfl; have hcz129_1 : w126.cell? ⟨gb755, 1, none⟩ = some (.int .i64 t753) := (blk_cell BK755.out 1).trans rfl; have hfz129_0 := blk_frozen BK755.out 0; have hfz129_1 := blk_frozen BK755.out 1) | (go_at_call 43; (with_reducible refine (ref_In.calls _ _ l1 t752 true _ ?side1 ?side2 A99.out).mono ?_); (case side1 => repeat (first | exact (Kd.C_below HR1.out HB.out) | (with_reducible refine Kd.C_alloc ?_ _) | (with_reducible refine Kd.C_drewN ?_ _) | (with_reducible refine Kd.C_drew ?_))); (case side2 => exact HC1.out); rintro e w' ⟨rfl, ⟨nd, rfl⟩⟩) | (go_at_call 43; (with_reducible refine (ref_In.calls _ _ l1 t753 true _ ?side1 ?side2 A101.out).mono ?_); (case side1 => repeat (first | exact (Kd.C_below HR1.out (by repeat (first | (with_reducible first | exact HB.out | apply below_alloc | apply pw_below_drewN | apply below_drew1 | refine below_set ?_ GE747.out | refine below_set ?_ GE751.out | refine below_set ?_ GE755.out | refine below_set ?_ GE758.out | refine below_set ?_ GE759.out) | exact HB.out))) | (with_reducible refine Kd.C_alloc ?_ _) | (with_reducible refine Kd.C_drewN ?_ _) | (with_reducible refine Kd.C_drew ?_))); (case side2 => exact HC1.out); rintro e w' ⟨rfl, ⟨nd, rfl⟩⟩))
                                    go_ret
                                    exact ⟨by first | rfl | (simp [errW_none, errW_some] <;> rfl) | (simp only [← hji49]; first | rfl | (simp [errW_none, errW_some] <;> rfl)) | (simp [*, errW_none, errW_some] <;> rfl), by repeat (first | (with_reducible first | exact HB.out | apply below_alloc | apply pw_below_drewN | apply below_drew1 | refine below_set ?_ GE747.out | refine below_set ?_ GE751.out | refine below_set ?_ GE755.out | refine below_set ?_ GE758.out | refine below_set ?_ GE759.out) | exact HB.out)⟩
                                · replace c102 := Bool.eq_false_iff.mpr c102
                                  subst c102
                                  have H1 : (some false) = some r := by rw [if_neg (show ¬ (false = true) by decide)] at H; exact H
                                  clear H
                                  have H := H1
                                  clear H1
                                  obtain rfl := Option.some.inj H
                                  have hnb130 := NB751_747.out
                                  have hnc130 := NB747_751.out
                                  have hnb131 := NB751_755.out
                                  have hnc131 := NB755_751.out
                                  have hnb132 := NB751_758.out
                                  have hnc132 := NB758_751.out
                                  have hnb133 := NB751_759.out
                                  have hnc133 := NB759_751.out
                                  have hcz134_0 : wc.cell? ⟨gb751, 0, none⟩ = some (.int .i64 t748) := (blk_cell BK751.out 0).trans rfl
                                  have hcz134_1 : wc.cell? ⟨gb751, 1, none⟩ = some (.int .i64 t749) := (blk_cell BK751.out 1).trans rfl
                                  have hfz134_0 := blk_frozen BK751.out 0
                                  have hfz134_1 := blk_frozen BK751.out 1
                                  have hnb135 := NB747_755.out
                                  have hnc135 := NB755_747.out
                                  have hnb136 := NB747_758.out
                                  have hnc136 := NB758_747.out
                                  have hnb137 := NB747_759.out
                                  have hnc137 := NB759_747.out
                                  have hcz138_0 : wc.cell? ⟨gb747, 0, none⟩ = some (.int .i64 t744) := (blk_cell BK747.out 0).trans rfl
                                  have hcz138_1 : wc.cell? ⟨gb747, 1, none⟩ = some (.int .i64 t745) := (blk_cell BK747.out 1).trans rfl
                                  have hfz138_0 := blk_frozen BK747.out 0
                                  have hfz138_1 := blk_frozen BK747.out 1
                                  go_wp2_with (first | ((with_reducible refine gate_callee (f := 53) rfl ?_); refine goesL_ (some 123) rfl rfl Tryd.func53 (by kernel_rfl) rfl #[.agg #[.int .i64 t748, .int .i64 t749], .agg #[.int .i64 t744, .int .i64 t745]] rfl (by (try simp only [List.map_toArray, List.map_cons, List.map_nil]); first | done | rfl | (simp only [List.length_drop, List.length_take]; rfl)) ?_; (with_reducible refine (ref_Order.calls kj51 t748 t749 t744 t745 t762 _ A97.out).mono ?_); rintro e w139 ⟨rfl, hb⟩; refine ⟨_, rfl, ?_⟩; have n0_ := Aside0.mk (blk_below (g := gb747) (o := .cells #[.int .i64 t744, .int .i64 t745] 25 (0, 0)) (by (with_reducible repeat (first | refine blk_drewN ?_ _ | refine blk_drew ?_ | refine blk_alloc ?_ _)); exact BK747.out) hb); have n1_ := Aside0.mk (blk_below (g := gb751) (o := .cells #[.int .i64 t748, .int .i64 t749] 25 (0, 0)) (by (with_reducible repeat (first | refine blk_drewN ?_ _ | refine blk_drew ?_ | refine blk_alloc ?_ _)); exact BK751.out) hb); have n2_ := Aside0.mk (blk_below (g := gb755) (o := .cells #[.int .i64 t752, .int .i64 t753] 43 (0, 0)) (by (with_reducible repeat (first | refine blk_drewN ?_ _ | refine blk_drew ?_ | refine blk_alloc ?_ _)); exact BK755.out) hb); have n3_ := Aside0.mk (blk_below (g := gb758) (o := .cells #[.int .i64 ((rd_T57 l1 0).f1), .int .i64 1] 25 (0, 0)) (by (with_reducible repeat (first | refine blk_drewN ?_ _ | refine blk_drew ?_ | refine blk_alloc ?_ _)); exact BK758.out) hb); have n4_ := Aside0.mk (blk_below (g := gb759) (o := .cells #[.int .i64 ((rd_T57 l1 (ji49)).f1), .int .i64 1] 25 (0, 0)) (by (with_reducible repeat (first | refine blk_drewN ?_ _ | refine blk_drew ?_ | refine blk_alloc ?_ _)); exact BK759.out) hb); have n5_ := Aside0.mk (below_step (by repeat (first | (with_reducible first | exact HB.out | apply below_alloc | apply pw_below_drewN | apply below_drew1 | refine below_set ?_ GE747.out | refine below_set ?_ GE751.out | refine below_set ?_ GE755.out | refine below_set ?_ GE758.out | refine below_set ?_ GE759.out) | exact HB.out)) hb); clear BK747; clear BK751; clear BK755; clear BK758; clear BK759; clear HB; have BK747 := n0_; have BK751 := n1_; have BK755 := n2_; have BK758 := n3_; have BK759 := n4_; have HB := n5_; clear n0_ n1_ n2_ n3_ n4_ n5_; (try clear hb); (try clear hb2); (try clear hk); (try clear hi); have hnb140 := NB755_758.out; have hnc140 := NB758_755.out; have hnb141 := NB755_759.out; have hnc141 := NB759_755.out; have hcz142_0 : w139.cell? ⟨gb755, 0, none⟩ = some (.int .i64 t752) := (blk_cell BK755.out 0).trans rfl; have hcz142_1 : w139.cell? ⟨gb755, 1, none⟩ = some (.int .i64 t753) := (blk_cell BK755.out 1).trans rfl; have hfz142_0 := blk_frozen BK755.out 0; have hfz142_1 := blk_frozen BK755.out 1) | (go_at_call 43; (with_reducible refine (ref_In.calls _ _ l1 t752 true _ ?side1 ?side2 A99.out).mono ?_); (case side1 => repeat (first | exact (Kd.C_below HR1.out HB.out) | (with_reducible refine Kd.C_alloc ?_ _) | (with_reducible refine Kd.C_drewN ?_ _) | (with_reducible refine Kd.C_drew ?_))); (case side2 => exact HC1.out); rintro e w' ⟨rfl, ⟨nd, rfl⟩⟩) | (go_at_call 43; (with_reducible refine (ref_In.calls _ _ l1 t753 false _ ?side1 ?side2 A101.out).mono ?_); (case side1 => repeat (first | exact (Kd.C_below HR1.out (by repeat (first | (with_reducible first | exact HB.out | apply below_alloc | apply pw_below_drewN | apply below_drew1 | refine below_set ?_ GE747.out | refine below_set ?_ GE751.out | refine below_set ?_ GE755.out | refine below_set ?_ GE758.out | refine below_set ?_ GE759.out) | exact HB.out))) | (with_reducible refine Kd.C_alloc ?_ _) | (with_reducible refine Kd.C_drewN ?_ _) | (with_reducible refine Kd.C_drew ?_))); (case side2 => exact HC1.out); rintro e w' ⟨rfl, ⟨nd, rfl⟩⟩))
                                  go_ret
                                  exact ⟨by first | rfl | (simp [errW_none, errW_some] <;> rfl) | (simp only [← hji49]; first | rfl | (simp [errW_none, errW_some] <;> rfl)) | (simp [*, errW_none, errW_some] <;> rfl), by repeat (first | (with_reducible first | exact HB.out | apply below_alloc | apply pw_below_drewN | apply below_drew1 | refine below_set ?_ GE747.out | refine below_set ?_ GE751.out | refine below_set ?_ GE755.out | refine below_set ?_ GE758.out | refine below_set ?_ GE759.out) | exact HB.out)⟩
                              · replace c100 := Bool.eq_false_iff.mpr c100
                                subst c100
                                have H1 : (some false) = some r := by rw [if_neg (show ¬ (false = true) by decide)] at H; exact H
                                clear H
                                have H := H1
                                clear H1
                                obtain rfl := Option.some.inj H
                                have hnb143 := NB751_747.out
                                have hnc143 := NB747_751.out
                                have hnb144 := NB751_755.out
                                have hnc144 := NB755_751.out
                                have hnb145 := NB751_758.out
                                have hnc145 := NB758_751.out
                                have hnb146 := NB751_759.out
                                have hnc146 := NB759_751.out
                                have hcz147_0 : wc.cell? ⟨gb751, 0, none⟩ = some (.int .i64 t748) := (blk_cell BK751.out 0).trans rfl
                                have hcz147_1 : wc.cell? ⟨gb751, 1, none⟩ = some (.int .i64 t749) := (blk_cell BK751.out 1).trans rfl
                                have hfz147_0 := blk_frozen BK751.out 0
                                have hfz147_1 := blk_frozen BK751.out 1
                                have hnb148 := NB747_755.out
                                have hnc148 := NB755_747.out
                                have hnb149 := NB747_758.out
                                have hnc149 := NB758_747.out
                                have hnb150 := NB747_759.out
                                have hnc150 := NB759_747.out
                                have hcz151_0 : wc.cell? ⟨gb747, 0, none⟩ = some (.int .i64 t744) := (blk_cell BK747.out 0).trans rfl
                                have hcz151_1 : wc.cell? ⟨gb747, 1, none⟩ = some (.int .i64 t745) := (blk_cell BK747.out 1).trans rfl
                                have hfz151_0 := blk_frozen BK747.out 0
                                have hfz151_1 := blk_frozen BK747.out 1
                                go_wp2_with (first | ((with_reducible refine gate_callee (f := 53) rfl ?_); refine goesL_ (some 123) rfl rfl Tryd.func53 (by kernel_rfl) rfl #[.agg #[.int .i64 t748, .int .i64 t749], .agg #[.int .i64 t744, .int .i64 t745]] rfl (by (try simp only [List.map_toArray, List.map_cons, List.map_nil]); first | done | rfl | (simp only [List.length_drop, List.length_take]; rfl)) ?_; (with_reducible refine (ref_Order.calls kj51 t748 t749 t744 t745 t762 _ A97.out).mono ?_); rintro e w152 ⟨rfl, hb⟩; refine ⟨_, rfl, ?_⟩; have n0_ := Aside0.mk (blk_below (g := gb747) (o := .cells #[.int .i64 t744, .int .i64 t745] 25 (0, 0)) (by (with_reducible repeat (first | refine blk_drewN ?_ _ | refine blk_drew ?_ | refine blk_alloc ?_ _)); exact BK747.out) hb); have n1_ := Aside0.mk (blk_below (g := gb751) (o := .cells #[.int .i64 t748, .int .i64 t749] 25 (0, 0)) (by (with_reducible repeat (first | refine blk_drewN ?_ _ | refine blk_drew ?_ | refine blk_alloc ?_ _)); exact BK751.out) hb); have n2_ := Aside0.mk (blk_below (g := gb755) (o := .cells #[.int .i64 t752, .int .i64 t753] 43 (0, 0)) (by (with_reducible repeat (first | refine blk_drewN ?_ _ | refine blk_drew ?_ | refine blk_alloc ?_ _)); exact BK755.out) hb); have n3_ := Aside0.mk (blk_below (g := gb758) (o := .cells #[.int .i64 ((rd_T57 l1 0).f1), .int .i64 1] 25 (0, 0)) (by (with_reducible repeat (first | refine blk_drewN ?_ _ | refine blk_drew ?_ | refine blk_alloc ?_ _)); exact BK758.out) hb); have n4_ := Aside0.mk (blk_below (g := gb759) (o := .cells #[.int .i64 ((rd_T57 l1 (ji49)).f1), .int .i64 1] 25 (0, 0)) (by (with_reducible repeat (first | refine blk_drewN ?_ _ | refine blk_drew ?_ | refine blk_alloc ?_ _)); exact BK759.out) hb); have n5_ := Aside0.mk (below_step (by repeat (first | (with_reducible first | exact HB.out | apply below_alloc | apply pw_below_drewN | apply below_drew1 | refine below_set ?_ GE747.out | refine below_set ?_ GE751.out | refine below_set ?_ GE755.out | refine below_set ?_ GE758.out | refine below_set ?_ GE759.out) | exact HB.out)) hb); clear BK747; clear BK751; clear BK755; clear BK758; clear BK759; clear HB; have BK747 := n0_; have BK751 := n1_; have BK755 := n2_; have BK758 := n3_; have BK759 := n4_; have HB := n5_; clear n0_ n1_ n2_ n3_ n4_ n5_; (try clear hb); (try clear hb2); (try clear hk); (try clear hi); have hnb153 := NB755_758.out; have hnc153 := NB758_755.out; have hnb154 := NB755_759.out; have hnc154 := NB759_755.out; have hcz155_0 : w152.cell? ⟨gb755, 0, none⟩ = some (.int .i64 t752) := (blk_cell BK755.out 0).trans rfl; have hcz155_1 : w152.cell? ⟨gb755, 1, none⟩ = some (.int .i64 t753) := (blk_cell BK755.out 1).trans rfl; have hfz155_0 := blk_frozen BK755.out 0; have hfz155_1 := blk_frozen BK755.out 1) | (go_at_call 43; (with_reducible refine (ref_In.calls _ _ l1 t752 false _ ?side1 ?side2 A99.out).mono ?_); (case side1 => repeat (first | exact (Kd.C_below HR1.out HB.out) | (with_reducible refine Kd.C_alloc ?_ _) | (with_reducible refine Kd.C_drewN ?_ _) | (with_reducible refine Kd.C_drew ?_))); (case side2 => exact HC1.out); rintro e w' ⟨rfl, ⟨nd, rfl⟩⟩))
                                go_ret
                                exact ⟨by first | rfl | (simp [errW_none, errW_some] <;> rfl) | (simp only [← hji49]; first | rfl | (simp [errW_none, errW_some] <;> rfl)) | (simp [*, errW_none, errW_some] <;> rfl), by repeat (first | (with_reducible first | exact HB.out | apply below_alloc | apply pw_below_drewN | apply below_drew1 | refine below_set ?_ GE747.out | refine below_set ?_ GE751.out | refine below_set ?_ GE755.out | refine below_set ?_ GE758.out | refine below_set ?_ GE759.out) | exact HB.out)⟩
                            · rw [if_neg c98] at H
                              have c98b0 : (t754 == 0) = false := beq_eq_false_iff_ne.mpr c98
                              have c98b1 : (t754 != 0) = true := bne_iff_ne.mpr c98
                              obtain rfl := Option.some.inj H
                              have hnb156 := NB751_747.out
                              have hnc156 := NB747_751.out
                              have hnb157 := NB751_755.out
                              have hnc157 := NB755_751.out
                              have hnb158 := NB751_758.out
                              have hnc158 := NB758_751.out
                              have hnb159 := NB751_759.out
                              have hnc159 := NB759_751.out
                              have hcz160_0 : wc.cell? ⟨gb751, 0, none⟩ = some (.int .i64 t748) := (blk_cell BK751.out 0).trans rfl
                              have hcz160_1 : wc.cell? ⟨gb751, 1, none⟩ = some (.int .i64 t749) := (blk_cell BK751.out 1).trans rfl
                              have hfz160_0 := blk_frozen BK751.out 0
                              have hfz160_1 := blk_frozen BK751.out 1
                              have hnb161 := NB747_755.out
                              have hnc161 := NB755_747.out
                              have hnb162 := NB747_758.out
                              have hnc162 := NB758_747.out
                              have hnb163 := NB747_759.out
                              have hnc163 := NB759_747.out
                              have hcz164_0 : wc.cell? ⟨gb747, 0, none⟩ = some (.int .i64 t744) := (blk_cell BK747.out 0).trans rfl
                              have hcz164_1 : wc.cell? ⟨gb747, 1, none⟩ = some (.int .i64 t745) := (blk_cell BK747.out 1).trans rfl
                              have hfz164_0 := blk_frozen BK747.out 0
                              have hfz164_1 := blk_frozen BK747.out 1
                              go_wp2_with (first | ((with_reducible refine gate_callee (f := 53) rfl ?_); refine goesL_ (some 123) rfl rfl Tryd.func53 (by kernel_rfl) rfl #[.agg #[.int .i64 t748, .int .i64 t749], .agg #[.int .i64 t744, .int .i64 t745]] rfl (by (try simp only [List.map_toArray, List.map_cons, List.map_nil]); first | done | rfl | (simp only [List.length_drop, List.length_take]; rfl)) ?_; (with_reducible refine (ref_Order.calls kj51 t748 t749 t744 t745 t762 _ A97.out).mono ?_); rintro e w165 ⟨rfl, hb⟩; refine ⟨_, rfl, ?_⟩; have n0_ := Aside0.mk (blk_below (g := gb747) (o := .cells #[.int .i64 t744, .int .i64 t745] 25 (0, 0)) (by (with_reducible repeat (first | refine blk_drewN ?_ _ | refine blk_drew ?_ | refine blk_alloc ?_ _)); exact BK747.out) hb); have n1_ := Aside0.mk (blk_below (g := gb751) (o := .cells #[.int .i64 t748, .int .i64 t749] 25 (0, 0)) (by (with_reducible repeat (first | refine blk_drewN ?_ _ | refine blk_drew ?_ | refine blk_alloc ?_ _)); exact BK751.out) hb); have n2_ := Aside0.mk (blk_below (g := gb755) (o := .cells #[.int .i64 t752, .int .i64 t753] 43 (0, 0)) (by (with_reducible repeat (first | refine blk_drewN ?_ _ | refine blk_drew ?_ | refine blk_alloc ?_ _)); exact BK755.out) hb); have n3_ := Aside0.mk (blk_below (g := gb758) (o := .cells #[.int .i64 ((rd_T57 l1 0).f1), .int .i64 1] 25 (0, 0)) (by (with_reducible repeat (first | refine blk_drewN ?_ _ | refine blk_drew ?_ | refine blk_alloc ?_ _)); exact BK758.out) hb); have n4_ := Aside0.mk (blk_below (g := gb759) (o := .cells #[.int .i64 ((rd_T57 l1 (ji49)).f1), .int .i64 1] 25 (0, 0)) (by (with_reducible repeat (first | refine blk_drewN ?_ _ | refine blk_drew ?_ | refine blk_alloc ?_ _)); exact BK759.out) hb); have n5_ := Aside0.mk (below_step (by repeat (first | (with_reducible first | exact HB.out | apply below_alloc | apply pw_below_drewN | apply below_drew1 | refine below_set ?_ GE747.out | refine below_set ?_ GE751.out | refine below_set ?_ GE755.out | refine below_set ?_ GE758.out | refine below_set ?_ GE759.out) | exact HB.out)) hb); clear BK747; clear BK751; clear BK755; clear BK758; clear BK759; clear HB; have BK747 := n0_; have BK751 := n1_; have BK755 := n2_; have BK758 := n3_; have BK759 := n4_; have HB := n5_; clear n0_ n1_ n2_ n3_ n4_ n5_; (try clear hb); (try clear hb2); (try clear hk); (try clear hi)))
                              go_ret
                              exact ⟨by first | rfl | (simp [errW_none, errW_some] <;> rfl) | (simp only [← hji49]; first | rfl | (simp [errW_none, errW_some] <;> rfl)) | (simp [*, errW_none, errW_some] <;> rfl), by repeat (first | (with_reducible first | exact HB.out | apply below_alloc | apply pw_below_drewN | apply below_drew1 | refine below_set ?_ GE747.out | refine below_set ?_ GE751.out | refine below_set ?_ GE755.out | refine below_set ?_ GE758.out | refine below_set ?_ GE759.out) | exact HB.out)⟩
                    · rw [if_neg c51] at H
                      exact absurd H (by simp)
                  · rw [if_neg c50] at H
                    exact absurd H (by simp)
                · rw [if_neg c48] at H
                  exact absurd H (by simp)
  · replace c6 := Bool.eq_false_iff.mpr c6
    subst c6
    have H1 : (some false) = some r := by rw [if_neg (show ¬ (false = true) by decide)] at H; exact H
    clear H
    have H := H1
    clear H1
    obtain rfl := Option.some.inj H
    go_enter Tryd.func14, Tryd.ntmps14
    go_wp2_with (first | ((with_reducible refine gate_callee (f := 18) rfl ?_); refine goesL_ (some 20) rfl rfl Tryd.func18 (by kernel_rfl) rfl #[] rfl (by (try simp only [List.map_toArray, List.map_cons, List.map_nil]); first | done | rfl | (simp only [List.length_drop, List.length_take]; rfl)) ?_; (with_reducible refine (law_sane.calls  false _ A5.out).mono ?_); rintro e w166 ⟨rfl, hb⟩; refine ⟨_, rfl, ?_⟩; have n0_ := Aside0.mk (below_step (by repeat (first | (with_reducible first | exact HB.out | apply below_alloc | apply pw_below_drewN | apply below_drew1) | exact HB.out)) hb); clear HB; have HB := n0_; clear n0_; (try clear hb); (try clear hb2); (try clear hk); (try clear hi)))
    go_ret
    exact ⟨by first | rfl | (simp [errW_none, errW_some] <;> rfl) | (simp [*, errW_none, errW_some] <;> rfl), by repeat (first | (with_reducible first | exact HB.out | apply below_alloc | apply pw_below_drewN | apply below_drew1) | exact HB.out)⟩
end Go.Proofs.YtlhhpogaaneamaaDoor.X
namespace Go.Proofs.YtlhhpogaaneamaaDoor.X
open Go.RowKit
set_option linter.unusedVariables false
theorem meets_true (a b : List S57) (x z : Int) : ∃ k, law_CurveMeets.f k a b x z = some true := by
  obtain ⟨k1, h1⟩ := (valid_ev a).fix
  obtain ⟨k2, h2⟩ := (valid_ev b).fix
  cases hga : goodB a with
  | false =>
    refine ⟨k1 + 6, ?_⟩
    have h1' := h1 k1 (Nat.le_refl _)
    rw [hga] at h1'
    simp only [law_CurveMeets.f, law_sane.f, Option.bind_some, h1', if_true, law_CurveMeets.j0]
    rfl
  | true =>
    have ha := good_of hga
    cases hgb : goodB b with
    | false =>
      refine ⟨k1 + k2 + 6, ?_⟩
      have h1' := h1 (k1 + k2) (by omega)
      have h2' := h2 (k1 + k2) (by omega)
      rw [hga] at h1'
      rw [hgb] at h2'
      simp only [law_CurveMeets.f, law_sane.f, Option.bind_some, h1', h2', if_true, law_CurveMeets.j0]
      rfl
    | true =>
      have hb := good_of hgb
      cases hx : inB a x with
      | false =>
        refine ⟨k1 + k2 + 6, ?_⟩
        have h1' := h1 (k1 + k2) (by omega)
        have h2' := h2 (k1 + k2) (by omega)
        rw [hga] at h1'
        rw [hgb] at h2'
        simp [law_CurveMeets.f, law_sane.f, h1', h2', law_CurveMeets.j0, in_eq ha, hx]
      | true =>
        cases hz : inB b z with
        | false =>
          refine ⟨k1 + k2 + 6, ?_⟩
          have h1' := h1 (k1 + k2) (by omega)
          have h2' := h2 (k1 + k2) (by omega)
          rw [hga] at h1'
          rw [hgb] at h2'
          simp [law_CurveMeets.f, law_sane.f, h1', h2', law_CurveMeets.j0, in_eq ha, in_eq hb, hx, hz]
        | true =>
          have hl2 := hb.len2
          have hl64 := hb.len64
          have va := val_bounds ha hx
          have vb := val_bounds hb hz
          have y0 := hb.by_ 0 (by omega)
          have y1 := hb.by_ (b.length - 1) (by omega)
          obtain ⟨p, hp⟩ : ∃ p, valR a x = p := ⟨_, rfl⟩
          obtain ⟨q, hq⟩ : ∃ q, valR b z = q := ⟨_, rfl⟩
          rw [hp] at va
          rw [hq] at vb
          have E1 := exact_in ha hx
          have E2 := exact_in hb hz
          rw [hp] at E1
          rw [hq] at E2
          have O1 := order_ev va.1 va.2.1 va.2.2.1 va.2.2.2 y0.1 (by omega) (show (0 : Int) < 1 by omega) (by omega)
          have O2 := order_ev va.1 va.2.1 va.2.2.1 va.2.2.2 y1.1 (by omega) (show (0 : Int) < 1 by omega) (by omega)
          have O3 := order_ev vb.1 vb.2.1 vb.2.2.1 vb.2.2.2 va.1 va.2.1 va.2.2.1 va.2.2.2
          rw [cmpI_rat_int] at O1 O2
          rw [cmpI_rat] at O3
          obtain ⟨k3, h3⟩ := E1.fix
          obtain ⟨k4, h4⟩ := E2.fix
          obtain ⟨k5, h5⟩ := O1.fix
          obtain ⟨k6, h6⟩ := O2.fix
          obtain ⟨k7, h7⟩ := O3.fix
          obtain ⟨K, hK⟩ : ∃ K, k1 + k2 + k3 + k4 + k5 + k6 + k7 = K := ⟨_, rfl⟩
          refine ⟨K + 6, ?_⟩
          have h1' := h1 K (by omega)
          have h2' := h2 K (by omega)
          have h3' := h3 K (by omega)
          have h4' := h4 K (by omega)
          have h5' := h5 K (by omega)
          have h6' := h6 K (by omega)
          have h7' := h7 K (by omega)
          rw [hga] at h1'
          rw [hgb] at h2'
          have d1 : ¬ (p.den : Int) < 1 := by omega
          have d2 : ¬ (q.den : Int) < 1 := by omega
          have d3 : ¬ (p.den : Int) > 16777216 := by omega
          have d4 : ¬ (q.den : Int) > 16777216 := by omega
          have w0 : wrap64 ((b.length : Int) - 1) = ((b.length - 1 : Nat) : Int) := by rw [w64 (by omega) (by omega)]; omega
          have r0 : (rd_T57 b 0).f1 = py b 0 := rfl
          have rL : (rd_T57 b (wrap64 ((b.length : Int) - 1))).f1 = py b (b.length - 1) := by rw [w0, rd_nat]; rfl
          have b0 : (0 : Int) < b.length := by omega
          have b1 : (0 : Int) ≤ wrap64 ((b.length : Int) - 1) := by rw [w0]; omega
          have b2 : wrap64 ((b.length : Int) - 1) < b.length := by rw [w0]; omega
          have start : law_CurveMeets.f (K + 6) a b x z = law_CurveMeets.j1 (K + 5) a b x z (tn b) false p.num p.den q.num q.den := by
            simp only [law_CurveMeets.f, law_sane.f, Option.bind_some, h1', h2', if_true, in_eq ha, in_eq hb, hx, hz, law_CurveMeets.j0, Bool.not_true, turned_eq hb, h3', h4', if_neg d1, if_neg d2, if_neg d3, decide_eq_false d4]
            rfl
          rw [start]
          have hzr := (inB_iff hb).1 hz
          have oz := valR_on hb hzr.1 hzr.2
          rw [hq] at oz
          by_cases c0 : p < (py b 0 : Rat)
          · have e := through_out_eq ha hb.tn hx (Or.inl (by rw [hp, tn_px]; exact c0))
            simp only [law_CurveMeets.j1, e, Option.bind_some, if_pos b0, if_pos b1, if_pos b2, r0, h5', if_pos c0]
            rfl
          · by_cases c1 : (py b (b.length - 1) : Rat) < p
            · have e := through_out_eq ha hb.tn hx (Or.inr (by rw [hp, tn_px, tn_length]; exact c1))
              have c2 : ¬ p < (py b (b.length - 1) : Rat) := by grind
              by_cases c3 : (py b 0 : Rat) < p
              · simp only [law_CurveMeets.j1, e, Option.bind_some, if_pos b0, if_pos b1, if_pos b2, r0, rL, h5', h6', if_neg c0, if_pos c3, if_neg c2, if_pos c1]
                rfl
              · simp only [law_CurveMeets.j1, e, Option.bind_some, if_pos b0, if_pos b1, if_pos b2, r0, rL, h5', h6', if_neg c0, if_neg c3, if_neg c2, if_pos c1]
                rfl
            · obtain ⟨lo, hi, u, e, ou, ulo, uhi⟩ := through_in_eq ha hb.tn hx (by rw [hp, tn_px]; grind) (by rw [hp, tn_px, tn_length]; grind)
              rw [hp] at ou
              have o := (on_tn_iff hb.rising).1 ou
              have ru := o.range hb.rising
              have i1 : inB b lo = true := (inB_iff hb).2 ⟨(ulo _).2 ru.1, of_cast_le (Rat.le_trans ((ulo lo).1 (Int.le_refl _)) ru.2)⟩
              have i2 : inB b hi = true := (inB_iff hb).2 ⟨of_cast_le (Rat.le_trans ru.1 ((uhi hi).1 (Int.le_refl _))), (uhi _).2 ru.2⟩
              have g1 : (¬ q < p) ↔ hi ≤ z := by rw [uhi z, On.le_iff hb.rising o oz]; grind
              have g2 : (¬ p < q) ↔ z ≤ lo := by rw [ulo z, On.le_iff hb.rising oz o]; grind
              have fin : law_CurveMeets.j2 (K + 4) b z 0 false p.num p.den q.num q.den lo hi = some true := by
                simp only [law_CurveMeets.j2, h7', Option.bind_some, if_true, in_eq hb, i1, i2]
                by_cases f1 : q < p
                · have f2 : ¬ hi ≤ z := by rw [← g1]; grind
                  have f3 : z ≤ lo := by rw [← g2]; grind
                  simp [f1, f2, f3]
                · by_cases f4 : p < q
                  · have f2 : hi ≤ z := by rw [← g1]; exact f1
                    have f3 : ¬ z ≤ lo := by rw [← g2]; grind
                    simp [f1, f4, f2, f3]
                  · have f2 : hi ≤ z := by rw [← g1]; exact f1
                    have f3 : z ≤ lo := by rw [← g2]; exact f4
                    simp [f1, f4, f2, f3]
              have c4 : ∀ (P : Prop) [Decidable P], ¬ (if P then (1 : Int) else 0) < 0 := fun P _ => by split <;> omega
              by_cases c2 : p < (py b (b.length - 1) : Rat)
              · simp only [law_CurveMeets.j1, e, Option.bind_some, if_pos b0, if_pos b1, if_pos b2, r0, rL, h5', h6', if_neg c0, if_neg (c4 _), if_pos c2]
                exact fin
              · simp only [law_CurveMeets.j1, e, Option.bind_some, if_pos b0, if_pos b1, if_pos b2, r0, rL, h5', h6', if_neg c0, if_neg (c4 _), if_neg c2, if_neg c1]
                exact fin
end Go.Proofs.YtlhhpogaaneamaaDoor.X
namespace Go.Proofs.YtlhhpogaaneamaaDoor
open Go Go.ChangeShapes Go.WideShapes Go.ChangeAt Go.RowKit Go.Proofs.YtlhhpogaaneamaaDoorW.PrintWords Go.Proofs.YtlhhpogaaneamaaDoorW.PrintLast Go.Proofs.YtlhhpogaaneamaaDoorW.PrintMore
set_option linter.unusedVariables false
set_option maxRecDepth 100000 in
theorem curveMeets_lifted (os : Os) (started : os.Started) (H : Type) (enc : TypeId × Value → H) :
    ReturnsInHanded {} Tryd.checked os 14 .any (fun w args => (Rows.curveMeetsSpec.pre enc Tryd.prog Tryd.f14 [] false w args ∧ laidMet Tryd.prog laidL w) ∧ sizedMet enc Tryd.prog Tryd.f14 (OpenSpec.ofChange Rows.curveMeetsSpec) false w args)
      (Rows.curveMeetsSpec.post enc Tryd.prog Tryd.f14 false true false false) := by
  refine returnsInHanded_of_change_and (C := Tryd.checked) (X := fun w _ => laidMet Tryd.prog laidL w) (fun _ _ _ hh h => h.of_heap hh) ownK started (by kernel_rfl) Tryd.func14
    (ChangeSpec.witness_at (enc := enc) (C := Tryd.checked) (os := os) (X := fun w _ => laidMet Tryd.prog laidL w) false (laidWorld os) #[.slice none 0 0, .slice none 0 0, .int .i64 0, .int .i64 0] 8 rfl (by kernel_rfl) (by kernel_rfl) (by kernel_rfl) (by kernel_rfl) (by kernel_rfl) (laidWorld_met os _)) ?_
  intro W base args ds gs before hval0 hW _ _ hL _
  have hval : ∀ (j : Nat) t v, Tryd.f14.params[j]? = some t → args[j]? = some v → Value.okWide Tryd.prog W .any base t v := hval0
  have hW' := hW
  obtain ⟨p, q, hA0, hV, rfl, hfz, hnd⟩ := hW
  have hA : DataW.TrodAll enc Tryd.prog W 0 (fun _ => true) true Tryd.f14.params.toList args.toList ds p := hA0
  rw [Tryd.params14] at hA hval
  obtain ⟨v0, vs0, d0, ds0, p0, q0, hargs, rfl, rfl, h0, r0⟩ := trodAll_cons hA
  obtain ⟨v1, vs1, d1, ds1, p1, q1, rfl, rfl, rfl, h1, r1⟩ := trodAll_cons r0
  obtain ⟨v2, vs2, d2, ds2, p2, q2, rfl, rfl, rfl, h2, r2⟩ := trodAll_cons r1
  obtain ⟨v3, vs3, d3, ds3, p3, q3, rfl, rfl, rfl, h3, r3⟩ := trodAll_cons r2
  obtain ⟨rfl, rfl, rfl⟩ := trodAll_nil r3
  obtain rfl : args = #[v0, v1, v2, v3] := by cases args; simp_all
  obtain ⟨rfl, rfl⟩ := trodVars_none hV
  obtain ⟨A0, c0, l0, rfl, hc0, hC0⟩ := open_curve (hval 0 23 v0 rfl rfl) h0
  have lt0 : ∀ x ∈ p0, x.block < W.heap.size := by obtain ⟨m, hm⟩ := h0; exact DataW.trod_lt m _ _ _ hm
  obtain ⟨A1, c1, l1, rfl, hc1, hC1⟩ := open_curve (hval 1 23 v1 rfl rfl) h1
  have lt1 : ∀ x ∈ p1, x.block < W.heap.size := by obtain ⟨m, hm⟩ := h1; exact DataW.trod_lt m _ _ _ hm
  obtain ⟨a2, rfl, rfl, rfl, w2⟩ := open_int Tryd.underlying3 (hval 2 3 v2 rfl rfl) h2
  obtain ⟨a3, rfl, rfl, rfl, w3⟩ := open_int Tryd.underlying3 (hval 3 3 v3 rfl rfl) h3
  obtain ⟨k, hk⟩ := X.meets_true l0 l1 a2 a3
  clear hA0 hval0
  refine (X.law_CurveMeets.calls k A0 c0 l0 A1 c1 l1 a2 a3 true W hC0 hc0 hC1 hc1 hk).mono fun e W' ⟨he, bel⟩ => ?_
  subst he
  exact ⟨_, rfl, _, _, _, [], _, [], hW', trodAll_mk1 (shut_bool Tryd.underlying4 _), (trodAll_cons_mk (Below.trod laidOutK (by kernel_rfl) (of_decide_eq_true (by kernel_rfl)) h0 bel lt0) (trodAll_cons_mk (Below.trod laidOutK (by kernel_rfl) (of_decide_eq_true (by kernel_rfl)) h1 bel lt1) (trodAll_cons_mk (shut_int Tryd.underlying3 w2) (trodAll_cons_mk (shut_int Tryd.underlying3 w3) trodAll_mk0)))), rfl, bel.frame _, fun h => by cases h⟩
theorem curveMeets_row : Rows.CurveMeetsSaid :=
  OpenClaim.holds_of_wide 14 Tryd.f14 rfl rfl rfl rfl rfl rfl rfl ⟨rfl, rfl, rfl, rfl, rfl⟩ rfl rfl rfl rfl rfl (by kernel_rfl) Tryd.func14 (by kernel_rfl)
    (of_decide_eq_true (by kernel_rfl)) (by unfold Func.isWrapper; rw [if_neg (of_decide_eq_false (by kernel_rfl))]; exact ⟨rfl, rfl⟩)
    (fun os started H enc _ => curveMeets_lifted os started H enc)
theorem curveMeets_holds : Rows.CurveMeetsCardSaid :=
  Claim7.holds_tied_plain_at .later [] [.data, .data, .data] true (true, "76fa1c69d7f5c33adb8b59679630511c53b9fa1b41b5e595b97b4acdba6f7c62") false
    curveMeets_row (fun _ h => by cases h) (by kernel_rfl) (fun _ h => by cases h) curveMeets_row_tie rfl ⟨rfl, rfl⟩ (by kernel_rfl) rfl
    (fun f fn hf hfn => by
      obtain rfl : f = 14 := Option.some.inj ((show Tryd.prog.funcNamed "waterhour/waterhourlaw01.CurveMeets" = some 14 by kernel_rfl).symm.trans hf) |>.symm
      obtain rfl : fn = Tryd.f14 := (Option.some.inj (Tryd.func14.symm.trans hfn)).symm
      exact ⟨by kernel_rfl, fun j t ht => by
        rw [Tryd.params14] at ht
        have h3 : t = 3 ∨ t = 23 := by
          have := List.mem_of_getElem? (l := [23, 23, 3, 3]) (i := j) (by simpa using ht)
          exact (by simpa using this : t = 23 ∨ t = 3).symm
        rcases h3 with rfl | rfl
        · exact (show Tryd.prog.wantsStandIn 3 = false by kernel_rfl)
        · exact (show Tryd.prog.wantsStandIn 23 = false by kernel_rfl)⟩)
    (by kernel_rfl)
end Go.Proofs.YtlhhpogaaneamaaDoor
