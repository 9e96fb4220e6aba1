/- curveEarlier_holds: the declarations of this seat that its proof uses. Conditions: none. -/
import Derived.Test.YtlhhpogaaneamaaDoorCards
import Derived.SevenTiedAt
import Derived.OpenShut
import Derived.ChangeOld
import Derived.Test.YtlhhpogaaneamaaDoorKEP4
namespace Go.Proofs.YtlhhpogaaneamaaDoor.X
open Go.RowKit Go.Proofs.YtlhhpogaaneamaaDoorW.PrintWords Go.Proofs.YtlhhpogaaneamaaDoorW.PrintLast Go.Proofs.YtlhhpogaaneamaaDoorW.PrintMore
set_option linter.unusedVariables false
set_option linter.unusedSimpArgs false
mutual
def law_CurveEarlier.j0 : Nat → List (S57) → List (S57) → Int → Bool → Option (Bool)
  | 0, _, _, _, _ => none
  | k + 1, x0, x1, x2, x45 => if x45 = true then (some true) else ((curve_Below.f x0 x1).bind fun bt772 => ((curve_First.f x0 x2).bind fun bt774 => ((curve_First.f x1 x2).bind fun bt777 => ((curve_Last.f x0 x2).bind fun bt780 => ((curve_Last.f x1 x2).bind fun bt783 => (if bt772.2 = 0 then (if bt774.2.2 = 0 then (if bt777.2.2 = 0 then (if bt780.2.2 = 0 then (law_CurveEarlier.j1 k bt772.1 bt774.1 bt774.2.1 bt777.1 bt777.2.1 bt780.1 bt780.2.1 bt783.1 bt783.2.1 (bt783.2.2 != 0)) else (law_CurveEarlier.j1 k bt772.1 bt774.1 bt774.2.1 bt777.1 bt777.2.1 bt780.1 bt780.2.1 bt783.1 bt783.2.1 true)) else (law_CurveEarlier.j1 k bt772.1 bt774.1 bt774.2.1 bt777.1 bt777.2.1 bt780.1 bt780.2.1 bt783.1 bt783.2.1 true)) else (law_CurveEarlier.j1 k bt772.1 bt774.1 bt774.2.1 bt777.1 bt777.2.1 bt780.1 bt780.2.1 bt783.1 bt783.2.1 true)) else (law_CurveEarlier.j1 k bt772.1 bt774.1 bt774.2.1 bt777.1 bt777.2.1 bt780.1 bt780.2.1 bt783.1 bt783.2.1 true)))))))
def law_CurveEarlier.j1 : Nat → Bool → Int → Bool → Int → Bool → Int → Bool → Int → Bool → Bool → Option (Bool)
  | 0, _, _, _, _, _, _, _, _, _, _ => none
  | k + 1, x7, x9, x10, x12, x13, x15, x16, x18, x19, x97 => if x97 = true then (some false) else (if x10 = true then (if x13 = true then (if x12 > x9 then (if x7 = true then (some (!true)) else (some true)) else (if x19 = true then (if x16 = true then (if x7 = true then (some (!(decide (x18 > x15)))) else (some true)) else (if x7 = true then (some (!true)) else (some true))) else (if x7 = true then (some (!false)) else (some true)))) else (if x7 = true then (some (!true)) else (some true))) else (if x19 = true then (if x16 = true then (if x7 = true then (some (!(decide (x18 > x15)))) else (some true)) else (if x7 = true then (some (!true)) else (some true))) else (if x7 = true then (some (!false)) else (some true))))
end
def law_CurveEarlier.f (k : Nat) (l0 : List (S57)) (l1 : List (S57)) (a2 : Int) : Option (Bool) := (law_sane.f).bind fun t765 => (if t765 = true then ((ref_Valid.f k l0).bind fun t766 => (if t766 = true then ((ref_Valid.f k l1).bind fun t767 => (if t767 = true then ((ref_From.f l0).bind fun t768 => ((ref_From.f l1).bind fun t769 => (if t768 = t769 then ((ref_To.f l0).bind fun t770 => ((ref_To.f l1).bind fun t771 => (law_CurveEarlier.j0 k l0 l1 a2 (t770 != t771)))) else (law_CurveEarlier.j0 k l0 l1 a2 true)))) else (law_CurveEarlier.j0 k l0 l1 a2 true))) else (law_CurveEarlier.j0 k l0 l1 a2 true))) else (some false))
set_option maxHeartbeats 8000000 in
set_option maxRecDepth 100000 in
theorem law_CurveEarlier.calls (k : Nat) (A0 : Option Addr) (c0 : Nat) (l0 : List (S57)) (A1 : Option Addr) (c1 : Nat) (l1 : List (S57)) (a2 : Int) (r : Bool) (w : World) (hr0 : Kd.C k57 w A0 l0.length l0) (hc0 : l0.length ≤ c0) (hr1 : Kd.C k57 w A1 l1.length l1) (hc1 : l1.length ≤ c1) (h : law_CurveEarlier.f k l0 l1 a2 = some r) :
    Calls Tryd.prog 15 #[.slice A0 l0.length c0, .slice A1 l1.length c1, .int .i64 a2] w fun e w' => e = .returned (.bool r) ∧ Below w.heap.size w w' := by
  have HR0 := Aside0.mk hr0
  have HC0 := Aside0.mk hc0
  clear hr0 hc0
  have HR1 := Aside0.mk hr1
  have HC1 := Aside0.mk hc1
  clear hr1 hc1
  have HB := Aside0.mk (Below.refl w.heap.size w)
  have H : ((law_sane.f).bind fun t765 => (if t765 = true then ((ref_Valid.f k l0).bind fun t766 => (if t766 = true then ((ref_Valid.f k l1).bind fun t767 => (if t767 = true then ((ref_From.f l0).bind fun t768 => ((ref_From.f l1).bind fun t769 => (if t768 = t769 then ((ref_To.f l0).bind fun t770 => ((ref_To.f l1).bind fun t771 => (law_CurveEarlier.j0 k l0 l1 a2 (t770 != t771)))) else (law_CurveEarlier.j0 k l0 l1 a2 true)))) else (law_CurveEarlier.j0 k l0 l1 a2 true))) else (law_CurveEarlier.j0 k l0 l1 a2 true))) else (some false))) = some r := h
  clear h
  replace H := Option.bind_eq_some_iff.mp H
  obtain ⟨t765, A40, H⟩ := H
  replace H : (if t765 = true then ((ref_Valid.f k l0).bind fun t766 => (if t766 = true then ((ref_Valid.f k l1).bind fun t767 => (if t767 = true then ((ref_From.f l0).bind fun t768 => ((ref_From.f l1).bind fun t769 => (if t768 = t769 then ((ref_To.f l0).bind fun t770 => ((ref_To.f l1).bind fun t771 => (law_CurveEarlier.j0 k l0 l1 a2 (t770 != t771)))) else (law_CurveEarlier.j0 k l0 l1 a2 true)))) else (law_CurveEarlier.j0 k l0 l1 a2 true))) else (law_CurveEarlier.j0 k l0 l1 a2 true))) else (some false)) = some r := H
  have A4 := Aside0.mk A40
  clear A40
  by_cases c5 : t765 = true
  · subst c5
    have H1 : ((ref_Valid.f k l0).bind fun t766 => (if t766 = true then ((ref_Valid.f k l1).bind fun t767 => (if t767 = true then ((ref_From.f l0).bind fun t768 => ((ref_From.f l1).bind fun t769 => (if t768 = t769 then ((ref_To.f l0).bind fun t770 => ((ref_To.f l1).bind fun t771 => (law_CurveEarlier.j0 k l0 l1 a2 (t770 != t771)))) else (law_CurveEarlier.j0 k l0 l1 a2 true)))) else (law_CurveEarlier.j0 k l0 l1 a2 true))) else (law_CurveEarlier.j0 k l0 l1 a2 true))) = some r := by rw [if_pos rfl] at H; exact H
    clear H
    have H := H1
    clear H1
    have HC6 := Aside0.mk H
    clear H
    go_enter Tryd.func15, Tryd.ntmps15
    go_upto_region 3 with (first | ((with_reducible refine gate_callee (f := 18) rfl ?_); refine goesL_ (some 22) rfl rfl Tryd.func18 (by kernel_rfl) rfl #[] rfl (by (try simp only [List.map_toArray, List.map_cons, List.map_nil]); first | done | rfl | (simp only [List.length_drop, List.length_take]; rfl)) ?_; (with_reducible refine (law_sane.calls  true _ A4.out).mono ?_); rintro e w7 ⟨rfl, hb⟩; refine ⟨_, rfl, ?_⟩; have n0_ := Aside0.mk (below_step (by repeat (first | (with_reducible first | exact HB.out | apply below_alloc | apply pw_below_drewN | apply below_drew1) | exact HB.out)) hb); clear HB; have HB := n0_; clear n0_; (try clear hb); (try clear hb2); (try clear hk); (try clear hi)))
    (try simp only [Act.put, List.setIfInBounds_toArray, List.set_cons_zero, List.set_cons_succ])
    go_cut [45] (fun v45 wc => ∃ (kq : Nat) (x45_5 : Bool), v45 = .bool x45_5 ∧ Aside0 (law_CurveEarlier.j0 kq l0 l1 a2 x45_5 = some r) ∧ Aside0 (kq ≤ k) ∧ Aside0 (Below w.heap.size w wc))
    case first =>
      have H := HC6.out
      clear HC6
      replace H := Option.bind_eq_some_iff.mp H
      obtain ⟨t766, A80, H⟩ := H
      replace H : (if t766 = true then ((ref_Valid.f k l1).bind fun t767 => (if t767 = true then ((ref_From.f l0).bind fun t768 => ((ref_From.f l1).bind fun t769 => (if t768 = t769 then ((ref_To.f l0).bind fun t770 => ((ref_To.f l1).bind fun t771 => (law_CurveEarlier.j0 k l0 l1 a2 (t770 != t771)))) else (law_CurveEarlier.j0 k l0 l1 a2 true)))) else (law_CurveEarlier.j0 k l0 l1 a2 true))) else (law_CurveEarlier.j0 k l0 l1 a2 true)) = some r := H
      have A8 := Aside0.mk A80
      clear A80
      by_cases c9 : t766 = true
      · subst c9
        have H1 : ((ref_Valid.f k l1).bind fun t767 => (if t767 = true then ((ref_From.f l0).bind fun t768 => ((ref_From.f l1).bind fun t769 => (if t768 = t769 then ((ref_To.f l0).bind fun t770 => ((ref_To.f l1).bind fun t771 => (law_CurveEarlier.j0 k l0 l1 a2 (t770 != t771)))) else (law_CurveEarlier.j0 k l0 l1 a2 true)))) else (law_CurveEarlier.j0 k l0 l1 a2 true))) = some r := by rw [if_pos rfl] at H; exact H
        clear H
        have H := H1
        clear H1
        replace H := Option.bind_eq_some_iff.mp H
        obtain ⟨t767, A100, H⟩ := H
        replace H : (if t767 = true then ((ref_From.f l0).bind fun t768 => ((ref_From.f l1).bind fun t769 => (if t768 = t769 then ((ref_To.f l0).bind fun t770 => ((ref_To.f l1).bind fun t771 => (law_CurveEarlier.j0 k l0 l1 a2 (t770 != t771)))) else (law_CurveEarlier.j0 k l0 l1 a2 true)))) else (law_CurveEarlier.j0 k l0 l1 a2 true)) = some r := H
        have A10 := Aside0.mk A100
        clear A100
        by_cases c11 : t767 = true
        · subst c11
          have H1 : ((ref_From.f l0).bind fun t768 => ((ref_From.f l1).bind fun t769 => (if t768 = t769 then ((ref_To.f l0).bind fun t770 => ((ref_To.f l1).bind fun t771 => (law_CurveEarlier.j0 k l0 l1 a2 (t770 != t771)))) else (law_CurveEarlier.j0 k l0 l1 a2 true)))) = some r := by rw [if_pos rfl] at H; exact H
          clear H
          have H := H1
          clear H1
          replace H := Option.bind_eq_some_iff.mp H
          obtain ⟨t768, A120, H⟩ := H
          replace H : ((ref_From.f l1).bind fun t769 => (if t768 = t769 then ((ref_To.f l0).bind fun t770 => ((ref_To.f l1).bind fun t771 => (law_CurveEarlier.j0 k l0 l1 a2 (t770 != t771)))) else (law_CurveEarlier.j0 k l0 l1 a2 true))) = some r := H
          have A12 := Aside0.mk A120
          clear A120
          replace H := Option.bind_eq_some_iff.mp H
          obtain ⟨t769, A130, H⟩ := H
          replace H : (if t768 = t769 then ((ref_To.f l0).bind fun t770 => ((ref_To.f l1).bind fun t771 => (law_CurveEarlier.j0 k l0 l1 a2 (t770 != t771)))) else (law_CurveEarlier.j0 k l0 l1 a2 true)) = some r := H
          have A13 := Aside0.mk A130
          clear A130
          by_cases c14 : t768 = t769
          · rw [if_pos c14] at H
            have c14b0 : (t768 == t769) = true := beq_iff_eq.mpr c14
            have c14b1 : (t768 != t769) = false := bne_eq_false_iff_eq.mpr c14
            clear c14
            (first | rw [c14b0] | (simp only [i64_w, i32_w]; rw [c14b0]) | skip)
            replace H := Option.bind_eq_some_iff.mp H
            obtain ⟨t770, A150, H⟩ := H
            replace H : ((ref_To.f l1).bind fun t771 => (law_CurveEarlier.j0 k l0 l1 a2 (t770 != t771))) = some r := H
            have A15 := Aside0.mk A150
            clear A150
            replace H := Option.bind_eq_some_iff.mp H
            obtain ⟨t771, A160, H⟩ := H
            replace H : (law_CurveEarlier.j0 k l0 l1 a2 (t770 != t771)) = some r := H
            have A16 := Aside0.mk A160
            clear A160
            have H' := Aside0.mk H
            clear H
            go_wp2_with (first | ((with_reducible refine gate_callee (f := 42) rfl ?_); refine goesL_ (some 25) rfl rfl Tryd.func42 (by kernel_rfl) rfl #[.slice A0 l0.length c0] rfl (by (try simp only [List.map_toArray, List.map_cons, List.map_nil]); first | done | rfl | (simp only [List.length_drop, List.length_take]; rfl)) ?_; (with_reducible refine (ref_Valid.calls k _ _ l0 true _ ?side1 ?side2 A8.out).mono ?_); (case side1 => repeat (first | exact (Kd.C_below HR0.out HB.out) | (with_reducible refine Kd.C_alloc ?_ _) | (with_reducible refine Kd.C_drewN ?_ _) | (with_reducible refine Kd.C_drew ?_))); (case side2 => exact HC0.out); rintro e w' ⟨rfl, ⟨nd, rfl⟩⟩; refine ⟨_, rfl, ?_⟩) | (go_at_call 42; (with_reducible refine (ref_Valid.calls k _ _ l1 true _ ?side1 ?side2 A10.out).mono ?_); (case side1 => repeat (first | exact (Kd.C_below HR1.out (by repeat (first | (with_reducible first | exact HB.out | apply below_alloc | apply pw_below_drewN | apply below_drew1) | exact HB.out))) | (with_reducible refine Kd.C_alloc ?_ _) | (with_reducible refine Kd.C_drewN ?_ _) | (with_reducible refine Kd.C_drew ?_))); (case side2 => exact HC1.out); rintro e w' ⟨rfl, ⟨nd, rfl⟩⟩) | (go_at_call 47; (with_reducible refine (ref_From.calls _ _ l0 t768 _ ?side1 ?side2 A12.out).mono ?_); (case side1 => repeat (first | exact (Kd.C_below HR0.out (by repeat (first | (with_reducible first | exact HB.out | apply below_alloc | apply pw_below_drewN | apply below_drew1) | exact HB.out))) | (with_reducible refine Kd.C_alloc ?_ _) | (with_reducible refine Kd.C_drewN ?_ _) | (with_reducible refine Kd.C_drew ?_))); (case side2 => exact HC0.out); rintro e w' ⟨rfl, ⟨nd, rfl⟩⟩) | (go_at_call 47; (with_reducible refine (ref_From.calls _ _ l1 t769 _ ?side1 ?side2 A13.out).mono ?_); (case side1 => repeat (first | exact (Kd.C_below HR1.out (by repeat (first | (with_reducible first | exact HB.out | apply below_alloc | apply pw_below_drewN | apply below_drew1) | exact HB.out))) | (with_reducible refine Kd.C_alloc ?_ _) | (with_reducible refine Kd.C_drewN ?_ _) | (with_reducible refine Kd.C_drew ?_))); (case side2 => exact HC1.out); rintro e w' ⟨rfl, ⟨nd, rfl⟩⟩) | (go_at_call 48; (with_reducible refine (ref_To.calls _ _ l0 t770 _ ?side1 ?side2 A15.out).mono ?_); (case side1 => repeat (first | exact (Kd.C_below HR0.out (by repeat (first | (with_reducible first | exact HB.out | apply below_alloc | apply pw_below_drewN | apply below_drew1) | exact HB.out))) | (with_reducible refine Kd.C_alloc ?_ _) | (with_reducible refine Kd.C_drewN ?_ _) | (with_reducible refine Kd.C_drew ?_))); (case side2 => exact HC0.out); rintro e w' ⟨rfl, ⟨nd, rfl⟩⟩) | (go_at_call 48; (with_reducible refine (ref_To.calls _ _ l1 t771 _ ?side1 ?side2 A16.out).mono ?_); (case side1 => repeat (first | exact (Kd.C_below HR1.out (by repeat (first | (with_reducible first | exact HB.out | apply below_alloc | apply pw_below_drewN | apply below_drew1) | exact HB.out))) | (with_reducible refine Kd.C_alloc ?_ _) | (with_reducible refine Kd.C_drewN ?_ _) | (with_reducible refine Kd.C_drew ?_))); (case side2 => exact HC1.out); rintro e w' ⟨rfl, ⟨nd, rfl⟩⟩))
            go_meet
            case rel => exact ⟨_, ((t770 != t771)), (by first | rfl | (simp; done) | (simp [*]; done)), H', ⟨by first | omega | exact Nat.le_refl _⟩, ⟨by repeat (first | (with_reducible first | exact HB.out | apply below_alloc | apply pw_below_drewN | apply below_drew1) | exact HB.out)⟩⟩
          · rw [if_neg c14] at H
            have c14b0 : (t768 == t769) = false := beq_eq_false_iff_ne.mpr c14
            have c14b1 : (t768 != t769) = true := bne_iff_ne.mpr c14
            (first | rw [c14b0] | (simp only [i64_w, i32_w]; rw [c14b0]) | skip)
            have H' := Aside0.mk H
            clear H
            go_wp2_with (first | ((with_reducible refine gate_callee (f := 42) rfl ?_); refine goesL_ (some 25) rfl rfl Tryd.func42 (by kernel_rfl) rfl #[.slice A0 l0.length c0] rfl (by (try simp only [List.map_toArray, List.map_cons, List.map_nil]); first | done | rfl | (simp only [List.length_drop, List.length_take]; rfl)) ?_; (with_reducible refine (ref_Valid.calls k _ _ l0 true _ ?side1 ?side2 A8.out).mono ?_); (case side1 => repeat (first | exact (Kd.C_below HR0.out HB.out) | (with_reducible refine Kd.C_alloc ?_ _) | (with_reducible refine Kd.C_drewN ?_ _) | (with_reducible refine Kd.C_drew ?_))); (case side2 => exact HC0.out); rintro e w' ⟨rfl, ⟨nd, rfl⟩⟩; refine ⟨_, rfl, ?_⟩) | (go_at_call 42; (with_reducible refine (ref_Valid.calls k _ _ l1 true _ ?side1 ?side2 A10.out).mono ?_); (case side1 => repeat (first | exact (Kd.C_below HR1.out (by repeat (first | (with_reducible first | exact HB.out | apply below_alloc | apply pw_below_drewN | apply below_drew1) | exact HB.out))) | (with_reducible refine Kd.C_alloc ?_ _) | (with_reducible refine Kd.C_drewN ?_ _) | (with_reducible refine Kd.C_drew ?_))); (case side2 => exact HC1.out); rintro e w' ⟨rfl, ⟨nd, rfl⟩⟩) | (go_at_call 47; (with_reducible refine (ref_From.calls _ _ l0 t768 _ ?side1 ?side2 A12.out).mono ?_); (case side1 => repeat (first | exact (Kd.C_below HR0.out (by repeat (first | (with_reducible first | exact HB.out | apply below_alloc | apply pw_below_drewN | apply below_drew1) | exact HB.out))) | (with_reducible refine Kd.C_alloc ?_ _) | (with_reducible refine Kd.C_drewN ?_ _) | (with_reducible refine Kd.C_drew ?_))); (case side2 => exact HC0.out); rintro e w' ⟨rfl, ⟨nd, rfl⟩⟩) | (go_at_call 47; (with_reducible refine (ref_From.calls _ _ l1 t769 _ ?side1 ?side2 A13.out).mono ?_); (case side1 => repeat (first | exact (Kd.C_below HR1.out (by repeat (first | (with_reducible first | exact HB.out | apply below_alloc | apply pw_below_drewN | apply below_drew1) | exact HB.out))) | (with_reducible refine Kd.C_alloc ?_ _) | (with_reducible refine Kd.C_drewN ?_ _) | (with_reducible refine Kd.C_drew ?_))); (case side2 => exact HC1.out); rintro e w' ⟨rfl, ⟨nd, rfl⟩⟩))
            go_meet
            case rel => exact ⟨_, (true), (by first | rfl | (simp; done) | (simp [*]; done)), H', ⟨by first | omega | exact Nat.le_refl _⟩, ⟨by repeat (first | (with_reducible first | exact HB.out | apply below_alloc | apply pw_below_drewN | apply below_drew1) | exact HB.out)⟩⟩
        · replace c11 := Bool.eq_false_iff.mpr c11
          subst c11
          have H1 : (law_CurveEarlier.j0 k l0 l1 a2 true) = some r := by rw [if_neg (show ¬ (false = true) by decide)] at H; exact H
          clear H
          have H := H1
          clear H1
          have H' := Aside0.mk H
          clear H
          go_wp2_with (first | ((with_reducible refine gate_callee (f := 42) rfl ?_); refine goesL_ (some 25) rfl rfl Tryd.func42 (by kernel_rfl) rfl #[.slice A0 l0.length c0] rfl (by (try simp only [List.map_toArray, List.map_cons, List.map_nil]); first | done | rfl | (simp only [List.length_drop, List.length_take]; rfl)) ?_; (with_reducible refine (ref_Valid.calls k _ _ l0 true _ ?side1 ?side2 A8.out).mono ?_); (case side1 => repeat (first | exact (Kd.C_below HR0.out HB.out) | (with_reducible refine Kd.C_alloc ?_ _) | (with_reducible refine Kd.C_drewN ?_ _) | (with_reducible refine Kd.C_drew ?_))); (case side2 => exact HC0.out); rintro e w' ⟨rfl, ⟨nd, rfl⟩⟩; refine ⟨_, rfl, ?_⟩) | (go_at_call 42; (with_reducible refine (ref_Valid.calls k _ _ l1 false _ ?side1 ?side2 A10.out).mono ?_); (case side1 => repeat (first | exact (Kd.C_below HR1.out (by repeat (first | (with_reducible first | exact HB.out | apply below_alloc | apply pw_below_drewN | apply below_drew1) | exact HB.out))) | (with_reducible refine Kd.C_alloc ?_ _) | (with_reducible refine Kd.C_drewN ?_ _) | (with_reducible refine Kd.C_drew ?_))); (case side2 => exact HC1.out); rintro e w' ⟨rfl, ⟨nd, rfl⟩⟩))
          go_meet
          case rel => exact ⟨_, (true), (by first | rfl | (simp; done) | (simp [*]; done)), H', ⟨by first | omega | exact Nat.le_refl _⟩, ⟨by repeat (first | (with_reducible first | exact HB.out | apply below_alloc | apply pw_below_drewN | apply below_drew1) | exact HB.out)⟩⟩
      · replace c9 := Bool.eq_false_iff.mpr c9
        subst c9
        have H1 : (law_CurveEarlier.j0 k l0 l1 a2 true) = some r := by rw [if_neg (show ¬ (false = true) by decide)] at H; exact H
        clear H
        have H := H1
        clear H1
        have H' := Aside0.mk H
        clear H
        go_wp2_with (first | ((with_reducible refine gate_callee (f := 42) rfl ?_); refine goesL_ (some 25) rfl rfl Tryd.func42 (by kernel_rfl) rfl #[.slice A0 l0.length c0] rfl (by (try simp only [List.map_toArray, List.map_cons, List.map_nil]); first | done | rfl | (simp only [List.length_drop, List.length_take]; rfl)) ?_; (with_reducible refine (ref_Valid.calls k _ _ l0 false _ ?side1 ?side2 A8.out).mono ?_); (case side1 => repeat (first | exact (Kd.C_below HR0.out HB.out) | (with_reducible refine Kd.C_alloc ?_ _) | (with_reducible refine Kd.C_drewN ?_ _) | (with_reducible refine Kd.C_drew ?_))); (case side2 => exact HC0.out); rintro e w' ⟨rfl, ⟨nd, rfl⟩⟩; refine ⟨_, rfl, ?_⟩))
        go_meet
        case rel => exact ⟨_, (true), (by first | rfl | (simp; done) | (simp [*]; done)), H', ⟨by first | omega | exact Nat.le_refl _⟩, ⟨by repeat (first | (with_reducible first | exact HB.out | apply below_alloc | apply pw_below_drewN | apply below_drew1) | exact HB.out)⟩⟩
    case rest =>
      clear HC6
      try clear c1
      try clear p2
      try clear c4
      try clear c5
      try clear c9
      try clear c11
      try clear c14
      try clear c14b0
      try clear c14b1
      try clear c15
      obtain ⟨kq, x45_5, rfl, HA, HJ5, HB⟩ := hcut
      cases kq with
      | zero => exact absurd HA.out (by simp [law_CurveEarlier.j0])
      | succ kj5 =>
        have H := HA.out
        clear HA
        simp only [law_CurveEarlier.j0] at H
        by_cases c17 : x45_5 = true
        · subst c17
          have H1 : (some true) = some r := by rw [if_pos rfl] at H; exact H
          clear H
          have H := H1
          clear H1
          obtain rfl := Option.some.inj H
          go_wp2
          go_ret
          exact ⟨by first | rfl | (simp [errW_none, errW_some] <;> rfl) | (simp [*, errW_none, errW_some] <;> rfl), by repeat (first | (with_reducible first | exact HB.out | apply below_alloc | apply pw_below_drewN | apply below_drew1) | exact HB.out)⟩
        · replace c17 := Bool.eq_false_iff.mpr c17
          subst c17
          have H1 : ((curve_Below.f l0 l1).bind fun bt772 => ((curve_First.f l0 a2).bind fun bt774 => ((curve_First.f l1 a2).bind fun bt777 => ((curve_Last.f l0 a2).bind fun bt780 => ((curve_Last.f l1 a2).bind fun bt783 => (if bt772.2 = 0 then (if bt774.2.2 = 0 then (if bt777.2.2 = 0 then (if bt780.2.2 = 0 then (law_CurveEarlier.j1 kj5 bt772.1 bt774.1 bt774.2.1 bt777.1 bt777.2.1 bt780.1 bt780.2.1 bt783.1 bt783.2.1 (bt783.2.2 != 0)) else (law_CurveEarlier.j1 kj5 bt772.1 bt774.1 bt774.2.1 bt777.1 bt777.2.1 bt780.1 bt780.2.1 bt783.1 bt783.2.1 true)) else (law_CurveEarlier.j1 kj5 bt772.1 bt774.1 bt774.2.1 bt777.1 bt777.2.1 bt780.1 bt780.2.1 bt783.1 bt783.2.1 true)) else (law_CurveEarlier.j1 kj5 bt772.1 bt774.1 bt774.2.1 bt777.1 bt777.2.1 bt780.1 bt780.2.1 bt783.1 bt783.2.1 true)) else (law_CurveEarlier.j1 kj5 bt772.1 bt774.1 bt774.2.1 bt777.1 bt777.2.1 bt780.1 bt780.2.1 bt783.1 bt783.2.1 true))))))) = some r := by rw [if_neg (show ¬ (false = true) by decide)] at H; exact H
          clear H
          have H := H1
          clear H1
          replace H := Option.bind_eq_some_iff.mp H
          obtain ⟨⟨t772, t773⟩, A180, H⟩ := H
          replace H : ((curve_First.f l0 a2).bind fun bt774 => ((curve_First.f l1 a2).bind fun bt777 => ((curve_Last.f l0 a2).bind fun bt780 => ((curve_Last.f l1 a2).bind fun bt783 => (if t773 = 0 then (if bt774.2.2 = 0 then (if bt777.2.2 = 0 then (if bt780.2.2 = 0 then (law_CurveEarlier.j1 kj5 t772 bt774.1 bt774.2.1 bt777.1 bt777.2.1 bt780.1 bt780.2.1 bt783.1 bt783.2.1 (bt783.2.2 != 0)) else (law_CurveEarlier.j1 kj5 t772 bt774.1 bt774.2.1 bt777.1 bt777.2.1 bt780.1 bt780.2.1 bt783.1 bt783.2.1 true)) else (law_CurveEarlier.j1 kj5 t772 bt774.1 bt774.2.1 bt777.1 bt777.2.1 bt780.1 bt780.2.1 bt783.1 bt783.2.1 true)) else (law_CurveEarlier.j1 kj5 t772 bt774.1 bt774.2.1 bt777.1 bt777.2.1 bt780.1 bt780.2.1 bt783.1 bt783.2.1 true)) else (law_CurveEarlier.j1 kj5 t772 bt774.1 bt774.2.1 bt777.1 bt777.2.1 bt780.1 bt780.2.1 bt783.1 bt783.2.1 true)))))) = some r := H
          have A18 := Aside0.mk A180
          clear A180
          replace H := Option.bind_eq_some_iff.mp H
          obtain ⟨⟨t774, t775, t776⟩, A190, H⟩ := H
          replace H : ((curve_First.f l1 a2).bind fun bt777 => ((curve_Last.f l0 a2).bind fun bt780 => ((curve_Last.f l1 a2).bind fun bt783 => (if t773 = 0 then (if t776 = 0 then (if bt777.2.2 = 0 then (if bt780.2.2 = 0 then (law_CurveEarlier.j1 kj5 t772 t774 t775 bt777.1 bt777.2.1 bt780.1 bt780.2.1 bt783.1 bt783.2.1 (bt783.2.2 != 0)) else (law_CurveEarlier.j1 kj5 t772 t774 t775 bt777.1 bt777.2.1 bt780.1 bt780.2.1 bt783.1 bt783.2.1 true)) else (law_CurveEarlier.j1 kj5 t772 t774 t775 bt777.1 bt777.2.1 bt780.1 bt780.2.1 bt783.1 bt783.2.1 true)) else (law_CurveEarlier.j1 kj5 t772 t774 t775 bt777.1 bt777.2.1 bt780.1 bt780.2.1 bt783.1 bt783.2.1 true)) else (law_CurveEarlier.j1 kj5 t772 t774 t775 bt777.1 bt777.2.1 bt780.1 bt780.2.1 bt783.1 bt783.2.1 true))))) = some r := H
          have A19 := Aside0.mk A190
          clear A190
          replace H := Option.bind_eq_some_iff.mp H
          obtain ⟨⟨t777, t778, t779⟩, A200, H⟩ := H
          replace H : ((curve_Last.f l0 a2).bind fun bt780 => ((curve_Last.f l1 a2).bind fun bt783 => (if t773 = 0 then (if t776 = 0 then (if t779 = 0 then (if bt780.2.2 = 0 then (law_CurveEarlier.j1 kj5 t772 t774 t775 t777 t778 bt780.1 bt780.2.1 bt783.1 bt783.2.1 (bt783.2.2 != 0)) else (law_CurveEarlier.j1 kj5 t772 t774 t775 t777 t778 bt780.1 bt780.2.1 bt783.1 bt783.2.1 true)) else (law_CurveEarlier.j1 kj5 t772 t774 t775 t777 t778 bt780.1 bt780.2.1 bt783.1 bt783.2.1 true)) else (law_CurveEarlier.j1 kj5 t772 t774 t775 t777 t778 bt780.1 bt780.2.1 bt783.1 bt783.2.1 true)) else (law_CurveEarlier.j1 kj5 t772 t774 t775 t777 t778 bt780.1 bt780.2.1 bt783.1 bt783.2.1 true)))) = some r := H
          have A20 := Aside0.mk A200
          clear A200
          replace H := Option.bind_eq_some_iff.mp H
          obtain ⟨⟨t780, t781, t782⟩, A210, H⟩ := H
          replace H : ((curve_Last.f l1 a2).bind fun bt783 => (if t773 = 0 then (if t776 = 0 then (if t779 = 0 then (if t782 = 0 then (law_CurveEarlier.j1 kj5 t772 t774 t775 t777 t778 t780 t781 bt783.1 bt783.2.1 (bt783.2.2 != 0)) else (law_CurveEarlier.j1 kj5 t772 t774 t775 t777 t778 t780 t781 bt783.1 bt783.2.1 true)) else (law_CurveEarlier.j1 kj5 t772 t774 t775 t777 t778 t780 t781 bt783.1 bt783.2.1 true)) else (law_CurveEarlier.j1 kj5 t772 t774 t775 t777 t778 t780 t781 bt783.1 bt783.2.1 true)) else (law_CurveEarlier.j1 kj5 t772 t774 t775 t777 t778 t780 t781 bt783.1 bt783.2.1 true))) = some r := H
          have A21 := Aside0.mk A210
          clear A210
          replace H := Option.bind_eq_some_iff.mp H
          obtain ⟨⟨t783, t784, t785⟩, A220, H⟩ := H
          replace H : (if t773 = 0 then (if t776 = 0 then (if t779 = 0 then (if t782 = 0 then (law_CurveEarlier.j1 kj5 t772 t774 t775 t777 t778 t780 t781 t783 t784 (t785 != 0)) else (law_CurveEarlier.j1 kj5 t772 t774 t775 t777 t778 t780 t781 t783 t784 true)) else (law_CurveEarlier.j1 kj5 t772 t774 t775 t777 t778 t780 t781 t783 t784 true)) else (law_CurveEarlier.j1 kj5 t772 t774 t775 t777 t778 t780 t781 t783 t784 true)) else (law_CurveEarlier.j1 kj5 t772 t774 t775 t777 t778 t780 t781 t783 t784 true)) = some r := H
          have A22 := Aside0.mk A220
          clear A220
          have HC23 := Aside0.mk H
          clear H
          go_upto_region 10 with (first | ((with_reducible refine gate_callee (f := 38) rfl ?_); refine goesL_ (some 49) rfl rfl Tryd.func38 (by kernel_rfl) rfl #[.slice A0 l0.length c0, .slice A1 l1.length c1] rfl (by (try simp only [List.map_toArray, List.map_cons, List.map_nil]); first | done | rfl | (simp only [List.length_drop, List.length_take]; rfl)) ?_; (with_reducible refine (curve_Below.calls _ _ l0 _ _ l1 t772 t773 _ ?side1 ?side2 ?side3 ?side4 A18.out).mono ?_); (case side1 => repeat (first | exact (Kd.C_below HR0.out HB.out) | (with_reducible refine Kd.C_alloc ?_ _) | (with_reducible refine Kd.C_drewN ?_ _) | (with_reducible refine Kd.C_drew ?_))); (case side2 => exact HC0.out); (case side3 => repeat (first | exact (Kd.C_below HR1.out HB.out) | (with_reducible refine Kd.C_alloc ?_ _) | (with_reducible refine Kd.C_drewN ?_ _) | (with_reducible refine Kd.C_drew ?_))); (case side4 => exact HC1.out); rintro e w24 ⟨rfl, hb⟩; refine ⟨_, rfl, ?_⟩; have n0_ := Aside0.mk (below_step (by repeat (first | (with_reducible first | exact HB.out | apply below_alloc | apply pw_below_drewN | apply below_drew1) | exact HB.out)) hb); clear HB; have HB := n0_; clear n0_; (try clear hb); (try clear hb2); (try clear hk); (try clear hi)) | ((with_reducible refine gate_callee (f := 32) rfl ?_); refine goesL_ (some 55) rfl rfl Tryd.func32 (by kernel_rfl) rfl #[.slice A0 l0.length c0, .int .i64 a2] rfl (by (try simp only [List.map_toArray, List.map_cons, List.map_nil]); first | done | rfl | (simp only [List.length_drop, List.length_take]; rfl)) ?_; (with_reducible refine (curve_First.calls _ _ l0 a2 t774 t775 t776 _ ?side1 ?side2 A19.out).mono ?_); (case side1 => repeat (first | exact (Kd.C_below HR0.out HB.out) | (with_reducible refine Kd.C_alloc ?_ _) | (with_reducible refine Kd.C_drewN ?_ _) | (with_reducible refine Kd.C_drew ?_))); (case side2 => exact HC0.out); rintro e w25 ⟨rfl, hb⟩; refine ⟨_, rfl, ?_⟩; have n0_ := Aside0.mk (below_step (by repeat (first | (with_reducible first | exact HB.out | apply below_alloc | apply pw_below_drewN | apply below_drew1) | exact HB.out)) hb); clear HB; have HB := n0_; clear n0_; (try clear hb); (try clear hb2); (try clear hk); (try clear hi)) | ((with_reducible refine gate_callee (f := 32) rfl ?_); refine goesL_ (some 62) rfl rfl Tryd.func32 (by kernel_rfl) rfl #[.slice A1 l1.length c1, .int .i64 a2] rfl (by (try simp only [List.map_toArray, List.map_cons, List.map_nil]); first | done | rfl | (simp only [List.length_drop, List.length_take]; rfl)) ?_; (with_reducible refine (curve_First.calls _ _ l1 a2 t777 t778 t779 _ ?side1 ?side2 A20.out).mono ?_); (case side1 => repeat (first | exact (Kd.C_below HR1.out HB.out) | (with_reducible refine Kd.C_alloc ?_ _) | (with_reducible refine Kd.C_drewN ?_ _) | (with_reducible refine Kd.C_drew ?_))); (case side2 => exact HC1.out); rintro e w26 ⟨rfl, hb⟩; refine ⟨_, rfl, ?_⟩; have n0_ := Aside0.mk (below_step (by repeat (first | (with_reducible first | exact HB.out | apply below_alloc | apply pw_below_drewN | apply below_drew1) | exact HB.out)) hb); clear HB; have HB := n0_; clear n0_; (try clear hb); (try clear hb2); (try clear hk); (try clear hi)) | ((with_reducible refine gate_callee (f := 34) rfl ?_); refine goesL_ (some 69) rfl rfl Tryd.func34 (by kernel_rfl) rfl #[.slice A0 l0.length c0, .int .i64 a2] rfl (by (try simp only [List.map_toArray, List.map_cons, List.map_nil]); first | done | rfl | (simp only [List.length_drop, List.length_take]; rfl)) ?_; (with_reducible refine (curve_Last.calls _ _ l0 a2 t780 t781 t782 _ ?side1 ?side2 A21.out).mono ?_); (case side1 => repeat (first | exact (Kd.C_below HR0.out HB.out) | (with_reducible refine Kd.C_alloc ?_ _) | (with_reducible refine Kd.C_drewN ?_ _) | (with_reducible refine Kd.C_drew ?_))); (case side2 => exact HC0.out); rintro e w27 ⟨rfl, hb⟩; refine ⟨_, rfl, ?_⟩; have n0_ := Aside0.mk (below_step (by repeat (first | (with_reducible first | exact HB.out | apply below_alloc | apply pw_below_drewN | apply below_drew1) | exact HB.out)) hb); clear HB; have HB := n0_; clear n0_; (try clear hb); (try clear hb2); (try clear hk); (try clear hi)) | ((with_reducible refine gate_callee (f := 34) rfl ?_); refine goesL_ (some 76) rfl rfl Tryd.func34 (by kernel_rfl) rfl #[.slice A1 l1.length c1, .int .i64 a2] rfl (by (try simp only [List.map_toArray, List.map_cons, List.map_nil]); first | done | rfl | (simp only [List.length_drop, List.length_take]; rfl)) ?_; (with_reducible refine (curve_Last.calls _ _ l1 a2 t783 t784 t785 _ ?side1 ?side2 A22.out).mono ?_); (case side1 => repeat (first | exact (Kd.C_below HR1.out HB.out) | (with_reducible refine Kd.C_alloc ?_ _) | (with_reducible refine Kd.C_drewN ?_ _) | (with_reducible refine Kd.C_drew ?_))); (case side2 => exact HC1.out); rintro e w28 ⟨rfl, hb⟩; refine ⟨_, rfl, ?_⟩; have n0_ := Aside0.mk (below_step (by repeat (first | (with_reducible first | exact HB.out | apply below_alloc | apply pw_below_drewN | apply below_drew1) | exact HB.out)) hb); clear HB; have HB := n0_; clear n0_; (try clear hb); (try clear hb2); (try clear hk); (try clear hi)))
          (try simp only [Act.put, List.setIfInBounds_toArray, List.set_cons_zero, List.set_cons_succ])
          go_cut [97] (fun v97 wc => ∃ (kq : Nat) (x97_22 : Bool), v97 = .bool x97_22 ∧ Aside0 (law_CurveEarlier.j1 kq t772 t774 t775 t777 t778 t780 t781 t783 t784 x97_22 = some r) ∧ Aside0 (kq ≤ kj5) ∧ Aside0 (Below w.heap.size w wc))
          case first =>
            have H := HC23.out
            clear HC23
            by_cases c29 : t773 = 0
            · rw [if_pos c29] at H
              have c29b0 : (t773 == 0) = true := beq_iff_eq.mpr c29
              have c29b1 : (t773 != 0) = false := bne_eq_false_iff_eq.mpr c29
              clear c29
              (first | rw [c29b0] | (simp only [i64_w, i32_w]; rw [c29b0]) | skip)
              by_cases c30 : t776 = 0
              · rw [if_pos c30] at H
                have c30b0 : (t776 == 0) = true := beq_iff_eq.mpr c30
                have c30b1 : (t776 != 0) = false := bne_eq_false_iff_eq.mpr c30
                clear c30
                by_cases c31 : t779 = 0
                · rw [if_pos c31] at H
                  have c31b0 : (t779 == 0) = true := beq_iff_eq.mpr c31
                  have c31b1 : (t779 != 0) = false := bne_eq_false_iff_eq.mpr c31
                  clear c31
                  by_cases c32 : t782 = 0
                  · rw [if_pos c32] at H
                    have c32b0 : (t782 == 0) = true := beq_iff_eq.mpr c32
                    have c32b1 : (t782 != 0) = false := bne_eq_false_iff_eq.mpr c32
                    clear c32
                    have H' := Aside0.mk H
                    clear H
                    go_wp2
                    go_meet
                    case rel => exact ⟨_, ((t785 != 0)), (by first | rfl | (simp; done) | (simp [*]; done)), H', ⟨by have := HJ5.out; first | omega | exact Nat.le_refl _⟩, ⟨by repeat (first | (with_reducible first | exact HB.out | apply below_alloc | apply pw_below_drewN | apply below_drew1) | exact HB.out)⟩⟩
                  · rw [if_neg c32] at H
                    have c32b0 : (t782 == 0) = false := beq_eq_false_iff_ne.mpr c32
                    have c32b1 : (t782 != 0) = true := bne_iff_ne.mpr c32
                    have H' := Aside0.mk H
                    clear H
                    go_wp2
                    go_meet
                    case rel => exact ⟨_, (true), (by first | rfl | (simp; done) | (simp [*]; done)), H', ⟨by have := HJ5.out; first | omega | exact Nat.le_refl _⟩, ⟨by repeat (first | (with_reducible first | exact HB.out | apply below_alloc | apply pw_below_drewN | apply below_drew1) | exact HB.out)⟩⟩
                · rw [if_neg c31] at H
                  have c31b0 : (t779 == 0) = false := beq_eq_false_iff_ne.mpr c31
                  have c31b1 : (t779 != 0) = true := bne_iff_ne.mpr c31
                  have H' := Aside0.mk H
                  clear H
                  go_wp2
                  go_meet
                  case rel => exact ⟨_, (true), (by first | rfl | (simp; done) | (simp [*]; done)), H', ⟨by have := HJ5.out; first | omega | exact Nat.le_refl _⟩, ⟨by repeat (first | (with_reducible first | exact HB.out | apply below_alloc | apply pw_below_drewN | apply below_drew1) | exact HB.out)⟩⟩
              · rw [if_neg c30] at H
                have c30b0 : (t776 == 0) = false := beq_eq_false_iff_ne.mpr c30
                have c30b1 : (t776 != 0) = true := bne_iff_ne.mpr c30
                have H' := Aside0.mk H
                clear H
                go_wp2
                go_meet
                case rel => exact ⟨_, (true), (by first | rfl | (simp; done) | (simp [*]; done)), H', ⟨by have := HJ5.out; first | omega | exact Nat.le_refl _⟩, ⟨by repeat (first | (with_reducible first | exact HB.out | apply below_alloc | apply pw_below_drewN | apply below_drew1) | exact HB.out)⟩⟩
            · rw [if_neg c29] at H
              have c29b0 : (t773 == 0) = false := beq_eq_false_iff_ne.mpr c29
              have c29b1 : (t773 != 0) = true := bne_iff_ne.mpr c29
              (first | rw [c29b0] | (simp only [i64_w, i32_w]; rw [c29b0]) | skip)
              have H' := Aside0.mk H
              clear H
              go_wp2
              go_meet
              case rel => exact ⟨_, (true), (by first | rfl | (simp; done) | (simp [*]; done)), H', ⟨by have := HJ5.out; first | omega | exact Nat.le_refl _⟩, ⟨by repeat (first | (with_reducible first | exact HB.out | apply below_alloc | apply pw_below_drewN | apply below_drew1) | exact HB.out)⟩⟩
          case rest =>
            clear HC23
            try clear c1
            try clear c2
            try clear p2
            try clear c3
            try clear c4
            try clear c5
            try clear c9
            try clear c11
            try clear c14
            try clear c14b0
            try clear c14b1
            try clear c15
            try clear c17
            try clear c18
            try clear c29
            try clear c29b0
            try clear c29b1
            try clear c30
            try clear c30b0
            try clear c30b1
            try clear c31
            try clear c31b0
            try clear c31b1
            try clear c32
            try clear c32b0
            try clear c32b1
            try clear p2
            obtain ⟨kq, x97_22, rfl, HA, HJ22, HB⟩ := hcut
            cases kq with
            | zero => exact absurd HA.out (by simp [law_CurveEarlier.j1])
            | succ kj22 =>
              have H := HA.out
              clear HA
              simp only [law_CurveEarlier.j1] at H
              by_cases c33 : x97_22 = true
              · subst c33
                have H1 : (some false) = some r := by rw [if_pos rfl] at H; exact H
                clear H
                have H := H1
                clear H1
                obtain rfl := Option.some.inj H
                go_wp2
                go_ret
                exact ⟨by first | rfl | (simp [errW_none, errW_some] <;> rfl) | (simp [*, errW_none, errW_some] <;> rfl), by repeat (first | (with_reducible first | exact HB.out | apply below_alloc | apply pw_below_drewN | apply below_drew1) | exact HB.out)⟩
              · replace c33 := Bool.eq_false_iff.mpr c33
                subst c33
                have H1 : (if t775 = true then (if t778 = true then (if t777 > t774 then (if t772 = true then (some (!true)) else (some true)) else (if t784 = true then (if t781 = true then (if t772 = true then (some (!(decide (t783 > t780)))) else (some true)) else (if t772 = true then (some (!true)) else (some true))) else (if t772 = true then (some (!false)) else (some true)))) else (if t772 = true then (some (!true)) else (some true))) else (if t784 = true then (if t781 = true then (if t772 = true then (some (!(decide (t783 > t780)))) else (some true)) else (if t772 = true then (some (!true)) else (some true))) else (if t772 = true then (some (!false)) else (some true)))) = some r := by rw [if_neg (show ¬ (false = true) by decide)] at H; exact H
                clear H
                have H := H1
                clear H1
                by_cases c34 : t775 = true
                · subst c34
                  have H1 : (if t778 = true then (if t777 > t774 then (if t772 = true then (some (!true)) else (some true)) else (if t784 = true then (if t781 = true then (if t772 = true then (some (!(decide (t783 > t780)))) else (some true)) else (if t772 = true then (some (!true)) else (some true))) else (if t772 = true then (some (!false)) else (some true)))) else (if t772 = true then (some (!true)) else (some true))) = some r := by rw [if_pos rfl] at H; exact H
                  clear H
                  have H := H1
                  clear H1
                  by_cases c35 : t778 = true
                  · subst c35
                    have H1 : (if t777 > t774 then (if t772 = true then (some (!true)) else (some true)) else (if t784 = true then (if t781 = true then (if t772 = true then (some (!(decide (t783 > t780)))) else (some true)) else (if t772 = true then (some (!true)) else (some true))) else (if t772 = true then (some (!false)) else (some true)))) = some r := by rw [if_pos rfl] at H; exact H
                    clear H
                    have H := H1
                    clear H1
                    by_cases c36 : t777 > t774
                    · rw [if_pos c36] at H
                      have c36b0 : decide (t774 < t777) = true := decide_eq_true c36
                      clear c36
                      by_cases c37 : t772 = true
                      · subst c37
                        have H1 : (some (!true)) = some r := by rw [if_pos rfl] at H; exact H
                        clear H
                        have H := H1
                        clear H1
                        obtain rfl := Option.some.inj H
                        go_wp2
                        go_ret
                        exact ⟨by first | rfl | (simp [errW_none, errW_some] <;> rfl) | (simp [*, errW_none, errW_some] <;> rfl), by repeat (first | (with_reducible first | exact HB.out | apply below_alloc | apply pw_below_drewN | apply below_drew1) | exact HB.out)⟩
                      · replace c37 := Bool.eq_false_iff.mpr c37
                        subst c37
                        have H1 : (some true) = some r := by rw [if_neg (show ¬ (false = true) by decide)] at H; exact H
                        clear H
                        have H := H1
                        clear H1
                        obtain rfl := Option.some.inj H
                        go_wp2
                        go_ret
                        exact ⟨by first | rfl | (simp [errW_none, errW_some] <;> rfl) | (simp [*, errW_none, errW_some] <;> rfl), by repeat (first | (with_reducible first | exact HB.out | apply below_alloc | apply pw_below_drewN | apply below_drew1) | exact HB.out)⟩
                    · rw [if_neg c36] at H
                      have c36b0 : decide (t774 < t777) = false := decide_eq_false c36
                      clear c36
                      by_cases c38 : t784 = true
                      · subst c38
                        have H1 : (if t781 = true then (if t772 = true then (some (!(decide (t783 > t780)))) else (some true)) else (if t772 = true then (some (!true)) else (some true))) = some r := by rw [if_pos rfl] at H; exact H
                        clear H
                        have H := H1
                        clear H1
                        by_cases c39 : t781 = true
                        · subst c39
                          have H1 : (if t772 = true then (some (!(decide (t783 > t780)))) else (some true)) = some r := by rw [if_pos rfl] at H; exact H
                          clear H
                          have H := H1
                          clear H1
                          by_cases c40 : t772 = true
                          · subst c40
                            have H1 : (some (!(decide (t783 > t780)))) = some r := by rw [if_pos rfl] at H; exact H
                            clear H
                            have H := H1
                            clear H1
                            obtain rfl := Option.some.inj H
                            go_wp2
                            go_ret
                            exact ⟨by first | rfl | (simp [errW_none, errW_some] <;> rfl) | (simp [*, errW_none, errW_some] <;> rfl), by repeat (first | (with_reducible first | exact HB.out | apply below_alloc | apply pw_below_drewN | apply below_drew1) | exact HB.out)⟩
                          · replace c40 := Bool.eq_false_iff.mpr c40
                            subst c40
                            have H1 : (some true) = some r := by rw [if_neg (show ¬ (false = true) by decide)] at H; exact H
                            clear H
                            have H := H1
                            clear H1
                            obtain rfl := Option.some.inj H
                            go_wp2
                            go_ret
                            exact ⟨by first | rfl | (simp [errW_none, errW_some] <;> rfl) | (simp [*, errW_none, errW_some] <;> rfl), by repeat (first | (with_reducible first | exact HB.out | apply below_alloc | apply pw_below_drewN | apply below_drew1) | exact HB.out)⟩
                        · replace c39 := Bool.eq_false_iff.mpr c39
                          subst c39
                          have H1 : (if t772 = true then (some (!true)) else (some true)) = some r := by rw [if_neg (show ¬ (false = true) by decide)] at H; exact H
                          clear H
                          have H := H1
                          clear H1
                          by_cases c41 : t772 = true
                          · subst c41
                            have H1 : (some (!true)) = some r := by rw [if_pos rfl] at H; exact H
                            clear H
                            have H := H1
                            clear H1
                            obtain rfl := Option.some.inj H
                            go_wp2
                            go_ret
                            exact ⟨by first | rfl | (simp [errW_none, errW_some] <;> rfl) | (simp [*, errW_none, errW_some] <;> rfl), by repeat (first | (with_reducible first | exact HB.out | apply below_alloc | apply pw_below_drewN | apply below_drew1) | exact HB.out)⟩
                          · replace c41 := Bool.eq_false_iff.mpr c41
                            subst c41
                            have H1 : (some true) = some r := by rw [if_neg (show ¬ (false = true) by decide)] at H; exact H
                            clear H
                            have H := H1
                            clear H1
                            obtain rfl := Option.some.inj H
                            go_wp2
                            go_ret
                            exact ⟨by first | rfl | (simp [errW_none, errW_some] <;> rfl) | (simp [*, errW_none, errW_some] <;> rfl), by repeat (first | (with_reducible first | exact HB.out | apply below_alloc | apply pw_below_drewN | apply below_drew1) | exact HB.out)⟩
                      · replace c38 := Bool.eq_false_iff.mpr c38
                        subst c38
                        have H1 : (if t772 = true then (some (!false)) else (some true)) = some r := by rw [if_neg (show ¬ (false = true) by decide)] at H; exact H
                        clear H
                        have H := H1
                        clear H1
                        by_cases c42 : t772 = true
                        · subst c42
                          have H1 : (some (!false)) = some r := by rw [if_pos rfl] at H; exact H
                          clear H
                          have H := H1
                          clear H1
                          obtain rfl := Option.some.inj H
                          go_wp2
                          go_ret
                          exact ⟨by first | rfl | (simp [errW_none, errW_some] <;> rfl) | (simp [*, errW_none, errW_some] <;> rfl), by repeat (first | (with_reducible first | exact HB.out | apply below_alloc | apply pw_below_drewN | apply below_drew1) | exact HB.out)⟩
                        · replace c42 := Bool.eq_false_iff.mpr c42
                          subst c42
                          have H1 : (some true) = some r := by rw [if_neg (show ¬ (false = true) by decide)] at H; exact H
                          clear H
                          have H := H1
                          clear H1
                          obtain rfl := Option.some.inj H
                          go_wp2
                          go_ret
                          exact ⟨by first | rfl | (simp [errW_none, errW_some] <;> rfl) | (simp [*, errW_none, errW_some] <;> rfl), by repeat (first | (with_reducible first | exact HB.out | apply below_alloc | apply pw_below_drewN | apply below_drew1) | exact HB.out)⟩
                  · replace c35 := Bool.eq_false_iff.mpr c35
                    subst c35
                    have H1 : (if t772 = true then (some (!true)) else (some true)) = some r := by rw [if_neg (show ¬ (false = true) by decide)] at H; exact H
                    clear H
                    have H := H1
                    clear H1
                    by_cases c43 : t772 = true
                    · subst c43
                      have H1 : (some (!true)) = some r := by rw [if_pos rfl] at H; exact H
                      clear H
                      have H := H1
                      clear H1
                      obtain rfl := Option.some.inj H
                      go_wp2
                      go_ret
                      exact ⟨by first | rfl | (simp [errW_none, errW_some] <;> rfl) | (simp [*, errW_none, errW_some] <;> rfl), by repeat (first | (with_reducible first | exact HB.out | apply below_alloc | apply pw_below_drewN | apply below_drew1) | exact HB.out)⟩
                    · replace c43 := Bool.eq_false_iff.mpr c43
                      subst c43
                      have H1 : (some true) = some r := by rw [if_neg (show ¬ (false = true) by decide)] at H; exact H
                      clear H
                      have H := H1
                      clear H1
                      obtain rfl := Option.some.inj H
                      go_wp2
                      go_ret
                      exact ⟨by first | rfl | (simp [errW_none, errW_some] <;> rfl) | (simp [*, errW_none, errW_some] <;> rfl), by repeat (first | (with_reducible first | exact HB.out | apply below_alloc | apply pw_below_drewN | apply below_drew1) | exact HB.out)⟩
                · replace c34 := Bool.eq_false_iff.mpr c34
                  subst c34
                  have H1 : (if t784 = true then (if t781 = true then (if t772 = true then (some (!(decide (t783 > t780)))) else (some true)) else (if t772 = true then (some (!true)) else (some true))) else (if t772 = true then (some (!false)) else (some true))) = some r := by rw [if_neg (show ¬ (false = true) by decide)] at H; exact H
                  clear H
                  have H := H1
                  clear H1
                  by_cases c44 : t784 = true
                  · subst c44
                    have H1 : (if t781 = true then (if t772 = true then (some (!(decide (t783 > t780)))) else (some true)) else (if t772 = true then (some (!true)) else (some true))) = some r := by rw [if_pos rfl] at H; exact H
                    clear H
                    have H := H1
                    clear H1
                    by_cases c45 : t781 = true
                    · subst c45
                      have H1 : (if t772 = true then (some (!(decide (t783 > t780)))) else (some true)) = some r := by rw [if_pos rfl] at H; exact H
                      clear H
                      have H := H1
                      clear H1
                      by_cases c46 : t772 = true
                      · subst c46
                        have H1 : (some (!(decide (t783 > t780)))) = some r := by rw [if_pos rfl] at H; exact H
                        clear H
                        have H := H1
                        clear H1
                        obtain rfl := Option.some.inj H
                        go_wp2
                        go_ret
                        exact ⟨by first | rfl | (simp [errW_none, errW_some] <;> rfl) | (simp [*, errW_none, errW_some] <;> rfl), by repeat (first | (with_reducible first | exact HB.out | apply below_alloc | apply pw_below_drewN | apply below_drew1) | exact HB.out)⟩
                      · replace c46 := Bool.eq_false_iff.mpr c46
                        subst c46
                        have H1 : (some true) = some r := by rw [if_neg (show ¬ (false = true) by decide)] at H; exact H
                        clear H
                        have H := H1
                        clear H1
                        obtain rfl := Option.some.inj H
                        go_wp2
                        go_ret
                        exact ⟨by first | rfl | (simp [errW_none, errW_some] <;> rfl) | (simp [*, errW_none, errW_some] <;> rfl), by repeat (first | (with_reducible first | exact HB.out | apply below_alloc | apply pw_below_drewN | apply below_drew1) | exact HB.out)⟩
                    · replace c45 := Bool.eq_false_iff.mpr c45
                      subst c45
                      have H1 : (if t772 = true then (some (!true)) else (some true)) = some r := by rw [if_neg (show ¬ (false = true) by decide)] at H; exact H
                      clear H
                      have H := H1
                      clear H1
                      by_cases c47 : t772 = true
                      · subst c47
                        have H1 : (some (!true)) = some r := by rw [if_pos rfl] at H; exact H
                        clear H
                        have H := H1
                        clear H1
                        obtain rfl := Option.some.inj H
                        go_wp2
                        go_ret
                        exact ⟨by first | rfl | (simp [errW_none, errW_some] <;> rfl) | (simp [*, errW_none, errW_some] <;> rfl), by repeat (first | (with_reducible first | exact HB.out | apply below_alloc | apply pw_below_drewN | apply below_drew1) | exact HB.out)⟩
                      · replace c47 := Bool.eq_false_iff.mpr c47
                        subst c47
                        have H1 : (some true) = some r := by rw [if_neg (show ¬ (false = true) by decide)] at H; exact H
                        clear H
                        have H := H1
                        clear H1
                        obtain rfl := Option.some.inj H
                        go_wp2
                        go_ret
                        exact ⟨by first | rfl | (simp [errW_none, errW_some] <;> rfl) | (simp [*, errW_none, errW_some] <;> rfl), by repeat (first | (with_reducible first | exact HB.out | apply below_alloc | apply pw_below_drewN | apply below_drew1) | exact HB.out)⟩
                  · replace c44 := Bool.eq_false_iff.mpr c44
                    subst c44
                    have H1 : (if t772 = true then (some (!false)) else (some true)) = some r := by rw [if_neg (show ¬ (false = true) by decide)] at H; exact H
                    clear H
                    have H := H1
                    clear H1
                    by_cases c48 : t772 = true
                    · subst c48
                      have H1 : (some (!false)) = some r := by rw [if_pos rfl] at H; exact H
                      clear H
                      have H := H1
                      clear H1
                      obtain rfl := Option.some.inj H
                      go_wp2
                      go_ret
                      exact ⟨by first | rfl | (simp [errW_none, errW_some] <;> rfl) | (simp [*, errW_none, errW_some] <;> rfl), by repeat (first | (with_reducible first | exact HB.out | apply below_alloc | apply pw_below_drewN | apply below_drew1) | exact HB.out)⟩
                    · replace c48 := Bool.eq_false_iff.mpr c48
                      subst c48
                      have H1 : (some true) = some r := by rw [if_neg (show ¬ (false = true) by decide)] at H; exact H
                      clear H
                      have H := H1
                      clear H1
                      obtain rfl := Option.some.inj H
                      go_wp2
                      go_ret
                      exact ⟨by first | rfl | (simp [errW_none, errW_some] <;> rfl) | (simp [*, errW_none, errW_some] <;> rfl), by repeat (first | (with_reducible first | exact HB.out | apply below_alloc | apply pw_below_drewN | apply below_drew1) | exact HB.out)⟩
  · replace c5 := Bool.eq_false_iff.mpr c5
    subst c5
    have H1 : (some false) = some r := by rw [if_neg (show ¬ (false = true) by decide)] at H; exact H
    clear H
    have H := H1
    clear H1
    obtain rfl := Option.some.inj H
    go_enter Tryd.func15, Tryd.ntmps15
    go_wp2_with (first | ((with_reducible refine gate_callee (f := 18) rfl ?_); refine goesL_ (some 22) rfl rfl Tryd.func18 (by kernel_rfl) rfl #[] rfl (by (try simp only [List.map_toArray, List.map_cons, List.map_nil]); first | done | rfl | (simp only [List.length_drop, List.length_take]; rfl)) ?_; (with_reducible refine (law_sane.calls  false _ A4.out).mono ?_); rintro e w49 ⟨rfl, hb⟩; refine ⟨_, rfl, ?_⟩; have n0_ := Aside0.mk (below_step (by repeat (first | (with_reducible first | exact HB.out | apply below_alloc | apply pw_below_drewN | apply below_drew1) | exact HB.out)) hb); clear HB; have HB := n0_; clear n0_; (try clear hb); (try clear hb2); (try clear hk); (try clear hi)))
    go_ret
    exact ⟨by first | rfl | (simp [errW_none, errW_some] <;> rfl) | (simp [*, errW_none, errW_some] <;> rfl), by repeat (first | (with_reducible first | exact HB.out | apply below_alloc | apply pw_below_drewN | apply below_drew1) | exact HB.out)⟩
end Go.Proofs.YtlhhpogaaneamaaDoor.X
namespace Go.Proofs.YtlhhpogaaneamaaDoor.X
open Go.RowKit
set_option linter.unusedVariables false
theorem earlier_true (a b : List S57) (y : Int) : ∃ k, law_CurveEarlier.f k a b y = some true := by
  obtain ⟨k1, h1⟩ := (valid_ev a).fix
  obtain ⟨k2, h2⟩ := (valid_ev b).fix
  cases hga : goodB a with
  | false =>
    refine ⟨k1 + 6, ?_⟩
    have h1' := h1 k1 (Nat.le_refl _)
    rw [hga] at h1'
    simp only [law_CurveEarlier.f, law_sane.f, Option.bind_some, h1', if_true, law_CurveEarlier.j0]
    rfl
  | true =>
    cases hgb : goodB b with
    | false =>
      refine ⟨k1 + k2 + 6, ?_⟩
      have h1' := h1 (k1 + k2) (by omega)
      have h2' := h2 (k1 + k2) (by omega)
      rw [hga] at h1'
      rw [hgb] at h2'
      simp only [law_CurveEarlier.f, law_sane.f, Option.bind_some, h1', h2', if_true, law_CurveEarlier.j0]
      rfl
    | true =>
      have ha := good_of hga
      have hb := good_of hgb
      obtain ⟨r, e, hr⟩ := below_iff ha hb
      refine ⟨k1 + k2 + 6, ?_⟩
      have h1' := h1 (k1 + k2) (by omega)
      have h2' := h2 (k1 + k2) (by omega)
      have h3' := e
      rw [hga] at h1'
      rw [hgb] at h2'
      by_cases c0 : px a 0 = px b 0
      · by_cases c1 : px a (a.length - 1) = px b (b.length - 1)
        · have c1' : (px a (a.length - 1) != px b (b.length - 1)) = false := by simp [c1]
          have hord : r = true → ∀ x, px a 0 ≤ x → x ≤ px a (a.length - 1) → valR a x ≤ valR b x := fun h x g0 g1 =>
            hr.1 h _ _ _ (valR_on ha g0 g1) (valR_on hb (by omega) (by omega))
          have fin : r = true →
              (∀ i, curve_First.f a y = some (i, true, 0) → ∃ j, curve_First.f b y = some (j, true, 0) ∧ j ≤ i) ∧ (∀ n, curve_Last.f b y = some (n, true, 0) → ∃ m, curve_Last.f a y = some (m, true, 0) ∧ n ≤ m) := by
            intro h
            constructor
            · intro i hi
              rcases first_spec ha y with ⟨e3, _⟩ | ⟨r1, e3, q0, q1, s1⟩
              · rw [e3] at hi; simp at hi
              · rw [e3] at hi
                simp only [Option.some.injEq, Prod.mk.injEq, and_true] at hi
                subst hi
                have hv := (s1 r1 q0 q1).1 (Int.le_refl _)
                have hv' : (y : Rat) ≤ valR b r1 := Rat.le_trans hv (hord h r1 q0 q1)
                rcases first_spec hb y with ⟨e4, s2⟩ | ⟨r2, e4, t0, t1, s2⟩
                · have := s2 r1 (by omega) (by omega); grind
                · exact ⟨r2, e4, (s2 r1 (by omega) (by omega)).2 hv'⟩
            · intro i hi
              rcases last_spec hb y with ⟨e3, _⟩ | ⟨r1, e3, q0, q1, s1⟩
              · rw [e3] at hi; simp at hi
              · rw [e3] at hi
                simp only [Option.some.injEq, Prod.mk.injEq, and_true] at hi
                subst hi
                have hv := (s1 r1 q0 q1).1 (Int.le_refl _)
                have hv' : valR a r1 ≤ (y : Rat) := Rat.le_trans (hord h r1 (by omega) (by omega)) hv
                rcases last_spec ha y with ⟨e4, s2⟩ | ⟨r2, e4, t0, t1, s2⟩
                · have := s2 r1 (by omega) (by omega); grind
                · exact ⟨r2, e4, (s2 r1 (by omega) (by omega)).2 hv'⟩
          have e1 : ∃ i is, curve_First.f a y = some (i, is, 0) := by rcases first_spec ha y with ⟨e3, _⟩ | ⟨r1, e3, _⟩ <;> exact ⟨_, _, e3⟩
          have e2 : ∃ i is, curve_First.f b y = some (i, is, 0) := by rcases first_spec hb y with ⟨e3, _⟩ | ⟨r1, e3, _⟩ <;> exact ⟨_, _, e3⟩
          have e3 : ∃ i is, curve_Last.f a y = some (i, is, 0) := by rcases last_spec ha y with ⟨e3, _⟩ | ⟨r1, e3, _⟩ <;> exact ⟨_, _, e3⟩
          have e4 : ∃ i is, curve_Last.f b y = some (i, is, 0) := by rcases last_spec hb y with ⟨e3, _⟩ | ⟨r1, e3, _⟩ <;> exact ⟨_, _, e3⟩
          obtain ⟨i, is, e1⟩ := e1
          obtain ⟨j, was, e2⟩ := e2
          obtain ⟨m, some_, e3⟩ := e3
          obtain ⟨n, any_, e4⟩ := e4
          rw [e1, e2, e3, e4] at fin
          simp only [law_CurveEarlier.f, law_sane.f, Option.bind_some, h1', h2', if_true, from_eq ha, from_eq hb, to_eq ha, to_eq hb, c0, c1', law_CurveEarlier.j0, h3', e1, e2, e3, e4]
          simp only [Option.some.injEq, Prod.mk.injEq, and_true] at fin
          cases r with
          | false => cases is <;> cases was <;> cases some_ <;> cases any_ <;> simp [law_CurveEarlier.j1]
          | true =>
            obtain ⟨f1, f2⟩ := fin rfl
            cases is with
            | true =>
              obtain ⟨j', ⟨g1, g2⟩, g3⟩ := f1 i ⟨rfl, rfl⟩
              subst g1; subst g2
              cases any_ with
              | true =>
                obtain ⟨m', ⟨g4, g5⟩, g6⟩ := f2 n ⟨rfl, rfl⟩
                subst g4; subst g5
                have n1 : ¬ i < j := by omega
                have n2 : ¬ m < n := by omega
                simp [law_CurveEarlier.j1, n1, n2]
              | false =>
                have n1 : ¬ i < j := by omega
                simp [law_CurveEarlier.j1, n1]
            | false =>
              cases any_ with
              | true =>
                obtain ⟨m', ⟨g4, g5⟩, g6⟩ := f2 n ⟨rfl, rfl⟩
                subst g4; subst g5
                have n2 : ¬ m < n := by omega
                simp [law_CurveEarlier.j1, n2]
              | false => simp [law_CurveEarlier.j1]
        · have c1' : (px a (a.length - 1) != px b (b.length - 1)) = true := by simp [c1]
          simp only [law_CurveEarlier.f, law_sane.f, Option.bind_some, h1', h2', if_true, from_eq ha, from_eq hb, to_eq ha, to_eq hb, c0, c1', law_CurveEarlier.j0]
      · simp only [law_CurveEarlier.f, law_sane.f, Option.bind_some, h1', h2', if_true, from_eq ha, from_eq hb, c0, if_false, law_CurveEarlier.j0]
end Go.Proofs.YtlhhpogaaneamaaDoor.X
namespace Go.Proofs.YtlhhpogaaneamaaDoor
open Go Go.ChangeShapes Go.WideShapes Go.ChangeAt Go.RowKit Go.Proofs.YtlhhpogaaneamaaDoorW.PrintWords Go.Proofs.YtlhhpogaaneamaaDoorW.PrintLast Go.Proofs.YtlhhpogaaneamaaDoorW.PrintMore
set_option linter.unusedVariables false
set_option maxRecDepth 100000 in
theorem curveEarlier_lifted (os : Os) (started : os.Started) (H : Type) (enc : TypeId × Value → H) :
    ReturnsInHanded {} Tryd.checked os 15 .any (fun w args => (Rows.curveEarlierSpec.pre enc Tryd.prog Tryd.f15 [] false w args ∧ laidMet Tryd.prog laidL w) ∧ sizedMet enc Tryd.prog Tryd.f15 (OpenSpec.ofChange Rows.curveEarlierSpec) false w args)
      (Rows.curveEarlierSpec.post enc Tryd.prog Tryd.f15 false true false false) := by
  refine returnsInHanded_of_change_and (C := Tryd.checked) (X := fun w _ => laidMet Tryd.prog laidL w) (fun _ _ _ hh h => h.of_heap hh) ownK started (by kernel_rfl) Tryd.func15
    (ChangeSpec.witness_at (enc := enc) (C := Tryd.checked) (os := os) (X := fun w _ => laidMet Tryd.prog laidL w) false (laidWorld os) #[.slice none 0 0, .slice none 0 0, .int .i64 0] 8 rfl (by kernel_rfl) (by kernel_rfl) (by kernel_rfl) (by kernel_rfl) (by kernel_rfl) (laidWorld_met os _)) ?_
  intro W base args ds gs before hval0 hW _ _ hL _
  have hval : ∀ (j : Nat) t v, Tryd.f15.params[j]? = some t → args[j]? = some v → Value.okWide Tryd.prog W .any base t v := hval0
  have hW' := hW
  obtain ⟨p, q, hA0, hV, rfl, hfz, hnd⟩ := hW
  have hA : DataW.TrodAll enc Tryd.prog W 0 (fun _ => true) true Tryd.f15.params.toList args.toList ds p := hA0
  rw [Tryd.params15] at hA hval
  obtain ⟨v0, vs0, d0, ds0, p0, q0, hargs, rfl, rfl, h0, r0⟩ := trodAll_cons hA
  obtain ⟨v1, vs1, d1, ds1, p1, q1, rfl, rfl, rfl, h1, r1⟩ := trodAll_cons r0
  obtain ⟨v2, vs2, d2, ds2, p2, q2, rfl, rfl, rfl, h2, r2⟩ := trodAll_cons r1
  obtain ⟨rfl, rfl, rfl⟩ := trodAll_nil r2
  obtain rfl : args = #[v0, v1, v2] := by cases args; simp_all
  obtain ⟨rfl, rfl⟩ := trodVars_none hV
  obtain ⟨A0, c0, l0, rfl, hc0, hC0⟩ := open_curve (hval 0 23 v0 rfl rfl) h0
  have lt0 : ∀ x ∈ p0, x.block < W.heap.size := by obtain ⟨m, hm⟩ := h0; exact DataW.trod_lt m _ _ _ hm
  obtain ⟨A1, c1, l1, rfl, hc1, hC1⟩ := open_curve (hval 1 23 v1 rfl rfl) h1
  have lt1 : ∀ x ∈ p1, x.block < W.heap.size := by obtain ⟨m, hm⟩ := h1; exact DataW.trod_lt m _ _ _ hm
  obtain ⟨a2, rfl, rfl, rfl, w2⟩ := open_int Tryd.underlying3 (hval 2 3 v2 rfl rfl) h2
  obtain ⟨k, hk⟩ := X.earlier_true l0 l1 a2
  clear hA0 hval0
  refine (X.law_CurveEarlier.calls k A0 c0 l0 A1 c1 l1 a2 true W hC0 hc0 hC1 hc1 hk).mono fun e W' ⟨he, bel⟩ => ?_
  subst he
  exact ⟨_, rfl, _, _, _, [], _, [], hW', trodAll_mk1 (shut_bool Tryd.underlying4 _), (trodAll_cons_mk (Below.trod laidOutK (by kernel_rfl) (of_decide_eq_true (by kernel_rfl)) h0 bel lt0) (trodAll_cons_mk (Below.trod laidOutK (by kernel_rfl) (of_decide_eq_true (by kernel_rfl)) h1 bel lt1) (trodAll_cons_mk (shut_int Tryd.underlying3 w2) trodAll_mk0))), rfl, bel.frame _, fun h => by cases h⟩
theorem curveEarlier_row : Rows.CurveEarlierSaid :=
  OpenClaim.holds_of_wide 15 Tryd.f15 rfl rfl rfl rfl rfl rfl rfl ⟨rfl, rfl, rfl, rfl, rfl⟩ rfl rfl rfl rfl rfl (by kernel_rfl) Tryd.func15 (by kernel_rfl)
    (of_decide_eq_true (by kernel_rfl)) (by unfold Func.isWrapper; rw [if_neg (of_decide_eq_false (by kernel_rfl))]; exact ⟨rfl, rfl⟩)
    (fun os started H enc _ => curveEarlier_lifted os started H enc)
theorem curveEarlier_holds : Rows.CurveEarlierCardSaid :=
  Claim7.holds_tied_plain_at .later [] [.data, .data, .data] true (true, "76fa1c69d7f5c33adb8b59679630511c53b9fa1b41b5e595b97b4acdba6f7c62") false
    curveEarlier_row (fun _ h => by cases h) (by kernel_rfl) (fun _ h => by cases h) curveEarlier_row_tie rfl ⟨rfl, rfl⟩ (by kernel_rfl) rfl
    (fun f fn hf hfn => by
      obtain rfl : f = 15 := Option.some.inj ((show Tryd.prog.funcNamed "waterhour/waterhourlaw01.CurveEarlier" = some 15 by kernel_rfl).symm.trans hf) |>.symm
      obtain rfl : fn = Tryd.f15 := (Option.some.inj (Tryd.func15.symm.trans hfn)).symm
      exact ⟨by kernel_rfl, fun j t ht => by
        rw [Tryd.params15] at ht
        have h3 : t = 3 ∨ t = 23 := by
          have := List.mem_of_getElem? (l := [23, 23, 3]) (i := j) (by simpa using ht)
          exact (by simpa using this : t = 23 ∨ t = 3).symm
        rcases h3 with rfl | rfl
        · exact (show Tryd.prog.wantsStandIn 3 = false by kernel_rfl)
        · exact (show Tryd.prog.wantsStandIn 23 = false by kernel_rfl)⟩)
    (by kernel_rfl)
end Go.Proofs.YtlhhpogaaneamaaDoor
