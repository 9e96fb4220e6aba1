/- curveGalois_holds: the declarations of this seat that its proof uses. Conditions: none. -/
import Derived.Test.YtlhhpogaaneamaaDoorCards
import Derived.SevenTiedAt
import Derived.OpenShut
import Derived.ChangeOld
import Derived.Test.YtlhhpogaaneamaaDoorKGP5
namespace Go.Proofs.YtlhhpogaaneamaaDoor.X
open Go.RowKit Go.Proofs.YtlhhpogaaneamaaDoorW.PrintWords Go.Proofs.YtlhhpogaaneamaaDoorW.PrintLast Go.Proofs.YtlhhpogaaneamaaDoorW.PrintMore
set_option linter.unusedVariables false
set_option linter.unusedSimpArgs false
mutual
def law_CurveGalois.j0 : Nat → List (S57) → Int → Int → Bool → Option (Bool)
  | 0, _, _, _, _ => none
  | k + 1, x0, x1, x2, x27 => if x27 = true then (some true) else ((curve_Low.f x0 x1).bind fun bt513 => ((curve_High.f x0 x1).bind fun bt515 => ((curve_First.f x0 x2).bind fun bt517 => ((curve_Last.f x0 x2).bind fun bt520 => (if bt513.2 = 0 then (if bt515.2 = 0 then (if bt517.2.2 = 0 then (law_CurveGalois.j1 k x0 x1 x2 bt513.1 bt515.1 bt517.1 bt517.2.1 bt520.1 bt520.2.1 (bt520.2.2 != 0)) else (law_CurveGalois.j1 k x0 x1 x2 bt513.1 bt515.1 bt517.1 bt517.2.1 bt520.1 bt520.2.1 true)) else (law_CurveGalois.j1 k x0 x1 x2 bt513.1 bt515.1 bt517.1 bt517.2.1 bt520.1 bt520.2.1 true)) else (law_CurveGalois.j1 k x0 x1 x2 bt513.1 bt515.1 bt517.1 bt517.2.1 bt520.1 bt520.2.1 true))))))
def law_CurveGalois.j1 : Nat → List (S57) → Int → Int → Int → Int → Int → Bool → Int → Bool → Bool → Option (Bool)
  | 0, _, _, _, _, _, _, _, _, _, _ => none
  | k + 1, x0, x1, x2, x7, x9, x11, x12, x14, x15, x67 => if x67 = true then (some false) else (if x12 = true then ((ref_In.f x0 x11).bind fun t523 => (if t523 = true then (if x15 = true then ((ref_In.f x0 x14).bind fun t524 => (law_CurveGalois.j2 k x1 x2 x7 x9 x11 x12 x14 x15 (!t524))) else (law_CurveGalois.j2 k x1 x2 x7 x9 x11 x12 x14 x15 false)) else (law_CurveGalois.j2 k x1 x2 x7 x9 x11 x12 x14 x15 true))) else (if x15 = true then ((ref_In.f x0 x14).bind fun t525 => (law_CurveGalois.j2 k x1 x2 x7 x9 x11 x12 x14 x15 (!t525))) else (law_CurveGalois.j2 k x1 x2 x7 x9 x11 x12 x14 x15 false)))
def law_CurveGalois.j2 : Nat → Int → Int → Int → Int → Int → Bool → Int → Bool → Bool → Option (Bool)
  | 0, _, _, _, _, _, _, _, _, _ => none
  | k + 1, x1, x2, x7, x9, x11, x12, x14, x15, x83 => if x83 = true then (some false) else (if x12 = true then (if ((decide (x11 ≤ x1)) == (decide (x7 ≥ x2))) = true then (if x15 = true then (some ((decide (x14 ≥ x1)) == (decide (x9 ≤ x2)))) else (some (false == (decide (x9 ≤ x2))))) else (some false)) else (if (false == (decide (x7 ≥ x2))) = true then (if x15 = true then (some ((decide (x14 ≥ x1)) == (decide (x9 ≤ x2)))) else (some (false == (decide (x9 ≤ x2))))) else (some false)))
end
def law_CurveGalois.f (k : Nat) (l0 : List (S57)) (a1 : Int) (a2 : Int) : Option (Bool) := (law_sane.f).bind fun t510 => (if t510 = true then ((ref_Valid.f k l0).bind fun t511 => (if t511 = true then ((ref_In.f l0 a1).bind fun t512 => (law_CurveGalois.j0 k l0 a1 a2 (!t512))) else (law_CurveGalois.j0 k l0 a1 a2 true))) else (some false))
set_option maxHeartbeats 8000000 in
set_option maxRecDepth 100000 in
theorem law_CurveGalois.calls (k : Nat) (A0 : Option Addr) (c0 : Nat) (l0 : List (S57)) (a1 : Int) (a2 : Int) (r : Bool) (w : World) (hr0 : Kd.C k57 w A0 l0.length l0) (hc0 : l0.length ≤ c0) (h : law_CurveGalois.f k l0 a1 a2 = some r) :
    Calls Tryd.prog 6 #[.slice A0 l0.length c0, .int .i64 a1, .int .i64 a2] w fun e w' => e = .returned (.bool r) ∧ Below w.heap.size w w' := by
  have HR0 := Aside0.mk hr0
  have HC0 := Aside0.mk hc0
  clear hr0 hc0
  have HB := Aside0.mk (Below.refl w.heap.size w)
  have H : ((law_sane.f).bind fun t510 => (if t510 = true then ((ref_Valid.f k l0).bind fun t511 => (if t511 = true then ((ref_In.f l0 a1).bind fun t512 => (law_CurveGalois.j0 k l0 a1 a2 (!t512))) else (law_CurveGalois.j0 k l0 a1 a2 true))) else (some false))) = some r := h
  clear h
  replace H := Option.bind_eq_some_iff.mp H
  obtain ⟨t510, A40, H⟩ := H
  replace H : (if t510 = true then ((ref_Valid.f k l0).bind fun t511 => (if t511 = true then ((ref_In.f l0 a1).bind fun t512 => (law_CurveGalois.j0 k l0 a1 a2 (!t512))) else (law_CurveGalois.j0 k l0 a1 a2 true))) else (some false)) = some r := H
  have A4 := Aside0.mk A40
  clear A40
  by_cases c5 : t510 = true
  · subst c5
    have H1 : ((ref_Valid.f k l0).bind fun t511 => (if t511 = true then ((ref_In.f l0 a1).bind fun t512 => (law_CurveGalois.j0 k l0 a1 a2 (!t512))) else (law_CurveGalois.j0 k l0 a1 a2 true))) = some r := by rw [if_pos rfl] at H; exact H
    clear H
    have H := H1
    clear H1
    have HC6 := Aside0.mk H
    clear H
    go_enter Tryd.func6, Tryd.ntmps6
    go_upto_region 3 with (first | ((with_reducible refine gate_callee (f := 18) rfl ?_); refine goesL_ (some 17) rfl rfl Tryd.func18 (by kernel_rfl) rfl #[] rfl (by (try simp only [List.map_toArray, List.map_cons, List.map_nil]); first | done | rfl | (simp only [List.length_drop, List.length_take]; rfl)) ?_; (with_reducible refine (law_sane.calls  true _ A4.out).mono ?_); rintro e w7 ⟨rfl, hb⟩; refine ⟨_, rfl, ?_⟩; have n0_ := Aside0.mk (below_step (by repeat (first | (with_reducible first | exact HB.out | apply below_alloc | apply pw_below_drewN | apply below_drew1) | exact HB.out)) hb); clear HB; have HB := n0_; clear n0_; (try clear hb); (try clear hb2); (try clear hk); (try clear hi)))
    (try simp only [Act.put, List.setIfInBounds_toArray, List.set_cons_zero, List.set_cons_succ])
    go_cut [27] (fun v27 wc => ∃ (kq : Nat) (x27_5 : Bool), v27 = .bool x27_5 ∧ Aside0 (law_CurveGalois.j0 kq l0 a1 a2 x27_5 = some r) ∧ Aside0 (kq ≤ k) ∧ Aside0 (Below w.heap.size w wc))
    case first =>
      have H := HC6.out
      clear HC6
      replace H := Option.bind_eq_some_iff.mp H
      obtain ⟨t511, A80, H⟩ := H
      replace H : (if t511 = true then ((ref_In.f l0 a1).bind fun t512 => (law_CurveGalois.j0 k l0 a1 a2 (!t512))) else (law_CurveGalois.j0 k l0 a1 a2 true)) = some r := H
      have A8 := Aside0.mk A80
      clear A80
      by_cases c9 : t511 = true
      · subst c9
        have H1 : ((ref_In.f l0 a1).bind fun t512 => (law_CurveGalois.j0 k l0 a1 a2 (!t512))) = some r := by rw [if_pos rfl] at H; exact H
        clear H
        have H := H1
        clear H1
        replace H := Option.bind_eq_some_iff.mp H
        obtain ⟨t512, A100, H⟩ := H
        replace H : (law_CurveGalois.j0 k l0 a1 a2 (!t512)) = some r := H
        have A10 := Aside0.mk A100
        clear A100
        have H' := Aside0.mk H
        clear H
        go_wp2_with (first | ((with_reducible refine gate_callee (f := 42) rfl ?_); refine goesL_ (some 20) rfl rfl Tryd.func42 (by kernel_rfl) rfl #[.slice A0 l0.length c0] rfl (by (try simp only [List.map_toArray, List.map_cons, List.map_nil]); first | done | rfl | (simp only [List.length_drop, List.length_take]; rfl)) ?_; (with_reducible refine (ref_Valid.calls k _ _ l0 true _ ?side1 ?side2 A8.out).mono ?_); (case side1 => repeat (first | exact (Kd.C_below HR0.out HB.out) | (with_reducible refine Kd.C_alloc ?_ _) | (with_reducible refine Kd.C_drewN ?_ _) | (with_reducible refine Kd.C_drew ?_))); (case side2 => exact HC0.out); rintro e w' ⟨rfl, ⟨nd, rfl⟩⟩; refine ⟨_, rfl, ?_⟩) | (go_at_call 43; (with_reducible refine (ref_In.calls _ _ l0 a1 t512 _ ?side1 ?side2 A10.out).mono ?_); (case side1 => repeat (first | exact (Kd.C_below HR0.out (by repeat (first | (with_reducible first | exact HB.out | apply below_alloc | apply pw_below_drewN | apply below_drew1) | exact HB.out))) | (with_reducible refine Kd.C_alloc ?_ _) | (with_reducible refine Kd.C_drewN ?_ _) | (with_reducible refine Kd.C_drew ?_))); (case side2 => exact HC0.out); rintro e w' ⟨rfl, ⟨nd, rfl⟩⟩))
        go_meet
        case rel => exact ⟨_, (!t512), (by first | rfl | (simp; done) | (simp [*]; done)), H', ⟨by first | omega | exact Nat.le_refl _⟩, ⟨by repeat (first | (with_reducible first | exact HB.out | apply below_alloc | apply pw_below_drewN | apply below_drew1) | exact HB.out)⟩⟩
      · replace c9 := Bool.eq_false_iff.mpr c9
        subst c9
        have H1 : (law_CurveGalois.j0 k l0 a1 a2 true) = some r := by rw [if_neg (show ¬ (false = true) by decide)] at H; exact H
        clear H
        have H := H1
        clear H1
        have H' := Aside0.mk H
        clear H
        go_wp2_with (first | ((with_reducible refine gate_callee (f := 42) rfl ?_); refine goesL_ (some 20) rfl rfl Tryd.func42 (by kernel_rfl) rfl #[.slice A0 l0.length c0] rfl (by (try simp only [List.map_toArray, List.map_cons, List.map_nil]); first | done | rfl | (simp only [List.length_drop, List.length_take]; rfl)) ?_; (with_reducible refine (ref_Valid.calls k _ _ l0 false _ ?side1 ?side2 A8.out).mono ?_); (case side1 => repeat (first | exact (Kd.C_below HR0.out HB.out) | (with_reducible refine Kd.C_alloc ?_ _) | (with_reducible refine Kd.C_drewN ?_ _) | (with_reducible refine Kd.C_drew ?_))); (case side2 => exact HC0.out); rintro e w' ⟨rfl, ⟨nd, rfl⟩⟩; refine ⟨_, rfl, ?_⟩))
        go_meet
        case rel => exact ⟨_, (true), (by first | rfl | (simp; done) | (simp [*]; done)), H', ⟨by first | omega | exact Nat.le_refl _⟩, ⟨by repeat (first | (with_reducible first | exact HB.out | apply below_alloc | apply pw_below_drewN | apply below_drew1) | exact HB.out)⟩⟩
    case rest =>
      clear HC6
      try clear c1
      try clear p2
      try clear c4
      try clear c5
      try clear c6
      try clear c9
      obtain ⟨kq, x27_5, rfl, HA, HJ5, HB⟩ := hcut
      cases kq with
      | zero => exact absurd HA.out (by simp [law_CurveGalois.j0])
      | succ kj5 =>
        have H := HA.out
        clear HA
        simp only [law_CurveGalois.j0] at H
        by_cases c11 : x27_5 = true
        · subst c11
          have H1 : (some true) = some r := by rw [if_pos rfl] at H; exact H
          clear H
          have H := H1
          clear H1
          obtain rfl := Option.some.inj H
          go_wp2
          go_ret
          exact ⟨by first | rfl | (simp [errW_none, errW_some] <;> rfl) | (simp [*, errW_none, errW_some] <;> rfl), by repeat (first | (with_reducible first | exact HB.out | apply below_alloc | apply pw_below_drewN | apply below_drew1) | exact HB.out)⟩
        · replace c11 := Bool.eq_false_iff.mpr c11
          subst c11
          have H1 : ((curve_Low.f l0 a1).bind fun bt513 => ((curve_High.f l0 a1).bind fun bt515 => ((curve_First.f l0 a2).bind fun bt517 => ((curve_Last.f l0 a2).bind fun bt520 => (if bt513.2 = 0 then (if bt515.2 = 0 then (if bt517.2.2 = 0 then (law_CurveGalois.j1 kj5 l0 a1 a2 bt513.1 bt515.1 bt517.1 bt517.2.1 bt520.1 bt520.2.1 (bt520.2.2 != 0)) else (law_CurveGalois.j1 kj5 l0 a1 a2 bt513.1 bt515.1 bt517.1 bt517.2.1 bt520.1 bt520.2.1 true)) else (law_CurveGalois.j1 kj5 l0 a1 a2 bt513.1 bt515.1 bt517.1 bt517.2.1 bt520.1 bt520.2.1 true)) else (law_CurveGalois.j1 kj5 l0 a1 a2 bt513.1 bt515.1 bt517.1 bt517.2.1 bt520.1 bt520.2.1 true)))))) = some r := by rw [if_neg (show ¬ (false = true) by decide)] at H; exact H
          clear H
          have H := H1
          clear H1
          replace H := Option.bind_eq_some_iff.mp H
          obtain ⟨⟨t513, t514⟩, A120, H⟩ := H
          replace H : ((curve_High.f l0 a1).bind fun bt515 => ((curve_First.f l0 a2).bind fun bt517 => ((curve_Last.f l0 a2).bind fun bt520 => (if t514 = 0 then (if bt515.2 = 0 then (if bt517.2.2 = 0 then (law_CurveGalois.j1 kj5 l0 a1 a2 t513 bt515.1 bt517.1 bt517.2.1 bt520.1 bt520.2.1 (bt520.2.2 != 0)) else (law_CurveGalois.j1 kj5 l0 a1 a2 t513 bt515.1 bt517.1 bt517.2.1 bt520.1 bt520.2.1 true)) else (law_CurveGalois.j1 kj5 l0 a1 a2 t513 bt515.1 bt517.1 bt517.2.1 bt520.1 bt520.2.1 true)) else (law_CurveGalois.j1 kj5 l0 a1 a2 t513 bt515.1 bt517.1 bt517.2.1 bt520.1 bt520.2.1 true))))) = some r := H
          have A12 := Aside0.mk A120
          clear A120
          replace H := Option.bind_eq_some_iff.mp H
          obtain ⟨⟨t515, t516⟩, A130, H⟩ := H
          replace H : ((curve_First.f l0 a2).bind fun bt517 => ((curve_Last.f l0 a2).bind fun bt520 => (if t514 = 0 then (if t516 = 0 then (if bt517.2.2 = 0 then (law_CurveGalois.j1 kj5 l0 a1 a2 t513 t515 bt517.1 bt517.2.1 bt520.1 bt520.2.1 (bt520.2.2 != 0)) else (law_CurveGalois.j1 kj5 l0 a1 a2 t513 t515 bt517.1 bt517.2.1 bt520.1 bt520.2.1 true)) else (law_CurveGalois.j1 kj5 l0 a1 a2 t513 t515 bt517.1 bt517.2.1 bt520.1 bt520.2.1 true)) else (law_CurveGalois.j1 kj5 l0 a1 a2 t513 t515 bt517.1 bt517.2.1 bt520.1 bt520.2.1 true)))) = some r := H
          have A13 := Aside0.mk A130
          clear A130
          replace H := Option.bind_eq_some_iff.mp H
          obtain ⟨⟨t517, t518, t519⟩, A140, H⟩ := H
          replace H : ((curve_Last.f l0 a2).bind fun bt520 => (if t514 = 0 then (if t516 = 0 then (if t519 = 0 then (law_CurveGalois.j1 kj5 l0 a1 a2 t513 t515 t517 t518 bt520.1 bt520.2.1 (bt520.2.2 != 0)) else (law_CurveGalois.j1 kj5 l0 a1 a2 t513 t515 t517 t518 bt520.1 bt520.2.1 true)) else (law_CurveGalois.j1 kj5 l0 a1 a2 t513 t515 t517 t518 bt520.1 bt520.2.1 true)) else (law_CurveGalois.j1 kj5 l0 a1 a2 t513 t515 t517 t518 bt520.1 bt520.2.1 true))) = some r := H
          have A14 := Aside0.mk A140
          clear A140
          replace H := Option.bind_eq_some_iff.mp H
          obtain ⟨⟨t520, t521, t522⟩, A150, H⟩ := H
          replace H : (if t514 = 0 then (if t516 = 0 then (if t519 = 0 then (law_CurveGalois.j1 kj5 l0 a1 a2 t513 t515 t517 t518 t520 t521 (t522 != 0)) else (law_CurveGalois.j1 kj5 l0 a1 a2 t513 t515 t517 t518 t520 t521 true)) else (law_CurveGalois.j1 kj5 l0 a1 a2 t513 t515 t517 t518 t520 t521 true)) else (law_CurveGalois.j1 kj5 l0 a1 a2 t513 t515 t517 t518 t520 t521 true)) = some r := H
          have A15 := Aside0.mk A150
          clear A150
          have HC16 := Aside0.mk H
          clear H
          go_upto_region 9 with (first | ((with_reducible refine gate_callee (f := 24) rfl ?_); refine goesL_ (some 31) rfl rfl Tryd.func24 (by kernel_rfl) rfl #[.slice A0 l0.length c0, .int .i64 a1] rfl (by (try simp only [List.map_toArray, List.map_cons, List.map_nil]); first | done | rfl | (simp only [List.length_drop, List.length_take]; rfl)) ?_; (with_reducible refine (curve_Low.calls _ _ l0 a1 t513 t514 _ ?side1 ?side2 A12.out).mono ?_); (case side1 => repeat (first | exact (Kd.C_below HR0.out HB.out) | (with_reducible refine Kd.C_alloc ?_ _) | (with_reducible refine Kd.C_drewN ?_ _) | (with_reducible refine Kd.C_drew ?_))); (case side2 => exact HC0.out); rintro e w17 ⟨rfl, hb⟩; refine ⟨_, rfl, ?_⟩; have n0_ := Aside0.mk (below_step (by repeat (first | (with_reducible first | exact HB.out | apply below_alloc | apply pw_below_drewN | apply below_drew1) | exact HB.out)) hb); clear HB; have HB := n0_; clear n0_; (try clear hb); (try clear hb2); (try clear hk); (try clear hi)) | ((with_reducible refine gate_callee (f := 26) rfl ?_); refine goesL_ (some 37) rfl rfl Tryd.func26 (by kernel_rfl) rfl #[.slice A0 l0.length c0, .int .i64 a1] rfl (by (try simp only [List.map_toArray, List.map_cons, List.map_nil]); first | done | rfl | (simp only [List.length_drop, List.length_take]; rfl)) ?_; (with_reducible refine (curve_High.calls _ _ l0 a1 t515 t516 _ ?side1 ?side2 A13.out).mono ?_); (case side1 => repeat (first | exact (Kd.C_below HR0.out HB.out) | (with_reducible refine Kd.C_alloc ?_ _) | (with_reducible refine Kd.C_drewN ?_ _) | (with_reducible refine Kd.C_drew ?_))); (case side2 => exact HC0.out); rintro e w18 ⟨rfl, hb⟩; refine ⟨_, rfl, ?_⟩; have n0_ := Aside0.mk (below_step (by repeat (first | (with_reducible first | exact HB.out | apply below_alloc | apply pw_below_drewN | apply below_drew1) | exact HB.out)) hb); clear HB; have HB := n0_; clear n0_; (try clear hb); (try clear hb2); (try clear hk); (try clear hi)) | ((with_reducible refine gate_callee (f := 32) rfl ?_); refine goesL_ (some 43) rfl rfl Tryd.func32 (by kernel_rfl) rfl #[.slice A0 l0.length c0, .int .i64 a2] rfl (by (try simp only [List.map_toArray, List.map_cons, List.map_nil]); first | done | rfl | (simp only [List.length_drop, List.length_take]; rfl)) ?_; (with_reducible refine (curve_First.calls _ _ l0 a2 t517 t518 t519 _ ?side1 ?side2 A14.out).mono ?_); (case side1 => repeat (first | exact (Kd.C_below HR0.out HB.out) | (with_reducible refine Kd.C_alloc ?_ _) | (with_reducible refine Kd.C_drewN ?_ _) | (with_reducible refine Kd.C_drew ?_))); (case side2 => exact HC0.out); rintro e w19 ⟨rfl, hb⟩; refine ⟨_, rfl, ?_⟩; have n0_ := Aside0.mk (below_step (by repeat (first | (with_reducible first | exact HB.out | apply below_alloc | apply pw_below_drewN | apply below_drew1) | exact HB.out)) hb); clear HB; have HB := n0_; clear n0_; (try clear hb); (try clear hb2); (try clear hk); (try clear hi)) | ((with_reducible refine gate_callee (f := 34) rfl ?_); refine goesL_ (some 50) rfl rfl Tryd.func34 (by kernel_rfl) rfl #[.slice A0 l0.length c0, .int .i64 a2] rfl (by (try simp only [List.map_toArray, List.map_cons, List.map_nil]); first | done | rfl | (simp only [List.length_drop, List.length_take]; rfl)) ?_; (with_reducible refine (curve_Last.calls _ _ l0 a2 t520 t521 t522 _ ?side1 ?side2 A15.out).mono ?_); (case side1 => repeat (first | exact (Kd.C_below HR0.out HB.out) | (with_reducible refine Kd.C_alloc ?_ _) | (with_reducible refine Kd.C_drewN ?_ _) | (with_reducible refine Kd.C_drew ?_))); (case side2 => exact HC0.out); rintro e w20 ⟨rfl, hb⟩; refine ⟨_, rfl, ?_⟩; have n0_ := Aside0.mk (below_step (by repeat (first | (with_reducible first | exact HB.out | apply below_alloc | apply pw_below_drewN | apply below_drew1) | exact HB.out)) hb); clear HB; have HB := n0_; clear n0_; (try clear hb); (try clear hb2); (try clear hk); (try clear hi)))
          (try simp only [Act.put, List.setIfInBounds_toArray, List.set_cons_zero, List.set_cons_succ])
          go_cut [67] (fun v67 wc => ∃ (kq : Nat) (x67_15 : Bool), v67 = .bool x67_15 ∧ Aside0 (law_CurveGalois.j1 kq l0 a1 a2 t513 t515 t517 t518 t520 t521 x67_15 = some r) ∧ Aside0 (kq ≤ kj5) ∧ Aside0 (Below w.heap.size w wc))
          case first =>
            have H := HC16.out
            clear HC16
            by_cases c21 : t514 = 0
            · rw [if_pos c21] at H
              have c21b0 : (t514 == 0) = true := beq_iff_eq.mpr c21
              have c21b1 : (t514 != 0) = false := bne_eq_false_iff_eq.mpr c21
              clear c21
              (first | rw [c21b0] | (simp only [i64_w, i32_w]; rw [c21b0]) | skip)
              by_cases c22 : t516 = 0
              · rw [if_pos c22] at H
                have c22b0 : (t516 == 0) = true := beq_iff_eq.mpr c22
                have c22b1 : (t516 != 0) = false := bne_eq_false_iff_eq.mpr c22
                clear c22
                by_cases c23 : t519 = 0
                · rw [if_pos c23] at H
                  have c23b0 : (t519 == 0) = true := beq_iff_eq.mpr c23
                  have c23b1 : (t519 != 0) = false := bne_eq_false_iff_eq.mpr c23
                  clear c23
                  have H' := Aside0.mk H
                  clear H
                  go_wp2
                  go_meet
                  case rel => exact ⟨_, ((t522 != 0)), (by first | rfl | (simp; done) | (simp [*]; done)), H', ⟨by have := HJ5.out; first | omega | exact Nat.le_refl _⟩, ⟨by repeat (first | (with_reducible first | exact HB.out | apply below_alloc | apply pw_below_drewN | apply below_drew1) | exact HB.out)⟩⟩
                · rw [if_neg c23] at H
                  have c23b0 : (t519 == 0) = false := beq_eq_false_iff_ne.mpr c23
                  have c23b1 : (t519 != 0) = true := bne_iff_ne.mpr c23
                  have H' := Aside0.mk H
                  clear H
                  go_wp2
                  go_meet
                  case rel => exact ⟨_, (true), (by first | rfl | (simp; done) | (simp [*]; done)), H', ⟨by have := HJ5.out; first | omega | exact Nat.le_refl _⟩, ⟨by repeat (first | (with_reducible first | exact HB.out | apply below_alloc | apply pw_below_drewN | apply below_drew1) | exact HB.out)⟩⟩
              · rw [if_neg c22] at H
                have c22b0 : (t516 == 0) = false := beq_eq_false_iff_ne.mpr c22
                have c22b1 : (t516 != 0) = true := bne_iff_ne.mpr c22
                have H' := Aside0.mk H
                clear H
                go_wp2
                go_meet
                case rel => exact ⟨_, (true), (by first | rfl | (simp; done) | (simp [*]; done)), H', ⟨by have := HJ5.out; first | omega | exact Nat.le_refl _⟩, ⟨by repeat (first | (with_reducible first | exact HB.out | apply below_alloc | apply pw_below_drewN | apply below_drew1) | exact HB.out)⟩⟩
            · rw [if_neg c21] at H
              have c21b0 : (t514 == 0) = false := beq_eq_false_iff_ne.mpr c21
              have c21b1 : (t514 != 0) = true := bne_iff_ne.mpr c21
              (first | rw [c21b0] | (simp only [i64_w, i32_w]; rw [c21b0]) | skip)
              have H' := Aside0.mk H
              clear H
              go_wp2
              go_meet
              case rel => exact ⟨_, (true), (by first | rfl | (simp; done) | (simp [*]; done)), H', ⟨by have := HJ5.out; first | omega | exact Nat.le_refl _⟩, ⟨by repeat (first | (with_reducible first | exact HB.out | apply below_alloc | apply pw_below_drewN | apply below_drew1) | exact HB.out)⟩⟩
          case rest =>
            clear HC16
            try clear c1
            try clear c2
            try clear p2
            try clear c3
            try clear c4
            try clear c5
            try clear c6
            try clear c9
            try clear c11
            try clear c18
            try clear c21
            try clear c21b0
            try clear c21b1
            try clear c22
            try clear c22b0
            try clear c22b1
            try clear c23
            try clear c23b0
            try clear c23b1
            try clear p2
            obtain ⟨kq, x67_15, rfl, HA, HJ15, HB⟩ := hcut
            cases kq with
            | zero => exact absurd HA.out (by simp [law_CurveGalois.j1])
            | succ kj15 =>
              have H := HA.out
              clear HA
              simp only [law_CurveGalois.j1] at H
              by_cases c24 : x67_15 = true
              · subst c24
                have H1 : (some false) = some r := by rw [if_pos rfl] at H; exact H
                clear H
                have H := H1
                clear H1
                obtain rfl := Option.some.inj H
                go_wp2
                go_ret
                exact ⟨by first | rfl | (simp [errW_none, errW_some] <;> rfl) | (simp [*, errW_none, errW_some] <;> rfl), by repeat (first | (with_reducible first | exact HB.out | apply below_alloc | apply pw_below_drewN | apply below_drew1) | exact HB.out)⟩
              · replace c24 := Bool.eq_false_iff.mpr c24
                subst c24
                have H1 : (if t518 = true then ((ref_In.f l0 t517).bind fun t523 => (if t523 = true then (if t521 = true then ((ref_In.f l0 t520).bind fun t524 => (law_CurveGalois.j2 kj15 a1 a2 t513 t515 t517 t518 t520 t521 (!t524))) else (law_CurveGalois.j2 kj15 a1 a2 t513 t515 t517 t518 t520 t521 false)) else (law_CurveGalois.j2 kj15 a1 a2 t513 t515 t517 t518 t520 t521 true))) else (if t521 = true then ((ref_In.f l0 t520).bind fun t525 => (law_CurveGalois.j2 kj15 a1 a2 t513 t515 t517 t518 t520 t521 (!t525))) else (law_CurveGalois.j2 kj15 a1 a2 t513 t515 t517 t518 t520 t521 false))) = some r := by rw [if_neg (show ¬ (false = true) by decide)] at H; exact H
                clear H
                have H := H1
                clear H1
                have HC25 := Aside0.mk H
                clear H
                go_upto_region 11 with (fail)
                go_cut [83] (fun v83 wc => ∃ (kq : Nat) (x83_24 : Bool), v83 = .bool x83_24 ∧ Aside0 (law_CurveGalois.j2 kq a1 a2 t513 t515 t517 t518 t520 t521 x83_24 = some r) ∧ Aside0 (kq ≤ kj15) ∧ Aside0 (Below w.heap.size w wc))
                case first =>
                  have H := HC25.out
                  clear HC25
                  by_cases c26 : t518 = true
                  · subst c26
                    have H1 : ((ref_In.f l0 t517).bind fun t523 => (if t523 = true then (if t521 = true then ((ref_In.f l0 t520).bind fun t524 => (law_CurveGalois.j2 kj15 a1 a2 t513 t515 t517 true t520 t521 (!t524))) else (law_CurveGalois.j2 kj15 a1 a2 t513 t515 t517 true t520 t521 false)) else (law_CurveGalois.j2 kj15 a1 a2 t513 t515 t517 true t520 t521 true))) = some r := by rw [if_pos rfl] at H; exact H
                    clear H
                    have H := H1
                    clear H1
                    replace H := Option.bind_eq_some_iff.mp H
                    obtain ⟨t523, A270, H⟩ := H
                    replace H : (if t523 = true then (if t521 = true then ((ref_In.f l0 t520).bind fun t524 => (law_CurveGalois.j2 kj15 a1 a2 t513 t515 t517 true t520 t521 (!t524))) else (law_CurveGalois.j2 kj15 a1 a2 t513 t515 t517 true t520 t521 false)) else (law_CurveGalois.j2 kj15 a1 a2 t513 t515 t517 true t520 t521 true)) = some r := H
                    have A27 := Aside0.mk A270
                    clear A270
                    by_cases c28 : t523 = true
                    · subst c28
                      have H1 : (if t521 = true then ((ref_In.f l0 t520).bind fun t524 => (law_CurveGalois.j2 kj15 a1 a2 t513 t515 t517 true t520 t521 (!t524))) else (law_CurveGalois.j2 kj15 a1 a2 t513 t515 t517 true t520 t521 false)) = some r := by rw [if_pos rfl] at H; exact H
                      clear H
                      have H := H1
                      clear H1
                      by_cases c29 : t521 = true
                      · subst c29
                        have H1 : ((ref_In.f l0 t520).bind fun t524 => (law_CurveGalois.j2 kj15 a1 a2 t513 t515 t517 true t520 true (!t524))) = some r := by rw [if_pos rfl] at H; exact H
                        clear H
                        have H := H1
                        clear H1
                        replace H := Option.bind_eq_some_iff.mp H
                        obtain ⟨t524, A300, H⟩ := H
                        replace H : (law_CurveGalois.j2 kj15 a1 a2 t513 t515 t517 true t520 true (!t524)) = some r := H
                        have A30 := Aside0.mk A300
                        clear A300
                        have H' := Aside0.mk H
                        clear H
                        go_wp2_with (first | (go_at_call 43; (with_reducible refine (ref_In.calls _ _ l0 t517 true _ ?side1 ?side2 A27.out).mono ?_); (case side1 => repeat (first | exact (Kd.C_below HR0.out HB.out) | (with_reducible refine Kd.C_alloc ?_ _) | (with_reducible refine Kd.C_drewN ?_ _) | (with_reducible refine Kd.C_drew ?_))); (case side2 => exact HC0.out); rintro e w' ⟨rfl, ⟨nd, rfl⟩⟩) | (go_at_call 43; (with_reducible refine (ref_In.calls _ _ l0 t520 t524 _ ?side1 ?side2 A30.out).mono ?_); (case side1 => repeat (first | exact (Kd.C_below HR0.out (by repeat (first | (with_reducible first | exact HB.out | apply below_alloc | apply pw_below_drewN | apply below_drew1) | exact HB.out))) | (with_reducible refine Kd.C_alloc ?_ _) | (with_reducible refine Kd.C_drewN ?_ _) | (with_reducible refine Kd.C_drew ?_))); (case side2 => exact HC0.out); rintro e w' ⟨rfl, ⟨nd, rfl⟩⟩))
                        go_meet
                        case rel => exact ⟨_, (!t524), (by first | rfl | (simp; done) | (simp [*]; done)), H', ⟨by have := HJ5.out; have := HJ15.out; first | omega | exact Nat.le_refl _⟩, ⟨by repeat (first | (with_reducible first | exact HB.out | apply below_alloc | apply pw_below_drewN | apply below_drew1) | exact HB.out)⟩⟩
                      · replace c29 := Bool.eq_false_iff.mpr c29
                        subst c29
                        have H1 : (law_CurveGalois.j2 kj15 a1 a2 t513 t515 t517 true t520 false false) = some r := by rw [if_neg (show ¬ (false = true) by decide)] at H; exact H
                        clear H
                        have H := H1
                        clear H1
                        have H' := Aside0.mk H
                        clear H
                        go_wp2_with (first | (go_at_call 43; (with_reducible refine (ref_In.calls _ _ l0 t517 true _ ?side1 ?side2 A27.out).mono ?_); (case side1 => repeat (first | exact (Kd.C_below HR0.out HB.out) | (with_reducible refine Kd.C_alloc ?_ _) | (with_reducible refine Kd.C_drewN ?_ _) | (with_reducible refine Kd.C_drew ?_))); (case side2 => exact HC0.out); rintro e w' ⟨rfl, ⟨nd, rfl⟩⟩))
                        go_meet
                        case rel => exact ⟨_, (false), (by first | rfl | (simp; done) | (simp [*]; done)), H', ⟨by have := HJ5.out; have := HJ15.out; first | omega | exact Nat.le_refl _⟩, ⟨by repeat (first | (with_reducible first | exact HB.out | apply below_alloc | apply pw_below_drewN | apply below_drew1) | exact HB.out)⟩⟩
                    · replace c28 := Bool.eq_false_iff.mpr c28
                      subst c28
                      have H1 : (law_CurveGalois.j2 kj15 a1 a2 t513 t515 t517 true t520 t521 true) = some r := by rw [if_neg (show ¬ (false = true) by decide)] at H; exact H
                      clear H
                      have H := H1
                      clear H1
                      have H' := Aside0.mk H
                      clear H
                      go_wp2_with (first | (go_at_call 43; (with_reducible refine (ref_In.calls _ _ l0 t517 false _ ?side1 ?side2 A27.out).mono ?_); (case side1 => repeat (first | exact (Kd.C_below HR0.out HB.out) | (with_reducible refine Kd.C_alloc ?_ _) | (with_reducible refine Kd.C_drewN ?_ _) | (with_reducible refine Kd.C_drew ?_))); (case side2 => exact HC0.out); rintro e w' ⟨rfl, ⟨nd, rfl⟩⟩))
                      go_meet
                      case rel => exact ⟨_, (true), (by first | rfl | (simp; done) | (simp [*]; done)), H', ⟨by have := HJ5.out; have := HJ15.out; first | omega | exact Nat.le_refl _⟩, ⟨by repeat (first | (with_reducible first | exact HB.out | apply below_alloc | apply pw_below_drewN | apply below_drew1) | exact HB.out)⟩⟩
                  · replace c26 := Bool.eq_false_iff.mpr c26
                    subst c26
                    have H1 : (if t521 = true then ((ref_In.f l0 t520).bind fun t525 => (law_CurveGalois.j2 kj15 a1 a2 t513 t515 t517 false t520 t521 (!t525))) else (law_CurveGalois.j2 kj15 a1 a2 t513 t515 t517 false t520 t521 false)) = some r := by rw [if_neg (show ¬ (false = true) by decide)] at H; exact H
                    clear H
                    have H := H1
                    clear H1
                    by_cases c31 : t521 = true
                    · subst c31
                      have H1 : ((ref_In.f l0 t520).bind fun t525 => (law_CurveGalois.j2 kj15 a1 a2 t513 t515 t517 false t520 true (!t525))) = some r := by rw [if_pos rfl] at H; exact H
                      clear H
                      have H := H1
                      clear H1
                      replace H := Option.bind_eq_some_iff.mp H
                      obtain ⟨t525, A320, H⟩ := H
                      replace H : (law_CurveGalois.j2 kj15 a1 a2 t513 t515 t517 false t520 true (!t525)) = some r := H
                      have A32 := Aside0.mk A320
                      clear A320
                      have H' := Aside0.mk H
                      clear H
                      go_wp2_with (first | (go_at_call 43; (with_reducible refine (ref_In.calls _ _ l0 t520 t525 _ ?side1 ?side2 A32.out).mono ?_); (case side1 => repeat (first | exact (Kd.C_below HR0.out HB.out) | (with_reducible refine Kd.C_alloc ?_ _) | (with_reducible refine Kd.C_drewN ?_ _) | (with_reducible refine Kd.C_drew ?_))); (case side2 => exact HC0.out); rintro e w' ⟨rfl, ⟨nd, rfl⟩⟩))
                      go_meet
                      case rel => exact ⟨_, (!t525), (by first | rfl | (simp; done) | (simp [*]; done)), H', ⟨by have := HJ5.out; have := HJ15.out; first | omega | exact Nat.le_refl _⟩, ⟨by repeat (first | (with_reducible first | exact HB.out | apply below_alloc | apply pw_below_drewN | apply below_drew1) | exact HB.out)⟩⟩
                    · replace c31 := Bool.eq_false_iff.mpr c31
                      subst c31
                      have H1 : (law_CurveGalois.j2 kj15 a1 a2 t513 t515 t517 false t520 false false) = some r := by rw [if_neg (show ¬ (false = true) by decide)] at H; exact H
                      clear H
                      have H := H1
                      clear H1
                      have H' := Aside0.mk H
                      clear H
                      go_wp2
                      go_meet
                      case rel => exact ⟨_, (false), (by first | rfl | (simp; done) | (simp [*]; done)), H', ⟨by have := HJ5.out; have := HJ15.out; first | omega | exact Nat.le_refl _⟩, ⟨by repeat (first | (with_reducible first | exact HB.out | apply below_alloc | apply pw_below_drewN | apply below_drew1) | exact HB.out)⟩⟩
                case rest =>
                  clear HC25
                  try clear c1
                  try clear c2
                  try clear p2
                  try clear c3
                  try clear c4
                  try clear c5
                  try clear c6
                  try clear c9
                  try clear c11
                  try clear c18
                  try clear c21
                  try clear c21b0
                  try clear c21b1
                  try clear c22
                  try clear c22b0
                  try clear c22b1
                  try clear c23
                  try clear c23b0
                  try clear c23b1
                  try clear c24
                  try clear c26
                  try clear c28
                  try clear c29
                  try clear c31
                  try clear c32
                  try clear p2
                  obtain ⟨kq, x83_24, rfl, HA, HJ24, HB⟩ := hcut
                  cases kq with
                  | zero => exact absurd HA.out (by simp [law_CurveGalois.j2])
                  | succ kj24 =>
                    have H := HA.out
                    clear HA
                    simp only [law_CurveGalois.j2] at H
                    by_cases c33 : x83_24 = true
                    · subst c33
                      have H1 : (some false) = some r := by rw [if_pos rfl] at H; exact H
                      clear H
                      have H := H1
                      clear H1
                      obtain rfl := Option.some.inj H
                      go_wp2
                      go_ret
                      exact ⟨by first | rfl | (simp [errW_none, errW_some] <;> rfl) | (simp [*, errW_none, errW_some] <;> rfl), by repeat (first | (with_reducible first | exact HB.out | apply below_alloc | apply pw_below_drewN | apply below_drew1) | exact HB.out)⟩
                    · replace c33 := Bool.eq_false_iff.mpr c33
                      subst c33
                      have H1 : (if t518 = true then (if ((decide (t517 ≤ a1)) == (decide (t513 ≥ a2))) = true then (if t521 = true then (some ((decide (t520 ≥ a1)) == (decide (t515 ≤ a2)))) else (some (false == (decide (t515 ≤ a2))))) else (some false)) else (if (false == (decide (t513 ≥ a2))) = true then (if t521 = true then (some ((decide (t520 ≥ a1)) == (decide (t515 ≤ a2)))) else (some (false == (decide (t515 ≤ a2))))) else (some false))) = some r := by rw [if_neg (show ¬ (false = true) by decide)] at H; exact H
                      clear H
                      have H := H1
                      clear H1
                      by_cases c34 : t518 = true
                      · subst c34
                        have H1 : (if ((decide (t517 ≤ a1)) == (decide (t513 ≥ a2))) = true then (if t521 = true then (some ((decide (t520 ≥ a1)) == (decide (t515 ≤ a2)))) else (some (false == (decide (t515 ≤ a2))))) else (some false)) = some r := by rw [if_pos rfl] at H; exact H
                        clear H
                        have H := H1
                        clear H1
                        by_cases c35 : ((decide (t517 ≤ a1)) == (decide (t513 ≥ a2))) = true
                        · rw [if_pos c35] at H
                          have c35b0 : ((decide (t517 ≤ a1)) == (decide (t513 ≥ a2))) = true := c35
                          (try (have c35b1 : decide ((decide (t517 ≤ a1)) = (decide (t513 ≥ a2))) = true := by simpa using c35))
                          (try (have c35b2 : ((decide (t517 ≤ a1)) == (decide (t513 ≥ a2))) = true := by simpa using c35))
                          clear c35
                          by_cases c36 : t521 = true
                          · subst c36
                            have H1 : (some ((decide (t520 ≥ a1)) == (decide (t515 ≤ a2)))) = some r := by rw [if_pos rfl] at H; exact H
                            clear H
                            have H := H1
                            clear H1
                            obtain rfl := Option.some.inj H
                            go_wp2
                            go_ret
                            exact ⟨by first | rfl | (simp [errW_none, errW_some] <;> rfl) | (simp [*, errW_none, errW_some] <;> rfl), by repeat (first | (with_reducible first | exact HB.out | apply below_alloc | apply pw_below_drewN | apply below_drew1) | exact HB.out)⟩
                          · replace c36 := Bool.eq_false_iff.mpr c36
                            subst c36
                            have H1 : (some (false == (decide (t515 ≤ a2)))) = some r := by rw [if_neg (show ¬ (false = true) by decide)] at H; exact H
                            clear H
                            have H := H1
                            clear H1
                            obtain rfl := Option.some.inj H
                            go_wp2
                            go_ret
                            exact ⟨by first | rfl | (simp [errW_none, errW_some] <;> rfl) | (simp [*, errW_none, errW_some] <;> rfl), by repeat (first | (with_reducible first | exact HB.out | apply below_alloc | apply pw_below_drewN | apply below_drew1) | exact HB.out)⟩
                        · rw [if_neg c35] at H
                          have c35b0 : ((decide (t517 ≤ a1)) == (decide (t513 ≥ a2))) = false := by simpa using c35
                          (try (have c35b1 : decide ((decide (t517 ≤ a1)) = (decide (t513 ≥ a2))) = false := by simpa using c35))
                          (try (have c35b2 : ((decide (t517 ≤ a1)) == (decide (t513 ≥ a2))) = false := by simpa using c35))
                          (try (have c35b3 : ¬ ((decide (t517 ≤ a1)) = (decide (t513 ≥ a2))) := by simpa using c35))
                          clear c35
                          obtain rfl := Option.some.inj H
                          go_wp2
                          go_ret
                          exact ⟨by first | rfl | (simp [errW_none, errW_some] <;> rfl) | (simp [*, errW_none, errW_some] <;> rfl), by repeat (first | (with_reducible first | exact HB.out | apply below_alloc | apply pw_below_drewN | apply below_drew1) | exact HB.out)⟩
                      · replace c34 := Bool.eq_false_iff.mpr c34
                        subst c34
                        have H1 : (if (false == (decide (t513 ≥ a2))) = true then (if t521 = true then (some ((decide (t520 ≥ a1)) == (decide (t515 ≤ a2)))) else (some (false == (decide (t515 ≤ a2))))) else (some false)) = some r := by rw [if_neg (show ¬ (false = true) by decide)] at H; exact H
                        clear H
                        have H := H1
                        clear H1
                        by_cases c37 : (false == (decide (t513 ≥ a2))) = true
                        · rw [if_pos c37] at H
                          have c37b0 : (false == (decide (t513 ≥ a2))) = true := c37
                          (try (have c37b1 : decide (false = (decide (t513 ≥ a2))) = true := by simpa using c37))
                          (try (have c37b2 : (false == (decide (t513 ≥ a2))) = true := by simpa using c37))
                          clear c37
                          by_cases c38 : t521 = true
                          · subst c38
                            have H1 : (some ((decide (t520 ≥ a1)) == (decide (t515 ≤ a2)))) = some r := by rw [if_pos rfl] at H; exact H
                            clear H
                            have H := H1
                            clear H1
                            obtain rfl := Option.some.inj H
                            go_wp2
                            go_ret
                            exact ⟨by first | rfl | (simp [errW_none, errW_some] <;> rfl) | (simp [*, errW_none, errW_some] <;> rfl), by repeat (first | (with_reducible first | exact HB.out | apply below_alloc | apply pw_below_drewN | apply below_drew1) | exact HB.out)⟩
                          · replace c38 := Bool.eq_false_iff.mpr c38
                            subst c38
                            have H1 : (some (false == (decide (t515 ≤ a2)))) = some r := by rw [if_neg (show ¬ (false = true) by decide)] at H; exact H
                            clear H
                            have H := H1
                            clear H1
                            obtain rfl := Option.some.inj H
                            go_wp2
                            go_ret
                            exact ⟨by first | rfl | (simp [errW_none, errW_some] <;> rfl) | (simp [*, errW_none, errW_some] <;> rfl), by repeat (first | (with_reducible first | exact HB.out | apply below_alloc | apply pw_below_drewN | apply below_drew1) | exact HB.out)⟩
                        · rw [if_neg c37] at H
                          have c37b0 : (false == (decide (t513 ≥ a2))) = false := by simpa using c37
                          (try (have c37b1 : decide (false = (decide (t513 ≥ a2))) = false := by simpa using c37))
                          (try (have c37b2 : (false == (decide (t513 ≥ a2))) = false := by simpa using c37))
                          (try (have c37b3 : ¬ (false = (decide (t513 ≥ a2))) := by simpa using c37))
                          clear c37
                          obtain rfl := Option.some.inj H
                          go_wp2
                          go_ret
                          exact ⟨by first | rfl | (simp [errW_none, errW_some] <;> rfl) | (simp [*, errW_none, errW_some] <;> rfl), by repeat (first | (with_reducible first | exact HB.out | apply below_alloc | apply pw_below_drewN | apply below_drew1) | exact HB.out)⟩
  · replace c5 := Bool.eq_false_iff.mpr c5
    subst c5
    have H1 : (some false) = some r := by rw [if_neg (show ¬ (false = true) by decide)] at H; exact H
    clear H
    have H := H1
    clear H1
    obtain rfl := Option.some.inj H
    go_enter Tryd.func6, Tryd.ntmps6
    go_wp2_with (first | ((with_reducible refine gate_callee (f := 18) rfl ?_); refine goesL_ (some 17) rfl rfl Tryd.func18 (by kernel_rfl) rfl #[] rfl (by (try simp only [List.map_toArray, List.map_cons, List.map_nil]); first | done | rfl | (simp only [List.length_drop, List.length_take]; rfl)) ?_; (with_reducible refine (law_sane.calls  false _ A4.out).mono ?_); rintro e w39 ⟨rfl, hb⟩; refine ⟨_, rfl, ?_⟩; have n0_ := Aside0.mk (below_step (by repeat (first | (with_reducible first | exact HB.out | apply below_alloc | apply pw_below_drewN | apply below_drew1) | exact HB.out)) hb); clear HB; have HB := n0_; clear n0_; (try clear hb); (try clear hb2); (try clear hk); (try clear hi)))
    go_ret
    exact ⟨by first | rfl | (simp [errW_none, errW_some] <;> rfl) | (simp [*, errW_none, errW_some] <;> rfl), by repeat (first | (with_reducible first | exact HB.out | apply below_alloc | apply pw_below_drewN | apply below_drew1) | exact HB.out)⟩
end Go.Proofs.YtlhhpogaaneamaaDoor.X
namespace Go.Proofs.YtlhhpogaaneamaaDoor.X
open Go.RowKit
set_option linter.unusedVariables false
theorem galois_true (c : List S57) (x y : Int) : ∃ k, law_CurveGalois.f k c x y = some true := by
  obtain ⟨kv, hv⟩ := (valid_ev c).fix
  have hv' := hv kv (Nat.le_refl _)
  refine ⟨kv + 6, ?_⟩
  cases hg : goodB c with
  | false =>
    rw [hg] at hv'
    simp only [law_CurveGalois.f, law_sane.f, Option.bind_some, hv', if_true, law_CurveGalois.j0]
    rfl
  | true =>
    rw [hg] at hv'
    have h := good_of hg
    cases hx : inB c x with
    | false =>
      simp only [law_CurveGalois.f, law_sane.f, Option.bind_some, hv', if_true, in_eq h, hx, law_CurveGalois.j0, Bool.not_false]
    | true =>
      have hr := (inB_iff h).1 hx
      obtain ⟨lo, e1, hlo⟩ := low_in h hx
      obtain ⟨hi, e2, hhi⟩ := high_in h hx
      have a1 := hlo y
      have a2 := hhi y
      rcases first_spec h y with ⟨e3, h3⟩ | ⟨r, e3, r0, r1, h3⟩ <;> rcases last_spec h y with ⟨e4, h4⟩ | ⟨s, e4, s0, s1, h4⟩
      all_goals
        have b3 := h3 x hr.1 hr.2
        have b4 := h4 x hr.1 hr.2
        simp only [law_CurveGalois.f, law_sane.f, Option.bind_some, hv', if_true, in_eq h, hx, law_CurveGalois.j0, Bool.not_true, e1, e2, e3, e4, law_CurveGalois.j1]
      · have c1 : ¬ y ≤ lo := by rw [a1]; grind
        have c2 : ¬ hi ≤ y := by rw [a2]; grind
        simp [law_CurveGalois.j2, c1, c2]
      · have c1 : ¬ y ≤ lo := by rw [a1]; grind
        have c2 : (x ≤ s) ↔ (hi ≤ y) := by rw [a2]; exact b4
        have i2 : inB c s = true := (inB_iff h).2 ⟨s0, s1⟩
        simp [law_CurveGalois.j2, c1, c2, i2]
      · have c1 : (r ≤ x) ↔ (y ≤ lo) := by rw [a1]; exact b3
        have c2 : ¬ hi ≤ y := by rw [a2]; grind
        have i1 : inB c r = true := (inB_iff h).2 ⟨r0, r1⟩
        simp [law_CurveGalois.j2, c1, c2, i1]
      · have c1 : (r ≤ x) ↔ (y ≤ lo) := by rw [a1]; exact b3
        have c2 : (x ≤ s) ↔ (hi ≤ y) := by rw [a2]; exact b4
        have i1 : inB c r = true := (inB_iff h).2 ⟨r0, r1⟩
        have i2 : inB c s = true := (inB_iff h).2 ⟨s0, s1⟩
        simp [law_CurveGalois.j2, c1, c2, i1, i2]
end Go.Proofs.YtlhhpogaaneamaaDoor.X
namespace Go.Proofs.YtlhhpogaaneamaaDoor
open Go Go.ChangeShapes Go.WideShapes Go.ChangeAt Go.RowKit Go.Proofs.YtlhhpogaaneamaaDoorW.PrintWords Go.Proofs.YtlhhpogaaneamaaDoorW.PrintLast Go.Proofs.YtlhhpogaaneamaaDoorW.PrintMore
set_option linter.unusedVariables false
set_option maxRecDepth 100000 in
theorem curveGalois_lifted (os : Os) (started : os.Started) (H : Type) (enc : TypeId × Value → H) :
    ReturnsInHanded {} Tryd.checked os 6 .any (fun w args => (Rows.curveGaloisSpec.pre enc Tryd.prog Tryd.f6 [] false w args ∧ laidMet Tryd.prog laidL w) ∧ sizedMet enc Tryd.prog Tryd.f6 (OpenSpec.ofChange Rows.curveGaloisSpec) false w args)
      (Rows.curveGaloisSpec.post enc Tryd.prog Tryd.f6 false true false false) := by
  refine returnsInHanded_of_change_and (C := Tryd.checked) (X := fun w _ => laidMet Tryd.prog laidL w) (fun _ _ _ hh h => h.of_heap hh) ownK started (by kernel_rfl) Tryd.func6
    (ChangeSpec.witness_at (enc := enc) (C := Tryd.checked) (os := os) (X := fun w _ => laidMet Tryd.prog laidL w) false (laidWorld os) #[.slice none 0 0, .int .i64 0, .int .i64 0] 8 rfl (by kernel_rfl) (by kernel_rfl) (by kernel_rfl) (by kernel_rfl) (by kernel_rfl) (laidWorld_met os _)) ?_
  intro W base args ds gs before hval0 hW _ _ hL _
  have hval : ∀ (j : Nat) t v, Tryd.f6.params[j]? = some t → args[j]? = some v → Value.okWide Tryd.prog W .any base t v := hval0
  have hW' := hW
  obtain ⟨p, q, hA0, hV, rfl, hfz, hnd⟩ := hW
  have hA : DataW.TrodAll enc Tryd.prog W 0 (fun _ => true) true Tryd.f6.params.toList args.toList ds p := hA0
  rw [Tryd.params6] at hA hval
  obtain ⟨v0, vs0, d0, ds0, p0, q0, hargs, rfl, rfl, h0, r0⟩ := trodAll_cons hA
  obtain ⟨v1, vs1, d1, ds1, p1, q1, rfl, rfl, rfl, h1, r1⟩ := trodAll_cons r0
  obtain ⟨v2, vs2, d2, ds2, p2, q2, rfl, rfl, rfl, h2, r2⟩ := trodAll_cons r1
  obtain ⟨rfl, rfl, rfl⟩ := trodAll_nil r2
  obtain rfl : args = #[v0, v1, v2] := by cases args; simp_all
  obtain ⟨rfl, rfl⟩ := trodVars_none hV
  obtain ⟨A0, c0, l0, rfl, hc0, hC0⟩ := open_curve (hval 0 23 v0 rfl rfl) h0
  have lt0 : ∀ x ∈ p0, x.block < W.heap.size := by obtain ⟨m, hm⟩ := h0; exact DataW.trod_lt m _ _ _ hm
  obtain ⟨a1, rfl, rfl, rfl, w1⟩ := open_int Tryd.underlying3 (hval 1 3 v1 rfl rfl) h1
  obtain ⟨a2, rfl, rfl, rfl, w2⟩ := open_int Tryd.underlying3 (hval 2 3 v2 rfl rfl) h2
  obtain ⟨k, hk⟩ := X.galois_true l0 a1 a2
  clear hA0 hval0
  refine (X.law_CurveGalois.calls k A0 c0 l0 a1 a2 true W hC0 hc0 hk).mono fun e W' ⟨he, bel⟩ => ?_
  subst he
  exact ⟨_, rfl, _, _, _, [], _, [], hW', trodAll_mk1 (shut_bool Tryd.underlying4 _), (trodAll_cons_mk (Below.trod laidOutK (by kernel_rfl) (of_decide_eq_true (by kernel_rfl)) h0 bel lt0) (trodAll_cons_mk (shut_int Tryd.underlying3 w1) (trodAll_cons_mk (shut_int Tryd.underlying3 w2) trodAll_mk0))), rfl, bel.frame _, fun h => by cases h⟩
theorem curveGalois_row : Rows.CurveGaloisSaid :=
  OpenClaim.holds_of_wide 6 Tryd.f6 rfl rfl rfl rfl rfl rfl rfl ⟨rfl, rfl, rfl, rfl, rfl⟩ rfl rfl rfl rfl rfl (by kernel_rfl) Tryd.func6 (by kernel_rfl)
    (of_decide_eq_true (by kernel_rfl)) (by unfold Func.isWrapper; rw [if_neg (of_decide_eq_false (by kernel_rfl))]; exact ⟨rfl, rfl⟩)
    (fun os started H enc _ => curveGalois_lifted os started H enc)
theorem curveGalois_holds : Rows.CurveGaloisCardSaid :=
  Claim7.holds_tied_plain_at .later [] [.data, .data, .data] true (true, "76fa1c69d7f5c33adb8b59679630511c53b9fa1b41b5e595b97b4acdba6f7c62") false
    curveGalois_row (fun _ h => by cases h) (by kernel_rfl) (fun _ h => by cases h) curveGalois_row_tie rfl ⟨rfl, rfl⟩ (by kernel_rfl) rfl
    (fun f fn hf hfn => by
      obtain rfl : f = 6 := Option.some.inj ((show Tryd.prog.funcNamed "waterhour/waterhourlaw01.CurveGalois" = some 6 by kernel_rfl).symm.trans hf) |>.symm
      obtain rfl : fn = Tryd.f6 := (Option.some.inj (Tryd.func6.symm.trans hfn)).symm
      exact ⟨by kernel_rfl, fun j t ht => by
        rw [Tryd.params6] at ht
        have h3 : t = 3 ∨ t = 23 := by
          have := List.mem_of_getElem? (l := [23, 3, 3]) (i := j) (by simpa using ht)
          exact (by simpa using this : t = 23 ∨ t = 3).symm
        rcases h3 with rfl | rfl
        · exact (show Tryd.prog.wantsStandIn 3 = false by kernel_rfl)
        · exact (show Tryd.prog.wantsStandIn 23 = false by kernel_rfl)⟩)
    (by kernel_rfl)
end Go.Proofs.YtlhhpogaaneamaaDoor
