/- curveTurned_holds: the declarations of this seat that its proof uses. Conditions: none. -/
import Derived.Test.YtlhhpogaaneamaaDoorCards
import Derived.SevenTiedAt
import Derived.OpenShut
import Derived.ChangeOld
import Derived.Test.YtlhhpogaaneamaaDoorKTP4
namespace Go.Proofs.YtlhhpogaaneamaaDoor.X
open Go.RowKit Go.Proofs.YtlhhpogaaneamaaDoorW.PrintWords Go.Proofs.YtlhhpogaaneamaaDoorW.PrintLast Go.Proofs.YtlhhpogaaneamaaDoorW.PrintMore
set_option linter.unusedVariables false
set_option linter.unusedSimpArgs false
attribute [local go_sem high] eqA43
mutual
def law_CurveTurned.j0 : Nat → List (S57) → Int → Int → List (S57) → Bool → Option (Bool)
  | 0, _, _, _, _, _ => none
  | k + 1, x0, x1, x2, x7, x54 => if x54 = true then (some false) else ((ref_In.f x7 x2).bind fun t542 => (if t542 = true then ((curve_First.f x0 x2).bind fun bt543 => ((curve_Last.f x0 x2).bind fun bt546 => ((curve_High.f x7 x2).bind fun bt549 => ((curve_Low.f x7 x2).bind fun bt551 => (if bt543.2.2 = 0 then (if bt546.2.2 = 0 then (if bt549.2 = 0 then (if bt551.2 = 0 then (if bt543.2.1 = true then (if bt546.2.1 = true then (if bt543.1 = bt549.1 then (law_CurveTurned.j1 k x0 x1 x7 (bt546.1 != bt551.1)) else (law_CurveTurned.j1 k x0 x1 x7 true)) else (law_CurveTurned.j1 k x0 x1 x7 true)) else (law_CurveTurned.j1 k x0 x1 x7 true)) else (law_CurveTurned.j1 k x0 x1 x7 true)) else (law_CurveTurned.j1 k x0 x1 x7 true)) else (law_CurveTurned.j1 k x0 x1 x7 true)) else (law_CurveTurned.j1 k x0 x1 x7 true)))))) else (law_CurveTurned.j2 k x0 x1 x7)))
def law_CurveTurned.j2 : Nat → List (S57) → Int → List (S57) → Option (Bool)
  | 0, _, _, _ => none
  | k + 1, x0, x1, x7 => (ref_In.f x0 x1).bind fun t553 => (if t553 = true then ((curve_Through.f x0 x7 x1).bind fun bt554 => (if bt554.2.2 = 0 then (law_CurveTurned.j3 k (!(bt554.1 == x1) || (!(bt554.2.1 == x1)))) else (law_CurveTurned.j3 k true))) else (some true))
def law_CurveTurned.j3 : Nat → Bool → Option (Bool)
  | 0, _ => none
  | k + 1, x134 => if x134 = true then (some false) else (some true)
def law_CurveTurned.j1 : Nat → List (S57) → Int → List (S57) → Bool → Option (Bool)
  | 0, _, _, _, _ => none
  | k + 1, x0, x1, x7, x115 => if x115 = true then (some false) else (law_CurveTurned.j2 k x0 x1 x7)
end
def law_CurveTurned.f (k : Nat) (l0 : List (S57)) (a1 : Int) (a2 : Int) : Option (Bool) := (law_sane.f).bind fun t530 => (if t530 = true then ((ref_Valid.f k l0).bind fun t531 => (if t531 = true then ((curve_Turned.f l0).bind fun bt532 => ((curve_Turned.f bt532.1).bind fun bt536 => (if bt532.2 = 0 then (if bt536.2 = 0 then ((ref_Valid.f k bt532.1).bind fun t540 => (if t540 = true then ((ref_Same.f k bt536.1 l0).bind fun t541 => (law_CurveTurned.j0 k l0 a1 a2 bt532.1 (!t541))) else (law_CurveTurned.j0 k l0 a1 a2 bt532.1 true))) else (law_CurveTurned.j0 k l0 a1 a2 bt532.1 true)) else (law_CurveTurned.j0 k l0 a1 a2 bt532.1 true)))) else (some true))) else (some false))
set_option maxHeartbeats 8000000 in
set_option maxRecDepth 100000 in
theorem law_CurveTurned.calls (k : Nat) (A0 : Option Addr) (c0 : Nat) (l0 : List (S57)) (a1 : Int) (a2 : Int) (r : Bool) (w : World) (hr0 : Kd.C k57 w A0 l0.length l0) (hc0 : l0.length ≤ c0) (h : law_CurveTurned.f k l0 a1 a2 = some r) :
    Calls Tryd.prog 8 #[.slice A0 l0.length c0, .int .i64 a1, .int .i64 a2] w fun e w' => e = .returned (.bool r) ∧ Below w.heap.size w w' := by
  have hu43 := Tryd.underlying43
  have HR0 := Aside0.mk hr0
  have HC0 := Aside0.mk hc0
  clear hr0 hc0
  have HB := Aside0.mk (Below.refl w.heap.size w)
  have H : ((law_sane.f).bind fun t530 => (if t530 = true then ((ref_Valid.f k l0).bind fun t531 => (if t531 = true then ((curve_Turned.f l0).bind fun bt532 => ((curve_Turned.f bt532.1).bind fun bt536 => (if bt532.2 = 0 then (if bt536.2 = 0 then ((ref_Valid.f k bt532.1).bind fun t540 => (if t540 = true then ((ref_Same.f k bt536.1 l0).bind fun t541 => (law_CurveTurned.j0 k l0 a1 a2 bt532.1 (!t541))) else (law_CurveTurned.j0 k l0 a1 a2 bt532.1 true))) else (law_CurveTurned.j0 k l0 a1 a2 bt532.1 true)) else (law_CurveTurned.j0 k l0 a1 a2 bt532.1 true)))) else (some true))) else (some false))) = some r := h
  clear h
  replace H := Option.bind_eq_some_iff.mp H
  obtain ⟨t530, A40, H⟩ := H
  replace H : (if t530 = true then ((ref_Valid.f k l0).bind fun t531 => (if t531 = true then ((curve_Turned.f l0).bind fun bt532 => ((curve_Turned.f bt532.1).bind fun bt536 => (if bt532.2 = 0 then (if bt536.2 = 0 then ((ref_Valid.f k bt532.1).bind fun t540 => (if t540 = true then ((ref_Same.f k bt536.1 l0).bind fun t541 => (law_CurveTurned.j0 k l0 a1 a2 bt532.1 (!t541))) else (law_CurveTurned.j0 k l0 a1 a2 bt532.1 true))) else (law_CurveTurned.j0 k l0 a1 a2 bt532.1 true)) else (law_CurveTurned.j0 k l0 a1 a2 bt532.1 true)))) else (some true))) else (some false)) = some r := H
  have A4 := Aside0.mk A40
  clear A40
  by_cases c5 : t530 = true
  · subst c5
    have H1 : ((ref_Valid.f k l0).bind fun t531 => (if t531 = true then ((curve_Turned.f l0).bind fun bt532 => ((curve_Turned.f bt532.1).bind fun bt536 => (if bt532.2 = 0 then (if bt536.2 = 0 then ((ref_Valid.f k bt532.1).bind fun t540 => (if t540 = true then ((ref_Same.f k bt536.1 l0).bind fun t541 => (law_CurveTurned.j0 k l0 a1 a2 bt532.1 (!t541))) else (law_CurveTurned.j0 k l0 a1 a2 bt532.1 true))) else (law_CurveTurned.j0 k l0 a1 a2 bt532.1 true)) else (law_CurveTurned.j0 k l0 a1 a2 bt532.1 true)))) else (some true))) = some r := by rw [if_pos rfl] at H; exact H
    clear H
    have H := H1
    clear H1
    replace H := Option.bind_eq_some_iff.mp H
    obtain ⟨t531, A60, H⟩ := H
    replace H : (if t531 = true then ((curve_Turned.f l0).bind fun bt532 => ((curve_Turned.f bt532.1).bind fun bt536 => (if bt532.2 = 0 then (if bt536.2 = 0 then ((ref_Valid.f k bt532.1).bind fun t540 => (if t540 = true then ((ref_Same.f k bt536.1 l0).bind fun t541 => (law_CurveTurned.j0 k l0 a1 a2 bt532.1 (!t541))) else (law_CurveTurned.j0 k l0 a1 a2 bt532.1 true))) else (law_CurveTurned.j0 k l0 a1 a2 bt532.1 true)) else (law_CurveTurned.j0 k l0 a1 a2 bt532.1 true)))) else (some true)) = some r := H
    have A6 := Aside0.mk A60
    clear A60
    by_cases c7 : t531 = true
    · subst c7
      have H1 : ((curve_Turned.f l0).bind fun bt532 => ((curve_Turned.f bt532.1).bind fun bt536 => (if bt532.2 = 0 then (if bt536.2 = 0 then ((ref_Valid.f k bt532.1).bind fun t540 => (if t540 = true then ((ref_Same.f k bt536.1 l0).bind fun t541 => (law_CurveTurned.j0 k l0 a1 a2 bt532.1 (!t541))) else (law_CurveTurned.j0 k l0 a1 a2 bt532.1 true))) else (law_CurveTurned.j0 k l0 a1 a2 bt532.1 true)) else (law_CurveTurned.j0 k l0 a1 a2 bt532.1 true)))) = some r := by rw [if_pos rfl] at H; exact H
      clear H
      have H := H1
      clear H1
      replace H := Option.bind_eq_some_iff.mp H
      obtain ⟨⟨t532, t533⟩, A80, H⟩ := H
      replace H : ((curve_Turned.f t532).bind fun bt536 => (if t533 = 0 then (if bt536.2 = 0 then ((ref_Valid.f k t532).bind fun t540 => (if t540 = true then ((ref_Same.f k bt536.1 l0).bind fun t541 => (law_CurveTurned.j0 k l0 a1 a2 t532 (!t541))) else (law_CurveTurned.j0 k l0 a1 a2 t532 true))) else (law_CurveTurned.j0 k l0 a1 a2 t532 true)) else (law_CurveTurned.j0 k l0 a1 a2 t532 true))) = some r := H
      have A8 := Aside0.mk A80
      clear A80
      replace H := Option.bind_eq_some_iff.mp H
      obtain ⟨⟨t536, t537⟩, A90, H⟩ := H
      replace H : (if t533 = 0 then (if t537 = 0 then ((ref_Valid.f k t532).bind fun t540 => (if t540 = true then ((ref_Same.f k t536 l0).bind fun t541 => (law_CurveTurned.j0 k l0 a1 a2 t532 (!t541))) else (law_CurveTurned.j0 k l0 a1 a2 t532 true))) else (law_CurveTurned.j0 k l0 a1 a2 t532 true)) else (law_CurveTurned.j0 k l0 a1 a2 t532 true)) = some r := H
      have A9 := Aside0.mk A90
      clear A90
      have HC10 := Aside0.mk H
      clear H
      go_enter Tryd.func8, Tryd.ntmps8
      go_upto_region 7 with (first | ((with_reducible refine gate_callee (f := 18) rfl ?_); refine goesL_ (some 23) rfl rfl Tryd.func18 (by kernel_rfl) rfl #[] rfl (by (try simp only [List.map_toArray, List.map_cons, List.map_nil]); first | done | rfl | (simp only [List.length_drop, List.length_take]; rfl)) ?_; (with_reducible refine (law_sane.calls  true _ A4.out).mono ?_); rintro e w11 ⟨rfl, hb⟩; refine ⟨_, rfl, ?_⟩; have n0_ := Aside0.mk (below_step (by repeat (first | (with_reducible first | exact HB.out | apply below_alloc | apply pw_below_drewN | apply below_drew1) | exact HB.out)) hb); clear HB; have HB := n0_; clear n0_; (try clear hb); (try clear hb2); (try clear hk); (try clear hi)) | ((with_reducible refine gate_callee (f := 42) rfl ?_); refine goesL_ (some 26) rfl rfl Tryd.func42 (by kernel_rfl) rfl #[.slice A0 l0.length c0] rfl (by (try simp only [List.map_toArray, List.map_cons, List.map_nil]); first | done | rfl | (simp only [List.length_drop, List.length_take]; rfl)) ?_; (with_reducible refine (ref_Valid.calls k _ _ l0 true _ ?side1 ?side2 A6.out).mono ?_); (case side1 => repeat (first | exact (Kd.C_below HR0.out HB.out) | (with_reducible refine Kd.C_alloc ?_ _) | (with_reducible refine Kd.C_drewN ?_ _) | (with_reducible refine Kd.C_drew ?_))); (case side2 => exact HC0.out); rintro e w' ⟨rfl, ⟨nd, rfl⟩⟩; refine ⟨_, rfl, ?_⟩) | ((with_reducible refine gate_callee (f := 52) rfl ?_); refine goesL_ (some 30) rfl rfl Tryd.func52 (by kernel_rfl) rfl #[.slice A0 l0.length c0] rfl (by (try simp only [List.map_toArray, List.map_cons, List.map_nil]); first | done | rfl | (simp only [List.length_drop, List.length_take]; rfl)) ?_; (with_reducible refine (curve_Turned.calls _ _ l0 t532 t533 _ ?side1 ?side2 A8.out).mono ?_); (case side1 => repeat (first | exact (Kd.C_below HR0.out (by repeat (first | (with_reducible first | exact HB.out | apply below_alloc | apply pw_below_drewN | apply below_drew1) | exact HB.out))) | (with_reducible refine Kd.C_alloc ?_ _) | (with_reducible refine Kd.C_drewN ?_ _) | (with_reducible refine Kd.C_drew ?_))); (case side2 => exact HC0.out); rintro e w12 ⟨v534, rfl, ho0, hb⟩; refine ⟨_, rfl, ?_⟩; have n0_ := Aside0.mk (Kd.R_lower ho0 (below_size (by repeat (first | (with_reducible first | exact HB.out | apply below_alloc | apply pw_below_drewN | apply below_drew1) | exact HB.out)))); have n1_ := Aside0.mk (below_step (by repeat (first | (with_reducible first | exact HB.out | apply below_alloc | apply pw_below_drewN | apply below_drew1) | exact HB.out)) hb); clear HB; have HO535 := n0_; have HB := n1_; clear n0_ n1_; (try clear hb); (try clear hb2); (try clear hk); (try clear hi); (try clear ho0); obtain ⟨Ao13, co13, eo13⟩ := Kd.R_slice HO535.out; subst eo13) | ((with_reducible refine gate_callee (f := 52) rfl ?_); refine goesL_ (some 35) rfl rfl Tryd.func52 (by kernel_rfl) rfl #[.slice Ao13 t532.length co13] rfl (by (try simp only [List.map_toArray, List.map_cons, List.map_nil]); first | done | rfl | (simp only [List.length_drop, List.length_take]; rfl)) ?_; (with_reducible refine (curve_Turned.calls _ _ t532 t536 t537 _ ?side1 ?side2 A9.out).mono ?_); (case side1 => repeat (first | exact (Kd.R_reads' HO535.out).2.2 | (with_reducible refine Kd.C_alloc ?_ _) | (with_reducible refine Kd.C_drewN ?_ _) | (with_reducible refine Kd.C_drew ?_))); (case side2 => exact (Kd.R_reads' HO535.out).2.1); rintro e w14 ⟨v538, rfl, ho0, hb⟩; refine ⟨_, rfl, ?_⟩; have n0_ := Aside0.mk (Kd.R_elder' (by (with_reducible repeat (first | apply Kd.R_alloc | apply Kd.R_drewN | apply Kd.R_drew)); exact HO535.out) (Kd.R_base ho0) hb); have n1_ := Aside0.mk (Kd.R_lower (Kd.R_new' ho0 (Kd.R_lt (by (with_reducible repeat (first | apply Kd.R_alloc | apply Kd.R_drewN | apply Kd.R_drew)); exact HO535.out))) (below_size (by repeat (first | (with_reducible first | exact HB.out | apply below_alloc | apply pw_below_drewN | apply below_drew1) | exact HB.out)))); have n2_ := Aside0.mk (below_step (by repeat (first | (with_reducible first | exact HB.out | apply below_alloc | apply pw_below_drewN | apply below_drew1) | exact HB.out)) hb); clear HO535; clear HB; have HO535 := n0_; have HO539 := n1_; have HB := n2_; clear n0_ n1_ n2_; (try clear hb); (try clear hb2); (try clear hk); (try clear hi); (try clear ho0)))
      (try simp only [Act.put, List.setIfInBounds_toArray, List.set_cons_zero, List.set_cons_succ])
      go_cut [54] (fun v54 wc => ∃ (kq : Nat) (x54_9 : Bool), v54 = .bool x54_9 ∧ Aside0 (law_CurveTurned.j0 kq l0 a1 a2 t532 x54_9 = some r) ∧ Aside0 (kq ≤ k) ∧ Aside0 (Kd.R k57 57 wc w.heap.size (fun _ => True) (.slice Ao13 t532.length co13) t532) ∧ Aside0 (Below w.heap.size w wc))
      case first =>
        have H := HC10.out
        clear HC10
        by_cases c15 : t533 = 0
        · rw [if_pos c15] at H
          have c15b0 : (t533 == 0) = true := beq_iff_eq.mpr c15
          have c15b1 : (t533 != 0) = false := bne_eq_false_iff_eq.mpr c15
          clear c15
          (first | rw [c15b0] | (simp only [i64_w, i32_w]; rw [c15b0]) | skip)
          by_cases c16 : t537 = 0
          · rw [if_pos c16] at H
            have c16b0 : (t537 == 0) = true := beq_iff_eq.mpr c16
            have c16b1 : (t537 != 0) = false := bne_eq_false_iff_eq.mpr c16
            clear c16
            replace H := Option.bind_eq_some_iff.mp H
            obtain ⟨t540, A170, H⟩ := H
            replace H : (if t540 = true then ((ref_Same.f k t536 l0).bind fun t541 => (law_CurveTurned.j0 k l0 a1 a2 t532 (!t541))) else (law_CurveTurned.j0 k l0 a1 a2 t532 true)) = some r := H
            have A17 := Aside0.mk A170
            clear A170
            by_cases c18 : t540 = true
            · subst c18
              have H1 : ((ref_Same.f k t536 l0).bind fun t541 => (law_CurveTurned.j0 k l0 a1 a2 t532 (!t541))) = some r := by rw [if_pos rfl] at H; exact H
              clear H
              have H := H1
              clear H1
              replace H := Option.bind_eq_some_iff.mp H
              obtain ⟨t541, A190, H⟩ := H
              replace H : (law_CurveTurned.j0 k l0 a1 a2 t532 (!t541)) = some r := H
              have A19 := Aside0.mk A190
              clear A190
              have H' := Aside0.mk H
              clear H
              go_wp2_with (first | (go_at_call 42; (with_reducible refine (ref_Valid.calls k _ _ t532 true _ ?side1 ?side2 A17.out).mono ?_); (case side1 => repeat (first | exact (Kd.R_reads' HO535.out).2.2 | (with_reducible refine Kd.C_alloc ?_ _) | (with_reducible refine Kd.C_drewN ?_ _) | (with_reducible refine Kd.C_drew ?_))); (case side2 => exact (Kd.R_reads' HO535.out).2.1); rintro e w' ⟨rfl, ⟨nd, rfl⟩⟩; obtain ⟨Ao20, co20, eo20⟩ := Kd.R_slice HO539.out; subst eo20) | (go_at_call 45; (with_reducible refine (ref_Same.calls k _ _ t536 _ _ l0 t541 _ ?side1 ?side2 ?side3 ?side4 A19.out).mono ?_); (case side1 => repeat (first | exact (Kd.R_reads' HO539.out).2.2 | (with_reducible refine Kd.C_alloc ?_ _) | (with_reducible refine Kd.C_drewN ?_ _) | (with_reducible refine Kd.C_drew ?_))); (case side2 => exact (Kd.R_reads' HO539.out).2.1); (case side3 => repeat (first | exact (Kd.C_below HR0.out (by repeat (first | (with_reducible first | exact HB.out | apply below_alloc | apply pw_below_drewN | apply below_drew1) | exact HB.out))) | (with_reducible refine Kd.C_alloc ?_ _) | (with_reducible refine Kd.C_drewN ?_ _) | (with_reducible refine Kd.C_drew ?_))); (case side4 => exact HC0.out); rintro e w' ⟨rfl, ⟨nd, rfl⟩⟩))
              go_meet
              case rel => exact ⟨_, (!t541), (by first | rfl | (simp; done) | (simp [*]; done)), H', ⟨by first | omega | exact Nat.le_refl _⟩, ⟨by (with_reducible repeat (first | apply Kd.R_alloc | apply Kd.R_drewN | apply Kd.R_drew)); exact Kd.R_mono HO535.out (fun _ hk => trivial)⟩, ⟨by repeat (first | (with_reducible first | exact HB.out | apply below_alloc | apply pw_below_drewN | apply below_drew1) | exact HB.out)⟩⟩
            · replace c18 := Bool.eq_false_iff.mpr c18
              subst c18
              have H1 : (law_CurveTurned.j0 k l0 a1 a2 t532 true) = some r := by rw [if_neg (show ¬ (false = true) by decide)] at H; exact H
              clear H
              have H := H1
              clear H1
              have H' := Aside0.mk H
              clear H
              go_wp2_with (first | (go_at_call 42; (with_reducible refine (ref_Valid.calls k _ _ t532 false _ ?side1 ?side2 A17.out).mono ?_); (case side1 => repeat (first | exact (Kd.R_reads' HO535.out).2.2 | (with_reducible refine Kd.C_alloc ?_ _) | (with_reducible refine Kd.C_drewN ?_ _) | (with_reducible refine Kd.C_drew ?_))); (case side2 => exact (Kd.R_reads' HO535.out).2.1); rintro e w' ⟨rfl, ⟨nd, rfl⟩⟩))
              go_meet
              case rel => exact ⟨_, (true), (by first | rfl | (simp; done) | (simp [*]; done)), H', ⟨by first | omega | exact Nat.le_refl _⟩, ⟨by (with_reducible repeat (first | apply Kd.R_alloc | apply Kd.R_drewN | apply Kd.R_drew)); exact Kd.R_mono HO535.out (fun _ hk => trivial)⟩, ⟨by repeat (first | (with_reducible first | exact HB.out | apply below_alloc | apply pw_below_drewN | apply below_drew1) | exact HB.out)⟩⟩
          · rw [if_neg c16] at H
            have c16b0 : (t537 == 0) = false := beq_eq_false_iff_ne.mpr c16
            have c16b1 : (t537 != 0) = true := bne_iff_ne.mpr c16
            have H' := Aside0.mk H
            clear H
            go_wp2
            go_meet
            case rel => exact ⟨_, (true), (by first | rfl | (simp; done) | (simp [*]; done)), H', ⟨by first | omega | exact Nat.le_refl _⟩, ⟨by (with_reducible repeat (first | apply Kd.R_alloc | apply Kd.R_drewN | apply Kd.R_drew)); exact Kd.R_mono HO535.out (fun _ hk => trivial)⟩, ⟨by repeat (first | (with_reducible first | exact HB.out | apply below_alloc | apply pw_below_drewN | apply below_drew1) | exact HB.out)⟩⟩
        · rw [if_neg c15] at H
          have c15b0 : (t533 == 0) = false := beq_eq_false_iff_ne.mpr c15
          have c15b1 : (t533 != 0) = true := bne_iff_ne.mpr c15
          (first | rw [c15b0] | (simp only [i64_w, i32_w]; rw [c15b0]) | skip)
          have H' := Aside0.mk H
          clear H
          go_wp2
          go_meet
          case rel => exact ⟨_, (true), (by first | rfl | (simp; done) | (simp [*]; done)), H', ⟨by first | omega | exact Nat.le_refl _⟩, ⟨by (with_reducible repeat (first | apply Kd.R_alloc | apply Kd.R_drewN | apply Kd.R_drew)); exact Kd.R_mono HO535.out (fun _ hk => trivial)⟩, ⟨by repeat (first | (with_reducible first | exact HB.out | apply below_alloc | apply pw_below_drewN | apply below_drew1) | exact HB.out)⟩⟩
      case rest =>
        clear HC10
        try clear c1
        try clear p2
        try clear c4
        try clear c5
        try clear c7
        try clear c8
        try clear c15
        try clear c15b0
        try clear c15b1
        try clear c16
        try clear c16b0
        try clear c16b1
        try clear c18
        obtain ⟨kq, x54_9, rfl, HA, HJ9, HO_7, HB⟩ := hcut
        cases kq with
        | zero => exact absurd HA.out (by simp [law_CurveTurned.j0])
        | succ kj9 =>
          have H := HA.out
          clear HA
          simp only [law_CurveTurned.j0] at H
          by_cases c21 : x54_9 = true
          · subst c21
            have H1 : (some false) = some r := by rw [if_pos rfl] at H; exact H
            clear H
            have H := H1
            clear H1
            obtain rfl := Option.some.inj H
            go_wp2
            go_ret
            exact ⟨by first | rfl | (simp [errW_none, errW_some] <;> rfl) | (simp [*, errW_none, errW_some] <;> rfl), by repeat (first | (with_reducible first | exact HB.out | apply below_alloc | apply pw_below_drewN | apply below_drew1) | exact HB.out)⟩
          · replace c21 := Bool.eq_false_iff.mpr c21
            subst c21
            have H1 : ((ref_In.f t532 a2).bind fun t542 => (if t542 = true then ((curve_First.f l0 a2).bind fun bt543 => ((curve_Last.f l0 a2).bind fun bt546 => ((curve_High.f t532 a2).bind fun bt549 => ((curve_Low.f t532 a2).bind fun bt551 => (if bt543.2.2 = 0 then (if bt546.2.2 = 0 then (if bt549.2 = 0 then (if bt551.2 = 0 then (if bt543.2.1 = true then (if bt546.2.1 = true then (if bt543.1 = bt549.1 then (law_CurveTurned.j1 kj9 l0 a1 t532 (bt546.1 != bt551.1)) else (law_CurveTurned.j1 kj9 l0 a1 t532 true)) else (law_CurveTurned.j1 kj9 l0 a1 t532 true)) else (law_CurveTurned.j1 kj9 l0 a1 t532 true)) else (law_CurveTurned.j1 kj9 l0 a1 t532 true)) else (law_CurveTurned.j1 kj9 l0 a1 t532 true)) else (law_CurveTurned.j1 kj9 l0 a1 t532 true)) else (law_CurveTurned.j1 kj9 l0 a1 t532 true)))))) else (law_CurveTurned.j2 kj9 l0 a1 t532))) = some r := by rw [if_neg (show ¬ (false = true) by decide)] at H; exact H
            clear H
            have H := H1
            clear H1
            replace H := Option.bind_eq_some_iff.mp H
            obtain ⟨t542, A220, H⟩ := H
            replace H : (if t542 = true then ((curve_First.f l0 a2).bind fun bt543 => ((curve_Last.f l0 a2).bind fun bt546 => ((curve_High.f t532 a2).bind fun bt549 => ((curve_Low.f t532 a2).bind fun bt551 => (if bt543.2.2 = 0 then (if bt546.2.2 = 0 then (if bt549.2 = 0 then (if bt551.2 = 0 then (if bt543.2.1 = true then (if bt546.2.1 = true then (if bt543.1 = bt549.1 then (law_CurveTurned.j1 kj9 l0 a1 t532 (bt546.1 != bt551.1)) else (law_CurveTurned.j1 kj9 l0 a1 t532 true)) else (law_CurveTurned.j1 kj9 l0 a1 t532 true)) else (law_CurveTurned.j1 kj9 l0 a1 t532 true)) else (law_CurveTurned.j1 kj9 l0 a1 t532 true)) else (law_CurveTurned.j1 kj9 l0 a1 t532 true)) else (law_CurveTurned.j1 kj9 l0 a1 t532 true)) else (law_CurveTurned.j1 kj9 l0 a1 t532 true)))))) else (law_CurveTurned.j2 kj9 l0 a1 t532)) = some r := H
            have A22 := Aside0.mk A220
            clear A220
            have HC23 := Aside0.mk H
            clear H
            go_upto_if 57 with (first | ((with_reducible refine gate_callee (f := 43) rfl ?_); refine goesL_ (some 57) rfl rfl Tryd.func43 (by kernel_rfl) rfl #[.slice Ao13 t532.length co13, .int .i64 a2] rfl (by (try simp only [List.map_toArray, List.map_cons, List.map_nil]); first | done | rfl | (simp only [List.length_drop, List.length_take]; rfl)) ?_; (with_reducible refine (ref_In.calls _ _ t532 a2 t542 _ ?side1 ?side2 A22.out).mono ?_); (case side1 => repeat (first | exact (Kd.R_reads' HO_7.out).2.2 | (with_reducible refine Kd.C_alloc ?_ _) | (with_reducible refine Kd.C_drewN ?_ _) | (with_reducible refine Kd.C_drew ?_))); (case side2 => exact (Kd.R_reads' HO_7.out).2.1); rintro e w' ⟨rfl, ⟨nd, rfl⟩⟩; refine ⟨_, rfl, ?_⟩))
            (try simp only [Act.put, List.setIfInBounds_toArray, List.set_cons_zero, List.set_cons_succ])
            go_cut [] (fun wc => ∃ (kq : Nat), Aside0 (law_CurveTurned.j2 kq l0 a1 t532 = some r) ∧ Aside0 (kq ≤ kj9) ∧ Aside0 (Kd.R k57 57 wc w.heap.size (fun _ => True) (.slice Ao13 t532.length co13) t532) ∧ Aside0 (Below w.heap.size w wc))
            case first =>
              have H := HC23.out
              clear HC23
              by_cases c24 : t542 = true
              · subst c24
                have H1 : ((curve_First.f l0 a2).bind fun bt543 => ((curve_Last.f l0 a2).bind fun bt546 => ((curve_High.f t532 a2).bind fun bt549 => ((curve_Low.f t532 a2).bind fun bt551 => (if bt543.2.2 = 0 then (if bt546.2.2 = 0 then (if bt549.2 = 0 then (if bt551.2 = 0 then (if bt543.2.1 = true then (if bt546.2.1 = true then (if bt543.1 = bt549.1 then (law_CurveTurned.j1 kj9 l0 a1 t532 (bt546.1 != bt551.1)) else (law_CurveTurned.j1 kj9 l0 a1 t532 true)) else (law_CurveTurned.j1 kj9 l0 a1 t532 true)) else (law_CurveTurned.j1 kj9 l0 a1 t532 true)) else (law_CurveTurned.j1 kj9 l0 a1 t532 true)) else (law_CurveTurned.j1 kj9 l0 a1 t532 true)) else (law_CurveTurned.j1 kj9 l0 a1 t532 true)) else (law_CurveTurned.j1 kj9 l0 a1 t532 true)))))) = some r := by rw [if_pos rfl] at H; exact H
                clear H
                have H := H1
                clear H1
                replace H := Option.bind_eq_some_iff.mp H
                obtain ⟨⟨t543, t544, t545⟩, A250, H⟩ := H
                replace H : ((curve_Last.f l0 a2).bind fun bt546 => ((curve_High.f t532 a2).bind fun bt549 => ((curve_Low.f t532 a2).bind fun bt551 => (if t545 = 0 then (if bt546.2.2 = 0 then (if bt549.2 = 0 then (if bt551.2 = 0 then (if t544 = true then (if bt546.2.1 = true then (if t543 = bt549.1 then (law_CurveTurned.j1 kj9 l0 a1 t532 (bt546.1 != bt551.1)) else (law_CurveTurned.j1 kj9 l0 a1 t532 true)) else (law_CurveTurned.j1 kj9 l0 a1 t532 true)) else (law_CurveTurned.j1 kj9 l0 a1 t532 true)) else (law_CurveTurned.j1 kj9 l0 a1 t532 true)) else (law_CurveTurned.j1 kj9 l0 a1 t532 true)) else (law_CurveTurned.j1 kj9 l0 a1 t532 true)) else (law_CurveTurned.j1 kj9 l0 a1 t532 true))))) = some r := H
                have A25 := Aside0.mk A250
                clear A250
                replace H := Option.bind_eq_some_iff.mp H
                obtain ⟨⟨t546, t547, t548⟩, A260, H⟩ := H
                replace H : ((curve_High.f t532 a2).bind fun bt549 => ((curve_Low.f t532 a2).bind fun bt551 => (if t545 = 0 then (if t548 = 0 then (if bt549.2 = 0 then (if bt551.2 = 0 then (if t544 = true then (if t547 = true then (if t543 = bt549.1 then (law_CurveTurned.j1 kj9 l0 a1 t532 (t546 != bt551.1)) else (law_CurveTurned.j1 kj9 l0 a1 t532 true)) else (law_CurveTurned.j1 kj9 l0 a1 t532 true)) else (law_CurveTurned.j1 kj9 l0 a1 t532 true)) else (law_CurveTurned.j1 kj9 l0 a1 t532 true)) else (law_CurveTurned.j1 kj9 l0 a1 t532 true)) else (law_CurveTurned.j1 kj9 l0 a1 t532 true)) else (law_CurveTurned.j1 kj9 l0 a1 t532 true)))) = some r := H
                have A26 := Aside0.mk A260
                clear A260
                replace H := Option.bind_eq_some_iff.mp H
                obtain ⟨⟨t549, t550⟩, A270, H⟩ := H
                replace H : ((curve_Low.f t532 a2).bind fun bt551 => (if t545 = 0 then (if t548 = 0 then (if t550 = 0 then (if bt551.2 = 0 then (if t544 = true then (if t547 = true then (if t543 = t549 then (law_CurveTurned.j1 kj9 l0 a1 t532 (t546 != bt551.1)) else (law_CurveTurned.j1 kj9 l0 a1 t532 true)) else (law_CurveTurned.j1 kj9 l0 a1 t532 true)) else (law_CurveTurned.j1 kj9 l0 a1 t532 true)) else (law_CurveTurned.j1 kj9 l0 a1 t532 true)) else (law_CurveTurned.j1 kj9 l0 a1 t532 true)) else (law_CurveTurned.j1 kj9 l0 a1 t532 true)) else (law_CurveTurned.j1 kj9 l0 a1 t532 true))) = some r := H
                have A27 := Aside0.mk A270
                clear A270
                replace H := Option.bind_eq_some_iff.mp H
                obtain ⟨⟨t551, t552⟩, A280, H⟩ := H
                replace H : (if t545 = 0 then (if t548 = 0 then (if t550 = 0 then (if t552 = 0 then (if t544 = true then (if t547 = true then (if t543 = t549 then (law_CurveTurned.j1 kj9 l0 a1 t532 (t546 != t551)) else (law_CurveTurned.j1 kj9 l0 a1 t532 true)) else (law_CurveTurned.j1 kj9 l0 a1 t532 true)) else (law_CurveTurned.j1 kj9 l0 a1 t532 true)) else (law_CurveTurned.j1 kj9 l0 a1 t532 true)) else (law_CurveTurned.j1 kj9 l0 a1 t532 true)) else (law_CurveTurned.j1 kj9 l0 a1 t532 true)) else (law_CurveTurned.j1 kj9 l0 a1 t532 true)) = some r := H
                have A28 := Aside0.mk A280
                clear A280
                have HC29 := Aside0.mk H
                clear H
                go_upto_region 14 with (first | ((with_reducible refine gate_callee (f := 32) rfl ?_); refine goesL_ (some 61) rfl rfl Tryd.func32 (by kernel_rfl) rfl #[.slice A0 l0.length c0, .int .i64 a2] rfl (by (try simp only [List.map_toArray, List.map_cons, List.map_nil]); first | done | rfl | (simp only [List.length_drop, List.length_take]; rfl)) ?_; (with_reducible refine (curve_First.calls _ _ l0 a2 t543 t544 t545 _ ?side1 ?side2 A25.out).mono ?_); (case side1 => repeat (first | exact (Kd.C_below HR0.out HB.out) | (with_reducible refine Kd.C_alloc ?_ _) | (with_reducible refine Kd.C_drewN ?_ _) | (with_reducible refine Kd.C_drew ?_))); (case side2 => exact HC0.out); rintro e w30 ⟨rfl, hb⟩; refine ⟨_, rfl, ?_⟩; have n0_ := Aside0.mk (Kd.R_below (by (with_reducible repeat (first | apply Kd.R_alloc | apply Kd.R_drewN | apply Kd.R_drew)); exact HO_7.out) hb); have n1_ := Aside0.mk (below_step (by repeat (first | (with_reducible first | exact HB.out | apply below_alloc | apply pw_below_drewN | apply below_drew1) | exact HB.out)) hb); clear HO_7; clear HB; have HO_7 := n0_; have HB := n1_; clear n0_ n1_; (try clear hb); (try clear hb2); (try clear hk); (try clear hi)) | ((with_reducible refine gate_callee (f := 34) rfl ?_); refine goesL_ (some 68) rfl rfl Tryd.func34 (by kernel_rfl) rfl #[.slice A0 l0.length c0, .int .i64 a2] rfl (by (try simp only [List.map_toArray, List.map_cons, List.map_nil]); first | done | rfl | (simp only [List.length_drop, List.length_take]; rfl)) ?_; (with_reducible refine (curve_Last.calls _ _ l0 a2 t546 t547 t548 _ ?side1 ?side2 A26.out).mono ?_); (case side1 => repeat (first | exact (Kd.C_below HR0.out HB.out) | (with_reducible refine Kd.C_alloc ?_ _) | (with_reducible refine Kd.C_drewN ?_ _) | (with_reducible refine Kd.C_drew ?_))); (case side2 => exact HC0.out); rintro e w31 ⟨rfl, hb⟩; refine ⟨_, rfl, ?_⟩; have n0_ := Aside0.mk (Kd.R_below (by (with_reducible repeat (first | apply Kd.R_alloc | apply Kd.R_drewN | apply Kd.R_drew)); exact HO_7.out) hb); have n1_ := Aside0.mk (below_step (by repeat (first | (with_reducible first | exact HB.out | apply below_alloc | apply pw_below_drewN | apply below_drew1) | exact HB.out)) hb); clear HO_7; clear HB; have HO_7 := n0_; have HB := n1_; clear n0_ n1_; (try clear hb); (try clear hb2); (try clear hk); (try clear hi)) | ((with_reducible refine gate_callee (f := 26) rfl ?_); refine goesL_ (some 75) rfl rfl Tryd.func26 (by kernel_rfl) rfl #[.slice Ao13 t532.length co13, .int .i64 a2] rfl (by (try simp only [List.map_toArray, List.map_cons, List.map_nil]); first | done | rfl | (simp only [List.length_drop, List.length_take]; rfl)) ?_; (with_reducible refine (curve_High.calls _ _ t532 a2 t549 t550 _ ?side1 ?side2 A27.out).mono ?_); (case side1 => repeat (first | exact (Kd.R_reads' HO_7.out).2.2 | (with_reducible refine Kd.C_alloc ?_ _) | (with_reducible refine Kd.C_drewN ?_ _) | (with_reducible refine Kd.C_drew ?_))); (case side2 => exact (Kd.R_reads' HO_7.out).2.1); rintro e w32 ⟨rfl, hb⟩; refine ⟨_, rfl, ?_⟩; have n0_ := Aside0.mk (Kd.R_below (by (with_reducible repeat (first | apply Kd.R_alloc | apply Kd.R_drewN | apply Kd.R_drew)); exact HO_7.out) hb); have n1_ := Aside0.mk (below_step (by repeat (first | (with_reducible first | exact HB.out | apply below_alloc | apply pw_below_drewN | apply below_drew1) | exact HB.out)) hb); clear HO_7; clear HB; have HO_7 := n0_; have HB := n1_; clear n0_ n1_; (try clear hb); (try clear hb2); (try clear hk); (try clear hi)) | ((with_reducible refine gate_callee (f := 24) rfl ?_); refine goesL_ (some 81) rfl rfl Tryd.func24 (by kernel_rfl) rfl #[.slice Ao13 t532.length co13, .int .i64 a2] rfl (by (try simp only [List.map_toArray, List.map_cons, List.map_nil]); first | done | rfl | (simp only [List.length_drop, List.length_take]; rfl)) ?_; (with_reducible refine (curve_Low.calls _ _ t532 a2 t551 t552 _ ?side1 ?side2 A28.out).mono ?_); (case side1 => repeat (first | exact (Kd.R_reads' HO_7.out).2.2 | (with_reducible refine Kd.C_alloc ?_ _) | (with_reducible refine Kd.C_drewN ?_ _) | (with_reducible refine Kd.C_drew ?_))); (case side2 => exact (Kd.R_reads' HO_7.out).2.1); rintro e w33 ⟨rfl, hb⟩; refine ⟨_, rfl, ?_⟩; have n0_ := Aside0.mk (Kd.R_below (by (with_reducible repeat (first | apply Kd.R_alloc | apply Kd.R_drewN | apply Kd.R_drew)); exact HO_7.out) hb); have n1_ := Aside0.mk (below_step (by repeat (first | (with_reducible first | exact HB.out | apply below_alloc | apply pw_below_drewN | apply below_drew1) | exact HB.out)) hb); clear HO_7; clear HB; have HO_7 := n0_; have HB := n1_; clear n0_ n1_; (try clear hb); (try clear hb2); (try clear hk); (try clear hi)))
                (try simp only [Act.put, List.setIfInBounds_toArray, List.set_cons_zero, List.set_cons_succ])
                go_cut [115] (fun v115 wc => ∃ (kq : Nat) (x115_28 : Bool), v115 = .bool x115_28 ∧ Aside0 (law_CurveTurned.j1 kq l0 a1 t532 x115_28 = some r) ∧ Aside0 (kq ≤ kj9) ∧ Aside0 (Kd.R k57 57 wc w.heap.size (fun _ => True) (.slice Ao13 t532.length co13) t532) ∧ Aside0 (Below w.heap.size w wc))
                case first =>
                  have H := HC29.out
                  clear HC29
                  by_cases c34 : t545 = 0
                  · rw [if_pos c34] at H
                    have c34b0 : (t545 == 0) = true := beq_iff_eq.mpr c34
                    have c34b1 : (t545 != 0) = false := bne_eq_false_iff_eq.mpr c34
                    clear c34
                    (first | rw [c34b0] | (simp only [i64_w, i32_w]; rw [c34b0]) | skip)
                    by_cases c35 : t548 = 0
                    · rw [if_pos c35] at H
                      have c35b0 : (t548 == 0) = true := beq_iff_eq.mpr c35
                      have c35b1 : (t548 != 0) = false := bne_eq_false_iff_eq.mpr c35
                      clear c35
                      by_cases c36 : t550 = 0
                      · rw [if_pos c36] at H
                        have c36b0 : (t550 == 0) = true := beq_iff_eq.mpr c36
                        have c36b1 : (t550 != 0) = false := bne_eq_false_iff_eq.mpr c36
                        clear c36
                        by_cases c37 : t552 = 0
                        · rw [if_pos c37] at H
                          have c37b0 : (t552 == 0) = true := beq_iff_eq.mpr c37
                          have c37b1 : (t552 != 0) = false := bne_eq_false_iff_eq.mpr c37
                          clear c37
                          by_cases c38 : t544 = true
                          · subst c38
                            have H1 : (if t547 = true then (if t543 = t549 then (law_CurveTurned.j1 kj9 l0 a1 t532 (t546 != t551)) else (law_CurveTurned.j1 kj9 l0 a1 t532 true)) else (law_CurveTurned.j1 kj9 l0 a1 t532 true)) = some r := by rw [if_pos rfl] at H; exact H
                            clear H
                            have H := H1
                            clear H1
                            by_cases c39 : t547 = true
                            · subst c39
                              have H1 : (if t543 = t549 then (law_CurveTurned.j1 kj9 l0 a1 t532 (t546 != t551)) else (law_CurveTurned.j1 kj9 l0 a1 t532 true)) = some r := by rw [if_pos rfl] at H; exact H
                              clear H
                              have H := H1
                              clear H1
                              by_cases c40 : t543 = t549
                              · rw [if_pos c40] at H
                                have c40b0 : (t543 == t549) = true := beq_iff_eq.mpr c40
                                have c40b1 : (t543 != t549) = false := bne_eq_false_iff_eq.mpr c40
                                clear c40
                                have H' := Aside0.mk H
                                clear H
                                go_wp2
                                go_meet
                                case rel => exact ⟨_, ((t546 != t551)), (by first | rfl | (simp; done) | (simp [*]; done)), H', ⟨by have := HJ9.out; first | omega | exact Nat.le_refl _⟩, ⟨by (with_reducible repeat (first | apply Kd.R_alloc | apply Kd.R_drewN | apply Kd.R_drew)); exact HO_7.out⟩, ⟨by repeat (first | (with_reducible first | exact HB.out | apply below_alloc | apply pw_below_drewN | apply below_drew1) | exact HB.out)⟩⟩
                              · rw [if_neg c40] at H
                                have c40b0 : (t543 == t549) = false := beq_eq_false_iff_ne.mpr c40
                                have c40b1 : (t543 != t549) = true := bne_iff_ne.mpr c40
                                have H' := Aside0.mk H
                                clear H
                                go_wp2
                                go_meet
                                case rel => exact ⟨_, (true), (by first | rfl | (simp; done) | (simp [*]; done)), H', ⟨by have := HJ9.out; first | omega | exact Nat.le_refl _⟩, ⟨by (with_reducible repeat (first | apply Kd.R_alloc | apply Kd.R_drewN | apply Kd.R_drew)); exact HO_7.out⟩, ⟨by repeat (first | (with_reducible first | exact HB.out | apply below_alloc | apply pw_below_drewN | apply below_drew1) | exact HB.out)⟩⟩
                            · replace c39 := Bool.eq_false_iff.mpr c39
                              subst c39
                              have H1 : (law_CurveTurned.j1 kj9 l0 a1 t532 true) = some r := by rw [if_neg (show ¬ (false = true) by decide)] at H; exact H
                              clear H
                              have H := H1
                              clear H1
                              have H' := Aside0.mk H
                              clear H
                              go_wp2
                              go_meet
                              case rel => exact ⟨_, (true), (by first | rfl | (simp; done) | (simp [*]; done)), H', ⟨by have := HJ9.out; first | omega | exact Nat.le_refl _⟩, ⟨by (with_reducible repeat (first | apply Kd.R_alloc | apply Kd.R_drewN | apply Kd.R_drew)); exact HO_7.out⟩, ⟨by repeat (first | (with_reducible first | exact HB.out | apply below_alloc | apply pw_below_drewN | apply below_drew1) | exact HB.out)⟩⟩
                          · replace c38 := Bool.eq_false_iff.mpr c38
                            subst c38
                            have H1 : (law_CurveTurned.j1 kj9 l0 a1 t532 true) = some r := by rw [if_neg (show ¬ (false = true) by decide)] at H; exact H
                            clear H
                            have H := H1
                            clear H1
                            have H' := Aside0.mk H
                            clear H
                            go_wp2
                            go_meet
                            case rel => exact ⟨_, (true), (by first | rfl | (simp; done) | (simp [*]; done)), H', ⟨by have := HJ9.out; first | omega | exact Nat.le_refl _⟩, ⟨by (with_reducible repeat (first | apply Kd.R_alloc | apply Kd.R_drewN | apply Kd.R_drew)); exact HO_7.out⟩, ⟨by repeat (first | (with_reducible first | exact HB.out | apply below_alloc | apply pw_below_drewN | apply below_drew1) | exact HB.out)⟩⟩
                        · rw [if_neg c37] at H
                          have c37b0 : (t552 == 0) = false := beq_eq_false_iff_ne.mpr c37
                          have c37b1 : (t552 != 0) = true := bne_iff_ne.mpr c37
                          have H' := Aside0.mk H
                          clear H
                          go_wp2
                          go_meet
                          case rel => exact ⟨_, (true), (by first | rfl | (simp; done) | (simp [*]; done)), H', ⟨by have := HJ9.out; first | omega | exact Nat.le_refl _⟩, ⟨by (with_reducible repeat (first | apply Kd.R_alloc | apply Kd.R_drewN | apply Kd.R_drew)); exact HO_7.out⟩, ⟨by repeat (first | (with_reducible first | exact HB.out | apply below_alloc | apply pw_below_drewN | apply below_drew1) | exact HB.out)⟩⟩
                      · rw [if_neg c36] at H
                        have c36b0 : (t550 == 0) = false := beq_eq_false_iff_ne.mpr c36
                        have c36b1 : (t550 != 0) = true := bne_iff_ne.mpr c36
                        have H' := Aside0.mk H
                        clear H
                        go_wp2
                        go_meet
                        case rel => exact ⟨_, (true), (by first | rfl | (simp; done) | (simp [*]; done)), H', ⟨by have := HJ9.out; first | omega | exact Nat.le_refl _⟩, ⟨by (with_reducible repeat (first | apply Kd.R_alloc | apply Kd.R_drewN | apply Kd.R_drew)); exact HO_7.out⟩, ⟨by repeat (first | (with_reducible first | exact HB.out | apply below_alloc | apply pw_below_drewN | apply below_drew1) | exact HB.out)⟩⟩
                    · rw [if_neg c35] at H
                      have c35b0 : (t548 == 0) = false := beq_eq_false_iff_ne.mpr c35
                      have c35b1 : (t548 != 0) = true := bne_iff_ne.mpr c35
                      have H' := Aside0.mk H
                      clear H
                      go_wp2
                      go_meet
                      case rel => exact ⟨_, (true), (by first | rfl | (simp; done) | (simp [*]; done)), H', ⟨by have := HJ9.out; first | omega | exact Nat.le_refl _⟩, ⟨by (with_reducible repeat (first | apply Kd.R_alloc | apply Kd.R_drewN | apply Kd.R_drew)); exact HO_7.out⟩, ⟨by repeat (first | (with_reducible first | exact HB.out | apply below_alloc | apply pw_below_drewN | apply below_drew1) | exact HB.out)⟩⟩
                  · rw [if_neg c34] at H
                    have c34b0 : (t545 == 0) = false := beq_eq_false_iff_ne.mpr c34
                    have c34b1 : (t545 != 0) = true := bne_iff_ne.mpr c34
                    (first | rw [c34b0] | (simp only [i64_w, i32_w]; rw [c34b0]) | skip)
                    have H' := Aside0.mk H
                    clear H
                    go_wp2
                    go_meet
                    case rel => exact ⟨_, (true), (by first | rfl | (simp; done) | (simp [*]; done)), H', ⟨by have := HJ9.out; first | omega | exact Nat.le_refl _⟩, ⟨by (with_reducible repeat (first | apply Kd.R_alloc | apply Kd.R_drewN | apply Kd.R_drew)); exact HO_7.out⟩, ⟨by repeat (first | (with_reducible first | exact HB.out | apply below_alloc | apply pw_below_drewN | apply below_drew1) | exact HB.out)⟩⟩
                case rest =>
                  clear HC29
                  try clear c1
                  try clear c2
                  try clear p2
                  try clear c3
                  try clear c4
                  try clear c5
                  try clear c7
                  try clear c8
                  try clear c15
                  try clear c15b0
                  try clear c15b1
                  try clear c16
                  try clear c16b0
                  try clear c16b1
                  try clear c18
                  try clear c21
                  try clear c24
                  try clear c26
                  try clear c32
                  try clear c34
                  try clear c34b0
                  try clear c34b1
                  try clear c35
                  try clear c35b0
                  try clear c35b1
                  try clear c36
                  try clear c36b0
                  try clear c36b1
                  try clear c37
                  try clear c37b0
                  try clear c37b1
                  try clear c38
                  try clear c39
                  try clear c40
                  try clear c40b0
                  try clear c40b1
                  try clear p2
                  obtain ⟨kq, x115_28, rfl, HA, HJ28, HO_7, HB⟩ := hcut
                  cases kq with
                  | zero => exact absurd HA.out (by simp [law_CurveTurned.j1])
                  | succ kj28 =>
                    have H := HA.out
                    clear HA
                    simp only [law_CurveTurned.j1] at H
                    by_cases c41 : x115_28 = true
                    · subst c41
                      have H1 : (some false) = some r := by rw [if_pos rfl] at H; exact H
                      clear H
                      have H := H1
                      clear H1
                      obtain rfl := Option.some.inj H
                      go_wp2
                      go_ret
                      exact ⟨by first | rfl | (simp [errW_none, errW_some] <;> rfl) | (simp [*, errW_none, errW_some] <;> rfl), by repeat (first | (with_reducible first | exact HB.out | apply below_alloc | apply pw_below_drewN | apply below_drew1) | exact HB.out)⟩
                    · replace c41 := Bool.eq_false_iff.mpr c41
                      subst c41
                      have H1 : (law_CurveTurned.j2 kj28 l0 a1 t532) = some r := by rw [if_neg (show ¬ (false = true) by decide)] at H; exact H
                      clear H
                      have H := H1
                      clear H1
                      have H' := Aside0.mk H
                      clear H
                      go_wp2
                      go_meet
                      case rel => exact ⟨_, H', ⟨by have := HJ9.out; have := HJ28.out; first | omega | exact Nat.le_refl _⟩, ⟨by (with_reducible repeat (first | apply Kd.R_alloc | apply Kd.R_drewN | apply Kd.R_drew)); exact HO_7.out⟩, ⟨by repeat (first | (with_reducible first | exact HB.out | apply below_alloc | apply pw_below_drewN | apply below_drew1) | exact HB.out)⟩⟩
              · replace c24 := Bool.eq_false_iff.mpr c24
                subst c24
                have H1 : (law_CurveTurned.j2 kj9 l0 a1 t532) = some r := by rw [if_neg (show ¬ (false = true) by decide)] at H; exact H
                clear H
                have H := H1
                clear H1
                have H' := Aside0.mk H
                clear H
                go_wp2
                go_meet
                case rel => exact ⟨_, H', ⟨by have := HJ9.out; first | omega | exact Nat.le_refl _⟩, ⟨by (with_reducible repeat (first | apply Kd.R_alloc | apply Kd.R_drewN | apply Kd.R_drew)); exact HO_7.out⟩, ⟨by repeat (first | (with_reducible first | exact HB.out | apply below_alloc | apply pw_below_drewN | apply below_drew1) | exact HB.out)⟩⟩
            case rest =>
              clear HC23
              try clear c1
              try clear c2
              try clear p2
              try clear c3
              try clear c4
              try clear c5
              try clear c7
              try clear c8
              try clear c15
              try clear c15b0
              try clear c15b1
              try clear c16
              try clear c16b0
              try clear c16b1
              try clear c18
              try clear c21
              try clear c24
              try clear c26
              try clear c32
              try clear c34
              try clear c34b0
              try clear c34b1
              try clear c35
              try clear c35b0
              try clear c35b1
              try clear c36
              try clear c36b0
              try clear c36b1
              try clear c37
              try clear c37b0
              try clear c37b1
              try clear c38
              try clear c39
              try clear c40
              try clear c40b0
              try clear c40b1
              try clear c41
              try clear p2
              obtain ⟨kq, HA, HJ22, HO_7, HB⟩ := hcut
              cases kq with
              | zero => exact absurd HA.out (by simp [law_CurveTurned.j2])
              | succ kj22 =>
                have H := HA.out
                clear HA
                simp only [law_CurveTurned.j2] at H
                replace H := Option.bind_eq_some_iff.mp H
                obtain ⟨t553, A420, H⟩ := H
                replace H : (if t553 = true then ((curve_Through.f l0 t532 a1).bind fun bt554 => (if bt554.2.2 = 0 then (law_CurveTurned.j3 kj22 (!(bt554.1 == a1) || (!(bt554.2.1 == a1)))) else (law_CurveTurned.j3 kj22 true))) else (some true)) = some r := H
                have A42 := Aside0.mk A420
                clear A420
                by_cases c43 : t553 = true
                · subst c43
                  have H1 : ((curve_Through.f l0 t532 a1).bind fun bt554 => (if bt554.2.2 = 0 then (law_CurveTurned.j3 kj22 (!(bt554.1 == a1) || (!(bt554.2.1 == a1)))) else (law_CurveTurned.j3 kj22 true))) = some r := by rw [if_pos rfl] at H; exact H
                  clear H
                  have H := H1
                  clear H1
                  replace H := Option.bind_eq_some_iff.mp H
                  obtain ⟨⟨t554, t555, t556⟩, A440, H⟩ := H
                  replace H : (if t556 = 0 then (law_CurveTurned.j3 kj22 (!(t554 == a1) || (!(t555 == a1)))) else (law_CurveTurned.j3 kj22 true)) = some r := H
                  have A44 := Aside0.mk A440
                  clear A440
                  have HC45 := Aside0.mk H
                  clear H
                  go_upto_region 18 with (first | ((with_reducible refine gate_callee (f := 43) rfl ?_); refine goesL_ (some 118) rfl rfl Tryd.func43 (by kernel_rfl) rfl #[.slice A0 l0.length c0, .int .i64 a1] rfl (by (try simp only [List.map_toArray, List.map_cons, List.map_nil]); first | done | rfl | (simp only [List.length_drop, List.length_take]; rfl)) ?_; (with_reducible refine (ref_In.calls _ _ l0 a1 true _ ?side1 ?side2 A42.out).mono ?_); (case side1 => repeat (first | exact (Kd.C_below HR0.out HB.out) | (with_reducible refine Kd.C_alloc ?_ _) | (with_reducible refine Kd.C_drewN ?_ _) | (with_reducible refine Kd.C_drew ?_))); (case side2 => exact HC0.out); rintro e w' ⟨rfl, ⟨nd, rfl⟩⟩; refine ⟨_, rfl, ?_⟩; (try (rw [drewN_self wc]; generalize hq_ : World.drewN wc _ = wc; have n0_ : Aside0 (Kd.R k57 57 wc w.heap.size (fun _ => True) (.slice Ao13 t532.length co13) t532) := ⟨by rw [← hq_]; exact (by (with_reducible repeat (first | apply Kd.R_alloc | apply Kd.R_drewN | apply Kd.R_drew)); exact HO_7.out)⟩; have n1_ : Aside0 (Below w.heap.size w wc) := ⟨by rw [← hq_]; exact (by repeat (first | (with_reducible first | exact HB.out | apply below_alloc | apply pw_below_drewN | apply below_drew1) | exact HB.out))⟩; clear HO_7 HB hq_; have HO_7 := n0_; have HB := n1_; clear n0_ n1_))) | ((with_reducible refine gate_callee (f := 40) rfl ?_); refine goesL_ (some 123) rfl rfl Tryd.func40 (by kernel_rfl) rfl #[.slice A0 l0.length c0, .slice Ao13 t532.length co13, .int .i64 a1] rfl (by (try simp only [List.map_toArray, List.map_cons, List.map_nil]); first | done | rfl | (simp only [List.length_drop, List.length_take]; rfl)) ?_; (with_reducible refine (curve_Through.calls _ _ l0 _ _ t532 a1 t554 t555 t556 _ ?side1 ?side2 ?side3 ?side4 A44.out).mono ?_); (case side1 => repeat (first | exact (Kd.C_below HR0.out HB.out) | (with_reducible refine Kd.C_alloc ?_ _) | (with_reducible refine Kd.C_drewN ?_ _) | (with_reducible refine Kd.C_drew ?_))); (case side2 => exact HC0.out); (case side3 => repeat (first | exact (Kd.R_reads' HO_7.out).2.2 | (with_reducible refine Kd.C_alloc ?_ _) | (with_reducible refine Kd.C_drewN ?_ _) | (with_reducible refine Kd.C_drew ?_))); (case side4 => exact (Kd.R_reads' HO_7.out).2.1); rintro e w46 ⟨rfl, hb⟩; refine ⟨_, rfl, ?_⟩; have n0_ := Aside0.mk (Kd.R_below (by (with_reducible repeat (first | apply Kd.R_alloc | apply Kd.R_drewN | apply Kd.R_drew)); exact HO_7.out) hb); have n1_ := Aside0.mk (below_step (by repeat (first | (with_reducible first | exact HB.out | apply below_alloc | apply pw_below_drewN | apply below_drew1) | exact HB.out)) hb); clear HO_7; clear HB; have HO_7 := n0_; have HB := n1_; clear n0_ n1_; (try clear hb); (try clear hb2); (try clear hk); (try clear hi)) | ((with_reducible refine gate_dst (N := 21) rfl ?_); refine box_event ?hg (N := 21) ?hd (cs := #[.int .i64 0, .int .i64 0]) (t := 43) ?hr ?_; (case hd => rfl); (case hg => rfl); (case hr => first | (go_simp; done) | (go_simp; rfl)); intro gb557 hg w47 hbox hb; have n0_ := Aside0.mk (Kd.R_below (by (with_reducible repeat (first | apply Kd.R_alloc | apply Kd.R_drewN | apply Kd.R_drew)); exact HO_7.out) hb); have n1_ := Aside0.mk (below_step (by repeat (first | (with_reducible first | exact HB.out | apply below_alloc | apply pw_below_drewN | apply below_drew1) | exact HB.out)) hb); have n2_ := Aside0.mk (hbox); have n3_ := Aside0.mk ((by rw [hg]; exact (below_size (by repeat (first | (with_reducible first | exact HB.out | apply below_alloc | apply pw_below_drewN | apply below_drew1) | exact HB.out))) : w.heap.size ≤ gb557)); have n4_ := Aside0.mk ((by rw [hg]; exact (below_size (by repeat (first | (with_reducible first | exact HB.out | apply below_alloc | apply pw_below_drewN | apply below_drew1) | exact HB.out))) : w.heap.size ≤ gb557)); clear HO_7; clear HB; have HO_7 := n0_; have HB := n1_; have BK557 := n2_; have GW557 := n3_; have GE557 := n4_; clear n0_ n1_ n2_ n3_ n4_; clear hb hbox hg; have hcz48_0 : w47.cell? ⟨gb557, 0, none⟩ = some (.int .i64 0) := (blk_cell BK557.out 0).trans rfl; have hcz48_1 : w47.cell? ⟨gb557, 1, none⟩ = some (.int .i64 0) := (blk_cell BK557.out 1).trans rfl; have hfz48_0 := blk_frozen BK557.out 0; have hfz48_1 := blk_frozen BK557.out 1))
                  (try simp only [Act.put, List.setIfInBounds_toArray, List.set_cons_zero, List.set_cons_succ])
                  go_cut [134] (fun v134 wc => ∃ (kq : Nat) (x134_44 : Bool), v134 = .bool x134_44 ∧ Aside0 (law_CurveTurned.j3 kq x134_44 = some r) ∧ Aside0 (kq ≤ kj22) ∧ Aside0 (wc.heap[gb557]? = some (.cells #[.int .i64 t554, .int .i64 t555] 43 (0, 0))) ∧ Aside0 (Below w.heap.size w wc))
                  case first =>
                    have H := HC45.out
                    clear HC45
                    by_cases c49 : t556 = 0
                    · rw [if_pos c49] at H
                      have c49b0 : (t556 == 0) = true := beq_iff_eq.mpr c49
                      have c49b1 : (t556 != 0) = false := bne_eq_false_iff_eq.mpr c49
                      clear c49
                      (first | rw [c49b0] | (simp only [i64_w, i32_w]; rw [c49b0]) | skip)
                      have H' := Aside0.mk H
                      clear H
                      have hcz50_0 : w47.cell? ⟨gb557, 0, none⟩ = some (.int .i64 0) := (blk_cell BK557.out 0).trans rfl
                      have hcz50_1 : w47.cell? ⟨gb557, 1, none⟩ = some (.int .i64 0) := (blk_cell BK557.out 1).trans rfl
                      have hfz50_0 := blk_frozen BK557.out 0
                      have hfz50_1 := blk_frozen BK557.out 1
                      go_wp2
                      go_meet
                      case rel => exact ⟨_, ((!(t554 == a1) || (!(t555 == a1)))), (by first | rfl | (simp; done) | (simp [*]; done)), H', ⟨by have := HJ9.out; have := HJ22.out; first | omega | exact Nat.le_refl _⟩, ⟨by (with_reducible repeat (first | refine blk_drewN ?_ _ | refine blk_drew ?_ | refine blk_alloc ?_ _)); refine blk_put (cs := #[.int .i64 t554, .int .i64 0]) ?_ 1 _ rfl; (with_reducible repeat (first | refine blk_drewN ?_ _ | refine blk_drew ?_ | refine blk_alloc ?_ _)); refine blk_put (cs := #[.int .i64 0, .int .i64 0]) ?_ 0 _ rfl; (with_reducible repeat (first | refine blk_drewN ?_ _ | refine blk_drew ?_ | refine blk_alloc ?_ _)); exact BK557.out⟩, ⟨by repeat (first | (with_reducible first | exact HB.out | apply below_alloc | apply pw_below_drewN | apply below_drew1 | refine below_set ?_ GE557.out) | exact HB.out)⟩⟩
                    · rw [if_neg c49] at H
                      have c49b0 : (t556 == 0) = false := beq_eq_false_iff_ne.mpr c49
                      have c49b1 : (t556 != 0) = true := bne_iff_ne.mpr c49
                      (first | rw [c49b0] | (simp only [i64_w, i32_w]; rw [c49b0]) | skip)
                      have H' := Aside0.mk H
                      clear H
                      go_wp2
                      go_meet
                      case rel => exact ⟨_, (true), (by first | rfl | (simp; done) | (simp [*]; done)), H', ⟨by have := HJ9.out; have := HJ22.out; first | omega | exact Nat.le_refl _⟩, ⟨by (with_reducible repeat (first | refine blk_drewN ?_ _ | refine blk_drew ?_ | refine blk_alloc ?_ _)); refine blk_put (cs := #[.int .i64 t554, .int .i64 0]) ?_ 1 _ rfl; (with_reducible repeat (first | refine blk_drewN ?_ _ | refine blk_drew ?_ | refine blk_alloc ?_ _)); refine blk_put (cs := #[.int .i64 0, .int .i64 0]) ?_ 0 _ rfl; (with_reducible repeat (first | refine blk_drewN ?_ _ | refine blk_drew ?_ | refine blk_alloc ?_ _)); exact BK557.out⟩, ⟨by repeat (first | (with_reducible first | exact HB.out | apply below_alloc | apply pw_below_drewN | apply below_drew1 | refine below_set ?_ GE557.out) | exact HB.out)⟩⟩
                  case rest =>
                    clear HC45
                    try clear c1
                    try clear c2
                    try clear p2
                    try clear c3
                    try clear c4
                    try clear c5
                    try clear c7
                    try clear c8
                    try clear c15
                    try clear c15b0
                    try clear c15b1
                    try clear c16
                    try clear c16b0
                    try clear c16b1
                    try clear c18
                    try clear c21
                    try clear c24
                    try clear c26
                    try clear c32
                    try clear c34
                    try clear c34b0
                    try clear c34b1
                    try clear c35
                    try clear c35b0
                    try clear c35b1
                    try clear c36
                    try clear c36b0
                    try clear c36b1
                    try clear c37
                    try clear c37b0
                    try clear c37b1
                    try clear c38
                    try clear c39
                    try clear c40
                    try clear c40b0
                    try clear c40b1
                    try clear c41
                    try clear c42
                    try clear c43
                    try clear c49
                    try clear c49b0
                    try clear c49b1
                    try clear hcz48_0
                    try clear hcz48_1
                    try clear hcz50_0
                    try clear hcz50_1
                    try clear hfz48_0
                    try clear hfz48_1
                    try clear hfz50_0
                    try clear hfz50_1
                    try clear p2
                    obtain ⟨kq, x134_44, rfl, HA, HJ44, BK557, HB⟩ := hcut
                    cases kq with
                    | zero => exact absurd HA.out (by simp [law_CurveTurned.j3])
                    | succ kj44 =>
                      have H := HA.out
                      clear HA
                      simp only [law_CurveTurned.j3] at H
                      by_cases c51 : x134_44 = true
                      · subst c51
                        have H1 : (some false) = some r := by rw [if_pos rfl] at H; exact H
                        clear H
                        have H := H1
                        clear H1
                        obtain rfl := Option.some.inj H
                        go_wp2
                        go_ret
                        exact ⟨by first | rfl | (simp [errW_none, errW_some] <;> rfl) | (simp [*, errW_none, errW_some] <;> rfl), by repeat (first | (with_reducible first | exact HB.out | apply below_alloc | apply pw_below_drewN | apply below_drew1 | refine below_set ?_ GE557.out) | exact HB.out)⟩
                      · replace c51 := Bool.eq_false_iff.mpr c51
                        subst c51
                        have H1 : (some true) = some r := by rw [if_neg (show ¬ (false = true) by decide)] at H; exact H
                        clear H
                        have H := H1
                        clear H1
                        obtain rfl := Option.some.inj H
                        go_wp2
                        go_ret
                        exact ⟨by first | rfl | (simp [errW_none, errW_some] <;> rfl) | (simp [*, errW_none, errW_some] <;> rfl), by repeat (first | (with_reducible first | exact HB.out | apply below_alloc | apply pw_below_drewN | apply below_drew1 | refine below_set ?_ GE557.out) | exact HB.out)⟩
                · replace c43 := Bool.eq_false_iff.mpr c43
                  subst c43
                  have H1 : (some true) = some r := by rw [if_neg (show ¬ (false = true) by decide)] at H; exact H
                  clear H
                  have H := H1
                  clear H1
                  obtain rfl := Option.some.inj H
                  go_wp2_with (first | ((with_reducible refine gate_callee (f := 43) rfl ?_); refine goesL_ (some 118) rfl rfl Tryd.func43 (by kernel_rfl) rfl #[.slice A0 l0.length c0, .int .i64 a1] rfl (by (try simp only [List.map_toArray, List.map_cons, List.map_nil]); first | done | rfl | (simp only [List.length_drop, List.length_take]; rfl)) ?_; (with_reducible refine (ref_In.calls _ _ l0 a1 false _ ?side1 ?side2 A42.out).mono ?_); (case side1 => repeat (first | exact (Kd.C_below HR0.out HB.out) | (with_reducible refine Kd.C_alloc ?_ _) | (with_reducible refine Kd.C_drewN ?_ _) | (with_reducible refine Kd.C_drew ?_))); (case side2 => exact HC0.out); rintro e w' ⟨rfl, ⟨nd, rfl⟩⟩; refine ⟨_, rfl, ?_⟩))
                  go_ret
                  exact ⟨by first | rfl | (simp [errW_none, errW_some] <;> rfl) | (simp [*, errW_none, errW_some] <;> rfl), by repeat (first | (with_reducible first | exact HB.out | apply below_alloc | apply pw_below_drewN | apply below_drew1) | exact HB.out)⟩
    · replace c7 := Bool.eq_false_iff.mpr c7
      subst c7
      have H1 : (some true) = some r := by rw [if_neg (show ¬ (false = true) by decide)] at H; exact H
      clear H
      have H := H1
      clear H1
      obtain rfl := Option.some.inj H
      go_enter Tryd.func8, Tryd.ntmps8
      go_wp2_with (first | ((with_reducible refine gate_callee (f := 18) rfl ?_); refine goesL_ (some 23) rfl rfl Tryd.func18 (by kernel_rfl) rfl #[] rfl (by (try simp only [List.map_toArray, List.map_cons, List.map_nil]); first | done | rfl | (simp only [List.length_drop, List.length_take]; rfl)) ?_; (with_reducible refine (law_sane.calls  true _ A4.out).mono ?_); rintro e w52 ⟨rfl, hb⟩; refine ⟨_, rfl, ?_⟩; have n0_ := Aside0.mk (below_step (by repeat (first | (with_reducible first | exact HB.out | apply below_alloc | apply pw_below_drewN | apply below_drew1) | exact HB.out)) hb); clear HB; have HB := n0_; clear n0_; (try clear hb); (try clear hb2); (try clear hk); (try clear hi)) | ((with_reducible refine gate_callee (f := 42) rfl ?_); refine goesL_ (some 26) rfl rfl Tryd.func42 (by kernel_rfl) rfl #[.slice A0 l0.length c0] rfl (by (try simp only [List.map_toArray, List.map_cons, List.map_nil]); first | done | rfl | (simp only [List.length_drop, List.length_take]; rfl)) ?_; (with_reducible refine (ref_Valid.calls k _ _ l0 false _ ?side1 ?side2 A6.out).mono ?_); (case side1 => repeat (first | exact (Kd.C_below HR0.out HB.out) | (with_reducible refine Kd.C_alloc ?_ _) | (with_reducible refine Kd.C_drewN ?_ _) | (with_reducible refine Kd.C_drew ?_))); (case side2 => exact HC0.out); rintro e w' ⟨rfl, ⟨nd, rfl⟩⟩; refine ⟨_, rfl, ?_⟩))
      go_ret
      exact ⟨by first | rfl | (simp [errW_none, errW_some] <;> rfl) | (simp [*, errW_none, errW_some] <;> rfl), by repeat (first | (with_reducible first | exact HB.out | apply below_alloc | apply pw_below_drewN | apply below_drew1) | exact HB.out)⟩
  · replace c5 := Bool.eq_false_iff.mpr c5
    subst c5
    have H1 : (some false) = some r := by rw [if_neg (show ¬ (false = true) by decide)] at H; exact H
    clear H
    have H := H1
    clear H1
    obtain rfl := Option.some.inj H
    go_enter Tryd.func8, Tryd.ntmps8
    go_wp2_with (first | ((with_reducible refine gate_callee (f := 18) rfl ?_); refine goesL_ (some 23) rfl rfl Tryd.func18 (by kernel_rfl) rfl #[] rfl (by (try simp only [List.map_toArray, List.map_cons, List.map_nil]); first | done | rfl | (simp only [List.length_drop, List.length_take]; rfl)) ?_; (with_reducible refine (law_sane.calls  false _ A4.out).mono ?_); rintro e w53 ⟨rfl, hb⟩; refine ⟨_, rfl, ?_⟩; have n0_ := Aside0.mk (below_step (by repeat (first | (with_reducible first | exact HB.out | apply below_alloc | apply pw_below_drewN | apply below_drew1) | exact HB.out)) hb); clear HB; have HB := n0_; clear n0_; (try clear hb); (try clear hb2); (try clear hk); (try clear hi)))
    go_ret
    exact ⟨by first | rfl | (simp [errW_none, errW_some] <;> rfl) | (simp [*, errW_none, errW_some] <;> rfl), by repeat (first | (with_reducible first | exact HB.out | apply below_alloc | apply pw_below_drewN | apply below_drew1) | exact HB.out)⟩
end Go.Proofs.YtlhhpogaaneamaaDoor.X
namespace Go.Proofs.YtlhhpogaaneamaaDoor.X
open Go.RowKit
set_option linter.unusedVariables false
theorem turned_true (c : List S57) (x y : Int) : ∃ k, law_CurveTurned.f k c x y = some true := by
  obtain ⟨k1, h1⟩ := (valid_ev c).fix
  cases hg : goodB c with
  | false =>
    refine ⟨k1 + 6, ?_⟩
    have h1' := h1 k1 (Nat.le_refl _)
    rw [hg] at h1'
    simp only [law_CurveTurned.f, law_sane.f, Option.bind_some, h1', if_true]
    rfl
  | true =>
    have h := good_of hg
    have ht := h.tn
    obtain ⟨k2, h2⟩ := (valid_ev (tn c)).fix
    obtain ⟨s, hs, hsc⟩ := same_ev (tn (tn c)) c (by rw [tn_tn]; have := h.len64; omega)
    obtain rfl : s = true := hsc.2 (tn_tn c)
    obtain ⟨k3, h3⟩ := hs.fix
    refine ⟨k1 + k2 + k3 + 12, ?_⟩
    have h1' := h1 (k1 + k2 + k3) (by omega)
    have h2' := h2 (k1 + k2 + k3) (by omega)
    have h3' := h3 (k1 + k2 + k3) (by omega)
    rw [hg] at h1'
    rw [good_iff.2 ht] at h2'
    have key : ∀ k, law_CurveTurned.j2 (k + 3) c x (tn c) = some true := by
      intro k
      cases hx : inB c x with
      | false => simp [law_CurveTurned.j2, in_eq h, hx]
      | true =>
        have hr := (inB_iff h).1 hx
        have o := valR_on h hr.1 hr.2
        have ry := o.range_y h.rising
        obtain ⟨lo, hi, u, e, ou, ulo, uhi⟩ := through_in_eq h ht hx (by rw [tn_px]; exact ry.1) (by rw [tn_px, tn_length]; exact ry.2)
        have o2 := (on_tn_iff h.rising).1 ou
        have hu : u = (x : Rat) := by
          have l1 := On.le_iff h.rising o2 o
          have l2 := On.le_iff h.rising o o2
          have a1 := l1.2 Rat.le_refl
          have a2 := l2.2 Rat.le_refl
          grind
        subst hu
        have b1 : x ≤ lo := (ulo x).2 Rat.le_refl
        have b2 : lo ≤ x := of_cast_le ((ulo lo).1 (Int.le_refl _))
        have b3 : hi ≤ x := (uhi x).2 Rat.le_refl
        have b4 : x ≤ hi := of_cast_le ((uhi hi).1 (Int.le_refl _))
        obtain rfl : lo = x := by omega
        obtain rfl : hi = lo := by omega
        simp [law_CurveTurned.j2, in_eq h, hx, e, law_CurveTurned.j3]
    cases hy : inB (tn c) y with
    | false =>
      simp only [law_CurveTurned.f, law_sane.f, Option.bind_some, h1', h2', h3', if_true, turned_eq h, turned_eq ht, law_CurveTurned.j0, Bool.not_true, in_eq ht, hy, key]
      simp
    | true =>
      have hyr := (tn_inB h).1 hy
      obtain ⟨lo, e1, hlo⟩ := low_in ht hy
      obtain ⟨hi, e2, hhi⟩ := high_in ht hy
      have ot := valR_on ht ((inB_iff ht).1 hy).1 ((inB_iff ht).1 hy).2
      obtain ⟨u, hu⟩ : ∃ u, valR (tn c) y = u := ⟨_, rfl⟩
      rw [hu] at ot hlo hhi
      have o := (on_tn_iff h.rising).1 ot
      have ru := o.range h.rising
      have p0 : px c 0 ≤ px c (c.length - 1) := (h.rising.le (by omega) (by have := h.len2; omega)).1
      have rl : ∀ z : Int, px c 0 ≤ z → z ≤ px c (c.length - 1) → ((y : Rat) ≤ valR c z ↔ u ≤ (z : Rat)) := fun z z0 z1 => (On.le_iff h.rising o (valR_on h z0 z1)).symm
      have rl2 : ∀ z : Int, px c 0 ≤ z → z ≤ px c (c.length - 1) → (valR c z ≤ (y : Rat) ↔ (z : Rat) ≤ u) := fun z z0 z1 => (On.le_iff h.rising (valR_on h z0 z1) o).symm
      have hb1 : hi ≤ px c (c.length - 1) := (hhi _).2 ru.2
      have hb0 : px c 0 ≤ hi := of_cast_le (Rat.le_trans ru.1 ((hhi hi).1 (Int.le_refl _)))
      have lb0 : px c 0 ≤ lo := (hlo _).2 ru.1
      have lb1 : lo ≤ px c (c.length - 1) := of_cast_le (Rat.le_trans ((hlo lo).1 (Int.le_refl _)) ru.2)
      rcases first_spec h y with ⟨e3, s3⟩ | ⟨r, e3, r0, r1, s3⟩
      · have a := s3 _ p0 (Int.le_refl _)
        have b := (rl _ p0 (Int.le_refl _)).2 ru.2
        grind
      · rcases last_spec h y with ⟨e4, s4⟩ | ⟨q, e4, q0, q1, s4⟩
        · have a := s4 _ (Int.le_refl _) p0
          have b := (rl2 _ (Int.le_refl _) p0).2 ru.1
          grind
        · have f1 : r ≤ hi := (s3 hi hb0 hb1).2 ((rl hi hb0 hb1).2 ((hhi hi).1 (Int.le_refl _)))
          have f2 : hi ≤ r := (hhi r).2 ((rl r r0 r1).1 ((s3 r r0 r1).1 (Int.le_refl _)))
          have f3 : lo ≤ q := (s4 lo lb0 lb1).2 ((rl2 lo lb0 lb1).2 ((hlo lo).1 (Int.le_refl _)))
          have f4 : q ≤ lo := (hlo q).2 ((rl2 q q0 q1).1 ((s4 q q0 q1).1 (Int.le_refl _)))
          obtain rfl : r = hi := by omega
          obtain rfl : q = lo := by omega
          simp only [law_CurveTurned.f, law_sane.f, Option.bind_some, h1', h2', h3', if_true, turned_eq h, turned_eq ht, law_CurveTurned.j0, Bool.not_true, in_eq ht, hy, e1, e2, e3, e4]
          simp [law_CurveTurned.j1]
          exact key (k1 + k2 + k3 + 7)
end Go.Proofs.YtlhhpogaaneamaaDoor.X
namespace Go.Proofs.YtlhhpogaaneamaaDoor
open Go Go.ChangeShapes Go.WideShapes Go.ChangeAt Go.RowKit Go.Proofs.YtlhhpogaaneamaaDoorW.PrintWords Go.Proofs.YtlhhpogaaneamaaDoorW.PrintLast Go.Proofs.YtlhhpogaaneamaaDoorW.PrintMore
set_option linter.unusedVariables false
set_option maxRecDepth 100000 in
theorem curveTurned_lifted (os : Os) (started : os.Started) (H : Type) (enc : TypeId × Value → H) :
    ReturnsInHanded {} Tryd.checked os 8 .any (fun w args => (Rows.curveTurnedSpec.pre enc Tryd.prog Tryd.f8 [] false w args ∧ laidMet Tryd.prog laidL w) ∧ sizedMet enc Tryd.prog Tryd.f8 (OpenSpec.ofChange Rows.curveTurnedSpec) false w args)
      (Rows.curveTurnedSpec.post enc Tryd.prog Tryd.f8 false true false false) := by
  refine returnsInHanded_of_change_and (C := Tryd.checked) (X := fun w _ => laidMet Tryd.prog laidL w) (fun _ _ _ hh h => h.of_heap hh) ownK started (by kernel_rfl) Tryd.func8
    (ChangeSpec.witness_at (enc := enc) (C := Tryd.checked) (os := os) (X := fun w _ => laidMet Tryd.prog laidL w) false (laidWorld os) #[.slice none 0 0, .int .i64 0, .int .i64 0] 8 rfl (by kernel_rfl) (by kernel_rfl) (by kernel_rfl) (by kernel_rfl) (by kernel_rfl) (laidWorld_met os _)) ?_
  intro W base args ds gs before hval0 hW _ _ hL _
  have hval : ∀ (j : Nat) t v, Tryd.f8.params[j]? = some t → args[j]? = some v → Value.okWide Tryd.prog W .any base t v := hval0
  have hW' := hW
  obtain ⟨p, q, hA0, hV, rfl, hfz, hnd⟩ := hW
  have hA : DataW.TrodAll enc Tryd.prog W 0 (fun _ => true) true Tryd.f8.params.toList args.toList ds p := hA0
  rw [Tryd.params8] at hA hval
  obtain ⟨v0, vs0, d0, ds0, p0, q0, hargs, rfl, rfl, h0, r0⟩ := trodAll_cons hA
  obtain ⟨v1, vs1, d1, ds1, p1, q1, rfl, rfl, rfl, h1, r1⟩ := trodAll_cons r0
  obtain ⟨v2, vs2, d2, ds2, p2, q2, rfl, rfl, rfl, h2, r2⟩ := trodAll_cons r1
  obtain ⟨rfl, rfl, rfl⟩ := trodAll_nil r2
  obtain rfl : args = #[v0, v1, v2] := by cases args; simp_all
  obtain ⟨rfl, rfl⟩ := trodVars_none hV
  obtain ⟨A0, c0, l0, rfl, hc0, hC0⟩ := open_curve (hval 0 23 v0 rfl rfl) h0
  have lt0 : ∀ x ∈ p0, x.block < W.heap.size := by obtain ⟨m, hm⟩ := h0; exact DataW.trod_lt m _ _ _ hm
  obtain ⟨a1, rfl, rfl, rfl, w1⟩ := open_int Tryd.underlying3 (hval 1 3 v1 rfl rfl) h1
  obtain ⟨a2, rfl, rfl, rfl, w2⟩ := open_int Tryd.underlying3 (hval 2 3 v2 rfl rfl) h2
  obtain ⟨k, hk⟩ := X.turned_true l0 a1 a2
  clear hA0 hval0
  refine (X.law_CurveTurned.calls k A0 c0 l0 a1 a2 true W hC0 hc0 hk).mono fun e W' ⟨he, bel⟩ => ?_
  subst he
  exact ⟨_, rfl, _, _, _, [], _, [], hW', trodAll_mk1 (shut_bool Tryd.underlying4 _), (trodAll_cons_mk (Below.trod laidOutK (by kernel_rfl) (of_decide_eq_true (by kernel_rfl)) h0 bel lt0) (trodAll_cons_mk (shut_int Tryd.underlying3 w1) (trodAll_cons_mk (shut_int Tryd.underlying3 w2) trodAll_mk0))), rfl, bel.frame _, fun h => by cases h⟩
theorem curveTurned_row : Rows.CurveTurnedSaid :=
  OpenClaim.holds_of_wide 8 Tryd.f8 rfl rfl rfl rfl rfl rfl rfl ⟨rfl, rfl, rfl, rfl, rfl⟩ rfl rfl rfl rfl rfl (by kernel_rfl) Tryd.func8 (by kernel_rfl)
    (of_decide_eq_true (by kernel_rfl)) (by unfold Func.isWrapper; rw [if_neg (of_decide_eq_false (by kernel_rfl))]; exact ⟨rfl, rfl⟩)
    (fun os started H enc _ => curveTurned_lifted os started H enc)
theorem curveTurned_holds : Rows.CurveTurnedCardSaid :=
  Claim7.holds_tied_plain_at .later [] [.data, .data, .data] true (true, "76fa1c69d7f5c33adb8b59679630511c53b9fa1b41b5e595b97b4acdba6f7c62") false
    curveTurned_row (fun _ h => by cases h) (by kernel_rfl) (fun _ h => by cases h) curveTurned_row_tie rfl ⟨rfl, rfl⟩ (by kernel_rfl) rfl
    (fun f fn hf hfn => by
      obtain rfl : f = 8 := Option.some.inj ((show Tryd.prog.funcNamed "waterhour/waterhourlaw01.CurveTurned" = some 8 by kernel_rfl).symm.trans hf) |>.symm
      obtain rfl : fn = Tryd.f8 := (Option.some.inj (Tryd.func8.symm.trans hfn)).symm
      exact ⟨by kernel_rfl, fun j t ht => by
        rw [Tryd.params8] at ht
        have h3 : t = 3 ∨ t = 23 := by
          have := List.mem_of_getElem? (l := [23, 3, 3]) (i := j) (by simpa using ht)
          exact (by simpa using this : t = 23 ∨ t = 3).symm
        rcases h3 with rfl | rfl
        · exact (show Tryd.prog.wantsStandIn 3 = false by kernel_rfl)
        · exact (show Tryd.prog.wantsStandIn 23 = false by kernel_rfl)⟩)
    (by kernel_rfl)
end Go.Proofs.YtlhhpogaaneamaaDoor
