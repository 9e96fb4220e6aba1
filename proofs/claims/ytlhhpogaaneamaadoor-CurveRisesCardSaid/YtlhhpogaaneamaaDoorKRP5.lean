/- curveRises_holds: the declarations of this seat that its proof uses. Conditions: none. -/
import Derived.Test.YtlhhpogaaneamaaDoorKRP4
namespace Go.Proofs.YtlhhpogaaneamaaDoor.X
open Go.RowKit Go.Proofs.YtlhhpogaaneamaaDoorW.PrintWords Go.Proofs.YtlhhpogaaneamaaDoorW.PrintLast Go.Proofs.YtlhhpogaaneamaaDoorW.PrintMore
set_option linter.unusedVariables false
set_option linter.unusedSimpArgs false
attribute [local go_sem high] eqA25
mutual
def law_CurveRises.l0 : Nat → List (S57) → Int → List (S57) → Int → Int → Option (Bool)
 | 0, _, _, _, _, _ => none
 | k + 1, x0, x1, x24, x25, x26 => if x26 < x25 then (if 0 ≤ x26 then (if x26 < (x24.length : Int) then ((curve_Exact.f k x0 ((rd_T57 x24 x26).f0)).bind fun bt562 => (if bt562.2.2 = 0 then (law_CurveRises.j1 k x0 x1 x24 x25 x26 (!(bt562.1 == ((rd_T57 x24 x26).f1)) || (!(bt562.2.1 == 1)))) else (law_CurveRises.j1 k x0 x1 x24 x25 x26 true))) else (none)) else (none)) else ((ref_In.f x0 x1).bind fun t566 => (if t566 = true then ((ref_To.f x0).bind fun t567 => (law_CurveRises.j2 k x0 x1 (x1 == t567))) else (law_CurveRises.j2 k x0 x1 true)))
def law_CurveRises.j1 : Nat → List (S57) → Int → List (S57) → Int → Int → Bool → Option (Bool)
 | 0, _, _, _, _, _, _ => none
 | k + 1, x0, x1, x24, x25, x26, x45 => if x45 = true then (some false) else (law_CurveRises.l0 k x0 x1 x24 x25 (wrap64 (x26 + 1)))
def law_CurveRises.j2 : Nat → List (S57) → Int → Bool → Option (Bool)
 | 0, _, _, _ => none
 | k + 1, x0, x1, x56 => if x56 = true then (some true) else ((curve_Exact.f k x0 x1).bind fun bt568 => ((curve_Exact.f k x0 (wrap64 (x1 + 1))).bind fun bt572 => ((curve_Rate.f x0 x1).bind fun bt576 => ((curve_Low.f x0 x1).bind fun bt580 => ((curve_High.f x0 x1).bind fun bt582 => (if bt568.2.2 = 0 then (if bt572.2.2 = 0 then (if bt576.2.2 = 0 then (if bt580.2 = 0 then (if bt582.2 = 0 then (if bt568.2.1 < 1 then (law_CurveRises.j3 k x0 bt580.1 bt582.1 true bt568.1 bt568.2.1 bt572.1 bt572.2.1 bt576.1 bt576.2.1) else (if bt572.2.1 < 1 then (law_CurveRises.j3 k x0 bt580.1 bt582.1 true bt568.1 bt568.2.1 bt572.1 bt572.2.1 bt576.1 bt576.2.1) else (if bt576.2.1 < 1 then (law_CurveRises.j3 k x0 bt580.1 bt582.1 true bt568.1 bt568.2.1 bt572.1 bt572.2.1 bt576.1 bt576.2.1) else (law_CurveRises.j3 k x0 bt580.1 bt582.1 (decide (bt576.1 < 1)) bt568.1 bt568.2.1 bt572.1 bt572.2.1 bt576.1 bt576.2.1)))) else (law_CurveRises.j3 k x0 bt580.1 bt582.1 true bt568.1 bt568.2.1 bt572.1 bt572.2.1 bt576.1 bt576.2.1)) else (law_CurveRises.j3 k x0 bt580.1 bt582.1 true bt568.1 bt568.2.1 bt572.1 bt572.2.1 bt576.1 bt576.2.1)) else (law_CurveRises.j3 k x0 bt580.1 bt582.1 true bt568.1 bt568.2.1 bt572.1 bt572.2.1 bt576.1 bt576.2.1)) else (law_CurveRises.j3 k x0 bt580.1 bt582.1 true bt568.1 bt568.2.1 bt572.1 bt572.2.1 bt576.1 bt576.2.1)) else (law_CurveRises.j3 k x0 bt580.1 bt582.1 true bt568.1 bt568.2.1 bt572.1 bt572.2.1 bt576.1 bt576.2.1)))))))
def law_CurveRises.j3 : Nat → List (S57) → Int → Int → Bool → Int → Int → Int → Int → Int → Int → Option (Bool)
 | 0, _, _, _, _, _, _, _, _, _, _ => none
 | k + 1, x0, x15, x17, x125, x572000, x572001, x576000, x576001, x580000, x580001 => if x125 = true then (some false) else ((ref_Order.f k x572000 x572001 x576000 x576001).bind fun t584 => (if t584 ≥ 0 then (law_CurveRises.j4 k x0 x15 x17 true x572000 x572001 x576000 x576001 x580000 x580001) else (if (wrap64 (x17 - x15)) < 0 then (law_CurveRises.j4 k x0 x15 x17 true x572000 x572001 x576000 x576001 x580000 x580001) else (if (wrap64 (x17 - x15)) > 1 then (law_CurveRises.j4 k x0 x15 x17 true x572000 x572001 x576000 x576001 x580000 x580001) else (law_CurveRises.j4 k x0 x15 x17 ((x17 == x15) != (x572001 == 1)) x572000 x572001 x576000 x576001 x580000 x580001)))))
def law_CurveRises.j4 : Nat → List (S57) → Int → Int → Bool → Int → Int → Int → Int → Int → Int → Option (Bool)
 | 0, _, _, _, _, _, _, _, _, _, _ => none
 | k + 1, x0, x15, x17, x150, x572000, x572001, x576000, x576001, x580000, x580001 => if x150 = true then (some false) else ((ref_Order.f k x15 1 x572000 x572001).bind fun t585 => (if t585 > 0 then (law_CurveRises.j5 k x0 true x572000 x572001 x576000 x576001 x580000 x580001) else ((ref_Order.f k x572000 x572001 x17 1).bind fun t586 => (law_CurveRises.j5 k x0 (decide (t586 > 0)) x572000 x572001 x576000 x576001 x580000 x580001))))
def law_CurveRises.j5 : Nat → List (S57) → Bool → Int → Int → Int → Int → Int → Int → Option (Bool)
 | 0, _, _, _, _, _, _, _, _ => none
 | k + 1, x0, x162, x572000, x572001, x576000, x576001, x580000, x580001 => if x162 = true then (some false) else ((law_small.f k x0).bind fun t587 => (if t587 = true then (if x572001 > 32768 then (law_CurveRises.j6 k x0 true x572000 x572001 x576000 x576001 x580000 x580001) else (if x576001 > 32768 then (law_CurveRises.j6 k x0 true x572000 x572001 x576000 x576001 x580000 x580001) else (if x580001 > 32768 then (law_CurveRises.j6 k x0 true x572000 x572001 x576000 x576001 x580000 x580001) else (if x572000 > 1073741824 then (law_CurveRises.j6 k x0 true x572000 x572001 x576000 x576001 x580000 x580001) else (if x576000 > 1073741824 then (law_CurveRises.j6 k x0 true x572000 x572001 x576000 x576001 x580000 x580001) else (law_CurveRises.j6 k x0 (decide (x580000 > 32768)) x572000 x572001 x576000 x576001 x580000 x580001)))))) else (law_CurveRises.j6 k x0 true x572000 x572001 x576000 x576001 x580000 x580001)))
def law_CurveRises.j6 : Nat → List (S57) → Bool → Int → Int → Int → Int → Int → Int → Option (Bool)
 | 0, _, _, _, _, _, _, _, _ => none
 | k + 1, x0, x195, x572000, x572001, x576000, x576001, x580000, x580001 => if x195 = true then ((law_small.f k x0).bind fun t588 => (some (!t588))) else (some ((wrap64 ((wrap64 ((wrap64 (x576000 * x572001)) - (wrap64 (x572000 * x576001)))) * x580001)) == (wrap64 ((wrap64 (x580000 * x572001)) * x576001))))
end
def law_CurveRises.f (k : Nat) (l0 : List (S57)) (a1 : Int) : Option (Bool) := (law_sane.f).bind fun t558 => (if t558 = true then ((ref_Valid.f k l0).bind fun t559 => (if t559 = true then (law_CurveRises.l0 k l0 a1 l0 (l0.length : Int) 0) else (some true))) else (some false))
set_option maxHeartbeats 8000000 in
set_option maxRecDepth 100000 in
theorem law_CurveRises.calls (k : Nat) (A0 : Option Addr) (c0 : Nat) (l0 : List (S57)) (a1 : Int) (r : Bool) (w : World) (hr0 : Kd.C k57 w A0 l0.length l0) (hc0 : l0.length ≤ c0) (h : law_CurveRises.f k l0 a1 = some r) :
  Calls Tryd.prog 9 #[.slice A0 l0.length c0, .int .i64 a1] w fun e w' => e = .returned (.bool r) ∧ Below w.heap.size w w' := by
 have hu57 := Tryd.underlying57
 have hu25 := Tryd.underlying25
 have HR0 := Aside0.mk hr0
 have HC0 := Aside0.mk hc0
 clear hr0 hc0
 have HB := Aside0.mk (Below.refl w.heap.size w)
 have H : ((law_sane.f).bind fun t558 => (if t558 = true then ((ref_Valid.f k l0).bind fun t559 => (if t559 = true then (law_CurveRises.l0 k l0 a1 l0 (l0.length : Int) 0) else (some true))) else (some false))) = some r := h
 clear h
 replace H := Option.bind_eq_some_iff.mp H
 obtain ⟨t558, A30, H⟩ := H
 replace H : (if t558 = true then ((ref_Valid.f k l0).bind fun t559 => (if t559 = true then (law_CurveRises.l0 k l0 a1 l0 (l0.length : Int) 0) else (some true))) else (some false)) = some r := H
 have A3 := Aside0.mk A30
 clear A30
 by_cases c4 : t558 = true
 ·
  subst c4
  have H1 : ((ref_Valid.f k l0).bind fun t559 => (if t559 = true then (law_CurveRises.l0 k l0 a1 l0 (l0.length : Int) 0) else (some true))) = some r := by rw [if_pos rfl] at H; exact H
  clear H
  have H := H1
  clear H1
  replace H := Option.bind_eq_some_iff.mp H
  obtain ⟨t559, A50, H⟩ := H
  replace H : (if t559 = true then (law_CurveRises.l0 k l0 a1 l0 (l0.length : Int) 0) else (some true)) = some r := H
  have A5 := Aside0.mk A50
  clear A50
  by_cases c6 : t559 = true
  ·
   subst c6
   have H1 : (law_CurveRises.l0 k l0 a1 l0 (l0.length : Int) 0) = some r := by rw [if_pos rfl] at H; exact H
   clear H
   have H := H1
   clear H1
   have H' := Aside0.mk H
   clear H
   go_enter Tryd.func9, Tryd.ntmps9
   go_wp2_with (first | ((with_reducible refine gate_callee (f := 18) rfl ?_); refine goesL_ (some 19) rfl rfl Tryd.func18 (by kernel_rfl) rfl #[] rfl (by (try simp only [List.map_toArray, List.map_cons, List.map_nil]); first | done | rfl | (simp only [List.length_drop, List.length_take]; rfl)) ?_; (with_reducible refine (law_sane.calls  true _ A3.out).mono ?_); rintro e w7 ⟨rfl, hb⟩; refine ⟨_, rfl, ?_⟩; have n0_ := Aside0.mk (below_step (by repeat (first | (with_reducible first | exact HB.out | apply below_alloc | apply pw_below_drewN | apply below_drew1) | exact HB.out)) hb); clear HB; have HB := n0_; clear n0_; (try clear hb); (try clear hb2); (try clear hk); (try clear hi)) | ((with_reducible refine gate_callee (f := 42) rfl ?_); refine goesL_ (some 22) rfl rfl Tryd.func42 (by kernel_rfl) rfl #[.slice A0 l0.length c0] rfl (by (try simp only [List.map_toArray, List.map_cons, List.map_nil]); first | done | rfl | (simp only [List.length_drop, List.length_take]; rfl)) ?_; (with_reducible refine (ref_Valid.calls k _ _ l0 true _ ?side1 ?side2 A5.out).mono ?_); (case side1 => repeat (first | exact (Kd.C_below HR0.out HB.out) | (with_reducible refine Kd.C_alloc ?_ _) | (with_reducible refine Kd.C_drewN ?_ _) | (with_reducible refine Kd.C_drew ?_))); (case side2 => exact HC0.out); rintro e w' ⟨rfl, ⟨nd, rfl⟩⟩; refine ⟨_, rfl, ?_⟩))
   go_loopg [26] k (fun kq v26 w' => ∃ (x26_1 : Int), v26 = .int .i64 x26_1 ∧ Aside0 (law_CurveRises.l0 kq l0 a1 l0 (l0.length : Int) x26_1 = some r) ∧ Aside0 (kq ≤ k) ∧ Aside0 (Below w.heap.size w w'))
   case atStart => exact ⟨(0), (by first | rfl | (simp; done) | (simp [*]; done)), H', ⟨Nat.le_refl _⟩, ⟨by repeat (first | (with_reducible first | exact HB.out | apply below_alloc | apply pw_below_drewN | apply below_drew1) | exact HB.out)⟩⟩
   case round => as_aux_lemma =>
    clear H'
    try clear c1
    try clear p2
    try clear c4
    try clear c6
    obtain ⟨x26_1, rfl, HA, HK1, HB⟩ := hrel
    cases gk with
    | zero => exact absurd HA.out (by simp [law_CurveRises.l0])
    | succ k1 =>
     have H := HA.out
     clear HA
     simp only [law_CurveRises.l0] at H
     by_cases c8 : x26_1 < (l0.length : Int)
     ·
      rw [if_pos c8] at H
      have c8b0 : decide (x26_1 < (l0.length : Int)) = true := decide_eq_true c8
      clear c8
      by_cases c9 : 0 ≤ x26_1
      ·
       rw [if_pos c9] at H
       have c9b0 : decide (0 ≤ x26_1) = true := decide_eq_true c9
       clear c9
       by_cases c10 : x26_1 < (l0.length : Int)
       ·
        rw [if_pos c10] at H
        have c10b0 : decide (x26_1 < (l0.length : Int)) = true := decide_eq_true c10
        clear c10
        replace H := Option.bind_eq_some_iff.mp H
        obtain ⟨⟨t562, t563, t564⟩, A110, H⟩ := H
        replace H : (if t564 = 0 then (law_CurveRises.j1 k1 l0 a1 l0 (l0.length : Int) x26_1 (!(t562 == ((rd_T57 l0 x26_1).f1)) || (!(t563 == 1)))) else (law_CurveRises.j1 k1 l0 a1 l0 (l0.length : Int) x26_1 true)) = some r := H
        have A11 := Aside0.mk A110
        clear A110
        have HC12 := Aside0.mk H
        clear H
        have p560 : 0 ≤ (x26_1 : Int) := of_decide_eq_true (by first | (with_reducible assumption) | assumption)
        have q560 : x26_1 < (l0.length : Int) := of_decide_eq_true (by first | (with_reducible assumption) | assumption)
        obtain ⟨ad560, e560, hx560_0, hx560_1⟩ := at_T57 HR0.out x26_1 p560 q560
        cases e560
        replace hx560_0 := (HB.out.cell (World.block_lt_of_cell? w _ hx560_0)).trans hx560_0
        replace hx560_1 := (HB.out.cell (World.block_lt_of_cell? w _ hx560_1)).trans hx560_1
        replace p560 := eq_true p560
        replace q560 := eq_true q560
        go_upto_region 9 with (first | ((with_reducible refine gate_dst (N := 6) rfl ?_); refine box_event ?hg (N := 6) ?hd (cs := #[.int .i64 0, .int .i64 0]) (t := 57) ?hr ?_; (case hd => rfl); (case hg => rfl); (case hr => first | (go_simp; done) | (go_simp; rfl)); intro gb561 hg w13 hbox hb; have n0_ := Aside0.mk (below_step (by repeat (first | (with_reducible first | exact HB.out | apply below_alloc | apply pw_below_drewN | apply below_drew1) | exact HB.out)) hb); have n1_ := Aside0.mk (hbox); have n2_ := Aside0.mk ((by rw [hg]; exact (below_size (by repeat (first | (with_reducible first | exact HB.out | apply below_alloc | apply pw_below_drewN | apply below_drew1) | exact HB.out))) : w.heap.size ≤ gb561)); have n3_ := Aside0.mk ((by rw [hg]; exact (below_size (by repeat (first | (with_reducible first | exact HB.out | apply below_alloc | apply pw_below_drewN | apply below_drew1) | exact HB.out))) : w.heap.size ≤ gb561)); clear HB; have HB := n0_; have BK561 := n1_; have GW561 := n2_; have GE561 := n3_; clear n0_ n1_ n2_ n3_; clear hb hbox hg; have hcz14_0 : w13.cell? ⟨gb561, 0, none⟩ = some (.int .i64 0) := (blk_cell BK561.out 0).trans rfl; have hcz14_1 : w13.cell? ⟨gb561, 1, none⟩ = some (.int .i64 0) := (blk_cell BK561.out 1).trans rfl; have hfz14_0 := blk_frozen BK561.out 0; have hfz14_1 := blk_frozen BK561.out 1) | ((with_reducible refine gate_callee (f := 22) rfl ?_); refine goesL_ (some 34) rfl rfl Tryd.func22 (by kernel_rfl) rfl #[.slice (some ad560) l0.length c0, .int .i64 ((rd_T57 l0 x26_1).f0)] rfl (by (try simp only [List.map_toArray, List.map_cons, List.map_nil]); first | done | rfl | (simp only [List.length_drop, List.length_take]; rfl)) ?_; (with_reducible refine (curve_Exact.calls k1 _ _ l0 ((rd_T57 l0 x26_1).f0) t562 t563 t564 _ ?side1 ?side2 A11.out).mono ?_); (case side1 => exact Kd.C_below HR0.out (by repeat (first | (with_reducible first | exact HB.out | apply below_alloc | apply pw_below_drewN | apply below_drew1 | refine below_set ?_ GE561.out) | exact HB.out))); (case side2 => exact HC0.out); rintro e w15 ⟨rfl, hb⟩; refine ⟨_, rfl, ?_⟩; have n0_ := Aside0.mk (blk_below (g := gb561) (o := .cells #[.int .i64 ((rd_T57 l0 x26_1).f0), .int .i64 ((rd_T57 l0 x26_1).f1)] 57 (0, 0)) (by (with_reducible repeat (first | refine blk_drewN ?_ _ | refine blk_drew ?_ | refine blk_alloc ?_ _)); refine blk_put (cs := #[.int .i64 ((rd_T57 l0 x26_1).f0), .int .i64 0]) ?_ 1 _ rfl; (with_reducible repeat (first | refine blk_drewN ?_ _ | refine blk_drew ?_ | refine blk_alloc ?_ _)); refine blk_put (cs := #[.int .i64 0, .int .i64 0]) ?_ 0 _ rfl; (with_reducible repeat (first | refine blk_drewN ?_ _ | refine blk_drew ?_ | refine blk_alloc ?_ _)); exact BK561.out) hb); have n1_ := Aside0.mk (below_step (by repeat (first | (with_reducible first | exact HB.out | apply below_alloc | apply pw_below_drewN | apply below_drew1 | refine below_set ?_ GE561.out) | exact HB.out)) hb); clear BK561; clear HB; have BK561 := n0_; have HB := n1_; clear n0_ n1_; (try clear hb); (try clear hb2); (try clear hk); (try clear hi)) | ((with_reducible refine gate_dst (N := 7) rfl ?_); refine box_event ?hg (N := 7) ?hd (cs := #[.int .i64 0, .int .i64 0]) (t := 25) ?hr ?_; (case hd => rfl); (case hg => rfl); (case hr => first | (go_simp; done) | (go_simp; rfl)); intro gb565 hg w16 hbox hb; have n0_ := Aside0.mk (blk_below (g := gb561) (o := .cells #[.int .i64 ((rd_T57 l0 x26_1).f0), .int .i64 ((rd_T57 l0 x26_1).f1)] 57 (0, 0)) (by (with_reducible repeat (first | refine blk_drewN ?_ _ | refine blk_drew ?_ | refine blk_alloc ?_ _)); exact BK561.out) hb); have n1_ := Aside0.mk (below_step (by repeat (first | (with_reducible first | exact HB.out | apply below_alloc | apply pw_below_drewN | apply below_drew1 | refine below_set ?_ GE561.out) | exact HB.out)) hb); have n2_ := Aside0.mk (hbox); have n3_ := Aside0.mk ((by rw [hg]; exact (below_size (by repeat (first | (with_reducible first | exact HB.out | apply below_alloc | apply pw_below_drewN | apply below_drew1 | refine below_set ?_ GE561.out) | exact HB.out))) : w.heap.size ≤ gb565)); have n4_ := Aside0.mk ((by rw [hg]; exact (below_size (by repeat (first | (with_reducible first | exact HB.out | apply below_alloc | apply pw_below_drewN | apply below_drew1 | refine below_set ?_ GE561.out) | exact HB.out))) : w.heap.size ≤ gb565)); have n5_ := Aside0.mk ((by rw [hg]; exact Nat.ne_of_lt (blk_lt (g := gb561) (o := .cells #[.int .i64 ((rd_T57 l0 x26_1).f0), .int .i64 ((rd_T57 l0 x26_1).f1)] 57 (0, 0)) (by (with_reducible repeat (first | refine blk_drewN ?_ _ | refine blk_drew ?_ | refine blk_alloc ?_ _)); exact BK561.out)) : gb561 ≠ gb565)); have n6_ := Aside0.mk ((by rw [hg]; exact Nat.ne_of_gt (blk_lt (g := gb561) (o := .cells #[.int .i64 ((rd_T57 l0 x26_1).f0), .int .i64 ((rd_T57 l0 x26_1).f1)] 57 (0, 0)) (by (with_reducible repeat (first | refine blk_drewN ?_ _ | refine blk_drew ?_ | refine blk_alloc ?_ _)); exact BK561.out)) : gb565 ≠ gb561)); clear BK561; clear HB; have BK561 := n0_; have HB := n1_; have BK565 := n2_; have GW565 := n3_; have GE565 := n4_; have NB561_565 := n5_; have NB565_561 := n6_; clear n0_ n1_ n2_ n3_ n4_ n5_ n6_; clear hb hbox hg; have hnb17 := NB565_561.out; have hnc17 := NB561_565.out; have hcz18_0 : w16.cell? ⟨gb565, 0, none⟩ = some (.int .i64 0) := (blk_cell BK565.out 0).trans rfl; have hcz18_1 : w16.cell? ⟨gb565, 1, none⟩ = some (.int .i64 0) := (blk_cell BK565.out 1).trans rfl; have hfz18_0 := blk_frozen BK565.out 0; have hfz18_1 := blk_frozen BK565.out 1))
        (try simp only [Act.put, List.setIfInBounds_toArray, List.set_cons_zero, List.set_cons_succ])
        go_cut [45] (fun v45 wc => ∃ (kq : Nat) (x45_11 : Bool), v45 = .bool x45_11 ∧ Aside0 (law_CurveRises.j1 kq l0 a1 l0 (l0.length : Int) x26_1 x45_11 = some r) ∧ Aside0 (kq ≤ k1) ∧ Aside0 (wc.heap[gb561]? = some (.cells #[.int .i64 ((rd_T57 l0 x26_1).f0), .int .i64 ((rd_T57 l0 x26_1).f1)] 57 (0, 0))) ∧ Aside0 (wc.heap[gb565]? = some (.cells #[.int .i64 t562, .int .i64 t563] 25 (0, 0))) ∧ Aside0 (Below w.heap.size w wc))
        case first => as_aux_lemma =>
         have H := HC12.out
         clear HC12
         by_cases c19 : t564 = 0
         ·
          rw [if_pos c19] at H
          have c19b0 : (t564 == 0) = true := beq_iff_eq.mpr c19
          have c19b1 : (t564 != 0) = false := bne_eq_false_iff_eq.mpr c19
          clear c19
          (first | rw [c19b0] | (simp only [i64_w, i32_w]; rw [c19b0]) | skip)
          have H' := Aside0.mk H
          clear H
          have hnb20 := NB565_561.out
          have hnc20 := NB561_565.out
          have hcz21_0 : w16.cell? ⟨gb565, 0, none⟩ = some (.int .i64 0) := (blk_cell BK565.out 0).trans rfl
          have hcz21_1 : w16.cell? ⟨gb565, 1, none⟩ = some (.int .i64 0) := (blk_cell BK565.out 1).trans rfl
          have hfz21_0 := blk_frozen BK565.out 0
          have hfz21_1 := blk_frozen BK565.out 1
          have hcz22_0 : w16.cell? ⟨gb561, 0, none⟩ = some (.int .i64 ((rd_T57 l0 x26_1).f0)) := (blk_cell BK561.out 0).trans rfl
          have hcz22_1 : w16.cell? ⟨gb561, 1, none⟩ = some (.int .i64 ((rd_T57 l0 x26_1).f1)) := (blk_cell BK561.out 1).trans rfl
          have hfz22_0 := blk_frozen BK561.out 0
          have hfz22_1 := blk_frozen BK561.out 1
          go_wp2
          go_meet
          case rel => exact ⟨_, ((!(t562 == ((rd_T57 l0 x26_1).f1)) || (!(t563 == 1)))), (by first | rfl | (simp; done) | (simp [*]; done)), H', ⟨by have := HK1.out; first | omega | exact Nat.le_refl _⟩, ⟨by (with_reducible repeat (first | refine blk_drewN ?_ _ | refine blk_drew ?_ | refine blk_alloc ?_ _)); refine blk_far ?_ NB561_565.out _; (with_reducible repeat (first | refine blk_drewN ?_ _ | refine blk_drew ?_ | refine blk_alloc ?_ _)); refine blk_far ?_ NB561_565.out _; (with_reducible repeat (first | refine blk_drewN ?_ _ | refine blk_drew ?_ | refine blk_alloc ?_ _)); exact BK561.out⟩, ⟨by (with_reducible repeat (first | refine blk_drewN ?_ _ | refine blk_drew ?_ | refine blk_alloc ?_ _)); refine blk_put (cs := #[.int .i64 t562, .int .i64 0]) ?_ 1 _ rfl; (with_reducible repeat (first | refine blk_drewN ?_ _ | refine blk_drew ?_ | refine blk_alloc ?_ _)); refine blk_put (cs := #[.int .i64 0, .int .i64 0]) ?_ 0 _ rfl; (with_reducible repeat (first | refine blk_drewN ?_ _ | refine blk_drew ?_ | refine blk_alloc ?_ _)); exact BK565.out⟩, ⟨by repeat (first | (with_reducible first | exact HB.out | apply below_alloc | apply pw_below_drewN | apply below_drew1 | refine below_set ?_ GE561.out | refine below_set ?_ GE565.out) | exact HB.out)⟩⟩
         ·
          rw [if_neg c19] at H
          have c19b0 : (t564 == 0) = false := beq_eq_false_iff_ne.mpr c19
          have c19b1 : (t564 != 0) = true := bne_iff_ne.mpr c19
          (first | rw [c19b0] | (simp only [i64_w, i32_w]; rw [c19b0]) | skip)
          have H' := Aside0.mk H
          clear H
          go_wp2
          go_meet
          case rel => exact ⟨_, (true), (by first | rfl | (simp; done) | (simp [*]; done)), H', ⟨by have := HK1.out; first | omega | exact Nat.le_refl _⟩, ⟨by (with_reducible repeat (first | refine blk_drewN ?_ _ | refine blk_drew ?_ | refine blk_alloc ?_ _)); refine blk_far ?_ NB561_565.out _; (with_reducible repeat (first | refine blk_drewN ?_ _ | refine blk_drew ?_ | refine blk_alloc ?_ _)); refine blk_far ?_ NB561_565.out _; (with_reducible repeat (first | refine blk_drewN ?_ _ | refine blk_drew ?_ | refine blk_alloc ?_ _)); exact BK561.out⟩, ⟨by (with_reducible repeat (first | refine blk_drewN ?_ _ | refine blk_drew ?_ | refine blk_alloc ?_ _)); refine blk_put (cs := #[.int .i64 t562, .int .i64 0]) ?_ 1 _ rfl; (with_reducible repeat (first | refine blk_drewN ?_ _ | refine blk_drew ?_ | refine blk_alloc ?_ _)); refine blk_put (cs := #[.int .i64 0, .int .i64 0]) ?_ 0 _ rfl; (with_reducible repeat (first | refine blk_drewN ?_ _ | refine blk_drew ?_ | refine blk_alloc ?_ _)); exact BK565.out⟩, ⟨by repeat (first | (with_reducible first | exact HB.out | apply below_alloc | apply pw_below_drewN | apply below_drew1 | refine below_set ?_ GE561.out | refine below_set ?_ GE565.out) | exact HB.out)⟩⟩
        case rest => as_aux_lemma =>
         clear HC12
         try clear c1
         try clear c2
         try clear p2
         try clear c4
         try clear p5
         try clear q5
         try clear hx5
         try clear c6
         try clear c8
         try clear c8b0
         try clear c9
         try clear c9b0
         try clear c10
         try clear c10b0
         try clear c17
         try clear c18
         try clear c19
         try clear c19b0
         try clear c19b1
         try clear c20
         try clear c22
         try clear hcz14_0
         try clear hcz14_1
         try clear hcz18_0
         try clear hcz18_1
         try clear hcz21_0
         try clear hcz21_1
         try clear hcz22_0
         try clear hcz22_1
         try clear hfz14_0
         try clear hfz14_1
         try clear hfz18_0
         try clear hfz18_1
         try clear hfz21_0
         try clear hfz21_1
         try clear hfz22_0
         try clear hfz22_1
         try clear hx560_0
         try clear hx560_1
         try clear p2
         try clear p560
         try clear q560
         obtain ⟨kq, x45_11, rfl, HA, HJ11, BK561, BK565, HB⟩ := hcut
         cases kq with
         | zero => exact absurd HA.out (by simp [law_CurveRises.j1])
         | succ kj11 =>
          have H := HA.out
          clear HA
          simp only [law_CurveRises.j1] at H
          by_cases c23 : x45_11 = true
          ·
           subst c23
           have H1 : (some false) = some r := by rw [if_pos rfl] at H; exact H
           clear H
           have H := H1
           clear H1
           obtain rfl := Option.some.inj H
           go_wp2
           go_ret
           exact ⟨by first | rfl | (simp [errW_none, errW_some] <;> rfl) | (simp [*, errW_none, errW_some] <;> rfl), by repeat (first | (with_reducible first | exact HB.out | apply below_alloc | apply pw_below_drewN | apply below_drew1 | refine below_set ?_ GE561.out | refine below_set ?_ GE565.out) | exact HB.out)⟩
          ·
           replace c23 := Bool.eq_false_iff.mpr c23
           subst c23
           have H1 : (law_CurveRises.l0 kj11 l0 a1 l0 (l0.length : Int) (wrap64 (x26_1 + 1))) = some r := by rw [if_neg (show ¬ (false = true) by decide)] at H; exact H
           clear H
           have H := H1
           clear H1
           have H' := Aside0.mk H
           clear H
           go_wp2
           go_roundg kj11
           case measure => have := HK1.out; have := HJ11.out; omega
           case rel => exact ⟨(wrap64 (x26_1 + 1)), (by first | rfl | (simp; done) | (simp [*]; done)), H', ⟨by have := HK1.out; have := HJ11.out; omega⟩, ⟨by repeat (first | (with_reducible first | exact HB.out | apply below_alloc | apply pw_below_drewN | apply below_drew1 | refine below_set ?_ GE561.out | refine below_set ?_ GE565.out) | exact HB.out)⟩⟩
       ·
        rw [if_neg c10] at H
        exact absurd H (by simp)
      ·
       rw [if_neg c9] at H
       exact absurd H (by simp)
     ·
      rw [if_neg c8] at H
      have c8b0 : decide (x26_1 < (l0.length : Int)) = false := decide_eq_false c8
      clear c8
      have HC24 := Aside0.mk H
      clear H
      go_upto_region 12 with (fail)
      go_cut [56] (fun v56 wc => ∃ (kq : Nat) (x56_23 : Bool), v56 = .bool x56_23 ∧ Aside0 (law_CurveRises.j2 kq l0 a1 x56_23 = some r) ∧ Aside0 (kq ≤ k1) ∧ Aside0 (Below w.heap.size w wc))
      case first => as_aux_lemma =>
       have H := HC24.out
       clear HC24
       replace H := Option.bind_eq_some_iff.mp H
       obtain ⟨t566, A250, H⟩ := H
       replace H : (if t566 = true then ((ref_To.f l0).bind fun t567 => (law_CurveRises.j2 k1 l0 a1 (a1 == t567))) else (law_CurveRises.j2 k1 l0 a1 true)) = some r := H
       have A25 := Aside0.mk A250
       clear A250
       by_cases c26 : t566 = true
       ·
        subst c26
        have H1 : ((ref_To.f l0).bind fun t567 => (law_CurveRises.j2 k1 l0 a1 (a1 == t567))) = some r := by rw [if_pos rfl] at H; exact H
        clear H
        have H := H1
        clear H1
        replace H := Option.bind_eq_some_iff.mp H
        obtain ⟨t567, A270, H⟩ := H
        replace H : (law_CurveRises.j2 k1 l0 a1 (a1 == t567)) = some r := H
        have A27 := Aside0.mk A270
        clear A270
        have H' := Aside0.mk H
        clear H
        go_wp2_with (first | ((with_reducible refine gate_callee (f := 43) rfl ?_); refine goesL_ (some 49) rfl rfl Tryd.func43 (by kernel_rfl) rfl #[.slice A0 l0.length c0, .int .i64 a1] rfl (by (try simp only [List.map_toArray, List.map_cons, List.map_nil]); first | done | rfl | (simp only [List.length_drop, List.length_take]; rfl)) ?_; (with_reducible refine (ref_In.calls _ _ l0 a1 true _ ?side1 ?side2 A25.out).mono ?_); (case side1 => repeat (first | exact (Kd.C_below HR0.out HB.out) | (with_reducible refine Kd.C_alloc ?_ _) | (with_reducible refine Kd.C_drewN ?_ _) | (with_reducible refine Kd.C_drew ?_))); (case side2 => exact HC0.out); rintro e w' ⟨rfl, ⟨nd, rfl⟩⟩; refine ⟨_, rfl, ?_⟩) | (go_at_call 48; (with_reducible refine (ref_To.calls _ _ l0 t567 _ ?side1 ?side2 A27.out).mono ?_); (case side1 => repeat (first | exact (Kd.C_below HR0.out (by repeat (first | (with_reducible first | exact HB.out | apply below_alloc | apply pw_below_drewN | apply below_drew1) | exact HB.out))) | (with_reducible refine Kd.C_alloc ?_ _) | (with_reducible refine Kd.C_drewN ?_ _) | (with_reducible refine Kd.C_drew ?_))); (case side2 => exact HC0.out); rintro e w' ⟨rfl, ⟨nd, rfl⟩⟩))
        go_meet
        case rel => exact ⟨_, ((a1 == t567)), (by first | rfl | (simp; done) | (simp [*]; done)), H', ⟨by have := HK1.out; first | omega | exact Nat.le_refl _⟩, ⟨by repeat (first | (with_reducible first | exact HB.out | apply below_alloc | apply pw_below_drewN | apply below_drew1) | exact HB.out)⟩⟩
       ·
        replace c26 := Bool.eq_false_iff.mpr c26
        subst c26
        have H1 : (law_CurveRises.j2 k1 l0 a1 true) = some r := by rw [if_neg (show ¬ (false = true) by decide)] at H; exact H
        clear H
        have H := H1
        clear H1
        have H' := Aside0.mk H
        clear H
        go_wp2_with (first | ((with_reducible refine gate_callee (f := 43) rfl ?_); refine goesL_ (some 49) rfl rfl Tryd.func43 (by kernel_rfl) rfl #[.slice A0 l0.length c0, .int .i64 a1] rfl (by (try simp only [List.map_toArray, List.map_cons, List.map_nil]); first | done | rfl | (simp only [List.length_drop, List.length_take]; rfl)) ?_; (with_reducible refine (ref_In.calls _ _ l0 a1 false _ ?side1 ?side2 A25.out).mono ?_); (case side1 => repeat (first | exact (Kd.C_below HR0.out HB.out) | (with_reducible refine Kd.C_alloc ?_ _) | (with_reducible refine Kd.C_drewN ?_ _) | (with_reducible refine Kd.C_drew ?_))); (case side2 => exact HC0.out); rintro e w' ⟨rfl, ⟨nd, rfl⟩⟩; refine ⟨_, rfl, ?_⟩))
        go_meet
        case rel => exact ⟨_, (true), (by first | rfl | (simp; done) | (simp [*]; done)), H', ⟨by have := HK1.out; first | omega | exact Nat.le_refl _⟩, ⟨by repeat (first | (with_reducible first | exact HB.out | apply below_alloc | apply pw_below_drewN | apply below_drew1) | exact HB.out)⟩⟩
      case rest => as_aux_lemma =>
       clear HC24
       try clear c1
       try clear c2
       try clear p2
       try clear c4
       try clear p5
       try clear q5
       try clear hx5
       try clear c6
       try clear p6
       try clear c8
       try clear c8b0
       try clear c9
       try clear c9b0
       try clear c10
       try clear c10b0
       try clear c17
       try clear c18
       try clear c19
       try clear c19b0
       try clear c19b1
       try clear c20
       try clear c22
       try clear c23
       try clear c26
       try clear hcz14_0
       try clear hcz14_1
       try clear hcz18_0
       try clear hcz18_1
       try clear hcz21_0
       try clear hcz21_1
       try clear hcz22_0
       try clear hcz22_1
       try clear hfz14_0
       try clear hfz14_1
       try clear hfz18_0
       try clear hfz18_1
       try clear hfz21_0
       try clear hfz21_1
       try clear hfz22_0
       try clear hfz22_1
       try clear hx560_0
       try clear hx560_1
       try clear p2
       try clear p5
       try clear p560
       try clear q5
       try clear q560
       obtain ⟨kq, x56_23, rfl, HA, HJ23, HB⟩ := hcut
       cases kq with
       | zero => exact absurd HA.out (by simp [law_CurveRises.j2])
       | succ kj23 =>
        have H := HA.out
        clear HA
        simp only [law_CurveRises.j2] at H
        by_cases c28 : x56_23 = true
        ·
         subst c28
         have H1 : (some true) = some r := by rw [if_pos rfl] at H; exact H
         clear H
         have H := H1
         clear H1
         obtain rfl := Option.some.inj H
         go_wp2
         go_ret
         exact ⟨by first | rfl | (simp [errW_none, errW_some] <;> rfl) | (simp [*, errW_none, errW_some] <;> rfl), by repeat (first | (with_reducible first | exact HB.out | apply below_alloc | apply pw_below_drewN | apply below_drew1) | exact HB.out)⟩
        ·
         replace c28 := Bool.eq_false_iff.mpr c28
         subst c28
         have H1 : ((curve_Exact.f kj23 l0 a1).bind fun bt568 => ((curve_Exact.f kj23 l0 (wrap64 (a1 + 1))).bind fun bt572 => ((curve_Rate.f l0 a1).bind fun bt576 => ((curve_Low.f l0 a1).bind fun bt580 => ((curve_High.f l0 a1).bind fun bt582 => (if bt568.2.2 = 0 then (if bt572.2.2 = 0 then (if bt576.2.2 = 0 then (if bt580.2 = 0 then (if bt582.2 = 0 then (if bt568.2.1 < 1 then (law_CurveRises.j3 kj23 l0 bt580.1 bt582.1 true bt568.1 bt568.2.1 bt572.1 bt572.2.1 bt576.1 bt576.2.1) else (if bt572.2.1 < 1 then (law_CurveRises.j3 kj23 l0 bt580.1 bt582.1 true bt568.1 bt568.2.1 bt572.1 bt572.2.1 bt576.1 bt576.2.1) else (if bt576.2.1 < 1 then (law_CurveRises.j3 kj23 l0 bt580.1 bt582.1 true bt568.1 bt568.2.1 bt572.1 bt572.2.1 bt576.1 bt576.2.1) else (law_CurveRises.j3 kj23 l0 bt580.1 bt582.1 (decide (bt576.1 < 1)) bt568.1 bt568.2.1 bt572.1 bt572.2.1 bt576.1 bt576.2.1)))) else (law_CurveRises.j3 kj23 l0 bt580.1 bt582.1 true bt568.1 bt568.2.1 bt572.1 bt572.2.1 bt576.1 bt576.2.1)) else (law_CurveRises.j3 kj23 l0 bt580.1 bt582.1 true bt568.1 bt568.2.1 bt572.1 bt572.2.1 bt576.1 bt576.2.1)) else (law_CurveRises.j3 kj23 l0 bt580.1 bt582.1 true bt568.1 bt568.2.1 bt572.1 bt572.2.1 bt576.1 bt576.2.1)) else (law_CurveRises.j3 kj23 l0 bt580.1 bt582.1 true bt568.1 bt568.2.1 bt572.1 bt572.2.1 bt576.1 bt576.2.1)) else (law_CurveRises.j3 kj23 l0 bt580.1 bt582.1 true bt568.1 bt568.2.1 bt572.1 bt572.2.1 bt576.1 bt576.2.1))))))) = some r := by rw [if_neg (show ¬ (false = true) by decide)] at H; exact H
         clear H
         have H := H1
         clear H1
         replace H := Option.bind_eq_some_iff.mp H
         obtain ⟨⟨t568, t569, t570⟩, A290, H⟩ := H
         replace H : ((curve_Exact.f kj23 l0 (wrap64 (a1 + 1))).bind fun bt572 => ((curve_Rate.f l0 a1).bind fun bt576 => ((curve_Low.f l0 a1).bind fun bt580 => ((curve_High.f l0 a1).bind fun bt582 => (if t570 = 0 then (if bt572.2.2 = 0 then (if bt576.2.2 = 0 then (if bt580.2 = 0 then (if bt582.2 = 0 then (if t569 < 1 then (law_CurveRises.j3 kj23 l0 bt580.1 bt582.1 true t568 t569 bt572.1 bt572.2.1 bt576.1 bt576.2.1) else (if bt572.2.1 < 1 then (law_CurveRises.j3 kj23 l0 bt580.1 bt582.1 true t568 t569 bt572.1 bt572.2.1 bt576.1 bt576.2.1) else (if bt576.2.1 < 1 then (law_CurveRises.j3 kj23 l0 bt580.1 bt582.1 true t568 t569 bt572.1 bt572.2.1 bt576.1 bt576.2.1) else (law_CurveRises.j3 kj23 l0 bt580.1 bt582.1 (decide (bt576.1 < 1)) t568 t569 bt572.1 bt572.2.1 bt576.1 bt576.2.1)))) else (law_CurveRises.j3 kj23 l0 bt580.1 bt582.1 true t568 t569 bt572.1 bt572.2.1 bt576.1 bt576.2.1)) else (law_CurveRises.j3 kj23 l0 bt580.1 bt582.1 true t568 t569 bt572.1 bt572.2.1 bt576.1 bt576.2.1)) else (law_CurveRises.j3 kj23 l0 bt580.1 bt582.1 true t568 t569 bt572.1 bt572.2.1 bt576.1 bt576.2.1)) else (law_CurveRises.j3 kj23 l0 bt580.1 bt582.1 true t568 t569 bt572.1 bt572.2.1 bt576.1 bt576.2.1)) else (law_CurveRises.j3 kj23 l0 bt580.1 bt582.1 true t568 t569 bt572.1 bt572.2.1 bt576.1 bt576.2.1)))))) = some r := H
         have A29 := Aside0.mk A290
         clear A290
         replace H := Option.bind_eq_some_iff.mp H
         obtain ⟨⟨t572, t573, t574⟩, A300, H⟩ := H
         replace H : ((curve_Rate.f l0 a1).bind fun bt576 => ((curve_Low.f l0 a1).bind fun bt580 => ((curve_High.f l0 a1).bind fun bt582 => (if t570 = 0 then (if t574 = 0 then (if bt576.2.2 = 0 then (if bt580.2 = 0 then (if bt582.2 = 0 then (if t569 < 1 then (law_CurveRises.j3 kj23 l0 bt580.1 bt582.1 true t568 t569 t572 t573 bt576.1 bt576.2.1) else (if t573 < 1 then (law_CurveRises.j3 kj23 l0 bt580.1 bt582.1 true t568 t569 t572 t573 bt576.1 bt576.2.1) else (if bt576.2.1 < 1 then (law_CurveRises.j3 kj23 l0 bt580.1 bt582.1 true t568 t569 t572 t573 bt576.1 bt576.2.1) else (law_CurveRises.j3 kj23 l0 bt580.1 bt582.1 (decide (bt576.1 < 1)) t568 t569 t572 t573 bt576.1 bt576.2.1)))) else (law_CurveRises.j3 kj23 l0 bt580.1 bt582.1 true t568 t569 t572 t573 bt576.1 bt576.2.1)) else (law_CurveRises.j3 kj23 l0 bt580.1 bt582.1 true t568 t569 t572 t573 bt576.1 bt576.2.1)) else (law_CurveRises.j3 kj23 l0 bt580.1 bt582.1 true t568 t569 t572 t573 bt576.1 bt576.2.1)) else (law_CurveRises.j3 kj23 l0 bt580.1 bt582.1 true t568 t569 t572 t573 bt576.1 bt576.2.1)) else (law_CurveRises.j3 kj23 l0 bt580.1 bt582.1 true t568 t569 t572 t573 bt576.1 bt576.2.1))))) = some r := H
         have A30 := Aside0.mk A300
         clear A300
         replace H := Option.bind_eq_some_iff.mp H
         obtain ⟨⟨t576, t577, t578⟩, A310, H⟩ := H
         replace H : ((curve_Low.f l0 a1).bind fun bt580 => ((curve_High.f l0 a1).bind fun bt582 => (if t570 = 0 then (if t574 = 0 then (if t578 = 0 then (if bt580.2 = 0 then (if bt582.2 = 0 then (if t569 < 1 then (law_CurveRises.j3 kj23 l0 bt580.1 bt582.1 true t568 t569 t572 t573 t576 t577) else (if t573 < 1 then (law_CurveRises.j3 kj23 l0 bt580.1 bt582.1 true t568 t569 t572 t573 t576 t577) else (if t577 < 1 then (law_CurveRises.j3 kj23 l0 bt580.1 bt582.1 true t568 t569 t572 t573 t576 t577) else (law_CurveRises.j3 kj23 l0 bt580.1 bt582.1 (decide (t576 < 1)) t568 t569 t572 t573 t576 t577)))) else (law_CurveRises.j3 kj23 l0 bt580.1 bt582.1 true t568 t569 t572 t573 t576 t577)) else (law_CurveRises.j3 kj23 l0 bt580.1 bt582.1 true t568 t569 t572 t573 t576 t577)) else (law_CurveRises.j3 kj23 l0 bt580.1 bt582.1 true t568 t569 t572 t573 t576 t577)) else (law_CurveRises.j3 kj23 l0 bt580.1 bt582.1 true t568 t569 t572 t573 t576 t577)) else (law_CurveRises.j3 kj23 l0 bt580.1 bt582.1 true t568 t569 t572 t573 t576 t577)))) = some r := H
         have A31 := Aside0.mk A310
         clear A310
         replace H := Option.bind_eq_some_iff.mp H
         obtain ⟨⟨t580, t581⟩, A320, H⟩ := H
         replace H : ((curve_High.f l0 a1).bind fun bt582 => (if t570 = 0 then (if t574 = 0 then (if t578 = 0 then (if t581 = 0 then (if bt582.2 = 0 then (if t569 < 1 then (law_CurveRises.j3 kj23 l0 t580 bt582.1 true t568 t569 t572 t573 t576 t577) else (if t573 < 1 then (law_CurveRises.j3 kj23 l0 t580 bt582.1 true t568 t569 t572 t573 t576 t577) else (if t577 < 1 then (law_CurveRises.j3 kj23 l0 t580 bt582.1 true t568 t569 t572 t573 t576 t577) else (law_CurveRises.j3 kj23 l0 t580 bt582.1 (decide (t576 < 1)) t568 t569 t572 t573 t576 t577)))) else (law_CurveRises.j3 kj23 l0 t580 bt582.1 true t568 t569 t572 t573 t576 t577)) else (law_CurveRises.j3 kj23 l0 t580 bt582.1 true t568 t569 t572 t573 t576 t577)) else (law_CurveRises.j3 kj23 l0 t580 bt582.1 true t568 t569 t572 t573 t576 t577)) else (law_CurveRises.j3 kj23 l0 t580 bt582.1 true t568 t569 t572 t573 t576 t577)) else (law_CurveRises.j3 kj23 l0 t580 bt582.1 true t568 t569 t572 t573 t576 t577))) = some r := H
         have A32 := Aside0.mk A320
         clear A320
         replace H := Option.bind_eq_some_iff.mp H
         obtain ⟨⟨t582, t583⟩, A330, H⟩ := H
         replace H : (if t570 = 0 then (if t574 = 0 then (if t578 = 0 then (if t581 = 0 then (if t583 = 0 then (if t569 < 1 then (law_CurveRises.j3 kj23 l0 t580 t582 true t568 t569 t572 t573 t576 t577) else (if t573 < 1 then (law_CurveRises.j3 kj23 l0 t580 t582 true t568 t569 t572 t573 t576 t577) else (if t577 < 1 then (law_CurveRises.j3 kj23 l0 t580 t582 true t568 t569 t572 t573 t576 t577) else (law_CurveRises.j3 kj23 l0 t580 t582 (decide (t576 < 1)) t568 t569 t572 t573 t576 t577)))) else (law_CurveRises.j3 kj23 l0 t580 t582 true t568 t569 t572 t573 t576 t577)) else (law_CurveRises.j3 kj23 l0 t580 t582 true t568 t569 t572 t573 t576 t577)) else (law_CurveRises.j3 kj23 l0 t580 t582 true t568 t569 t572 t573 t576 t577)) else (law_CurveRises.j3 kj23 l0 t580 t582 true t568 t569 t572 t573 t576 t577)) else (law_CurveRises.j3 kj23 l0 t580 t582 true t568 t569 t572 t573 t576 t577)) = some r := H
         have A33 := Aside0.mk A330
         clear A330
         have HC34 := Aside0.mk H
         clear H
         go_upto_region 19 with (first | ((with_reducible refine gate_callee (f := 22) rfl ?_); refine goesL_ (some 60) rfl rfl Tryd.func22 (by kernel_rfl) rfl #[.slice A0 l0.length c0, .int .i64 a1] rfl (by (try simp only [List.map_toArray, List.map_cons, List.map_nil]); first | done | rfl | (simp only [List.length_drop, List.length_take]; rfl)) ?_; (with_reducible refine (curve_Exact.calls kj23 _ _ l0 a1 t568 t569 t570 _ ?side1 ?side2 A29.out).mono ?_); (case side1 => repeat (first | exact (Kd.C_below HR0.out HB.out) | (with_reducible refine Kd.C_alloc ?_ _) | (with_reducible refine Kd.C_drewN ?_ _) | (with_reducible refine Kd.C_drew ?_))); (case side2 => exact HC0.out); rintro e w35 ⟨rfl, hb⟩; refine ⟨_, rfl, ?_⟩; have n0_ := Aside0.mk (below_step (by repeat (first | (with_reducible first | exact HB.out | apply below_alloc | apply pw_below_drewN | apply below_drew1) | exact HB.out)) hb); clear HB; have HB := n0_; clear n0_; (try clear hb); (try clear hb2); (try clear hk); (try clear hi)) | ((with_reducible refine gate_dst (N := 9) rfl ?_); refine box_event ?hg (N := 9) ?hd (cs := #[.int .i64 0, .int .i64 0]) (t := 25) ?hr ?_; (case hd => rfl); (case hg => rfl); (case hr => first | (go_simp; done) | (go_simp; rfl)); intro gb571 hg w36 hbox hb; have n0_ := Aside0.mk (below_step (by repeat (first | (with_reducible first | exact HB.out | apply below_alloc | apply pw_below_drewN | apply below_drew1) | exact HB.out)) hb); have n1_ := Aside0.mk (hbox); have n2_ := Aside0.mk ((by rw [hg]; exact (below_size (by repeat (first | (with_reducible first | exact HB.out | apply below_alloc | apply pw_below_drewN | apply below_drew1) | exact HB.out))) : w.heap.size ≤ gb571)); have n3_ := Aside0.mk ((by rw [hg]; exact (below_size (by repeat (first | (with_reducible first | exact HB.out | apply below_alloc | apply pw_below_drewN | apply below_drew1) | exact HB.out))) : w.heap.size ≤ gb571)); clear HB; have HB := n0_; have BK571 := n1_; have GW571 := n2_; have GE571 := n3_; clear n0_ n1_ n2_ n3_; clear hb hbox hg; have hcz37_0 : w36.cell? ⟨gb571, 0, none⟩ = some (.int .i64 0) := (blk_cell BK571.out 0).trans rfl; have hcz37_1 : w36.cell? ⟨gb571, 1, none⟩ = some (.int .i64 0) := (blk_cell BK571.out 1).trans rfl; have hfz37_0 := blk_frozen BK571.out 0; have hfz37_1 := blk_frozen BK571.out 1) | ((with_reducible refine gate_callee (f := 22) rfl ?_); refine goesL_ (some 67) rfl rfl Tryd.func22 (by kernel_rfl) rfl #[.slice A0 l0.length c0, .int .i64 (wrap64 (a1 + 1))] rfl (by (try simp only [List.map_toArray, List.map_cons, List.map_nil]); first | done | rfl | (simp only [List.length_drop, List.length_take]; rfl)) ?_; (with_reducible refine (curve_Exact.calls kj23 _ _ l0 (wrap64 (a1 + 1)) t572 t573 t574 _ ?side1 ?side2 A30.out).mono ?_); (case side1 => exact Kd.C_below HR0.out (by repeat (first | (with_reducible first | exact HB.out | apply below_alloc | apply pw_below_drewN | apply below_drew1 | refine below_set ?_ GE571.out) | exact HB.out))); (case side2 => exact HC0.out); rintro e w38 ⟨rfl, hb⟩; refine ⟨_, rfl, ?_⟩; have n0_ := Aside0.mk (blk_below (g := gb571) (o := .cells #[.int .i64 t568, .int .i64 t569] 25 (0, 0)) (by (with_reducible repeat (first | refine blk_drewN ?_ _ | refine blk_drew ?_ | refine blk_alloc ?_ _)); refine blk_put (cs := #[.int .i64 t568, .int .i64 0]) ?_ 1 _ rfl; (with_reducible repeat (first | refine blk_drewN ?_ _ | refine blk_drew ?_ | refine blk_alloc ?_ _)); refine blk_put (cs := #[.int .i64 0, .int .i64 0]) ?_ 0 _ rfl; (with_reducible repeat (first | refine blk_drewN ?_ _ | refine blk_drew ?_ | refine blk_alloc ?_ _)); exact BK571.out) hb); have n1_ := Aside0.mk (below_step (by repeat (first | (with_reducible first | exact HB.out | apply below_alloc | apply pw_below_drewN | apply below_drew1 | refine below_set ?_ GE571.out) | exact HB.out)) hb); clear BK571; clear HB; have BK571 := n0_; have HB := n1_; clear n0_ n1_; (try clear hb); (try clear hb2); (try clear hk); (try clear hi)) | ((with_reducible refine gate_dst (N := 11) rfl ?_); refine box_event ?hg (N := 11) ?hd (cs := #[.int .i64 0, .int .i64 0]) (t := 25) ?hr ?_; (case hd => rfl); (case hg => rfl); (case hr => first | (go_simp; done) | (go_simp; rfl)); intro gb575 hg w39 hbox hb; have n0_ := Aside0.mk (blk_below (g := gb571) (o := .cells #[.int .i64 t568, .int .i64 t569] 25 (0, 0)) (by (with_reducible repeat (first | refine blk_drewN ?_ _ | refine blk_drew ?_ | refine blk_alloc ?_ _)); exact BK571.out) hb); have n1_ := Aside0.mk (below_step (by repeat (first | (with_reducible first | exact HB.out | apply below_alloc | apply pw_below_drewN | apply below_drew1 | refine below_set ?_ GE571.out) | exact HB.out)) hb); have n2_ := Aside0.mk (hbox); have n3_ := Aside0.mk ((by rw [hg]; exact (below_size (by repeat (first | (with_reducible first | exact HB.out | apply below_alloc | apply pw_below_drewN | apply below_drew1 | refine below_set ?_ GE571.out) | exact HB.out))) : w.heap.size ≤ gb575)); have n4_ := Aside0.mk ((by rw [hg]; exact (below_size (by repeat (first | (with_reducible first | exact HB.out | apply below_alloc | apply pw_below_drewN | apply below_drew1 | refine below_set ?_ GE571.out) | exact HB.out))) : w.heap.size ≤ gb575)); have n5_ := Aside0.mk ((by rw [hg]; exact Nat.ne_of_lt (blk_lt (g := gb571) (o := .cells #[.int .i64 t568, .int .i64 t569] 25 (0, 0)) (by (with_reducible repeat (first | refine blk_drewN ?_ _ | refine blk_drew ?_ | refine blk_alloc ?_ _)); exact BK571.out)) : gb571 ≠ gb575)); have n6_ := Aside0.mk ((by rw [hg]; exact Nat.ne_of_gt (blk_lt (g := gb571) (o := .cells #[.int .i64 t568, .int .i64 t569] 25 (0, 0)) (by (with_reducible repeat (first | refine blk_drewN ?_ _ | refine blk_drew ?_ | refine blk_alloc ?_ _)); exact BK571.out)) : gb575 ≠ gb571)); clear BK571; clear HB; have BK571 := n0_; have HB := n1_; have BK575 := n2_; have GW575 := n3_; have GE575 := n4_; have NB571_575 := n5_; have NB575_571 := n6_; clear n0_ n1_ n2_ n3_ n4_ n5_ n6_; clear hb hbox hg; have hnb40 := NB575_571.out; have hnc40 := NB571_575.out; have hcz41_0 : w39.cell? ⟨gb575, 0, none⟩ = some (.int .i64 0) := (blk_cell BK575.out 0).trans rfl; have hcz41_1 : w39.cell? ⟨gb575, 1, none⟩ = some (.int .i64 0) := (blk_cell BK575.out 1).trans rfl; have hfz41_0 := blk_frozen BK575.out 0; have hfz41_1 := blk_frozen BK575.out 1) | ((with_reducible refine gate_callee (f := 28) rfl ?_); refine goesL_ (some 73) rfl rfl Tryd.func28 (by kernel_rfl) rfl #[.slice A0 l0.length c0, .int .i64 a1] rfl (by (try simp only [List.map_toArray, List.map_cons, List.map_nil]); first | done | rfl | (simp only [List.length_drop, List.length_take]; rfl)) ?_; (with_reducible refine (curve_Rate.calls _ _ l0 a1 t576 t577 t578 _ ?side1 ?side2 A31.out).mono ?_); (case side1 => exact Kd.C_below HR0.out (by repeat (first | (with_reducible first | exact HB.out | apply below_alloc | apply pw_below_drewN | apply below_drew1 | refine below_set ?_ GE571.out | refine below_set ?_ GE575.out) | exact HB.out))); (case side2 => exact HC0.out); rintro e w42 ⟨rfl, hb⟩; refine ⟨_, rfl, ?_⟩; have n0_ := Aside0.mk (blk_below (g := gb571) (o := .cells #[.int .i64 t568, .int .i64 t569] 25 (0, 0)) (by (with_reducible repeat (first | refine blk_drewN ?_ _ | refine blk_drew ?_ | refine blk_alloc ?_ _)); refine blk_far ?_ NB571_575.out _; (with_reducible repeat (first | refine blk_drewN ?_ _ | refine blk_drew ?_ | refine blk_alloc ?_ _)); refine blk_far ?_ NB571_575.out _; (with_reducible repeat (first | refine blk_drewN ?_ _ | refine blk_drew ?_ | refine blk_alloc ?_ _)); exact BK571.out) hb); have n1_ := Aside0.mk (blk_below (g := gb575) (o := .cells #[.int .i64 t572, .int .i64 t573] 25 (0, 0)) (by (with_reducible repeat (first | refine blk_drewN ?_ _ | refine blk_drew ?_ | refine blk_alloc ?_ _)); refine blk_put (cs := #[.int .i64 t572, .int .i64 0]) ?_ 1 _ rfl; (with_reducible repeat (first | refine blk_drewN ?_ _ | refine blk_drew ?_ | refine blk_alloc ?_ _)); refine blk_put (cs := #[.int .i64 0, .int .i64 0]) ?_ 0 _ rfl; (with_reducible repeat (first | refine blk_drewN ?_ _ | refine blk_drew ?_ | refine blk_alloc ?_ _)); exact BK575.out) hb); have n2_ := Aside0.mk (below_step (by repeat (first | (with_reducible first | exact HB.out | apply below_alloc | apply pw_below_drewN | apply below_drew1 | refine below_set ?_ GE571.out | refine below_set ?_ GE575.out) | exact HB.out)) hb); clear BK571; clear BK575; clear HB; have BK571 := n0_; have BK575 := n1_; have HB := n2_; clear n0_ n1_ n2_; (try clear hb); (try clear hb2); (try clear hk); (try clear hi)) | ((with_reducible refine gate_dst (N := 13) rfl ?_); refine box_event ?hg (N := 13) ?hd (cs := #[.int .i64 0, .int .i64 0]) (t := 25) ?hr ?_; (case hd => rfl); (case hg => rfl); (case hr => first | (go_simp; done) | (go_simp; rfl)); intro gb579 hg w43 hbox hb; have n0_ := Aside0.mk (blk_below (g := gb571) (o := .cells #[.int .i64 t568, .int .i64 t569] 25 (0, 0)) (by (with_reducible repeat (first | refine blk_drewN ?_ _ | refine blk_drew ?_ | refine blk_alloc ?_ _)); exact BK571.out) hb); have n1_ := Aside0.mk (blk_below (g := gb575) (o := .cells #[.int .i64 t572, .int .i64 t573] 25 (0, 0)) (by (with_reducible repeat (first | refine blk_drewN ?_ _ | refine blk_drew ?_ | refine blk_alloc ?_ _)); exact BK575.out) hb); have n2_ := Aside0.mk (below_step (by repeat (first | (with_reducible first | exact HB.out | apply below_alloc | apply pw_below_drewN | apply below_drew1 | refine below_set ?_ GE571.out | refine below_set ?_ GE575.out) | exact HB.out)) hb); have n3_ := Aside0.mk (hbox); have n4_ := Aside0.mk ((by rw [hg]; exact (below_size (by repeat (first | (with_reducible first | exact HB.out | apply below_alloc | apply pw_below_drewN | apply below_drew1 | refine below_set ?_ GE571.out | refine below_set ?_ GE575.out) | exact HB.out))) : w.heap.size ≤ gb579)); have n5_ := Aside0.mk ((by rw [hg]; exact (below_size (by repeat (first | (with_reducible first | exact HB.out | apply below_alloc | apply pw_below_drewN | apply below_drew1 | refine below_set ?_ GE571.out | refine below_set ?_ GE575.out) | exact HB.out))) : w.heap.size ≤ gb579)); have n6_ := Aside0.mk ((by rw [hg]; exact Nat.ne_of_lt (blk_lt (g := gb571) (o := .cells #[.int .i64 t568, .int .i64 t569] 25 (0, 0)) (by (with_reducible repeat (first | refine blk_drewN ?_ _ | refine blk_drew ?_ | refine blk_alloc ?_ _)); exact BK571.out)) : gb571 ≠ gb579)); have n7_ := Aside0.mk ((by rw [hg]; exact Nat.ne_of_gt (blk_lt (g := gb571) (o := .cells #[.int .i64 t568, .int .i64 t569] 25 (0, 0)) (by (with_reducible repeat (first | refine blk_drewN ?_ _ | refine blk_drew ?_ | refine blk_alloc ?_ _)); exact BK571.out)) : gb579 ≠ gb571)); have n8_ := Aside0.mk ((by rw [hg]; exact Nat.ne_of_lt (blk_lt (g := gb575) (o := .cells #[.int .i64 t572, .int .i64 t573] 25 (0, 0)) (by (with_reducible repeat (first | refine blk_drewN ?_ _ | refine blk_drew ?_ | refine blk_alloc ?_ _)); exact BK575.out)) : gb575 ≠ gb579)); have n9_ := Aside0.mk ((by rw [hg]; exact Nat.ne_of_gt (blk_lt (g := gb575) (o := .cells #[.int .i64 t572, .int .i64 t573] 25 (0, 0)) (by (with_reducible repeat (first | refine blk_drewN ?_ _ | refine blk_drew ?_ | refine blk_alloc ?_ _)); exact BK575.out)) : gb579 ≠ gb575)); clear BK571; clear BK575; clear HB; have BK571 := n0_; have BK575 := n1_; have HB := n2_; have BK579 := n3_; have GW579 := n4_; have GE579 := n5_; have NB571_579 := n6_; have NB579_571 := n7_; have NB575_579 := n8_; have NB579_575 := n9_; clear n0_ n1_ n2_ n3_ n4_ n5_ n6_ n7_ n8_ n9_; clear hb hbox hg; have hnb44 := NB579_571.out; have hnc44 := NB571_579.out; have hnb45 := NB579_575.out; have hnc45 := NB575_579.out; have hcz46_0 : w43.cell? ⟨gb579, 0, none⟩ = some (.int .i64 0) := (blk_cell BK579.out 0).trans rfl; have hcz46_1 : w43.cell? ⟨gb579, 1, none⟩ = some (.int .i64 0) := (blk_cell BK579.out 1).trans rfl; have hfz46_0 := blk_frozen BK579.out 0; have hfz46_1 := blk_frozen BK579.out 1) | ((with_reducible refine gate_callee (f := 24) rfl ?_); refine goesL_ (some 79) rfl rfl Tryd.func24 (by kernel_rfl) rfl #[.slice A0 l0.length c0, .int .i64 a1] rfl (by (try simp only [List.map_toArray, List.map_cons, List.map_nil]); first | done | rfl | (simp only [List.length_drop, List.length_take]; rfl)) ?_; (with_reducible refine (curve_Low.calls _ _ l0 a1 t580 t581 _ ?side1 ?side2 A32.out).mono ?_); (case side1 => exact Kd.C_below HR0.out (by repeat (first | (with_reducible first | exact HB.out | apply below_alloc | apply pw_below_drewN | apply below_drew1 | refine below_set ?_ GE571.out | refine below_set ?_ GE575.out | refine below_set ?_ GE579.out) | exact HB.out))); (case side2 => exact HC0.out); rintro e w47 ⟨rfl, hb⟩; refine ⟨_, rfl, ?_⟩; have n0_ := Aside0.mk (blk_below (g := gb571) (o := .cells #[.int .i64 t568, .int .i64 t569] 25 (0, 0)) (by (with_reducible repeat (first | refine blk_drewN ?_ _ | refine blk_drew ?_ | refine blk_alloc ?_ _)); refine blk_far ?_ NB571_579.out _; (with_reducible repeat (first | refine blk_drewN ?_ _ | refine blk_drew ?_ | refine blk_alloc ?_ _)); refine blk_far ?_ NB571_579.out _; (with_reducible repeat (first | refine blk_drewN ?_ _ | refine blk_drew ?_ | refine blk_alloc ?_ _)); exact BK571.out) hb); have n1_ := Aside0.mk (blk_below (g := gb575) (o := .cells #[.int .i64 t572, .int .i64 t573] 25 (0, 0)) (by (with_reducible repeat (first | refine blk_drewN ?_ _ | refine blk_drew ?_ | refine blk_alloc ?_ _)); refine blk_far ?_ NB575_579.out _; (with_reducible repeat (first | refine blk_drewN ?_ _ | refine blk_drew ?_ | refine blk_alloc ?_ _)); refine blk_far ?_ NB575_579.out _; (with_reducible repeat (first | refine blk_drewN ?_ _ | refine blk_drew ?_ | refine blk_alloc ?_ _)); exact BK575.out) hb); have n2_ := Aside0.mk (blk_below (g := gb579) (o := .cells #[.int .i64 t576, .int .i64 t577] 25 (0, 0)) (by (with_reducible repeat (first | refine blk_drewN ?_ _ | refine blk_drew ?_ | refine blk_alloc ?_ _)); refine blk_put (cs := #[.int .i64 t576, .int .i64 0]) ?_ 1 _ rfl; (with_reducible repeat (first | refine blk_drewN ?_ _ | refine blk_drew ?_ | refine blk_alloc ?_ _)); refine blk_put (cs := #[.int .i64 0, .int .i64 0]) ?_ 0 _ rfl; (with_reducible repeat (first | refine blk_drewN ?_ _ | refine blk_drew ?_ | refine blk_alloc ?_ _)); exact BK579.out) hb); have n3_ := Aside0.mk (below_step (by repeat (first | (with_reducible first | exact HB.out | apply below_alloc | apply pw_below_drewN | apply below_drew1 | refine below_set ?_ GE571.out | refine below_set ?_ GE575.out | refine below_set ?_ GE579.out) | exact HB.out)) hb); clear BK571; clear BK575; clear BK579; clear HB; have BK571 := n0_; have BK575 := n1_; have BK579 := n2_; have HB := n3_; clear n0_ n1_ n2_ n3_; (try clear hb); (try clear hb2); (try clear hk); (try clear hi)) | ((with_reducible refine gate_callee (f := 26) rfl ?_); refine goesL_ (some 85) rfl rfl Tryd.func26 (by kernel_rfl) rfl #[.slice A0 l0.length c0, .int .i64 a1] rfl (by (try simp only [List.map_toArray, List.map_cons, List.map_nil]); first | done | rfl | (simp only [List.length_drop, List.length_take]; rfl)) ?_; (with_reducible refine (curve_High.calls _ _ l0 a1 t582 t583 _ ?side1 ?side2 A33.out).mono ?_); (case side1 => repeat (first | exact (Kd.C_below HR0.out HB.out) | (with_reducible refine Kd.C_alloc ?_ _) | (with_reducible refine Kd.C_drewN ?_ _) | (with_reducible refine Kd.C_drew ?_))); (case side2 => exact HC0.out); rintro e w48 ⟨rfl, hb⟩; refine ⟨_, rfl, ?_⟩; have n0_ := Aside0.mk (blk_below (g := gb571) (o := .cells #[.int .i64 t568, .int .i64 t569] 25 (0, 0)) (by (with_reducible repeat (first | refine blk_drewN ?_ _ | refine blk_drew ?_ | refine blk_alloc ?_ _)); exact BK571.out) hb); have n1_ := Aside0.mk (blk_below (g := gb575) (o := .cells #[.int .i64 t572, .int .i64 t573] 25 (0, 0)) (by (with_reducible repeat (first | refine blk_drewN ?_ _ | refine blk_drew ?_ | refine blk_alloc ?_ _)); exact BK575.out) hb); have n2_ := Aside0.mk (blk_below (g := gb579) (o := .cells #[.int .i64 t576, .int .i64 t577] 25 (0, 0)) (by (with_reducible repeat (first | refine blk_drewN ?_ _ | refine blk_drew ?_ | refine blk_alloc ?_ _)); exact BK579.out) hb); have n3_ := Aside0.mk (below_step (by repeat (first | (with_reducible first | exact HB.out | apply below_alloc | apply pw_below_drewN | apply below_drew1 | refine below_set ?_ GE571.out | refine below_set ?_ GE575.out | refine below_set ?_ GE579.out) | exact HB.out)) hb); clear BK571; clear BK575; clear BK579; clear HB; have BK571 := n0_; have BK575 := n1_; have BK579 := n2_; have HB := n3_; clear n0_ n1_ n2_ n3_; (try clear hb); (try clear hb2); (try clear hk); (try clear hi)))
         (try simp only [Act.put, List.setIfInBounds_toArray, List.set_cons_zero, List.set_cons_succ])
         go_cut [125] (fun v125 wc => ∃ (kq : Nat) (x125_33 : Bool), v125 = .bool x125_33 ∧ Aside0 (law_CurveRises.j3 kq l0 t580 t582 x125_33 t568 t569 t572 t573 t576 t577 = some r) ∧ Aside0 (kq ≤ kj23) ∧ Aside0 (wc.heap[gb571]? = some (.cells #[.int .i64 t568, .int .i64 t569] 25 (0, 0))) ∧ Aside0 (wc.heap[gb575]? = some (.cells #[.int .i64 t572, .int .i64 t573] 25 (0, 0))) ∧ Aside0 (wc.heap[gb579]? = some (.cells #[.int .i64 t576, .int .i64 t577] 25 (0, 0))) ∧ Aside0 (Below w.heap.size w wc))
         case first => as_aux_lemma =>
          have H := HC34.out
          clear HC34
          by_cases c49 : t570 = 0
          ·
           rw [if_pos c49] at H
           have c49b0 : (t570 == 0) = true := beq_iff_eq.mpr c49
           have c49b1 : (t570 != 0) = false := bne_eq_false_iff_eq.mpr c49
           clear c49
           (first | rw [c49b0] | (simp only [i64_w, i32_w]; rw [c49b0]) | skip)
           by_cases c50 : t574 = 0
           ·
            rw [if_pos c50] at H
            have c50b0 : (t574 == 0) = true := beq_iff_eq.mpr c50
            have c50b1 : (t574 != 0) = false := bne_eq_false_iff_eq.mpr c50
            clear c50
            by_cases c51 : t578 = 0
            ·
             rw [if_pos c51] at H
             have c51b0 : (t578 == 0) = true := beq_iff_eq.mpr c51
             have c51b1 : (t578 != 0) = false := bne_eq_false_iff_eq.mpr c51
             clear c51
             by_cases c52 : t581 = 0
             ·
              rw [if_pos c52] at H
              have c52b0 : (t581 == 0) = true := beq_iff_eq.mpr c52
              have c52b1 : (t581 != 0) = false := bne_eq_false_iff_eq.mpr c52
              clear c52
              by_cases c53 : t583 = 0
              ·
               rw [if_pos c53] at H
               have c53b0 : (t583 == 0) = true := beq_iff_eq.mpr c53
               have c53b1 : (t583 != 0) = false := bne_eq_false_iff_eq.mpr c53
               clear c53
               by_cases c54 : t569 < 1
               ·
                rw [if_pos c54] at H
                have c54b0 : decide (t569 < 1) = true := decide_eq_true c54
                clear c54
                have H' := Aside0.mk H
                clear H
                have hnb55 := NB571_575.out
                have hnc55 := NB575_571.out
                have hnb56 := NB571_579.out
                have hnc56 := NB579_571.out
                have hcz57_0 : w48.cell? ⟨gb571, 0, none⟩ = some (.int .i64 t568) := (blk_cell BK571.out 0).trans rfl
                have hcz57_1 : w48.cell? ⟨gb571, 1, none⟩ = some (.int .i64 t569) := (blk_cell BK571.out 1).trans rfl
                have hfz57_0 := blk_frozen BK571.out 0
                have hfz57_1 := blk_frozen BK571.out 1
                go_wp2
                go_meet
                case rel => exact ⟨_, (true), (by first | rfl | (simp; done) | (simp [*]; done)), H', ⟨by have := HK1.out; have := HJ23.out; first | omega | exact Nat.le_refl _⟩, ⟨by (with_reducible repeat (first | refine blk_drewN ?_ _ | refine blk_drew ?_ | refine blk_alloc ?_ _)); exact BK571.out⟩, ⟨by (with_reducible repeat (first | refine blk_drewN ?_ _ | refine blk_drew ?_ | refine blk_alloc ?_ _)); exact BK575.out⟩, ⟨by (with_reducible repeat (first | refine blk_drewN ?_ _ | refine blk_drew ?_ | refine blk_alloc ?_ _)); exact BK579.out⟩, ⟨by repeat (first | (with_reducible first | exact HB.out | apply below_alloc | apply pw_below_drewN | apply below_drew1 | refine below_set ?_ GE571.out | refine below_set ?_ GE575.out | refine below_set ?_ GE579.out) | exact HB.out)⟩⟩
               ·
                rw [if_neg c54] at H
                have c54b0 : decide (t569 < 1) = false := decide_eq_false c54
                clear c54
                by_cases c58 : t573 < 1
                ·
                 rw [if_pos c58] at H
                 have c58b0 : decide (t573 < 1) = true := decide_eq_true c58
                 clear c58
                 have H' := Aside0.mk H
                 clear H
                 have hnb59 := NB571_575.out
                 have hnc59 := NB575_571.out
                 have hnb60 := NB571_579.out
                 have hnc60 := NB579_571.out
                 have hcz61_0 : w48.cell? ⟨gb571, 0, none⟩ = some (.int .i64 t568) := (blk_cell BK571.out 0).trans rfl
                 have hcz61_1 : w48.cell? ⟨gb571, 1, none⟩ = some (.int .i64 t569) := (blk_cell BK571.out 1).trans rfl
                 have hfz61_0 := blk_frozen BK571.out 0
                 have hfz61_1 := blk_frozen BK571.out 1
                 have hnb62 := NB575_579.out
                 have hnc62 := NB579_575.out
                 have hcz63_0 : w48.cell? ⟨gb575, 0, none⟩ = some (.int .i64 t572) := (blk_cell BK575.out 0).trans rfl
                 have hcz63_1 : w48.cell? ⟨gb575, 1, none⟩ = some (.int .i64 t573) := (blk_cell BK575.out 1).trans rfl
                 have hfz63_0 := blk_frozen BK575.out 0
                 have hfz63_1 := blk_frozen BK575.out 1
                 go_wp2
                 go_meet
                 case rel => exact ⟨_, (true), (by first | rfl | (simp; done) | (simp [*]; done)), H', ⟨by have := HK1.out; have := HJ23.out; first | omega | exact Nat.le_refl _⟩, ⟨by (with_reducible repeat (first | refine blk_drewN ?_ _ | refine blk_drew ?_ | refine blk_alloc ?_ _)); exact BK571.out⟩, ⟨by (with_reducible repeat (first | refine blk_drewN ?_ _ | refine blk_drew ?_ | refine blk_alloc ?_ _)); exact BK575.out⟩, ⟨by (with_reducible repeat (first | refine blk_drewN ?_ _ | refine blk_drew ?_ | refine blk_alloc ?_ _)); exact BK579.out⟩, ⟨by repeat (first | (with_reducible first | exact HB.out | apply below_alloc | apply pw_below_drewN | apply below_drew1 | refine below_set ?_ GE571.out | refine below_set ?_ GE575.out | refine below_set ?_ GE579.out) | exact HB.out)⟩⟩
                ·
                 rw [if_neg c58] at H
                 have c58b0 : decide (t573 < 1) = false := decide_eq_false c58
                 clear c58
                 by_cases c64 : t577 < 1
                 ·
                  rw [if_pos c64] at H
                  have c64b0 : decide (t577 < 1) = true := decide_eq_true c64
                  clear c64
                  have H' := Aside0.mk H
                  clear H
                  have hnb65 := NB571_575.out
                  have hnc65 := NB575_571.out
                  have hnb66 := NB571_579.out
                  have hnc66 := NB579_571.out
                  have hcz67_0 : w48.cell? ⟨gb571, 0, none⟩ = some (.int .i64 t568) := (blk_cell BK571.out 0).trans rfl
                  have hcz67_1 : w48.cell? ⟨gb571, 1, none⟩ = some (.int .i64 t569) := (blk_cell BK571.out 1).trans rfl
                  have hfz67_0 := blk_frozen BK571.out 0
                  have hfz67_1 := blk_frozen BK571.out 1
                  have hnb68 := NB575_579.out
                  have hnc68 := NB579_575.out
                  have hcz69_0 : w48.cell? ⟨gb575, 0, none⟩ = some (.int .i64 t572) := (blk_cell BK575.out 0).trans rfl
                  have hcz69_1 : w48.cell? ⟨gb575, 1, none⟩ = some (.int .i64 t573) := (blk_cell BK575.out 1).trans rfl
                  have hfz69_0 := blk_frozen BK575.out 0
                  have hfz69_1 := blk_frozen BK575.out 1
                  have hcz70_0 : w48.cell? ⟨gb579, 0, none⟩ = some (.int .i64 t576) := (blk_cell BK579.out 0).trans rfl
                  have hcz70_1 : w48.cell? ⟨gb579, 1, none⟩ = some (.int .i64 t577) := (blk_cell BK579.out 1).trans rfl
                  have hfz70_0 := blk_frozen BK579.out 0
                  have hfz70_1 := blk_frozen BK579.out 1
                  go_wp2
                  go_meet
                  case rel => exact ⟨_, (true), (by first | rfl | (simp; done) | (simp [*]; done)), H', ⟨by have := HK1.out; have := HJ23.out; first | omega | exact Nat.le_refl _⟩, ⟨by (with_reducible repeat (first | refine blk_drewN ?_ _ | refine blk_drew ?_ | refine blk_alloc ?_ _)); exact BK571.out⟩, ⟨by (with_reducible repeat (first | refine blk_drewN ?_ _ | refine blk_drew ?_ | refine blk_alloc ?_ _)); exact BK575.out⟩, ⟨by (with_reducible repeat (first | refine blk_drewN ?_ _ | refine blk_drew ?_ | refine blk_alloc ?_ _)); exact BK579.out⟩, ⟨by repeat (first | (with_reducible first | exact HB.out | apply below_alloc | apply pw_below_drewN | apply below_drew1 | refine below_set ?_ GE571.out | refine below_set ?_ GE575.out | refine below_set ?_ GE579.out) | exact HB.out)⟩⟩
                 ·
                  rw [if_neg c64] at H
                  have c64b0 : decide (t577 < 1) = false := decide_eq_false c64
                  clear c64
                  have H' := Aside0.mk H
                  clear H
                  have hnb71 := NB571_575.out
                  have hnc71 := NB575_571.out
                  have hnb72 := NB571_579.out
                  have hnc72 := NB579_571.out
                  have hcz73_0 : w48.cell? ⟨gb571, 0, none⟩ = some (.int .i64 t568) := (blk_cell BK571.out 0).trans rfl
                  have hcz73_1 : w48.cell? ⟨gb571, 1, none⟩ = some (.int .i64 t569) := (blk_cell BK571.out 1).trans rfl
                  have hfz73_0 := blk_frozen BK571.out 0
                  have hfz73_1 := blk_frozen BK571.out 1
                  have hnb74 := NB575_579.out
                  have hnc74 := NB579_575.out
                  have hcz75_0 : w48.cell? ⟨gb575, 0, none⟩ = some (.int .i64 t572) := (blk_cell BK575.out 0).trans rfl
                  have hcz75_1 : w48.cell? ⟨gb575, 1, none⟩ = some (.int .i64 t573) := (blk_cell BK575.out 1).trans rfl
                  have hfz75_0 := blk_frozen BK575.out 0
                  have hfz75_1 := blk_frozen BK575.out 1
                  have hcz76_0 : w48.cell? ⟨gb579, 0, none⟩ = some (.int .i64 t576) := (blk_cell BK579.out 0).trans rfl
                  have hcz76_1 : w48.cell? ⟨gb579, 1, none⟩ = some (.int .i64 t577) := (blk_cell BK579.out 1).trans rfl
                  have hfz76_0 := blk_frozen BK579.out 0
                  have hfz76_1 := blk_frozen BK579.out 1
                  go_wp2
                  go_meet
                  case rel => exact ⟨_, (decide (t576 < 1)), (by first | rfl | (simp; done) | (simp [*]; done)), H', ⟨by have := HK1.out; have := HJ23.out; first | omega | exact Nat.le_refl _⟩, ⟨by (with_reducible repeat (first | refine blk_drewN ?_ _ | refine blk_drew ?_ | refine blk_alloc ?_ _)); exact BK571.out⟩, ⟨by (with_reducible repeat (first | refine blk_drewN ?_ _ | refine blk_drew ?_ | refine blk_alloc ?_ _)); exact BK575.out⟩, ⟨by (with_reducible repeat (first | refine blk_drewN ?_ _ | refine blk_drew ?_ | refine blk_alloc ?_ _)); exact BK579.out⟩, ⟨by repeat (first | (with_reducible first | exact HB.out | apply below_alloc | apply pw_below_drewN | apply below_drew1 | refine below_set ?_ GE571.out | refine below_set ?_ GE575.out | refine below_set ?_ GE579.out) | exact HB.out)⟩⟩
              ·
               rw [if_neg c53] at H
               have c53b0 : (t583 == 0) = false := beq_eq_false_iff_ne.mpr c53
               have c53b1 : (t583 != 0) = true := bne_iff_ne.mpr c53
               have H' := Aside0.mk H
               clear H
               go_wp2
               go_meet
               case rel => exact ⟨_, (true), (by first | rfl | (simp; done) | (simp [*]; done)), H', ⟨by have := HK1.out; have := HJ23.out; first | omega | exact Nat.le_refl _⟩, ⟨by (with_reducible repeat (first | refine blk_drewN ?_ _ | refine blk_drew ?_ | refine blk_alloc ?_ _)); exact BK571.out⟩, ⟨by (with_reducible repeat (first | refine blk_drewN ?_ _ | refine blk_drew ?_ | refine blk_alloc ?_ _)); exact BK575.out⟩, ⟨by (with_reducible repeat (first | refine blk_drewN ?_ _ | refine blk_drew ?_ | refine blk_alloc ?_ _)); exact BK579.out⟩, ⟨by repeat (first | (with_reducible first | exact HB.out | apply below_alloc | apply pw_below_drewN | apply below_drew1 | refine below_set ?_ GE571.out | refine below_set ?_ GE575.out | refine below_set ?_ GE579.out) | exact HB.out)⟩⟩
             ·
              rw [if_neg c52] at H
              have c52b0 : (t581 == 0) = false := beq_eq_false_iff_ne.mpr c52
              have c52b1 : (t581 != 0) = true := bne_iff_ne.mpr c52
              have H' := Aside0.mk H
              clear H
              go_wp2
              go_meet
              case rel => exact ⟨_, (true), (by first | rfl | (simp; done) | (simp [*]; done)), H', ⟨by have := HK1.out; have := HJ23.out; first | omega | exact Nat.le_refl _⟩, ⟨by (with_reducible repeat (first | refine blk_drewN ?_ _ | refine blk_drew ?_ | refine blk_alloc ?_ _)); exact BK571.out⟩, ⟨by (with_reducible repeat (first | refine blk_drewN ?_ _ | refine blk_drew ?_ | refine blk_alloc ?_ _)); exact BK575.out⟩, ⟨by (with_reducible repeat (first | refine blk_drewN ?_ _ | refine blk_drew ?_ | refine blk_alloc ?_ _)); exact BK579.out⟩, ⟨by repeat (first | (with_reducible first | exact HB.out | apply below_alloc | apply pw_below_drewN | apply below_drew1 | refine below_set ?_ GE571.out | refine below_set ?_ GE575.out | refine below_set ?_ GE579.out) | exact HB.out)⟩⟩
            ·
             rw [if_neg c51] at H
             have c51b0 : (t578 == 0) = false := beq_eq_false_iff_ne.mpr c51
             have c51b1 : (t578 != 0) = true := bne_iff_ne.mpr c51
             have H' := Aside0.mk H
             clear H
             go_wp2
             go_meet
             case rel => exact ⟨_, (true), (by first | rfl | (simp; done) | (simp [*]; done)), H', ⟨by have := HK1.out; have := HJ23.out; first | omega | exact Nat.le_refl _⟩, ⟨by (with_reducible repeat (first | refine blk_drewN ?_ _ | refine blk_drew ?_ | refine blk_alloc ?_ _)); exact BK571.out⟩, ⟨by (with_reducible repeat (first | refine blk_drewN ?_ _ | refine blk_drew ?_ | refine blk_alloc ?_ _)); exact BK575.out⟩, ⟨by (with_reducible repeat (first | refine blk_drewN ?_ _ | refine blk_drew ?_ | refine blk_alloc ?_ _)); exact BK579.out⟩, ⟨by repeat (first | (with_reducible first | exact HB.out | apply below_alloc | apply pw_below_drewN | apply below_drew1 | refine below_set ?_ GE571.out | refine below_set ?_ GE575.out | refine below_set ?_ GE579.out) | exact HB.out)⟩⟩
           ·
            rw [if_neg c50] at H
            have c50b0 : (t574 == 0) = false := beq_eq_false_iff_ne.mpr c50
            have c50b1 : (t574 != 0) = true := bne_iff_ne.mpr c50
            have H' := Aside0.mk H
            clear H
            go_wp2
            go_meet
            case rel => exact ⟨_, (true), (by first | rfl | (simp; done) | (simp [*]; done)), H', ⟨by have := HK1.out; have := HJ23.out; first | omega | exact Nat.le_refl _⟩, ⟨by (with_reducible repeat (first | refine blk_drewN ?_ _ | refine blk_drew ?_ | refine blk_alloc ?_ _)); exact BK571.out⟩, ⟨by (with_reducible repeat (first | refine blk_drewN ?_ _ | refine blk_drew ?_ | refine blk_alloc ?_ _)); exact BK575.out⟩, ⟨by (with_reducible repeat (first | refine blk_drewN ?_ _ | refine blk_drew ?_ | refine blk_alloc ?_ _)); exact BK579.out⟩, ⟨by repeat (first | (with_reducible first | exact HB.out | apply below_alloc | apply pw_below_drewN | apply below_drew1 | refine below_set ?_ GE571.out | refine below_set ?_ GE575.out | refine below_set ?_ GE579.out) | exact HB.out)⟩⟩
          ·
           rw [if_neg c49] at H
           have c49b0 : (t570 == 0) = false := beq_eq_false_iff_ne.mpr c49
           have c49b1 : (t570 != 0) = true := bne_iff_ne.mpr c49
           (first | rw [c49b0] | (simp only [i64_w, i32_w]; rw [c49b0]) | skip)
           have H' := Aside0.mk H
           clear H
           go_wp2
           go_meet
           case rel => exact ⟨_, (true), (by first | rfl | (simp; done) | (simp [*]; done)), H', ⟨by have := HK1.out; have := HJ23.out; first | omega | exact Nat.le_refl _⟩, ⟨by (with_reducible repeat (first | refine blk_drewN ?_ _ | refine blk_drew ?_ | refine blk_alloc ?_ _)); exact BK571.out⟩, ⟨by (with_reducible repeat (first | refine blk_drewN ?_ _ | refine blk_drew ?_ | refine blk_alloc ?_ _)); exact BK575.out⟩, ⟨by (with_reducible repeat (first | refine blk_drewN ?_ _ | refine blk_drew ?_ | refine blk_alloc ?_ _)); exact BK579.out⟩, ⟨by repeat (first | (with_reducible first | exact HB.out | apply below_alloc | apply pw_below_drewN | apply below_drew1 | refine below_set ?_ GE571.out | refine below_set ?_ GE575.out | refine below_set ?_ GE579.out) | exact HB.out)⟩⟩
         case rest => as_aux_lemma =>
          clear HC34
          try clear c1
          try clear c2
          try clear p2
          try clear c4
          try clear c5
          try clear p5
          try clear q5
          try clear hx5
          try clear c6
          try clear p6
          try clear c7
          try clear c8
          try clear c8b0
          try clear c9
          try clear c9b0
          try clear c10
          try clear c10b0
          try clear c17
          try clear c18
          try clear c19
          try clear c19b0
          try clear c19b1
          try clear c20
          try clear c22
          try clear c23
          try clear c24
          try clear c26
          try clear c28
          try clear c40
          try clear c42
          try clear c43
          try clear c44
          try clear c45
          try clear c49
          try clear c49b0
          try clear c49b1
          try clear c50
          try clear c50b0
          try clear c50b1
          try clear c51
          try clear c51b0
          try clear c51b1
          try clear c52
          try clear c52b0
          try clear c52b1
          try clear c53
          try clear c53b0
          try clear c53b1
          try clear c54
          try clear c54b0
          try clear c55
          try clear c56
          try clear p56
          try clear q56
          try clear hx56
          try clear c58
          try clear c58b0
          try clear c59
          try clear c60
          try clear c62
          try clear c64
          try clear c64b0
          try clear p64
          try clear c65
          try clear c66
          try clear c68
          try clear c71
          try clear c72
          try clear c74
          try clear hcz14_0
          try clear hcz14_1
          try clear hcz18_0
          try clear hcz18_1
          try clear hcz21_0
          try clear hcz21_1
          try clear hcz22_0
          try clear hcz22_1
          try clear hcz37_0
          try clear hcz37_1
          try clear hcz41_0
          try clear hcz41_1
          try clear hcz46_0
          try clear hcz46_1
          try clear hcz57_0
          try clear hcz57_1
          try clear hcz61_0
          try clear hcz61_1
          try clear hcz63_0
          try clear hcz63_1
          try clear hcz67_0
          try clear hcz67_1
          try clear hcz69_0
          try clear hcz69_1
          try clear hcz70_0
          try clear hcz70_1
          try clear hcz73_0
          try clear hcz73_1
          try clear hcz75_0
          try clear hcz75_1
          try clear hcz76_0
          try clear hcz76_1
          try clear hfz14_0
          try clear hfz14_1
          try clear hfz18_0
          try clear hfz18_1
          try clear hfz21_0
          try clear hfz21_1
          try clear hfz22_0
          try clear hfz22_1
          try clear hfz37_0
          try clear hfz37_1
          try clear hfz41_0
          try clear hfz41_1
          try clear hfz46_0
          try clear hfz46_1
          try clear hfz57_0
          try clear hfz57_1
          try clear hfz61_0
          try clear hfz61_1
          try clear hfz63_0
          try clear hfz63_1
          try clear hfz67_0
          try clear hfz67_1
          try clear hfz69_0
          try clear hfz69_1
          try clear hfz70_0
          try clear hfz70_1
          try clear hfz73_0
          try clear hfz73_1
          try clear hfz75_0
          try clear hfz75_1
          try clear hfz76_0
          try clear hfz76_1
          try clear hx560_0
          try clear hx560_1
          try clear p2
          try clear p5
          try clear p560
          try clear p6
          try clear q5
          try clear q560
          obtain ⟨kq, x125_33, rfl, HA, HJ33, BK571, BK575, BK579, HB⟩ := hcut
          cases kq with
          | zero => exact absurd HA.out (by simp [law_CurveRises.j3])
          | succ kj33 =>
           have H := HA.out
           clear HA
           simp only [law_CurveRises.j3] at H
           by_cases c77 : x125_33 = true
           ·
            subst c77
            have H1 : (some false) = some r := by rw [if_pos rfl] at H; exact H
            clear H
            have H := H1
            clear H1
            obtain rfl := Option.some.inj H
            go_wp2
            go_ret
            exact ⟨by first | rfl | (simp [errW_none, errW_some] <;> rfl) | (simp [*, errW_none, errW_some] <;> rfl), by repeat (first | (with_reducible first | exact HB.out | apply below_alloc | apply pw_below_drewN | apply below_drew1 | refine below_set ?_ GE571.out | refine below_set ?_ GE575.out | refine below_set ?_ GE579.out) | exact HB.out)⟩
           ·
            replace c77 := Bool.eq_false_iff.mpr c77
            subst c77
            have H1 : ((ref_Order.f kj33 t568 t569 t572 t573).bind fun t584 => (if t584 ≥ 0 then (law_CurveRises.j4 kj33 l0 t580 t582 true t568 t569 t572 t573 t576 t577) else (if (wrap64 (t582 - t580)) < 0 then (law_CurveRises.j4 kj33 l0 t580 t582 true t568 t569 t572 t573 t576 t577) else (if (wrap64 (t582 - t580)) > 1 then (law_CurveRises.j4 kj33 l0 t580 t582 true t568 t569 t572 t573 t576 t577) else (law_CurveRises.j4 kj33 l0 t580 t582 ((t582 == t580) != (t569 == 1)) t568 t569 t572 t573 t576 t577))))) = some r := by rw [if_neg (show ¬ (false = true) by decide)] at H; exact H
            clear H
            have H := H1
            clear H1
            have HC78 := Aside0.mk H
            clear H
            go_upto_region 21 with (fail)
            go_cut [150] (fun v150 wc => ∃ (kq : Nat) (x150_77 : Bool), v150 = .bool x150_77 ∧ Aside0 (law_CurveRises.j4 kq l0 t580 t582 x150_77 t568 t569 t572 t573 t576 t577 = some r) ∧ Aside0 (kq ≤ kj33) ∧ Aside0 (wc.heap[gb571]? = some (.cells #[.int .i64 t568, .int .i64 t569] 25 (0, 0))) ∧ Aside0 (wc.heap[gb575]? = some (.cells #[.int .i64 t572, .int .i64 t573] 25 (0, 0))) ∧ Aside0 (wc.heap[gb579]? = some (.cells #[.int .i64 t576, .int .i64 t577] 25 (0, 0))) ∧ Aside0 (Below w.heap.size w wc))
            case first => as_aux_lemma =>
             have H := HC78.out
             clear HC78
             replace H := Option.bind_eq_some_iff.mp H
             obtain ⟨t584, A790, H⟩ := H
             replace H : (if t584 ≥ 0 then (law_CurveRises.j4 kj33 l0 t580 t582 true t568 t569 t572 t573 t576 t577) else (if (wrap64 (t582 - t580)) < 0 then (law_CurveRises.j4 kj33 l0 t580 t582 true t568 t569 t572 t573 t576 t577) else (if (wrap64 (t582 - t580)) > 1 then (law_CurveRises.j4 kj33 l0 t580 t582 true t568 t569 t572 t573 t576 t577) else (law_CurveRises.j4 kj33 l0 t580 t582 ((t582 == t580) != (t569 == 1)) t568 t569 t572 t573 t576 t577)))) = some r := H
             have A79 := Aside0.mk A790
             clear A790
             by_cases c80 : t584 ≥ 0
             ·
              rw [if_pos c80] at H
              have c80b0 : decide (0 ≤ t584) = true := decide_eq_true c80
              clear c80
              (first | rw [c80b0] | (simp only [i64_w, i32_w]; rw [c80b0]) | skip)
              have H' := Aside0.mk H
              clear H
              have hnb81 := NB571_575.out
              have hnc81 := NB575_571.out
              have hnb82 := NB571_579.out
              have hnc82 := NB579_571.out
              have hcz83_0 : wc.cell? ⟨gb571, 0, none⟩ = some (.int .i64 t568) := (blk_cell BK571.out 0).trans rfl
              have hcz83_1 : wc.cell? ⟨gb571, 1, none⟩ = some (.int .i64 t569) := (blk_cell BK571.out 1).trans rfl
              have hfz83_0 := blk_frozen BK571.out 0
              have hfz83_1 := blk_frozen BK571.out 1
              have hnb84 := NB575_579.out
              have hnc84 := NB579_575.out
              have hcz85_0 : wc.cell? ⟨gb575, 0, none⟩ = some (.int .i64 t572) := (blk_cell BK575.out 0).trans rfl
              have hcz85_1 : wc.cell? ⟨gb575, 1, none⟩ = some (.int .i64 t573) := (blk_cell BK575.out 1).trans rfl
              have hfz85_0 := blk_frozen BK575.out 0
              have hfz85_1 := blk_frozen BK575.out 1
              go_wp2_with (first | ((with_reducible refine gate_callee (f := 53) rfl ?_); refine goesL_ (some 128) rfl rfl Tryd.func53 (by kernel_rfl) rfl #[.agg #[.int .i64 t568, .int .i64 t569], .agg #[.int .i64 t572, .int .i64 t573]] rfl (by (try simp only [List.map_toArray, List.map_cons, List.map_nil]); first | done | rfl | (simp only [List.length_drop, List.length_take]; rfl)) ?_; (with_reducible refine (ref_Order.calls kj33 t568 t569 t572 t573 t584 _ A79.out).mono ?_); rintro e w86 ⟨rfl, hb⟩; refine ⟨_, rfl, ?_⟩; have n0_ := Aside0.mk (blk_below (g := gb571) (o := .cells #[.int .i64 t568, .int .i64 t569] 25 (0, 0)) (by (with_reducible repeat (first | refine blk_drewN ?_ _ | refine blk_drew ?_ | refine blk_alloc ?_ _)); exact BK571.out) hb); have n1_ := Aside0.mk (blk_below (g := gb575) (o := .cells #[.int .i64 t572, .int .i64 t573] 25 (0, 0)) (by (with_reducible repeat (first | refine blk_drewN ?_ _ | refine blk_drew ?_ | refine blk_alloc ?_ _)); exact BK575.out) hb); have n2_ := Aside0.mk (blk_below (g := gb579) (o := .cells #[.int .i64 t576, .int .i64 t577] 25 (0, 0)) (by (with_reducible repeat (first | refine blk_drewN ?_ _ | refine blk_drew ?_ | refine blk_alloc ?_ _)); exact BK579.out) hb); have n3_ := Aside0.mk (below_step (by repeat (first | (with_reducible first | exact HB.out | apply below_alloc | apply pw_below_drewN | apply below_drew1 | refine below_set ?_ GE571.out | refine below_set ?_ GE575.out | refine below_set ?_ GE579.out) | exact HB.out)) hb); clear BK571; clear BK575; clear BK579; clear HB; have BK571 := n0_; have BK575 := n1_; have BK579 := n2_; have HB := n3_; clear n0_ n1_ n2_ n3_; (try clear hb); (try clear hb2); (try clear hk); (try clear hi)))
              go_meet
              case rel => exact ⟨_, (true), (by first | rfl | (simp; done) | (simp [*]; done)), H', ⟨by have := HK1.out; have := HJ23.out; have := HJ33.out; first | omega | exact Nat.le_refl _⟩, ⟨by (with_reducible repeat (first | refine blk_drewN ?_ _ | refine blk_drew ?_ | refine blk_alloc ?_ _)); exact BK571.out⟩, ⟨by (with_reducible repeat (first | refine blk_drewN ?_ _ | refine blk_drew ?_ | refine blk_alloc ?_ _)); exact BK575.out⟩, ⟨by (with_reducible repeat (first | refine blk_drewN ?_ _ | refine blk_drew ?_ | refine blk_alloc ?_ _)); exact BK579.out⟩, ⟨by repeat (first | (with_reducible first | exact HB.out | apply below_alloc | apply pw_below_drewN | apply below_drew1 | refine below_set ?_ GE571.out | refine below_set ?_ GE575.out | refine below_set ?_ GE579.out) | exact HB.out)⟩⟩
             ·
              rw [if_neg c80] at H
              have c80b0 : decide (0 ≤ t584) = false := decide_eq_false c80
              clear c80
              (first | rw [c80b0] | (simp only [i64_w, i32_w]; rw [c80b0]) | skip)
              by_cases c87 : (wrap64 (t582 - t580)) < 0
              ·
               rw [if_pos c87] at H
               have c87b0 : decide ((wrap64 (t582 - t580)) < 0) = true := decide_eq_true c87
               clear c87
               have H' := Aside0.mk H
               clear H
               have hnb88 := NB571_575.out
               have hnc88 := NB575_571.out
               have hnb89 := NB571_579.out
               have hnc89 := NB579_571.out
               have hcz90_0 : wc.cell? ⟨gb571, 0, none⟩ = some (.int .i64 t568) := (blk_cell BK571.out 0).trans rfl
               have hcz90_1 : wc.cell? ⟨gb571, 1, none⟩ = some (.int .i64 t569) := (blk_cell BK571.out 1).trans rfl
               have hfz90_0 := blk_frozen BK571.out 0
               have hfz90_1 := blk_frozen BK571.out 1
               have hnb91 := NB575_579.out
               have hnc91 := NB579_575.out
               have hcz92_0 : wc.cell? ⟨gb575, 0, none⟩ = some (.int .i64 t572) := (blk_cell BK575.out 0).trans rfl
               have hcz92_1 : wc.cell? ⟨gb575, 1, none⟩ = some (.int .i64 t573) := (blk_cell BK575.out 1).trans rfl
               have hfz92_0 := blk_frozen BK575.out 0
               have hfz92_1 := blk_frozen BK575.out 1
               go_wp2_with (first | ((with_reducible refine gate_callee (f := 53) rfl ?_); refine goesL_ (some 128) rfl rfl Tryd.func53 (by kernel_rfl) rfl #[.agg #[.int .i64 t568, .int .i64 t569], .agg #[.int .i64 t572, .int .i64 t573]] rfl (by (try simp only [List.map_toArray, List.map_cons, List.map_nil]); first | done | rfl | (simp only [List.length_drop, List.length_take]; rfl)) ?_; (with_reducible refine (ref_Order.calls kj33 t568 t569 t572 t573 t584 _ A79.out).mono ?_); rintro e w93 ⟨rfl, hb⟩; refine ⟨_, rfl, ?_⟩; have n0_ := Aside0.mk (blk_below (g := gb571) (o := .cells #[.int .i64 t568, .int .i64 t569] 25 (0, 0)) (by (with_reducible repeat (first | refine blk_drewN ?_ _ | refine blk_drew ?_ | refine blk_alloc ?_ _)); exact BK571.out) hb); have n1_ := Aside0.mk (blk_below (g := gb575) (o := .cells #[.int .i64 t572, .int .i64 t573] 25 (0, 0)) (by (with_reducible repeat (first | refine blk_drewN ?_ _ | refine blk_drew ?_ | refine blk_alloc ?_ _)); exact BK575.out) hb); have n2_ := Aside0.mk (blk_below (g := gb579) (o := .cells #[.int .i64 t576, .int .i64 t577] 25 (0, 0)) (by (with_reducible repeat (first | refine blk_drewN ?_ _ | refine blk_drew ?_ | refine blk_alloc ?_ _)); exact BK579.out) hb); have n3_ := Aside0.mk (below_step (by repeat (first | (with_reducible first | exact HB.out | apply below_alloc | apply pw_below_drewN | apply below_drew1 | refine below_set ?_ GE571.out | refine below_set ?_ GE575.out | refine below_set ?_ GE579.out) | exact HB.out)) hb); clear BK571; clear BK575; clear BK579; clear HB; have BK571 := n0_; have BK575 := n1_; have BK579 := n2_; have HB := n3_; clear n0_ n1_ n2_ n3_; (try clear hb); (try clear hb2); (try clear hk); (try clear hi)))
               go_meet
               case rel => exact ⟨_, (true), (by first | rfl | (simp; done) | (simp [*]; done)), H', ⟨by have := HK1.out; have := HJ23.out; have := HJ33.out; first | omega | exact Nat.le_refl _⟩, ⟨by (with_reducible repeat (first | refine blk_drewN ?_ _ | refine blk_drew ?_ | refine blk_alloc ?_ _)); exact BK571.out⟩, ⟨by (with_reducible repeat (first | refine blk_drewN ?_ _ | refine blk_drew ?_ | refine blk_alloc ?_ _)); exact BK575.out⟩, ⟨by (with_reducible repeat (first | refine blk_drewN ?_ _ | refine blk_drew ?_ | refine blk_alloc ?_ _)); exact BK579.out⟩, ⟨by repeat (first | (with_reducible first | exact HB.out | apply below_alloc | apply pw_below_drewN | apply below_drew1 | refine below_set ?_ GE571.out | refine below_set ?_ GE575.out | refine below_set ?_ GE579.out) | exact HB.out)⟩⟩
              ·
               rw [if_neg c87] at H
               have c87b0 : decide ((wrap64 (t582 - t580)) < 0) = false := decide_eq_false c87
               clear c87
               by_cases c94 : (wrap64 (t582 - t580)) > 1
               ·
                rw [if_pos c94] at H
                have c94b0 : decide (1 < (wrap64 (t582 - t580))) = true := decide_eq_true c94
                clear c94
                have H' := Aside0.mk H
                clear H
                have hnb95 := NB571_575.out
                have hnc95 := NB575_571.out
                have hnb96 := NB571_579.out
                have hnc96 := NB579_571.out
                have hcz97_0 : wc.cell? ⟨gb571, 0, none⟩ = some (.int .i64 t568) := (blk_cell BK571.out 0).trans rfl
                have hcz97_1 : wc.cell? ⟨gb571, 1, none⟩ = some (.int .i64 t569) := (blk_cell BK571.out 1).trans rfl
                have hfz97_0 := blk_frozen BK571.out 0
                have hfz97_1 := blk_frozen BK571.out 1
                have hnb98 := NB575_579.out
                have hnc98 := NB579_575.out
                have hcz99_0 : wc.cell? ⟨gb575, 0, none⟩ = some (.int .i64 t572) := (blk_cell BK575.out 0).trans rfl
                have hcz99_1 : wc.cell? ⟨gb575, 1, none⟩ = some (.int .i64 t573) := (blk_cell BK575.out 1).trans rfl
                have hfz99_0 := blk_frozen BK575.out 0
                have hfz99_1 := blk_frozen BK575.out 1
                go_wp2_with (first | ((with_reducible refine gate_callee (f := 53) rfl ?_); refine goesL_ (some 128) rfl rfl Tryd.func53 (by kernel_rfl) rfl #[.agg #[.int .i64 t568, .int .i64 t569], .agg #[.int .i64 t572, .int .i64 t573]] rfl (by (try simp only [List.map_toArray, List.map_cons, List.map_nil]); first | done | rfl | (simp only [List.length_drop, List.length_take]; rfl)) ?_; (with_reducible refine (ref_Order.calls kj33 t568 t569 t572 t573 t584 _ A79.out).mono ?_); rintro e w100 ⟨rfl, hb⟩; refine ⟨_, rfl, ?_⟩; have n0_ := Aside0.mk (blk_below (g := gb571) (o := .cells #[.int .i64 t568, .int .i64 t569] 25 (0, 0)) (by (with_reducible repeat (first | refine blk_drewN ?_ _ | refine blk_drew ?_ | refine blk_alloc ?_ _)); exact BK571.out) hb); have n1_ := Aside0.mk (blk_below (g := gb575) (o := .cells #[.int .i64 t572, .int .i64 t573] 25 (0, 0)) (by (with_reducible repeat (first | refine blk_drewN ?_ _ | refine blk_drew ?_ | refine blk_alloc ?_ _)); exact BK575.out) hb); have n2_ := Aside0.mk (blk_below (g := gb579) (o := .cells #[.int .i64 t576, .int .i64 t577] 25 (0, 0)) (by (with_reducible repeat (first | refine blk_drewN ?_ _ | refine blk_drew ?_ | refine blk_alloc ?_ _)); exact BK579.out) hb); have n3_ := Aside0.mk (below_step (by repeat (first | (with_reducible first | exact HB.out | apply below_alloc | apply pw_below_drewN | apply below_drew1 | refine below_set ?_ GE571.out | refine below_set ?_ GE575.out | refine below_set ?_ GE579.out) | exact HB.out)) hb); clear BK571; clear BK575; clear BK579; clear HB; have BK571 := n0_; have BK575 := n1_; have BK579 := n2_; have HB := n3_; clear n0_ n1_ n2_ n3_; (try clear hb); (try clear hb2); (try clear hk); (try clear hi)))
                go_meet
                case rel => exact ⟨_, (true), (by first | rfl | (simp; done) | (simp [*]; done)), H', ⟨by have := HK1.out; have := HJ23.out; have := HJ33.out; first | omega | exact Nat.le_refl _⟩, ⟨by (with_reducible repeat (first | refine blk_drewN ?_ _ | refine blk_drew ?_ | refine blk_alloc ?_ _)); exact BK571.out⟩, ⟨by (with_reducible repeat (first | refine blk_drewN ?_ _ | refine blk_drew ?_ | refine blk_alloc ?_ _)); exact BK575.out⟩, ⟨by (with_reducible repeat (first | refine blk_drewN ?_ _ | refine blk_drew ?_ | refine blk_alloc ?_ _)); exact BK579.out⟩, ⟨by repeat (first | (with_reducible first | exact HB.out | apply below_alloc | apply pw_below_drewN | apply below_drew1 | refine below_set ?_ GE571.out | refine below_set ?_ GE575.out | refine below_set ?_ GE579.out) | exact HB.out)⟩⟩
               ·
                rw [if_neg c94] at H
                have c94b0 : decide (1 < (wrap64 (t582 - t580))) = false := decide_eq_false c94
                clear c94
                have H' := Aside0.mk H
                clear H
                have hnb101 := NB571_575.out
                have hnc101 := NB575_571.out
                have hnb102 := NB571_579.out
                have hnc102 := NB579_571.out
                have hcz103_0 : wc.cell? ⟨gb571, 0, none⟩ = some (.int .i64 t568) := (blk_cell BK571.out 0).trans rfl
                have hcz103_1 : wc.cell? ⟨gb571, 1, none⟩ = some (.int .i64 t569) := (blk_cell BK571.out 1).trans rfl
                have hfz103_0 := blk_frozen BK571.out 0
                have hfz103_1 := blk_frozen BK571.out 1
                have hnb104 := NB575_579.out
                have hnc104 := NB579_575.out
                have hcz105_0 : wc.cell? ⟨gb575, 0, none⟩ = some (.int .i64 t572) := (blk_cell BK575.out 0).trans rfl
                have hcz105_1 : wc.cell? ⟨gb575, 1, none⟩ = some (.int .i64 t573) := (blk_cell BK575.out 1).trans rfl
                have hfz105_0 := blk_frozen BK575.out 0
                have hfz105_1 := blk_frozen BK575.out 1
                go_wp2_with (first | ((with_reducible refine gate_callee (f := 53) rfl ?_); refine goesL_ (some 128) rfl rfl Tryd.func53 (by kernel_rfl) rfl #[.agg #[.int .i64 t568, .int .i64 t569], .agg #[.int .i64 t572, .int .i64 t573]] rfl (by (try simp only [List.map_toArray, List.map_cons, List.map_nil]); first | done | rfl | (simp only [List.length_drop, List.length_take]; rfl)) ?_; (with_reducible refine (ref_Order.calls kj33 t568 t569 t572 t573 t584 _ A79.out).mono ?_); rintro e w106 ⟨rfl, hb⟩; refine ⟨_, rfl, ?_⟩; have n0_ := Aside0.mk (blk_below (g := gb571) (o := .cells #[.int .i64 t568, .int .i64 t569] 25 (0, 0)) (by (with_reducible repeat (first | refine blk_drewN ?_ _ | refine blk_drew ?_ | refine blk_alloc ?_ _)); exact BK571.out) hb); have n1_ := Aside0.mk (blk_below (g := gb575) (o := .cells #[.int .i64 t572, .int .i64 t573] 25 (0, 0)) (by (with_reducible repeat (first | refine blk_drewN ?_ _ | refine blk_drew ?_ | refine blk_alloc ?_ _)); exact BK575.out) hb); have n2_ := Aside0.mk (blk_below (g := gb579) (o := .cells #[.int .i64 t576, .int .i64 t577] 25 (0, 0)) (by (with_reducible repeat (first | refine blk_drewN ?_ _ | refine blk_drew ?_ | refine blk_alloc ?_ _)); exact BK579.out) hb); have n3_ := Aside0.mk (below_step (by repeat (first | (with_reducible first | exact HB.out | apply below_alloc | apply pw_below_drewN | apply below_drew1 | refine below_set ?_ GE571.out | refine below_set ?_ GE575.out | refine below_set ?_ GE579.out) | exact HB.out)) hb); clear BK571; clear BK575; clear BK579; clear HB; have BK571 := n0_; have BK575 := n1_; have BK579 := n2_; have HB := n3_; clear n0_ n1_ n2_ n3_; (try clear hb); (try clear hb2); (try clear hk); (try clear hi); have hcz107_0 : w106.cell? ⟨gb571, 0, none⟩ = some (.int .i64 t568) := (blk_cell BK571.out 0).trans rfl; have hcz107_1 : w106.cell? ⟨gb571, 1, none⟩ = some (.int .i64 t569) := (blk_cell BK571.out 1).trans rfl; have hfz107_0 := blk_frozen BK571.out 0; have hfz107_1 := blk_frozen BK571.out 1))
                go_meet
                case rel => exact ⟨_, (((t582 == t580) != (t569 == 1))), (by first | rfl | (simp; done) | (simp [*]; done)), H', ⟨by have := HK1.out; have := HJ23.out; have := HJ33.out; first | omega | exact Nat.le_refl _⟩, ⟨by (with_reducible repeat (first | refine blk_drewN ?_ _ | refine blk_drew ?_ | refine blk_alloc ?_ _)); exact BK571.out⟩, ⟨by (with_reducible repeat (first | refine blk_drewN ?_ _ | refine blk_drew ?_ | refine blk_alloc ?_ _)); exact BK575.out⟩, ⟨by (with_reducible repeat (first | refine blk_drewN ?_ _ | refine blk_drew ?_ | refine blk_alloc ?_ _)); exact BK579.out⟩, ⟨by repeat (first | (with_reducible first | exact HB.out | apply below_alloc | apply pw_below_drewN | apply below_drew1 | refine below_set ?_ GE571.out | refine below_set ?_ GE575.out | refine below_set ?_ GE579.out) | exact HB.out)⟩⟩
            case rest => as_aux_lemma =>
             clear HC78
             try clear c1
             try clear c2
             try clear p2
             try clear c4
             try clear c5
             try clear p5
             try clear q5
             try clear hx5
             try clear c6
             try clear p6
             try clear c7
             try clear c8
             try clear c8b0
             try clear c9
             try clear c9b0
             try clear c10
             try clear c10b0
             try clear c17
             try clear c18
             try clear c19
             try clear c19b0
             try clear c19b1
             try clear c20
             try clear c22
             try clear c23
             try clear c24
             try clear c26
             try clear c28
             try clear c40
             try clear c42
             try clear c43
             try clear c44
             try clear c45
             try clear c49
             try clear c49b0
             try clear c49b1
             try clear c50
             try clear c50b0
             try clear c50b1
             try clear c51
             try clear c51b0
             try clear c51b1
             try clear c52
             try clear c52b0
             try clear c52b1
             try clear c53
             try clear c53b0
             try clear c53b1
             try clear c54
             try clear c54b0
             try clear c55
             try clear c56
             try clear p56
             try clear q56
             try clear hx56
             try clear c58
             try clear c58b0
             try clear c59
             try clear c60
             try clear c62
             try clear c64
             try clear c64b0
             try clear p64
             try clear c65
             try clear c66
             try clear c68
             try clear c71
             try clear c72
             try clear c74
             try clear c77
             try clear c80
             try clear c80b0
             try clear c81
             try clear c82
             try clear c84
             try clear c87
             try clear c87b0
             try clear c88
             try clear c89
             try clear c91
             try clear c94
             try clear c94b0
             try clear c95
             try clear c96
             try clear c98
             try clear c101
             try clear c102
             try clear c104
             try clear hcz103_0
             try clear hcz103_1
             try clear hcz105_0
             try clear hcz105_1
             try clear hcz107_0
             try clear hcz107_1
             try clear hcz14_0
             try clear hcz14_1
             try clear hcz18_0
             try clear hcz18_1
             try clear hcz21_0
             try clear hcz21_1
             try clear hcz22_0
             try clear hcz22_1
             try clear hcz37_0
             try clear hcz37_1
             try clear hcz41_0
             try clear hcz41_1
             try clear hcz46_0
             try clear hcz46_1
             try clear hcz57_0
             try clear hcz57_1
             try clear hcz61_0
             try clear hcz61_1
             try clear hcz63_0
             try clear hcz63_1
             try clear hcz67_0
             try clear hcz67_1
             try clear hcz69_0
             try clear hcz69_1
             try clear hcz70_0
             try clear hcz70_1
             try clear hcz73_0
             try clear hcz73_1
             try clear hcz75_0
             try clear hcz75_1
             try clear hcz76_0
             try clear hcz76_1
             try clear hcz83_0
             try clear hcz83_1
             try clear hcz85_0
             try clear hcz85_1
             try clear hcz90_0
             try clear hcz90_1
             try clear hcz92_0
             try clear hcz92_1
             try clear hcz97_0
             try clear hcz97_1
             try clear hcz99_0
             try clear hcz99_1
             try clear hfz103_0
             try clear hfz103_1
             try clear hfz105_0
             try clear hfz105_1
             try clear hfz107_0
             try clear hfz107_1
             try clear hfz14_0
             try clear hfz14_1
             try clear hfz18_0
             try clear hfz18_1
             try clear hfz21_0
             try clear hfz21_1
             try clear hfz22_0
             try clear hfz22_1
             try clear hfz37_0
             try clear hfz37_1
             try clear hfz41_0
             try clear hfz41_1
             try clear hfz46_0
             try clear hfz46_1
             try clear hfz57_0
             try clear hfz57_1
             try clear hfz61_0
             try clear hfz61_1
             try clear hfz63_0
             try clear hfz63_1
             try clear hfz67_0
             try clear hfz67_1
             try clear hfz69_0
             try clear hfz69_1
             try clear hfz70_0
             try clear hfz70_1
             try clear hfz73_0
             try clear hfz73_1
             try clear hfz75_0
             try clear hfz75_1
             try clear hfz76_0
             try clear hfz76_1
             try clear hfz83_0
             try clear hfz83_1
             try clear hfz85_0
             try clear hfz85_1
             try clear hfz90_0
             try clear hfz90_1
             try clear hfz92_0
             try clear hfz92_1
             try clear hfz97_0
             try clear hfz97_1
             try clear hfz99_0
             try clear hfz99_1
             try clear hx560_0
             try clear hx560_1
             try clear p2
             try clear p5
             try clear p56
             try clear p560
             try clear p6
             try clear p64
             try clear q5
             try clear q56
             try clear q560
             obtain ⟨kq, x150_77, rfl, HA, HJ77, BK571, BK575, BK579, HB⟩ := hcut
             cases kq with
             | zero => exact absurd HA.out (by simp [law_CurveRises.j4])
             | succ kj77 =>
              have H := HA.out
              clear HA
              simp only [law_CurveRises.j4] at H
              by_cases c108 : x150_77 = true
              ·
               subst c108
               have H1 : (some false) = some r := by rw [if_pos rfl] at H; exact H
               clear H
               have H := H1
               clear H1
               obtain rfl := Option.some.inj H
               go_wp2
               go_ret
               exact ⟨by first | rfl | (simp [errW_none, errW_some] <;> rfl) | (simp [*, errW_none, errW_some] <;> rfl), by repeat (first | (with_reducible first | exact HB.out | apply below_alloc | apply pw_below_drewN | apply below_drew1 | refine below_set ?_ GE571.out | refine below_set ?_ GE575.out | refine below_set ?_ GE579.out) | exact HB.out)⟩
              ·
               replace c108 := Bool.eq_false_iff.mpr c108
               subst c108
               have H1 : ((ref_Order.f kj77 t580 1 t568 t569).bind fun t585 => (if t585 > 0 then (law_CurveRises.j5 kj77 l0 true t568 t569 t572 t573 t576 t577) else ((ref_Order.f kj77 t568 t569 t582 1).bind fun t586 => (law_CurveRises.j5 kj77 l0 (decide (t586 > 0)) t568 t569 t572 t573 t576 t577)))) = some r := by rw [if_neg (show ¬ (false = true) by decide)] at H; exact H
               clear H
               have H := H1
               clear H1
               have HC109 := Aside0.mk H
               clear H
               go_upto_region 23 with (fail)
               go_cut [162] (fun v162 wc => ∃ (kq : Nat) (x162_108 : Bool), v162 = .bool x162_108 ∧ Aside0 (law_CurveRises.j5 kq l0 x162_108 t568 t569 t572 t573 t576 t577 = some r) ∧ Aside0 (kq ≤ kj77) ∧ Aside0 (wc.heap[gb571]? = some (.cells #[.int .i64 t568, .int .i64 t569] 25 (0, 0))) ∧ Aside0 (wc.heap[gb575]? = some (.cells #[.int .i64 t572, .int .i64 t573] 25 (0, 0))) ∧ Aside0 (wc.heap[gb579]? = some (.cells #[.int .i64 t576, .int .i64 t577] 25 (0, 0))) ∧ Aside0 (Below w.heap.size w wc))
               case first => as_aux_lemma =>
                have H := HC109.out
                clear HC109
                replace H := Option.bind_eq_some_iff.mp H
                obtain ⟨t585, A1100, H⟩ := H
                replace H : (if t585 > 0 then (law_CurveRises.j5 kj77 l0 true t568 t569 t572 t573 t576 t577) else ((ref_Order.f kj77 t568 t569 t582 1).bind fun t586 => (law_CurveRises.j5 kj77 l0 (decide (t586 > 0)) t568 t569 t572 t573 t576 t577))) = some r := H
                have A110 := Aside0.mk A1100
                clear A1100
                by_cases c111 : t585 > 0
                ·
                 rw [if_pos c111] at H
                 have c111b0 : decide (0 < t585) = true := decide_eq_true c111
                 clear c111
                 (first | rw [c111b0] | (simp only [i64_w, i32_w]; rw [c111b0]) | skip)
                 have H' := Aside0.mk H
                 clear H
                 have hnb112 := NB571_575.out
                 have hnc112 := NB575_571.out
                 have hnb113 := NB571_579.out
                 have hnc113 := NB579_571.out
                 have hcz114_0 : wc.cell? ⟨gb571, 0, none⟩ = some (.int .i64 t568) := (blk_cell BK571.out 0).trans rfl
                 have hcz114_1 : wc.cell? ⟨gb571, 1, none⟩ = some (.int .i64 t569) := (blk_cell BK571.out 1).trans rfl
                 have hfz114_0 := blk_frozen BK571.out 0
                 have hfz114_1 := blk_frozen BK571.out 1
                 go_wp2_with (first | ((with_reducible refine gate_callee (f := 53) rfl ?_); refine goesL_ (some 154) rfl rfl Tryd.func53 (by kernel_rfl) rfl #[.agg #[.int .i64 t580, .int .i64 1], .agg #[.int .i64 t568, .int .i64 t569]] rfl (by (try simp only [List.map_toArray, List.map_cons, List.map_nil]); first | done | rfl | (simp only [List.length_drop, List.length_take]; rfl)) ?_; (with_reducible refine (ref_Order.calls kj77 t580 1 t568 t569 t585 _ A110.out).mono ?_); rintro e w115 ⟨rfl, hb⟩; refine ⟨_, rfl, ?_⟩; have n0_ := Aside0.mk (blk_below (g := gb571) (o := .cells #[.int .i64 t568, .int .i64 t569] 25 (0, 0)) (by (with_reducible repeat (first | refine blk_drewN ?_ _ | refine blk_drew ?_ | refine blk_alloc ?_ _)); exact BK571.out) hb); have n1_ := Aside0.mk (blk_below (g := gb575) (o := .cells #[.int .i64 t572, .int .i64 t573] 25 (0, 0)) (by (with_reducible repeat (first | refine blk_drewN ?_ _ | refine blk_drew ?_ | refine blk_alloc ?_ _)); exact BK575.out) hb); have n2_ := Aside0.mk (blk_below (g := gb579) (o := .cells #[.int .i64 t576, .int .i64 t577] 25 (0, 0)) (by (with_reducible repeat (first | refine blk_drewN ?_ _ | refine blk_drew ?_ | refine blk_alloc ?_ _)); exact BK579.out) hb); have n3_ := Aside0.mk (below_step (by repeat (first | (with_reducible first | exact HB.out | apply below_alloc | apply pw_below_drewN | apply below_drew1 | refine below_set ?_ GE571.out | refine below_set ?_ GE575.out | refine below_set ?_ GE579.out) | exact HB.out)) hb); clear BK571; clear BK575; clear BK579; clear HB; have BK571 := n0_; have BK575 := n1_; have BK579 := n2_; have HB := n3_; clear n0_ n1_ n2_ n3_; (try clear hb); (try clear hb2); (try clear hk); (try clear hi)))
                 go_meet
                 case rel => exact ⟨_, (true), (by first | rfl | (simp; done) | (simp [*]; done)), H', ⟨by have := HK1.out; have := HJ23.out; have := HJ33.out; have := HJ77.out; first | omega | exact Nat.le_refl _⟩, ⟨by (with_reducible repeat (first | refine blk_drewN ?_ _ | refine blk_drew ?_ | refine blk_alloc ?_ _)); exact BK571.out⟩, ⟨by (with_reducible repeat (first | refine blk_drewN ?_ _ | refine blk_drew ?_ | refine blk_alloc ?_ _)); exact BK575.out⟩, ⟨by (with_reducible repeat (first | refine blk_drewN ?_ _ | refine blk_drew ?_ | refine blk_alloc ?_ _)); exact BK579.out⟩, ⟨by repeat (first | (with_reducible first | exact HB.out | apply below_alloc | apply pw_below_drewN | apply below_drew1 | refine below_set ?_ GE571.out | refine below_set ?_ GE575.out | refine below_set ?_ GE579.out) | exact HB.out)⟩⟩
                ·
                 rw [if_neg c111] at H
                 have c111b0 : decide (0 < t585) = false := decide_eq_false c111
                 clear c111
                 (first | rw [c111b0] | (simp only [i64_w, i32_w]; rw [c111b0]) | skip)
                 replace H := Option.bind_eq_some_iff.mp H
                 obtain ⟨t586, A1160, H⟩ := H
                 replace H : (law_CurveRises.j5 kj77 l0 (decide (t586 > 0)) t568 t569 t572 t573 t576 t577) = some r := H
                 have A116 := Aside0.mk A1160
                 clear A1160
                 have H' := Aside0.mk H
                 clear H
                 have hnb117 := NB571_575.out
                 have hnc117 := NB575_571.out
                 have hnb118 := NB571_579.out
                 have hnc118 := NB579_571.out
                 have hcz119_0 : wc.cell? ⟨gb571, 0, none⟩ = some (.int .i64 t568) := (blk_cell BK571.out 0).trans rfl
                 have hcz119_1 : wc.cell? ⟨gb571, 1, none⟩ = some (.int .i64 t569) := (blk_cell BK571.out 1).trans rfl
                 have hfz119_0 := blk_frozen BK571.out 0
                 have hfz119_1 := blk_frozen BK571.out 1
                 go_wp2_with (first | ((with_reducible refine gate_callee (f := 53) rfl ?_); refine goesL_ (some 154) rfl rfl Tryd.func53 (by kernel_rfl) rfl #[.agg #[.int .i64 t580, .int .i64 1], .agg #[.int .i64 t568, .int .i64 t569]] rfl (by (try simp only [List.map_toArray, List.map_cons, List.map_nil]); first | done | rfl | (simp only [List.length_drop, List.length_take]; rfl)) ?_; (with_reducible refine (ref_Order.calls kj77 t580 1 t568 t569 t585 _ A110.out).mono ?_); rintro e w120 ⟨rfl, hb⟩; refine ⟨_, rfl, ?_⟩; have n0_ := Aside0.mk (blk_below (g := gb571) (o := .cells #[.int .i64 t568, .int .i64 t569] 25 (0, 0)) (by (with_reducible repeat (first | refine blk_drewN ?_ _ | refine blk_drew ?_ | refine blk_alloc ?_ _)); exact BK571.out) hb); have n1_ := Aside0.mk (blk_below (g := gb575) (o := .cells #[.int .i64 t572, .int .i64 t573] 25 (0, 0)) (by (with_reducible repeat (first | refine blk_drewN ?_ _ | refine blk_drew ?_ | refine blk_alloc ?_ _)); exact BK575.out) hb); have n2_ := Aside0.mk (blk_below (g := gb579) (o := .cells #[.int .i64 t576, .int .i64 t577] 25 (0, 0)) (by (with_reducible repeat (first | refine blk_drewN ?_ _ | refine blk_drew ?_ | refine blk_alloc ?_ _)); exact BK579.out) hb); have n3_ := Aside0.mk (below_step (by repeat (first | (with_reducible first | exact HB.out | apply below_alloc | apply pw_below_drewN | apply below_drew1 | refine below_set ?_ GE571.out | refine below_set ?_ GE575.out | refine below_set ?_ GE579.out) | exact HB.out)) hb); clear BK571; clear BK575; clear BK579; clear HB; have BK571 := n0_; have BK575 := n1_; have BK579 := n2_; have HB := n3_; clear n0_ n1_ n2_ n3_; (try clear hb); (try clear hb2); (try clear hk); (try clear hi); have hcz121_0 : w120.cell? ⟨gb571, 0, none⟩ = some (.int .i64 t568) := (blk_cell BK571.out 0).trans rfl; have hcz121_1 : w120.cell? ⟨gb571, 1, none⟩ = some (.int .i64 t569) := (blk_cell BK571.out 1).trans rfl; have hfz121_0 := blk_frozen BK571.out 0; have hfz121_1 := blk_frozen BK571.out 1) | (go_at_call 53; (with_reducible refine (ref_Order.calls kj77 t568 t569 t582 1 t586 _ A116.out).mono ?_); rintro e w122 ⟨rfl, hb⟩; have n0_ := Aside0.mk (blk_below (g := gb571) (o := .cells #[.int .i64 t568, .int .i64 t569] 25 (0, 0)) (by (with_reducible repeat (first | refine blk_drewN ?_ _ | refine blk_drew ?_ | refine blk_alloc ?_ _)); exact BK571.out) hb); have n1_ := Aside0.mk (blk_below (g := gb575) (o := .cells #[.int .i64 t572, .int .i64 t573] 25 (0, 0)) (by (with_reducible repeat (first | refine blk_drewN ?_ _ | refine blk_drew ?_ | refine blk_alloc ?_ _)); exact BK575.out) hb); have n2_ := Aside0.mk (blk_below (g := gb579) (o := .cells #[.int .i64 t576, .int .i64 t577] 25 (0, 0)) (by (with_reducible repeat (first | refine blk_drewN ?_ _ | refine blk_drew ?_ | refine blk_alloc ?_ _)); exact BK579.out) hb); have n3_ := Aside0.mk (below_step (by repeat (first | (with_reducible first | exact HB.out | apply below_alloc | apply pw_below_drewN | apply below_drew1 | refine below_set ?_ GE571.out | refine below_set ?_ GE575.out | refine below_set ?_ GE579.out) | exact HB.out)) hb); clear BK571; clear BK575; clear BK579; clear HB; have BK571 := n0_; have BK575 := n1_; have BK579 := n2_; have HB := n3_; clear n0_ n1_ n2_ n3_; (try clear hb); (try clear hb2); (try clear hk); (try clear hi)))
                 go_meet
                 case rel => exact ⟨_, (decide (t586 > 0)), (by first | rfl | (simp; done) | (simp [*]; done)), H', ⟨by have := HK1.out; have := HJ23.out; have := HJ33.out; have := HJ77.out; first | omega | exact Nat.le_refl _⟩, ⟨by (with_reducible repeat (first | refine blk_drewN ?_ _ | refine blk_drew ?_ | refine blk_alloc ?_ _)); exact BK571.out⟩, ⟨by (with_reducible repeat (first | refine blk_drewN ?_ _ | refine blk_drew ?_ | refine blk_alloc ?_ _)); exact BK575.out⟩, ⟨by (with_reducible repeat (first | refine blk_drewN ?_ _ | refine blk_drew ?_ | refine blk_alloc ?_ _)); exact BK579.out⟩, ⟨by repeat (first | (with_reducible first | exact HB.out | apply below_alloc | apply pw_below_drewN | apply below_drew1 | refine below_set ?_ GE571.out | refine below_set ?_ GE575.out | refine below_set ?_ GE579.out) | exact HB.out)⟩⟩
               case rest => as_aux_lemma =>
                clear HC109
                try clear c1
                try clear c2
                try clear p2
                try clear c4
                try clear c5
                try clear p5
                try clear q5
                try clear hx5
                try clear c6
                try clear p6
                try clear c7
                try clear c8
                try clear c8b0
                try clear c9
                try clear c9b0
                try clear c10
                try clear c10b0
                try clear c11
                try clear c17
                try clear c18
                try clear c19
                try clear c19b0
                try clear c19b1
                try clear c20
                try clear c22
                try clear c23
                try clear c24
                try clear c26
                try clear c28
                try clear c40
                try clear c42
                try clear c43
                try clear c44
                try clear c45
                try clear c49
                try clear c49b0
                try clear c49b1
                try clear c50
                try clear c50b0
                try clear c50b1
                try clear c51
                try clear c51b0
                try clear c51b1
                try clear c52
                try clear c52b0
                try clear c52b1
                try clear c53
                try clear c53b0
                try clear c53b1
                try clear c54
                try clear c54b0
                try clear c55
                try clear c56
                try clear p56
                try clear q56
                try clear hx56
                try clear c58
                try clear c58b0
                try clear c59
                try clear c60
                try clear c62
                try clear c64
                try clear c64b0
                try clear p64
                try clear c65
                try clear c66
                try clear c68
                try clear c71
                try clear c72
                try clear c74
                try clear c77
                try clear c80
                try clear c80b0
                try clear c81
                try clear c82
                try clear c84
                try clear c87
                try clear c87b0
                try clear c88
                try clear c89
                try clear c91
                try clear c94
                try clear c94b0
                try clear c95
                try clear c96
                try clear c98
                try clear c101
                try clear c102
                try clear c104
                try clear c108
                try clear c111
                try clear c111b0
                try clear c112
                try clear c113
                try clear c117
                try clear c118
                try clear hcz103_0
                try clear hcz103_1
                try clear hcz105_0
                try clear hcz105_1
                try clear hcz107_0
                try clear hcz107_1
                try clear hcz114_0
                try clear hcz114_1
                try clear hcz119_0
                try clear hcz119_1
                try clear hcz121_0
                try clear hcz121_1
                try clear hcz14_0
                try clear hcz14_1
                try clear hcz18_0
                try clear hcz18_1
                try clear hcz21_0
                try clear hcz21_1
                try clear hcz22_0
                try clear hcz22_1
                try clear hcz37_0
                try clear hcz37_1
                try clear hcz41_0
                try clear hcz41_1
                try clear hcz46_0
                try clear hcz46_1
                try clear hcz57_0
                try clear hcz57_1
                try clear hcz61_0
                try clear hcz61_1
                try clear hcz63_0
                try clear hcz63_1
                try clear hcz67_0
                try clear hcz67_1
                try clear hcz69_0
                try clear hcz69_1
                try clear hcz70_0
                try clear hcz70_1
                try clear hcz73_0
                try clear hcz73_1
                try clear hcz75_0
                try clear hcz75_1
                try clear hcz76_0
                try clear hcz76_1
                try clear hcz83_0
                try clear hcz83_1
                try clear hcz85_0
                try clear hcz85_1
                try clear hcz90_0
                try clear hcz90_1
                try clear hcz92_0
                try clear hcz92_1
                try clear hcz97_0
                try clear hcz97_1
                try clear hcz99_0
                try clear hcz99_1
                try clear hfz103_0
                try clear hfz103_1
                try clear hfz105_0
                try clear hfz105_1
                try clear hfz107_0
                try clear hfz107_1
                try clear hfz114_0
                try clear hfz114_1
                try clear hfz119_0
                try clear hfz119_1
                try clear hfz121_0
                try clear hfz121_1
                try clear hfz14_0
                try clear hfz14_1
                try clear hfz18_0
                try clear hfz18_1
                try clear hfz21_0
                try clear hfz21_1
                try clear hfz22_0
                try clear hfz22_1
                try clear hfz37_0
                try clear hfz37_1
                try clear hfz41_0
                try clear hfz41_1
                try clear hfz46_0
                try clear hfz46_1
                try clear hfz57_0
                try clear hfz57_1
                try clear hfz61_0
                try clear hfz61_1
                try clear hfz63_0
                try clear hfz63_1
                try clear hfz67_0
                try clear hfz67_1
                try clear hfz69_0
                try clear hfz69_1
                try clear hfz70_0
                try clear hfz70_1
                try clear hfz73_0
                try clear hfz73_1
                try clear hfz75_0
                try clear hfz75_1
                try clear hfz76_0
                try clear hfz76_1
                try clear hfz83_0
                try clear hfz83_1
                try clear hfz85_0
                try clear hfz85_1
                try clear hfz90_0
                try clear hfz90_1
                try clear hfz92_0
                try clear hfz92_1
                try clear hfz97_0
                try clear hfz97_1
                try clear hfz99_0
                try clear hfz99_1
                try clear hx560_0
                try clear hx560_1
                try clear p2
                try clear p5
                try clear p56
                try clear p560
                try clear p6
                try clear p64
                try clear q5
                try clear q56
                try clear q560
                obtain ⟨kq, x162_108, rfl, HA, HJ108, BK571, BK575, BK579, HB⟩ := hcut
                cases kq with
                | zero => exact absurd HA.out (by simp [law_CurveRises.j5])
                | succ kj108 =>
                 have H := HA.out
                 clear HA
                 simp only [law_CurveRises.j5] at H
                 by_cases c123 : x162_108 = true
                 ·
                  subst c123
                  have H1 : (some false) = some r := by rw [if_pos rfl] at H; exact H
                  clear H
                  have H := H1
                  clear H1
                  obtain rfl := Option.some.inj H
                  go_wp2
                  go_ret
                  exact ⟨by first | rfl | (simp [errW_none, errW_some] <;> rfl) | (simp [*, errW_none, errW_some] <;> rfl), by repeat (first | (with_reducible first | exact HB.out | apply below_alloc | apply pw_below_drewN | apply below_drew1 | refine below_set ?_ GE571.out | refine below_set ?_ GE575.out | refine below_set ?_ GE579.out) | exact HB.out)⟩
                 ·
                  replace c123 := Bool.eq_false_iff.mpr c123
                  subst c123
                  have H1 : ((law_small.f kj108 l0).bind fun t587 => (if t587 = true then (if t569 > 32768 then (law_CurveRises.j6 kj108 l0 true t568 t569 t572 t573 t576 t577) else (if t573 > 32768 then (law_CurveRises.j6 kj108 l0 true t568 t569 t572 t573 t576 t577) else (if t577 > 32768 then (law_CurveRises.j6 kj108 l0 true t568 t569 t572 t573 t576 t577) else (if t568 > 1073741824 then (law_CurveRises.j6 kj108 l0 true t568 t569 t572 t573 t576 t577) else (if t572 > 1073741824 then (law_CurveRises.j6 kj108 l0 true t568 t569 t572 t573 t576 t577) else (law_CurveRises.j6 kj108 l0 (decide (t576 > 32768)) t568 t569 t572 t573 t576 t577)))))) else (law_CurveRises.j6 kj108 l0 true t568 t569 t572 t573 t576 t577))) = some r := by rw [if_neg (show ¬ (false = true) by decide)] at H; exact H
                  clear H
                  have H := H1
                  clear H1
                  have HC124 := Aside0.mk H
                  clear H
                  go_upto_region 25 with (fail)
                  go_cut [195] (fun v195 wc => ∃ (kq : Nat) (x195_123 : Bool), v195 = .bool x195_123 ∧ Aside0 (law_CurveRises.j6 kq l0 x195_123 t568 t569 t572 t573 t576 t577 = some r) ∧ Aside0 (kq ≤ kj108) ∧ Aside0 (wc.heap[gb571]? = some (.cells #[.int .i64 t568, .int .i64 t569] 25 (0, 0))) ∧ Aside0 (wc.heap[gb575]? = some (.cells #[.int .i64 t572, .int .i64 t573] 25 (0, 0))) ∧ Aside0 (wc.heap[gb579]? = some (.cells #[.int .i64 t576, .int .i64 t577] 25 (0, 0))) ∧ Aside0 (Below w.heap.size w wc))
                  case first => as_aux_lemma =>
                   have H := HC124.out
                   clear HC124
                   replace H := Option.bind_eq_some_iff.mp H
                   obtain ⟨t587, A1250, H⟩ := H
                   replace H : (if t587 = true then (if t569 > 32768 then (law_CurveRises.j6 kj108 l0 true t568 t569 t572 t573 t576 t577) else (if t573 > 32768 then (law_CurveRises.j6 kj108 l0 true t568 t569 t572 t573 t576 t577) else (if t577 > 32768 then (law_CurveRises.j6 kj108 l0 true t568 t569 t572 t573 t576 t577) else (if t568 > 1073741824 then (law_CurveRises.j6 kj108 l0 true t568 t569 t572 t573 t576 t577) else (if t572 > 1073741824 then (law_CurveRises.j6 kj108 l0 true t568 t569 t572 t573 t576 t577) else (law_CurveRises.j6 kj108 l0 (decide (t576 > 32768)) t568 t569 t572 t573 t576 t577)))))) else (law_CurveRises.j6 kj108 l0 true t568 t569 t572 t573 t576 t577)) = some r := H
                   have A125 := Aside0.mk A1250
                   clear A1250
                   by_cases c126 : t587 = true
                   ·
                    subst c126
                    have H1 : (if t569 > 32768 then (law_CurveRises.j6 kj108 l0 true t568 t569 t572 t573 t576 t577) else (if t573 > 32768 then (law_CurveRises.j6 kj108 l0 true t568 t569 t572 t573 t576 t577) else (if t577 > 32768 then (law_CurveRises.j6 kj108 l0 true t568 t569 t572 t573 t576 t577) else (if t568 > 1073741824 then (law_CurveRises.j6 kj108 l0 true t568 t569 t572 t573 t576 t577) else (if t572 > 1073741824 then (law_CurveRises.j6 kj108 l0 true t568 t569 t572 t573 t576 t577) else (law_CurveRises.j6 kj108 l0 (decide (t576 > 32768)) t568 t569 t572 t573 t576 t577)))))) = some r := by rw [if_pos rfl] at H; exact H
                    clear H
                    have H := H1
                    clear H1
                    by_cases c127 : t569 > 32768
                    ·
                     rw [if_pos c127] at H
                     have c127b0 : decide (32768 < t569) = true := decide_eq_true c127
                     clear c127
                     (first | rw [c127b0] | (simp only [i64_w, i32_w]; rw [c127b0]) | skip)
                     have H' := Aside0.mk H
                     clear H
                     go_wp2_with (first | ((with_reducible refine gate_callee (f := 54) rfl ?_); refine goesL_ (some 164) rfl rfl Tryd.func54 (by kernel_rfl) rfl #[.slice A0 l0.length c0] rfl (by (try simp only [List.map_toArray, List.map_cons, List.map_nil]); first | done | rfl | (simp only [List.length_drop, List.length_take]; rfl)) ?_; (with_reducible refine (law_small.calls kj108 _ _ l0 true _ ?side1 ?side2 A125.out).mono ?_); (case side1 => repeat (first | exact (Kd.C_below HR0.out HB.out) | (with_reducible refine Kd.C_alloc ?_ _) | (with_reducible refine Kd.C_drewN ?_ _) | (with_reducible refine Kd.C_drew ?_))); (case side2 => exact HC0.out); rintro e w' ⟨rfl, ⟨nd, rfl⟩⟩; refine ⟨_, rfl, ?_⟩; have hnb128 := NB571_575.out; have hnc128 := NB575_571.out; have hnb129 := NB571_579.out; have hnc129 := NB579_571.out; have hcz130_0 : wc.cell? ⟨gb571, 0, none⟩ = some (.int .i64 t568) := (blk_cell BK571.out 0).trans rfl; have hcz130_1 : wc.cell? ⟨gb571, 1, none⟩ = some (.int .i64 t569) := (blk_cell BK571.out 1).trans rfl; have hfz130_0 := blk_frozen BK571.out 0; have hfz130_1 := blk_frozen BK571.out 1))
                     go_meet
                     case rel => exact ⟨_, (true), (by first | rfl | (simp; done) | (simp [*]; done)), H', ⟨by have := HK1.out; have := HJ23.out; have := HJ33.out; have := HJ77.out; have := HJ108.out; first | omega | exact Nat.le_refl _⟩, ⟨by (with_reducible repeat (first | refine blk_drewN ?_ _ | refine blk_drew ?_ | refine blk_alloc ?_ _)); exact BK571.out⟩, ⟨by (with_reducible repeat (first | refine blk_drewN ?_ _ | refine blk_drew ?_ | refine blk_alloc ?_ _)); exact BK575.out⟩, ⟨by (with_reducible repeat (first | refine blk_drewN ?_ _ | refine blk_drew ?_ | refine blk_alloc ?_ _)); exact BK579.out⟩, ⟨by repeat (first | (with_reducible first | exact HB.out | apply below_alloc | apply pw_below_drewN | apply below_drew1 | refine below_set ?_ GE571.out | refine below_set ?_ GE575.out | refine below_set ?_ GE579.out) | exact HB.out)⟩⟩
                    ·
                     rw [if_neg c127] at H
                     have c127b0 : decide (32768 < t569) = false := decide_eq_false c127
                     clear c127
                     (first | rw [c127b0] | (simp only [i64_w, i32_w]; rw [c127b0]) | skip)
                     by_cases c131 : t573 > 32768
                     ·
                      rw [if_pos c131] at H
                      have c131b0 : decide (32768 < t573) = true := decide_eq_true c131
                      clear c131
                      have H' := Aside0.mk H
                      clear H
                      go_wp2_with (first | ((with_reducible refine gate_callee (f := 54) rfl ?_); refine goesL_ (some 164) rfl rfl Tryd.func54 (by kernel_rfl) rfl #[.slice A0 l0.length c0] rfl (by (try simp only [List.map_toArray, List.map_cons, List.map_nil]); first | done | rfl | (simp only [List.length_drop, List.length_take]; rfl)) ?_; (with_reducible refine (law_small.calls kj108 _ _ l0 true _ ?side1 ?side2 A125.out).mono ?_); (case side1 => repeat (first | exact (Kd.C_below HR0.out HB.out) | (with_reducible refine Kd.C_alloc ?_ _) | (with_reducible refine Kd.C_drewN ?_ _) | (with_reducible refine Kd.C_drew ?_))); (case side2 => exact HC0.out); rintro e w' ⟨rfl, ⟨nd, rfl⟩⟩; refine ⟨_, rfl, ?_⟩; have hnb132 := NB571_575.out; have hnc132 := NB575_571.out; have hnb133 := NB571_579.out; have hnc133 := NB579_571.out; have hcz134_0 : wc.cell? ⟨gb571, 0, none⟩ = some (.int .i64 t568) := (blk_cell BK571.out 0).trans rfl; have hcz134_1 : wc.cell? ⟨gb571, 1, none⟩ = some (.int .i64 t569) := (blk_cell BK571.out 1).trans rfl; have hfz134_0 := blk_frozen BK571.out 0; have hfz134_1 := blk_frozen BK571.out 1; have hnb135 := NB575_579.out; have hnc135 := NB579_575.out; have hcz136_0 : wc.cell? ⟨gb575, 0, none⟩ = some (.int .i64 t572) := (blk_cell BK575.out 0).trans rfl; have hcz136_1 : wc.cell? ⟨gb575, 1, none⟩ = some (.int .i64 t573) := (blk_cell BK575.out 1).trans rfl; have hfz136_0 := blk_frozen BK575.out 0; have hfz136_1 := blk_frozen BK575.out 1))
                      go_meet
                      case rel => exact ⟨_, (true), (by first | rfl | (simp; done) | (simp [*]; done)), H', ⟨by have := HK1.out; have := HJ23.out; have := HJ33.out; have := HJ77.out; have := HJ108.out; first | omega | exact Nat.le_refl _⟩, ⟨by (with_reducible repeat (first | refine blk_drewN ?_ _ | refine blk_drew ?_ | refine blk_alloc ?_ _)); exact BK571.out⟩, ⟨by (with_reducible repeat (first | refine blk_drewN ?_ _ | refine blk_drew ?_ | refine blk_alloc ?_ _)); exact BK575.out⟩, ⟨by (with_reducible repeat (first | refine blk_drewN ?_ _ | refine blk_drew ?_ | refine blk_alloc ?_ _)); exact BK579.out⟩, ⟨by repeat (first | (with_reducible first | exact HB.out | apply below_alloc | apply pw_below_drewN | apply below_drew1 | refine below_set ?_ GE571.out | refine below_set ?_ GE575.out | refine below_set ?_ GE579.out) | exact HB.out)⟩⟩
                     ·
                      rw [if_neg c131] at H
                      have c131b0 : decide (32768 < t573) = false := decide_eq_false c131
                      clear c131
                      by_cases c137 : t577 > 32768
                      ·
                       rw [if_pos c137] at H
                       have c137b0 : decide (32768 < t577) = true := decide_eq_true c137
                       clear c137
                       have H' := Aside0.mk H
                       clear H
                       go_wp2_with (first | ((with_reducible refine gate_callee (f := 54) rfl ?_); refine goesL_ (some 164) rfl rfl Tryd.func54 (by kernel_rfl) rfl #[.slice A0 l0.length c0] rfl (by (try simp only [List.map_toArray, List.map_cons, List.map_nil]); first | done | rfl | (simp only [List.length_drop, List.length_take]; rfl)) ?_; (with_reducible refine (law_small.calls kj108 _ _ l0 true _ ?side1 ?side2 A125.out).mono ?_); (case side1 => repeat (first | exact (Kd.C_below HR0.out HB.out) | (with_reducible refine Kd.C_alloc ?_ _) | (with_reducible refine Kd.C_drewN ?_ _) | (with_reducible refine Kd.C_drew ?_))); (case side2 => exact HC0.out); rintro e w' ⟨rfl, ⟨nd, rfl⟩⟩; refine ⟨_, rfl, ?_⟩; have hnb138 := NB571_575.out; have hnc138 := NB575_571.out; have hnb139 := NB571_579.out; have hnc139 := NB579_571.out; have hcz140_0 : wc.cell? ⟨gb571, 0, none⟩ = some (.int .i64 t568) := (blk_cell BK571.out 0).trans rfl; have hcz140_1 : wc.cell? ⟨gb571, 1, none⟩ = some (.int .i64 t569) := (blk_cell BK571.out 1).trans rfl; have hfz140_0 := blk_frozen BK571.out 0; have hfz140_1 := blk_frozen BK571.out 1; have hnb141 := NB575_579.out; have hnc141 := NB579_575.out; have hcz142_0 : wc.cell? ⟨gb575, 0, none⟩ = some (.int .i64 t572) := (blk_cell BK575.out 0).trans rfl; have hcz142_1 : wc.cell? ⟨gb575, 1, none⟩ = some (.int .i64 t573) := (blk_cell BK575.out 1).trans rfl; have hfz142_0 := blk_frozen BK575.out 0; have hfz142_1 := blk_frozen BK575.out 1; have hcz143_0 : wc.cell? ⟨gb579, 0, none⟩ = some (.int .i64 t576) := (blk_cell BK579.out 0).trans rfl; have hcz143_1 : wc.cell? ⟨gb579, 1, none⟩ = some (.int .i64 t577) := (blk_cell BK579.out 1).trans rfl; have hfz143_0 := blk_frozen BK579.out 0; have hfz143_1 := blk_frozen BK579.out 1))
                       go_meet
                       case rel => exact ⟨_, (true), (by first | rfl | (simp; done) | (simp [*]; done)), H', ⟨by have := HK1.out; have := HJ23.out; have := HJ33.out; have := HJ77.out; have := HJ108.out; first | omega | exact Nat.le_refl _⟩, ⟨by (with_reducible repeat (first | refine blk_drewN ?_ _ | refine blk_drew ?_ | refine blk_alloc ?_ _)); exact BK571.out⟩, ⟨by (with_reducible repeat (first | refine blk_drewN ?_ _ | refine blk_drew ?_ | refine blk_alloc ?_ _)); exact BK575.out⟩, ⟨by (with_reducible repeat (first | refine blk_drewN ?_ _ | refine blk_drew ?_ | refine blk_alloc ?_ _)); exact BK579.out⟩, ⟨by repeat (first | (with_reducible first | exact HB.out | apply below_alloc | apply pw_below_drewN | apply below_drew1 | refine below_set ?_ GE571.out | refine below_set ?_ GE575.out | refine below_set ?_ GE579.out) | exact HB.out)⟩⟩
                      ·
                       rw [if_neg c137] at H
                       have c137b0 : decide (32768 < t577) = false := decide_eq_false c137
                       clear c137
                       by_cases c144 : t568 > 1073741824
                       ·
                        rw [if_pos c144] at H
                        have c144b0 : decide (1073741824 < t568) = true := decide_eq_true c144
                        clear c144
                        have H' := Aside0.mk H
                        clear H
                        go_wp2_with (first | ((with_reducible refine gate_callee (f := 54) rfl ?_); refine goesL_ (some 164) rfl rfl Tryd.func54 (by kernel_rfl) rfl #[.slice A0 l0.length c0] rfl (by (try simp only [List.map_toArray, List.map_cons, List.map_nil]); first | done | rfl | (simp only [List.length_drop, List.length_take]; rfl)) ?_; (with_reducible refine (law_small.calls kj108 _ _ l0 true _ ?side1 ?side2 A125.out).mono ?_); (case side1 => repeat (first | exact (Kd.C_below HR0.out HB.out) | (with_reducible refine Kd.C_alloc ?_ _) | (with_reducible refine Kd.C_drewN ?_ _) | (with_reducible refine Kd.C_drew ?_))); (case side2 => exact HC0.out); rintro e w' ⟨rfl, ⟨nd, rfl⟩⟩; refine ⟨_, rfl, ?_⟩; have hnb145 := NB571_575.out; have hnc145 := NB575_571.out; have hnb146 := NB571_579.out; have hnc146 := NB579_571.out; have hcz147_0 : wc.cell? ⟨gb571, 0, none⟩ = some (.int .i64 t568) := (blk_cell BK571.out 0).trans rfl; have hcz147_1 : wc.cell? ⟨gb571, 1, none⟩ = some (.int .i64 t569) := (blk_cell BK571.out 1).trans rfl; have hfz147_0 := blk_frozen BK571.out 0; have hfz147_1 := blk_frozen BK571.out 1; have hnb148 := NB575_579.out; have hnc148 := NB579_575.out; have hcz149_0 : wc.cell? ⟨gb575, 0, none⟩ = some (.int .i64 t572) := (blk_cell BK575.out 0).trans rfl; have hcz149_1 : wc.cell? ⟨gb575, 1, none⟩ = some (.int .i64 t573) := (blk_cell BK575.out 1).trans rfl; have hfz149_0 := blk_frozen BK575.out 0; have hfz149_1 := blk_frozen BK575.out 1; have hcz150_0 : wc.cell? ⟨gb579, 0, none⟩ = some (.int .i64 t576) := (blk_cell BK579.out 0).trans rfl; have hcz150_1 : wc.cell? ⟨gb579, 1, none⟩ = some (.int .i64 t577) := (blk_cell BK579.out 1).trans rfl; have hfz150_0 := blk_frozen BK579.out 0; have hfz150_1 := blk_frozen BK579.out 1))
                        go_meet
                        case rel => exact ⟨_, (true), (by first | rfl | (simp; done) | (simp [*]; done)), H', ⟨by have := HK1.out; have := HJ23.out; have := HJ33.out; have := HJ77.out; have := HJ108.out; first | omega | exact Nat.le_refl _⟩, ⟨by (with_reducible repeat (first | refine blk_drewN ?_ _ | refine blk_drew ?_ | refine blk_alloc ?_ _)); exact BK571.out⟩, ⟨by (with_reducible repeat (first | refine blk_drewN ?_ _ | refine blk_drew ?_ | refine blk_alloc ?_ _)); exact BK575.out⟩, ⟨by (with_reducible repeat (first | refine blk_drewN ?_ _ | refine blk_drew ?_ | refine blk_alloc ?_ _)); exact BK579.out⟩, ⟨by repeat (first | (with_reducible first | exact HB.out | apply below_alloc | apply pw_below_drewN | apply below_drew1 | refine below_set ?_ GE571.out | refine below_set ?_ GE575.out | refine below_set ?_ GE579.out) | exact HB.out)⟩⟩
                       ·
                        rw [if_neg c144] at H
                        have c144b0 : decide (1073741824 < t568) = false := decide_eq_false c144
                        clear c144
                        by_cases c151 : t572 > 1073741824
                        ·
                         rw [if_pos c151] at H
                         have c151b0 : decide (1073741824 < t572) = true := decide_eq_true c151
                         clear c151
                         have H' := Aside0.mk H
                         clear H
                         go_wp2_with (first | ((with_reducible refine gate_callee (f := 54) rfl ?_); refine goesL_ (some 164) rfl rfl Tryd.func54 (by kernel_rfl) rfl #[.slice A0 l0.length c0] rfl (by (try simp only [List.map_toArray, List.map_cons, List.map_nil]); first | done | rfl | (simp only [List.length_drop, List.length_take]; rfl)) ?_; (with_reducible refine (law_small.calls kj108 _ _ l0 true _ ?side1 ?side2 A125.out).mono ?_); (case side1 => repeat (first | exact (Kd.C_below HR0.out HB.out) | (with_reducible refine Kd.C_alloc ?_ _) | (with_reducible refine Kd.C_drewN ?_ _) | (with_reducible refine Kd.C_drew ?_))); (case side2 => exact HC0.out); rintro e w' ⟨rfl, ⟨nd, rfl⟩⟩; refine ⟨_, rfl, ?_⟩; have hnb152 := NB571_575.out; have hnc152 := NB575_571.out; have hnb153 := NB571_579.out; have hnc153 := NB579_571.out; have hcz154_0 : wc.cell? ⟨gb571, 0, none⟩ = some (.int .i64 t568) := (blk_cell BK571.out 0).trans rfl; have hcz154_1 : wc.cell? ⟨gb571, 1, none⟩ = some (.int .i64 t569) := (blk_cell BK571.out 1).trans rfl; have hfz154_0 := blk_frozen BK571.out 0; have hfz154_1 := blk_frozen BK571.out 1; have hnb155 := NB575_579.out; have hnc155 := NB579_575.out; have hcz156_0 : wc.cell? ⟨gb575, 0, none⟩ = some (.int .i64 t572) := (blk_cell BK575.out 0).trans rfl; have hcz156_1 : wc.cell? ⟨gb575, 1, none⟩ = some (.int .i64 t573) := (blk_cell BK575.out 1).trans rfl; have hfz156_0 := blk_frozen BK575.out 0; have hfz156_1 := blk_frozen BK575.out 1; have hcz157_0 : wc.cell? ⟨gb579, 0, none⟩ = some (.int .i64 t576) := (blk_cell BK579.out 0).trans rfl; have hcz157_1 : wc.cell? ⟨gb579, 1, none⟩ = some (.int .i64 t577) := (blk_cell BK579.out 1).trans rfl; have hfz157_0 := blk_frozen BK579.out 0; have hfz157_1 := blk_frozen BK579.out 1))
                         go_meet
                         case rel => exact ⟨_, (true), (by first | rfl | (simp; done) | (simp [*]; done)), H', ⟨by have := HK1.out; have := HJ23.out; have := HJ33.out; have := HJ77.out; have := HJ108.out; first | omega | exact Nat.le_refl _⟩, ⟨by (with_reducible repeat (first | refine blk_drewN ?_ _ | refine blk_drew ?_ | refine blk_alloc ?_ _)); exact BK571.out⟩, ⟨by (with_reducible repeat (first | refine blk_drewN ?_ _ | refine blk_drew ?_ | refine blk_alloc ?_ _)); exact BK575.out⟩, ⟨by (with_reducible repeat (first | refine blk_drewN ?_ _ | refine blk_drew ?_ | refine blk_alloc ?_ _)); exact BK579.out⟩, ⟨by repeat (first | (with_reducible first | exact HB.out | apply below_alloc | apply pw_below_drewN | apply below_drew1 | refine below_set ?_ GE571.out | refine below_set ?_ GE575.out | refine below_set ?_ GE579.out) | exact HB.out)⟩⟩
                        ·
                         rw [if_neg c151] at H
                         have c151b0 : decide (1073741824 < t572) = false := decide_eq_false c151
                         clear c151
                         have H' := Aside0.mk H
                         clear H
                         go_wp2_with (first | ((with_reducible refine gate_callee (f := 54) rfl ?_); refine goesL_ (some 164) rfl rfl Tryd.func54 (by kernel_rfl) rfl #[.slice A0 l0.length c0] rfl (by (try simp only [List.map_toArray, List.map_cons, List.map_nil]); first | done | rfl | (simp only [List.length_drop, List.length_take]; rfl)) ?_; (with_reducible refine (law_small.calls kj108 _ _ l0 true _ ?side1 ?side2 A125.out).mono ?_); (case side1 => repeat (first | exact (Kd.C_below HR0.out HB.out) | (with_reducible refine Kd.C_alloc ?_ _) | (with_reducible refine Kd.C_drewN ?_ _) | (with_reducible refine Kd.C_drew ?_))); (case side2 => exact HC0.out); rintro e w' ⟨rfl, ⟨nd, rfl⟩⟩; refine ⟨_, rfl, ?_⟩; have hnb158 := NB571_575.out; have hnc158 := NB575_571.out; have hnb159 := NB571_579.out; have hnc159 := NB579_571.out; have hcz160_0 : wc.cell? ⟨gb571, 0, none⟩ = some (.int .i64 t568) := (blk_cell BK571.out 0).trans rfl; have hcz160_1 : wc.cell? ⟨gb571, 1, none⟩ = some (.int .i64 t569) := (blk_cell BK571.out 1).trans rfl; have hfz160_0 := blk_frozen BK571.out 0; have hfz160_1 := blk_frozen BK571.out 1; have hnb161 := NB575_579.out; have hnc161 := NB579_575.out; have hcz162_0 : wc.cell? ⟨gb575, 0, none⟩ = some (.int .i64 t572) := (blk_cell BK575.out 0).trans rfl; have hcz162_1 : wc.cell? ⟨gb575, 1, none⟩ = some (.int .i64 t573) := (blk_cell BK575.out 1).trans rfl; have hfz162_0 := blk_frozen BK575.out 0; have hfz162_1 := blk_frozen BK575.out 1; have hcz163_0 : wc.cell? ⟨gb579, 0, none⟩ = some (.int .i64 t576) := (blk_cell BK579.out 0).trans rfl; have hcz163_1 : wc.cell? ⟨gb579, 1, none⟩ = some (.int .i64 t577) := (blk_cell BK579.out 1).trans rfl; have hfz163_0 := blk_frozen BK579.out 0; have hfz163_1 := blk_frozen BK579.out 1))
                         go_meet
                         case rel => exact ⟨_, (decide (t576 > 32768)), (by first | rfl | (simp; done) | (simp [*]; done)), H', ⟨by have := HK1.out; have := HJ23.out; have := HJ33.out; have := HJ77.out; have := HJ108.out; first | omega | exact Nat.le_refl _⟩, ⟨by (with_reducible repeat (first | refine blk_drewN ?_ _ | refine blk_drew ?_ | refine blk_alloc ?_ _)); exact BK571.out⟩, ⟨by (with_reducible repeat (first | refine blk_drewN ?_ _ | refine blk_drew ?_ | refine blk_alloc ?_ _)); exact BK575.out⟩, ⟨by (with_reducible repeat (first | refine blk_drewN ?_ _ | refine blk_drew ?_ | refine blk_alloc ?_ _)); exact BK579.out⟩, ⟨by repeat (first | (with_reducible first | exact HB.out | apply below_alloc | apply pw_below_drewN | apply below_drew1 | refine below_set ?_ GE571.out | refine below_set ?_ GE575.out | refine below_set ?_ GE579.out) | exact HB.out)⟩⟩
                   ·
                    replace c126 := Bool.eq_false_iff.mpr c126
                    subst c126
                    have H1 : (law_CurveRises.j6 kj108 l0 true t568 t569 t572 t573 t576 t577) = some r := by rw [if_neg (show ¬ (false = true) by decide)] at H; exact H
                    clear H
                    have H := H1
                    clear H1
                    have H' := Aside0.mk H
                    clear H
                    go_wp2_with (first | ((with_reducible refine gate_callee (f := 54) rfl ?_); refine goesL_ (some 164) rfl rfl Tryd.func54 (by kernel_rfl) rfl #[.slice A0 l0.length c0] rfl (by (try simp only [List.map_toArray, List.map_cons, List.map_nil]); first | done | rfl | (simp only [List.length_drop, List.length_take]; rfl)) ?_; (with_reducible refine (law_small.calls kj108 _ _ l0 false _ ?side1 ?side2 A125.out).mono ?_); (case side1 => repeat (first | exact (Kd.C_below HR0.out HB.out) | (with_reducible refine Kd.C_alloc ?_ _) | (with_reducible refine Kd.C_drewN ?_ _) | (with_reducible refine Kd.C_drew ?_))); (case side2 => exact HC0.out); rintro e w' ⟨rfl, ⟨nd, rfl⟩⟩; refine ⟨_, rfl, ?_⟩))
                    go_meet
                    case rel => exact ⟨_, (true), (by first | rfl | (simp; done) | (simp [*]; done)), H', ⟨by have := HK1.out; have := HJ23.out; have := HJ33.out; have := HJ77.out; have := HJ108.out; first | omega | exact Nat.le_refl _⟩, ⟨by (with_reducible repeat (first | refine blk_drewN ?_ _ | refine blk_drew ?_ | refine blk_alloc ?_ _)); exact BK571.out⟩, ⟨by (with_reducible repeat (first | refine blk_drewN ?_ _ | refine blk_drew ?_ | refine blk_alloc ?_ _)); exact BK575.out⟩, ⟨by (with_reducible repeat (first | refine blk_drewN ?_ _ | refine blk_drew ?_ | refine blk_alloc ?_ _)); exact BK579.out⟩, ⟨by repeat (first | (with_reducible first | exact HB.out | apply below_alloc | apply pw_below_drewN | apply below_drew1 | refine below_set ?_ GE571.out | refine below_set ?_ GE575.out | refine below_set ?_ GE579.out) | exact HB.out)⟩⟩
                  case rest => as_aux_lemma =>
                   clear HC124
                   try clear c1
                   try clear c2
                   try clear p2
                   try clear c4
                   try clear c5
                   try clear p5
                   try clear q5
                   try clear hx5
                   try clear c6
                   try clear p6
                   try clear c7
                   try clear c8
                   try clear c8b0
                   try clear c9
                   try clear c9b0
                   try clear c10
                   try clear c10b0
                   try clear c11
                   try clear c12
                   try clear c13
                   try clear c14
                   try clear c15
                   try clear c16
                   try clear c17
                   try clear c18
                   try clear c19
                   try clear c19b0
                   try clear c19b1
                   try clear c20
                   try clear c22
                   try clear c23
                   try clear c24
                   try clear c26
                   try clear c28
                   try clear c40
                   try clear c42
                   try clear c43
                   try clear c44
                   try clear c45
                   try clear c49
                   try clear c49b0
                   try clear c49b1
                   try clear c50
                   try clear c50b0
                   try clear c50b1
                   try clear c51
                   try clear c51b0
                   try clear c51b1
                   try clear c52
                   try clear c52b0
                   try clear c52b1
                   try clear c53
                   try clear c53b0
                   try clear c53b1
                   try clear c54
                   try clear c54b0
                   try clear c55
                   try clear c56
                   try clear p56
                   try clear q56
                   try clear hx56
                   try clear c58
                   try clear c58b0
                   try clear c59
                   try clear c60
                   try clear c62
                   try clear c64
                   try clear c64b0
                   try clear p64
                   try clear c65
                   try clear c66
                   try clear c68
                   try clear c71
                   try clear c72
                   try clear c74
                   try clear c77
                   try clear c80
                   try clear c80b0
                   try clear c81
                   try clear c82
                   try clear c84
                   try clear c87
                   try clear c87b0
                   try clear c88
                   try clear c89
                   try clear c91
                   try clear c94
                   try clear c94b0
                   try clear c95
                   try clear c96
                   try clear c98
                   try clear c101
                   try clear c102
                   try clear c104
                   try clear c108
                   try clear c111
                   try clear c111b0
                   try clear c112
                   try clear c113
                   try clear c117
                   try clear c118
                   try clear c123
                   try clear c126
                   try clear c127
                   try clear c127b0
                   try clear c128
                   try clear c129
                   try clear c131
                   try clear c131b0
                   try clear c132
                   try clear c133
                   try clear c135
                   try clear c137
                   try clear c137b0
                   try clear c138
                   try clear c139
                   try clear c141
                   try clear c144
                   try clear c144b0
                   try clear c145
                   try clear c146
                   try clear c148
                   try clear c151
                   try clear c151b0
                   try clear c152
                   try clear c153
                   try clear c155
                   try clear c158
                   try clear c159
                   try clear c161
                   try clear hcz103_0
                   try clear hcz103_1
                   try clear hcz105_0
                   try clear hcz105_1
                   try clear hcz107_0
                   try clear hcz107_1
                   try clear hcz114_0
                   try clear hcz114_1
                   try clear hcz119_0
                   try clear hcz119_1
                   try clear hcz121_0
                   try clear hcz121_1
                   try clear hcz130_0
                   try clear hcz130_1
                   try clear hcz134_0
                   try clear hcz134_1
                   try clear hcz136_0
                   try clear hcz136_1
                   try clear hcz140_0
                   try clear hcz140_1
                   try clear hcz142_0
                   try clear hcz142_1
                   try clear hcz143_0
                   try clear hcz143_1
                   try clear hcz147_0
                   try clear hcz147_1
                   try clear hcz149_0
                   try clear hcz149_1
                   try clear hcz14_0
                   try clear hcz14_1
                   try clear hcz150_0
                   try clear hcz150_1
                   try clear hcz154_0
                   try clear hcz154_1
                   try clear hcz156_0
                   try clear hcz156_1
                   try clear hcz157_0
                   try clear hcz157_1
                   try clear hcz160_0
                   try clear hcz160_1
                   try clear hcz162_0
                   try clear hcz162_1
                   try clear hcz163_0
                   try clear hcz163_1
                   try clear hcz18_0
                   try clear hcz18_1
                   try clear hcz21_0
                   try clear hcz21_1
                   try clear hcz22_0
                   try clear hcz22_1
                   try clear hcz37_0
                   try clear hcz37_1
                   try clear hcz41_0
                   try clear hcz41_1
                   try clear hcz46_0
                   try clear hcz46_1
                   try clear hcz57_0
                   try clear hcz57_1
                   try clear hcz61_0
                   try clear hcz61_1
                   try clear hcz63_0
                   try clear hcz63_1
                   try clear hcz67_0
                   try clear hcz67_1
                   try clear hcz69_0
                   try clear hcz69_1
                   try clear hcz70_0
                   try clear hcz70_1
                   try clear hcz73_0
                   try clear hcz73_1
                   try clear hcz75_0
                   try clear hcz75_1
                   try clear hcz76_0
                   try clear hcz76_1
                   try clear hcz83_0
                   try clear hcz83_1
                   try clear hcz85_0
                   try clear hcz85_1
                   try clear hcz90_0
                   try clear hcz90_1
                   try clear hcz92_0
                   try clear hcz92_1
                   try clear hcz97_0
                   try clear hcz97_1
                   try clear hcz99_0
                   try clear hcz99_1
                   try clear hfz103_0
                   try clear hfz103_1
                   try clear hfz105_0
                   try clear hfz105_1
                   try clear hfz107_0
                   try clear hfz107_1
                   try clear hfz114_0
                   try clear hfz114_1
                   try clear hfz119_0
                   try clear hfz119_1
                   try clear hfz121_0
                   try clear hfz121_1
                   try clear hfz130_0
                   try clear hfz130_1
                   try clear hfz134_0
                   try clear hfz134_1
                   try clear hfz136_0
                   try clear hfz136_1
                   try clear hfz140_0
                   try clear hfz140_1
                   try clear hfz142_0
                   try clear hfz142_1
                   try clear hfz143_0
                   try clear hfz143_1
                   try clear hfz147_0
                   try clear hfz147_1
                   try clear hfz149_0
                   try clear hfz149_1
                   try clear hfz14_0
                   try clear hfz14_1
                   try clear hfz150_0
                   try clear hfz150_1
                   try clear hfz154_0
                   try clear hfz154_1
                   try clear hfz156_0
                   try clear hfz156_1
                   try clear hfz157_0
                   try clear hfz157_1
                   try clear hfz160_0
                   try clear hfz160_1
                   try clear hfz162_0
                   try clear hfz162_1
                   try clear hfz163_0
                   try clear hfz163_1
                   try clear hfz18_0
                   try clear hfz18_1
                   try clear hfz21_0
                   try clear hfz21_1
                   try clear hfz22_0
                   try clear hfz22_1
                   try clear hfz37_0
                   try clear hfz37_1
                   try clear hfz41_0
                   try clear hfz41_1
                   try clear hfz46_0
                   try clear hfz46_1
                   try clear hfz57_0
                   try clear hfz57_1
                   try clear hfz61_0
                   try clear hfz61_1
                   try clear hfz63_0
                   try clear hfz63_1
                   try clear hfz67_0
                   try clear hfz67_1
                   try clear hfz69_0
                   try clear hfz69_1
                   try clear hfz70_0
                   try clear hfz70_1
                   try clear hfz73_0
                   try clear hfz73_1
                   try clear hfz75_0
                   try clear hfz75_1
                   try clear hfz76_0
                   try clear hfz76_1
                   try clear hfz83_0
                   try clear hfz83_1
                   try clear hfz85_0
                   try clear hfz85_1
                   try clear hfz90_0
                   try clear hfz90_1
                   try clear hfz92_0
                   try clear hfz92_1
                   try clear hfz97_0
                   try clear hfz97_1
                   try clear hfz99_0
                   try clear hfz99_1
                   try clear hx560_0
                   try clear hx560_1
                   try clear p2
                   try clear p5
                   try clear p56
                   try clear p560
                   try clear p6
                   try clear p64
                   try clear q5
                   try clear q56
                   try clear q560
                   obtain ⟨kq, x195_123, rfl, HA, HJ123, BK571, BK575, BK579, HB⟩ := hcut
                   cases kq with
                   | zero => exact absurd HA.out (by simp [law_CurveRises.j6])
                   | succ kj123 =>
                    have H := HA.out
                    clear HA
                    simp only [law_CurveRises.j6] at H
                    by_cases c164 : x195_123 = true
                    ·
                     subst c164
                     have H1 : ((law_small.f kj123 l0).bind fun t588 => (some (!t588))) = some r := by rw [if_pos rfl] at H; exact H
                     clear H
                     have H := H1
                     clear H1
                     replace H := Option.bind_eq_some_iff.mp H
                     obtain ⟨t588, A1650, H⟩ := H
                     replace H : (some (!t588)) = some r := H
                     have A165 := Aside0.mk A1650
                     clear A1650
                     obtain rfl := Option.some.inj H
                     go_wp2_with (first | ((with_reducible refine gate_callee (f := 54) rfl ?_); refine goesL_ (some 197) rfl rfl Tryd.func54 (by kernel_rfl) rfl #[.slice A0 l0.length c0] rfl (by (try simp only [List.map_toArray, List.map_cons, List.map_nil]); first | done | rfl | (simp only [List.length_drop, List.length_take]; rfl)) ?_; (with_reducible refine (law_small.calls kj123 _ _ l0 t588 _ ?side1 ?side2 A165.out).mono ?_); (case side1 => repeat (first | exact (Kd.C_below HR0.out HB.out) | (with_reducible refine Kd.C_alloc ?_ _) | (with_reducible refine Kd.C_drewN ?_ _) | (with_reducible refine Kd.C_drew ?_))); (case side2 => exact HC0.out); rintro e w' ⟨rfl, ⟨nd, rfl⟩⟩; refine ⟨_, rfl, ?_⟩))
                     go_ret
                     exact ⟨by first | rfl | (simp [errW_none, errW_some] <;> rfl) | (simp [*, errW_none, errW_some] <;> rfl), by repeat (first | (with_reducible first | exact HB.out | apply below_alloc | apply pw_below_drewN | apply below_drew1 | refine below_set ?_ GE571.out | refine below_set ?_ GE575.out | refine below_set ?_ GE579.out) | exact HB.out)⟩
                    ·
                     replace c164 := Bool.eq_false_iff.mpr c164
                     subst c164
                     have H1 : (some ((wrap64 ((wrap64 ((wrap64 (t572 * t569)) - (wrap64 (t568 * t573)))) * t577)) == (wrap64 ((wrap64 (t576 * t569)) * t573)))) = some r := by rw [if_neg (show ¬ (false = true) by decide)] at H; exact H
                     clear H
                     have H := H1
                     clear H1
                     obtain rfl := Option.some.inj H
                     have hnb166 := NB575_571.out
                     have hnc166 := NB571_575.out
                     have hnb167 := NB575_579.out
                     have hnc167 := NB579_575.out
                     have hcz168_0 : wc.cell? ⟨gb575, 0, none⟩ = some (.int .i64 t572) := (blk_cell BK575.out 0).trans rfl
                     have hcz168_1 : wc.cell? ⟨gb575, 1, none⟩ = some (.int .i64 t573) := (blk_cell BK575.out 1).trans rfl
                     have hfz168_0 := blk_frozen BK575.out 0
                     have hfz168_1 := blk_frozen BK575.out 1
                     have hnb169 := NB571_579.out
                     have hnc169 := NB579_571.out
                     have hcz170_0 : wc.cell? ⟨gb571, 0, none⟩ = some (.int .i64 t568) := (blk_cell BK571.out 0).trans rfl
                     have hcz170_1 : wc.cell? ⟨gb571, 1, none⟩ = some (.int .i64 t569) := (blk_cell BK571.out 1).trans rfl
                     have hfz170_0 := blk_frozen BK571.out 0
                     have hfz170_1 := blk_frozen BK571.out 1
                     have hcz171_0 : wc.cell? ⟨gb579, 0, none⟩ = some (.int .i64 t576) := (blk_cell BK579.out 0).trans rfl
                     have hcz171_1 : wc.cell? ⟨gb579, 1, none⟩ = some (.int .i64 t577) := (blk_cell BK579.out 1).trans rfl
                     have hfz171_0 := blk_frozen BK579.out 0
                     have hfz171_1 := blk_frozen BK579.out 1
                     go_wp2
                     go_ret
                     exact ⟨by first | rfl | (simp [errW_none, errW_some] <;> rfl) | (simp [*, errW_none, errW_some] <;> rfl), by repeat (first | (with_reducible first | exact HB.out | apply below_alloc | apply pw_below_drewN | apply below_drew1 | refine below_set ?_ GE571.out | refine below_set ?_ GE575.out | refine below_set ?_ GE579.out) | exact HB.out)⟩
  ·
   replace c6 := Bool.eq_false_iff.mpr c6
   subst c6
   have H1 : (some true) = some r := by rw [if_neg (show ¬ (false = true) by decide)] at H; exact H
   clear H
   have H := H1
   clear H1
   obtain rfl := Option.some.inj H
   go_enter Tryd.func9, Tryd.ntmps9
   go_wp2_with (first | ((with_reducible refine gate_callee (f := 18) rfl ?_); refine goesL_ (some 19) rfl rfl Tryd.func18 (by kernel_rfl) rfl #[] rfl (by (try simp only [List.map_toArray, List.map_cons, List.map_nil]); first | done | rfl | (simp only [List.length_drop, List.length_take]; rfl)) ?_; (with_reducible refine (law_sane.calls  true _ A3.out).mono ?_); rintro e w172 ⟨rfl, hb⟩; refine ⟨_, rfl, ?_⟩; have n0_ := Aside0.mk (below_step (by repeat (first | (with_reducible first | exact HB.out | apply below_alloc | apply pw_below_drewN | apply below_drew1) | exact HB.out)) hb); clear HB; have HB := n0_; clear n0_; (try clear hb); (try clear hb2); (try clear hk); (try clear hi)) | ((with_reducible refine gate_callee (f := 42) rfl ?_); refine goesL_ (some 22) rfl rfl Tryd.func42 (by kernel_rfl) rfl #[.slice A0 l0.length c0] rfl (by (try simp only [List.map_toArray, List.map_cons, List.map_nil]); first | done | rfl | (simp only [List.length_drop, List.length_take]; rfl)) ?_; (with_reducible refine (ref_Valid.calls k _ _ l0 false _ ?side1 ?side2 A5.out).mono ?_); (case side1 => repeat (first | exact (Kd.C_below HR0.out HB.out) | (with_reducible refine Kd.C_alloc ?_ _) | (with_reducible refine Kd.C_drewN ?_ _) | (with_reducible refine Kd.C_drew ?_))); (case side2 => exact HC0.out); rintro e w' ⟨rfl, ⟨nd, rfl⟩⟩; refine ⟨_, rfl, ?_⟩))
   go_ret
   exact ⟨by first | rfl | (simp [errW_none, errW_some] <;> rfl) | (simp [*, errW_none, errW_some] <;> rfl), by repeat (first | (with_reducible first | exact HB.out | apply below_alloc | apply pw_below_drewN | apply below_drew1) | exact HB.out)⟩
 ·
  replace c4 := Bool.eq_false_iff.mpr c4
  subst c4
  have H1 : (some false) = some r := by rw [if_neg (show ¬ (false = true) by decide)] at H; exact H
  clear H
  have H := H1
  clear H1
  obtain rfl := Option.some.inj H
  go_enter Tryd.func9, Tryd.ntmps9
  go_wp2_with (first | ((with_reducible refine gate_callee (f := 18) rfl ?_); refine goesL_ (some 19) rfl rfl Tryd.func18 (by kernel_rfl) rfl #[] rfl (by (try simp only [List.map_toArray, List.map_cons, List.map_nil]); first | done | rfl | (simp only [List.length_drop, List.length_take]; rfl)) ?_; (with_reducible refine (law_sane.calls  false _ A3.out).mono ?_); rintro e w173 ⟨rfl, hb⟩; refine ⟨_, rfl, ?_⟩; have n0_ := Aside0.mk (below_step (by repeat (first | (with_reducible first | exact HB.out | apply below_alloc | apply pw_below_drewN | apply below_drew1) | exact HB.out)) hb); clear HB; have HB := n0_; clear n0_; (try clear hb); (try clear hb2); (try clear hk); (try clear hi)))
  go_ret
  exact ⟨by first | rfl | (simp [errW_none, errW_some] <;> rfl) | (simp [*, errW_none, errW_some] <;> rfl), by repeat (first | (with_reducible first | exact HB.out | apply below_alloc | apply pw_below_drewN | apply below_drew1) | exact HB.out)⟩
end Go.Proofs.YtlhhpogaaneamaaDoor.X
namespace Go.Proofs.YtlhhpogaaneamaaDoor.X
open Go.RowKit
set_option linter.unusedVariables false
theorem rises_l0 {c : List S57} (h : Good c) (x : Int) (r : Bool) (hend : Evn (fun k => (ref_In.f c x).bind fun t566 => (if t566 = true then ((ref_To.f c).bind fun t567 => (law_CurveRises.j2 k c x (x == t567))) else (law_CurveRises.j2 k c x true))) r) :
  ∀ d i : Nat, i + d = c.length → Evn (fun k => law_CurveRises.l0 k c x c (c.length : Int) i) r := by
 have h64 := h.len64
 intro d
 induction d with
 | zero =>
  intro i hi
  refine Evn.step (Evn.ext hend fun k => ?_)
  simp only [law_CurveRises.l0]
  rw [if_neg (by omega)]
 | succ d ih =>
  intro i hi
  have hi' : i < c.length := by omega
  have hin : inB c (px c i) = true := (inB_iff h).2 ⟨(h.rising.le (i := 0) (j := i) (by omega) hi').1, (h.rising.le (i := i) (j := c.length - 1) (by omega) (by omega)).1⟩
  have E := exact_in h hin
  rw [valR_point h hi', Rat.num_intCast, Rat.den_intCast] at E
  refine Evn.step (Evn.ext (Evn.bind E (f := fun k bt562 => (if bt562.2.2 = 0 then (law_CurveRises.j1 k c x c (c.length : Int) i (!(bt562.1 == ((rd_T57 c i).f1)) || (!(bt562.2.1 == 1)))) else (law_CurveRises.j1 k c x c (c.length : Int) i true))) ?_) fun k => ?_)
  ·
   refine Evn.step (Evn.ext (ih (i + 1) (by omega)) fun k => ?_)
   rw [if_pos rfl, rd_nat]
   have e : (!(py c i == (c.getD i z57).f1) || !(((1 : Nat) : Int) == 1)) = false := by
    show (!(py c i == py c i) || !(((1 : Nat) : Int) == 1)) = false
    simp
   rw [e]
   simp only [law_CurveRises.j1]
   rw [if_neg (by simp), w64 (n := (i : Int) + 1) (by omega) (by omega)]
   rfl
  ·
   simp only [law_CurveRises.l0]
   rw [if_pos (by omega), if_pos (by omega), if_pos (by omega), rd_nat]
   rfl
theorem small_ev {c : List S57} (h : Good c) : Evn (fun k => law_small.f k c) (decide (px c (c.length - 1) ≤ 32768) && decide (py c (c.length - 1) ≤ 32768)) := by
 have h2 := h.len2
 have h64 := h.len64
 have v := valid_ev c
 rw [good_iff.2 h] at v
 refine Evn.ext (v.bind (f := fun _ t242 => if t242 = true then some (decide (px c (c.length - 1) ≤ 32768) && decide (py c (c.length - 1) ≤ 32768)) else some false) (Evn.of fun _ => rfl)) fun k => ?_
 unfold law_small.f
 have w0 : wrap64 ((c.length : Int) - 1) = ((c.length - 1 : Nat) : Int) := by rw [w64 (by omega) (by omega)]; omega
 rw [w0, rd_nat, if_pos (by omega), if_pos (by omega)]
 congr 1
 funext t
 cases t with
 | false => rfl
 | true =>
  rw [if_pos rfl, if_pos rfl]
  show ite (px c (c.length - 1) ≤ 32768) (some (decide (py c (c.length - 1) ≤ 32768))) _ = _
  by_cases e : px c (c.length - 1) ≤ 32768
  ·
   rw [if_pos e, decide_eq_true e]; rfl
  ·
   rw [if_neg e, decide_eq_false e]; rfl
theorem frac_step {a b k : Rat} (h : b = a + k) : (b.num * (a.den : Int) - a.num * (b.den : Int)) * (k.den : Int) = k.num * (a.den : Int) * (b.den : Int) := by
 have ea := rat_eta a
 have eb := rat_eta b
 have ek := rat_eta k
 have ha := cast_pos (den_pos a)
 have hb := cast_pos (den_pos b)
 have hk := cast_pos (den_pos k)
 rw [← ea, ← eb, ← ek] at h
 have n1 : (((a.den : Int)) : Rat) ≠ 0 := by grind
 have n2 : (((b.den : Int)) : Rat) ≠ 0 := by grind
 have n3 : (((k.den : Int)) : Rat) ≠ 0 := by grind
 have key : ((b.num : Rat) * ((a.den : Int) : Rat) - (a.num : Rat) * ((b.den : Int) : Rat)) * ((k.den : Int) : Rat) = (k.num : Rat) * ((a.den : Int) : Rat) * ((b.den : Int) : Rat) := by grind
 rw [← Rat.intCast_mul, ← Rat.intCast_mul, ← Rat.intCast_sub, ← Rat.intCast_mul, ← Rat.intCast_mul, ← Rat.intCast_mul] at key
 exact Rat.intCast_inj.1 key
theorem rises_j2 {c : List S57} (h : Good c) {x : Int} (h0 : px c 0 ≤ x) (h1 : x < px c (c.length - 1)) : Evn (fun k => law_CurveRises.j2 k c x false) true := by
 have hl2 := h.len2
 have hx : inB c x = true := (inB_iff h).2 ⟨h0, by omega⟩
 have hx1 : inB c (x + 1) = true := (inB_iff h).2 ⟨by omega, by omega⟩
 obtain ⟨i, hi, i0, i1, eR⟩ := rateR_at h h0 h1
 have bx0 := h.bx 0 (by omega)
 have bx1 := h.bx (c.length - 1) (by omega)
 have by0 := h.by_ 0 (by omega)
 have by1 := h.by_ (c.length - 1) (by omega)
 have va := val_bounds h hx
 have vb := val_bounds h hx1
 obtain ⟨low, eL, hlow⟩ := low_in h hx
 obtain ⟨high, eH, hhigh⟩ := high_in h hx
 have E1 := exact_in h hx
 have E2 := exact_in h hx1
 have e1 := valR_i h hi i0 (Int.le_of_lt i1)
 have e2 := valR_i h hi (x := x + 1) (by omega) (by omega)
 have step : valR c (x + 1) = valR c x + rateR c i := by rw [e1, e2, Rat.intCast_add]; grind
 have kb := rateR_bounds h hi
 have vle := valR_le h h0 (by omega : x ≤ px c (c.length - 1)) (Int.le_refl _)
 rw [valR_last h] at vle
 have vle1 := valR_le h (by omega : px c 0 ≤ x + 1) (by omega : x + 1 ≤ px c (c.length - 1)) (Int.le_refl _)
 rw [valR_last h] at vle1
 have vge := valR_le h (Int.le_refl _) h0 (by omega : x ≤ px c (c.length - 1))
 rw [valR_first h] at vge
 have lt := On.mono h.rising (valR_on h h0 (by omega)) (valR_on h (by omega : px c 0 ≤ x + 1) (by omega)) (cast_lt (by omega : x < x + 1))
 obtain ⟨a, ha⟩ : ∃ a, valR c x = a := ⟨_, rfl⟩
 obtain ⟨b, hb⟩ : ∃ b, valR c (x + 1) = b := ⟨_, rfl⟩
 obtain ⟨q, hq⟩ : ∃ q, rateR c i = q := ⟨_, rfl⟩
 rw [ha] at va E1 step vle vge lt hlow hhigh
 rw [hb] at vb E2 step vle1 lt
 rw [hq] at step kb eR
 have l1 := (hlow low).1 (Int.le_refl _)
 have l2 := (hhigh high).1 (Int.le_refl _)
 have l3 : low ≤ high := of_cast_le (Rat.le_trans l1 l2)
 have l4 : high ≤ low + 1 := by
  refine (hhigh _).2 ?_
  have : ¬ ((low + 1 : Int) : Rat) ≤ a := fun h => by have := (hlow _).2 h; omega
  grind
 have l5 : 0 ≤ low := (hlow 0).2 (Rat.le_trans (cast_le by0.1) vge)
 have l6 : high ≤ 16777216 := (hhigh _).2 (Rat.le_trans vle (cast_le by1.2))
 have O1 := order_ev va.1 va.2.1 va.2.2.1 va.2.2.2 vb.1 vb.2.1 vb.2.2.1 vb.2.2.2
 have O2 := order_ev l5 (by omega : low ≤ 281474976710656) (show (0 : Int) < 1 by omega) (by omega) va.1 va.2.1 va.2.2.1 va.2.2.2
 have O3 := order_ev va.1 va.2.1 va.2.2.1 va.2.2.2 (by omega : 0 ≤ high) (by omega) (show (0 : Int) < 1 by omega) (by omega)
 rw [cmpI_rat, if_pos lt] at O1
 rw [cmpI_int_rat] at O2
 rw [cmpI_rat_int] at O3
 have hint : (high == low) = (((a.den : Nat) : Int) == 1) := by
  have ei : (a.den : Int) = 1 ↔ high = low := by
   constructor
   ·
    intro hd
    have ea := rat_eta a
    rw [hd] at ea
    have ea' : a = (a.num : Rat) := by rw [← ea]; grind
    have t1 := (hlow a.num).2 (by rw [← ea']; exact Rat.le_refl)
    have t2 := (hhigh a.num).2 (by rw [← ea']; exact Rat.le_refl)
    omega
   ·
    intro he
    rw [he] at l2
    have : a = (low : Rat) := by grind
    rw [this, Rat.den_intCast]; rfl
  by_cases hd : (a.den : Int) = 1
  ·
   rw [hd, ei.1 hd]; simp
  ·
   have : high ≠ low := fun e => hd (ei.2 e)
   rw [beq_eq_false_iff_ne.2 this, beq_eq_false_iff_ne.2 hd]
 have S := small_ev h
 obtain ⟨k1, g1⟩ := E1.fix
 obtain ⟨k2, g2⟩ := E2.fix
 obtain ⟨k3, g3⟩ := O1.fix
 obtain ⟨k4, g4⟩ := O2.fix
 obtain ⟨k5, g5⟩ := O3.fix
 obtain ⟨k6, g6⟩ := S.fix
 refine ⟨k1 + k2 + k3 + k4 + k5 + k6 + 5, fun k hk => ?_⟩
 obtain ⟨K, rfl⟩ : ∃ K, k = K + 5 := ⟨k - 5, by omega⟩
 have g1' := g1 K (by omega)
 have g2' := g2 K (by omega)
 have g3' := g3 K (by omega)
 have g4' := g4 K (by omega)
 have g5' := g5 K (by omega)
 have g6' := g6 K (by omega)
 have d1 : ¬ (a.den : Int) < 1 := by omega
 have d2 : ¬ (b.den : Int) < 1 := by omega
 have d3 : ¬ (q.den : Int) < 1 := by omega
 have d4 : decide (q.num < 1) = false := decide_eq_false (by omega)
 have w1 : wrap64 (x + 1) = x + 1 := w64 (by omega) (by omega)
 have w2 : wrap64 (high - low) = high - low := w64 (by omega) (by omega)
 have s1 : law_CurveRises.j2 (K + 5) c x false = law_CurveRises.j3 (K + 4) c low high false a.num a.den b.num b.den q.num q.den := by
  simp only [law_CurveRises.j2, w1, g1', g2', eR, eL, eH, Option.bind_some, if_true, if_neg d1, if_neg d2, if_neg d3, d4]
  rfl
 have s2 : law_CurveRises.j3 (K + 4) c low high false a.num a.den b.num b.den q.num q.den = law_CurveRises.j4 (K + 3) c low high false a.num a.den b.num b.den q.num q.den := by
  simp only [law_CurveRises.j3, g3', Option.bind_some, w2]
  rw [if_neg (by simp), if_neg (by omega), if_neg (by omega), if_neg (by omega), hint]
  simp
 have c4 : ∀ (P : Prop) [Decidable P], ¬ (if P then (-1 : Int) else 0) > 0 := fun P _ => by split <;> omega
 have n1 : ¬ a < (low : Rat) := by grind
 have n2 : ¬ (high : Rat) < a := by grind
 have s3 : law_CurveRises.j4 (K + 3) c low high false a.num a.den b.num b.den q.num q.den = law_CurveRises.j5 (K + 2) c false a.num a.den b.num b.den q.num q.den := by
  simp only [law_CurveRises.j4, g4', g5', Option.bind_some, if_neg n1, if_neg n2]
  rw [if_neg (by simp), if_neg (c4 _), decide_eq_false (c4 _)]
 show law_CurveRises.j2 (K + 5) c x false = some true
 rw [s1, s2, s3]
 cases hs : (decide (px c (c.length - 1) ≤ 32768) && decide (py c (c.length - 1) ≤ 32768)) with
 | false =>
  rw [hs] at g6'
  have g60 := g6' 0
  rw [Nat.add_zero] at g60
  simp [law_CurveRises.j5, law_CurveRises.j6, g6', g60]
 | true =>
  rw [hs] at g6'
  simp only [Bool.and_eq_true, decide_eq_true_eq] at hs
  have px1 := (h.rising.le (i := i + 1) (j := c.length - 1) (by omega) (by omega))
  have px0 := (h.rising.le (i := 0) (j := i) (by omega) (by omega))
  have ok := line_okG h hi
  have den_le : ∀ z : Int, px c i ≤ z → z ≤ px c (i + 1) → ((valR c z).den : Int) ≤ px c (i + 1) - px c i := fun z z0 z1 => by
   rw [valR_eq h ⟨i, lineV_on h hi z0 z1⟩]
   have e := exactI_eq (l := (c.getD i z57, c.getD (i + 1) z57)) (x := z) ok.wide.1
   have e' := congrArg Prod.snd e
   have g := gcd_pos (n := (c.getD i z57).f1 * wideI (c.getD i z57, c.getD (i + 1) z57) + overI (c.getD i z57, c.getD (i + 1) z57) z) ok.wide.1
   have b2 := div_bounds (n := wideI (c.getD i z57, c.getD (i + 1) z57)) (by have := ok.wide.1; omega) g
   have hw : wideI (c.getD i z57, c.getD (i + 1) z57) = px c (i + 1) - px c i := rfl
   unfold exactI lowestI at e'
   simp only at e'
   omega
  have ad := den_le x i0 (by omega)
  have bd := den_le (x + 1) (by omega) (by omega)
  rw [ha] at ad
  rw [hb] at bd
  have num_le : ∀ v : Rat, v ≤ (py c (c.length - 1) : Rat) → v.num ≤ 32768 * (v.den : Int) := fun v hv => by
   have := (div_le_div_iff v.num v.den (py c (c.length - 1)) 1 (den_pos v) (by omega)).1 (by rw [rat_eta]; grind)
   have m := Int.mul_le_mul_of_nonneg_right hs.2 (Int.le_of_lt (den_pos v))
   omega
  have an := num_le a vle
  have bn := num_le b vle1
  have t1 : ¬ (a.den : Int) > 32768 := by omega
  have t2 : ¬ (b.den : Int) > 32768 := by omega
  have t3 : ¬ (q.den : Int) > 32768 := by omega
  have t4 : ¬ a.num > 1073741824 := by omega
  have t5 : ¬ b.num > 1073741824 := by omega
  have t6 : decide (q.num > 32768) = false := decide_eq_false (by omega)
  have key := frac_step step
  have m1 := mulb vb.1 (show b.num ≤ 1073741824 by omega) (Int.le_of_lt va.2.2.1) (show (a.den : Int) ≤ 32768 by omega)
  have m2 := mulb va.1 (show a.num ≤ 1073741824 by omega) (Int.le_of_lt vb.2.2.1) (show (b.den : Int) ≤ 32768 by omega)
  have m3 := mulb (show 0 ≤ q.num by omega) (show q.num ≤ 32768 by omega) (Int.le_of_lt va.2.2.1) (show (a.den : Int) ≤ 32768 by omega)
  have m4 := mulb m3.1 (show q.num * (a.den : Int) ≤ 1073741824 by omega) (Int.le_of_lt vb.2.2.1) (show (b.den : Int) ≤ 32768 by omega)
  have u1 : wrap64 (b.num * (a.den : Int)) = b.num * (a.den : Int) := w64 (by omega) (by omega)
  have u2 : wrap64 (a.num * (b.den : Int)) = a.num * (b.den : Int) := w64 (by omega) (by omega)
  have u3 : wrap64 (b.num * (a.den : Int) - a.num * (b.den : Int)) = b.num * (a.den : Int) - a.num * (b.den : Int) := w64 (by omega) (by omega)
  have u4 : wrap64 (q.num * (a.den : Int)) = q.num * (a.den : Int) := w64 (by omega) (by omega)
  have u5 : wrap64 (q.num * (a.den : Int) * (b.den : Int)) = q.num * (a.den : Int) * (b.den : Int) := w64 (by omega) (by omega)
  simp only [law_CurveRises.j5, g6', Option.bind_some, if_true, if_neg t1, if_neg t2, if_neg t3, if_neg t4, if_neg t5, t6, law_CurveRises.j6, u1, u2, u3, u4, u5, key]
  simp
theorem rises_true (c : List S57) (x : Int) : ∃ k, law_CurveRises.f k c x = some true := by
 have v := valid_ev c
 cases hg : goodB c with
 | false =>
  rw [hg] at v
  obtain ⟨k, h⟩ := v.one
  refine ⟨k, ?_⟩
  simp [law_CurveRises.f, law_sane.f, h]
 | true =>
  rw [hg] at v
  have h := good_of hg
  have hl2 := h.len2
  have hend : Evn (fun k => (ref_In.f c x).bind fun t566 => (if t566 = true then ((ref_To.f c).bind fun t567 => (law_CurveRises.j2 k c x (x == t567))) else (law_CurveRises.j2 k c x true))) true := by
   have ht : Evn (fun k => law_CurveRises.j2 k c x true) true := Evn.step (Evn.of fun k => by simp [law_CurveRises.j2])
   cases hx : inB c x with
   | false =>
    refine Evn.ext ht fun k => ?_
    rw [in_eq h, hx]; rfl
   | true =>
    have hr := (inB_iff h).1 hx
    by_cases e : x = px c (c.length - 1)
    ·
     refine Evn.ext ht fun k => ?_
     rw [in_eq h, hx, to_eq h, Option.bind_some, if_pos rfl, Option.bind_some, ← e]; simp
    ·
     refine Evn.ext (rises_j2 h hr.1 (by omega)) fun k => ?_
     rw [in_eq h, hx, to_eq h, Option.bind_some, if_pos rfl, Option.bind_some, beq_eq_false_iff_ne.2 e]
  have key := rises_l0 h x true hend c.length 0 (by omega)
  obtain ⟨k1, h1⟩ := v.fix
  obtain ⟨k2, h2⟩ := key.fix
  refine ⟨k1 + k2, ?_⟩
  have h1' := h1 (k1 + k2) (by omega) 0
  have h2' := h2 (k1 + k2) (by omega) 0
  simp only [Nat.add_zero] at h1' h2'
  unfold law_CurveRises.f
  rw [show law_sane.f = some true from rfl, Option.bind_some, if_pos rfl, h1', Option.bind_some, if_pos rfl]
  exact h2'
end Go.Proofs.YtlhhpogaaneamaaDoor.X
