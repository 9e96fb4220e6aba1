/- curveSame_holds: the declarations of this seat that its proof uses. Conditions: none. -/
import Derived.Test.YtlhhpogaaneamaaDoorKSP2
namespace Go.Proofs.YtlhhpogaaneamaaDoor.X
open Go.RowKit Go.Proofs.YtlhhpogaaneamaaDoorW.PrintWords Go.Proofs.YtlhhpogaaneamaaDoorW.PrintLast Go.Proofs.YtlhhpogaaneamaaDoorW.PrintMore
attribute [local go_sem] max2_int min2_int max_two min_two
set_option linter.unusedVariables false
set_option linter.unusedSimpArgs false
mutual
def curve_Compare.l0 : Nat → List (S25) → Int → Int → Int → Int → Int → Int → Option (Int × Int)
 | 0, _, _, _, _, _, _, _ => none
 | k + 1, x10, x11, x12, x327000, x327001, x328000, x328001 => if x12 < x11 then (if 0 ≤ x12 then (if x12 < (x10.length : Int) then (if ((rd_T25 x10 x12).f0) < 0 then (curve_Compare.j1 k x10 x11 x12 true x327000 x327001 x328000 x328001) else (if ((rd_T25 x10 x12).f0) > 281474976710656 then (curve_Compare.j1 k x10 x11 x12 true x327000 x327001 x328000 x328001) else (if ((rd_T25 x10 x12).f1) < 1 then (curve_Compare.j1 k x10 x11 x12 true x327000 x327001 x328000 x328001) else (curve_Compare.j1 k x10 x11 x12 (decide (((rd_T25 x10 x12).f1) > 16777216)) x327000 x327001 x328000 x328001)))) else (none)) else (none)) else ((curve_compare.f x327000 x327001 x328000 x328001).bind fun t333 => (some (t333, 0)))
def curve_Compare.j1 : Nat → List (S25) → Int → Int → Bool → Int → Int → Int → Int → Option (Int × Int)
 | 0, _, _, _, _, _, _, _, _ => none
 | k + 1, x10, x11, x12, x33, x327000, x327001, x328000, x328001 => if x33 = true then (some (0, 1)) else (curve_Compare.l0 k x10 x11 (wrap64 (x12 + 1)) x327000 x327001 x328000 x328001)
end
def curve_Compare.f (k : Nat) (a0_0 : Int) (a0_1 : Int) (a1_0 : Int) (a1_1 : Int) : Option (Int × Int) := (some (([(⟨a0_0, a0_1⟩ : S25), (⟨a1_0, a1_1⟩ : S25)] : List (S25)) : List (S25))).bind fun y328 => (curve_Compare.l0 k y328 (y328.length : Int) 0 a0_0 a0_1 a1_0 a1_1)
set_option maxHeartbeats 8000000 in
set_option maxRecDepth 100000 in
theorem curve_Compare.calls (k : Nat) (a0_0 : Int) (a0_1 : Int) (a1_0 : Int) (a1_1 : Int) (r1 : Int) (r2 : Int) (w : World) (h : curve_Compare.f k a0_0 a0_1 a1_0 a1_1 = some (r1, r2)) :
  Calls Tryd.prog 20 #[.agg #[.int .i64 a0_0, .int .i64 a0_1], .agg #[.int .i64 a1_0, .int .i64 a1_1]] w fun e w' => e = .returned (.tuple #[.int .i64 r1, .int .i64 r2]) ∧ Below w.heap.size w w' := by
 have hu25 := Tryd.underlying25
 have HB := Aside0.mk (Below.refl w.heap.size w)
 have H : ((some (([(⟨a0_0, a0_1⟩ : S25), (⟨a1_0, a1_1⟩ : S25)] : List (S25)) : List (S25))).bind fun y328 => (curve_Compare.l0 k y328 (y328.length : Int) 0 a0_0 a0_1 a1_0 a1_1)) = some (r1, r2) := h
 clear h
 obtain ⟨y328, hy328⟩ : ∃ y_ : List (S25), y_ = (([(⟨a0_0, a0_1⟩ : S25), (⟨a1_0, a1_1⟩ : S25)] : List (S25))) := ⟨_, rfl⟩
 replace H : (curve_Compare.l0 k y328 (y328.length : Int) 0 a0_0 a0_1 a1_0 a1_1) = some (r1, r2) := by first | (rw [hy328]; with_reducible exact H) | (have H2_ := (Option.bind_some _ _).symm.trans H; rw [hy328]; with_reducible exact H2_) | (have H2_ := (Option.bind_some _ _).symm.trans H; with_reducible exact H2_) | with_reducible exact H | (rw [hy328]; exact H) | exact H
 have Ny328 := Aside0.mk hy328
 clear hy328
 have H' := Aside0.mk H
 clear H
 go_enter Tryd.func20, Tryd.ntmps20
 go_wp2_with (first | ((with_reducible refine gate_dst (N := 2) rfl ?_); refine box_event ?hg (N := 2) ?hd (cs := #[.int .i64 a0_0, .int .i64 a0_1]) (t := 25) ?hr ?_; (case hd => rfl); (case hg => rfl); (case hr => first | (go_simp; done) | (go_simp; rfl)); intro gb326 hg w3 hbox hb; have n0_ := Aside0.mk (below_step (by repeat (first | (with_reducible first | exact HB.out | apply below_alloc | apply pw_below_drewN | apply below_drew1) | exact HB.out)) hb); have n1_ := Aside0.mk (hbox); have n2_ := Aside0.mk ((by rw [hg]; exact (below_size (by repeat (first | (with_reducible first | exact HB.out | apply below_alloc | apply pw_below_drewN | apply below_drew1) | exact HB.out))) : w.heap.size ≤ gb326)); have n3_ := Aside0.mk ((by rw [hg]; exact (below_size (by repeat (first | (with_reducible first | exact HB.out | apply below_alloc | apply pw_below_drewN | apply below_drew1) | exact HB.out))) : w.heap.size ≤ gb326)); clear HB; have HB := n0_; have BK326 := n1_; have GW326 := n2_; have GE326 := n3_; clear n0_ n1_ n2_ n3_; clear hb hbox hg) | ((with_reducible refine gate_dst (N := 3) rfl ?_); refine box_event ?hg (N := 3) ?hd (cs := #[.int .i64 a1_0, .int .i64 a1_1]) (t := 25) ?hr ?_; (case hd => rfl); (case hg => rfl); (case hr => first | (go_simp; done) | (go_simp; rfl)); intro gb327 hg w4 hbox hb; have n0_ := Aside0.mk (blk_below (g := gb326) (o := .cells #[.int .i64 a0_0, .int .i64 a0_1] 25 (0, 0)) (by (with_reducible repeat (first | refine blk_drewN ?_ _ | refine blk_drew ?_ | refine blk_alloc ?_ _)); exact BK326.out) hb); have n1_ := Aside0.mk (below_step (by repeat (first | (with_reducible first | exact HB.out | apply below_alloc | apply pw_below_drewN | apply below_drew1 | refine below_set ?_ GE326.out) | exact HB.out)) hb); have n2_ := Aside0.mk (hbox); have n3_ := Aside0.mk ((by rw [hg]; exact (below_size (by repeat (first | (with_reducible first | exact HB.out | apply below_alloc | apply pw_below_drewN | apply below_drew1 | refine below_set ?_ GE326.out) | exact HB.out))) : w.heap.size ≤ gb327)); have n4_ := Aside0.mk ((by rw [hg]; exact (below_size (by repeat (first | (with_reducible first | exact HB.out | apply below_alloc | apply pw_below_drewN | apply below_drew1 | refine below_set ?_ GE326.out) | exact HB.out))) : w.heap.size ≤ gb327)); have n5_ := Aside0.mk ((by rw [hg]; exact Nat.ne_of_lt (blk_lt (g := gb326) (o := .cells #[.int .i64 a0_0, .int .i64 a0_1] 25 (0, 0)) (by (with_reducible repeat (first | refine blk_drewN ?_ _ | refine blk_drew ?_ | refine blk_alloc ?_ _)); exact BK326.out)) : gb326 ≠ gb327)); have n6_ := Aside0.mk ((by rw [hg]; exact Nat.ne_of_gt (blk_lt (g := gb326) (o := .cells #[.int .i64 a0_0, .int .i64 a0_1] 25 (0, 0)) (by (with_reducible repeat (first | refine blk_drewN ?_ _ | refine blk_drew ?_ | refine blk_alloc ?_ _)); exact BK326.out)) : gb327 ≠ gb326)); clear BK326; clear HB; have BK326 := n0_; have HB := n1_; have BK327 := n2_; have GW327 := n3_; have GE327 := n4_; have NB326_327 := n5_; have NB327_326 := n6_; clear n0_ n1_ n2_ n3_ n4_ n5_ n6_; clear hb hbox hg; have hnb5 := NB326_327.out; have hnc5 := NB327_326.out; have hcz6_0 : w4.cell? ⟨gb326, 0, none⟩ = some (.int .i64 a0_0) := (blk_cell BK326.out 0).trans rfl; have hcz6_1 : w4.cell? ⟨gb326, 1, none⟩ = some (.int .i64 a0_1) := (blk_cell BK326.out 1).trans rfl; have hfz6_0 := blk_frozen BK326.out 0; have hfz6_1 := blk_frozen BK326.out 1; have hcz7_0 : w4.cell? ⟨gb327, 0, none⟩ = some (.int .i64 a1_0) := (blk_cell BK327.out 0).trans rfl; have hcz7_1 : w4.cell? ⟨gb327, 1, none⟩ = some (.int .i64 a1_1) := (blk_cell BK327.out 1).trans rfl; have hfz7_0 := blk_frozen BK327.out 0; have hfz7_1 := blk_frozen BK327.out 1) | ((with_reducible refine gate_dst (N := 10) rfl ?_); refine Kd.R_lit k25 _ 25 ?hg (N := 10) ?hd (xs := ([(⟨a0_0, a0_1⟩ : S25), (⟨a1_0, a1_1⟩ : S25)] : List (S25))) (inner := [.int .i64 a0_0, .int .i64 a0_1, .int .i64 a1_0, .int .i64 a1_1]) (ok := fun _ => True) (okp := fun _ => True) ?hr ?hp (fun _ hk => hk) trivial (Below.refl _ _) (Nat.le_refl _) (by simp) ?_; (case hd => rfl); (case hg => rfl); (case hr => first | (go_simp; done) | (go_simp; rfl)); (case hp => exact (Reps.c2 (show Kd.M k25 _ _ _ (⟨a0_0, a0_1⟩ : S25) [.int .i64 a0_0, .int .i64 a0_1] from (k25_mkM _ _ _ (⟨a0_0, a0_1⟩ : S25) )) (Reps.c2 (show Kd.M k25 _ _ _ (⟨a1_0, a1_1⟩ : S25) [.int .i64 a1_0, .int .i64 a1_1] from (k25_mkM _ _ _ (⟨a1_0, a1_1⟩ : S25) )) (Reps.none _ _)))); intro v329 w8 ho9 hb hg_ hnew_; clear hg_ hnew_; (first | rw [← Ny328.out] at ho9 | (simp only [Int.reduceToNat] at ho9; rw [← Ny328.out] at ho9)); have n0_ := Aside0.mk (Kd.R_lower (Kd.R_newB (Kd.R_newB ho9 (g := gb326) (o := .cells #[.int .i64 a0_0, .int .i64 a0_1] 25 (0, 0)) (by (with_reducible repeat (first | refine blk_drewN ?_ _ | refine blk_drew ?_ | refine blk_alloc ?_ _)); exact BK326.out)) (g := gb327) (o := .cells #[.int .i64 a1_0, .int .i64 a1_1] 25 (0, 0)) (by (with_reducible repeat (first | refine blk_drewN ?_ _ | refine blk_drew ?_ | refine blk_alloc ?_ _)); exact BK327.out)) (below_size (by repeat (first | (with_reducible first | exact HB.out | apply below_alloc | apply pw_below_drewN | apply below_drew1 | refine below_set ?_ GE326.out | refine below_set ?_ GE327.out) | exact HB.out)))); have n1_ := Aside0.mk (blk_below (g := gb326) (o := .cells #[.int .i64 a0_0, .int .i64 a0_1] 25 (0, 0)) (by (with_reducible repeat (first | refine blk_drewN ?_ _ | refine blk_drew ?_ | refine blk_alloc ?_ _)); exact BK326.out) hb); have n2_ := Aside0.mk (blk_below (g := gb327) (o := .cells #[.int .i64 a1_0, .int .i64 a1_1] 25 (0, 0)) (by (with_reducible repeat (first | refine blk_drewN ?_ _ | refine blk_drew ?_ | refine blk_alloc ?_ _)); exact BK327.out) hb); have n3_ := Aside0.mk (below_step (by repeat (first | (with_reducible first | exact HB.out | apply below_alloc | apply pw_below_drewN | apply below_drew1 | refine below_set ?_ GE326.out | refine below_set ?_ GE327.out) | exact HB.out)) hb); clear BK326; clear BK327; clear HB; have HO330 := n0_; have BK326 := n1_; have BK327 := n2_; have HB := n3_; clear n0_ n1_ n2_ n3_; clear hb ho9; obtain ⟨Ao10, co10, eo10⟩ := Kd.R_slice HO330.out; subst eo10))
 go_loopg [12] k (fun kq v12 w' => ∃ (x12_1 : Int), v12 = .int .i64 x12_1 ∧ Aside0 (curve_Compare.l0 kq y328 (y328.length : Int) x12_1 a0_0 a0_1 a1_0 a1_1 = some (r1, r2)) ∧ Aside0 (kq ≤ k) ∧ Aside0 (Kd.R k25 25 w' w.heap.size (fun k_ => k_ ≠ gb326 ∧ k_ ≠ gb327) (.slice Ao10 y328.length co10) y328) ∧ Aside0 (w'.heap[gb326]? = some (.cells #[.int .i64 a0_0, .int .i64 a0_1] 25 (0, 0))) ∧ Aside0 (w'.heap[gb327]? = some (.cells #[.int .i64 a1_0, .int .i64 a1_1] 25 (0, 0))) ∧ Aside0 (Below w.heap.size w w'))
 case atStart => exact ⟨(0), (by first | rfl | (simp; done) | (simp [*]; done)), H', ⟨Nat.le_refl _⟩, ⟨by (with_reducible repeat (first | apply Kd.R_alloc | apply Kd.R_drewN | apply Kd.R_drew)); exact Kd.R_mono HO330.out (fun _ hk => ⟨hk.1.2, hk.2⟩)⟩, ⟨by (with_reducible repeat (first | refine blk_drewN ?_ _ | refine blk_drew ?_ | refine blk_alloc ?_ _)); exact BK326.out⟩, ⟨by (with_reducible repeat (first | refine blk_drewN ?_ _ | refine blk_drew ?_ | refine blk_alloc ?_ _)); exact BK327.out⟩, ⟨by repeat (first | (with_reducible first | exact HB.out | apply below_alloc | apply pw_below_drewN | apply below_drew1 | refine below_set ?_ GE326.out | refine below_set ?_ GE327.out) | exact HB.out)⟩⟩
 case round =>
  clear H'
  try clear c2
  try clear p2
  try clear c5
  try clear hcz6_0
  try clear hcz6_1
  try clear hcz7_0
  try clear hcz7_1
  try clear hfz6_0
  try clear hfz6_1
  try clear hfz7_0
  try clear hfz7_1
  obtain ⟨x12_1, rfl, HA, HK1, HO_10, BK326, BK327, HB⟩ := hrel
  cases gk with
  | zero => exact absurd HA.out (by simp [curve_Compare.l0])
  | succ k1 =>
   have H := HA.out
   clear HA
   simp only [curve_Compare.l0] at H
   by_cases c11 : x12_1 < (y328.length : Int)
   ·
    rw [if_pos c11] at H
    have c11b0 : decide (x12_1 < (y328.length : Int)) = true := decide_eq_true c11
    clear c11
    by_cases c12 : 0 ≤ x12_1
    ·
     rw [if_pos c12] at H
     have c12b0 : decide (0 ≤ x12_1) = true := decide_eq_true c12
     clear c12
     by_cases c13 : x12_1 < (y328.length : Int)
     ·
      rw [if_pos c13] at H
      have c13b0 : decide (x12_1 < (y328.length : Int)) = true := decide_eq_true c13
      clear c13
      have HC14 := Aside0.mk H
      clear H
      have p331 : 0 ≤ (x12_1 : Int) := of_decide_eq_true (by first | (with_reducible assumption) | assumption)
      have q331 : x12_1 < (y328.length : Int) := of_decide_eq_true (by first | (with_reducible assumption) | assumption)
      obtain ⟨ad331, e331, hx331_0, hx331_1⟩ := at_T25 (Kd.R_reads' HO_10.out).2.2 x12_1 p331 q331
      cases e331
      replace p331 := eq_true p331
      replace q331 := eq_true q331
      go_upto_region 4 with (first | ((with_reducible refine gate_dst (N := 7) rfl ?_); refine box_event ?hg (N := 7) ?hd (cs := #[.int .i64 0, .int .i64 0]) (t := 25) ?hr ?_; (case hd => rfl); (case hg => rfl); (case hr => first | (go_simp; done) | (go_simp; rfl)); intro gb332 hg w15 hbox hb; have n0_ := Aside0.mk (Kd.R_below (Kd.R_elderB (by (with_reducible repeat (first | apply Kd.R_alloc | apply Kd.R_drewN | apply Kd.R_drew)); exact HO_10.out) gb332 (Nat.le_of_eq hg.symm)) hb); have n1_ := Aside0.mk (blk_below (g := gb326) (o := .cells #[.int .i64 a0_0, .int .i64 a0_1] 25 (0, 0)) (by (with_reducible repeat (first | refine blk_drewN ?_ _ | refine blk_drew ?_ | refine blk_alloc ?_ _)); exact BK326.out) hb); have n2_ := Aside0.mk (blk_below (g := gb327) (o := .cells #[.int .i64 a1_0, .int .i64 a1_1] 25 (0, 0)) (by (with_reducible repeat (first | refine blk_drewN ?_ _ | refine blk_drew ?_ | refine blk_alloc ?_ _)); exact BK327.out) hb); have n3_ := Aside0.mk (below_step (by repeat (first | (with_reducible first | exact HB.out | apply below_alloc | apply pw_below_drewN | apply below_drew1 | refine below_set ?_ GE326.out | refine below_set ?_ GE327.out) | exact HB.out)) hb); have n4_ := Aside0.mk (hbox); have n5_ := Aside0.mk ((by rw [hg]; exact (below_size (by repeat (first | (with_reducible first | exact HB.out | apply below_alloc | apply pw_below_drewN | apply below_drew1 | refine below_set ?_ GE326.out | refine below_set ?_ GE327.out) | exact HB.out))) : w.heap.size ≤ gb332)); have n6_ := Aside0.mk ((by rw [hg]; exact (below_size (by repeat (first | (with_reducible first | exact HB.out | apply below_alloc | apply pw_below_drewN | apply below_drew1 | refine below_set ?_ GE326.out | refine below_set ?_ GE327.out) | exact HB.out))) : w.heap.size ≤ gb332)); have n7_ := Aside0.mk ((by rw [hg]; exact Nat.ne_of_lt (blk_lt (g := gb326) (o := .cells #[.int .i64 a0_0, .int .i64 a0_1] 25 (0, 0)) (by (with_reducible repeat (first | refine blk_drewN ?_ _ | refine blk_drew ?_ | refine blk_alloc ?_ _)); exact BK326.out)) : gb326 ≠ gb332)); have n8_ := Aside0.mk ((by rw [hg]; exact Nat.ne_of_gt (blk_lt (g := gb326) (o := .cells #[.int .i64 a0_0, .int .i64 a0_1] 25 (0, 0)) (by (with_reducible repeat (first | refine blk_drewN ?_ _ | refine blk_drew ?_ | refine blk_alloc ?_ _)); exact BK326.out)) : gb332 ≠ gb326)); have n9_ := Aside0.mk ((by rw [hg]; exact Nat.ne_of_lt (blk_lt (g := gb327) (o := .cells #[.int .i64 a1_0, .int .i64 a1_1] 25 (0, 0)) (by (with_reducible repeat (first | refine blk_drewN ?_ _ | refine blk_drew ?_ | refine blk_alloc ?_ _)); exact BK327.out)) : gb327 ≠ gb332)); have n10_ := Aside0.mk ((by rw [hg]; exact Nat.ne_of_gt (blk_lt (g := gb327) (o := .cells #[.int .i64 a1_0, .int .i64 a1_1] 25 (0, 0)) (by (with_reducible repeat (first | refine blk_drewN ?_ _ | refine blk_drew ?_ | refine blk_alloc ?_ _)); exact BK327.out)) : gb332 ≠ gb327)); clear HO_10; clear BK326; clear BK327; clear HB; have HO_10 := n0_; have BK326 := n1_; have BK327 := n2_; have HB := n3_; have BK332 := n4_; have GW332 := n5_; have GE332 := n6_; have NB326_332 := n7_; have NB332_326 := n8_; have NB327_332 := n9_; have NB332_327 := n10_; clear n0_ n1_ n2_ n3_ n4_ n5_ n6_ n7_ n8_ n9_ n10_; clear hb hbox hg; have hnb16 := NB332_326.out; have hnc16 := NB326_332.out; have hnb17 := NB332_327.out; have hnc17 := NB327_332.out; have hcz18_0 : w15.cell? ⟨gb332, 0, none⟩ = some (.int .i64 0) := (blk_cell BK332.out 0).trans rfl; have hcz18_1 : w15.cell? ⟨gb332, 1, none⟩ = some (.int .i64 0) := (blk_cell BK332.out 1).trans rfl; have hfz18_0 := blk_frozen BK332.out 0; have hfz18_1 := blk_frozen BK332.out 1))
      (try simp only [Act.put, List.setIfInBounds_toArray, List.set_cons_zero, List.set_cons_succ])
      go_cut [33] (fun v33 wc => ∃ (kq : Nat) (x33_13 : Bool), v33 = .bool x33_13 ∧ Aside0 (curve_Compare.j1 kq y328 (y328.length : Int) x12_1 x33_13 a0_0 a0_1 a1_0 a1_1 = some (r1, r2)) ∧ Aside0 (kq ≤ k1) ∧ Aside0 (Kd.R k25 25 wc w.heap.size (fun k_ => k_ ≠ gb326 ∧ k_ ≠ gb327 ∧ k_ ≠ gb332) (.slice (some ad331) y328.length co10) y328) ∧ Aside0 (wc.heap[gb326]? = some (.cells #[.int .i64 a0_0, .int .i64 a0_1] 25 (0, 0))) ∧ Aside0 (wc.heap[gb327]? = some (.cells #[.int .i64 a1_0, .int .i64 a1_1] 25 (0, 0))) ∧ Aside0 (wc.heap[gb332]? = some (.cells #[.int .i64 ((rd_T25 y328 x12_1).f0), .int .i64 ((rd_T25 y328 x12_1).f1)] 25 (0, 0))) ∧ Aside0 (Below w.heap.size w wc))
      case first =>
       have H := HC14.out
       clear HC14
       by_cases c19 : ((rd_T25 y328 x12_1).f0) < 0
       ·
        rw [if_pos c19] at H
        have c19b0 : decide (((rd_T25 y328 x12_1).f0) < 0) = true := decide_eq_true c19
        clear c19
        (first | rw [c19b0] | (simp only [i64_w, i32_w]; rw [c19b0]) | skip)
        have H' := Aside0.mk H
        clear H
        have hnb20 := NB332_326.out
        have hnc20 := NB326_332.out
        have hnb21 := NB332_327.out
        have hnc21 := NB327_332.out
        have hcz22_0 : w15.cell? ⟨gb332, 0, none⟩ = some (.int .i64 0) := (blk_cell BK332.out 0).trans rfl
        have hcz22_1 : w15.cell? ⟨gb332, 1, none⟩ = some (.int .i64 0) := (blk_cell BK332.out 1).trans rfl
        have hfz22_0 := blk_frozen BK332.out 0
        have hfz22_1 := blk_frozen BK332.out 1
        go_wp2
        go_meet
        case rel => exact ⟨_, (true), (by first | rfl | (simp; done) | (simp [*]; done)), H', ⟨by have := HK1.out; first | omega | exact Nat.le_refl _⟩, ⟨by (with_reducible repeat (first | apply Kd.R_alloc | apply Kd.R_drewN | apply Kd.R_drew)); exact Kd.R_mono (Kd.R_far (p := ⟨gb332, 1, none⟩) (Kd.R_far (p := ⟨gb332, 0, none⟩) (Kd.R_mono HO_10.out (fun k_ hk => (⟨hk, hk.2⟩ : _ ∧ k_ ≠ gb332))) (fun _ hk => hk.2) (.int .i64 ((rd_T25 y328 x12_1).f0))) (fun _ hk => hk.2) (.int .i64 ((rd_T25 y328 x12_1).f1))) (fun _ hk => ⟨hk.1.1.1, ⟨hk.1.1.2, hk.1.2⟩⟩)⟩, ⟨by (with_reducible repeat (first | refine blk_drewN ?_ _ | refine blk_drew ?_ | refine blk_alloc ?_ _)); refine blk_far ?_ NB326_332.out _; (with_reducible repeat (first | refine blk_drewN ?_ _ | refine blk_drew ?_ | refine blk_alloc ?_ _)); refine blk_far ?_ NB326_332.out _; (with_reducible repeat (first | refine blk_drewN ?_ _ | refine blk_drew ?_ | refine blk_alloc ?_ _)); exact BK326.out⟩, ⟨by (with_reducible repeat (first | refine blk_drewN ?_ _ | refine blk_drew ?_ | refine blk_alloc ?_ _)); refine blk_far ?_ NB327_332.out _; (with_reducible repeat (first | refine blk_drewN ?_ _ | refine blk_drew ?_ | refine blk_alloc ?_ _)); refine blk_far ?_ NB327_332.out _; (with_reducible repeat (first | refine blk_drewN ?_ _ | refine blk_drew ?_ | refine blk_alloc ?_ _)); exact BK327.out⟩, ⟨by (with_reducible repeat (first | refine blk_drewN ?_ _ | refine blk_drew ?_ | refine blk_alloc ?_ _)); refine blk_put (cs := #[.int .i64 ((rd_T25 y328 x12_1).f0), .int .i64 0]) ?_ 1 _ rfl; (with_reducible repeat (first | refine blk_drewN ?_ _ | refine blk_drew ?_ | refine blk_alloc ?_ _)); refine blk_put (cs := #[.int .i64 0, .int .i64 0]) ?_ 0 _ rfl; (with_reducible repeat (first | refine blk_drewN ?_ _ | refine blk_drew ?_ | refine blk_alloc ?_ _)); exact BK332.out⟩, ⟨by repeat (first | (with_reducible first | exact HB.out | apply below_alloc | apply pw_below_drewN | apply below_drew1 | refine below_set ?_ GE326.out | refine below_set ?_ GE327.out | refine below_set ?_ GE332.out) | exact HB.out)⟩⟩
       ·
        rw [if_neg c19] at H
        have c19b0 : decide (((rd_T25 y328 x12_1).f0) < 0) = false := decide_eq_false c19
        clear c19
        (first | rw [c19b0] | (simp only [i64_w, i32_w]; rw [c19b0]) | skip)
        by_cases c23 : ((rd_T25 y328 x12_1).f0) > 281474976710656
        ·
         rw [if_pos c23] at H
         have c23b0 : decide (281474976710656 < ((rd_T25 y328 x12_1).f0)) = true := decide_eq_true c23
         clear c23
         have H' := Aside0.mk H
         clear H
         have hnb24 := NB332_326.out
         have hnc24 := NB326_332.out
         have hnb25 := NB332_327.out
         have hnc25 := NB327_332.out
         have hcz26_0 : w15.cell? ⟨gb332, 0, none⟩ = some (.int .i64 0) := (blk_cell BK332.out 0).trans rfl
         have hcz26_1 : w15.cell? ⟨gb332, 1, none⟩ = some (.int .i64 0) := (blk_cell BK332.out 1).trans rfl
         have hfz26_0 := blk_frozen BK332.out 0
         have hfz26_1 := blk_frozen BK332.out 1
         go_wp2
         go_meet
         case rel => exact ⟨_, (true), (by first | rfl | (simp; done) | (simp [*]; done)), H', ⟨by have := HK1.out; first | omega | exact Nat.le_refl _⟩, ⟨by (with_reducible repeat (first | apply Kd.R_alloc | apply Kd.R_drewN | apply Kd.R_drew)); exact Kd.R_mono (Kd.R_far (p := ⟨gb332, 1, none⟩) (Kd.R_far (p := ⟨gb332, 0, none⟩) (Kd.R_mono HO_10.out (fun k_ hk => (⟨hk, hk.2⟩ : _ ∧ k_ ≠ gb332))) (fun _ hk => hk.2) (.int .i64 ((rd_T25 y328 x12_1).f0))) (fun _ hk => hk.2) (.int .i64 ((rd_T25 y328 x12_1).f1))) (fun _ hk => ⟨hk.1.1.1, ⟨hk.1.1.2, hk.1.2⟩⟩)⟩, ⟨by (with_reducible repeat (first | refine blk_drewN ?_ _ | refine blk_drew ?_ | refine blk_alloc ?_ _)); refine blk_far ?_ NB326_332.out _; (with_reducible repeat (first | refine blk_drewN ?_ _ | refine blk_drew ?_ | refine blk_alloc ?_ _)); refine blk_far ?_ NB326_332.out _; (with_reducible repeat (first | refine blk_drewN ?_ _ | refine blk_drew ?_ | refine blk_alloc ?_ _)); exact BK326.out⟩, ⟨by (with_reducible repeat (first | refine blk_drewN ?_ _ | refine blk_drew ?_ | refine blk_alloc ?_ _)); refine blk_far ?_ NB327_332.out _; (with_reducible repeat (first | refine blk_drewN ?_ _ | refine blk_drew ?_ | refine blk_alloc ?_ _)); refine blk_far ?_ NB327_332.out _; (with_reducible repeat (first | refine blk_drewN ?_ _ | refine blk_drew ?_ | refine blk_alloc ?_ _)); exact BK327.out⟩, ⟨by (with_reducible repeat (first | refine blk_drewN ?_ _ | refine blk_drew ?_ | refine blk_alloc ?_ _)); refine blk_put (cs := #[.int .i64 ((rd_T25 y328 x12_1).f0), .int .i64 0]) ?_ 1 _ rfl; (with_reducible repeat (first | refine blk_drewN ?_ _ | refine blk_drew ?_ | refine blk_alloc ?_ _)); refine blk_put (cs := #[.int .i64 0, .int .i64 0]) ?_ 0 _ rfl; (with_reducible repeat (first | refine blk_drewN ?_ _ | refine blk_drew ?_ | refine blk_alloc ?_ _)); exact BK332.out⟩, ⟨by repeat (first | (with_reducible first | exact HB.out | apply below_alloc | apply pw_below_drewN | apply below_drew1 | refine below_set ?_ GE326.out | refine below_set ?_ GE327.out | refine below_set ?_ GE332.out) | exact HB.out)⟩⟩
        ·
         rw [if_neg c23] at H
         have c23b0 : decide (281474976710656 < ((rd_T25 y328 x12_1).f0)) = false := decide_eq_false c23
         clear c23
         by_cases c27 : ((rd_T25 y328 x12_1).f1) < 1
         ·
          rw [if_pos c27] at H
          have c27b0 : decide (((rd_T25 y328 x12_1).f1) < 1) = true := decide_eq_true c27
          clear c27
          have H' := Aside0.mk H
          clear H
          have hnb28 := NB332_326.out
          have hnc28 := NB326_332.out
          have hnb29 := NB332_327.out
          have hnc29 := NB327_332.out
          have hcz30_0 : w15.cell? ⟨gb332, 0, none⟩ = some (.int .i64 0) := (blk_cell BK332.out 0).trans rfl
          have hcz30_1 : w15.cell? ⟨gb332, 1, none⟩ = some (.int .i64 0) := (blk_cell BK332.out 1).trans rfl
          have hfz30_0 := blk_frozen BK332.out 0
          have hfz30_1 := blk_frozen BK332.out 1
          go_wp2
          go_meet
          case rel => exact ⟨_, (true), (by first | rfl | (simp; done) | (simp [*]; done)), H', ⟨by have := HK1.out; first | omega | exact Nat.le_refl _⟩, ⟨by (with_reducible repeat (first | apply Kd.R_alloc | apply Kd.R_drewN | apply Kd.R_drew)); exact Kd.R_mono (Kd.R_far (p := ⟨gb332, 1, none⟩) (Kd.R_far (p := ⟨gb332, 0, none⟩) (Kd.R_mono HO_10.out (fun k_ hk => (⟨hk, hk.2⟩ : _ ∧ k_ ≠ gb332))) (fun _ hk => hk.2) (.int .i64 ((rd_T25 y328 x12_1).f0))) (fun _ hk => hk.2) (.int .i64 ((rd_T25 y328 x12_1).f1))) (fun _ hk => ⟨hk.1.1.1, ⟨hk.1.1.2, hk.1.2⟩⟩)⟩, ⟨by (with_reducible repeat (first | refine blk_drewN ?_ _ | refine blk_drew ?_ | refine blk_alloc ?_ _)); refine blk_far ?_ NB326_332.out _; (with_reducible repeat (first | refine blk_drewN ?_ _ | refine blk_drew ?_ | refine blk_alloc ?_ _)); refine blk_far ?_ NB326_332.out _; (with_reducible repeat (first | refine blk_drewN ?_ _ | refine blk_drew ?_ | refine blk_alloc ?_ _)); exact BK326.out⟩, ⟨by (with_reducible repeat (first | refine blk_drewN ?_ _ | refine blk_drew ?_ | refine blk_alloc ?_ _)); refine blk_far ?_ NB327_332.out _; (with_reducible repeat (first | refine blk_drewN ?_ _ | refine blk_drew ?_ | refine blk_alloc ?_ _)); refine blk_far ?_ NB327_332.out _; (with_reducible repeat (first | refine blk_drewN ?_ _ | refine blk_drew ?_ | refine blk_alloc ?_ _)); exact BK327.out⟩, ⟨by (with_reducible repeat (first | refine blk_drewN ?_ _ | refine blk_drew ?_ | refine blk_alloc ?_ _)); refine blk_put (cs := #[.int .i64 ((rd_T25 y328 x12_1).f0), .int .i64 0]) ?_ 1 _ rfl; (with_reducible repeat (first | refine blk_drewN ?_ _ | refine blk_drew ?_ | refine blk_alloc ?_ _)); refine blk_put (cs := #[.int .i64 0, .int .i64 0]) ?_ 0 _ rfl; (with_reducible repeat (first | refine blk_drewN ?_ _ | refine blk_drew ?_ | refine blk_alloc ?_ _)); exact BK332.out⟩, ⟨by repeat (first | (with_reducible first | exact HB.out | apply below_alloc | apply pw_below_drewN | apply below_drew1 | refine below_set ?_ GE326.out | refine below_set ?_ GE327.out | refine below_set ?_ GE332.out) | exact HB.out)⟩⟩
         ·
          rw [if_neg c27] at H
          have c27b0 : decide (((rd_T25 y328 x12_1).f1) < 1) = false := decide_eq_false c27
          clear c27
          have H' := Aside0.mk H
          clear H
          have hnb31 := NB332_326.out
          have hnc31 := NB326_332.out
          have hnb32 := NB332_327.out
          have hnc32 := NB327_332.out
          have hcz33_0 : w15.cell? ⟨gb332, 0, none⟩ = some (.int .i64 0) := (blk_cell BK332.out 0).trans rfl
          have hcz33_1 : w15.cell? ⟨gb332, 1, none⟩ = some (.int .i64 0) := (blk_cell BK332.out 1).trans rfl
          have hfz33_0 := blk_frozen BK332.out 0
          have hfz33_1 := blk_frozen BK332.out 1
          go_wp2
          go_meet
          case rel => exact ⟨_, (decide (((rd_T25 y328 x12_1).f1) > 16777216)), (by first | rfl | (simp; done) | (simp [*]; done)), H', ⟨by have := HK1.out; first | omega | exact Nat.le_refl _⟩, ⟨by (with_reducible repeat (first | apply Kd.R_alloc | apply Kd.R_drewN | apply Kd.R_drew)); exact Kd.R_mono (Kd.R_far (p := ⟨gb332, 1, none⟩) (Kd.R_far (p := ⟨gb332, 0, none⟩) (Kd.R_mono HO_10.out (fun k_ hk => (⟨hk, hk.2⟩ : _ ∧ k_ ≠ gb332))) (fun _ hk => hk.2) (.int .i64 ((rd_T25 y328 x12_1).f0))) (fun _ hk => hk.2) (.int .i64 ((rd_T25 y328 x12_1).f1))) (fun _ hk => ⟨hk.1.1.1, ⟨hk.1.1.2, hk.1.2⟩⟩)⟩, ⟨by (with_reducible repeat (first | refine blk_drewN ?_ _ | refine blk_drew ?_ | refine blk_alloc ?_ _)); refine blk_far ?_ NB326_332.out _; (with_reducible repeat (first | refine blk_drewN ?_ _ | refine blk_drew ?_ | refine blk_alloc ?_ _)); refine blk_far ?_ NB326_332.out _; (with_reducible repeat (first | refine blk_drewN ?_ _ | refine blk_drew ?_ | refine blk_alloc ?_ _)); exact BK326.out⟩, ⟨by (with_reducible repeat (first | refine blk_drewN ?_ _ | refine blk_drew ?_ | refine blk_alloc ?_ _)); refine blk_far ?_ NB327_332.out _; (with_reducible repeat (first | refine blk_drewN ?_ _ | refine blk_drew ?_ | refine blk_alloc ?_ _)); refine blk_far ?_ NB327_332.out _; (with_reducible repeat (first | refine blk_drewN ?_ _ | refine blk_drew ?_ | refine blk_alloc ?_ _)); exact BK327.out⟩, ⟨by (with_reducible repeat (first | refine blk_drewN ?_ _ | refine blk_drew ?_ | refine blk_alloc ?_ _)); refine blk_put (cs := #[.int .i64 ((rd_T25 y328 x12_1).f0), .int .i64 0]) ?_ 1 _ rfl; (with_reducible repeat (first | refine blk_drewN ?_ _ | refine blk_drew ?_ | refine blk_alloc ?_ _)); refine blk_put (cs := #[.int .i64 0, .int .i64 0]) ?_ 0 _ rfl; (with_reducible repeat (first | refine blk_drewN ?_ _ | refine blk_drew ?_ | refine blk_alloc ?_ _)); exact BK332.out⟩, ⟨by repeat (first | (with_reducible first | exact HB.out | apply below_alloc | apply pw_below_drewN | apply below_drew1 | refine below_set ?_ GE326.out | refine below_set ?_ GE327.out | refine below_set ?_ GE332.out) | exact HB.out)⟩⟩
      case rest =>
       clear HC14
       try clear c1
       try clear c2
       try clear p2
       try clear c3
       try clear p3
       try clear q3
       try clear hx3
       try clear c5
       try clear c11
       try clear c11b0
       try clear c12
       try clear c12b0
       try clear c13
       try clear c13b0
       try clear c16
       try clear c17
       try clear c19
       try clear c19b0
       try clear c20
       try clear c21
       try clear c23
       try clear c23b0
       try clear c24
       try clear c25
       try clear c27
       try clear c27b0
       try clear c28
       try clear c29
       try clear c31
       try clear c32
       try clear p33
       try clear q33
       try clear hx33
       try clear hcz18_0
       try clear hcz18_1
       try clear hcz22_0
       try clear hcz22_1
       try clear hcz26_0
       try clear hcz26_1
       try clear hcz30_0
       try clear hcz30_1
       try clear hcz33_0
       try clear hcz33_1
       try clear hcz6_0
       try clear hcz6_1
       try clear hcz7_0
       try clear hcz7_1
       try clear hfz18_0
       try clear hfz18_1
       try clear hfz22_0
       try clear hfz22_1
       try clear hfz26_0
       try clear hfz26_1
       try clear hfz30_0
       try clear hfz30_1
       try clear hfz33_0
       try clear hfz33_1
       try clear hfz6_0
       try clear hfz6_1
       try clear hfz7_0
       try clear hfz7_1
       try clear hx331_0
       try clear hx331_1
       try clear p2
       try clear p331
       try clear q331
       obtain ⟨kq, x33_13, rfl, HA, HJ13, HO_10, BK326, BK327, BK332, HB⟩ := hcut
       cases kq with
       | zero => exact absurd HA.out (by simp [curve_Compare.j1])
       | succ kj13 =>
        have H := HA.out
        clear HA
        simp only [curve_Compare.j1] at H
        by_cases c34 : x33_13 = true
        ·
         subst c34
         have H1 : (some (0, 1)) = some (r1, r2) := by rw [if_pos rfl] at H; exact H
         clear H
         have H := H1
         clear H1
         simp only [Option.some.injEq, Prod.mk.injEq] at H
         obtain ⟨rfl, rfl⟩ := H
         go_wp2
         go_ret2
         exact ⟨by first | rfl | (simp [errW_none, errW_some] <;> rfl) | (simp [*, errW_none, errW_some] <;> rfl), by repeat (first | (with_reducible first | exact HB.out | apply below_alloc | apply pw_below_drewN | apply below_drew1 | refine below_set ?_ GE326.out | refine below_set ?_ GE327.out | refine below_set ?_ GE332.out) | exact HB.out)⟩
        ·
         replace c34 := Bool.eq_false_iff.mpr c34
         subst c34
         have H1 : (curve_Compare.l0 kj13 y328 (y328.length : Int) (wrap64 (x12_1 + 1)) a0_0 a0_1 a1_0 a1_1) = some (r1, r2) := by rw [if_neg (show ¬ (false = true) by decide)] at H; exact H
         clear H
         have H := H1
         clear H1
         have H' := Aside0.mk H
         clear H
         go_wp2
         go_roundg kj13
         case measure => have := HK1.out; have := HJ13.out; omega
         case rel => exact ⟨(wrap64 (x12_1 + 1)), (by first | rfl | (simp; done) | (simp [*]; done)), H', ⟨by have := HK1.out; have := HJ13.out; omega⟩, ⟨by (with_reducible repeat (first | apply Kd.R_alloc | apply Kd.R_drewN | apply Kd.R_drew)); exact Kd.R_mono HO_10.out (fun _ hk => ⟨hk.1, hk.2.1⟩)⟩, ⟨by (with_reducible repeat (first | refine blk_drewN ?_ _ | refine blk_drew ?_ | refine blk_alloc ?_ _)); exact BK326.out⟩, ⟨by (with_reducible repeat (first | refine blk_drewN ?_ _ | refine blk_drew ?_ | refine blk_alloc ?_ _)); exact BK327.out⟩, ⟨by repeat (first | (with_reducible first | exact HB.out | apply below_alloc | apply pw_below_drewN | apply below_drew1 | refine below_set ?_ GE326.out | refine below_set ?_ GE327.out | refine below_set ?_ GE332.out) | exact HB.out)⟩⟩
     ·
      rw [if_neg c13] at H
      exact absurd H (by simp)
    ·
     rw [if_neg c12] at H
     exact absurd H (by simp)
   ·
    rw [if_neg c11] at H
    have c11b0 : decide (x12_1 < (y328.length : Int)) = false := decide_eq_false c11
    clear c11
    replace H := Option.bind_eq_some_iff.mp H
    obtain ⟨t333, A350, H⟩ := H
    replace H : (some (t333, 0)) = some (r1, r2) := H
    have A35 := Aside0.mk A350
    clear A350
    simp only [Option.some.injEq, Prod.mk.injEq] at H
    obtain ⟨rfl, rfl⟩ := H
    have hnb36 := NB326_327.out
    have hnc36 := NB327_326.out
    have hcz37_0 : wr.cell? ⟨gb326, 0, none⟩ = some (.int .i64 a0_0) := (blk_cell BK326.out 0).trans rfl
    have hcz37_1 : wr.cell? ⟨gb326, 1, none⟩ = some (.int .i64 a0_1) := (blk_cell BK326.out 1).trans rfl
    have hfz37_0 := blk_frozen BK326.out 0
    have hfz37_1 := blk_frozen BK326.out 1
    have hcz38_0 : wr.cell? ⟨gb327, 0, none⟩ = some (.int .i64 a1_0) := (blk_cell BK327.out 0).trans rfl
    have hcz38_1 : wr.cell? ⟨gb327, 1, none⟩ = some (.int .i64 a1_1) := (blk_cell BK327.out 1).trans rfl
    have hfz38_0 := blk_frozen BK327.out 0
    have hfz38_1 := blk_frozen BK327.out 1
    go_wp2_with (first | ((with_reducible refine gate_callee (f := 64) rfl ?_); refine goesL_ (some 37) rfl rfl Tryd.func64 (by kernel_rfl) rfl #[.agg #[.int .i64 a0_0, .int .i64 a0_1], .agg #[.int .i64 a1_0, .int .i64 a1_1]] rfl (by (try simp only [List.map_toArray, List.map_cons, List.map_nil]); first | done | rfl | (simp only [List.length_drop, List.length_take]; rfl)) ?_; (with_reducible refine (curve_compare.calls a0_0 a0_1 a1_0 a1_1 t333 _ A35.out).mono ?_); rintro e w39 ⟨rfl, hb⟩; refine ⟨_, rfl, ?_⟩; have n0_ := Aside0.mk (Kd.R_below (by (with_reducible repeat (first | apply Kd.R_alloc | apply Kd.R_drewN | apply Kd.R_drew)); exact HO_10.out) hb); have n1_ := Aside0.mk (blk_below (g := gb326) (o := .cells #[.int .i64 a0_0, .int .i64 a0_1] 25 (0, 0)) (by (with_reducible repeat (first | refine blk_drewN ?_ _ | refine blk_drew ?_ | refine blk_alloc ?_ _)); exact BK326.out) hb); have n2_ := Aside0.mk (blk_below (g := gb327) (o := .cells #[.int .i64 a1_0, .int .i64 a1_1] 25 (0, 0)) (by (with_reducible repeat (first | refine blk_drewN ?_ _ | refine blk_drew ?_ | refine blk_alloc ?_ _)); exact BK327.out) hb); have n3_ := Aside0.mk (below_step (by repeat (first | (with_reducible first | exact HB.out | apply below_alloc | apply pw_below_drewN | apply below_drew1 | refine below_set ?_ GE326.out | refine below_set ?_ GE327.out) | exact HB.out)) hb); clear HO_10; clear BK326; clear BK327; clear HB; have HO_10 := n0_; have BK326 := n1_; have BK327 := n2_; have HB := n3_; clear n0_ n1_ n2_ n3_; (try clear hb); (try clear hb2); (try clear hk); (try clear hi)))
    go_ret2
    exact ⟨by first | rfl | (simp [errW_none, errW_some] <;> rfl) | (simp [*, errW_none, errW_some] <;> rfl), by repeat (first | (with_reducible first | exact HB.out | apply below_alloc | apply pw_below_drewN | apply below_drew1 | refine below_set ?_ GE326.out | refine below_set ?_ GE327.out) | exact HB.out)⟩
def curve_asked.f (l0 : List (S57)) (a1 : Int) : Option (Int × Int × Int × Int × Int) := (curve_Check.f l0).bind fun t335 => (if t335 = 0 then ((curve_within.f l0 a1).bind fun t336 => (if t336 = true then ((curve_at.f l0 a1).bind fun bt337 => (some (bt337.1, bt337.2.1, bt337.2.2.1, bt337.2.2.2, 0))) else (some (0, 0, 0, 0, 1)))) else (some (0, 0, 0, 0, t335)))
set_option maxHeartbeats 8000000 in
set_option maxRecDepth 100000 in
theorem curve_asked.calls (A0 : Option Addr) (c0 : Nat) (l0 : List (S57)) (a1 : Int) (r1 : Int) (r2 : Int) (r3 : Int) (r4 : Int) (r5 : Int) (w : World) (hr0 : Kd.C k57 w A0 l0.length l0) (hc0 : l0.length ≤ c0) (h : curve_asked.f l0 a1 = some (r1, r2, r3, r4, r5)) :
  Calls Tryd.prog 66 #[.slice A0 l0.length c0, .int .i64 a1] w fun e w' => e = .returned (.tuple #[.agg #[.int .i64 r1, .int .i64 r2, .int .i64 r3, .int .i64 r4], .int .i64 r5]) ∧ Below w.heap.size w w' := by
 have hu72 := Tryd.underlying72
 have HR0 := Aside0.mk hr0
 have HC0 := Aside0.mk hc0
 clear hr0 hc0
 have HB := Aside0.mk (Below.refl w.heap.size w)
 have H : ((curve_Check.f l0).bind fun t335 => (if t335 = 0 then ((curve_within.f l0 a1).bind fun t336 => (if t336 = true then ((curve_at.f l0 a1).bind fun bt337 => (some (bt337.1, bt337.2.1, bt337.2.2.1, bt337.2.2.2, 0))) else (some (0, 0, 0, 0, 1)))) else (some (0, 0, 0, 0, t335)))) = some (r1, r2, r3, r4, r5) := h
 clear h
 replace H := Option.bind_eq_some_iff.mp H
 obtain ⟨t335, A30, H⟩ := H
 replace H : (if t335 = 0 then ((curve_within.f l0 a1).bind fun t336 => (if t336 = true then ((curve_at.f l0 a1).bind fun bt337 => (some (bt337.1, bt337.2.1, bt337.2.2.1, bt337.2.2.2, 0))) else (some (0, 0, 0, 0, 1)))) else (some (0, 0, 0, 0, t335))) = some (r1, r2, r3, r4, r5) := H
 have A3 := Aside0.mk A30
 clear A30
 by_cases c4 : t335 = 0
 ·
  rw [if_pos c4] at H
  have c4b0 : (t335 == 0) = true := beq_iff_eq.mpr c4
  have c4b1 : (t335 != 0) = false := bne_eq_false_iff_eq.mpr c4
  clear c4
  replace H := Option.bind_eq_some_iff.mp H
  obtain ⟨t336, A50, H⟩ := H
  replace H : (if t336 = true then ((curve_at.f l0 a1).bind fun bt337 => (some (bt337.1, bt337.2.1, bt337.2.2.1, bt337.2.2.2, 0))) else (some (0, 0, 0, 0, 1))) = some (r1, r2, r3, r4, r5) := H
  have A5 := Aside0.mk A50
  clear A50
  by_cases c6 : t336 = true
  ·
   subst c6
   have H1 : ((curve_at.f l0 a1).bind fun bt337 => (some (bt337.1, bt337.2.1, bt337.2.2.1, bt337.2.2.2, 0))) = some (r1, r2, r3, r4, r5) := by rw [if_pos rfl] at H; exact H
   clear H
   have H := H1
   clear H1
   replace H := Option.bind_eq_some_iff.mp H
   obtain ⟨⟨t337, t338, t339, t340⟩, A70, H⟩ := H
   replace H : (some (t337, t338, t339, t340, 0)) = some (r1, r2, r3, r4, r5) := H
   have A7 := Aside0.mk A70
   clear A70
   simp only [Option.some.injEq, Prod.mk.injEq] at H
   obtain ⟨rfl, rfl, rfl, rfl, rfl⟩ := H
   go_enter Tryd.func66, Tryd.ntmps66
   go_wp2_with (first | ((with_reducible refine gate_dst (N := 4) rfl ?_); refine box_event ?hg (N := 4) ?hd (cs := #[.int .i64 0, .int .i64 0, .int .i64 0, .int .i64 0]) (t := 72) ?hr ?_; (case hd => rfl); (case hg => rfl); (case hr => first | (go_simp; done) | (go_simp; rfl)); intro gb334 hg w8 hbox hb; have n0_ := Aside0.mk (below_step (by repeat (first | (with_reducible first | exact HB.out | apply below_alloc | apply pw_below_drewN | apply below_drew1) | exact HB.out)) hb); have n1_ := Aside0.mk (hbox); have n2_ := Aside0.mk ((by rw [hg]; exact (below_size (by repeat (first | (with_reducible first | exact HB.out | apply below_alloc | apply pw_below_drewN | apply below_drew1) | exact HB.out))) : w.heap.size ≤ gb334)); have n3_ := Aside0.mk ((by rw [hg]; exact (below_size (by repeat (first | (with_reducible first | exact HB.out | apply below_alloc | apply pw_below_drewN | apply below_drew1) | exact HB.out))) : w.heap.size ≤ gb334)); clear HB; have HB := n0_; have BK334 := n1_; have GW334 := n2_; have GE334 := n3_; clear n0_ n1_ n2_ n3_; clear hb hbox hg) | ((with_reducible refine gate_callee (f := 30) rfl ?_); refine goesL_ (some 8) rfl rfl Tryd.func30 (by kernel_rfl) rfl #[.slice A0 l0.length c0] rfl (by (try simp only [List.map_toArray, List.map_cons, List.map_nil]); first | done | rfl | (simp only [List.length_drop, List.length_take]; rfl)) ?_; (with_reducible refine (curve_Check.calls _ _ l0 t335 _ ?side1 ?side2 A3.out).mono ?_); (case side1 => repeat (first | exact (Kd.C_below HR0.out HB.out) | (with_reducible refine Kd.C_alloc ?_ _) | (with_reducible refine Kd.C_drewN ?_ _) | (with_reducible refine Kd.C_drew ?_))); (case side2 => exact HC0.out); rintro e w9 ⟨rfl, hb⟩; refine ⟨_, rfl, ?_⟩; have n0_ := Aside0.mk (blk_below (g := gb334) (o := .cells #[.int .i64 0, .int .i64 0, .int .i64 0, .int .i64 0] 72 (0, 0)) (by (with_reducible repeat (first | refine blk_drewN ?_ _ | refine blk_drew ?_ | refine blk_alloc ?_ _)); exact BK334.out) hb); have n1_ := Aside0.mk (below_step (by repeat (first | (with_reducible first | exact HB.out | apply below_alloc | apply pw_below_drewN | apply below_drew1 | refine below_set ?_ GE334.out) | exact HB.out)) hb); clear BK334; clear HB; have BK334 := n0_; have HB := n1_; clear n0_ n1_; (try clear hb); (try clear hb2); (try clear hk); (try clear hi)) | ((with_reducible refine gate_callee (f := 71) rfl ?_); refine goesL_ (some 15) rfl rfl Tryd.func71 (by kernel_rfl) rfl #[.slice A0 l0.length c0, .int .i64 a1] rfl (by (try simp only [List.map_toArray, List.map_cons, List.map_nil]); first | done | rfl | (simp only [List.length_drop, List.length_take]; rfl)) ?_; (with_reducible refine (curve_within.calls _ _ l0 a1 true _ ?side1 ?side2 A5.out).mono ?_); (case side1 => repeat (first | exact (Kd.C_below HR0.out HB.out) | (with_reducible refine Kd.C_alloc ?_ _) | (with_reducible refine Kd.C_drewN ?_ _) | (with_reducible refine Kd.C_drew ?_))); (case side2 => exact HC0.out); rintro e w' ⟨rfl, ⟨nd, rfl⟩⟩; refine ⟨_, rfl, ?_⟩; (try (rw [drewN_self w9]; generalize hq_ : World.drewN w9 _ = w9; have n0_ : Aside0 (w9.heap[gb334]? = some (.cells #[.int .i64 0, .int .i64 0, .int .i64 0, .int .i64 0] 72 (0, 0))) := ⟨by rw [← hq_]; exact (by (with_reducible repeat (first | refine blk_drewN ?_ _ | refine blk_drew ?_ | refine blk_alloc ?_ _)); exact BK334.out)⟩; have n1_ : Aside0 (Below w.heap.size w w9) := ⟨by rw [← hq_]; exact (by repeat (first | (with_reducible first | exact HB.out | apply below_alloc | apply pw_below_drewN | apply below_drew1 | refine below_set ?_ GE334.out) | exact HB.out))⟩; clear BK334 HB hq_; have BK334 := n0_; have HB := n1_; clear n0_ n1_))) | ((with_reducible refine gate_callee (f := 80) rfl ?_); refine goesL_ (some 20) rfl rfl Tryd.func80 (by kernel_rfl) rfl #[.slice A0 l0.length c0, .int .i64 a1] rfl (by (try simp only [List.map_toArray, List.map_cons, List.map_nil]); first | done | rfl | (simp only [List.length_drop, List.length_take]; rfl)) ?_; (with_reducible refine (curve_at.calls _ _ l0 a1 t337 t338 t339 t340 _ ?side1 ?side2 A7.out).mono ?_); (case side1 => repeat (first | exact (Kd.C_below HR0.out HB.out) | (with_reducible refine Kd.C_alloc ?_ _) | (with_reducible refine Kd.C_drewN ?_ _) | (with_reducible refine Kd.C_drew ?_))); (case side2 => exact HC0.out); rintro e w10 ⟨rfl, hb⟩; refine ⟨_, rfl, ?_⟩; have n0_ := Aside0.mk (blk_below (g := gb334) (o := .cells #[.int .i64 0, .int .i64 0, .int .i64 0, .int .i64 0] 72 (0, 0)) (by (with_reducible repeat (first | refine blk_drewN ?_ _ | refine blk_drew ?_ | refine blk_alloc ?_ _)); exact BK334.out) hb); have n1_ := Aside0.mk (below_step (by repeat (first | (with_reducible first | exact HB.out | apply below_alloc | apply pw_below_drewN | apply below_drew1 | refine below_set ?_ GE334.out) | exact HB.out)) hb); clear BK334; clear HB; have BK334 := n0_; have HB := n1_; clear n0_ n1_; (try clear hb); (try clear hb2); (try clear hk); (try clear hi); have hcz11_0 : w10.cell? ⟨gb334, 0, none⟩ = some (.int .i64 0) := (blk_cell BK334.out 0).trans rfl; have hcz11_1 : w10.cell? ⟨gb334, 1, none⟩ = some (.int .i64 0) := (blk_cell BK334.out 1).trans rfl; have hcz11_2 : w10.cell? ⟨gb334, 2, none⟩ = some (.int .i64 0) := (blk_cell BK334.out 2).trans rfl; have hcz11_3 : w10.cell? ⟨gb334, 3, none⟩ = some (.int .i64 0) := (blk_cell BK334.out 3).trans rfl; have hfz11_0 := blk_frozen BK334.out 0; have hfz11_1 := blk_frozen BK334.out 1; have hfz11_2 := blk_frozen BK334.out 2; have hfz11_3 := blk_frozen BK334.out 3))
   refine bodyPost_ret (results_ct rfl _ _ gb334 72 #[.int .i64 t337, .int .i64 t338, .int .i64 t339, .int .i64 t340] (0, 0) _ rfl (by (with_reducible repeat (first | refine blk_drewN ?_ _ | refine blk_drew ?_ | refine blk_alloc ?_ _)); refine blk_put (cs := #[.int .i64 t337, .int .i64 t338, .int .i64 t339, .int .i64 0]) ?_ 3 _ rfl; (with_reducible repeat (first | refine blk_drewN ?_ _ | refine blk_drew ?_ | refine blk_alloc ?_ _)); refine blk_put (cs := #[.int .i64 t337, .int .i64 t338, .int .i64 0, .int .i64 0]) ?_ 2 _ rfl; (with_reducible repeat (first | refine blk_drewN ?_ _ | refine blk_drew ?_ | refine blk_alloc ?_ _)); refine blk_put (cs := #[.int .i64 t337, .int .i64 0, .int .i64 0, .int .i64 0]) ?_ 1 _ rfl; (with_reducible repeat (first | refine blk_drewN ?_ _ | refine blk_drew ?_ | refine blk_alloc ?_ _)); refine blk_put (cs := #[.int .i64 0, .int .i64 0, .int .i64 0, .int .i64 0]) ?_ 0 _ rfl; (with_reducible repeat (first | refine blk_drewN ?_ _ | refine blk_drew ?_ | refine blk_alloc ?_ _)); exact BK334.out) Tryd.underlying72 rfl (by kernel_rfl)) rfl ?_
   exact ⟨by first | rfl | (simp [errW_none, errW_some] <;> rfl) | (simp [*, errW_none, errW_some] <;> rfl), by repeat (first | (with_reducible first | exact HB.out | apply below_alloc | apply pw_below_drewN | apply below_drew1 | refine below_set ?_ GE334.out) | exact HB.out)⟩
  ·
   replace c6 := Bool.eq_false_iff.mpr c6
   subst c6
   have H1 : (some (0, 0, 0, 0, 1)) = some (r1, r2, r3, r4, r5) := by rw [if_neg (show ¬ (false = true) by decide)] at H; exact H
   clear H
   have H := H1
   clear H1
   simp only [Option.some.injEq, Prod.mk.injEq] at H
   obtain ⟨rfl, rfl, rfl, rfl, rfl⟩ := H
   go_enter Tryd.func66, Tryd.ntmps66
   go_wp2_with (first | ((with_reducible refine gate_dst (N := 4) rfl ?_); refine box_event ?hg (N := 4) ?hd (cs := #[.int .i64 0, .int .i64 0, .int .i64 0, .int .i64 0]) (t := 72) ?hr ?_; (case hd => rfl); (case hg => rfl); (case hr => first | (go_simp; done) | (go_simp; rfl)); intro gb334 hg w12 hbox hb; have n0_ := Aside0.mk (below_step (by repeat (first | (with_reducible first | exact HB.out | apply below_alloc | apply pw_below_drewN | apply below_drew1) | exact HB.out)) hb); have n1_ := Aside0.mk (hbox); have n2_ := Aside0.mk ((by rw [hg]; exact (below_size (by repeat (first | (with_reducible first | exact HB.out | apply below_alloc | apply pw_below_drewN | apply below_drew1) | exact HB.out))) : w.heap.size ≤ gb334)); have n3_ := Aside0.mk ((by rw [hg]; exact (below_size (by repeat (first | (with_reducible first | exact HB.out | apply below_alloc | apply pw_below_drewN | apply below_drew1) | exact HB.out))) : w.heap.size ≤ gb334)); clear HB; have HB := n0_; have BK334 := n1_; have GW334 := n2_; have GE334 := n3_; clear n0_ n1_ n2_ n3_; clear hb hbox hg) | ((with_reducible refine gate_callee (f := 30) rfl ?_); refine goesL_ (some 8) rfl rfl Tryd.func30 (by kernel_rfl) rfl #[.slice A0 l0.length c0] rfl (by (try simp only [List.map_toArray, List.map_cons, List.map_nil]); first | done | rfl | (simp only [List.length_drop, List.length_take]; rfl)) ?_; (with_reducible refine (curve_Check.calls _ _ l0 t335 _ ?side1 ?side2 A3.out).mono ?_); (case side1 => repeat (first | exact (Kd.C_below HR0.out HB.out) | (with_reducible refine Kd.C_alloc ?_ _) | (with_reducible refine Kd.C_drewN ?_ _) | (with_reducible refine Kd.C_drew ?_))); (case side2 => exact HC0.out); rintro e w13 ⟨rfl, hb⟩; refine ⟨_, rfl, ?_⟩; have n0_ := Aside0.mk (blk_below (g := gb334) (o := .cells #[.int .i64 0, .int .i64 0, .int .i64 0, .int .i64 0] 72 (0, 0)) (by (with_reducible repeat (first | refine blk_drewN ?_ _ | refine blk_drew ?_ | refine blk_alloc ?_ _)); exact BK334.out) hb); have n1_ := Aside0.mk (below_step (by repeat (first | (with_reducible first | exact HB.out | apply below_alloc | apply pw_below_drewN | apply below_drew1 | refine below_set ?_ GE334.out) | exact HB.out)) hb); clear BK334; clear HB; have BK334 := n0_; have HB := n1_; clear n0_ n1_; (try clear hb); (try clear hb2); (try clear hk); (try clear hi)) | ((with_reducible refine gate_callee (f := 71) rfl ?_); refine goesL_ (some 15) rfl rfl Tryd.func71 (by kernel_rfl) rfl #[.slice A0 l0.length c0, .int .i64 a1] rfl (by (try simp only [List.map_toArray, List.map_cons, List.map_nil]); first | done | rfl | (simp only [List.length_drop, List.length_take]; rfl)) ?_; (with_reducible refine (curve_within.calls _ _ l0 a1 false _ ?side1 ?side2 A5.out).mono ?_); (case side1 => repeat (first | exact (Kd.C_below HR0.out HB.out) | (with_reducible refine Kd.C_alloc ?_ _) | (with_reducible refine Kd.C_drewN ?_ _) | (with_reducible refine Kd.C_drew ?_))); (case side2 => exact HC0.out); rintro e w' ⟨rfl, ⟨nd, rfl⟩⟩; refine ⟨_, rfl, ?_⟩; (try (rw [drewN_self w13]; generalize hq_ : World.drewN w13 _ = w13; have n0_ : Aside0 (w13.heap[gb334]? = some (.cells #[.int .i64 0, .int .i64 0, .int .i64 0, .int .i64 0] 72 (0, 0))) := ⟨by rw [← hq_]; exact (by (with_reducible repeat (first | refine blk_drewN ?_ _ | refine blk_drew ?_ | refine blk_alloc ?_ _)); exact BK334.out)⟩; have n1_ : Aside0 (Below w.heap.size w w13) := ⟨by rw [← hq_]; exact (by repeat (first | (with_reducible first | exact HB.out | apply below_alloc | apply pw_below_drewN | apply below_drew1 | refine below_set ?_ GE334.out) | exact HB.out))⟩; clear BK334 HB hq_; have BK334 := n0_; have HB := n1_; clear n0_ n1_)); have hcz14_0 : w13.cell? ⟨gb334, 0, none⟩ = some (.int .i64 0) := (blk_cell BK334.out 0).trans rfl; have hcz14_1 : w13.cell? ⟨gb334, 1, none⟩ = some (.int .i64 0) := (blk_cell BK334.out 1).trans rfl; have hcz14_2 : w13.cell? ⟨gb334, 2, none⟩ = some (.int .i64 0) := (blk_cell BK334.out 2).trans rfl; have hcz14_3 : w13.cell? ⟨gb334, 3, none⟩ = some (.int .i64 0) := (blk_cell BK334.out 3).trans rfl; have hfz14_0 := blk_frozen BK334.out 0; have hfz14_1 := blk_frozen BK334.out 1; have hfz14_2 := blk_frozen BK334.out 2; have hfz14_3 := blk_frozen BK334.out 3))
   refine bodyPost_ret (results_ct rfl _ _ gb334 72 #[.int .i64 0, .int .i64 0, .int .i64 0, .int .i64 0] (0, 0) _ rfl (by (with_reducible repeat (first | refine blk_drewN ?_ _ | refine blk_drew ?_ | refine blk_alloc ?_ _)); refine blk_put (cs := #[.int .i64 0, .int .i64 0, .int .i64 0, .int .i64 0]) ?_ 3 _ rfl; (with_reducible repeat (first | refine blk_drewN ?_ _ | refine blk_drew ?_ | refine blk_alloc ?_ _)); refine blk_put (cs := #[.int .i64 0, .int .i64 0, .int .i64 0, .int .i64 0]) ?_ 2 _ rfl; (with_reducible repeat (first | refine blk_drewN ?_ _ | refine blk_drew ?_ | refine blk_alloc ?_ _)); refine blk_put (cs := #[.int .i64 0, .int .i64 0, .int .i64 0, .int .i64 0]) ?_ 1 _ rfl; (with_reducible repeat (first | refine blk_drewN ?_ _ | refine blk_drew ?_ | refine blk_alloc ?_ _)); refine blk_put (cs := #[.int .i64 0, .int .i64 0, .int .i64 0, .int .i64 0]) ?_ 0 _ rfl; (with_reducible repeat (first | refine blk_drewN ?_ _ | refine blk_drew ?_ | refine blk_alloc ?_ _)); exact BK334.out) Tryd.underlying72 rfl (by kernel_rfl)) rfl ?_
   exact ⟨by first | rfl | (simp [errW_none, errW_some] <;> rfl) | (simp [*, errW_none, errW_some] <;> rfl), by repeat (first | (with_reducible first | exact HB.out | apply below_alloc | apply pw_below_drewN | apply below_drew1 | refine below_set ?_ GE334.out) | exact HB.out)⟩
 ·
  rw [if_neg c4] at H
  have c4b0 : (t335 == 0) = false := beq_eq_false_iff_ne.mpr c4
  have c4b1 : (t335 != 0) = true := bne_iff_ne.mpr c4
  simp only [Option.some.injEq, Prod.mk.injEq] at H
  obtain ⟨rfl, rfl, rfl, rfl, rfl⟩ := H
  go_enter Tryd.func66, Tryd.ntmps66
  go_wp2_with (first | ((with_reducible refine gate_dst (N := 4) rfl ?_); refine box_event ?hg (N := 4) ?hd (cs := #[.int .i64 0, .int .i64 0, .int .i64 0, .int .i64 0]) (t := 72) ?hr ?_; (case hd => rfl); (case hg => rfl); (case hr => first | (go_simp; done) | (go_simp; rfl)); intro gb334 hg w15 hbox hb; have n0_ := Aside0.mk (below_step (by repeat (first | (with_reducible first | exact HB.out | apply below_alloc | apply pw_below_drewN | apply below_drew1) | exact HB.out)) hb); have n1_ := Aside0.mk (hbox); have n2_ := Aside0.mk ((by rw [hg]; exact (below_size (by repeat (first | (with_reducible first | exact HB.out | apply below_alloc | apply pw_below_drewN | apply below_drew1) | exact HB.out))) : w.heap.size ≤ gb334)); have n3_ := Aside0.mk ((by rw [hg]; exact (below_size (by repeat (first | (with_reducible first | exact HB.out | apply below_alloc | apply pw_below_drewN | apply below_drew1) | exact HB.out))) : w.heap.size ≤ gb334)); clear HB; have HB := n0_; have BK334 := n1_; have GW334 := n2_; have GE334 := n3_; clear n0_ n1_ n2_ n3_; clear hb hbox hg) | ((with_reducible refine gate_callee (f := 30) rfl ?_); refine goesL_ (some 8) rfl rfl Tryd.func30 (by kernel_rfl) rfl #[.slice A0 l0.length c0] rfl (by (try simp only [List.map_toArray, List.map_cons, List.map_nil]); first | done | rfl | (simp only [List.length_drop, List.length_take]; rfl)) ?_; (with_reducible refine (curve_Check.calls _ _ l0 t335 _ ?side1 ?side2 A3.out).mono ?_); (case side1 => repeat (first | exact (Kd.C_below HR0.out HB.out) | (with_reducible refine Kd.C_alloc ?_ _) | (with_reducible refine Kd.C_drewN ?_ _) | (with_reducible refine Kd.C_drew ?_))); (case side2 => exact HC0.out); rintro e w16 ⟨rfl, hb⟩; refine ⟨_, rfl, ?_⟩; have n0_ := Aside0.mk (blk_below (g := gb334) (o := .cells #[.int .i64 0, .int .i64 0, .int .i64 0, .int .i64 0] 72 (0, 0)) (by (with_reducible repeat (first | refine blk_drewN ?_ _ | refine blk_drew ?_ | refine blk_alloc ?_ _)); exact BK334.out) hb); have n1_ := Aside0.mk (below_step (by repeat (first | (with_reducible first | exact HB.out | apply below_alloc | apply pw_below_drewN | apply below_drew1 | refine below_set ?_ GE334.out) | exact HB.out)) hb); clear BK334; clear HB; have BK334 := n0_; have HB := n1_; clear n0_ n1_; (try clear hb); (try clear hb2); (try clear hk); (try clear hi); have hcz17_0 : w16.cell? ⟨gb334, 0, none⟩ = some (.int .i64 0) := (blk_cell BK334.out 0).trans rfl; have hcz17_1 : w16.cell? ⟨gb334, 1, none⟩ = some (.int .i64 0) := (blk_cell BK334.out 1).trans rfl; have hcz17_2 : w16.cell? ⟨gb334, 2, none⟩ = some (.int .i64 0) := (blk_cell BK334.out 2).trans rfl; have hcz17_3 : w16.cell? ⟨gb334, 3, none⟩ = some (.int .i64 0) := (blk_cell BK334.out 3).trans rfl; have hfz17_0 := blk_frozen BK334.out 0; have hfz17_1 := blk_frozen BK334.out 1; have hfz17_2 := blk_frozen BK334.out 2; have hfz17_3 := blk_frozen BK334.out 3))
  refine bodyPost_ret (results_ct rfl _ _ gb334 72 #[.int .i64 0, .int .i64 0, .int .i64 0, .int .i64 0] (0, 0) _ rfl (by (with_reducible repeat (first | refine blk_drewN ?_ _ | refine blk_drew ?_ | refine blk_alloc ?_ _)); refine blk_put (cs := #[.int .i64 0, .int .i64 0, .int .i64 0, .int .i64 0]) ?_ 3 _ rfl; (with_reducible repeat (first | refine blk_drewN ?_ _ | refine blk_drew ?_ | refine blk_alloc ?_ _)); refine blk_put (cs := #[.int .i64 0, .int .i64 0, .int .i64 0, .int .i64 0]) ?_ 2 _ rfl; (with_reducible repeat (first | refine blk_drewN ?_ _ | refine blk_drew ?_ | refine blk_alloc ?_ _)); refine blk_put (cs := #[.int .i64 0, .int .i64 0, .int .i64 0, .int .i64 0]) ?_ 1 _ rfl; (with_reducible repeat (first | refine blk_drewN ?_ _ | refine blk_drew ?_ | refine blk_alloc ?_ _)); refine blk_put (cs := #[.int .i64 0, .int .i64 0, .int .i64 0, .int .i64 0]) ?_ 0 _ rfl; (with_reducible repeat (first | refine blk_drewN ?_ _ | refine blk_drew ?_ | refine blk_alloc ?_ _)); exact BK334.out) Tryd.underlying72 rfl (by kernel_rfl)) rfl ?_
  exact ⟨by first | rfl | (simp [errW_none, errW_some] <;> rfl) | (simp [*, errW_none, errW_some] <;> rfl), by repeat (first | (with_reducible first | exact HB.out | apply below_alloc | apply pw_below_drewN | apply below_drew1 | refine below_set ?_ GE334.out) | exact HB.out)⟩
def curve_Exact.f (k : Nat) (l0 : List (S57)) (a1 : Int) : Option (Int × Int × Int) := (curve_asked.f l0 a1).bind fun bt342 => (if bt342.2.2.2.2 = 0 then ((curve_line_exact.f k bt342.1 bt342.2.1 bt342.2.2.1 bt342.2.2.2.1 a1).bind fun bt348 => (some (bt348.1, bt348.2, 0))) else (some (0, 0, bt342.2.2.2.2)))
set_option maxHeartbeats 8000000 in
set_option maxRecDepth 100000 in
theorem curve_Exact.calls (k : Nat) (A0 : Option Addr) (c0 : Nat) (l0 : List (S57)) (a1 : Int) (r1 : Int) (r2 : Int) (r3 : Int) (w : World) (hr0 : Kd.C k57 w A0 l0.length l0) (hc0 : l0.length ≤ c0) (h : curve_Exact.f k l0 a1 = some (r1, r2, r3)) :
  Calls Tryd.prog 22 #[.slice A0 l0.length c0, .int .i64 a1] w fun e w' => e = .returned (.tuple #[.agg #[.int .i64 r1, .int .i64 r2], .int .i64 r3]) ∧ Below w.heap.size w w' := by
 have hu25 := Tryd.underlying25
 have hu72 := Tryd.underlying72
 have HR0 := Aside0.mk hr0
 have HC0 := Aside0.mk hc0
 clear hr0 hc0
 have HB := Aside0.mk (Below.refl w.heap.size w)
 have H : ((curve_asked.f l0 a1).bind fun bt342 => (if bt342.2.2.2.2 = 0 then ((curve_line_exact.f k bt342.1 bt342.2.1 bt342.2.2.1 bt342.2.2.2.1 a1).bind fun bt348 => (some (bt348.1, bt348.2, 0))) else (some (0, 0, bt342.2.2.2.2)))) = some (r1, r2, r3) := h
 clear h
 replace H := Option.bind_eq_some_iff.mp H
 obtain ⟨⟨t342, t343, t344, t345, t346⟩, A30, H⟩ := H
 replace H : (if t346 = 0 then ((curve_line_exact.f k t342 t343 t344 t345 a1).bind fun bt348 => (some (bt348.1, bt348.2, 0))) else (some (0, 0, t346))) = some (r1, r2, r3) := H
 have A3 := Aside0.mk A30
 clear A30
 by_cases c4 : t346 = 0
 ·
  rw [if_pos c4] at H
  have c4b0 : (t346 == 0) = true := beq_iff_eq.mpr c4
  have c4b1 : (t346 != 0) = false := bne_eq_false_iff_eq.mpr c4
  clear c4
  replace H := Option.bind_eq_some_iff.mp H
  obtain ⟨⟨t348, t349⟩, A50, H⟩ := H
  replace H : (some (t348, t349, 0)) = some (r1, r2, r3) := H
  have A5 := Aside0.mk A50
  clear A50
  simp only [Option.some.injEq, Prod.mk.injEq] at H
  obtain ⟨rfl, rfl, rfl⟩ := H
  go_enter Tryd.func22, Tryd.ntmps22
  go_wp2_with (first | ((with_reducible refine gate_dst (N := 4) rfl ?_); refine box_event ?hg (N := 4) ?hd (cs := #[.int .i64 0, .int .i64 0]) (t := 25) ?hr ?_; (case hd => rfl); (case hg => rfl); (case hr => first | (go_simp; done) | (go_simp; rfl)); intro gb341 hg w6 hbox hb; have n0_ := Aside0.mk (below_step (by repeat (first | (with_reducible first | exact HB.out | apply below_alloc | apply pw_below_drewN | apply below_drew1) | exact HB.out)) hb); have n1_ := Aside0.mk (hbox); have n2_ := Aside0.mk ((by rw [hg]; exact (below_size (by repeat (first | (with_reducible first | exact HB.out | apply below_alloc | apply pw_below_drewN | apply below_drew1) | exact HB.out))) : w.heap.size ≤ gb341)); have n3_ := Aside0.mk ((by rw [hg]; exact (below_size (by repeat (first | (with_reducible first | exact HB.out | apply below_alloc | apply pw_below_drewN | apply below_drew1) | exact HB.out))) : w.heap.size ≤ gb341)); clear HB; have HB := n0_; have BK341 := n1_; have GW341 := n2_; have GE341 := n3_; clear n0_ n1_ n2_ n3_; clear hb hbox hg) | ((with_reducible refine gate_callee (f := 66) rfl ?_); refine goesL_ (some 11) rfl rfl Tryd.func66 (by kernel_rfl) rfl #[.slice A0 l0.length c0, .int .i64 a1] rfl (by (try simp only [List.map_toArray, List.map_cons, List.map_nil]); first | done | rfl | (simp only [List.length_drop, List.length_take]; rfl)) ?_; (with_reducible refine (curve_asked.calls _ _ l0 a1 t342 t343 t344 t345 t346 _ ?side1 ?side2 A3.out).mono ?_); (case side1 => repeat (first | exact (Kd.C_below HR0.out HB.out) | (with_reducible refine Kd.C_alloc ?_ _) | (with_reducible refine Kd.C_drewN ?_ _) | (with_reducible refine Kd.C_drew ?_))); (case side2 => exact HC0.out); rintro e w7 ⟨rfl, hb⟩; refine ⟨_, rfl, ?_⟩; have n0_ := Aside0.mk (blk_below (g := gb341) (o := .cells #[.int .i64 0, .int .i64 0] 25 (0, 0)) (by (with_reducible repeat (first | refine blk_drewN ?_ _ | refine blk_drew ?_ | refine blk_alloc ?_ _)); exact BK341.out) hb); have n1_ := Aside0.mk (below_step (by repeat (first | (with_reducible first | exact HB.out | apply below_alloc | apply pw_below_drewN | apply below_drew1 | refine below_set ?_ GE341.out) | exact HB.out)) hb); clear BK341; clear HB; have BK341 := n0_; have HB := n1_; clear n0_ n1_; (try clear hb); (try clear hb2); (try clear hk); (try clear hi)) | ((with_reducible refine gate_dst (N := 6) rfl ?_); refine box_event ?hg (N := 6) ?hd (cs := #[.int .i64 0, .int .i64 0, .int .i64 0, .int .i64 0]) (t := 72) ?hr ?_; (case hd => rfl); (case hg => rfl); (case hr => first | (go_simp; done) | (go_simp; rfl)); intro gb347 hg w8 hbox hb; have n0_ := Aside0.mk (blk_below (g := gb341) (o := .cells #[.int .i64 0, .int .i64 0] 25 (0, 0)) (by (with_reducible repeat (first | refine blk_drewN ?_ _ | refine blk_drew ?_ | refine blk_alloc ?_ _)); exact BK341.out) hb); have n1_ := Aside0.mk (below_step (by repeat (first | (with_reducible first | exact HB.out | apply below_alloc | apply pw_below_drewN | apply below_drew1 | refine below_set ?_ GE341.out) | exact HB.out)) hb); have n2_ := Aside0.mk (hbox); have n3_ := Aside0.mk ((by rw [hg]; exact (below_size (by repeat (first | (with_reducible first | exact HB.out | apply below_alloc | apply pw_below_drewN | apply below_drew1 | refine below_set ?_ GE341.out) | exact HB.out))) : w.heap.size ≤ gb347)); have n4_ := Aside0.mk ((by rw [hg]; exact (below_size (by repeat (first | (with_reducible first | exact HB.out | apply below_alloc | apply pw_below_drewN | apply below_drew1 | refine below_set ?_ GE341.out) | exact HB.out))) : w.heap.size ≤ gb347)); have n5_ := Aside0.mk ((by rw [hg]; exact Nat.ne_of_lt (blk_lt (g := gb341) (o := .cells #[.int .i64 0, .int .i64 0] 25 (0, 0)) (by (with_reducible repeat (first | refine blk_drewN ?_ _ | refine blk_drew ?_ | refine blk_alloc ?_ _)); exact BK341.out)) : gb341 ≠ gb347)); have n6_ := Aside0.mk ((by rw [hg]; exact Nat.ne_of_gt (blk_lt (g := gb341) (o := .cells #[.int .i64 0, .int .i64 0] 25 (0, 0)) (by (with_reducible repeat (first | refine blk_drewN ?_ _ | refine blk_drew ?_ | refine blk_alloc ?_ _)); exact BK341.out)) : gb347 ≠ gb341)); clear BK341; clear HB; have BK341 := n0_; have HB := n1_; have BK347 := n2_; have GW347 := n3_; have GE347 := n4_; have NB341_347 := n5_; have NB347_341 := n6_; clear n0_ n1_ n2_ n3_ n4_ n5_ n6_; clear hb hbox hg; have hnb9 := NB347_341.out; have hnc9 := NB341_347.out; have hcz10_0 : w8.cell? ⟨gb347, 0, none⟩ = some (.int .i64 0) := (blk_cell BK347.out 0).trans rfl; have hcz10_1 : w8.cell? ⟨gb347, 1, none⟩ = some (.int .i64 0) := (blk_cell BK347.out 1).trans rfl; have hcz10_2 : w8.cell? ⟨gb347, 2, none⟩ = some (.int .i64 0) := (blk_cell BK347.out 2).trans rfl; have hcz10_3 : w8.cell? ⟨gb347, 3, none⟩ = some (.int .i64 0) := (blk_cell BK347.out 3).trans rfl; have hfz10_0 := blk_frozen BK347.out 0; have hfz10_1 := blk_frozen BK347.out 1; have hfz10_2 := blk_frozen BK347.out 2; have hfz10_3 := blk_frozen BK347.out 3) | ((with_reducible refine gate_callee (f := 67) rfl ?_); refine goesL_ (some 20) rfl rfl Tryd.func67 (by kernel_rfl) rfl #[.agg #[.int .i64 t342, .int .i64 t343, .int .i64 t344, .int .i64 t345], .int .i64 a1] rfl (by (try simp only [List.map_toArray, List.map_cons, List.map_nil]); first | done | rfl | (simp only [List.length_drop, List.length_take]; rfl)) ?_; (with_reducible refine (curve_line_exact.calls k t342 t343 t344 t345 a1 t348 t349 _ A5.out).mono ?_); rintro e w11 ⟨rfl, hb⟩; refine ⟨_, rfl, ?_⟩; have n0_ := Aside0.mk (blk_below (g := gb341) (o := .cells #[.int .i64 0, .int .i64 0] 25 (0, 0)) (by (with_reducible repeat (first | refine blk_drewN ?_ _ | refine blk_drew ?_ | refine blk_alloc ?_ _)); refine blk_far ?_ NB341_347.out _; (with_reducible repeat (first | refine blk_drewN ?_ _ | refine blk_drew ?_ | refine blk_alloc ?_ _)); refine blk_far ?_ NB341_347.out _; (with_reducible repeat (first | refine blk_drewN ?_ _ | refine blk_drew ?_ | refine blk_alloc ?_ _)); refine blk_far ?_ NB341_347.out _; (with_reducible repeat (first | refine blk_drewN ?_ _ | refine blk_drew ?_ | refine blk_alloc ?_ _)); refine blk_far ?_ NB341_347.out _; (with_reducible repeat (first | refine blk_drewN ?_ _ | refine blk_drew ?_ | refine blk_alloc ?_ _)); exact BK341.out) hb); have n1_ := Aside0.mk (blk_below (g := gb347) (o := .cells #[.int .i64 t342, .int .i64 t343, .int .i64 t344, .int .i64 t345] 72 (0, 0)) (by (with_reducible repeat (first | refine blk_drewN ?_ _ | refine blk_drew ?_ | refine blk_alloc ?_ _)); refine blk_put (cs := #[.int .i64 t342, .int .i64 t343, .int .i64 t344, .int .i64 0]) ?_ 3 _ rfl; (with_reducible repeat (first | refine blk_drewN ?_ _ | refine blk_drew ?_ | refine blk_alloc ?_ _)); refine blk_put (cs := #[.int .i64 t342, .int .i64 t343, .int .i64 0, .int .i64 0]) ?_ 2 _ rfl; (with_reducible repeat (first | refine blk_drewN ?_ _ | refine blk_drew ?_ | refine blk_alloc ?_ _)); refine blk_put (cs := #[.int .i64 t342, .int .i64 0, .int .i64 0, .int .i64 0]) ?_ 1 _ rfl; (with_reducible repeat (first | refine blk_drewN ?_ _ | refine blk_drew ?_ | refine blk_alloc ?_ _)); refine blk_put (cs := #[.int .i64 0, .int .i64 0, .int .i64 0, .int .i64 0]) ?_ 0 _ rfl; (with_reducible repeat (first | refine blk_drewN ?_ _ | refine blk_drew ?_ | refine blk_alloc ?_ _)); exact BK347.out) hb); have n2_ := Aside0.mk (below_step (by repeat (first | (with_reducible first | exact HB.out | apply below_alloc | apply pw_below_drewN | apply below_drew1 | refine below_set ?_ GE341.out | refine below_set ?_ GE347.out) | exact HB.out)) hb); clear BK341; clear BK347; clear HB; have BK341 := n0_; have BK347 := n1_; have HB := n2_; clear n0_ n1_ n2_; (try clear hb); (try clear hb2); (try clear hk); (try clear hi); have hcz12_0 : w11.cell? ⟨gb341, 0, none⟩ = some (.int .i64 0) := (blk_cell BK341.out 0).trans rfl; have hcz12_1 : w11.cell? ⟨gb341, 1, none⟩ = some (.int .i64 0) := (blk_cell BK341.out 1).trans rfl; have hfz12_0 := blk_frozen BK341.out 0; have hfz12_1 := blk_frozen BK341.out 1))
  refine bodyPost_ret (results_ct rfl _ _ gb341 25 #[.int .i64 t348, .int .i64 t349] (0, 0) _ rfl (by (with_reducible repeat (first | refine blk_drewN ?_ _ | refine blk_drew ?_ | refine blk_alloc ?_ _)); refine blk_put (cs := #[.int .i64 t348, .int .i64 0]) ?_ 1 _ rfl; (with_reducible repeat (first | refine blk_drewN ?_ _ | refine blk_drew ?_ | refine blk_alloc ?_ _)); refine blk_put (cs := #[.int .i64 0, .int .i64 0]) ?_ 0 _ rfl; (with_reducible repeat (first | refine blk_drewN ?_ _ | refine blk_drew ?_ | refine blk_alloc ?_ _)); exact BK341.out) Tryd.underlying25 rfl (by kernel_rfl)) rfl ?_
  exact ⟨by first | rfl | (simp [errW_none, errW_some] <;> rfl) | (simp [*, errW_none, errW_some] <;> rfl), by repeat (first | (with_reducible first | exact HB.out | apply below_alloc | apply pw_below_drewN | apply below_drew1 | refine below_set ?_ GE341.out | refine below_set ?_ GE347.out) | exact HB.out)⟩
 ·
  rw [if_neg c4] at H
  have c4b0 : (t346 == 0) = false := beq_eq_false_iff_ne.mpr c4
  have c4b1 : (t346 != 0) = true := bne_iff_ne.mpr c4
  simp only [Option.some.injEq, Prod.mk.injEq] at H
  obtain ⟨rfl, rfl, rfl⟩ := H
  go_enter Tryd.func22, Tryd.ntmps22
  go_wp2_with (first | ((with_reducible refine gate_dst (N := 4) rfl ?_); refine box_event ?hg (N := 4) ?hd (cs := #[.int .i64 0, .int .i64 0]) (t := 25) ?hr ?_; (case hd => rfl); (case hg => rfl); (case hr => first | (go_simp; done) | (go_simp; rfl)); intro gb341 hg w13 hbox hb; have n0_ := Aside0.mk (below_step (by repeat (first | (with_reducible first | exact HB.out | apply below_alloc | apply pw_below_drewN | apply below_drew1) | exact HB.out)) hb); have n1_ := Aside0.mk (hbox); have n2_ := Aside0.mk ((by rw [hg]; exact (below_size (by repeat (first | (with_reducible first | exact HB.out | apply below_alloc | apply pw_below_drewN | apply below_drew1) | exact HB.out))) : w.heap.size ≤ gb341)); have n3_ := Aside0.mk ((by rw [hg]; exact (below_size (by repeat (first | (with_reducible first | exact HB.out | apply below_alloc | apply pw_below_drewN | apply below_drew1) | exact HB.out))) : w.heap.size ≤ gb341)); clear HB; have HB := n0_; have BK341 := n1_; have GW341 := n2_; have GE341 := n3_; clear n0_ n1_ n2_ n3_; clear hb hbox hg) | ((with_reducible refine gate_callee (f := 66) rfl ?_); refine goesL_ (some 11) rfl rfl Tryd.func66 (by kernel_rfl) rfl #[.slice A0 l0.length c0, .int .i64 a1] rfl (by (try simp only [List.map_toArray, List.map_cons, List.map_nil]); first | done | rfl | (simp only [List.length_drop, List.length_take]; rfl)) ?_; (with_reducible refine (curve_asked.calls _ _ l0 a1 t342 t343 t344 t345 t346 _ ?side1 ?side2 A3.out).mono ?_); (case side1 => repeat (first | exact (Kd.C_below HR0.out HB.out) | (with_reducible refine Kd.C_alloc ?_ _) | (with_reducible refine Kd.C_drewN ?_ _) | (with_reducible refine Kd.C_drew ?_))); (case side2 => exact HC0.out); rintro e w14 ⟨rfl, hb⟩; refine ⟨_, rfl, ?_⟩; have n0_ := Aside0.mk (blk_below (g := gb341) (o := .cells #[.int .i64 0, .int .i64 0] 25 (0, 0)) (by (with_reducible repeat (first | refine blk_drewN ?_ _ | refine blk_drew ?_ | refine blk_alloc ?_ _)); exact BK341.out) hb); have n1_ := Aside0.mk (below_step (by repeat (first | (with_reducible first | exact HB.out | apply below_alloc | apply pw_below_drewN | apply below_drew1 | refine below_set ?_ GE341.out) | exact HB.out)) hb); clear BK341; clear HB; have BK341 := n0_; have HB := n1_; clear n0_ n1_; (try clear hb); (try clear hb2); (try clear hk); (try clear hi)) | ((with_reducible refine gate_dst (N := 6) rfl ?_); refine box_event ?hg (N := 6) ?hd (cs := #[.int .i64 0, .int .i64 0, .int .i64 0, .int .i64 0]) (t := 72) ?hr ?_; (case hd => rfl); (case hg => rfl); (case hr => first | (go_simp; done) | (go_simp; rfl)); intro gb347 hg w15 hbox hb; have n0_ := Aside0.mk (blk_below (g := gb341) (o := .cells #[.int .i64 0, .int .i64 0] 25 (0, 0)) (by (with_reducible repeat (first | refine blk_drewN ?_ _ | refine blk_drew ?_ | refine blk_alloc ?_ _)); exact BK341.out) hb); have n1_ := Aside0.mk (below_step (by repeat (first | (with_reducible first | exact HB.out | apply below_alloc | apply pw_below_drewN | apply below_drew1 | refine below_set ?_ GE341.out) | exact HB.out)) hb); have n2_ := Aside0.mk (hbox); have n3_ := Aside0.mk ((by rw [hg]; exact (below_size (by repeat (first | (with_reducible first | exact HB.out | apply below_alloc | apply pw_below_drewN | apply below_drew1 | refine below_set ?_ GE341.out) | exact HB.out))) : w.heap.size ≤ gb347)); have n4_ := Aside0.mk ((by rw [hg]; exact (below_size (by repeat (first | (with_reducible first | exact HB.out | apply below_alloc | apply pw_below_drewN | apply below_drew1 | refine below_set ?_ GE341.out) | exact HB.out))) : w.heap.size ≤ gb347)); have n5_ := Aside0.mk ((by rw [hg]; exact Nat.ne_of_lt (blk_lt (g := gb341) (o := .cells #[.int .i64 0, .int .i64 0] 25 (0, 0)) (by (with_reducible repeat (first | refine blk_drewN ?_ _ | refine blk_drew ?_ | refine blk_alloc ?_ _)); exact BK341.out)) : gb341 ≠ gb347)); have n6_ := Aside0.mk ((by rw [hg]; exact Nat.ne_of_gt (blk_lt (g := gb341) (o := .cells #[.int .i64 0, .int .i64 0] 25 (0, 0)) (by (with_reducible repeat (first | refine blk_drewN ?_ _ | refine blk_drew ?_ | refine blk_alloc ?_ _)); exact BK341.out)) : gb347 ≠ gb341)); clear BK341; clear HB; have BK341 := n0_; have HB := n1_; have BK347 := n2_; have GW347 := n3_; have GE347 := n4_; have NB341_347 := n5_; have NB347_341 := n6_; clear n0_ n1_ n2_ n3_ n4_ n5_ n6_; clear hb hbox hg; have hnb16 := NB347_341.out; have hnc16 := NB341_347.out; have hcz17_0 : w15.cell? ⟨gb347, 0, none⟩ = some (.int .i64 0) := (blk_cell BK347.out 0).trans rfl; have hcz17_1 : w15.cell? ⟨gb347, 1, none⟩ = some (.int .i64 0) := (blk_cell BK347.out 1).trans rfl; have hcz17_2 : w15.cell? ⟨gb347, 2, none⟩ = some (.int .i64 0) := (blk_cell BK347.out 2).trans rfl; have hcz17_3 : w15.cell? ⟨gb347, 3, none⟩ = some (.int .i64 0) := (blk_cell BK347.out 3).trans rfl; have hfz17_0 := blk_frozen BK347.out 0; have hfz17_1 := blk_frozen BK347.out 1; have hfz17_2 := blk_frozen BK347.out 2; have hfz17_3 := blk_frozen BK347.out 3; have hcz18_0 : w15.cell? ⟨gb341, 0, none⟩ = some (.int .i64 0) := (blk_cell BK341.out 0).trans rfl; have hcz18_1 : w15.cell? ⟨gb341, 1, none⟩ = some (.int .i64 0) := (blk_cell BK341.out 1).trans rfl; have hfz18_0 := blk_frozen BK341.out 0; have hfz18_1 := blk_frozen BK341.out 1))
  refine bodyPost_ret (results_ct rfl _ _ gb341 25 #[.int .i64 0, .int .i64 0] (0, 0) _ rfl (by (with_reducible repeat (first | refine blk_drewN ?_ _ | refine blk_drew ?_ | refine blk_alloc ?_ _)); refine blk_put (cs := #[.int .i64 0, .int .i64 0]) ?_ 1 _ rfl; (with_reducible repeat (first | refine blk_drewN ?_ _ | refine blk_drew ?_ | refine blk_alloc ?_ _)); refine blk_put (cs := #[.int .i64 0, .int .i64 0]) ?_ 0 _ rfl; (with_reducible repeat (first | refine blk_drewN ?_ _ | refine blk_drew ?_ | refine blk_alloc ?_ _)); refine blk_far ?_ NB341_347.out _; (with_reducible repeat (first | refine blk_drewN ?_ _ | refine blk_drew ?_ | refine blk_alloc ?_ _)); refine blk_far ?_ NB341_347.out _; (with_reducible repeat (first | refine blk_drewN ?_ _ | refine blk_drew ?_ | refine blk_alloc ?_ _)); refine blk_far ?_ NB341_347.out _; (with_reducible repeat (first | refine blk_drewN ?_ _ | refine blk_drew ?_ | refine blk_alloc ?_ _)); refine blk_far ?_ NB341_347.out _; (with_reducible repeat (first | refine blk_drewN ?_ _ | refine blk_drew ?_ | refine blk_alloc ?_ _)); exact BK341.out) Tryd.underlying25 rfl (by kernel_rfl)) rfl ?_
  exact ⟨by first | rfl | (simp [errW_none, errW_some] <;> rfl) | (simp [*, errW_none, errW_some] <;> rfl), by repeat (first | (with_reducible first | exact HB.out | apply below_alloc | apply pw_below_drewN | apply below_drew1 | refine below_set ?_ GE341.out | refine below_set ?_ GE347.out) | exact HB.out)⟩
def curve_Low.f (l0 : List (S57)) (a1 : Int) : Option (Int × Int) := (curve_asked.f l0 a1).bind fun bt350 => (if bt350.2.2.2.2 = 0 then ((curve_line_low.f bt350.1 bt350.2.1 bt350.2.2.1 bt350.2.2.2.1 a1).bind fun t356 => (some (t356, 0))) else (some (0, bt350.2.2.2.2)))
set_option maxHeartbeats 8000000 in
set_option maxRecDepth 100000 in
theorem curve_Low.calls (A0 : Option Addr) (c0 : Nat) (l0 : List (S57)) (a1 : Int) (r1 : Int) (r2 : Int) (w : World) (hr0 : Kd.C k57 w A0 l0.length l0) (hc0 : l0.length ≤ c0) (h : curve_Low.f l0 a1 = some (r1, r2)) :
  Calls Tryd.prog 24 #[.slice A0 l0.length c0, .int .i64 a1] w fun e w' => e = .returned (.tuple #[.int .i64 r1, .int .i64 r2]) ∧ Below w.heap.size w w' := by
 have hu72 := Tryd.underlying72
 have HR0 := Aside0.mk hr0
 have HC0 := Aside0.mk hc0
 clear hr0 hc0
 have HB := Aside0.mk (Below.refl w.heap.size w)
 have H : ((curve_asked.f l0 a1).bind fun bt350 => (if bt350.2.2.2.2 = 0 then ((curve_line_low.f bt350.1 bt350.2.1 bt350.2.2.1 bt350.2.2.2.1 a1).bind fun t356 => (some (t356, 0))) else (some (0, bt350.2.2.2.2)))) = some (r1, r2) := h
 clear h
 replace H := Option.bind_eq_some_iff.mp H
 obtain ⟨⟨t350, t351, t352, t353, t354⟩, A30, H⟩ := H
 replace H : (if t354 = 0 then ((curve_line_low.f t350 t351 t352 t353 a1).bind fun t356 => (some (t356, 0))) else (some (0, t354))) = some (r1, r2) := H
 have A3 := Aside0.mk A30
 clear A30
 by_cases c4 : t354 = 0
 ·
  rw [if_pos c4] at H
  have c4b0 : (t354 == 0) = true := beq_iff_eq.mpr c4
  have c4b1 : (t354 != 0) = false := bne_eq_false_iff_eq.mpr c4
  clear c4
  replace H := Option.bind_eq_some_iff.mp H
  obtain ⟨t356, A50, H⟩ := H
  replace H : (some (t356, 0)) = some (r1, r2) := H
  have A5 := Aside0.mk A50
  clear A50
  simp only [Option.some.injEq, Prod.mk.injEq] at H
  obtain ⟨rfl, rfl⟩ := H
  go_enter Tryd.func24, Tryd.ntmps24
  go_wp2_with (first | ((with_reducible refine gate_callee (f := 66) rfl ?_); refine goesL_ (some 11) rfl rfl Tryd.func66 (by kernel_rfl) rfl #[.slice A0 l0.length c0, .int .i64 a1] rfl (by (try simp only [List.map_toArray, List.map_cons, List.map_nil]); first | done | rfl | (simp only [List.length_drop, List.length_take]; rfl)) ?_; (with_reducible refine (curve_asked.calls _ _ l0 a1 t350 t351 t352 t353 t354 _ ?side1 ?side2 A3.out).mono ?_); (case side1 => repeat (first | exact HR0.out | (with_reducible refine Kd.C_alloc ?_ _) | (with_reducible refine Kd.C_drewN ?_ _) | (with_reducible refine Kd.C_drew ?_))); (case side2 => exact HC0.out); rintro e w6 ⟨rfl, hb⟩; refine ⟨_, rfl, ?_⟩; have n0_ := Aside0.mk (below_step (by repeat (first | (with_reducible first | exact HB.out | apply below_alloc | apply pw_below_drewN | apply below_drew1) | exact HB.out)) hb); clear HB; have HB := n0_; clear n0_; (try clear hb); (try clear hb2); (try clear hk); (try clear hi)) | ((with_reducible refine gate_dst (N := 6) rfl ?_); refine box_event ?hg (N := 6) ?hd (cs := #[.int .i64 0, .int .i64 0, .int .i64 0, .int .i64 0]) (t := 72) ?hr ?_; (case hd => rfl); (case hg => rfl); (case hr => first | (go_simp; done) | (go_simp; rfl)); intro gb355 hg w7 hbox hb; have n0_ := Aside0.mk (below_step (by repeat (first | (with_reducible first | exact HB.out | apply below_alloc | apply pw_below_drewN | apply below_drew1) | exact HB.out)) hb); have n1_ := Aside0.mk (hbox); have n2_ := Aside0.mk ((by rw [hg]; exact (below_size (by repeat (first | (with_reducible first | exact HB.out | apply below_alloc | apply pw_below_drewN | apply below_drew1) | exact HB.out))) : w.heap.size ≤ gb355)); have n3_ := Aside0.mk ((by rw [hg]; exact (below_size (by repeat (first | (with_reducible first | exact HB.out | apply below_alloc | apply pw_below_drewN | apply below_drew1) | exact HB.out))) : w.heap.size ≤ gb355)); clear HB; have HB := n0_; have BK355 := n1_; have GW355 := n2_; have GE355 := n3_; clear n0_ n1_ n2_ n3_; clear hb hbox hg; have hcz8_0 : w7.cell? ⟨gb355, 0, none⟩ = some (.int .i64 0) := (blk_cell BK355.out 0).trans rfl; have hcz8_1 : w7.cell? ⟨gb355, 1, none⟩ = some (.int .i64 0) := (blk_cell BK355.out 1).trans rfl; have hcz8_2 : w7.cell? ⟨gb355, 2, none⟩ = some (.int .i64 0) := (blk_cell BK355.out 2).trans rfl; have hcz8_3 : w7.cell? ⟨gb355, 3, none⟩ = some (.int .i64 0) := (blk_cell BK355.out 3).trans rfl; have hfz8_0 := blk_frozen BK355.out 0; have hfz8_1 := blk_frozen BK355.out 1; have hfz8_2 := blk_frozen BK355.out 2; have hfz8_3 := blk_frozen BK355.out 3) | ((with_reducible refine gate_callee (f := 69) rfl ?_); refine goesL_ (some 19) rfl rfl Tryd.func69 (by kernel_rfl) rfl #[.agg #[.int .i64 t350, .int .i64 t351, .int .i64 t352, .int .i64 t353], .int .i64 a1] rfl (by (try simp only [List.map_toArray, List.map_cons, List.map_nil]); first | done | rfl | (simp only [List.length_drop, List.length_take]; rfl)) ?_; (with_reducible refine (curve_line_low.calls t350 t351 t352 t353 a1 t356 _ A5.out).mono ?_); rintro e w9 ⟨rfl, hb⟩; refine ⟨_, rfl, ?_⟩; have n0_ := Aside0.mk (blk_below (g := gb355) (o := .cells #[.int .i64 t350, .int .i64 t351, .int .i64 t352, .int .i64 t353] 72 (0, 0)) (by (with_reducible repeat (first | refine blk_drewN ?_ _ | refine blk_drew ?_ | refine blk_alloc ?_ _)); refine blk_put (cs := #[.int .i64 t350, .int .i64 t351, .int .i64 t352, .int .i64 0]) ?_ 3 _ rfl; (with_reducible repeat (first | refine blk_drewN ?_ _ | refine blk_drew ?_ | refine blk_alloc ?_ _)); refine blk_put (cs := #[.int .i64 t350, .int .i64 t351, .int .i64 0, .int .i64 0]) ?_ 2 _ rfl; (with_reducible repeat (first | refine blk_drewN ?_ _ | refine blk_drew ?_ | refine blk_alloc ?_ _)); refine blk_put (cs := #[.int .i64 t350, .int .i64 0, .int .i64 0, .int .i64 0]) ?_ 1 _ rfl; (with_reducible repeat (first | refine blk_drewN ?_ _ | refine blk_drew ?_ | refine blk_alloc ?_ _)); refine blk_put (cs := #[.int .i64 0, .int .i64 0, .int .i64 0, .int .i64 0]) ?_ 0 _ rfl; (with_reducible repeat (first | refine blk_drewN ?_ _ | refine blk_drew ?_ | refine blk_alloc ?_ _)); exact BK355.out) hb); have n1_ := Aside0.mk (below_step (by repeat (first | (with_reducible first | exact HB.out | apply below_alloc | apply pw_below_drewN | apply below_drew1 | refine below_set ?_ GE355.out) | exact HB.out)) hb); clear BK355; clear HB; have BK355 := n0_; have HB := n1_; clear n0_ n1_; (try clear hb); (try clear hb2); (try clear hk); (try clear hi)))
  go_ret2
  exact ⟨by first | rfl | (simp [errW_none, errW_some] <;> rfl) | (simp [*, errW_none, errW_some] <;> rfl), by repeat (first | (with_reducible first | exact HB.out | apply below_alloc | apply pw_below_drewN | apply below_drew1 | refine below_set ?_ GE355.out) | exact HB.out)⟩
 ·
  rw [if_neg c4] at H
  have c4b0 : (t354 == 0) = false := beq_eq_false_iff_ne.mpr c4
  have c4b1 : (t354 != 0) = true := bne_iff_ne.mpr c4
  simp only [Option.some.injEq, Prod.mk.injEq] at H
  obtain ⟨rfl, rfl⟩ := H
  go_enter Tryd.func24, Tryd.ntmps24
  go_wp2_with (first | ((with_reducible refine gate_callee (f := 66) rfl ?_); refine goesL_ (some 11) rfl rfl Tryd.func66 (by kernel_rfl) rfl #[.slice A0 l0.length c0, .int .i64 a1] rfl (by (try simp only [List.map_toArray, List.map_cons, List.map_nil]); first | done | rfl | (simp only [List.length_drop, List.length_take]; rfl)) ?_; (with_reducible refine (curve_asked.calls _ _ l0 a1 t350 t351 t352 t353 t354 _ ?side1 ?side2 A3.out).mono ?_); (case side1 => repeat (first | exact HR0.out | (with_reducible refine Kd.C_alloc ?_ _) | (with_reducible refine Kd.C_drewN ?_ _) | (with_reducible refine Kd.C_drew ?_))); (case side2 => exact HC0.out); rintro e w10 ⟨rfl, hb⟩; refine ⟨_, rfl, ?_⟩; have n0_ := Aside0.mk (below_step (by repeat (first | (with_reducible first | exact HB.out | apply below_alloc | apply pw_below_drewN | apply below_drew1) | exact HB.out)) hb); clear HB; have HB := n0_; clear n0_; (try clear hb); (try clear hb2); (try clear hk); (try clear hi)) | ((with_reducible refine gate_dst (N := 6) rfl ?_); refine box_event ?hg (N := 6) ?hd (cs := #[.int .i64 0, .int .i64 0, .int .i64 0, .int .i64 0]) (t := 72) ?hr ?_; (case hd => rfl); (case hg => rfl); (case hr => first | (go_simp; done) | (go_simp; rfl)); intro gb355 hg w11 hbox hb; have n0_ := Aside0.mk (below_step (by repeat (first | (with_reducible first | exact HB.out | apply below_alloc | apply pw_below_drewN | apply below_drew1) | exact HB.out)) hb); have n1_ := Aside0.mk (hbox); have n2_ := Aside0.mk ((by rw [hg]; exact (below_size (by repeat (first | (with_reducible first | exact HB.out | apply below_alloc | apply pw_below_drewN | apply below_drew1) | exact HB.out))) : w.heap.size ≤ gb355)); have n3_ := Aside0.mk ((by rw [hg]; exact (below_size (by repeat (first | (with_reducible first | exact HB.out | apply below_alloc | apply pw_below_drewN | apply below_drew1) | exact HB.out))) : w.heap.size ≤ gb355)); clear HB; have HB := n0_; have BK355 := n1_; have GW355 := n2_; have GE355 := n3_; clear n0_ n1_ n2_ n3_; clear hb hbox hg; have hcz12_0 : w11.cell? ⟨gb355, 0, none⟩ = some (.int .i64 0) := (blk_cell BK355.out 0).trans rfl; have hcz12_1 : w11.cell? ⟨gb355, 1, none⟩ = some (.int .i64 0) := (blk_cell BK355.out 1).trans rfl; have hcz12_2 : w11.cell? ⟨gb355, 2, none⟩ = some (.int .i64 0) := (blk_cell BK355.out 2).trans rfl; have hcz12_3 : w11.cell? ⟨gb355, 3, none⟩ = some (.int .i64 0) := (blk_cell BK355.out 3).trans rfl; have hfz12_0 := blk_frozen BK355.out 0; have hfz12_1 := blk_frozen BK355.out 1; have hfz12_2 := blk_frozen BK355.out 2; have hfz12_3 := blk_frozen BK355.out 3))
  go_ret2
  exact ⟨by first | rfl | (simp [errW_none, errW_some] <;> rfl) | (simp [*, errW_none, errW_some] <;> rfl), by repeat (first | (with_reducible first | exact HB.out | apply below_alloc | apply pw_below_drewN | apply below_drew1 | refine below_set ?_ GE355.out) | exact HB.out)⟩
def curve_High.f (l0 : List (S57)) (a1 : Int) : Option (Int × Int) := (curve_asked.f l0 a1).bind fun bt357 => (if bt357.2.2.2.2 = 0 then ((curve_line_up.f bt357.1 bt357.2.1 bt357.2.2.1 bt357.2.2.2.1 a1).bind fun t363 => (some (t363, 0))) else (some (0, bt357.2.2.2.2)))
set_option maxHeartbeats 8000000 in
set_option maxRecDepth 100000 in
theorem curve_High.calls (A0 : Option Addr) (c0 : Nat) (l0 : List (S57)) (a1 : Int) (r1 : Int) (r2 : Int) (w : World) (hr0 : Kd.C k57 w A0 l0.length l0) (hc0 : l0.length ≤ c0) (h : curve_High.f l0 a1 = some (r1, r2)) :
  Calls Tryd.prog 26 #[.slice A0 l0.length c0, .int .i64 a1] w fun e w' => e = .returned (.tuple #[.int .i64 r1, .int .i64 r2]) ∧ Below w.heap.size w w' := by
 have hu72 := Tryd.underlying72
 have HR0 := Aside0.mk hr0
 have HC0 := Aside0.mk hc0
 clear hr0 hc0
 have HB := Aside0.mk (Below.refl w.heap.size w)
 have H : ((curve_asked.f l0 a1).bind fun bt357 => (if bt357.2.2.2.2 = 0 then ((curve_line_up.f bt357.1 bt357.2.1 bt357.2.2.1 bt357.2.2.2.1 a1).bind fun t363 => (some (t363, 0))) else (some (0, bt357.2.2.2.2)))) = some (r1, r2) := h
 clear h
 replace H := Option.bind_eq_some_iff.mp H
 obtain ⟨⟨t357, t358, t359, t360, t361⟩, A30, H⟩ := H
 replace H : (if t361 = 0 then ((curve_line_up.f t357 t358 t359 t360 a1).bind fun t363 => (some (t363, 0))) else (some (0, t361))) = some (r1, r2) := H
 have A3 := Aside0.mk A30
 clear A30
 by_cases c4 : t361 = 0
 ·
  rw [if_pos c4] at H
  have c4b0 : (t361 == 0) = true := beq_iff_eq.mpr c4
  have c4b1 : (t361 != 0) = false := bne_eq_false_iff_eq.mpr c4
  clear c4
  replace H := Option.bind_eq_some_iff.mp H
  obtain ⟨t363, A50, H⟩ := H
  replace H : (some (t363, 0)) = some (r1, r2) := H
  have A5 := Aside0.mk A50
  clear A50
  simp only [Option.some.injEq, Prod.mk.injEq] at H
  obtain ⟨rfl, rfl⟩ := H
  go_enter Tryd.func26, Tryd.ntmps26
  go_wp2_with (first | ((with_reducible refine gate_callee (f := 66) rfl ?_); refine goesL_ (some 11) rfl rfl Tryd.func66 (by kernel_rfl) rfl #[.slice A0 l0.length c0, .int .i64 a1] rfl (by (try simp only [List.map_toArray, List.map_cons, List.map_nil]); first | done | rfl | (simp only [List.length_drop, List.length_take]; rfl)) ?_; (with_reducible refine (curve_asked.calls _ _ l0 a1 t357 t358 t359 t360 t361 _ ?side1 ?side2 A3.out).mono ?_); (case side1 => repeat (first | exact HR0.out | (with_reducible refine Kd.C_alloc ?_ _) | (with_reducible refine Kd.C_drewN ?_ _) | (with_reducible refine Kd.C_drew ?_))); (case side2 => exact HC0.out); rintro e w6 ⟨rfl, hb⟩; refine ⟨_, rfl, ?_⟩; have n0_ := Aside0.mk (below_step (by repeat (first | (with_reducible first | exact HB.out | apply below_alloc | apply pw_below_drewN | apply below_drew1) | exact HB.out)) hb); clear HB; have HB := n0_; clear n0_; (try clear hb); (try clear hb2); (try clear hk); (try clear hi)) | ((with_reducible refine gate_dst (N := 6) rfl ?_); refine box_event ?hg (N := 6) ?hd (cs := #[.int .i64 0, .int .i64 0, .int .i64 0, .int .i64 0]) (t := 72) ?hr ?_; (case hd => rfl); (case hg => rfl); (case hr => first | (go_simp; done) | (go_simp; rfl)); intro gb362 hg w7 hbox hb; have n0_ := Aside0.mk (below_step (by repeat (first | (with_reducible first | exact HB.out | apply below_alloc | apply pw_below_drewN | apply below_drew1) | exact HB.out)) hb); have n1_ := Aside0.mk (hbox); have n2_ := Aside0.mk ((by rw [hg]; exact (below_size (by repeat (first | (with_reducible first | exact HB.out | apply below_alloc | apply pw_below_drewN | apply below_drew1) | exact HB.out))) : w.heap.size ≤ gb362)); have n3_ := Aside0.mk ((by rw [hg]; exact (below_size (by repeat (first | (with_reducible first | exact HB.out | apply below_alloc | apply pw_below_drewN | apply below_drew1) | exact HB.out))) : w.heap.size ≤ gb362)); clear HB; have HB := n0_; have BK362 := n1_; have GW362 := n2_; have GE362 := n3_; clear n0_ n1_ n2_ n3_; clear hb hbox hg; have hcz8_0 : w7.cell? ⟨gb362, 0, none⟩ = some (.int .i64 0) := (blk_cell BK362.out 0).trans rfl; have hcz8_1 : w7.cell? ⟨gb362, 1, none⟩ = some (.int .i64 0) := (blk_cell BK362.out 1).trans rfl; have hcz8_2 : w7.cell? ⟨gb362, 2, none⟩ = some (.int .i64 0) := (blk_cell BK362.out 2).trans rfl; have hcz8_3 : w7.cell? ⟨gb362, 3, none⟩ = some (.int .i64 0) := (blk_cell BK362.out 3).trans rfl; have hfz8_0 := blk_frozen BK362.out 0; have hfz8_1 := blk_frozen BK362.out 1; have hfz8_2 := blk_frozen BK362.out 2; have hfz8_3 := blk_frozen BK362.out 3) | ((with_reducible refine gate_callee (f := 70) rfl ?_); refine goesL_ (some 19) rfl rfl Tryd.func70 (by kernel_rfl) rfl #[.agg #[.int .i64 t357, .int .i64 t358, .int .i64 t359, .int .i64 t360], .int .i64 a1] rfl (by (try simp only [List.map_toArray, List.map_cons, List.map_nil]); first | done | rfl | (simp only [List.length_drop, List.length_take]; rfl)) ?_; (with_reducible refine (curve_line_up.calls t357 t358 t359 t360 a1 t363 _ A5.out).mono ?_); rintro e w9 ⟨rfl, hb⟩; refine ⟨_, rfl, ?_⟩; have n0_ := Aside0.mk (blk_below (g := gb362) (o := .cells #[.int .i64 t357, .int .i64 t358, .int .i64 t359, .int .i64 t360] 72 (0, 0)) (by (with_reducible repeat (first | refine blk_drewN ?_ _ | refine blk_drew ?_ | refine blk_alloc ?_ _)); refine blk_put (cs := #[.int .i64 t357, .int .i64 t358, .int .i64 t359, .int .i64 0]) ?_ 3 _ rfl; (with_reducible repeat (first | refine blk_drewN ?_ _ | refine blk_drew ?_ | refine blk_alloc ?_ _)); refine blk_put (cs := #[.int .i64 t357, .int .i64 t358, .int .i64 0, .int .i64 0]) ?_ 2 _ rfl; (with_reducible repeat (first | refine blk_drewN ?_ _ | refine blk_drew ?_ | refine blk_alloc ?_ _)); refine blk_put (cs := #[.int .i64 t357, .int .i64 0, .int .i64 0, .int .i64 0]) ?_ 1 _ rfl; (with_reducible repeat (first | refine blk_drewN ?_ _ | refine blk_drew ?_ | refine blk_alloc ?_ _)); refine blk_put (cs := #[.int .i64 0, .int .i64 0, .int .i64 0, .int .i64 0]) ?_ 0 _ rfl; (with_reducible repeat (first | refine blk_drewN ?_ _ | refine blk_drew ?_ | refine blk_alloc ?_ _)); exact BK362.out) hb); have n1_ := Aside0.mk (below_step (by repeat (first | (with_reducible first | exact HB.out | apply below_alloc | apply pw_below_drewN | apply below_drew1 | refine below_set ?_ GE362.out) | exact HB.out)) hb); clear BK362; clear HB; have BK362 := n0_; have HB := n1_; clear n0_ n1_; (try clear hb); (try clear hb2); (try clear hk); (try clear hi)))
  go_ret2
  exact ⟨by first | rfl | (simp [errW_none, errW_some] <;> rfl) | (simp [*, errW_none, errW_some] <;> rfl), by repeat (first | (with_reducible first | exact HB.out | apply below_alloc | apply pw_below_drewN | apply below_drew1 | refine below_set ?_ GE362.out) | exact HB.out)⟩
 ·
  rw [if_neg c4] at H
  have c4b0 : (t361 == 0) = false := beq_eq_false_iff_ne.mpr c4
  have c4b1 : (t361 != 0) = true := bne_iff_ne.mpr c4
  simp only [Option.some.injEq, Prod.mk.injEq] at H
  obtain ⟨rfl, rfl⟩ := H
  go_enter Tryd.func26, Tryd.ntmps26
  go_wp2_with (first | ((with_reducible refine gate_callee (f := 66) rfl ?_); refine goesL_ (some 11) rfl rfl Tryd.func66 (by kernel_rfl) rfl #[.slice A0 l0.length c0, .int .i64 a1] rfl (by (try simp only [List.map_toArray, List.map_cons, List.map_nil]); first | done | rfl | (simp only [List.length_drop, List.length_take]; rfl)) ?_; (with_reducible refine (curve_asked.calls _ _ l0 a1 t357 t358 t359 t360 t361 _ ?side1 ?side2 A3.out).mono ?_); (case side1 => repeat (first | exact HR0.out | (with_reducible refine Kd.C_alloc ?_ _) | (with_reducible refine Kd.C_drewN ?_ _) | (with_reducible refine Kd.C_drew ?_))); (case side2 => exact HC0.out); rintro e w10 ⟨rfl, hb⟩; refine ⟨_, rfl, ?_⟩; have n0_ := Aside0.mk (below_step (by repeat (first | (with_reducible first | exact HB.out | apply below_alloc | apply pw_below_drewN | apply below_drew1) | exact HB.out)) hb); clear HB; have HB := n0_; clear n0_; (try clear hb); (try clear hb2); (try clear hk); (try clear hi)) | ((with_reducible refine gate_dst (N := 6) rfl ?_); refine box_event ?hg (N := 6) ?hd (cs := #[.int .i64 0, .int .i64 0, .int .i64 0, .int .i64 0]) (t := 72) ?hr ?_; (case hd => rfl); (case hg => rfl); (case hr => first | (go_simp; done) | (go_simp; rfl)); intro gb362 hg w11 hbox hb; have n0_ := Aside0.mk (below_step (by repeat (first | (with_reducible first | exact HB.out | apply below_alloc | apply pw_below_drewN | apply below_drew1) | exact HB.out)) hb); have n1_ := Aside0.mk (hbox); have n2_ := Aside0.mk ((by rw [hg]; exact (below_size (by repeat (first | (with_reducible first | exact HB.out | apply below_alloc | apply pw_below_drewN | apply below_drew1) | exact HB.out))) : w.heap.size ≤ gb362)); have n3_ := Aside0.mk ((by rw [hg]; exact (below_size (by repeat (first | (with_reducible first | exact HB.out | apply below_alloc | apply pw_below_drewN | apply below_drew1) | exact HB.out))) : w.heap.size ≤ gb362)); clear HB; have HB := n0_; have BK362 := n1_; have GW362 := n2_; have GE362 := n3_; clear n0_ n1_ n2_ n3_; clear hb hbox hg; have hcz12_0 : w11.cell? ⟨gb362, 0, none⟩ = some (.int .i64 0) := (blk_cell BK362.out 0).trans rfl; have hcz12_1 : w11.cell? ⟨gb362, 1, none⟩ = some (.int .i64 0) := (blk_cell BK362.out 1).trans rfl; have hcz12_2 : w11.cell? ⟨gb362, 2, none⟩ = some (.int .i64 0) := (blk_cell BK362.out 2).trans rfl; have hcz12_3 : w11.cell? ⟨gb362, 3, none⟩ = some (.int .i64 0) := (blk_cell BK362.out 3).trans rfl; have hfz12_0 := blk_frozen BK362.out 0; have hfz12_1 := blk_frozen BK362.out 1; have hfz12_2 := blk_frozen BK362.out 2; have hfz12_3 := blk_frozen BK362.out 3))
  go_ret2
  exact ⟨by first | rfl | (simp [errW_none, errW_some] <;> rfl) | (simp [*, errW_none, errW_some] <;> rfl), by repeat (first | (with_reducible first | exact HB.out | apply below_alloc | apply pw_below_drewN | apply below_drew1 | refine below_set ?_ GE362.out) | exact HB.out)⟩
def curve_checked.f (k : Nat) (l0 : List (S57)) (l1 : List (S57)) : Option (Int) := (curve_Check.f l0).bind fun t364 => ((curve_Check.f l1).bind fun t365 => ((cmp_Or.f k (([t364, t365] : List Int))).bind fun t369 => (some t369)))
set_option maxHeartbeats 8000000 in
set_option maxRecDepth 100000 in
theorem curve_checked.calls (k : Nat) (A0 : Option Addr) (c0 : Nat) (l0 : List (S57)) (A1 : Option Addr) (c1 : Nat) (l1 : List (S57)) (r : Int) (w : World) (hr0 : Kd.C k57 w A0 l0.length l0) (hc0 : l0.length ≤ c0) (hr1 : Kd.C k57 w A1 l1.length l1) (hc1 : l1.length ≤ c1) (h : curve_checked.f k l0 l1 = some r) :
  Calls Tryd.prog 82 #[.slice A0 l0.length c0, .slice A1 l1.length c1] w fun e w' => e = .returned (.int .i64 r) ∧ Below w.heap.size w w' := by
 have HR0 := Aside0.mk hr0
 have HC0 := Aside0.mk hc0
 clear hr0 hc0
 have HR1 := Aside0.mk hr1
 have HC1 := Aside0.mk hc1
 clear hr1 hc1
 have HB := Aside0.mk (Below.refl w.heap.size w)
 have H : ((curve_Check.f l0).bind fun t364 => ((curve_Check.f l1).bind fun t365 => ((cmp_Or.f k (([t364, t365] : List Int))).bind fun t369 => (some t369)))) = some r := h
 clear h
 replace H := Option.bind_eq_some_iff.mp H
 obtain ⟨t364, A30, H⟩ := H
 replace H : ((curve_Check.f l1).bind fun t365 => ((cmp_Or.f k (([t364, t365] : List Int))).bind fun t369 => (some t369))) = some r := H
 have A3 := Aside0.mk A30
 clear A30
 replace H := Option.bind_eq_some_iff.mp H
 obtain ⟨t365, A40, H⟩ := H
 replace H : ((cmp_Or.f k (([t364, t365] : List Int))).bind fun t369 => (some t369)) = some r := H
 have A4 := Aside0.mk A40
 clear A40
 obtain ⟨y366, hy366⟩ : ∃ y_ : List Int, y_ = (([t364, t365] : List Int)) := ⟨_, rfl⟩
 replace H : ((cmp_Or.f k y366).bind fun t369 => (some t369)) = some r := by first | (rw [hy366]; with_reducible exact H) | (have H2_ := (Option.bind_some _ _).symm.trans H; rw [hy366]; with_reducible exact H2_) | (have H2_ := (Option.bind_some _ _).symm.trans H; with_reducible exact H2_) | with_reducible exact H | (rw [hy366]; exact H) | exact H
 have Ny366 := Aside0.mk hy366
 clear hy366
 replace H := Option.bind_eq_some_iff.mp H
 obtain ⟨t369, A50, H⟩ := H
 replace H : (some t369) = some r := H
 have A5 := Aside0.mk A50
 clear A50
 obtain rfl := Option.some.inj H
 go_enter Tryd.func82, Tryd.ntmps82
 go_wp2_with (first | ((with_reducible refine gate_callee (f := 30) rfl ?_); refine goesL_ (some 6) rfl rfl Tryd.func30 (by kernel_rfl) rfl #[.slice A0 l0.length c0] rfl (by (try simp only [List.map_toArray, List.map_cons, List.map_nil]); first | done | rfl | (simp only [List.length_drop, List.length_take]; rfl)) ?_; (with_reducible refine (curve_Check.calls _ _ l0 t364 _ ?side1 ?side2 A3.out).mono ?_); (case side1 => repeat (first | exact HR0.out | (with_reducible refine Kd.C_alloc ?_ _) | (with_reducible refine Kd.C_drewN ?_ _) | (with_reducible refine Kd.C_drew ?_))); (case side2 => exact HC0.out); rintro e w6 ⟨rfl, hb⟩; refine ⟨_, rfl, ?_⟩; have n0_ := Aside0.mk (below_step (by repeat (first | (with_reducible first | exact HB.out | apply below_alloc | apply pw_below_drewN | apply below_drew1) | exact HB.out)) hb); clear HB; have HB := n0_; clear n0_; (try clear hb); (try clear hb2); (try clear hk); (try clear hi)) | ((with_reducible refine gate_callee (f := 30) rfl ?_); refine goesL_ (some 8) rfl rfl Tryd.func30 (by kernel_rfl) rfl #[.slice A1 l1.length c1] rfl (by (try simp only [List.map_toArray, List.map_cons, List.map_nil]); first | done | rfl | (simp only [List.length_drop, List.length_take]; rfl)) ?_; (with_reducible refine (curve_Check.calls _ _ l1 t365 _ ?side1 ?side2 A4.out).mono ?_); (case side1 => repeat (first | exact (Kd.C_below HR1.out HB.out) | (with_reducible refine Kd.C_alloc ?_ _) | (with_reducible refine Kd.C_drewN ?_ _) | (with_reducible refine Kd.C_drew ?_))); (case side2 => exact HC1.out); rintro e w7 ⟨rfl, hb⟩; refine ⟨_, rfl, ?_⟩; have n0_ := Aside0.mk (below_step (by repeat (first | (with_reducible first | exact HB.out | apply below_alloc | apply pw_below_drewN | apply below_drew1) | exact HB.out)) hb); clear HB; have HB := n0_; clear n0_; (try clear hb); (try clear hb2); (try clear hk); (try clear hi)) | ((with_reducible refine gate_dst (N := 9) rfl ?_); refine Kd.R_lit (Kd.int .i64) _ 28 ?hg (N := 9) ?hd (xs := ([t364, t365] : List Int)) (inner := [.int .i64 t364, .int .i64 t365]) (ok := fun _ => True) (okp := fun _ => True) ?hr ?hp (fun _ hk => hk) trivial (Below.refl _ _) (Nat.le_refl _) (by simp) ?_; (case hd => rfl); (case hg => rfl); (case hr => first | (go_simp; done) | (go_simp; rfl)); (case hp => exact (Reps.one (show Kd.M (Kd.int .i64) _ _ _ t364 [.int .i64 t364] from rfl) (Reps.one (show Kd.M (Kd.int .i64) _ _ _ t365 [.int .i64 t365] from rfl) (Reps.none _ _)))); intro v367 w8 ho9 hb hg_ hnew_; clear hg_ hnew_; (first | rw [← Ny366.out] at ho9 | (simp only [Int.reduceToNat] at ho9; rw [← Ny366.out] at ho9)); have n0_ := Aside0.mk (Kd.R_lower ho9 (below_size (by repeat (first | (with_reducible first | exact HB.out | apply below_alloc | apply pw_below_drewN | apply below_drew1) | exact HB.out)))); have n1_ := Aside0.mk (below_step (by repeat (first | (with_reducible first | exact HB.out | apply below_alloc | apply pw_below_drewN | apply below_drew1) | exact HB.out)) hb); clear HB; have HO368 := n0_; have HB := n1_; clear n0_ n1_; clear hb ho9; obtain ⟨Ao10, co10, eo10⟩ := Kd.R_slice HO368.out; subst eo10) | ((with_reducible refine gate_callee (f := 104) rfl ?_); refine goesL_ (some 10) rfl rfl Tryd.func104 (by kernel_rfl) rfl #[.slice Ao10 y366.length co10] rfl (by (try simp only [List.map_toArray, List.map_cons, List.map_nil]); first | done | rfl | (simp only [List.length_drop, List.length_take]; rfl)) ?_; (with_reducible refine (cmp_Or.calls k _ _ y366 t369 _ ?side1 ?side2 A5.out).mono ?_); (case side1 => repeat (first | exact (Kd.R_reads' HO368.out).2.2 | (with_reducible refine Kd.C_alloc ?_ _) | (with_reducible refine Kd.C_drewN ?_ _) | (with_reducible refine Kd.C_drew ?_))); (case side2 => exact (Kd.R_reads' HO368.out).2.1); rintro e w' ⟨rfl, ⟨nd, rfl⟩⟩; refine ⟨_, rfl, ?_⟩))
 go_ret
 exact ⟨by first | rfl | (simp [errW_none, errW_some] <;> rfl) | (simp [*, errW_none, errW_some] <;> rfl), by repeat (first | (with_reducible first | exact HB.out | apply below_alloc | apply pw_below_drewN | apply below_drew1) | exact HB.out)⟩
def curve_bounded.j0 : Nat → List (S57) → Bool → Option ((List (S57)) × Int)
 | 0, _, _ => none
 | k + 1, x0, x11 => if x11 = true then (some (([] : List (S57)), 2)) else (some (x0, 0))
def curve_bounded.f (k : Nat) (l0 : List (S57)) : Option ((List (S57)) × Int) := if (l0.length : Int) > 64 then (curve_bounded.j0 k l0 true) else ((curve_right.f l0).bind fun t370 => (curve_bounded.j0 k l0 (!t370)))
set_option maxHeartbeats 8000000 in
set_option maxRecDepth 100000 in
theorem curve_bounded.calls (k : Nat) (P0_ : Nat → Prop) (u9000_ : Value) (l0 : List (S57)) (r1 : List (S57)) (r2 : Int) (w0 w : World) (hB : Below w0.heap.size w0 w) (ho0 : Kd.R k57 57 w w0.heap.size P0_ u9000_ l0) (h : curve_bounded.f k l0 = some (r1, r2)) :
  Calls Tryd.prog 89 #[u9000_] w fun e w' => ∃ v0_ : Value, e = .returned (.tuple #[v0_, .int .i64 r2]) ∧ Kd.R k57 57 w' w0.heap.size (fun k_ => (P0_ k_ ∨ w.heap.size ≤ k_)) v0_ r1 ∧ Below w0.heap.size w0 w' ∧ Kept w w' (fun k_ => P0_ k_) := by
 have HO0 := Aside0.mk (show Kd.R k57 57 w w0.heap.size (fun k_ => (P0_ k_ ∨ w.heap.size ≤ k_)) u9000_ l0 from Kd.R_mono ho0 (fun k_ hk => (.inl hk)))
 have HK := Aside0.mk (Kept.refl w (fun k_ => P0_ k_))
 have HW0 := Aside0.mk hB.size
 have HB := Aside0.mk hB
 clear hB
 have H : (if (l0.length : Int) > 64 then (curve_bounded.j0 k l0 true) else ((curve_right.f l0).bind fun t370 => (curve_bounded.j0 k l0 (!t370)))) = some (r1, r2) := h
 clear h
 have HC2 := Aside0.mk H
 clear H
 go_enter Tryd.func89, Tryd.ntmps89
 go_upto_region 1 with (fail)
 go_cut [11] (fun v11 wc => ∃ (kq : Nat) (x11_1 : Bool), v11 = .bool x11_1 ∧ Aside0 (curve_bounded.j0 kq l0 x11_1 = some (r1, r2)) ∧ Aside0 (kq ≤ k) ∧ Aside0 (Kd.R k57 57 wc w0.heap.size (fun k_ => (P0_ k_ ∨ w.heap.size ≤ k_)) u9000_ l0) ∧ Aside0 (Kept w wc (fun k_ => P0_ k_)) ∧ Aside0 (Below w0.heap.size w0 wc))
 case first =>
  have H := HC2.out
  clear HC2
  by_cases c3 : (l0.length : Int) > 64
  ·
   rw [if_pos c3] at H
   have c3b0 : decide (64 < (l0.length : Int)) = true := decide_eq_true c3
   have c3b1 : decide (64 < l0.length) = true := decide_eq_true (by omega)
   clear c3
   (first | rw [c3b0] | (simp only [i64_w, i32_w]; rw [c3b0]) | skip)
   have H' := Aside0.mk H
   clear H
   obtain ⟨Ao4, co4, eo4⟩ := Kd.R_slice HO0.out
   subst eo4
   go_wp2
   go_meet
   case rel => exact ⟨_, (true), (by first | rfl | (simp; done) | (simp [*]; done)), H', ⟨by first | omega | exact Nat.le_refl _⟩, ⟨by (with_reducible repeat (first | apply Kd.R_alloc | apply Kd.R_drewN | apply Kd.R_drew)); exact HO0.out⟩, ⟨by repeat (first | (with_reducible first | exact HK.out | apply Kept.alloc | apply Kept.drewN | apply Kept.drew) | exact HK.out)⟩, ⟨by repeat (first | (with_reducible first | exact HB.out | apply below_alloc | apply pw_below_drewN | apply below_drew1) | exact HB.out)⟩⟩
  ·
   rw [if_neg c3] at H
   have c3b0 : decide (64 < (l0.length : Int)) = false := decide_eq_false c3
   have c3b1 : decide (64 < l0.length) = false := decide_eq_false (by omega)
   clear c3
   (first | rw [c3b0] | (simp only [i64_w, i32_w]; rw [c3b0]) | skip)
   replace H := Option.bind_eq_some_iff.mp H
   obtain ⟨t370, A50, H⟩ := H
   replace H : (curve_bounded.j0 k l0 (!t370)) = some (r1, r2) := H
   have A5 := Aside0.mk A50
   clear A50
   have H' := Aside0.mk H
   clear H
   obtain ⟨Ao6, co6, eo6⟩ := Kd.R_slice HO0.out
   subst eo6
   go_wp2_with (first | (go_at_call 77; (with_reducible refine (curve_right.calls _ _ l0 t370 _ ?side1 ?side2 A5.out).mono ?_); (case side1 => repeat (first | exact (Kd.R_reads' HO0.out).2.2 | (with_reducible refine Kd.C_alloc ?_ _) | (with_reducible refine Kd.C_drewN ?_ _) | (with_reducible refine Kd.C_drew ?_))); (case side2 => exact (Kd.R_reads' HO0.out).2.1); rintro e w7 ⟨rfl, hb⟩; have n0_ := Aside0.mk (Kd.R_below (by (with_reducible repeat (first | apply Kd.R_alloc | apply Kd.R_drewN | apply Kd.R_drew)); exact HO0.out) hb); have n1_ := Aside0.mk (Kept.below (S := (fun k_ => P0_ k_)) (by repeat (first | (with_reducible first | exact HK.out | apply Kept.alloc | apply Kept.drewN | apply Kept.drew) | exact HK.out)) hb); have n2_ := Aside0.mk (below_step (by repeat (first | (with_reducible first | exact HB.out | apply below_alloc | apply pw_below_drewN | apply below_drew1) | exact HB.out)) hb); clear HO0; clear HK; clear HB; have HO0 := n0_; have HK := n1_; have HB := n2_; clear n0_ n1_ n2_; (try clear hb); (try clear hb2); (try clear hk); (try clear hi)))
   go_meet
   case rel => exact ⟨_, (!t370), (by first | rfl | (simp; done) | (simp [*]; done)), H', ⟨by first | omega | exact Nat.le_refl _⟩, ⟨by (with_reducible repeat (first | apply Kd.R_alloc | apply Kd.R_drewN | apply Kd.R_drew)); exact HO0.out⟩, ⟨by repeat (first | (with_reducible first | exact HK.out | apply Kept.alloc | apply Kept.drewN | apply Kept.drew) | exact HK.out)⟩, ⟨by repeat (first | (with_reducible first | exact HB.out | apply below_alloc | apply pw_below_drewN | apply below_drew1) | exact HB.out)⟩⟩
 case rest =>
  clear HC2
  try clear p2
  try clear c3
  try clear c3b0
  try clear c3b1
  obtain ⟨kq, x11_1, rfl, HA, HJ1, HO_0, HK, HB⟩ := hcut
  cases kq with
  | zero => exact absurd HA.out (by simp [curve_bounded.j0])
  | succ kj1 =>
   have H := HA.out
   clear HA
   simp only [curve_bounded.j0] at H
   by_cases c8 : x11_1 = true
   ·
    subst c8
    have H1 : (some (([] : List (S57)), 2)) = some (r1, r2) := by rw [if_pos rfl] at H; exact H
    clear H
    have H := H1
    clear H1
    simp only [Option.some.injEq, Prod.mk.injEq] at H
    obtain ⟨rfl, rfl⟩ := H
    go_wp2
    go_ret2
    exact ⟨_, by first | rfl | (simp [errW_none, errW_some] <;> rfl) | (simp [*, errW_none, errW_some] <;> rfl), by first | exact Kd.R_nil _ _ _ _ _ | exact Kd.N_nil _ _ _ _ _ | exact Kd.V_nil _ _ _ _ _ | exact Kd.Q_nil _ _ _ _ _ | exact Kd.S_nil _ _ _ _ _, by repeat (first | (with_reducible first | exact HB.out | apply below_alloc | apply pw_below_drewN | apply below_drew1) | exact HB.out), by repeat (first | (with_reducible first | exact HK.out | apply Kept.alloc | apply Kept.drewN | apply Kept.drew) | exact HK.out)⟩
   ·
    replace c8 := Bool.eq_false_iff.mpr c8
    subst c8
    have H1 : (some (l0, 0)) = some (r1, r2) := by rw [if_neg (show ¬ (false = true) by decide)] at H; exact H
    clear H
    have H := H1
    clear H1
    simp only [Option.some.injEq, Prod.mk.injEq] at H
    obtain ⟨rfl, rfl⟩ := H
    go_wp2
    go_ret2
    exact ⟨_, by first | rfl | (simp [errW_none, errW_some] <;> rfl) | (simp [*, errW_none, errW_some] <;> rfl), by (with_reducible repeat (first | apply Kd.R_alloc | apply Kd.R_drewN | apply Kd.R_drew)); exact HO_0.out, by repeat (first | (with_reducible first | exact HB.out | apply below_alloc | apply pw_below_drewN | apply below_drew1) | exact HB.out), by repeat (first | (with_reducible first | exact HK.out | apply Kept.alloc | apply Kept.drewN | apply Kept.drew) | exact HK.out)⟩
end Go.Proofs.YtlhhpogaaneamaaDoor.X
namespace Go.Proofs.YtlhhpogaaneamaaDoor.X
open Go.RowKit Go.Shelf Go.Proofs.YtlhhpogaaneamaaDoorW.PrintWords Go.Proofs.YtlhhpogaaneamaaDoorW.PrintLast Go.Proofs.YtlhhpogaaneamaaDoorW.PrintMore
set_option linter.unusedVariables false
theorem bounded_eq (l0 : List S57) (h : l0.length ≤ 9223372036854775807) : ∃ k, curve_bounded.f k l0 = some (if l0.length ≤ 64 ∧ rightB l0 = true then (l0, 0) else ([], 2)) := by
 refine ⟨1, ?_⟩
 unfold curve_bounded.f
 by_cases h64 : (l0.length : Int) > 64
 ·
  rw [if_pos h64, if_neg (by omega)]; simp [curve_bounded.j0]
 ·
  rw [if_neg h64]
  simp only [curve_right.f, Option.bind_some]
  cases rightB l0 <;> simp [curve_bounded.j0] <;> omega
set_option maxRecDepth 100000 in
set_option maxHeartbeats 1000000 in
theorem curve_Scale.calls (A0 : Option Addr) (c0 : Nat) (l0 : List S57) (a1 : Int) (a2 : Int) (r1 : List S57) (r2 : Int) (w : World) (hr0 : Kd.C k57 w A0 l0.length l0) (hc0 : l0.length ≤ c0) (h : curve_Scale.f l0 a1 a2 = some (r1, r2)) :
  Calls Tryd.prog 51 #[.slice A0 l0.length c0, .int .i64 a1, .int .i64 a2] w fun e w' => ∃ v0_ : Value, e = .returned (.tuple #[v0_, .int .i64 r2]) ∧ Kd.R k57 57 w' w.heap.size (fun _ => True) v0_ r1 ∧ Below w.heap.size w w' := by
 have HR := Aside0.mk hr0
 have HX := Aside0.mk (show Blk ((w.alloc (.cells #[.int .i64 a1] 3)).alloc (.cells #[.int .i64 a2] 3)) w.heap.size 3 #[.int .i64 a1] from (Blk.new w 3 _).alloc _)
 have HY := Aside0.mk (show Blk ((w.alloc (.cells #[.int .i64 a1] 3)).alloc (.cells #[.int .i64 a2] 3)) (w.heap.size + 1) 3 #[.int .i64 a2] by
   have h := Blk.new (w.alloc (.cells #[.int .i64 a1] 3)) 3 #[.int .i64 a2]; rwa [World.size_alloc] at h)
 have HB := Aside0.mk (show Below w.heap.size w ((w.alloc (.cells #[.int .i64 a1] 3)).alloc (.cells #[.int .i64 a2] 3)) from ((Below.refl _ w).alloc (Nat.le_refl _) _).alloc (by simp) _)
 clear hr0
 by_cases hg : goodB l0 = true
 ·
  have HC := Aside0.mk (show curve_Check.f l0 = some 0 by simp [curve_Check.f, hg])
  have HM := Aside0.mk (show l0.length ≤ 1000000 by have := goodB_le hg; omega)
  have HL := Aside0.mk (goodB_le hg)
  simp only [curve_Scale.f, hg, if_true] at h
  have HH := Aside0.mk h
  clear hg h
  by_cases hx : okc a1 = true
  ·
   have HOX := Aside0.mk hx
   by_cases hy : okc a2 = true
   ·
    have HOY := Aside0.mk hy
    by_cases hx0 : a1 = 0
    ·
     have hh := HH.out
     rw [if_neg (by simp [*])] at hh
     simp only [Option.some.injEq, Prod.mk.injEq] at hh
     obtain ⟨rfl, rfl⟩ := hh
     have z1 : (a1 == 0) = true := by simpa using hx0
     clear hx hy hx0 HH
     go_enter Tryd.func51, Tryd.ntmps51
     go_wp2_with fail
     refine (curve_Check.calls A0 c0 l0 0 _ (Kd.C_below HR.out HB.out) hc0 HC.out).mono ?_
     rintro e w1 ⟨rfl, hb⟩
     have bX := HX.out.below hb (by simp; omega)
     have bY := HY.out.below hb (by simp)
     have d1 : w1.cell? ⟨w.heap.size, 0, none⟩ = some (.int .i64 a1) := bX.cell 0
     have d2 : w1.cell? ⟨w.heap.size + 1, 0, none⟩ = some (.int .i64 a2) := bY.cell 0
     have HB1 := Aside0.mk (HB.out.trans (hb.mono HB.out.size))
     clear hb bX bY
     go_wp2_with fail
     refine (coord_T a1 _ HOX.out).mono ?_
     rintro e w2 ⟨rfl, ⟨n0, rfl⟩⟩
     go_wp2_with fail
     refine (coord_T a2 _ HOY.out).mono ?_
     rintro e w2 ⟨rfl, ⟨n1, rfl⟩⟩
     go_wp2_with fail
     go_ret2
     exact ⟨_, rfl, Kd.R_nil _ _ _ _ _, pw_below_drewN HB1.out _⟩
    ·
     by_cases hy0 : a2 = 0
     ·
      have hh := HH.out
      rw [if_neg (by simp [*])] at hh
      simp only [Option.some.injEq, Prod.mk.injEq] at hh
      obtain ⟨rfl, rfl⟩ := hh
      have z1 : (a1 == 0) = false := by simpa using hx0
      have z2 : (a2 == 0) = true := by simpa using hy0
      clear hx hy hx0 hy0 HH
      go_enter Tryd.func51, Tryd.ntmps51
      go_wp2_with fail
      refine (curve_Check.calls A0 c0 l0 0 _ (Kd.C_below HR.out HB.out) hc0 HC.out).mono ?_
      rintro e w1 ⟨rfl, hb⟩
      have bX := HX.out.below hb (by simp; omega)
      have bY := HY.out.below hb (by simp)
      have d1 : w1.cell? ⟨w.heap.size, 0, none⟩ = some (.int .i64 a1) := bX.cell 0
      have d2 : w1.cell? ⟨w.heap.size + 1, 0, none⟩ = some (.int .i64 a2) := bY.cell 0
      have HB1 := Aside0.mk (HB.out.trans (hb.mono HB.out.size))
      clear hb bX bY
      go_wp2_with fail
      refine (coord_T a1 _ HOX.out).mono ?_
      rintro e w2 ⟨rfl, ⟨n0, rfl⟩⟩
      go_wp2_with fail
      refine (coord_T a2 _ HOY.out).mono ?_
      rintro e w2 ⟨rfl, ⟨n1, rfl⟩⟩
      go_wp2_with fail
      go_ret2
      exact ⟨_, rfl, Kd.R_nil _ _ _ _ _, pw_below_drewN HB1.out _⟩
     ·
      have hh := HH.out
      rw [if_pos ⟨hx, hy, hx0, hy0⟩] at hh
      have HH2 := Aside0.mk hh
      have z1 : (a1 == 0) = false := by simpa using hx0
      have z2 : (a2 == 0) = false := by simpa using hy0
      clear hh hx hy hx0 hy0 HH
      go_enter Tryd.func51, Tryd.ntmps51
      go_wp2_with fail
      refine (curve_Check.calls A0 c0 l0 0 _ (Kd.C_below HR.out HB.out) hc0 HC.out).mono ?_
      rintro e w1 ⟨rfl, hb⟩
      have bX := HX.out.below hb (by simp; omega)
      have bY := HY.out.below hb (by simp)
      have HBX := Aside0.mk bX
      have HBY := Aside0.mk bY
      have d1 : w1.cell? ⟨w.heap.size, 0, none⟩ = some (.int .i64 a1) := bX.cell 0
      have d2 : w1.cell? ⟨w.heap.size + 1, 0, none⟩ = some (.int .i64 a2) := bY.cell 0
      have HB1 := Aside0.mk (HB.out.trans (hb.mono HB.out.size))
      clear hb bX bY
      go_wp2_with fail
      refine (coord_T a1 _ HOX.out).mono ?_
      rintro e w2 ⟨rfl, ⟨n, rfl⟩⟩
      go_wp2_with fail
      refine (coord_T a2 _ HOY.out).mono ?_
      rintro e w2 ⟨rfl, ⟨m, rfl⟩⟩
      go_wp2_with fail
      refine (changed_scale A0 c0 l0 a1 a2 _ _ _ (HBX.out.drewN _) (HBY.out.drewN _) (Kd.C_drewN (Kd.C_below HR.out HB1.out) _) HM.out).mono ?_
      rintro e w2 ⟨v, rfl, hv, hb⟩
      have HB2 := Aside0.mk (HB1.out.trans ((pw_below_drewN (Below.refl _ _) _).trans (hb.mono HB1.out.size)))
      have HV := Aside0.mk (Kd.R_lower (base' := w.heap.size) hv HB1.out.size)
      obtain ⟨kb, hkb⟩ := bounded_eq (scaledC l0 a1 a2) (by unfold scaledC; rw [List.length_map]; have := HM.out; omega)
      have HKB := Aside0.mk (show curve_bounded.f kb (scaledC l0 a1 a2) = some (r1, r2) by
       rw [hkb, ← HH2.out]
       have e : (scaledC l0 a1 a2).length ≤ 64 := by unfold scaledC; rw [List.length_map]; exact HL.out
       by_cases hr : rightB (scaledC l0 a1 a2) = true
       ·
        rw [if_pos ⟨e, hr⟩, if_pos hr]
       ·
        rw [if_neg (fun h => hr h.2), if_neg hr])
      clear hv hb hkb
      go_wp2_with fail
      refine (curve_bounded.calls kb (fun _ => True) v (scaledC l0 a1 a2) r1 r2 w _ HB2.out HV.out HKB.out).mono ?_
      rintro e w3 ⟨v0, rfl, hv, hb, _⟩
      have HV3 := Aside0.mk (Kd.R_mono (ok' := fun _ => True) hv (fun _ _ => trivial))
      have HB3 := Aside0.mk hb
      clear hv hb
      go_wp2_with fail
      go_ret2
      exact ⟨v0, rfl, HV3.out, HB3.out⟩
   ·
    have HOY := Aside0.mk (Bool.eq_false_iff.2 hy)
    have hh := HH.out
    rw [if_neg (by simp [*])] at hh
    simp only [Option.some.injEq, Prod.mk.injEq] at hh
    obtain ⟨rfl, rfl⟩ := hh
    clear hx hy HH
    go_enter Tryd.func51, Tryd.ntmps51
    go_wp2_with fail
    refine (curve_Check.calls A0 c0 l0 0 _ (Kd.C_below HR.out HB.out) hc0 HC.out).mono ?_
    rintro e w1 ⟨rfl, hb⟩
    have bX := HX.out.below hb (by simp; omega)
    have bY := HY.out.below hb (by simp)
    have d1 : w1.cell? ⟨w.heap.size, 0, none⟩ = some (.int .i64 a1) := bX.cell 0
    have d2 : w1.cell? ⟨w.heap.size + 1, 0, none⟩ = some (.int .i64 a2) := bY.cell 0
    have HB1 := Aside0.mk (HB.out.trans (hb.mono HB.out.size))
    clear hb bX bY
    go_wp2_with fail
    refine (coord_T a1 _ HOX.out).mono ?_
    rintro e w2 ⟨rfl, ⟨n0, rfl⟩⟩
    go_wp2_with fail
    refine (coord_F a2 _ HOY.out).mono ?_
    rintro e w2 ⟨rfl, ⟨n1, rfl⟩⟩
    go_wp2_with fail
    go_ret2
    exact ⟨_, rfl, Kd.R_nil _ _ _ _ _, pw_below_drewN HB1.out _⟩
  ·
   have HOX := Aside0.mk (Bool.eq_false_iff.2 hx)
   have hh := HH.out
   rw [if_neg (by simp [*])] at hh
   simp only [Option.some.injEq, Prod.mk.injEq] at hh
   obtain ⟨rfl, rfl⟩ := hh
   clear hx HH
   go_enter Tryd.func51, Tryd.ntmps51
   go_wp2_with fail
   refine (curve_Check.calls A0 c0 l0 0 _ (Kd.C_below HR.out HB.out) hc0 HC.out).mono ?_
   rintro e w1 ⟨rfl, hb⟩
   have bX := HX.out.below hb (by simp; omega)
   have bY := HY.out.below hb (by simp)
   have d1 : w1.cell? ⟨w.heap.size, 0, none⟩ = some (.int .i64 a1) := bX.cell 0
   have d2 : w1.cell? ⟨w.heap.size + 1, 0, none⟩ = some (.int .i64 a2) := bY.cell 0
   have HB1 := Aside0.mk (HB.out.trans (hb.mono HB.out.size))
   clear hb bX bY
   go_wp2_with fail
   refine (coord_F a1 _ HOX.out).mono ?_
   rintro e w2 ⟨rfl, ⟨n0, rfl⟩⟩
   go_wp2_with fail
   go_ret2
   exact ⟨_, rfl, Kd.R_nil _ _ _ _ _, pw_below_drewN HB1.out _⟩
 ·
  simp only [curve_Scale.f, if_neg hg, Option.some.injEq, Prod.mk.injEq] at h
  obtain ⟨rfl, rfl⟩ := h
  have HC := Aside0.mk (show curve_Check.f l0 = some 10 by simp [curve_Check.f, hg])
  clear hg
  go_enter Tryd.func51, Tryd.ntmps51
  go_wp2_with fail
  refine (curve_Check.calls A0 c0 l0 10 _ (Kd.C_below HR.out HB.out) hc0 HC.out).mono ?_
  rintro e w1 ⟨rfl, hb⟩
  have HB1 := Aside0.mk (HB.out.trans (hb.mono HB.out.size))
  clear hb
  go_wp2_with fail
  go_ret2
  exact ⟨_, rfl, Kd.R_nil _ _ _ _ _, HB1.out⟩
end Go.Proofs.YtlhhpogaaneamaaDoor.X
namespace Go.Proofs.YtlhhpogaaneamaaDoor.X
open Go.RowKit Go.Shelf Go.Proofs.YtlhhpogaaneamaaDoorW.PrintWords Go.Proofs.YtlhhpogaaneamaaDoorW.PrintLast Go.Proofs.YtlhhpogaaneamaaDoorW.PrintMore
set_option linter.unusedVariables false
set_option maxRecDepth 100000 in
set_option maxHeartbeats 400000 in
theorem grow_calls (n : Int) (w : World) (h0 : 0 ≤ n) (hn : n ≤ 2000000) :
  Calls Tryd.prog 105 #[.slice none 0 0, .int .i64 n] w fun e w' => ∃ v : Value, e = .returned v ∧ Kd.R k57 57 w' w.heap.size (fun _ => True) v [] ∧ Below w.heap.size w w' := by
 have HB := Aside0.mk (Below.refl w.heap.size w)
 by_cases hp : 0 < n
 ·
  go_enter Tryd.func105, Tryd.ntmps105
  go_wp2_with (first | ((with_reducible refine gate_builtin (b := .append) (xs := #[.tmp 20, .tmp 21]) rfl ?_); at_builtin; refine Kd.R_append_zeros k57 (w0 := w) w.heap.size rfl (.tmp 20) (.tmp 21) 23 3 57 (.agg #[(.int .i64 0), (.int .i64 0)]) 16 rfl Tryd.underlying23 Tryd.underlying3 info57 rfl (by decide) (by omega) (.slice none 0 0) [] z57 n (fun _ => True) rfl rfl (k57_mkM _ _ _ z57) (fun _ _ => trivial) (Kd.R_nil _ _ _ _ _) h0 HB.out (Nat.le_refl _) (by simp; omega) ?_; intro v1 w1 ho hb hg hat; obtain ⟨A1, c1, rfl⟩ := Kd.R_slice ho; have HO := Aside0.mk ho; have HB2 := Aside0.mk hb; clear ho hb hg hat))
  go_ret
  refine ⟨_, rfl, ?_, HB2.out⟩
  have := Kd.R_take (m := 0) HO.out (Nat.zero_le _)
  simpa using this
 ·
  go_enter Tryd.func105, Tryd.ntmps105
  go_wp2_with fail
  go_ret
  exact ⟨_, rfl, Kd.R_nil _ _ _ _ _, HB.out⟩
theorem flat_snoc (l0 : List (List S57)) (i : Int) (h0 : 0 ≤ i) (h1 : i < l0.length) : (l0.take (i + 1).toNat).flatten = (l0.take i.toNat).flatten ++ rd_L2 l0 i := by
 unfold rd_L2
 have e : (i + 1).toNat = i.toNat + 1 := by omega
 have h : i.toNat < l0.length := by omega
 rw [e, List.take_add_one, List.getElem?_eq_getElem h, List.flatten_append, List.getD_eq_getElem?_getD, List.getElem?_eq_getElem h]
 simp
theorem flat_le (l0 : List (List S57)) (k : Nat) : (l0.take k).flatten.length ≤ l0.flatten.length := by
 conv => rhs; rw [← List.take_append_drop k l0]
 rw [List.flatten_append, List.length_append]; omega
set_option maxRecDepth 100000 in
set_option maxHeartbeats 1000000 in
theorem slices_Concat.calls (A0 : Option Addr) (c0 : Nat) (l0 : List (List S57)) (r : List S57) (w : World) (hr0 : Kd.C (Kd.slice 57 k57) w A0 l0.length l0) (hc0 : l0.length ≤ c0) (h : slices_Concat.f l0 = some r) :
  Calls Tryd.prog 83 #[.slice A0 l0.length c0] w fun e w' => ∃ v0_ : Value, e = .returned (v0_) ∧ Kd.R k57 57 w' w.heap.size (fun _ => True) v0_ r ∧ Below w.heap.size w w' := by
 unfold slices_Concat.f at h
 by_cases hc : l0.length ≤ 2 ∧ l0.flatten.length ≤ 1000000
 ·
  rw [if_pos hc] at h
  cases h
  have HT := Aside0.mk hc.2
  have hlen := hc.1
  have HR := Aside0.mk hr0
  clear hr0 hc
  have HB := Aside0.mk (Below.refl w.heap.size w)
  go_enter Tryd.func83, Tryd.ntmps83
  go_wp2_with fail
  go_loop [3, 11] (fun v3 v11 => ∃ (i n : Int), 0 ≤ i ∧ i ≤ l0.length ∧ v11 = .int .i64 i ∧ v3 = .int .i64 n ∧ 0 ≤ n ∧ n ≤ 1000000 ∧ Aside0 (n = (l0.take i.toNat).flatten.length)) (fun _ v11 => l0.length - (intOf v11).toNat)
  case atStart => exact ⟨0, 0, by omega, by omega, rfl, rfl, by omega, by omega, ⟨by simp⟩⟩
  case round =>
   obtain ⟨i, n, h0, h1, rfl, rfl, hn0, hn1, HN⟩ := hrel
   by_cases hlt : i < l0.length
   ·
    obtain ⟨ad, A1, c1, e258, hx0, hle, _⟩ := at_L2 HR.out i h0 hlt
    cases e258
    have hnx : n + (rd_L2 l0 i).length = (l0.take (i + 1).toNat).flatten.length := by rw [flat_snoc l0 i h0 hlt, List.length_append, HN.out]; rfl
    have hny : n + (rd_L2 l0 i).length ≤ 1000000 := by rw [hnx]; have := flat_le l0 (i + 1).toNat; have := HT.out; omega
    have HX := Aside0.mk hnx
    clear hnx
    go_wp2_with fail
    go_round
    case rel => exact ⟨i + 1, n + (rd_L2 l0 i).length, by omega, by omega, by go_num, rfl, by omega, by omega, HX⟩
    case measure => simp [intOf]; omega
   ·
    go_wp2_with fail
    refine (grow_calls n _ hn0 (by omega)).mono ?_
    rintro e w1 ⟨v, rfl, hv, hb⟩
    have HV := Aside0.mk hv
    have HB1 := Aside0.mk hb
    clear hv hb HB HN h0 h1 hlt
    go_wp2_with fail
    go_loopw [6, 27] (fun v6 v27 wr => ∃ i : Int, 0 ≤ i ∧ i ≤ l0.length ∧ v27 = .int .i64 i ∧ Aside0 (Kd.R k57 57 wr w.heap.size (fun _ => True) v6 (l0.take i.toNat).flatten) ∧ Aside0 (Below w.heap.size w wr)) (fun _ v27 _ => l0.length - (intOf v27).toNat)
    case atStart => exact ⟨0, by omega, by omega, rfl, ⟨by simpa using HV.out⟩, HB1⟩
    case round =>
     clear HV HB1
     obtain ⟨i, h0, h1, rfl, HO, HB⟩ := hrel
     by_cases hlt : i < l0.length
     ·
      obtain ⟨ad, A1, c1, e258, hx0, hle, hC⟩ := at_L2 HR.out i h0 hlt
      cases e258
      replace hx0 := (HB.out.cell (World.block_lt_of_cell? w _ hx0)).trans hx0
      have HC := Aside0.mk (Kd.C_below hC HB.out)
      have HF := Aside0.mk (flat_snoc l0 i h0 hlt)
      have HL := Aside0.mk (show ((l0.take i.toNat).flatten.length + (rd_L2 l0 i).length) * 16 ≤ 140737488355328 by
       have h1 := flat_le l0 (i + 1).toNat; have h2 := HT.out; rw [flat_snoc l0 i h0 hlt, List.length_append] at h1; omega)
      clear hC
      go_wp2_with (first | ((with_reducible refine gate_builtin (b := .append) (xs := #[.tmp 31, .tmp 32]) rfl ?_); at_builtin; refine Kd.R_append_rows k57 (w0 := w) w.heap.size rfl (.tmp 31) (.tmp 32) 23 57 (.agg #[(.int .i64 0), (.int .i64 0)]) 16 rfl Tryd.underlying23 info57 rfl (by decide) (by omega) u6 (l0.take i.toNat).flatten (rd_L2 l0 i) A1 (rd_L2 l0 i).length c1 (fun _ => True) (fun _ => False) rfl rfl HO.out HC.out (fun x cs hk => by obtain rfl := k57_open hk; exact k57_mkM _ _ _ x) (fun _ hk => hk.elim) (fun _ _ => trivial) HB.out HB.out.size HL.out ?_; intro v1 w1 ho hb hg hat; have HO2 := Aside0.mk ho; have HB2 := Aside0.mk hb; clear ho hb hg hat))
      go_roundw
      case rel => exact ⟨i + 1, by omega, by omega, by go_num, ⟨by rw [HF.out]; exact HO2.out⟩, HB2⟩
      case measure => simp [intOf]; omega
     ·
      have HE := Aside0.mk (show (l0.take i.toNat).flatten = l0.flatten by rw [List.take_of_length_le (by omega)])
      go_wp2_with fail
      go_ret
      exact ⟨_, rfl, by have := HO.out; rw [HE.out] at this; exact this, HB.out⟩
 ·
  rw [if_neg hc] at h
  cases h
end Go.Proofs.YtlhhpogaaneamaaDoor.X
namespace Go.Proofs.YtlhhpogaaneamaaDoor.X
open Go.RowKit Go.Shelf Go.Proofs.YtlhhpogaaneamaaDoorW.PrintWords Go.Proofs.YtlhhpogaaneamaaDoorW.PrintLast Go.Proofs.YtlhhpogaaneamaaDoorW.PrintMore
set_option linter.unusedVariables false
def joinC (l0 l1 : List S57) : List S57 := l0 ++ movedC (l1.drop 1) ((rd_T57 l0 ((l0.length : Int) - 1)).f0 - (rd_T57 l1 0).f0) ((rd_T57 l0 ((l0.length : Int) - 1)).f1 - (rd_T57 l1 0).f1)
def curve_Join.f (l0 l1 : List S57) : Option (List S57 × Int) :=
 if goodB l0 = true ∧ goodB l1 = true then some (if (joinC l0 l1).length ≤ 64 ∧ rightB (joinC l0 l1) = true then (joinC l0 l1, 0) else ([], 2)) else some ([], 10)
theorem checked_eq (l0 l1 : List S57) : ∃ k, curve_checked.f k l0 l1 = some (if goodB l0 = true ∧ goodB l1 = true then 0 else 10) := by
 refine ⟨3, ?_⟩
 unfold curve_checked.f curve_Check.f
 cases goodB l0 <;> cases goodB l1 <;> simp [cmp_Or.f, cmp_Or.l0, rd, wrap64]
theorem mp_of {p q : Prop} (h : p → q) (hp : p) : q := h hp
theorem two_C {w : World} {g c0 c1 : Nat} {A0 A1 : Option Addr} {t : TypeId} {l0 l1 : List S57} (hb : Blk w g t #[.slice A0 l0.length c0, .slice A1 l1.length c1]) (h0 : Kd.C k57 w A0 l0.length l0) (hc0 : l0.length ≤ c0) (h1 : Kd.C k57 w A1 l1.length l1) (hc1 : l1.length ≤ c1) :
  Kd.C (Kd.slice 57 k57) w (some ⟨g, 0, none⟩) [l0, l1].length [l0, l1] := by
 refine ⟨rfl, by simp, fun _ => ⟨_, rfl, ?_⟩⟩
 intro j p hj
 match j, hj with
 | 0, hj =>
  cases hj
  refine ⟨[.slice A0 l0.length c0], rfl, ⟨A0, c0, rfl, hc0, h0⟩, ?_⟩
  intro i u hi
  match i, hi with
  | 0, hi => cases hi; exact hb.cell 0
 | 1, hj =>
  cases hj
  refine ⟨[.slice A1 l1.length c1], rfl, ⟨A1, c1, rfl, hc1, h1⟩, ?_⟩
  intro i u hi
  match i, hi with
  | 0, hi => cases hi; exact hb.cell 1
set_option maxRecDepth 100000 in
set_option maxHeartbeats 4000000 in
theorem join_bad (A0 : Option Addr) (c0 : Nat) (l0 : List S57) (A1 : Option Addr) (c1 : Nat) (l1 : List S57) (w : World) (hr0 : Kd.C k57 w A0 l0.length l0) (hc0 : l0.length ≤ c0) (hr1 : Kd.C k57 w A1 l1.length l1) (hc1 : l1.length ≤ c1) (hg : ¬ (goodB l0 = true ∧ goodB l1 = true)) :
  Calls Tryd.prog 49 #[.slice A0 l0.length c0, .slice A1 l1.length c1] w fun e w' => e = .returned (.tuple #[.slice none 0 0, .int .i64 10]) ∧ Below w.heap.size w w' := by
 obtain ⟨k, hk⟩ := checked_eq l0 l1
 rw [if_neg hg] at hk
 have HK := Aside0.mk hk
 have HR0 := Aside0.mk hr0
 have HR1 := Aside0.mk hr1
 clear hr0 hr1 hk hg
 go_enter Tryd.func49, Tryd.ntmps49
 go_wp2_with fail
 refine (curve_checked.calls k A0 c0 l0 A1 c1 l1 10 _ HR0.out hc0 HR1.out hc1 HK.out).mono ?_
 rintro e w1 ⟨rfl, hb⟩
 have HB1 := Aside0.mk hb
 clear hb
 go_wp2_with fail
 go_ret2
 exact ⟨rfl, HB1.out⟩
set_option maxRecDepth 100000 in
set_option maxHeartbeats 4000000 in
theorem join_good (A0 : Option Addr) (c0 : Nat) (l0 : List S57) (A1 : Option Addr) (c1 : Nat) (l1 : List S57) (r1 : List S57) (r2 : Int) (w : World) (hr0 : Kd.C k57 w A0 l0.length l0) (hc0 : l0.length ≤ c0) (hr1 : Kd.C k57 w A1 l1.length l1) (hc1 : l1.length ≤ c1) (hg : goodB l0 = true) (hg1 : goodB l1 = true)
  (h : (if (joinC l0 l1).length ≤ 64 ∧ rightB (joinC l0 l1) = true then (joinC l0 l1, 0) else ([], 2)) = (r1, r2)) :
  Calls Tryd.prog 49 #[.slice A0 l0.length c0, .slice A1 l1.length c1] w fun e w' => ∃ v0_ : Value, e = .returned (.tuple #[v0_, .int .i64 r2]) ∧ Kd.R k57 57 w' w.heap.size (fun _ => True) v0_ r1 ∧ Below w.heap.size w w' := by
 obtain ⟨k, hk⟩ := checked_eq l0 l1
 rw [if_pos ⟨hg, hg1⟩] at hk
 have HK := Aside0.mk hk
 have HR0 := Aside0.mk hr0
 have HR1 := Aside0.mk hr1
 have HG := Aside0.mk (good_of hg)
 have HG1 := Aside0.mk (good_of hg1)
 have HH := Aside0.mk h
 have hl2 := HG.out.len2
 have hl64 := HG.out.len64
 have hm2 := HG1.out.len2
 have hm64 := HG1.out.len64
 clear hr0 hr1 hk hg hg1 h
 obtain ⟨X, hX⟩ : ∃ X, (rd_T57 l0 ((l0.length : Int) - 1)).f0 = X := ⟨_, rfl⟩
 obtain ⟨Y, hY⟩ : ∃ Y, (rd_T57 l0 ((l0.length : Int) - 1)).f1 = Y := ⟨_, rfl⟩
 obtain ⟨x, hx⟩ : ∃ x, (rd_T57 l1 0).f0 = x := ⟨_, rfl⟩
 obtain ⟨y, hy⟩ : ∃ y, (rd_T57 l1 0).f1 = y := ⟨_, rfl⟩
 obtain ⟨ad0, e258, ha0, ha1⟩ := at_T57 HR0.out ((l0.length : Int) - 1) (by omega) (by omega)
 cases e258
 obtain ⟨ad1, e259, hb0, hb1⟩ := at_T57 HR1.out 0 (Int.le_refl 0) (by omega)
 cases e259
 rw [hX, show ((l0.length : Int) - 1).toNat = l0.length - 1 by omega] at ha0
 rw [hY, show ((l0.length : Int) - 1).toNat = l0.length - 1 by omega] at ha1
 rw [hx, show ad1.add (Int.toNat 0 * 2) = ad1 by simp [Addr.add]] at hb0
 rw [hy, show ad1.add (Int.toNat 0 * 2) = ad1 by simp [Addr.add]] at hb1
 have HBX := Aside0.mk (show 0 ≤ X ∧ X ≤ 16777216 ∧ 0 ≤ Y ∧ Y ≤ 16777216 ∧ 0 ≤ x ∧ x ≤ 16777216 ∧ 0 ≤ y ∧ y ≤ 16777216 by
  have h1 := HG.out.bx (l0.length - 1) (by omega)
  have h2 := HG.out.by_ (l0.length - 1) (by omega)
  have h3 := HG1.out.bx 0 (by omega)
  have h4 := HG1.out.by_ 0 (by omega)
  unfold px at h1 h3
  unfold py at h2 h4
  unfold rd_T57 at hX hY hx hy
  rw [show ((l0.length : Int) - 1).toNat = l0.length - 1 by omega] at hX hY
  simp only [Int.toNat_zero] at hx hy
  omega)
 have HJ := Aside0.mk (show joinC l0 l1 = l0 ++ movedC (l1.drop 1) (X - x) (Y - y) by unfold joinC; rw [hX, hY, hx, hy])
 have HP := Aside0.mk (And.intro ha0 (And.intro ha1 (And.intro hb0 hb1)))
 clear ha0 ha1 hb0 hb1 hX hY hx hy
 go_enter Tryd.func49, Tryd.ntmps49
 go_wp2_with fail
 refine (curve_checked.calls k (some ad0) c0 l0 (some ad1) c1 l1 0 _ HR0.out hc0 HR1.out hc1 HK.out).mono ?_
 rintro e w1 ⟨rfl, hb⟩
 have HB1 := Aside0.mk hb
 have a0 := (hb.cell (World.block_lt_of_cell? w _ HP.out.1)).trans HP.out.1
 have a1 := (hb.cell (World.block_lt_of_cell? w _ HP.out.2.1)).trans HP.out.2.1
 have q1 : ¬ ((l0.length : Int) - 1 < 0) := by omega
 clear hb
 go_wp2_with fail
 obtain ⟨w2, hw2⟩ : ∃ w2, w1.alloc (.cells #[.int .i64 X, .int .i64 Y] 57) = w2 := ⟨_, rfl⟩
 have BE : Blk w2.drew w1.heap.size 57 #[.int .i64 X, .int .i64 Y] := by rw [← hw2]; exact Blk.new w1 57 _
 rw [hw2]
 obtain ⟨Wd, hWd⟩ : ∃ Wd, w2.drew = Wd := ⟨_, rfl⟩
 rw [hWd] at BE
 have HB2 := Aside0.mk (show Below w.heap.size w Wd by rw [← hWd, ← hw2]; exact below_drew1 (HB1.out.alloc HB1.out.size _))
 clear a0 a1
 have e0 : Wd.cell? ⟨w1.heap.size, 0, none⟩ = some (.int .i64 X) := BE.cell 0
 have e1 : Wd.cell? ⟨w1.heap.size, 1, none⟩ = some (.int .i64 Y) := BE.cell 1
 have b0 : Wd.cell? ad1 = some (.int .i64 x) := (HB2.out.cell (World.block_lt_of_cell? w _ HP.out.2.2.1)).trans HP.out.2.2.1
 have b1 : Wd.cell? ⟨ad1.block, ad1.off + 1, none⟩ = some (.int .i64 y) := (HB2.out.cell (World.block_lt_of_cell? w _ HP.out.2.2.2)).trans HP.out.2.2.2
 have v0 : IntKind.i64.wrap (X - x) = X - x := IntWalk.i64_in _ (by have := HBX.out; omega)
 have v1 : IntKind.i64.wrap (Y - y) = Y - y := IntWalk.i64_in _ (by have := HBX.out; omega)
 have qa : 0 < l1.length := by omega
 have qb : 1 ≤ l1.length := by omega
 have qc : 1 ≤ (l1.length : Int) := by omega
 have qd : l1.length ≤ c1 := hc1
 have HMV := Aside0.mk (show curve_moved.f (l1.drop 1) (X - x) (Y - y) = some (movedC (l1.drop 1) (X - x) (Y - y)) by unfold curve_moved.f; rw [if_pos (by simp; omega)])
 clear BE
 obtain ⟨M, hM⟩ : ∃ M, movedC (l1.drop 1) (X - x) (Y - y) = M := ⟨_, rfl⟩
 have hMl : M.length = l1.length - 1 := by rw [← hM]; simp [movedC]
 rw [hM] at HMV HJ
 have qe : (c1 = 1) = False := by simp; omega
 have CD := Aside0.mk (show Kd.C k57 Wd (some (ad1.add 2)) (l1.drop 1).length (l1.drop 1) by
  have h := Kd.C_drop (m := 1) (c := c1) (Kd.C_below HR1.out HB2.out) (by omega) hc1
  rw [if_neg (by omega)] at h
  exact h)
 have HCC := Aside0.mk (show slices_Concat.f [l0, M] = some (joinC l0 l1) by
  unfold slices_Concat.f
  rw [if_pos (by simp; omega), HJ.out]; simp)
 obtain ⟨kb, hkb⟩ := bounded_eq (joinC l0 l1) (by rw [HJ.out]; simp; omega)
 rw [HH.out] at hkb
 have HBD := Aside0.mk hkb
 clear hkb hM hMl
 refine wp_region_any (by kernel_rfl) ?_
 change wpAny _ _ _ _ _ _ _ (World.drew _)
 rw [hWd]
 clear hWd
 refine wpAny_take (i := 0) (v := ?_) rfl (by kernel_rfl) (by kernel_rfl) (by kernel_rfl) (fun _ _ _ h => h) (Or.inl ⟨by rfl, ?_⟩) ?_
 rotate_left
 ·
  intro w; go_simp; try with_reducible rfl
 refine wpAny_take (i := 1) (v := ?_) rfl (by kernel_rfl) (by kernel_rfl) (by kernel_rfl) (fun _ _ _ h => h) (Or.inl ⟨by rfl, ?_⟩) ?_
 rotate_left
 ·
  intro w; go_simp; try with_reducible rfl
 refine wpAny_take (i := 2) (v := ?_) rfl (by kernel_rfl) (by kernel_rfl) (by kernel_rfl) (fun _ _ _ h => h) (Or.inl ⟨by rfl, ?_⟩) ?_
 rotate_left
 ·
  intro w; go_simp; try with_reducible rfl
 refine wpAny_take (i := 3) (v := ?_) rfl (by kernel_rfl) (by kernel_rfl) (by kernel_rfl) (fun _ _ _ h => h) (Or.inl ⟨by rfl, ?_⟩) ?_
 rotate_left
 ·
  intro w; go_simp; try with_reducible rfl
 refine wpAny_take (i := 5) (v := ?_) rfl (by kernel_rfl) (by kernel_rfl) (by kernel_rfl) (fun _ _ _ h => h) (Or.inl ⟨by rfl, ?_⟩) ?_
 rotate_left
 ·
  intro w; go_simp; try with_reducible rfl
 refine wpAny_take (i := 6) (v := ?_) rfl (by kernel_rfl) (by kernel_rfl) (by kernel_rfl) (fun _ _ _ h => h) (Or.inl ⟨by rfl, ?_⟩) ?_
 rotate_left
 ·
  intro w; go_simp; try with_reducible rfl
 refine wpAny_take (i := 7) (v := ?_) rfl (by kernel_rfl) (by kernel_rfl) (by kernel_rfl) (fun _ _ _ h => h) (Or.inl ⟨by rfl, ?_⟩) ?_
 rotate_left
 ·
  intro w; go_simp; try with_reducible rfl
 refine wpAny_take (i := 10) (v := ?_) rfl (by kernel_rfl) (by kernel_rfl) (by kernel_rfl) (fun _ _ _ h => h) (Or.inl ⟨by rfl, ?_⟩) ?_
 rotate_left
 ·
  intro w; go_simp; try with_reducible rfl
 refine wpAny_take (i := 12) (v := ?_) rfl (by kernel_rfl) (by kernel_rfl) (by kernel_rfl) (fun _ _ _ h => h) (Or.inl ⟨by rfl, ?_⟩) ?_
 rotate_left
 ·
  intro w; go_simp; try with_reducible rfl
 refine wpAny_take (i := 13) (v := ?_) rfl (by kernel_rfl) (by kernel_rfl) (by kernel_rfl) (fun _ _ _ h => h) (Or.inl ⟨by rfl, ?_⟩) ?_
 rotate_left
 ·
  intro w; go_simp; try with_reducible rfl
 refine wpAny_take (i := 14) (v := ?_) rfl (by kernel_rfl) (by kernel_rfl) (by kernel_rfl) (fun _ _ _ h => h) (Or.inl ⟨by rfl, ?_⟩) ?_
 rotate_left
 ·
  intro w; go_simp; try with_reducible rfl
 apply mp_of
 ·
  intro FIN
  refine wpAny_ready (rs := [4, 8, 11, 15]) (by kernel_rfl) (by simp) ?_
  refine AllReady.cons rfl (fun K hK => ?_) ?_
  ·
   go_simp
   (refine hK _ _ ?_; clear hK K)
   refine wpAny_ready (rs := [8, 11, 15]) (by kernel_rfl) (by simp) ?_
   refine AllReady.cons rfl (fun K hK => ?_) ?_
   ·
    go_simp
    (refine hK _ _ ?_; clear hK K)
    refine wpAny_take (i := 9) (v := ?_) rfl (by kernel_rfl) (by kernel_rfl) (by kernel_rfl) (fun _ _ _ h => h) (Or.inl ⟨by rfl, ?_⟩) ?_
    rotate_left
    ·
     intro w; go_simp; try with_reducible rfl
    refine wpAny_ready (rs := [11, 15]) (by kernel_rfl) (by simp) ?_
    refine AllReady.cons rfl (fun K hK => ?_) ?_
    ·
     go_simp
     (refine hK _ _ ?_; clear hK K)
     refine wpAny_ready (rs := [15]) (by kernel_rfl) (by simp) ?_
     refine AllReady.cons rfl (fun K hK => ?_) ?_
     ·
      go_simp
      (refine hK _ _ ?_; clear hK K)
      refine wpAny_take (i := 16) (v := ?_) rfl (by kernel_rfl) (by kernel_rfl) (by kernel_rfl) (fun _ _ _ h => h) (Or.inl ⟨by rfl, ?_⟩) ?_
      rotate_left
      ·
       intro w; go_simp; try with_reducible rfl
      exact FIN
     exact AllReady.nil
    refine AllReady.cons rfl (fun K hK => ?_) ?_
    ·
     go_simp
     (refine hK _ _ ?_; clear hK K)
     refine wpAny_ready (rs := [11]) (by kernel_rfl) (by simp) ?_
     refine AllReady.cons rfl (fun K hK => ?_) ?_
     ·
      go_simp
      (refine hK _ _ ?_; clear hK K)
      refine wpAny_take (i := 16) (v := ?_) rfl (by kernel_rfl) (by kernel_rfl) (by kernel_rfl) (fun _ _ _ h => h) (Or.inl ⟨by rfl, ?_⟩) ?_
      rotate_left
      ·
       intro w; go_simp; try with_reducible rfl
      exact FIN
     exact AllReady.nil
    exact AllReady.nil
   refine AllReady.cons rfl (fun K hK => ?_) ?_
   ·
    go_simp
    (refine hK _ _ ?_; clear hK K)
    refine wpAny_ready (rs := [8, 15]) (by kernel_rfl) (by simp) ?_
    refine AllReady.cons rfl (fun K hK => ?_) ?_
    ·
     go_simp
     (refine hK _ _ ?_; clear hK K)
     refine wpAny_take (i := 9) (v := ?_) rfl (by kernel_rfl) (by kernel_rfl) (by kernel_rfl) (fun _ _ _ h => h) (Or.inl ⟨by rfl, ?_⟩) ?_
     rotate_left
     ·
      intro w; go_simp; try with_reducible rfl
     refine wpAny_ready (rs := [15]) (by kernel_rfl) (by simp) ?_
     refine AllReady.cons rfl (fun K hK => ?_) ?_
     ·
      go_simp
      (refine hK _ _ ?_; clear hK K)
      refine wpAny_take (i := 16) (v := ?_) rfl (by kernel_rfl) (by kernel_rfl) (by kernel_rfl) (fun _ _ _ h => h) (Or.inl ⟨by rfl, ?_⟩) ?_
      rotate_left
      ·
       intro w; go_simp; try with_reducible rfl
      exact FIN
     exact AllReady.nil
    refine AllReady.cons rfl (fun K hK => ?_) ?_
    ·
     go_simp
     (refine hK _ _ ?_; clear hK K)
     refine wpAny_take (i := 16) (v := ?_) rfl (by kernel_rfl) (by kernel_rfl) (by kernel_rfl) (fun _ _ _ h => h) (Or.inl ⟨by rfl, ?_⟩) ?_
     rotate_left
     ·
      intro w; go_simp; try with_reducible rfl
     refine wpAny_ready (rs := [8]) (by kernel_rfl) (by simp) ?_
     refine AllReady.cons rfl (fun K hK => ?_) ?_
     ·
      go_simp
      (refine hK _ _ ?_; clear hK K)
      refine wpAny_take (i := 9) (v := ?_) rfl (by kernel_rfl) (by kernel_rfl) (by kernel_rfl) (fun _ _ _ h => h) (Or.inl ⟨by rfl, ?_⟩) ?_
      rotate_left
      ·
       intro w; go_simp; try with_reducible rfl
      exact FIN
     exact AllReady.nil
    exact AllReady.nil
   refine AllReady.cons rfl (fun K hK => ?_) ?_
   ·
    go_simp
    (refine hK _ _ ?_; clear hK K)
    refine wpAny_ready (rs := [8, 11]) (by kernel_rfl) (by simp) ?_
    refine AllReady.cons rfl (fun K hK => ?_) ?_
    ·
     go_simp
     (refine hK _ _ ?_; clear hK K)
     refine wpAny_take (i := 9) (v := ?_) rfl (by kernel_rfl) (by kernel_rfl) (by kernel_rfl) (fun _ _ _ h => h) (Or.inl ⟨by rfl, ?_⟩) ?_
     rotate_left
     ·
      intro w; go_simp; try with_reducible rfl
     refine wpAny_ready (rs := [11]) (by kernel_rfl) (by simp) ?_
     refine AllReady.cons rfl (fun K hK => ?_) ?_
     ·
      go_simp
      (refine hK _ _ ?_; clear hK K)
      refine wpAny_take (i := 16) (v := ?_) rfl (by kernel_rfl) (by kernel_rfl) (by kernel_rfl) (fun _ _ _ h => h) (Or.inl ⟨by rfl, ?_⟩) ?_
      rotate_left
      ·
       intro w; go_simp; try with_reducible rfl
      exact FIN
     exact AllReady.nil
    refine AllReady.cons rfl (fun K hK => ?_) ?_
    ·
     go_simp
     (refine hK _ _ ?_; clear hK K)
     refine wpAny_take (i := 16) (v := ?_) rfl (by kernel_rfl) (by kernel_rfl) (by kernel_rfl) (fun _ _ _ h => h) (Or.inl ⟨by rfl, ?_⟩) ?_
     rotate_left
     ·
      intro w; go_simp; try with_reducible rfl
     refine wpAny_ready (rs := [8]) (by kernel_rfl) (by simp) ?_
     refine AllReady.cons rfl (fun K hK => ?_) ?_
     ·
      go_simp
      (refine hK _ _ ?_; clear hK K)
      refine wpAny_take (i := 9) (v := ?_) rfl (by kernel_rfl) (by kernel_rfl) (by kernel_rfl) (fun _ _ _ h => h) (Or.inl ⟨by rfl, ?_⟩) ?_
      rotate_left
      ·
       intro w; go_simp; try with_reducible rfl
      exact FIN
     exact AllReady.nil
    exact AllReady.nil
   exact AllReady.nil
  refine AllReady.cons rfl (fun K hK => ?_) ?_
  ·
   go_simp
   (refine hK _ _ ?_; clear hK K)
   refine wpAny_ready (rs := [4, 11, 15]) (by kernel_rfl) (by simp) ?_
   refine AllReady.cons rfl (fun K hK => ?_) ?_
   ·
    go_simp
    (refine hK _ _ ?_; clear hK K)
    refine wpAny_take (i := 9) (v := ?_) rfl (by kernel_rfl) (by kernel_rfl) (by kernel_rfl) (fun _ _ _ h => h) (Or.inl ⟨by rfl, ?_⟩) ?_
    rotate_left
    ·
     intro w; go_simp; try with_reducible rfl
    refine wpAny_ready (rs := [11, 15]) (by kernel_rfl) (by simp) ?_
    refine AllReady.cons rfl (fun K hK => ?_) ?_
    ·
     go_simp
     (refine hK _ _ ?_; clear hK K)
     refine wpAny_ready (rs := [15]) (by kernel_rfl) (by simp) ?_
     refine AllReady.cons rfl (fun K hK => ?_) ?_
     ·
      go_simp
      (refine hK _ _ ?_; clear hK K)
      refine wpAny_take (i := 16) (v := ?_) rfl (by kernel_rfl) (by kernel_rfl) (by kernel_rfl) (fun _ _ _ h => h) (Or.inl ⟨by rfl, ?_⟩) ?_
      rotate_left
      ·
       intro w; go_simp; try with_reducible rfl
      exact FIN
     exact AllReady.nil
    refine AllReady.cons rfl (fun K hK => ?_) ?_
    ·
     go_simp
     (refine hK _ _ ?_; clear hK K)
     refine wpAny_ready (rs := [11]) (by kernel_rfl) (by simp) ?_
     refine AllReady.cons rfl (fun K hK => ?_) ?_
     ·
      go_simp
      (refine hK _ _ ?_; clear hK K)
      refine wpAny_take (i := 16) (v := ?_) rfl (by kernel_rfl) (by kernel_rfl) (by kernel_rfl) (fun _ _ _ h => h) (Or.inl ⟨by rfl, ?_⟩) ?_
      rotate_left
      ·
       intro w; go_simp; try with_reducible rfl
      exact FIN
     exact AllReady.nil
    exact AllReady.nil
   refine AllReady.cons rfl (fun K hK => ?_) ?_
   ·
    go_simp
    (refine hK _ _ ?_; clear hK K)
    refine wpAny_ready (rs := [4, 15]) (by kernel_rfl) (by simp) ?_
    refine AllReady.cons rfl (fun K hK => ?_) ?_
    ·
     go_simp
     (refine hK _ _ ?_; clear hK K)
     refine wpAny_take (i := 9) (v := ?_) rfl (by kernel_rfl) (by kernel_rfl) (by kernel_rfl) (fun _ _ _ h => h) (Or.inl ⟨by rfl, ?_⟩) ?_
     rotate_left
     ·
      intro w; go_simp; try with_reducible rfl
     refine wpAny_ready (rs := [15]) (by kernel_rfl) (by simp) ?_
     refine AllReady.cons rfl (fun K hK => ?_) ?_
     ·
      go_simp
      (refine hK _ _ ?_; clear hK K)
      refine wpAny_take (i := 16) (v := ?_) rfl (by kernel_rfl) (by kernel_rfl) (by kernel_rfl) (fun _ _ _ h => h) (Or.inl ⟨by rfl, ?_⟩) ?_
      rotate_left
      ·
       intro w; go_simp; try with_reducible rfl
      exact FIN
     exact AllReady.nil
    refine AllReady.cons rfl (fun K hK => ?_) ?_
    ·
     go_simp
     (refine hK _ _ ?_; clear hK K)
     refine wpAny_take (i := 16) (v := ?_) rfl (by kernel_rfl) (by kernel_rfl) (by kernel_rfl) (fun _ _ _ h => h) (Or.inl ⟨by rfl, ?_⟩) ?_
     rotate_left
     ·
      intro w; go_simp; try with_reducible rfl
     refine wpAny_ready (rs := [4]) (by kernel_rfl) (by simp) ?_
     refine AllReady.cons rfl (fun K hK => ?_) ?_
     ·
      go_simp
      (refine hK _ _ ?_; clear hK K)
      refine wpAny_take (i := 9) (v := ?_) rfl (by kernel_rfl) (by kernel_rfl) (by kernel_rfl) (fun _ _ _ h => h) (Or.inl ⟨by rfl, ?_⟩) ?_
      rotate_left
      ·
       intro w; go_simp; try with_reducible rfl
      exact FIN
     exact AllReady.nil
    exact AllReady.nil
   refine AllReady.cons rfl (fun K hK => ?_) ?_
   ·
    go_simp
    (refine hK _ _ ?_; clear hK K)
    refine wpAny_ready (rs := [4, 11]) (by kernel_rfl) (by simp) ?_
    refine AllReady.cons rfl (fun K hK => ?_) ?_
    ·
     go_simp
     (refine hK _ _ ?_; clear hK K)
     refine wpAny_take (i := 9) (v := ?_) rfl (by kernel_rfl) (by kernel_rfl) (by kernel_rfl) (fun _ _ _ h => h) (Or.inl ⟨by rfl, ?_⟩) ?_
     rotate_left
     ·
      intro w; go_simp; try with_reducible rfl
     refine wpAny_ready (rs := [11]) (by kernel_rfl) (by simp) ?_
     refine AllReady.cons rfl (fun K hK => ?_) ?_
     ·
      go_simp
      (refine hK _ _ ?_; clear hK K)
      refine wpAny_take (i := 16) (v := ?_) rfl (by kernel_rfl) (by kernel_rfl) (by kernel_rfl) (fun _ _ _ h => h) (Or.inl ⟨by rfl, ?_⟩) ?_
      rotate_left
      ·
       intro w; go_simp; try with_reducible rfl
      exact FIN
     exact AllReady.nil
    refine AllReady.cons rfl (fun K hK => ?_) ?_
    ·
     go_simp
     (refine hK _ _ ?_; clear hK K)
     refine wpAny_take (i := 16) (v := ?_) rfl (by kernel_rfl) (by kernel_rfl) (by kernel_rfl) (fun _ _ _ h => h) (Or.inl ⟨by rfl, ?_⟩) ?_
     rotate_left
     ·
      intro w; go_simp; try with_reducible rfl
     refine wpAny_ready (rs := [4]) (by kernel_rfl) (by simp) ?_
     refine AllReady.cons rfl (fun K hK => ?_) ?_
     ·
      go_simp
      (refine hK _ _ ?_; clear hK K)
      refine wpAny_take (i := 9) (v := ?_) rfl (by kernel_rfl) (by kernel_rfl) (by kernel_rfl) (fun _ _ _ h => h) (Or.inl ⟨by rfl, ?_⟩) ?_
      rotate_left
      ·
       intro w; go_simp; try with_reducible rfl
      exact FIN
     exact AllReady.nil
    exact AllReady.nil
   exact AllReady.nil
  refine AllReady.cons rfl (fun K hK => ?_) ?_
  ·
   go_simp
   (refine hK _ _ ?_; clear hK K)
   refine wpAny_ready (rs := [4, 8, 15]) (by kernel_rfl) (by simp) ?_
   refine AllReady.cons rfl (fun K hK => ?_) ?_
   ·
    go_simp
    (refine hK _ _ ?_; clear hK K)
    refine wpAny_ready (rs := [8, 15]) (by kernel_rfl) (by simp) ?_
    refine AllReady.cons rfl (fun K hK => ?_) ?_
    ·
     go_simp
     (refine hK _ _ ?_; clear hK K)
     refine wpAny_take (i := 9) (v := ?_) rfl (by kernel_rfl) (by kernel_rfl) (by kernel_rfl) (fun _ _ _ h => h) (Or.inl ⟨by rfl, ?_⟩) ?_
     rotate_left
     ·
      intro w; go_simp; try with_reducible rfl
     refine wpAny_ready (rs := [15]) (by kernel_rfl) (by simp) ?_
     refine AllReady.cons rfl (fun K hK => ?_) ?_
     ·
      go_simp
      (refine hK _ _ ?_; clear hK K)
      refine wpAny_take (i := 16) (v := ?_) rfl (by kernel_rfl) (by kernel_rfl) (by kernel_rfl) (fun _ _ _ h => h) (Or.inl ⟨by rfl, ?_⟩) ?_
      rotate_left
      ·
       intro w; go_simp; try with_reducible rfl
      exact FIN
     exact AllReady.nil
    refine AllReady.cons rfl (fun K hK => ?_) ?_
    ·
     go_simp
     (refine hK _ _ ?_; clear hK K)
     refine wpAny_take (i := 16) (v := ?_) rfl (by kernel_rfl) (by kernel_rfl) (by kernel_rfl) (fun _ _ _ h => h) (Or.inl ⟨by rfl, ?_⟩) ?_
     rotate_left
     ·
      intro w; go_simp; try with_reducible rfl
     refine wpAny_ready (rs := [8]) (by kernel_rfl) (by simp) ?_
     refine AllReady.cons rfl (fun K hK => ?_) ?_
     ·
      go_simp
      (refine hK _ _ ?_; clear hK K)
      refine wpAny_take (i := 9) (v := ?_) rfl (by kernel_rfl) (by kernel_rfl) (by kernel_rfl) (fun _ _ _ h => h) (Or.inl ⟨by rfl, ?_⟩) ?_
      rotate_left
      ·
       intro w; go_simp; try with_reducible rfl
      exact FIN
     exact AllReady.nil
    exact AllReady.nil
   refine AllReady.cons rfl (fun K hK => ?_) ?_
   ·
    go_simp
    (refine hK _ _ ?_; clear hK K)
    refine wpAny_ready (rs := [4, 15]) (by kernel_rfl) (by simp) ?_
    refine AllReady.cons rfl (fun K hK => ?_) ?_
    ·
     go_simp
     (refine hK _ _ ?_; clear hK K)
     refine wpAny_take (i := 9) (v := ?_) rfl (by kernel_rfl) (by kernel_rfl) (by kernel_rfl) (fun _ _ _ h => h) (Or.inl ⟨by rfl, ?_⟩) ?_
     rotate_left
     ·
      intro w; go_simp; try with_reducible rfl
     refine wpAny_ready (rs := [15]) (by kernel_rfl) (by simp) ?_
     refine AllReady.cons rfl (fun K hK => ?_) ?_
     ·
      go_simp
      (refine hK _ _ ?_; clear hK K)
      refine wpAny_take (i := 16) (v := ?_) rfl (by kernel_rfl) (by kernel_rfl) (by kernel_rfl) (fun _ _ _ h => h) (Or.inl ⟨by rfl, ?_⟩) ?_
      rotate_left
      ·
       intro w; go_simp; try with_reducible rfl
      exact FIN
     exact AllReady.nil
    refine AllReady.cons rfl (fun K hK => ?_) ?_
    ·
     go_simp
     (refine hK _ _ ?_; clear hK K)
     refine wpAny_take (i := 16) (v := ?_) rfl (by kernel_rfl) (by kernel_rfl) (by kernel_rfl) (fun _ _ _ h => h) (Or.inl ⟨by rfl, ?_⟩) ?_
     rotate_left
     ·
      intro w; go_simp; try with_reducible rfl
     refine wpAny_ready (rs := [4]) (by kernel_rfl) (by simp) ?_
     refine AllReady.cons rfl (fun K hK => ?_) ?_
     ·
      go_simp
      (refine hK _ _ ?_; clear hK K)
      refine wpAny_take (i := 9) (v := ?_) rfl (by kernel_rfl) (by kernel_rfl) (by kernel_rfl) (fun _ _ _ h => h) (Or.inl ⟨by rfl, ?_⟩) ?_
      rotate_left
      ·
       intro w; go_simp; try with_reducible rfl
      exact FIN
     exact AllReady.nil
    exact AllReady.nil
   refine AllReady.cons rfl (fun K hK => ?_) ?_
   ·
    go_simp
    (refine hK _ _ ?_; clear hK K)
    refine wpAny_take (i := 16) (v := ?_) rfl (by kernel_rfl) (by kernel_rfl) (by kernel_rfl) (fun _ _ _ h => h) (Or.inl ⟨by rfl, ?_⟩) ?_
    rotate_left
    ·
     intro w; go_simp; try with_reducible rfl
    refine wpAny_ready (rs := [4, 8]) (by kernel_rfl) (by simp) ?_
    refine AllReady.cons rfl (fun K hK => ?_) ?_
    ·
     go_simp
     (refine hK _ _ ?_; clear hK K)
     refine wpAny_ready (rs := [8]) (by kernel_rfl) (by simp) ?_
     refine AllReady.cons rfl (fun K hK => ?_) ?_
     ·
      go_simp
      (refine hK _ _ ?_; clear hK K)
      refine wpAny_take (i := 9) (v := ?_) rfl (by kernel_rfl) (by kernel_rfl) (by kernel_rfl) (fun _ _ _ h => h) (Or.inl ⟨by rfl, ?_⟩) ?_
      rotate_left
      ·
       intro w; go_simp; try with_reducible rfl
      exact FIN
     exact AllReady.nil
    refine AllReady.cons rfl (fun K hK => ?_) ?_
    ·
     go_simp
     (refine hK _ _ ?_; clear hK K)
     refine wpAny_ready (rs := [4]) (by kernel_rfl) (by simp) ?_
     refine AllReady.cons rfl (fun K hK => ?_) ?_
     ·
      go_simp
      (refine hK _ _ ?_; clear hK K)
      refine wpAny_take (i := 9) (v := ?_) rfl (by kernel_rfl) (by kernel_rfl) (by kernel_rfl) (fun _ _ _ h => h) (Or.inl ⟨by rfl, ?_⟩) ?_
      rotate_left
      ·
       intro w; go_simp; try with_reducible rfl
      exact FIN
     exact AllReady.nil
    exact AllReady.nil
   exact AllReady.nil
  refine AllReady.cons rfl (fun K hK => ?_) ?_
  ·
   go_simp
   (refine hK _ _ ?_; clear hK K)
   refine wpAny_ready (rs := [4, 8, 11]) (by kernel_rfl) (by simp) ?_
   refine AllReady.cons rfl (fun K hK => ?_) ?_
   ·
    go_simp
    (refine hK _ _ ?_; clear hK K)
    refine wpAny_ready (rs := [8, 11]) (by kernel_rfl) (by simp) ?_
    refine AllReady.cons rfl (fun K hK => ?_) ?_
    ·
     go_simp
     (refine hK _ _ ?_; clear hK K)
     refine wpAny_take (i := 9) (v := ?_) rfl (by kernel_rfl) (by kernel_rfl) (by kernel_rfl) (fun _ _ _ h => h) (Or.inl ⟨by rfl, ?_⟩) ?_
     rotate_left
     ·
      intro w; go_simp; try with_reducible rfl
     refine wpAny_ready (rs := [11]) (by kernel_rfl) (by simp) ?_
     refine AllReady.cons rfl (fun K hK => ?_) ?_
     ·
      go_simp
      (refine hK _ _ ?_; clear hK K)
      refine wpAny_take (i := 16) (v := ?_) rfl (by kernel_rfl) (by kernel_rfl) (by kernel_rfl) (fun _ _ _ h => h) (Or.inl ⟨by rfl, ?_⟩) ?_
      rotate_left
      ·
       intro w; go_simp; try with_reducible rfl
      exact FIN
     exact AllReady.nil
    refine AllReady.cons rfl (fun K hK => ?_) ?_
    ·
     go_simp
     (refine hK _ _ ?_; clear hK K)
     refine wpAny_take (i := 16) (v := ?_) rfl (by kernel_rfl) (by kernel_rfl) (by kernel_rfl) (fun _ _ _ h => h) (Or.inl ⟨by rfl, ?_⟩) ?_
     rotate_left
     ·
      intro w; go_simp; try with_reducible rfl
     refine wpAny_ready (rs := [8]) (by kernel_rfl) (by simp) ?_
     refine AllReady.cons rfl (fun K hK => ?_) ?_
     ·
      go_simp
      (refine hK _ _ ?_; clear hK K)
      refine wpAny_take (i := 9) (v := ?_) rfl (by kernel_rfl) (by kernel_rfl) (by kernel_rfl) (fun _ _ _ h => h) (Or.inl ⟨by rfl, ?_⟩) ?_
      rotate_left
      ·
       intro w; go_simp; try with_reducible rfl
      exact FIN
     exact AllReady.nil
    exact AllReady.nil
   refine AllReady.cons rfl (fun K hK => ?_) ?_
   ·
    go_simp
    (refine hK _ _ ?_; clear hK K)
    refine wpAny_ready (rs := [4, 11]) (by kernel_rfl) (by simp) ?_
    refine AllReady.cons rfl (fun K hK => ?_) ?_
    ·
     go_simp
     (refine hK _ _ ?_; clear hK K)
     refine wpAny_take (i := 9) (v := ?_) rfl (by kernel_rfl) (by kernel_rfl) (by kernel_rfl) (fun _ _ _ h => h) (Or.inl ⟨by rfl, ?_⟩) ?_
     rotate_left
     ·
      intro w; go_simp; try with_reducible rfl
     refine wpAny_ready (rs := [11]) (by kernel_rfl) (by simp) ?_
     refine AllReady.cons rfl (fun K hK => ?_) ?_
     ·
      go_simp
      (refine hK _ _ ?_; clear hK K)
      refine wpAny_take (i := 16) (v := ?_) rfl (by kernel_rfl) (by kernel_rfl) (by kernel_rfl) (fun _ _ _ h => h) (Or.inl ⟨by rfl, ?_⟩) ?_
      rotate_left
      ·
       intro w; go_simp; try with_reducible rfl
      exact FIN
     exact AllReady.nil
    refine AllReady.cons rfl (fun K hK => ?_) ?_
    ·
     go_simp
     (refine hK _ _ ?_; clear hK K)
     refine wpAny_take (i := 16) (v := ?_) rfl (by kernel_rfl) (by kernel_rfl) (by kernel_rfl) (fun _ _ _ h => h) (Or.inl ⟨by rfl, ?_⟩) ?_
     rotate_left
     ·
      intro w; go_simp; try with_reducible rfl
     refine wpAny_ready (rs := [4]) (by kernel_rfl) (by simp) ?_
     refine AllReady.cons rfl (fun K hK => ?_) ?_
     ·
      go_simp
      (refine hK _ _ ?_; clear hK K)
      refine wpAny_take (i := 9) (v := ?_) rfl (by kernel_rfl) (by kernel_rfl) (by kernel_rfl) (fun _ _ _ h => h) (Or.inl ⟨by rfl, ?_⟩) ?_
      rotate_left
      ·
       intro w; go_simp; try with_reducible rfl
      exact FIN
     exact AllReady.nil
    exact AllReady.nil
   refine AllReady.cons rfl (fun K hK => ?_) ?_
   ·
    go_simp
    (refine hK _ _ ?_; clear hK K)
    refine wpAny_take (i := 16) (v := ?_) rfl (by kernel_rfl) (by kernel_rfl) (by kernel_rfl) (fun _ _ _ h => h) (Or.inl ⟨by rfl, ?_⟩) ?_
    rotate_left
    ·
     intro w; go_simp; try with_reducible rfl
    refine wpAny_ready (rs := [4, 8]) (by kernel_rfl) (by simp) ?_
    refine AllReady.cons rfl (fun K hK => ?_) ?_
    ·
     go_simp
     (refine hK _ _ ?_; clear hK K)
     refine wpAny_ready (rs := [8]) (by kernel_rfl) (by simp) ?_
     refine AllReady.cons rfl (fun K hK => ?_) ?_
     ·
      go_simp
      (refine hK _ _ ?_; clear hK K)
      refine wpAny_take (i := 9) (v := ?_) rfl (by kernel_rfl) (by kernel_rfl) (by kernel_rfl) (fun _ _ _ h => h) (Or.inl ⟨by rfl, ?_⟩) ?_
      rotate_left
      ·
       intro w; go_simp; try with_reducible rfl
      exact FIN
     exact AllReady.nil
    refine AllReady.cons rfl (fun K hK => ?_) ?_
    ·
     go_simp
     (refine hK _ _ ?_; clear hK K)
     refine wpAny_ready (rs := [4]) (by kernel_rfl) (by simp) ?_
     refine AllReady.cons rfl (fun K hK => ?_) ?_
     ·
      go_simp
      (refine hK _ _ ?_; clear hK K)
      refine wpAny_take (i := 9) (v := ?_) rfl (by kernel_rfl) (by kernel_rfl) (by kernel_rfl) (fun _ _ _ h => h) (Or.inl ⟨by rfl, ?_⟩) ?_
      rotate_left
      ·
       intro w; go_simp; try with_reducible rfl
      exact FIN
     exact AllReady.nil
    exact AllReady.nil
   exact AllReady.nil
  exact AllReady.nil
 refine wpAny_ready (rs := [17]) (by kernel_rfl) (by simp) ?_
 refine AllReady.cons rfl (fun K hK => ?_) ?_
 ·
  go_simp
  rw [show l1.length - 1 = (l1.drop 1).length by simp]
  refine (curve_moved.calls (some (ad1.add 2)) (c1 - 1) (l1.drop 1) _ _ _ _ CD.out (by simp; omega) HMV.out).mono ?_
  rintro e w3 ⟨v0, rfl, hR3, hb3⟩
  obtain ⟨A2, c2, rfl, hc2, hC2⟩ := Kd.R_reads hR3
  have HB3 := Aside0.mk (HB2.out.trans (hb3.mono HB2.out.size))
  have HC2 := Aside0.mk hC2
  clear hR3 hb3 hC2
  (refine hK _ _ ?_; clear hK K)
  refine wpAny_ready (rs := [18]) (by kernel_rfl) (by simp) ?_
  refine AllReady.cons rfl (fun K hK => ?_) ?_
  ·
   go_simp
   (refine hK _ _ ?_; clear hK K)
   refine wpAny_ready (rs := [19]) (by kernel_rfl) (by simp) ?_
   refine AllReady.cons rfl (fun K hK => ?_) ?_
   ·
    go_simp
    have HB4 := Aside0.mk (show Below w.heap.size w (w3.alloc (.cells #[.slice (some ad0) l0.length c0, .slice A2 M.length c2] 23)) from HB3.out.alloc HB3.out.size _)
    refine (slices_Concat.calls (some ⟨w3.heap.size, 0, none⟩) 2 [l0, M] _ _ (two_C (Blk.new w3 23 _) (Kd.C_below HR0.out HB4.out) hc0 (Kd.C_alloc HC2.out _) hc2) (by simp) HCC.out).mono ?_
    rintro e w5 ⟨v1, rfl, hR5, hb5⟩
    have HR5 := Aside0.mk (Kd.R_lower hR5 HB4.out.size)
    have HB5 := Aside0.mk (HB4.out.trans (hb5.mono HB4.out.size))
    clear hR5 hb5
    (refine hK _ _ ?_; clear hK K)
    refine wpAny_ready (rs := [20]) (by kernel_rfl) (by simp) ?_
    refine AllReady.cons rfl (fun K hK => ?_) ?_
    ·
     go_simp
     refine (curve_bounded.calls kb (fun _ => True) v1 _ r1 r2 w w5 HB5.out HR5.out HBD.out).mono ?_
     rintro e w6 ⟨v2, rfl, hR6, hb6, _⟩
     have HR6 := Aside0.mk (Kd.R_mono (ok' := fun _ => True) hR6 (fun _ _ => trivial))
     have HB6 := Aside0.mk hb6
     clear hR6 hb6
     (refine hK _ _ ?_; clear hK K)
     refine wpAny_take (i := 21) (v := ?_) rfl (by kernel_rfl) (by kernel_rfl) (by kernel_rfl) (fun _ _ _ h => h) (Or.inl ⟨by rfl, ?_⟩) ?_
     rotate_left
     ·
      intro w; go_simp; try with_reducible rfl
     refine wpAny_take (i := 22) (v := ?_) rfl (by kernel_rfl) (by kernel_rfl) (by kernel_rfl) (fun _ _ _ h => h) (Or.inl ⟨by rfl, ?_⟩) ?_
     rotate_left
     ·
      intro w; go_simp; try with_reducible rfl
     refine wpAny_take (i := 23) (v := ?_) rfl (by kernel_rfl) (by kernel_rfl) (by kernel_rfl) (fun _ _ _ h => h) (Or.inl ⟨by rfl, ?_⟩) ?_
     rotate_left
     ·
      intro w; go_simp; try with_reducible rfl
     refine wpAny_take (i := 24) (v := ?_) rfl (by kernel_rfl) (by kernel_rfl) (by kernel_rfl) (fun _ _ _ h => h) (Or.inl ⟨by rfl, ?_⟩) ?_
     rotate_left
     ·
      intro w; go_simp; try with_reducible rfl
     refine wpAny_done (by kernel_rfl) ?_ _
     go_wp2_with fail
     go_ret2
     exact ⟨v2, rfl, HR6.out, HB6.out⟩
    exact AllReady.nil
   exact AllReady.nil
  exact AllReady.nil
 exact AllReady.nil
theorem curve_Join.calls (A0 : Option Addr) (c0 : Nat) (l0 : List S57) (A1 : Option Addr) (c1 : Nat) (l1 : List S57) (r1 : List S57) (r2 : Int) (w : World) (hr0 : Kd.C k57 w A0 l0.length l0) (hc0 : l0.length ≤ c0) (hr1 : Kd.C k57 w A1 l1.length l1) (hc1 : l1.length ≤ c1) (h : curve_Join.f l0 l1 = some (r1, r2)) :
  Calls Tryd.prog 49 #[.slice A0 l0.length c0, .slice A1 l1.length c1] w fun e w' => ∃ v0_ : Value, e = .returned (.tuple #[v0_, .int .i64 r2]) ∧ Kd.R k57 57 w' w.heap.size (fun _ => True) v0_ r1 ∧ Below w.heap.size w w' := by
 unfold curve_Join.f at h
 by_cases hg : goodB l0 = true ∧ goodB l1 = true
 ·
  rw [if_pos hg, Option.some.injEq] at h
  exact join_good A0 c0 l0 A1 c1 l1 r1 r2 w hr0 hc0 hr1 hc1 hg.1 hg.2 h
 ·
  rw [if_neg hg] at h
  simp only [Option.some.injEq, Prod.mk.injEq] at h
  obtain ⟨rfl, rfl⟩ := h
  refine (join_bad A0 c0 l0 A1 c1 l1 w hr0 hc0 hr1 hc1 hg).mono ?_
  rintro e w' ⟨rfl, hb⟩
  exact ⟨_, rfl, Kd.R_nil _ _ _ _ _, hb⟩
end Go.Proofs.YtlhhpogaaneamaaDoor.X
namespace Go.Proofs.YtlhhpogaaneamaaDoor.X
open Go.RowKit Go.Shelf Go.Proofs.YtlhhpogaaneamaaDoorW.PrintWords Go.Proofs.YtlhhpogaaneamaaDoorW.PrintLast Go.Proofs.YtlhhpogaaneamaaDoorW.PrintMore
set_option linter.unusedVariables false
def noDefer (ops : Array Oper) : Bool := ops.all fun o => match o.op with | .defer _ => false | _ => true
theorem noDefer_spec {ops : Array Oper} (h : noDefer ops = true) {j : Nat} {o : Oper} (ho : ops[j]? = some o) (c : _) : o.op ≠ .defer c := by
 intro heq
 have := Array.all_eq_true_iff_forall_mem.1 h o (Array.mem_of_getElem? ho)
 simp [heq] at this
theorem wpOpIn_round {F : Fence} {n : Nat} {P : Program} {ops : Array Oper} {Q : Exit → Act → World → Prop} {i l : Nat} {K : Act → World → Prop} {a : Act} {w : World} (hd : noDefer ops = true) (hro : F.round = none)
  (h : wpOpIn F n P ops Q i K a w) : wpOpIn (F.inRound l) n P ops Q i K a w := by
 unfold wpOpIn at h ⊢
 cases ho : ops[i]? with
 | none => rw [ho] at h; exact h
 | some o =>
  rw [ho] at h
  simp only at h ⊢
  split
  ·
   rename_i hw
   rw [if_pos hw] at h
   refine ⟨h.1, ?_⟩
   have h2 := h.2
   rw [hro, Oper.semAt_none] at h2
   rw [Fence.inRound_round, Oper.semAt_some l a.eval o (noDefer_spec hd ho)]
   exact h2
  ·
   rename_i hw
   rw [if_neg hw] at h
   exact h
theorem wpAnyIn_round {F : Fence} {n : Nat} {P : Program} {ops : Array Oper} {Q : Exit → Act → World → Prop} {l : Nat} {md : Region.Mode} (hd : noDefer ops = true) (hro : F.round = none) :
  ∀ (fuel : Nat) (listed : Array Bool) (a : Act) (w : World), wpAnyIn F n P md ops Q fuel listed a w → wpAnyIn (F.inRound l) n P md ops Q fuel listed a w
 | 0, _, _, _, h => h
 | fuel + 1, _, _, _, h => ⟨h.1, fun i hi => wpOpIn_round hd hro (wpOpIn_mono (fun a w h' => wpAnyIn_round hd hro fuel _ a w h') (h.2 i hi))⟩
theorem wpIn_region_any_round {F : Fence} {n : Nat} {P : Program} {ops : Array Oper} {Q : Exit → Act → World → Prop} {l id : Nat} {a : Act} {w : World} (hm : P.follows .mixedOrders = true) (hd : noDefer ops = true) (hro : F.round = none)
  (h : wpAnyIn F n P .any ops Q ops.size (Array.replicate ops.size false) a { w with drawn := w.drawn + 1 }) : (Code.region id ops true).wpIn (F.inRound l) n P Q a w :=
 wpIn_region_any hm (wpAnyIn_round hd hro _ _ _ _ h)
section
variable {F : Fence} {n : Nat} {P : Program} {ops : Array Oper} {Q : Exit → Act → World → Prop} {md : Region.Mode}
theorem wpOpIn_behind {j : Nat} {oi oj : Oper} {v : Value} (hro : F.round = none) (hj : ops[j]? = some oj) (hap : oi.apart ops oj = true)
  (hsj : ∀ cs b, oj.op ≠ .select cs b) (hQ : ∀ c a w, Q (.panic c) (a.put oi.dst v) w → Q (.panic c) a w) {K : Act → World → Prop} {a : Act} {w : World}
  (h : wpOpIn F n P ops Q j K (a.put oi.dst v) w) : wpOpIn F n P ops Q j (fun a' w' => (∃ u ds, a' = ({ a with defers := ds } : Act).put oj.dst u) ∧ K (a'.put oi.dst v) w') a w := by
 obtain ⟨h1, h2, h3⟩ := Oper.apart_spec hap
 unfold wpOpIn at *
 simp only [hj] at *
 rw [wanted_put oj a oi.dst v h1, about_put oj w a oi.dst v h1] at h
 split
 ·
  rename_i hw
  rw [if_pos hw] at h
  unfold Oper.wpIn at *
  rw [hro, Oper.semAt_none] at *
  rw [execOp_put oj hsj a oi.dst v h1, about_put oj w a oi.dst v h1] at h
  refine ⟨h.1, ?_⟩
  have hh := h.2
  revert hh
  generalize hr : (execOp a.eval oj).run P w = r
  intro hh
  cases r with
  | ok x w' =>
   cases x <;> simp only [Oper.uponIn] at hh ⊢
   case value u => exact ⟨⟨u, _, rfl⟩, by rw [← Act.put_comm a v u h2]; exact hh⟩
   case skip => exact ⟨⟨undef, _, rfl⟩, by rw [← Act.put_comm a v undef h2]; exact hh⟩
   case defer d => exact ⟨⟨undef, d :: a.defers, rfl⟩, by rw [← Act.put_comm _ v undef h2, ← Act.put_defers]; exact hh⟩
   case enter f args => exact ⟨hh.1, CallsIn.mono hh.2 (fun e w'' he => by
    cases e with
    | returned u => exact ⟨⟨u, _, rfl⟩, by rw [← Act.put_comm a v u h2]; exact he⟩
    | panicked c => exact hQ _ _ _ he
    | outgrown => exact he)⟩
   case row row args => exact ⟨hh.1, RowsIn.mono hh.2 (fun u w'' he => ⟨⟨u, _, rfl⟩, by rw [← Act.put_comm a v u h2]; exact he⟩)⟩
   case round l f t as' b => exact ⟨hh.1, RoundIn.mono hh.2 (fun e w'' he => by
    cases e with
    | returned u => exact ⟨⟨u, _, rfl⟩, by rw [← Act.put_comm a v u h2]; exact he⟩
    | panicked c => exact hQ _ _ _ he
    | outgrown => exact he)⟩
  | halt x w' =>
   cases x <;> simp only [Oper.uponIn] at hh ⊢
   case panic u => exact hQ _ _ _ hh
 ·
  rename_i hw
  rw [if_neg hw] at h
  exact ⟨h.1, ⟨undef, _, rfl⟩, by rw [← Act.put_comm a v undef h2]; exact h.2⟩
def AnyI (I : World → Prop) (F : Fence) (n : Nat) (P : Program) (md : Region.Mode) (ops : Array Oper) (Q : Exit → Act → World → Prop) : Nat → Array Bool → Act → World → Prop
 | 0, listed, a, w => Region.ready md ops listed = [] ∧ Q .normal a w
 | fuel + 1, listed, a, w =>
  (Region.ready md ops listed = [] → Q .normal a w) ∧
  ∀ i ∈ Region.ready md ops listed, wpOpIn F n P ops Q i (fun a w => I w ∧ AnyI I F n P md ops Q fuel (listed.setIfInBounds i true) a w) a w
theorem AnyI.out {I : World → Prop} : ∀ (fuel : Nat) (listed : Array Bool) (a : Act) (w : World), AnyI I F n P md ops Q fuel listed a w → wpAnyIn F n P md ops Q fuel listed a w
 | 0, _, _, _, h => h
 | fuel + 1, _, _, _, h => ⟨h.1, fun i hi => wpOpIn_mono (fun a w h' => AnyI.out fuel _ a w h'.2) (h.2 i hi)⟩
def YieldsI (I : World → Prop) (P : Program) (ops : Array Oper) (o : Oper) (v : Value) (a : Act) : Prop :=
 ((Region.wanted o (yielded ops a.tmps) = true ∧ ∀ w, I w → (execOp a.eval o).run P w = .ok (.value v) w) ∨ (Region.wanted o (yielded ops a.tmps) = false ∧ v = undef)) ∧ ∀ w, o.about P w a.eval = none
theorem AnyI.first {I : World → Prop} {i : Nat} {oi : Oper} {v : Value} (hro : F.round = none) (hi : ops[i]? = some oi) (hsel : ∀ (j : Nat) (o : Oper) cs b, ops[j]? = some o → o.op ≠ .select cs b)
  (hQ : ∀ c a w, Q (.panic c) (a.put oi.dst v) w → Q (.panic c) a w) :
  ∀ (fuel : Nat) (listed : Array Bool) (a : Act) (w : World),
   (∀ j oj, ops[j]? = some oj → j ≠ i → listed.getD j true = false → (∀ e ∈ oj.after, Region.binds md e = true → e.on ≠ i) → oi.apart ops oj = true) →
   i ∈ Region.ready md ops listed → YieldsI I P ops oi v a → I w →
   AnyI I F n P md ops Q fuel (listed.setIfInBounds i true) (a.put oi.dst v) w → AnyI I F n P md ops Q (fuel + 1) listed a w := by
 intro fuel
 induction fuel with
 | zero =>
  intro listed a w _ hr hy hI H
  refine ⟨fun h => (by rw [h] at hr; cases hr), fun j hj => ?_⟩
  by_cases hji : j = i
  ·
   subst hji
   unfold wpOpIn
   have hab : ∀ f, oi.about P w a.eval = some f → F.fn f := fun f hf => by rw [hy.2 w] at hf; cases hf
   rcases hy.1 with ⟨hw, hv⟩ | ⟨hw, rfl⟩
   ·
    simp only [hi, hw, if_true, Oper.wpIn, hro, Oper.semAt_none, hv w hI, Oper.uponIn]
    exact ⟨hab, hI, H⟩
   ·
    simp only [hi, hw, Bool.false_eq_true, if_false]
    exact ⟨hab, hI, H⟩
  ·
   have := ready_mono hj hji
   rw [H.1] at this
   cases this
 | succ fuel ih =>
  intro listed a w hfree hr hy hI H
  refine ⟨fun h => (by rw [h] at hr; cases hr), fun j hj => ?_⟩
  by_cases hji : j = i
  ·
   subst hji
   unfold wpOpIn
   have hab : ∀ f, oi.about P w a.eval = some f → F.fn f := fun f hf => by rw [hy.2 w] at hf; cases hf
   rcases hy.1 with ⟨hw, hv⟩ | ⟨hw, rfl⟩
   ·
    simp only [hi, hw, if_true, Oper.wpIn, hro, Oper.semAt_none, hv w hI, Oper.uponIn]
    exact ⟨hab, hI, H⟩
   ·
    simp only [hi, hw, Bool.false_eq_true, if_false]
    exact ⟨hab, hI, H⟩
  ·
   have h1 := H.2 j (ready_mono hj hji)
   obtain ⟨hjun, oj, hoj, hall⟩ := mem_ready.1 hj
   have hnot : ∀ e ∈ oj.after, Region.binds md e = true → e.on ≠ i := fun e he hb heq => by
    have h1 := hall e he hb
    have h0 := (mem_ready.1 hr).1
    rw [heq] at h1
    rcases Nat.lt_or_ge i listed.size with h' | h'
    ·
     simp [h'] at h0 h1; rw [h0] at h1; cases h1
    ·
     simp [Array.getElem?_eq_none h'] at h1
   have hap := hfree j oj hoj hji hjun hnot
   have h3 := (Oper.apart_spec hap).2.2
   have h2 := wpOpIn_behind hro hoj hap (fun cs b => hsel j oj cs b hoj) hQ h1
   refine wpOpIn_mono ?_ h2
   rintro a' w' ⟨⟨u, ds, rfl⟩, hI', hA⟩
   refine ⟨hI', ih (listed.setIfInBounds j true) _ w' (fun k ok hk hki hun hno => ?_) (ready_mono hr (Ne.symm hji)) ?_ hI' ?_⟩
   ·
    refine hfree k ok hk hki ?_ hno
    by_cases hjk : j = k
    ·
     subst hjk; exact hjun
    ·
     rw [getD_set_ne true hjk] at hun; exact hun
   ·
    have e : execOp (({ a with defers := ds } : Act).put oj.dst u).eval oi = execOp a.eval oi := execOp_put oi (fun cs b => hsel i oi cs b hi) _ oj.dst u h3
    refine ⟨?_, fun w => by rw [about_put oi w _ oj.dst u h3]; exact hy.2 w⟩
    rw [wanted_put oi ({ a with defers := ds } : Act) oj.dst u h3]
    exact hy.1.imp (fun q => ⟨q.1, fun w hw => by rw [e]; exact q.2 w hw⟩) id
   ·
    rw [Array.setIfInBounds_comm _ _ hji]
    exact hA
theorem AnyI.take {I : World → Prop} {i : Nat} {oi : Oper} {v : Value} {fuel : Nat} {listed : Array Bool} {a : Act} {w : World} (hro : F.round = none) (hi : ops[i]? = some oi)
  (hs : Region.noSelect ops = true) (hf : Region.free md ops listed i = true) (hr : (Region.ready md ops listed).contains i = true)
  (hQ : ∀ c a w, Q (.panic c) (a.put oi.dst v) w → Q (.panic c) a w) (hy : YieldsI I P ops oi v a) (hI : I w)
  (h : AnyI I F n P md ops Q fuel (listed.setIfInBounds i true) (a.put oi.dst v) w) : AnyI I F n P md ops Q (fuel + 1) listed a w :=
 AnyI.first hro hi (Region.noSelect_spec hs) hQ fuel listed a w (Region.free_spec hi hf) (by simpa using hr) hy hI h
theorem AnyI.one {I : World → Prop} {i : Nat} {o : Oper} {fuel : Nat} {listed : Array Bool} {a : Act} {w : World} (hr : Region.ready md ops listed = [i]) (ho : ops[i]? = some o)
  (h : ∀ K : Act → World → Prop, (∀ a w, I w → AnyI I F n P md ops Q fuel (listed.setIfInBounds i true) a w → K a w) →
   if Region.wanted o (yielded ops a.tmps) then o.wpIn F n P a w K Q else (∀ f, o.about P w a.eval = some f → F.fn f) ∧ K (a.put o.dst undef) w) : AnyI I F n P md ops Q (fuel + 1) listed a w := by
 refine ⟨fun h0 => (by rw [hr] at h0; cases h0), fun j hj => ?_⟩
 rw [hr] at hj
 have hj' : j = i := by simpa using hj
 subst hj'
 refine wpOpIn_mono (K := fun a w => I w ∧ AnyI I F n P md ops Q fuel (listed.setIfInBounds j true) a w) (fun _ _ h => h) ?_
 unfold wpOpIn
 simp only [ho]
 exact h _ (fun a w h1 h2 => ⟨h1, h2⟩)
theorem AnyI.done {I : World → Prop} {listed : Array Bool} {a : Act} {w : World} (hr : Region.ready md ops listed = []) (h : Q .normal a w) : ∀ fuel, AnyI I F n P md ops Q fuel listed a w
 | 0 => ⟨hr, h⟩
 | _ + 1 => ⟨fun _ => h, by rw [hr]; simp⟩
theorem wp_region_I {I : World → Prop} {id : Nat} {a : Act} {w : World} (hm : P.follows .mixedOrders = true)
  (h : AnyI I Fence.wide n P .any ops Q ops.size (Array.replicate ops.size false) a { w with drawn := w.drawn + 1 }) : (Code.region id ops true).wp P Q a w :=
 (wpIn_wide (n := n)).1 (wpIn_region_any hm (AnyI.out _ _ _ _ h))
end
def OnlyN (K : Act → World → Prop) : Exit → Act → World → Prop
 | .normal, a, w => K a w
 | _, _, _ => False
theorem OnlyN.up {Q : Exit → Act → World → Prop} (e : Exit) (a : Act) (w : World) (h : OnlyN (Q .normal) e a w) : Q e a w := by
 cases e <;> first | exact h | exact h.elim
section
variable {F : Fence} {n : Nat} {P : Program} {ops : Array Oper} {Q : Exit → Act → World → Prop}
theorem wp_region_IN {I : World → Prop} {id : Nat} {a : Act} {w : World} (hm : P.follows .mixedOrders = true)
  (h : AnyI I Fence.wide n P .any ops (OnlyN (Q .normal)) ops.size (Array.replicate ops.size false) a { w with drawn := w.drawn + 1 }) : (Code.region id ops true).wp P Q a w :=
 wp_mono (wp_region_I hm h) OnlyN.up
theorem wpIn_region_IN {I : World → Prop} {id l : Nat} {a : Act} {w : World} (hm : P.follows .mixedOrders = true) (hd : noDefer ops = true) (hro : F.round = none)
  (h : AnyI I F n P .any ops (OnlyN (Q .normal)) ops.size (Array.replicate ops.size false) a { w with drawn := w.drawn + 1 }) : (Code.region id ops true).wpIn (F.inRound l) n P Q a w :=
 wpIn_mono (wpIn_region_any_round hm hd hro (AnyI.out _ _ _ _ h)) OnlyN.up
end
end Go.Proofs.YtlhhpogaaneamaaDoor.X
namespace Go.Proofs.YtlhhpogaaneamaaDoor.X
open Go.RowKit Go.Shelf Go.Proofs.YtlhhpogaaneamaaDoorW.PrintWords Go.Proofs.YtlhhpogaaneamaaDoorW.PrintLast Go.Proofs.YtlhhpogaaneamaaDoorW.PrintMore
set_option linter.unusedVariables false
attribute [local go_sem] Oper.semAt_some
theorem exactI_bounds {l : S57 × S57} {x N D : Int} (h : LineOk l) (h1 : l.1.f0 ≤ x) (h2 : x ≤ l.2.f0) (e : exactI l x = (N, D)) : 0 ≤ N ∧ N ≤ 281474976710656 ∧ 0 < D ∧ D ≤ 16777216 := by
 have w := h.wide; have en := exact_num h h1 h2; have o := h.over h1 h2
 have e2 := exactI_eq (l := l) (x := x) w.1
 rw [e] at e2
 simp only [Prod.mk.injEq] at e2
 unfold exactI lowestI at e
 simp only [Prod.mk.injEq] at e
 have g := gcd_pos (n := l.1.f1 * wideI l + overI l x) w.1
 have b1 := div_bounds (n := l.1.f1 * wideI l + overI l x) (by omega) g
 have b2 := div_bounds (n := wideI l) (by omega) g
 have := den_pos (lineV l x)
 rw [e.1] at b1
 rw [e.2] at b2
 omega
theorem cmp_frac {a b c d r : Int} (h1 : 0 ≤ a) (h2 : a ≤ 281474976710656) (h3 : 0 < b) (h4 : b ≤ 281474976710656) (h5 : 0 ≤ c) (h6 : c ≤ 281474976710656) (h7 : 0 < d) (h8 : d ≤ 281474976710656) (h : cmpI a b c d = r) : curve_compare.f a b c d = some r := by
 unfold curve_compare.f fracB
 rw [if_pos (by simp [h1, h2, h3, h4, h5, h6, h7, h8]), h]
theorem cmpI_neg {a b c d : Int} (h : a * d < c * b) : cmpI a b c d < 0 := by unfold cmpI; rw [if_pos h]; omega
theorem cmpI_nonneg {a b c d : Int} (h : c * b ≤ a * d) : 0 ≤ cmpI a b c d := by unfold cmpI; rw [if_neg (by omega)]; split <;> omega
theorem cmpI_pos {a b c d : Int} (h : c * b < a * d) : 0 < cmpI a b c d := by unfold cmpI; rw [if_neg (by omega), if_pos h]; omega
theorem cmpI_nonpos {a b c d : Int} (h : a * d ≤ c * b) : cmpI a b c d ≤ 0 := by unfold cmpI; split; omega; rw [if_neg (by omega)]; omega
set_option maxRecDepth 100000 in
set_option maxHeartbeats 4000000 in
theorem through_bad (A0 : Option Addr) (c0 : Nat) (l0 : List S57) (A1 : Option Addr) (c1 : Nat) (l1 : List S57) (x : Int) (w : World) (hr0 : Kd.C k57 w A0 l0.length l0) (hc0 : l0.length ≤ c0) (hr1 : Kd.C k57 w A1 l1.length l1) (hc1 : l1.length ≤ c1) (hg : ¬ (goodB l0 = true ∧ goodB l1 = true)) :
  Calls Tryd.prog 40 #[.slice A0 l0.length c0, .slice A1 l1.length c1, .int .i64 x] w fun e w' => e = .returned (.tuple #[.agg #[.int .i64 0, .int .i64 0], .int .i64 10]) ∧ Below w.heap.size w w' := by
 have hu43 := Tryd.underlying43
 have HR0 := Aside0.mk hr0
 have HR1 := Aside0.mk hr1
 have HX := Aside0.mk (show Blk ((w.alloc (.cells #[.int .i64 0, .int .i64 0] 43)).alloc (.cells #[.int .i64 0] 28)) w.heap.size 43 #[.int .i64 0, .int .i64 0] from (Blk.new w 43 _).alloc _)
 have HZ := Aside0.mk (show Blk ((w.alloc (.cells #[.int .i64 0, .int .i64 0] 43)).alloc (.cells #[.int .i64 0] 28)) (w.heap.size + 1) 28 #[.int .i64 0] by
   have h := Blk.new (w.alloc (.cells #[.int .i64 0, .int .i64 0] 43)) 28 #[.int .i64 0]; rwa [World.size_alloc] at h)
 have HB := Aside0.mk (show Below w.heap.size w ((w.alloc (.cells #[.int .i64 0, .int .i64 0] 43)).alloc (.cells #[.int .i64 0] 28)) from ((Below.refl _ w).alloc (Nat.le_refl _) _).alloc (by simp) _)
 clear hr0 hr1
 obtain ⟨k, hk⟩ := checked_eq l0 l1
 rw [if_neg hg] at hk
 have HK := Aside0.mk hk
 clear hg hk
 go_enter Tryd.func40, Tryd.ntmps40
 go_wp2_with fail
 refine (curve_checked.calls k A0 c0 l0 A1 c1 l1 10 _ (Kd.C_below HR0.out HB.out) hc0 (Kd.C_below HR1.out HB.out) hc1 HK.out).mono ?_
 rintro e w1 ⟨rfl, hb⟩
 have bX := HX.out.below hb (by simp; omega)
 have bZ := HZ.out.below hb (by simp)
 have HBX := Aside0.mk bX
 have HBZ := Aside0.mk bZ
 have HB1 := Aside0.mk (HB.out.trans (hb.mono HB.out.size))
 have x0 : w1.cell? ⟨w.heap.size, 0, none⟩ = some (.int .i64 0) := bX.cell 0
 have x1 : w1.cell? ⟨w.heap.size, 1, none⟩ = some (.int .i64 0) := bX.cell 1
 have z0 : w1.cell? ⟨w.heap.size + 1, 0, none⟩ = some (.int .i64 0) := bZ.cell 0
 have fx0 := bX.frozen 0
 have fx1 := bX.frozen 1
 have fz0 := bZ.frozen 0
 clear hb bX bZ
 have r1 : Blk (((w1.setCell ⟨w.heap.size, 0, none⟩ (.int .i64 (0))).setCell ⟨w.heap.size, 1, none⟩ (.int .i64 (0))).setCell ⟨w.heap.size + 1, 0, none⟩ (.int .i64 (10))) w.heap.size 43 #[.int .i64 (0), .int .i64 (0)] := by
  have h := ((HBX.out.set_ 0 (.int .i64 (0))).set_ 1 (.int .i64 (0))).far (p := ⟨w.heap.size + 1, 0, none⟩) (by simp) (.int .i64 (10)); simpa using h
 have r2 : Blk (((w1.setCell ⟨w.heap.size, 0, none⟩ (.int .i64 (0))).setCell ⟨w.heap.size, 1, none⟩ (.int .i64 (0))).setCell ⟨w.heap.size + 1, 0, none⟩ (.int .i64 (10))) (w.heap.size + 1) 28 #[.int .i64 (10)] := by
  have h := ((HBZ.out.far (p := ⟨w.heap.size, 0, none⟩) (by simp) (.int .i64 (0))).far (p := ⟨w.heap.size, 1, none⟩) (by simp) (.int .i64 (0))).set_ 0 (.int .i64 (10)); simpa using h
 have G1 := Aside0.mk r1
 have G2 := Aside0.mk r2
 have HB9 := Aside0.mk (((HB1.out.setCell (p := ⟨w.heap.size, 0, none⟩) (by simp) (.int .i64 (0))).setCell (p := ⟨w.heap.size, 1, none⟩) (by simp) (.int .i64 (0))).setCell (p := ⟨w.heap.size + 1, 0, none⟩) (by simp) (.int .i64 (10)))
 clear r1 r2
 go_wp2_with fail
 have g0 := G1.out.cell 0
 have g1 := G1.out.cell 1
 have g2 := G2.out.cell 0
 exact bodyPost_ret (v := .tuple #[.agg #[.int .i64 (0), .int .i64 (0)], .int .i64 (10)]) (by simp [results, Tryd.f40, go_sem, g0, g1, g2]) rfl ⟨rfl, HB9.out⟩
set_option maxRecDepth 100000 in
set_option maxHeartbeats 4000000 in
theorem through_out (A0 : Option Addr) (c0 : Nat) (l0 : List S57) (A1 : Option Addr) (c1 : Nat) (l1 : List S57) (x : Int) (w : World) (hr0 : Kd.C k57 w A0 l0.length l0) (hc0 : l0.length ≤ c0) (hr1 : Kd.C k57 w A1 l1.length l1) (hc1 : l1.length ≤ c1) (hg : goodB l0 = true) (hg1 : goodB l1 = true) (hx : inB l0 x = false) :
  Calls Tryd.prog 40 #[.slice A0 l0.length c0, .slice A1 l1.length c1, .int .i64 x] w fun e w' => e = .returned (.tuple #[.agg #[.int .i64 0, .int .i64 0], .int .i64 1]) ∧ Below w.heap.size w w' := by
 have hu43 := Tryd.underlying43
 have HR0 := Aside0.mk hr0
 have HR1 := Aside0.mk hr1
 have HX := Aside0.mk (show Blk ((w.alloc (.cells #[.int .i64 0, .int .i64 0] 43)).alloc (.cells #[.int .i64 0] 28)) w.heap.size 43 #[.int .i64 0, .int .i64 0] from (Blk.new w 43 _).alloc _)
 have HZ := Aside0.mk (show Blk ((w.alloc (.cells #[.int .i64 0, .int .i64 0] 43)).alloc (.cells #[.int .i64 0] 28)) (w.heap.size + 1) 28 #[.int .i64 0] by
   have h := Blk.new (w.alloc (.cells #[.int .i64 0, .int .i64 0] 43)) 28 #[.int .i64 0]; rwa [World.size_alloc] at h)
 have HB := Aside0.mk (show Below w.heap.size w ((w.alloc (.cells #[.int .i64 0, .int .i64 0] 43)).alloc (.cells #[.int .i64 0] 28)) from ((Below.refl _ w).alloc (Nat.le_refl _) _).alloc (by simp) _)
 clear hr0 hr1
 obtain ⟨k, hk⟩ := checked_eq l0 l1
 rw [if_pos ⟨hg, hg1⟩] at hk
 have HK := Aside0.mk hk
 have HW := Aside0.mk (show curve_within.f l0 x = some false by rw [within_eq (good_of hg), hx])
 clear hg hg1 hk hx
 go_enter Tryd.func40, Tryd.ntmps40
 go_wp2_with fail
 refine (curve_checked.calls k A0 c0 l0 A1 c1 l1 0 _ (Kd.C_below HR0.out HB.out) hc0 (Kd.C_below HR1.out HB.out) hc1 HK.out).mono ?_
 rintro e w1 ⟨rfl, hb⟩
 have bX := HX.out.below hb (by simp; omega)
 have bZ := HZ.out.below hb (by simp)
 have HBX := Aside0.mk bX
 have HBZ := Aside0.mk bZ
 have HB1 := Aside0.mk (HB.out.trans (hb.mono HB.out.size))
 have x0 : w1.cell? ⟨w.heap.size, 0, none⟩ = some (.int .i64 0) := bX.cell 0
 have x1 : w1.cell? ⟨w.heap.size, 1, none⟩ = some (.int .i64 0) := bX.cell 1
 have z0 : w1.cell? ⟨w.heap.size + 1, 0, none⟩ = some (.int .i64 0) := bZ.cell 0
 have fx0 := bX.frozen 0
 have fx1 := bX.frozen 1
 have fz0 := bZ.frozen 0
 clear hb bX bZ
 go_wp2_with fail
 refine (curve_within.calls A0 c0 l0 x false _ (Kd.C_below HR0.out HB1.out) hc0 HW.out).mono ?_
 rintro e w2 ⟨rfl, ⟨n0, rfl⟩⟩
 have HBN := Aside0.mk (pw_below_drewN HB1.out n0)
 have r1 : Blk ((((w1.drewN n0).setCell ⟨w.heap.size, 0, none⟩ (.int .i64 (0))).setCell ⟨w.heap.size, 1, none⟩ (.int .i64 (0))).setCell ⟨w.heap.size + 1, 0, none⟩ (.int .i64 (1))) w.heap.size 43 #[.int .i64 (0), .int .i64 (0)] := by
  have h := (((HBX.out.drewN n0).set_ 0 (.int .i64 (0))).set_ 1 (.int .i64 (0))).far (p := ⟨w.heap.size + 1, 0, none⟩) (by simp) (.int .i64 (1)); simpa using h
 have r2 : Blk ((((w1.drewN n0).setCell ⟨w.heap.size, 0, none⟩ (.int .i64 (0))).setCell ⟨w.heap.size, 1, none⟩ (.int .i64 (0))).setCell ⟨w.heap.size + 1, 0, none⟩ (.int .i64 (1))) (w.heap.size + 1) 28 #[.int .i64 (1)] := by
  have h := (((HBZ.out.drewN n0).far (p := ⟨w.heap.size, 0, none⟩) (by simp) (.int .i64 (0))).far (p := ⟨w.heap.size, 1, none⟩) (by simp) (.int .i64 (0))).set_ 0 (.int .i64 (1)); simpa using h
 have G1 := Aside0.mk r1
 have G2 := Aside0.mk r2
 have HB9 := Aside0.mk (((HBN.out.setCell (p := ⟨w.heap.size, 0, none⟩) (by simp) (.int .i64 (0))).setCell (p := ⟨w.heap.size, 1, none⟩) (by simp) (.int .i64 (0))).setCell (p := ⟨w.heap.size + 1, 0, none⟩) (by simp) (.int .i64 (1)))
 clear r1 r2
 go_wp2_with fail
 have g0 := G1.out.cell 0
 have g1 := G1.out.cell 1
 have g2 := G2.out.cell 0
 exact bodyPost_ret (v := .tuple #[.agg #[.int .i64 (0), .int .i64 (0)], .int .i64 (1)]) (by simp [results, Tryd.f40, go_sem, g0, g1, g2]) rfl ⟨rfl, HB9.out⟩
set_option maxRecDepth 100000 in
set_option maxHeartbeats 4000000 in
theorem through_edgeA (A0 : Option Addr) (c0 : Nat) (l0 : List S57) (A1 : Option Addr) (c1 : Nat) (l1 : List S57) (x : Int) (w : World) (hr0 : Kd.C k57 w A0 l0.length l0) (hc0 : l0.length ≤ c0) (hr1 : Kd.C k57 w A1 l1.length l1) (hc1 : l1.length ≤ c1) (hg : goodB l0 = true) (hg1 : goodB l1 = true) (hx : inB l0 x = true) (l : S57 × S57) (hl : lineAt l0 x = some l) (N D : Int) (hND : exactI l x = (N, D)) (hc : N < (rd_T57 l1 0).f0 * D) :
  Calls Tryd.prog 40 #[.slice A0 l0.length c0, .slice A1 l1.length c1, .int .i64 x] w fun e w' => e = .returned (.tuple #[.agg #[.int .i64 0, .int .i64 0], .int .i64 1]) ∧ Below w.heap.size w w' := by
 have hu43 := Tryd.underlying43
 have HR0 := Aside0.mk hr0
 have HR1 := Aside0.mk hr1
 have HX := Aside0.mk (show Blk ((w.alloc (.cells #[.int .i64 0, .int .i64 0] 43)).alloc (.cells #[.int .i64 0] 28)) w.heap.size 43 #[.int .i64 0, .int .i64 0] from (Blk.new w 43 _).alloc _)
 have HZ := Aside0.mk (show Blk ((w.alloc (.cells #[.int .i64 0, .int .i64 0] 43)).alloc (.cells #[.int .i64 0] 28)) (w.heap.size + 1) 28 #[.int .i64 0] by
   have h := Blk.new (w.alloc (.cells #[.int .i64 0, .int .i64 0] 43)) 28 #[.int .i64 0]; rwa [World.size_alloc] at h)
 have HB := Aside0.mk (show Below w.heap.size w ((w.alloc (.cells #[.int .i64 0, .int .i64 0] 43)).alloc (.cells #[.int .i64 0] 28)) from ((Below.refl _ w).alloc (Nat.le_refl _) _).alloc (by simp) _)
 clear hr0 hr1
 obtain ⟨k, hk⟩ := checked_eq l0 l1
 rw [if_pos ⟨hg, hg1⟩] at hk
 have HK := Aside0.mk hk
 have HG := Aside0.mk (good_of hg)
 have HG1 := Aside0.mk (good_of hg1)
 have HW := Aside0.mk (show curve_within.f l0 x = some true by rw [within_eq HG.out, hx])
 obtain ⟨⟨⟨p0, p1⟩, ⟨p2, p3⟩⟩, hl', hml, hx0, hx1⟩ := lineAt_of HG.out ((inB_iff HG.out).1 hx).1 ((inB_iff HG.out).1 hx).2
 obtain rfl : ((⟨p0, p1⟩, ⟨p2, p3⟩) : S57 × S57) = l := Option.some.inj (hl'.symm.trans hl)
 have hok := good_line HG.out hml
 have HAT := Aside0.mk (show curve_at.f l0 x = some (p0, p1, p2, p3) by unfold curve_at.f; rw [hl])
 obtain ⟨ke, hke⟩ := (exact_ev hok hx0 hx1).one
 rw [hND] at hke
 have HE := Aside0.mk hke
 have HCN := Aside0.mk hc
 clear hc
 obtain ⟨hN0, hN1, hD0, hD1⟩ := exactI_bounds hok hx0 hx1 hND
 clear hg hg1 hk hx hl hl' hml hx0 hx1 hok hke hND
 go_enter Tryd.func40, Tryd.ntmps40
 go_wp2_with fail
 refine (curve_checked.calls k A0 c0 l0 A1 c1 l1 0 _ (Kd.C_below HR0.out HB.out) hc0 (Kd.C_below HR1.out HB.out) hc1 HK.out).mono ?_
 rintro e w1 ⟨rfl, hb⟩
 have bX := HX.out.below hb (by simp; omega)
 have bZ := HZ.out.below hb (by simp)
 have HBX := Aside0.mk bX
 have HBZ := Aside0.mk bZ
 have HB1 := Aside0.mk (HB.out.trans (hb.mono HB.out.size))
 have x0 : w1.cell? ⟨w.heap.size, 0, none⟩ = some (.int .i64 0) := bX.cell 0
 have x1 : w1.cell? ⟨w.heap.size, 1, none⟩ = some (.int .i64 0) := bX.cell 1
 have z0 : w1.cell? ⟨w.heap.size + 1, 0, none⟩ = some (.int .i64 0) := bZ.cell 0
 have fx0 := bX.frozen 0
 have fx1 := bX.frozen 1
 have fz0 := bZ.frozen 0
 clear hb bX bZ
 go_wp2_with fail
 refine (curve_within.calls A0 c0 l0 x true _ (Kd.C_below HR0.out HB1.out) hc0 HW.out).mono ?_
 rintro e w2 ⟨rfl, ⟨n0, rfl⟩⟩
 go_wp2_with fail
 refine (curve_at.calls A0 c0 l0 x p0 p1 p2 p3 _ (Kd.C_below HR0.out (pw_below_drewN HB1.out n0)) hc0 HAT.out).mono ?_
 rintro e w3 ⟨rfl, hb3⟩
 have HB3 := Aside0.mk ((pw_below_drewN HB1.out n0).trans (hb3.mono HB1.out.size))
 have HBX3 := Aside0.mk ((HBX.out.drewN n0).below hb3 HBX.out.lt)
 have HBZ3 := Aside0.mk ((HBZ.out.drewN n0).below hb3 HBZ.out.lt)
 clear hb3
 go_wp2_with fail
 refine (curve_line_exact.calls ke p0 p1 p2 p3 x N D _ HE.out).mono ?_
 rintro e w4 ⟨rfl, hb4⟩
 have HB4 := Aside0.mk (HB3.out.trans (hb4.mono HB3.out.size))
 have HBX4 := Aside0.mk (HBX3.out.below hb4 HBX3.out.lt)
 have HBZ4 := Aside0.mk (HBZ3.out.below hb4 HBZ3.out.lt)
 clear hb4 x0 x1 z0 fx0 fx1 fz0
 go_wp2_with fail
 obtain ⟨w5, hw5⟩ : ∃ w5, w4.alloc (.cells #[.int .i64 N, .int .i64 D] 25) = w5 := ⟨_, rfl⟩
 have bP : Blk w5 w4.heap.size 25 #[.int .i64 N, .int .i64 D] := by rw [← hw5]; exact Blk.new w4 25 _
 have HP := Aside0.mk bP
 have HBX5 := Aside0.mk (show Blk w5 w.heap.size 43 #[.int .i64 0, .int .i64 0] by rw [← hw5]; exact HBX4.out.alloc _)
 have HBZ5 := Aside0.mk (show Blk w5 (w.heap.size + 1) 28 #[.int .i64 0] by rw [← hw5]; exact HBZ4.out.alloc _)
 have HB5 := Aside0.mk (show Below w.heap.size w w5 by rw [← hw5]; exact HB4.out.alloc HB4.out.size _)
 rw [hw5]
 clear bP hw5
 have hl2 := HG1.out.len2
 have hl64 := HG1.out.len64
 obtain ⟨ad, e258, b0, _⟩ := at_T57 HR1.out 0 (by omega) (by omega)
 cases e258
 obtain ⟨ad', e258, b1, _⟩ := at_T57 HR1.out ((l1.length : Int) - 1) (by omega) (by omega)
 cases e258
 rw [show ad.add (Int.toNat 0 * 2) = ad by simp [Addr.add]] at b0
 rw [show ((l1.length : Int) - 1).toNat = l1.length - 1 by omega] at b1
 have HQ0 := Aside0.mk ((HB5.out.cell (World.block_lt_of_cell? w _ b0)).trans b0)
 have HQ1 := Aside0.mk ((HB5.out.cell (World.block_lt_of_cell? w _ b1)).trans b1)
 clear b0 b1
 obtain ⟨X0, hX0⟩ : ∃ X0, (rd_T57 l1 0).f0 = X0 := ⟨_, rfl⟩
 obtain ⟨XE, hXE⟩ : ∃ XE, (rd_T57 l1 ((l1.length : Int) - 1)).f0 = XE := ⟨_, rfl⟩
 rw [hX0] at HQ0
 rw [hXE] at HQ1
 have FACTS : ∀ W : World, Below w5.heap.size w5 W → W.cell? ⟨w4.heap.size, 0, none⟩ = some (.int .i64 N) ∧ W.cell? ⟨w4.heap.size, 1, none⟩ = some (.int .i64 D) ∧ W.cell? ad = some (.int .i64 X0) ∧ W.cell? (ad.add ((l1.length - 1) * 2)) = some (.int .i64 XE) := fun W h =>
  ⟨(HP.out.below h HP.out.lt).cell 0, (HP.out.below h HP.out.lt).cell 1, (h.cell (World.block_lt_of_cell? w5 _ HQ0.out)).trans HQ0.out, (h.cell (World.block_lt_of_cell? w5 _ HQ1.out)).trans HQ1.out⟩
 have HF := Aside0.mk FACTS
 clear FACTS
 have HI := (show Below w5.heap.size w5 w5.drew from below_drew1 (Below.refl _ _))
 have qp : 0 < l1.length := by omega
 have qi : IntKind.i64.wrap ((l1.length : Int) - 1) = (l1.length : Int) - 1 := IntWalk.i64_in _ (by omega)
 have q2 : 0 ≤ (l1.length : Int) - 1 := by omega
 have q3 : (l1.length : Int) - 1 < l1.length := by omega
 have q5 : 1 ≤ (l1.length : Int) := by omega
 have q4 : ((l1.length : Int) - 1).toNat = l1.length - 1 := by omega
 have hx0b : 0 ≤ X0 ∧ X0 ≤ 16777216 := by rw [← hX0]; exact HG1.out.bx 0 (by omega)
 have hxeb : 0 ≤ XE ∧ XE ≤ 16777216 := by
  rw [← hXE]; have h := HG1.out.bx (l1.length - 1) (by omega); unfold px at h; unfold rd_T57; rw [show ((l1.length : Int) - 1).toNat = l1.length - 1 by omega]; exact h
 obtain ⟨V1, hV1⟩ : ∃ v, cmpI N D X0 1 = v := ⟨_, rfl⟩
 obtain ⟨V2, hV2⟩ : ∃ v, cmpI N D XE 1 = v := ⟨_, rfl⟩
 have HC1 := Aside0.mk (cmp_frac hN0 hN1 hD0 (by omega) hx0b.1 (by omega) (by omega) (by omega) hV1)
 have HC2 := Aside0.mk (cmp_frac hN0 hN1 hD0 (by omega) hxeb.1 (by omega) (by omega) (by omega) hV2)
 have g1 : V1 < 0 := by rw [← hV1]; exact cmpI_neg (by rw [← hX0]; have := HCN.out; omega)
 clear hV1 hV2 hX0 hXE hx0b hxeb
 refine wp_region_IN (n := 6) (I := fun W => Below w5.heap.size w5 W) (by kernel_rfl) ?_
 change AnyI _ _ _ _ _ _ _ _ _ _ (World.drew _)
 refine AnyI.take (i := 0) (v := ?_) rfl rfl (by kernel_rfl) (by kernel_rfl) (by kernel_rfl) (fun _ _ _ h => h) ⟨Or.inl ⟨by rfl, ?_⟩, fun _ => rfl⟩ HI ?_
 rotate_left
 ·
  intro wI hI; obtain ⟨c0, c1, c2, c3⟩ := HF.out _ hI; go_simp; try with_reducible rfl
 go_simp
 refine AnyI.take (i := 1) (v := ?_) rfl rfl (by kernel_rfl) (by kernel_rfl) (by kernel_rfl) (fun _ _ _ h => h) ⟨Or.inl ⟨by rfl, ?_⟩, fun _ => rfl⟩ HI ?_
 rotate_left
 ·
  intro wI hI; obtain ⟨c0, c1, c2, c3⟩ := HF.out _ hI; go_simp; try with_reducible rfl
 go_simp
 refine AnyI.take (i := 2) (v := ?_) rfl rfl (by kernel_rfl) (by kernel_rfl) (by kernel_rfl) (fun _ _ _ h => h) ⟨Or.inl ⟨by rfl, ?_⟩, fun _ => rfl⟩ HI ?_
 rotate_left
 ·
  intro wI hI; obtain ⟨c0, c1, c2, c3⟩ := HF.out _ hI; go_simp; try with_reducible rfl
 go_simp
 refine AnyI.take (i := 3) (v := ?_) rfl rfl (by kernel_rfl) (by kernel_rfl) (by kernel_rfl) (fun _ _ _ h => h) ⟨Or.inl ⟨by rfl, ?_⟩, fun _ => rfl⟩ HI ?_
 rotate_left
 ·
  intro wI hI; obtain ⟨c0, c1, c2, c3⟩ := HF.out _ hI; go_simp; try with_reducible rfl
 go_simp
 refine AnyI.take (i := 4) (v := ?_) rfl rfl (by kernel_rfl) (by kernel_rfl) (by kernel_rfl) (fun _ _ _ h => h) ⟨Or.inl ⟨by rfl, ?_⟩, fun _ => rfl⟩ HI ?_
 rotate_left
 ·
  intro wI hI; obtain ⟨c0, c1, c2, c3⟩ := HF.out _ hI; go_simp; try with_reducible rfl
 go_simp
 refine AnyI.take (i := 5) (v := ?_) rfl rfl (by kernel_rfl) (by kernel_rfl) (by kernel_rfl) (fun _ _ _ h => h) ⟨Or.inl ⟨by rfl, ?_⟩, fun _ => rfl⟩ HI ?_
 rotate_left
 ·
  intro wI hI; obtain ⟨c0, c1, c2, c3⟩ := HF.out _ hI; go_simp; try with_reducible rfl
 go_simp
 refine AnyI.one (i := 6) (by kernel_rfl) rfl (fun K hK => ?_)
 go_simp
 refine ⟨trivial, ?_⟩
 gi_at_call 64
 refine (callsIn_wide.2 (curve_compare.calls N D X0 1 V1 _ HC1.out)).mono ?_
 rintro e w6 ⟨rfl, hb6⟩
 have HI := HI.trans (hb6.mono HI.size)
 clear hb6
 refine hK _ _ HI ?_
 clear hK K
 refine AnyI.take (i := 7) (v := .bool true) rfl rfl (by kernel_rfl) (by kernel_rfl) (by kernel_rfl) (fun _ _ _ h => h) ⟨Or.inl ⟨by rfl, ?_⟩, fun _ => rfl⟩ HI ?_
 ·
  intro wI hI; obtain ⟨c0, c1, c2, c3⟩ := HF.out _ hI; go_simp; try with_reducible rfl
 go_simp
 refine AnyI.take (i := 8) (v := .bool true) rfl rfl (by kernel_rfl) (by kernel_rfl) (by kernel_rfl) (fun _ _ _ h => h) ⟨Or.inl ⟨by rfl, ?_⟩, fun _ => rfl⟩ HI ?_
 ·
  intro wI hI; obtain ⟨c0, c1, c2, c3⟩ := HF.out _ hI; go_simp; try with_reducible rfl
 go_simp
 refine AnyI.take (i := 9) (v := undef) rfl rfl (by kernel_rfl) (by kernel_rfl) (by kernel_rfl) (fun _ _ _ h => h) ⟨Or.inr ⟨by rfl, rfl⟩, fun _ => rfl⟩ HI ?_
 go_simp
 refine AnyI.take (i := 10) (v := undef) rfl rfl (by kernel_rfl) (by kernel_rfl) (by kernel_rfl) (fun _ _ _ h => h) ⟨Or.inr ⟨by rfl, rfl⟩, fun _ => rfl⟩ HI ?_
 go_simp
 refine AnyI.take (i := 11) (v := undef) rfl rfl (by kernel_rfl) (by kernel_rfl) (by kernel_rfl) (fun _ _ _ h => h) ⟨Or.inr ⟨by rfl, rfl⟩, fun _ => rfl⟩ HI ?_
 go_simp
 refine AnyI.take (i := 12) (v := undef) rfl rfl (by kernel_rfl) (by kernel_rfl) (by kernel_rfl) (fun _ _ _ h => h) ⟨Or.inr ⟨by rfl, rfl⟩, fun _ => rfl⟩ HI ?_
 go_simp
 refine AnyI.take (i := 13) (v := undef) rfl rfl (by kernel_rfl) (by kernel_rfl) (by kernel_rfl) (fun _ _ _ h => h) ⟨Or.inr ⟨by rfl, rfl⟩, fun _ => rfl⟩ HI ?_
 go_simp
 refine AnyI.take (i := 14) (v := undef) rfl rfl (by kernel_rfl) (by kernel_rfl) (by kernel_rfl) (fun _ _ _ h => h) ⟨Or.inr ⟨by rfl, rfl⟩, fun _ => rfl⟩ HI ?_
 go_simp
 refine AnyI.take (i := 15) (v := undef) rfl rfl (by kernel_rfl) (by kernel_rfl) (by kernel_rfl) (fun _ _ _ h => h) ⟨Or.inr ⟨by rfl, rfl⟩, fun _ => rfl⟩ HI ?_
 go_simp
 refine AnyI.take (i := 16) (v := undef) rfl rfl (by kernel_rfl) (by kernel_rfl) (by kernel_rfl) (fun _ _ _ h => h) ⟨Or.inr ⟨by rfl, rfl⟩, fun _ => rfl⟩ HI ?_
 go_simp
 refine AnyI.take (i := 17) (v := undef) rfl rfl (by kernel_rfl) (by kernel_rfl) (by kernel_rfl) (fun _ _ _ h => h) ⟨Or.inr ⟨by rfl, rfl⟩, fun _ => rfl⟩ HI ?_
 go_simp
 refine AnyI.one (i := 18) (by kernel_rfl) rfl (fun K hK => ?_)
 go_simp
 refine ⟨trivial, ?_⟩
 refine hK _ _ HI ?_
 clear hK K
 go_simp
 refine AnyI.take (i := 19) (v := undef) rfl rfl (by kernel_rfl) (by kernel_rfl) (by kernel_rfl) (fun _ _ _ h => h) ⟨Or.inr ⟨by rfl, rfl⟩, fun _ => rfl⟩ HI ?_
 go_simp
 refine AnyI.take (i := 20) (v := .bool true) rfl rfl (by kernel_rfl) (by kernel_rfl) (by kernel_rfl) (fun _ _ _ h => h) ⟨Or.inl ⟨by rfl, ?_⟩, fun _ => rfl⟩ HI ?_
 ·
  intro wI hI; obtain ⟨c0, c1, c2, c3⟩ := HF.out _ hI; go_simp; try with_reducible rfl
 go_simp
 refine AnyI.done (by kernel_rfl) ?_ _
 simp only [OnlyN, Exit.then]
 have HBX6 := Aside0.mk (HBX5.out.below HI HBX5.out.lt)
 have HBZ6 := Aside0.mk (HBZ5.out.below HI HBZ5.out.lt)
 have HB6 := Aside0.mk (HB5.out.trans (HI.mono HB5.out.size))
 have x0 : w6.cell? ⟨w.heap.size, 0, none⟩ = some (.int .i64 0) := HBX6.out.cell 0
 have x1 : w6.cell? ⟨w.heap.size, 1, none⟩ = some (.int .i64 0) := HBX6.out.cell 1
 have z0 : w6.cell? ⟨w.heap.size + 1, 0, none⟩ = some (.int .i64 0) := HBZ6.out.cell 0
 have fx0 := HBX6.out.frozen 0
 have fx1 := HBX6.out.frozen 1
 have fz0 := HBZ6.out.frozen 0
 clear HF hD0 hD1 hN0 hN1
 have r1 : Blk (((w6.setCell ⟨w.heap.size, 0, none⟩ (.int .i64 (0))).setCell ⟨w.heap.size, 1, none⟩ (.int .i64 (0))).setCell ⟨w.heap.size + 1, 0, none⟩ (.int .i64 (1))) w.heap.size 43 #[.int .i64 (0), .int .i64 (0)] := by
  have h := ((HBX6.out.set_ 0 (.int .i64 (0))).set_ 1 (.int .i64 (0))).far (p := ⟨w.heap.size + 1, 0, none⟩) (by simp) (.int .i64 (1)); simpa using h
 have r2 : Blk (((w6.setCell ⟨w.heap.size, 0, none⟩ (.int .i64 (0))).setCell ⟨w.heap.size, 1, none⟩ (.int .i64 (0))).setCell ⟨w.heap.size + 1, 0, none⟩ (.int .i64 (1))) (w.heap.size + 1) 28 #[.int .i64 (1)] := by
  have h := ((HBZ6.out.far (p := ⟨w.heap.size, 0, none⟩) (by simp) (.int .i64 (0))).far (p := ⟨w.heap.size, 1, none⟩) (by simp) (.int .i64 (0))).set_ 0 (.int .i64 (1)); simpa using h
 have G1 := Aside0.mk r1
 have G2 := Aside0.mk r2
 have HB9 := Aside0.mk (((HB6.out.setCell (p := ⟨w.heap.size, 0, none⟩) (by simp) (.int .i64 (0))).setCell (p := ⟨w.heap.size, 1, none⟩) (by simp) (.int .i64 (0))).setCell (p := ⟨w.heap.size + 1, 0, none⟩) (by simp) (.int .i64 (1)))
 clear r1 r2
 go_wp2_with fail
 have g0 := G1.out.cell 0
 have g1 := G1.out.cell 1
 have g2 := G2.out.cell 0
 exact bodyPost_ret (v := .tuple #[.agg #[.int .i64 (0), .int .i64 (0)], .int .i64 (1)]) (by simp [results, Tryd.f40, go_sem, g0, g1, g2]) rfl ⟨rfl, HB9.out⟩
set_option maxRecDepth 100000 in
set_option maxHeartbeats 4000000 in
theorem through_edgeB (A0 : Option Addr) (c0 : Nat) (l0 : List S57) (A1 : Option Addr) (c1 : Nat) (l1 : List S57) (x : Int) (w : World) (hr0 : Kd.C k57 w A0 l0.length l0) (hc0 : l0.length ≤ c0) (hr1 : Kd.C k57 w A1 l1.length l1) (hc1 : l1.length ≤ c1) (hg : goodB l0 = true) (hg1 : goodB l1 = true) (hx : inB l0 x = true) (l : S57 × S57) (hl : lineAt l0 x = some l) (N D : Int) (hND : exactI l x = (N, D)) (hc : (rd_T57 l1 0).f0 * D ≤ N ∧ (rd_T57 l1 ((l1.length : Int) - 1)).f0 * D < N) :
  Calls Tryd.prog 40 #[.slice A0 l0.length c0, .slice A1 l1.length c1, .int .i64 x] w fun e w' => e = .returned (.tuple #[.agg #[.int .i64 0, .int .i64 0], .int .i64 1]) ∧ Below w.heap.size w w' := by
 have hu43 := Tryd.underlying43
 have HR0 := Aside0.mk hr0
 have HR1 := Aside0.mk hr1
 have HX := Aside0.mk (show Blk ((w.alloc (.cells #[.int .i64 0, .int .i64 0] 43)).alloc (.cells #[.int .i64 0] 28)) w.heap.size 43 #[.int .i64 0, .int .i64 0] from (Blk.new w 43 _).alloc _)
 have HZ := Aside0.mk (show Blk ((w.alloc (.cells #[.int .i64 0, .int .i64 0] 43)).alloc (.cells #[.int .i64 0] 28)) (w.heap.size + 1) 28 #[.int .i64 0] by
   have h := Blk.new (w.alloc (.cells #[.int .i64 0, .int .i64 0] 43)) 28 #[.int .i64 0]; rwa [World.size_alloc] at h)
 have HB := Aside0.mk (show Below w.heap.size w ((w.alloc (.cells #[.int .i64 0, .int .i64 0] 43)).alloc (.cells #[.int .i64 0] 28)) from ((Below.refl _ w).alloc (Nat.le_refl _) _).alloc (by simp) _)
 clear hr0 hr1
 obtain ⟨k, hk⟩ := checked_eq l0 l1
 rw [if_pos ⟨hg, hg1⟩] at hk
 have HK := Aside0.mk hk
 have HG := Aside0.mk (good_of hg)
 have HG1 := Aside0.mk (good_of hg1)
 have HW := Aside0.mk (show curve_within.f l0 x = some true by rw [within_eq HG.out, hx])
 obtain ⟨⟨⟨p0, p1⟩, ⟨p2, p3⟩⟩, hl', hml, hx0, hx1⟩ := lineAt_of HG.out ((inB_iff HG.out).1 hx).1 ((inB_iff HG.out).1 hx).2
 obtain rfl : ((⟨p0, p1⟩, ⟨p2, p3⟩) : S57 × S57) = l := Option.some.inj (hl'.symm.trans hl)
 have hok := good_line HG.out hml
 have HAT := Aside0.mk (show curve_at.f l0 x = some (p0, p1, p2, p3) by unfold curve_at.f; rw [hl])
 obtain ⟨ke, hke⟩ := (exact_ev hok hx0 hx1).one
 rw [hND] at hke
 have HE := Aside0.mk hke
 have HCN := Aside0.mk hc
 clear hc
 obtain ⟨hN0, hN1, hD0, hD1⟩ := exactI_bounds hok hx0 hx1 hND
 clear hg hg1 hk hx hl hl' hml hx0 hx1 hok hke hND
 go_enter Tryd.func40, Tryd.ntmps40
 go_wp2_with fail
 refine (curve_checked.calls k A0 c0 l0 A1 c1 l1 0 _ (Kd.C_below HR0.out HB.out) hc0 (Kd.C_below HR1.out HB.out) hc1 HK.out).mono ?_
 rintro e w1 ⟨rfl, hb⟩
 have bX := HX.out.below hb (by simp; omega)
 have bZ := HZ.out.below hb (by simp)
 have HBX := Aside0.mk bX
 have HBZ := Aside0.mk bZ
 have HB1 := Aside0.mk (HB.out.trans (hb.mono HB.out.size))
 have x0 : w1.cell? ⟨w.heap.size, 0, none⟩ = some (.int .i64 0) := bX.cell 0
 have x1 : w1.cell? ⟨w.heap.size, 1, none⟩ = some (.int .i64 0) := bX.cell 1
 have z0 : w1.cell? ⟨w.heap.size + 1, 0, none⟩ = some (.int .i64 0) := bZ.cell 0
 have fx0 := bX.frozen 0
 have fx1 := bX.frozen 1
 have fz0 := bZ.frozen 0
 clear hb bX bZ
 go_wp2_with fail
 refine (curve_within.calls A0 c0 l0 x true _ (Kd.C_below HR0.out HB1.out) hc0 HW.out).mono ?_
 rintro e w2 ⟨rfl, ⟨n0, rfl⟩⟩
 go_wp2_with fail
 refine (curve_at.calls A0 c0 l0 x p0 p1 p2 p3 _ (Kd.C_below HR0.out (pw_below_drewN HB1.out n0)) hc0 HAT.out).mono ?_
 rintro e w3 ⟨rfl, hb3⟩
 have HB3 := Aside0.mk ((pw_below_drewN HB1.out n0).trans (hb3.mono HB1.out.size))
 have HBX3 := Aside0.mk ((HBX.out.drewN n0).below hb3 HBX.out.lt)
 have HBZ3 := Aside0.mk ((HBZ.out.drewN n0).below hb3 HBZ.out.lt)
 clear hb3
 go_wp2_with fail
 refine (curve_line_exact.calls ke p0 p1 p2 p3 x N D _ HE.out).mono ?_
 rintro e w4 ⟨rfl, hb4⟩
 have HB4 := Aside0.mk (HB3.out.trans (hb4.mono HB3.out.size))
 have HBX4 := Aside0.mk (HBX3.out.below hb4 HBX3.out.lt)
 have HBZ4 := Aside0.mk (HBZ3.out.below hb4 HBZ3.out.lt)
 clear hb4 x0 x1 z0 fx0 fx1 fz0
 go_wp2_with fail
 obtain ⟨w5, hw5⟩ : ∃ w5, w4.alloc (.cells #[.int .i64 N, .int .i64 D] 25) = w5 := ⟨_, rfl⟩
 have bP : Blk w5 w4.heap.size 25 #[.int .i64 N, .int .i64 D] := by rw [← hw5]; exact Blk.new w4 25 _
 have HP := Aside0.mk bP
 have HBX5 := Aside0.mk (show Blk w5 w.heap.size 43 #[.int .i64 0, .int .i64 0] by rw [← hw5]; exact HBX4.out.alloc _)
 have HBZ5 := Aside0.mk (show Blk w5 (w.heap.size + 1) 28 #[.int .i64 0] by rw [← hw5]; exact HBZ4.out.alloc _)
 have HB5 := Aside0.mk (show Below w.heap.size w w5 by rw [← hw5]; exact HB4.out.alloc HB4.out.size _)
 rw [hw5]
 clear bP hw5
 have hl2 := HG1.out.len2
 have hl64 := HG1.out.len64
 obtain ⟨ad, e258, b0, _⟩ := at_T57 HR1.out 0 (by omega) (by omega)
 cases e258
 obtain ⟨ad', e258, b1, _⟩ := at_T57 HR1.out ((l1.length : Int) - 1) (by omega) (by omega)
 cases e258
 rw [show ad.add (Int.toNat 0 * 2) = ad by simp [Addr.add]] at b0
 rw [show ((l1.length : Int) - 1).toNat = l1.length - 1 by omega] at b1
 have HQ0 := Aside0.mk ((HB5.out.cell (World.block_lt_of_cell? w _ b0)).trans b0)
 have HQ1 := Aside0.mk ((HB5.out.cell (World.block_lt_of_cell? w _ b1)).trans b1)
 clear b0 b1
 obtain ⟨X0, hX0⟩ : ∃ X0, (rd_T57 l1 0).f0 = X0 := ⟨_, rfl⟩
 obtain ⟨XE, hXE⟩ : ∃ XE, (rd_T57 l1 ((l1.length : Int) - 1)).f0 = XE := ⟨_, rfl⟩
 rw [hX0] at HQ0
 rw [hXE] at HQ1
 have FACTS : ∀ W : World, Below w5.heap.size w5 W → W.cell? ⟨w4.heap.size, 0, none⟩ = some (.int .i64 N) ∧ W.cell? ⟨w4.heap.size, 1, none⟩ = some (.int .i64 D) ∧ W.cell? ad = some (.int .i64 X0) ∧ W.cell? (ad.add ((l1.length - 1) * 2)) = some (.int .i64 XE) := fun W h =>
  ⟨(HP.out.below h HP.out.lt).cell 0, (HP.out.below h HP.out.lt).cell 1, (h.cell (World.block_lt_of_cell? w5 _ HQ0.out)).trans HQ0.out, (h.cell (World.block_lt_of_cell? w5 _ HQ1.out)).trans HQ1.out⟩
 have HF := Aside0.mk FACTS
 clear FACTS
 have HI := (show Below w5.heap.size w5 w5.drew from below_drew1 (Below.refl _ _))
 have qp : 0 < l1.length := by omega
 have qi : IntKind.i64.wrap ((l1.length : Int) - 1) = (l1.length : Int) - 1 := IntWalk.i64_in _ (by omega)
 have q2 : 0 ≤ (l1.length : Int) - 1 := by omega
 have q3 : (l1.length : Int) - 1 < l1.length := by omega
 have q5 : 1 ≤ (l1.length : Int) := by omega
 have q4 : ((l1.length : Int) - 1).toNat = l1.length - 1 := by omega
 have hx0b : 0 ≤ X0 ∧ X0 ≤ 16777216 := by rw [← hX0]; exact HG1.out.bx 0 (by omega)
 have hxeb : 0 ≤ XE ∧ XE ≤ 16777216 := by
  rw [← hXE]; have h := HG1.out.bx (l1.length - 1) (by omega); unfold px at h; unfold rd_T57; rw [show ((l1.length : Int) - 1).toNat = l1.length - 1 by omega]; exact h
 obtain ⟨V1, hV1⟩ : ∃ v, cmpI N D X0 1 = v := ⟨_, rfl⟩
 obtain ⟨V2, hV2⟩ : ∃ v, cmpI N D XE 1 = v := ⟨_, rfl⟩
 have HC1 := Aside0.mk (cmp_frac hN0 hN1 hD0 (by omega) hx0b.1 (by omega) (by omega) (by omega) hV1)
 have HC2 := Aside0.mk (cmp_frac hN0 hN1 hD0 (by omega) hxeb.1 (by omega) (by omega) (by omega) hV2)
 have g1 : 0 ≤ V1 := by rw [← hV1]; exact cmpI_nonneg (by rw [← hX0]; have := HCN.out; omega)
 have g2 : 0 < V2 := by rw [← hV2]; exact cmpI_pos (by rw [← hXE]; have := HCN.out; omega)
 clear hV1 hV2 hX0 hXE hx0b hxeb
 refine wp_region_IN (n := 6) (I := fun W => Below w5.heap.size w5 W) (by kernel_rfl) ?_
 change AnyI _ _ _ _ _ _ _ _ _ _ (World.drew _)
 refine AnyI.take (i := 0) (v := ?_) rfl rfl (by kernel_rfl) (by kernel_rfl) (by kernel_rfl) (fun _ _ _ h => h) ⟨Or.inl ⟨by rfl, ?_⟩, fun _ => rfl⟩ HI ?_
 rotate_left
 ·
  intro wI hI; obtain ⟨c0, c1, c2, c3⟩ := HF.out _ hI; go_simp; try with_reducible rfl
 go_simp
 refine AnyI.take (i := 1) (v := ?_) rfl rfl (by kernel_rfl) (by kernel_rfl) (by kernel_rfl) (fun _ _ _ h => h) ⟨Or.inl ⟨by rfl, ?_⟩, fun _ => rfl⟩ HI ?_
 rotate_left
 ·
  intro wI hI; obtain ⟨c0, c1, c2, c3⟩ := HF.out _ hI; go_simp; try with_reducible rfl
 go_simp
 refine AnyI.take (i := 2) (v := ?_) rfl rfl (by kernel_rfl) (by kernel_rfl) (by kernel_rfl) (fun _ _ _ h => h) ⟨Or.inl ⟨by rfl, ?_⟩, fun _ => rfl⟩ HI ?_
 rotate_left
 ·
  intro wI hI; obtain ⟨c0, c1, c2, c3⟩ := HF.out _ hI; go_simp; try with_reducible rfl
 go_simp
 refine AnyI.take (i := 3) (v := ?_) rfl rfl (by kernel_rfl) (by kernel_rfl) (by kernel_rfl) (fun _ _ _ h => h) ⟨Or.inl ⟨by rfl, ?_⟩, fun _ => rfl⟩ HI ?_
 rotate_left
 ·
  intro wI hI; obtain ⟨c0, c1, c2, c3⟩ := HF.out _ hI; go_simp; try with_reducible rfl
 go_simp
 refine AnyI.take (i := 4) (v := ?_) rfl rfl (by kernel_rfl) (by kernel_rfl) (by kernel_rfl) (fun _ _ _ h => h) ⟨Or.inl ⟨by rfl, ?_⟩, fun _ => rfl⟩ HI ?_
 rotate_left
 ·
  intro wI hI; obtain ⟨c0, c1, c2, c3⟩ := HF.out _ hI; go_simp; try with_reducible rfl
 go_simp
 refine AnyI.take (i := 5) (v := ?_) rfl rfl (by kernel_rfl) (by kernel_rfl) (by kernel_rfl) (fun _ _ _ h => h) ⟨Or.inl ⟨by rfl, ?_⟩, fun _ => rfl⟩ HI ?_
 rotate_left
 ·
  intro wI hI; obtain ⟨c0, c1, c2, c3⟩ := HF.out _ hI; go_simp; try with_reducible rfl
 go_simp
 refine AnyI.one (i := 6) (by kernel_rfl) rfl (fun K hK => ?_)
 go_simp
 refine ⟨trivial, ?_⟩
 gi_at_call 64
 refine (callsIn_wide.2 (curve_compare.calls N D X0 1 V1 _ HC1.out)).mono ?_
 rintro e w6 ⟨rfl, hb6⟩
 have HI := HI.trans (hb6.mono HI.size)
 clear hb6
 refine hK _ _ HI ?_
 clear hK K
 refine AnyI.take (i := 7) (v := .bool false) rfl rfl (by kernel_rfl) (by kernel_rfl) (by kernel_rfl) (fun _ _ _ h => h) ⟨Or.inl ⟨by rfl, ?_⟩, fun _ => rfl⟩ HI ?_
 ·
  intro wI hI; obtain ⟨c0, c1, c2, c3⟩ := HF.out _ hI; go_simp; try with_reducible rfl
 go_simp
 refine AnyI.take (i := 8) (v := .bool false) rfl rfl (by kernel_rfl) (by kernel_rfl) (by kernel_rfl) (fun _ _ _ h => h) ⟨Or.inl ⟨by rfl, ?_⟩, fun _ => rfl⟩ HI ?_
 ·
  intro wI hI; obtain ⟨c0, c1, c2, c3⟩ := HF.out _ hI; go_simp; try with_reducible rfl
 go_simp
 refine AnyI.take (i := 9) (v := ?_) rfl rfl (by kernel_rfl) (by kernel_rfl) (by kernel_rfl) (fun _ _ _ h => h) ⟨Or.inl ⟨by rfl, ?_⟩, fun _ => rfl⟩ HI ?_
 rotate_left
 ·
  intro wI hI; obtain ⟨c0, c1, c2, c3⟩ := HF.out _ hI; go_simp; try with_reducible rfl
 go_simp
 refine AnyI.take (i := 10) (v := ?_) rfl rfl (by kernel_rfl) (by kernel_rfl) (by kernel_rfl) (fun _ _ _ h => h) ⟨Or.inl ⟨by rfl, ?_⟩, fun _ => rfl⟩ HI ?_
 rotate_left
 ·
  intro wI hI; obtain ⟨c0, c1, c2, c3⟩ := HF.out _ hI; go_simp; try with_reducible rfl
 go_simp
 refine AnyI.take (i := 11) (v := ?_) rfl rfl (by kernel_rfl) (by kernel_rfl) (by kernel_rfl) (fun _ _ _ h => h) ⟨Or.inl ⟨by rfl, ?_⟩, fun _ => rfl⟩ HI ?_
 rotate_left
 ·
  intro wI hI; obtain ⟨c0, c1, c2, c3⟩ := HF.out _ hI; go_simp; try with_reducible rfl
 go_simp
 refine AnyI.take (i := 12) (v := ?_) rfl rfl (by kernel_rfl) (by kernel_rfl) (by kernel_rfl) (fun _ _ _ h => h) ⟨Or.inl ⟨by rfl, ?_⟩, fun _ => rfl⟩ HI ?_
 rotate_left
 ·
  intro wI hI; obtain ⟨c0, c1, c2, c3⟩ := HF.out _ hI; go_simp; try with_reducible rfl
 go_simp
 refine AnyI.take (i := 13) (v := ?_) rfl rfl (by kernel_rfl) (by kernel_rfl) (by kernel_rfl) (fun _ _ _ h => h) ⟨Or.inl ⟨by rfl, ?_⟩, fun _ => rfl⟩ HI ?_
 rotate_left
 ·
  intro wI hI; obtain ⟨c0, c1, c2, c3⟩ := HF.out _ hI; go_simp; try with_reducible rfl
 go_simp
 refine AnyI.take (i := 14) (v := ?_) rfl rfl (by kernel_rfl) (by kernel_rfl) (by kernel_rfl) (fun _ _ _ h => h) ⟨Or.inl ⟨by rfl, ?_⟩, fun _ => rfl⟩ HI ?_
 rotate_left
 ·
  intro wI hI; obtain ⟨c0, c1, c2, c3⟩ := HF.out _ hI; go_simp; try with_reducible rfl
 go_simp
 refine AnyI.take (i := 15) (v := ?_) rfl rfl (by kernel_rfl) (by kernel_rfl) (by kernel_rfl) (fun _ _ _ h => h) ⟨Or.inl ⟨by rfl, ?_⟩, fun _ => rfl⟩ HI ?_
 rotate_left
 ·
  intro wI hI; obtain ⟨c0, c1, c2, c3⟩ := HF.out _ hI; go_simp; try with_reducible rfl
 go_simp
 refine AnyI.take (i := 16) (v := ?_) rfl rfl (by kernel_rfl) (by kernel_rfl) (by kernel_rfl) (fun _ _ _ h => h) ⟨Or.inl ⟨by rfl, ?_⟩, fun _ => rfl⟩ HI ?_
 rotate_left
 ·
  intro wI hI; obtain ⟨c0, c1, c2, c3⟩ := HF.out _ hI; go_simp; try with_reducible rfl
 go_simp
 refine AnyI.take (i := 17) (v := ?_) rfl rfl (by kernel_rfl) (by kernel_rfl) (by kernel_rfl) (fun _ _ _ h => h) ⟨Or.inl ⟨by rfl, ?_⟩, fun _ => rfl⟩ HI ?_
 rotate_left
 ·
  intro wI hI; obtain ⟨c0, c1, c2, c3⟩ := HF.out _ hI; go_simp; try with_reducible rfl
 go_simp
 refine AnyI.one (i := 18) (by kernel_rfl) rfl (fun K hK => ?_)
 go_simp
 refine ⟨trivial, ?_⟩
 gi_at_call 64
 refine (callsIn_wide.2 (curve_compare.calls N D XE 1 V2 _ HC2.out)).mono ?_
 rintro e w7 ⟨rfl, hb7⟩
 have HI := HI.trans (hb7.mono HI.size)
 clear hb7
 refine hK _ _ HI ?_
 clear hK K
 refine AnyI.take (i := 19) (v := .bool true) rfl rfl (by kernel_rfl) (by kernel_rfl) (by kernel_rfl) (fun _ _ _ h => h) ⟨Or.inl ⟨by rfl, ?_⟩, fun _ => rfl⟩ HI ?_
 ·
  intro wI hI; obtain ⟨c0, c1, c2, c3⟩ := HF.out _ hI; go_simp; try with_reducible rfl
 go_simp
 refine AnyI.take (i := 20) (v := .bool true) rfl rfl (by kernel_rfl) (by kernel_rfl) (by kernel_rfl) (fun _ _ _ h => h) ⟨Or.inl ⟨by rfl, ?_⟩, fun _ => rfl⟩ HI ?_
 ·
  intro wI hI; obtain ⟨c0, c1, c2, c3⟩ := HF.out _ hI; go_simp; try with_reducible rfl
 go_simp
 refine AnyI.done (by kernel_rfl) ?_ _
 simp only [OnlyN, Exit.then]
 have HBX7 := Aside0.mk (HBX5.out.below HI HBX5.out.lt)
 have HBZ7 := Aside0.mk (HBZ5.out.below HI HBZ5.out.lt)
 have HB7 := Aside0.mk (HB5.out.trans (HI.mono HB5.out.size))
 have x0 : w7.cell? ⟨w.heap.size, 0, none⟩ = some (.int .i64 0) := HBX7.out.cell 0
 have x1 : w7.cell? ⟨w.heap.size, 1, none⟩ = some (.int .i64 0) := HBX7.out.cell 1
 have z0 : w7.cell? ⟨w.heap.size + 1, 0, none⟩ = some (.int .i64 0) := HBZ7.out.cell 0
 have fx0 := HBX7.out.frozen 0
 have fx1 := HBX7.out.frozen 1
 have fz0 := HBZ7.out.frozen 0
 clear HF hD0 hD1 hN0 hN1
 have r1 : Blk (((w7.setCell ⟨w.heap.size, 0, none⟩ (.int .i64 (0))).setCell ⟨w.heap.size, 1, none⟩ (.int .i64 (0))).setCell ⟨w.heap.size + 1, 0, none⟩ (.int .i64 (1))) w.heap.size 43 #[.int .i64 (0), .int .i64 (0)] := by
  have h := ((HBX7.out.set_ 0 (.int .i64 (0))).set_ 1 (.int .i64 (0))).far (p := ⟨w.heap.size + 1, 0, none⟩) (by simp) (.int .i64 (1)); simpa using h
 have r2 : Blk (((w7.setCell ⟨w.heap.size, 0, none⟩ (.int .i64 (0))).setCell ⟨w.heap.size, 1, none⟩ (.int .i64 (0))).setCell ⟨w.heap.size + 1, 0, none⟩ (.int .i64 (1))) (w.heap.size + 1) 28 #[.int .i64 (1)] := by
  have h := ((HBZ7.out.far (p := ⟨w.heap.size, 0, none⟩) (by simp) (.int .i64 (0))).far (p := ⟨w.heap.size, 1, none⟩) (by simp) (.int .i64 (0))).set_ 0 (.int .i64 (1)); simpa using h
 have G1 := Aside0.mk r1
 have G2 := Aside0.mk r2
 have HB9 := Aside0.mk (((HB7.out.setCell (p := ⟨w.heap.size, 0, none⟩) (by simp) (.int .i64 (0))).setCell (p := ⟨w.heap.size, 1, none⟩) (by simp) (.int .i64 (0))).setCell (p := ⟨w.heap.size + 1, 0, none⟩) (by simp) (.int .i64 (1)))
 clear r1 r2
 go_wp2_with fail
 have g0 := G1.out.cell 0
 have g1 := G1.out.cell 1
 have g2 := G2.out.cell 0
 exact bodyPost_ret (v := .tuple #[.agg #[.int .i64 (0), .int .i64 (0)], .int .i64 (1)]) (by simp [results, Tryd.f40, go_sem, g0, g1, g2]) rfl ⟨rfl, HB9.out⟩
def hiI (wh : Bool) (a : Int) : Int := if wh = true then a else wrap64 (a + 1)
def endB (N D : Int) (l : S57 × S57) : Bool := decide (N ≤ l.2.f0 * D)
def ThruOut (w : World) (N D : Int) {c : List S57} (pre : List (LineIn c)) (W : World) : Prop :=
 ∃ (ini : List (LineIn c)) (last : LineIn c) (q : Int) (wh : Bool), (pre = ini ++ [last] ∧ (∀ l ∈ ini, endB N D l.1 = false) ∧ endB N D last.1 = true ∧ curve_product.f (N - last.1.1.f0 * D) (highI last.1) (D * wideI last.1) = some (q, wh)) ∧
  Blk W w.heap.size 43 #[.int .i64 (wrap64 (last.1.1.f1 + q)), .int .i64 (hiI wh (wrap64 (last.1.1.f1 + q)))] ∧ Blk W (w.heap.size + 1) 28 #[.int .i64 0]
theorem product_some (t n d : Int) (hd : d ≠ 0) : ∃ q wh, curve_product.f t n d = some (q, wh) := by
 unfold curve_product.f
 rw [if_neg hd]
 exact ⟨_, _, rfl⟩
set_option maxRecDepth 100000 in
set_option maxHeartbeats 4000000 in
theorem through_in (A0 : Option Addr) (c0 : Nat) (l0 : List S57) (A1 : Option Addr) (c1 : Nat) (l1 : List S57) (x : Int) (w : World) (hr0 : Kd.C k57 w A0 l0.length l0) (hc0 : l0.length ≤ c0) (hr1 : Kd.C k57 w A1 l1.length l1) (hc1 : l1.length ≤ c1) (hg : goodB l0 = true) (hg1 : goodB l1 = true) (hx : inB l0 x = true) (l : S57 × S57) (hl : lineAt l0 x = some l) (N D : Int) (hND : exactI l x = (N, D)) (hc : (rd_T57 l1 0).f0 * D ≤ N ∧ N ≤ (rd_T57 l1 ((l1.length : Int) - 1)).f0 * D) (m : S57 × S57) (hm : (linesOf l1).find? (endB N D) = some m) (q : Int) (wh : Bool) (hq : curve_product.f (N - m.1.f0 * D) (highI m) (D * wideI m) = some (q, wh)) :
  Calls Tryd.prog 40 #[.slice A0 l0.length c0, .slice A1 l1.length c1, .int .i64 x] w fun e w' => e = .returned (.tuple #[.agg #[.int .i64 (wrap64 (m.1.f1 + q)), .int .i64 (hiI wh (wrap64 (m.1.f1 + q)))], .int .i64 0]) ∧ Below w.heap.size w w' := by
 have hu43 := Tryd.underlying43
 have HR0 := Aside0.mk hr0
 have HR1 := Aside0.mk hr1
 have HX := Aside0.mk (show Blk ((w.alloc (.cells #[.int .i64 0, .int .i64 0] 43)).alloc (.cells #[.int .i64 0] 28)) w.heap.size 43 #[.int .i64 0, .int .i64 0] from (Blk.new w 43 _).alloc _)
 have HZ := Aside0.mk (show Blk ((w.alloc (.cells #[.int .i64 0, .int .i64 0] 43)).alloc (.cells #[.int .i64 0] 28)) (w.heap.size + 1) 28 #[.int .i64 0] by
   have h := Blk.new (w.alloc (.cells #[.int .i64 0, .int .i64 0] 43)) 28 #[.int .i64 0]; rwa [World.size_alloc] at h)
 have HB := Aside0.mk (show Below w.heap.size w ((w.alloc (.cells #[.int .i64 0, .int .i64 0] 43)).alloc (.cells #[.int .i64 0] 28)) from ((Below.refl _ w).alloc (Nat.le_refl _) _).alloc (by simp) _)
 clear hr0 hr1
 obtain ⟨k, hk⟩ := checked_eq l0 l1
 rw [if_pos ⟨hg, hg1⟩] at hk
 have HK := Aside0.mk hk
 have HG := Aside0.mk (good_of hg)
 have HG1 := Aside0.mk (good_of hg1)
 have HW := Aside0.mk (show curve_within.f l0 x = some true by rw [within_eq HG.out, hx])
 obtain ⟨⟨⟨p0, p1⟩, ⟨p2, p3⟩⟩, hl', hml, hx0, hx1⟩ := lineAt_of HG.out ((inB_iff HG.out).1 hx).1 ((inB_iff HG.out).1 hx).2
 obtain rfl : ((⟨p0, p1⟩, ⟨p2, p3⟩) : S57 × S57) = l := Option.some.inj (hl'.symm.trans hl)
 have hok := good_line HG.out hml
 have HAT := Aside0.mk (show curve_at.f l0 x = some (p0, p1, p2, p3) by unfold curve_at.f; rw [hl])
 obtain ⟨ke, hke⟩ := (exact_ev hok hx0 hx1).one
 rw [hND] at hke
 have HE := Aside0.mk hke
 have HCN := Aside0.mk hc
 clear hc
 obtain ⟨hN0, hN1, hD0, hD1⟩ := exactI_bounds hok hx0 hx1 hND
 clear hg hg1 hk hx hl hl' hml hx0 hx1 hok hke hND
 have HM := Aside0.mk hm
 have HQ := Aside0.mk hq
 clear hm hq
 refine (callsIn_wide (n := 6)).1 ?_
 refine callsIn_of_wp_marks Tryd.func40 rfl trivial ?_ rfl
 simp only [Tryd.ntmps40, List.size_toArray, List.length_cons, List.length_nil, Nat.reduceAdd, Nat.reduceSub, Array.replicate_succ, Array.replicate_zero, List.push_toArray, List.append_toArray, List.nil_append, List.cons_append]
 have hu72 := Tryd.underlying72
 refine wpIn_wide.2 ?_
 go_wp2_with fail
 refine (curve_checked.calls k A0 c0 l0 A1 c1 l1 0 _ (Kd.C_below HR0.out HB.out) hc0 (Kd.C_below HR1.out HB.out) hc1 HK.out).mono ?_
 rintro e w1 ⟨rfl, hb⟩
 have bX := HX.out.below hb (by simp; omega)
 have bZ := HZ.out.below hb (by simp)
 have HBX := Aside0.mk bX
 have HBZ := Aside0.mk bZ
 have HB1 := Aside0.mk (HB.out.trans (hb.mono HB.out.size))
 have x0 : w1.cell? ⟨w.heap.size, 0, none⟩ = some (.int .i64 0) := bX.cell 0
 have x1 : w1.cell? ⟨w.heap.size, 1, none⟩ = some (.int .i64 0) := bX.cell 1
 have z0 : w1.cell? ⟨w.heap.size + 1, 0, none⟩ = some (.int .i64 0) := bZ.cell 0
 have fx0 := bX.frozen 0
 have fx1 := bX.frozen 1
 have fz0 := bZ.frozen 0
 clear hb bX bZ
 go_wp2_with fail
 refine (curve_within.calls A0 c0 l0 x true _ (Kd.C_below HR0.out HB1.out) hc0 HW.out).mono ?_
 rintro e w2 ⟨rfl, ⟨n0, rfl⟩⟩
 go_wp2_with fail
 refine (curve_at.calls A0 c0 l0 x p0 p1 p2 p3 _ (Kd.C_below HR0.out (pw_below_drewN HB1.out n0)) hc0 HAT.out).mono ?_
 rintro e w3 ⟨rfl, hb3⟩
 have HB3 := Aside0.mk ((pw_below_drewN HB1.out n0).trans (hb3.mono HB1.out.size))
 have HBX3 := Aside0.mk ((HBX.out.drewN n0).below hb3 HBX.out.lt)
 have HBZ3 := Aside0.mk ((HBZ.out.drewN n0).below hb3 HBZ.out.lt)
 clear hb3
 go_wp2_with fail
 refine (curve_line_exact.calls ke p0 p1 p2 p3 x N D _ HE.out).mono ?_
 rintro e w4 ⟨rfl, hb4⟩
 have HB4 := Aside0.mk (HB3.out.trans (hb4.mono HB3.out.size))
 have HBX4 := Aside0.mk (HBX3.out.below hb4 HBX3.out.lt)
 have HBZ4 := Aside0.mk (HBZ3.out.below hb4 HBZ3.out.lt)
 clear hb4 x0 x1 z0 fx0 fx1 fz0
 go_wp2_with fail
 obtain ⟨w5, hw5⟩ : ∃ w5, w4.alloc (.cells #[.int .i64 N, .int .i64 D] 25) = w5 := ⟨_, rfl⟩
 have bP : Blk w5 w4.heap.size 25 #[.int .i64 N, .int .i64 D] := by rw [← hw5]; exact Blk.new w4 25 _
 have HP := Aside0.mk bP
 have HBX5 := Aside0.mk (show Blk w5 w.heap.size 43 #[.int .i64 0, .int .i64 0] by rw [← hw5]; exact HBX4.out.alloc _)
 have HBZ5 := Aside0.mk (show Blk w5 (w.heap.size + 1) 28 #[.int .i64 0] by rw [← hw5]; exact HBZ4.out.alloc _)
 have HB5 := Aside0.mk (show Below w.heap.size w w5 by rw [← hw5]; exact HB4.out.alloc HB4.out.size _)
 rw [hw5]
 clear bP hw5
 have hl2 := HG1.out.len2
 have hl64 := HG1.out.len64
 obtain ⟨ad, e258, b0, _⟩ := at_T57 HR1.out 0 (by omega) (by omega)
 cases e258
 obtain ⟨ad', e258, b1, _⟩ := at_T57 HR1.out ((l1.length : Int) - 1) (by omega) (by omega)
 cases e258
 rw [show ad.add (Int.toNat 0 * 2) = ad by simp [Addr.add]] at b0
 rw [show ((l1.length : Int) - 1).toNat = l1.length - 1 by omega] at b1
 have HQ0 := Aside0.mk ((HB5.out.cell (World.block_lt_of_cell? w _ b0)).trans b0)
 have HQ1 := Aside0.mk ((HB5.out.cell (World.block_lt_of_cell? w _ b1)).trans b1)
 clear b0 b1
 obtain ⟨X0, hX0⟩ : ∃ X0, (rd_T57 l1 0).f0 = X0 := ⟨_, rfl⟩
 obtain ⟨XE, hXE⟩ : ∃ XE, (rd_T57 l1 ((l1.length : Int) - 1)).f0 = XE := ⟨_, rfl⟩
 rw [hX0] at HQ0
 rw [hXE] at HQ1
 have FACTS : ∀ W : World, Below w5.heap.size w5 W → W.cell? ⟨w4.heap.size, 0, none⟩ = some (.int .i64 N) ∧ W.cell? ⟨w4.heap.size, 1, none⟩ = some (.int .i64 D) ∧ W.cell? ad = some (.int .i64 X0) ∧ W.cell? (ad.add ((l1.length - 1) * 2)) = some (.int .i64 XE) := fun W h =>
  ⟨(HP.out.below h HP.out.lt).cell 0, (HP.out.below h HP.out.lt).cell 1, (h.cell (World.block_lt_of_cell? w5 _ HQ0.out)).trans HQ0.out, (h.cell (World.block_lt_of_cell? w5 _ HQ1.out)).trans HQ1.out⟩
 have HF := Aside0.mk FACTS
 clear FACTS
 have HI := (show Below w5.heap.size w5 w5.drew from below_drew1 (Below.refl _ _))
 have qp : 0 < l1.length := by omega
 have qi : IntKind.i64.wrap ((l1.length : Int) - 1) = (l1.length : Int) - 1 := IntWalk.i64_in _ (by omega)
 have q2 : 0 ≤ (l1.length : Int) - 1 := by omega
 have q3 : (l1.length : Int) - 1 < l1.length := by omega
 have q5 : 1 ≤ (l1.length : Int) := by omega
 have q4 : ((l1.length : Int) - 1).toNat = l1.length - 1 := by omega
 have hx0b : 0 ≤ X0 ∧ X0 ≤ 16777216 := by rw [← hX0]; exact HG1.out.bx 0 (by omega)
 have hxeb : 0 ≤ XE ∧ XE ≤ 16777216 := by
  rw [← hXE]; have h := HG1.out.bx (l1.length - 1) (by omega); unfold px at h; unfold rd_T57; rw [show ((l1.length : Int) - 1).toNat = l1.length - 1 by omega]; exact h
 obtain ⟨V1, hV1⟩ : ∃ v, cmpI N D X0 1 = v := ⟨_, rfl⟩
 obtain ⟨V2, hV2⟩ : ∃ v, cmpI N D XE 1 = v := ⟨_, rfl⟩
 have HC1 := Aside0.mk (cmp_frac hN0 hN1 hD0 (by omega) hx0b.1 (by omega) (by omega) (by omega) hV1)
 have HC2 := Aside0.mk (cmp_frac hN0 hN1 hD0 (by omega) hxeb.1 (by omega) (by omega) (by omega) hV2)
 have g1 : 0 ≤ V1 := by rw [← hV1]; exact cmpI_nonneg (by rw [← hX0]; have := HCN.out; omega)
 have g2 : V2 ≤ 0 := by rw [← hV2]; exact cmpI_nonpos (by rw [← hXE]; have := HCN.out; omega)
 clear hV1 hV2 hX0 hXE hx0b hxeb
 refine wp_region_IN (n := 6) (I := fun W => Below w5.heap.size w5 W) (by kernel_rfl) ?_
 change AnyI _ _ _ _ _ _ _ _ _ _ (World.drew _)
 refine AnyI.take (i := 0) (v := ?_) rfl rfl (by kernel_rfl) (by kernel_rfl) (by kernel_rfl) (fun _ _ _ h => h) ⟨Or.inl ⟨by rfl, ?_⟩, fun _ => rfl⟩ HI ?_
 rotate_left
 ·
  intro wI hI; obtain ⟨c0, c1, c2, c3⟩ := HF.out _ hI; go_simp; try with_reducible rfl
 go_simp
 refine AnyI.take (i := 1) (v := ?_) rfl rfl (by kernel_rfl) (by kernel_rfl) (by kernel_rfl) (fun _ _ _ h => h) ⟨Or.inl ⟨by rfl, ?_⟩, fun _ => rfl⟩ HI ?_
 rotate_left
 ·
  intro wI hI; obtain ⟨c0, c1, c2, c3⟩ := HF.out _ hI; go_simp; try with_reducible rfl
 go_simp
 refine AnyI.take (i := 2) (v := ?_) rfl rfl (by kernel_rfl) (by kernel_rfl) (by kernel_rfl) (fun _ _ _ h => h) ⟨Or.inl ⟨by rfl, ?_⟩, fun _ => rfl⟩ HI ?_
 rotate_left
 ·
  intro wI hI; obtain ⟨c0, c1, c2, c3⟩ := HF.out _ hI; go_simp; try with_reducible rfl
 go_simp
 refine AnyI.take (i := 3) (v := ?_) rfl rfl (by kernel_rfl) (by kernel_rfl) (by kernel_rfl) (fun _ _ _ h => h) ⟨Or.inl ⟨by rfl, ?_⟩, fun _ => rfl⟩ HI ?_
 rotate_left
 ·
  intro wI hI; obtain ⟨c0, c1, c2, c3⟩ := HF.out _ hI; go_simp; try with_reducible rfl
 go_simp
 refine AnyI.take (i := 4) (v := ?_) rfl rfl (by kernel_rfl) (by kernel_rfl) (by kernel_rfl) (fun _ _ _ h => h) ⟨Or.inl ⟨by rfl, ?_⟩, fun _ => rfl⟩ HI ?_
 rotate_left
 ·
  intro wI hI; obtain ⟨c0, c1, c2, c3⟩ := HF.out _ hI; go_simp; try with_reducible rfl
 go_simp
 refine AnyI.take (i := 5) (v := ?_) rfl rfl (by kernel_rfl) (by kernel_rfl) (by kernel_rfl) (fun _ _ _ h => h) ⟨Or.inl ⟨by rfl, ?_⟩, fun _ => rfl⟩ HI ?_
 rotate_left
 ·
  intro wI hI; obtain ⟨c0, c1, c2, c3⟩ := HF.out _ hI; go_simp; try with_reducible rfl
 go_simp
 refine AnyI.one (i := 6) (by kernel_rfl) rfl (fun K hK => ?_)
 go_simp
 refine ⟨trivial, ?_⟩
 gi_at_call 64
 refine (callsIn_wide.2 (curve_compare.calls N D X0 1 V1 _ HC1.out)).mono ?_
 rintro e w6 ⟨rfl, hb6⟩
 have HI := HI.trans (hb6.mono HI.size)
 clear hb6
 refine hK _ _ HI ?_
 clear hK K
 refine AnyI.take (i := 7) (v := .bool false) rfl rfl (by kernel_rfl) (by kernel_rfl) (by kernel_rfl) (fun _ _ _ h => h) ⟨Or.inl ⟨by rfl, ?_⟩, fun _ => rfl⟩ HI ?_
 ·
  intro wI hI; obtain ⟨c0, c1, c2, c3⟩ := HF.out _ hI; go_simp; try with_reducible rfl
 go_simp
 refine AnyI.take (i := 8) (v := .bool false) rfl rfl (by kernel_rfl) (by kernel_rfl) (by kernel_rfl) (fun _ _ _ h => h) ⟨Or.inl ⟨by rfl, ?_⟩, fun _ => rfl⟩ HI ?_
 ·
  intro wI hI; obtain ⟨c0, c1, c2, c3⟩ := HF.out _ hI; go_simp; try with_reducible rfl
 go_simp
 refine AnyI.take (i := 9) (v := ?_) rfl rfl (by kernel_rfl) (by kernel_rfl) (by kernel_rfl) (fun _ _ _ h => h) ⟨Or.inl ⟨by rfl, ?_⟩, fun _ => rfl⟩ HI ?_
 rotate_left
 ·
  intro wI hI; obtain ⟨c0, c1, c2, c3⟩ := HF.out _ hI; go_simp; try with_reducible rfl
 go_simp
 refine AnyI.take (i := 10) (v := ?_) rfl rfl (by kernel_rfl) (by kernel_rfl) (by kernel_rfl) (fun _ _ _ h => h) ⟨Or.inl ⟨by rfl, ?_⟩, fun _ => rfl⟩ HI ?_
 rotate_left
 ·
  intro wI hI; obtain ⟨c0, c1, c2, c3⟩ := HF.out _ hI; go_simp; try with_reducible rfl
 go_simp
 refine AnyI.take (i := 11) (v := ?_) rfl rfl (by kernel_rfl) (by kernel_rfl) (by kernel_rfl) (fun _ _ _ h => h) ⟨Or.inl ⟨by rfl, ?_⟩, fun _ => rfl⟩ HI ?_
 rotate_left
 ·
  intro wI hI; obtain ⟨c0, c1, c2, c3⟩ := HF.out _ hI; go_simp; try with_reducible rfl
 go_simp
 refine AnyI.take (i := 12) (v := ?_) rfl rfl (by kernel_rfl) (by kernel_rfl) (by kernel_rfl) (fun _ _ _ h => h) ⟨Or.inl ⟨by rfl, ?_⟩, fun _ => rfl⟩ HI ?_
 rotate_left
 ·
  intro wI hI; obtain ⟨c0, c1, c2, c3⟩ := HF.out _ hI; go_simp; try with_reducible rfl
 go_simp
 refine AnyI.take (i := 13) (v := ?_) rfl rfl (by kernel_rfl) (by kernel_rfl) (by kernel_rfl) (fun _ _ _ h => h) ⟨Or.inl ⟨by rfl, ?_⟩, fun _ => rfl⟩ HI ?_
 rotate_left
 ·
  intro wI hI; obtain ⟨c0, c1, c2, c3⟩ := HF.out _ hI; go_simp; try with_reducible rfl
 go_simp
 refine AnyI.take (i := 14) (v := ?_) rfl rfl (by kernel_rfl) (by kernel_rfl) (by kernel_rfl) (fun _ _ _ h => h) ⟨Or.inl ⟨by rfl, ?_⟩, fun _ => rfl⟩ HI ?_
 rotate_left
 ·
  intro wI hI; obtain ⟨c0, c1, c2, c3⟩ := HF.out _ hI; go_simp; try with_reducible rfl
 go_simp
 refine AnyI.take (i := 15) (v := ?_) rfl rfl (by kernel_rfl) (by kernel_rfl) (by kernel_rfl) (fun _ _ _ h => h) ⟨Or.inl ⟨by rfl, ?_⟩, fun _ => rfl⟩ HI ?_
 rotate_left
 ·
  intro wI hI; obtain ⟨c0, c1, c2, c3⟩ := HF.out _ hI; go_simp; try with_reducible rfl
 go_simp
 refine AnyI.take (i := 16) (v := ?_) rfl rfl (by kernel_rfl) (by kernel_rfl) (by kernel_rfl) (fun _ _ _ h => h) ⟨Or.inl ⟨by rfl, ?_⟩, fun _ => rfl⟩ HI ?_
 rotate_left
 ·
  intro wI hI; obtain ⟨c0, c1, c2, c3⟩ := HF.out _ hI; go_simp; try with_reducible rfl
 go_simp
 refine AnyI.take (i := 17) (v := ?_) rfl rfl (by kernel_rfl) (by kernel_rfl) (by kernel_rfl) (fun _ _ _ h => h) ⟨Or.inl ⟨by rfl, ?_⟩, fun _ => rfl⟩ HI ?_
 rotate_left
 ·
  intro wI hI; obtain ⟨c0, c1, c2, c3⟩ := HF.out _ hI; go_simp; try with_reducible rfl
 go_simp
 refine AnyI.one (i := 18) (by kernel_rfl) rfl (fun K hK => ?_)
 go_simp
 refine ⟨trivial, ?_⟩
 gi_at_call 64
 refine (callsIn_wide.2 (curve_compare.calls N D XE 1 V2 _ HC2.out)).mono ?_
 rintro e w7 ⟨rfl, hb7⟩
 have HI := HI.trans (hb7.mono HI.size)
 clear hb7
 refine hK _ _ HI ?_
 clear hK K
 refine AnyI.take (i := 19) (v := .bool false) rfl rfl (by kernel_rfl) (by kernel_rfl) (by kernel_rfl) (fun _ _ _ h => h) ⟨Or.inl ⟨by rfl, ?_⟩, fun _ => rfl⟩ HI ?_
 ·
  intro wI hI; obtain ⟨c0, c1, c2, c3⟩ := HF.out _ hI; go_simp; try with_reducible rfl
 go_simp
 refine AnyI.take (i := 20) (v := .bool false) rfl rfl (by kernel_rfl) (by kernel_rfl) (by kernel_rfl) (fun _ _ _ h => h) ⟨Or.inl ⟨by rfl, ?_⟩, fun _ => rfl⟩ HI ?_
 ·
  intro wI hI; obtain ⟨c0, c1, c2, c3⟩ := HF.out _ hI; go_simp; try with_reducible rfl
 go_simp
 refine AnyI.done (by kernel_rfl) ?_ _
 simp only [OnlyN, Exit.then]
 have HBX7 := Aside0.mk (HBX5.out.below HI HBX5.out.lt)
 have HBZ7 := Aside0.mk (HBZ5.out.below HI HBZ5.out.lt)
 have HB7 := Aside0.mk (HB5.out.trans (HI.mono HB5.out.size))
 have HP7 := Aside0.mk (HP.out.below HI HP.out.lt)
 go_wp2_with fail
 refine ((callsIn_wide (n := 6)).1 (lines_in Fence.wide _ trivial rfl _ _ _ _)).mono ?_
 rintro e w' ⟨rfl, rfl⟩
 go_wp2_with fail
 obtain ⟨W0, hW0⟩ : ∃ W0, w7.alloc (.cells #[.slice (some ad) l1.length c1] 23) = W0 := ⟨_, rfl⟩
 have bX : Blk W0 w.heap.size 43 #[.int .i64 0, .int .i64 0] := by rw [← hW0]; exact HBX7.out.alloc _
 have bZ : Blk W0 (w.heap.size + 1) 28 #[.int .i64 0] := by rw [← hW0]; exact HBZ7.out.alloc _
 have bP : Blk W0 w4.heap.size 25 #[.int .i64 N, .int .i64 D] := by rw [← hW0]; exact HP7.out.alloc _
 have bC : Blk W0 w7.heap.size 23 #[.slice (some ad) l1.length c1] := by rw [← hW0]; exact Blk.new w7 23 _
 have hsz : W0.heap.size = w7.heap.size + 1 := by rw [← hW0]; simp
 have hs7 := HB7.out.size
 have hB0 : Below w.heap.size w W0 := by rw [← hW0]; exact HB7.out.alloc hs7 _
 rw [hW0]
 clear hW0 HI HF HC1 HC2 HCN
 refine (wpIn_wide (n := 6)).1 ?_
 refine wpIn_rangeFunc_ownH rfl (by omega) (gf := 101) (lb := #[.pointer (some ⟨w7.heap.size, 0, none⟩)]) rfl trivial (enters_of Tryd.func101 (by kernel_rfl) rfl)
  (lines_stopsM Fence.wide _ trivial rfl (by omega) w7.heap.size W0.heap.size (some ad) c1 l1 w (by omega) HR1.out W0 hB0 (by omega) (Nat.le_refl _) (by rw [bC.cell]; rfl)) KeepB.trans (keepB_b (Nat.le_refl _) (by omega)) (Below.refl _ _) (fun _ => rfl)
  (fun pre W => (∀ l ∈ pre, endB N D l.1 = false) ∧ Below W0.heap.size W0 W)
  (fun j pre W => (j = .ret ∧ ThruOut w N D pre W) ∧ Below w.heap.size w W)
  (OwnFrom.and (ownFrom_pure _ _) (ownFrom_below (Nat.le_refl _) (Nat.le_refl _)))
  (fun j => OwnFrom.and (Own.from (fun s X Y row hs hg hrow => by
   obtain ⟨hj, ini, last, q, wh, h1, h2, h3⟩ := hs
   exact ⟨hj, ini, last, q, wh, h1, blk_own _ _ (fun (_ : Unit) => #[.int .i64 (wrap64 (last.1.1.f1 + q)), .int .i64 (hiI wh (wrap64 (last.1.1.f1 + q)))]) () X Y row h2 hg hrow, blk_own _ _ (fun (_ : Unit) => #[.int .i64 0]) () X Y row h3 hg hrow⟩) _) (ownFrom_below (Nat.le_refl _) (by omega)))
  ⟨by simp, Below.refl _ _⟩
  (fun (l : LineIn l1) a' W => ∃ Bx, W0.heap.size ≤ Bx ∧ Blk W Bx 72 (cells4 l.1) ∧ a' = { tmps := #[Value.slice A0 l0.length c0, Value.slice (some ad) l1.length c1, Value.int IntKind.i64 x, undef, undef, undef, Value.pointer (some { block := w.heap.size, off := 0 }), Value.pointer (some { block := w.heap.size + 1, off := 0 }), Value.int IntKind.i64 0, Value.pointer (some { block := w4.heap.size, off := 0 }), .pointer (some ⟨Bx, 0, none⟩), undef, undef, undef, Value.slice A0 l0.length c0, Value.slice (some ad) l1.length c1, Value.int IntKind.i64 0, Value.int IntKind.i64 0, Value.bool false, undef, undef, Value.slice A0 l0.length c0, Value.int IntKind.i64 x, Value.bool true, Value.bool false, undef, Value.slice A0 l0.length c0, Value.int IntKind.i64 x, Value.agg #[Value.int IntKind.i64 p0, Value.int IntKind.i64 p1, Value.int IntKind.i64 p2, Value.int IntKind.i64 p3], Value.int IntKind.i64 x, Value.agg #[Value.int IntKind.i64 N, Value.int IntKind.i64 D], Value.agg #[Value.int IntKind.i64 N, Value.int IntKind.i64 D], Value.slice (some ad) l1.length c1, Value.pointer (some ad), Value.pointer (some ad), Value.int IntKind.i64 X0, Value.agg #[Value.int IntKind.i64 X0, Value.int IntKind.i64 1], Value.int IntKind.i64 V1, Value.bool false, Value.bool false, Value.agg #[Value.int IntKind.i64 N, Value.int IntKind.i64 D], Value.slice (some ad) l1.length c1, Value.slice (some ad) l1.length c1, Value.int IntKind.i64 ↑l1.length, Value.int IntKind.i64 (↑l1.length - 1), Value.pointer (some (ad.add ((l1.length - 1) * 2))), Value.pointer (some (ad.add ((l1.length - 1) * 2))), Value.int IntKind.i64 XE, Value.agg #[Value.int IntKind.i64 XE, Value.int IntKind.i64 1], Value.int IntKind.i64 V2, Value.bool false, Value.bool false, undef, Value.slice (some ad) l1.length c1, Value.func (Fn.func 101) #[] #[Value.pointer (some { block := w7.heap.size, off := 0 })], .agg (cells4 l.1), undef, undef, undef, undef, undef, undef, undef, undef, undef, undef, undef, undef, undef, undef, undef, undef, undef, undef, undef, undef, undef, undef, undef, undef, undef, undef, undef, undef, undef, undef, undef, undef, undef, undef, undef, undef, undef, undef, undef, undef, undef, undef, undef, undef, undef, undef, undef, undef], defers := [] })
  (fun l a' _ X Y row hs hg hrow => by obtain ⟨Bx, h1, h2, h3⟩ := hs; exact ⟨Bx, h1, blk_own Bx 72 (fun (_ : Unit) => cells4 l.1) () X Y row h2 hg (fun r e => (hrow r e).2), h3⟩)
  ?assign ?body ?done ?stop
 case assign =>
  rintro l pre ln W K ⟨hp, hB1⟩ hK
  have hsW := hB1.size
  obtain ⟨⟨⟨x0, y0⟩, ⟨x1, y1⟩⟩, hml⟩ := ln
  simp only [encL]
  gi_wp2
  exact hK _ _ ((KeepsOthers.alloc _ _).from _) ⟨(Below.refl _ W).alloc (by omega) _, Below.heap_alloc W _ _ (by omega)⟩ ⟨hp, hB1.alloc (by omega) _⟩ ⟨W.heap.size, by omega, Blk.new W 72 _, rfl⟩
 case body =>
  rintro l pre ln a' W hl ⟨r, hr'⟩ ⟨hp, hB1⟩ ⟨Bx, hBx, bX', rfl⟩ hlt
  obtain ⟨⟨⟨x0, y0⟩, ⟨x1, y1⟩⟩, hml⟩ := ln
  have hok := good_line HG1.out hml
  have hxb := hok.x0
  have hx1b := hok.x1
  have hxxb := hok.xx
  have hy0b := hok.y0
  have hy1b := hok.y1
  have hyyb := hok.yy
  simp only [cells4] at bX' hxb hx1b hxxb hy0b hy1b hyyb ⊢
  have c0 : W.cell? ⟨Bx, 0, none⟩ = some (.int .i64 x0) := bX'.cell 0
  have c1 : W.cell? ⟨Bx, 1, none⟩ = some (.int .i64 y0) := bX'.cell 1
  have c2 : W.cell? ⟨Bx, 2, none⟩ = some (.int .i64 x1) := bX'.cell 2
  have c3 : W.cell? ⟨Bx, 3, none⟩ = some (.int .i64 y1) := bX'.cell 3
  have hlt4 : w4.heap.size < W0.heap.size := bP.lt
  have bP' := bP.below hB1 hlt4
  have d0 : W.cell? ⟨w4.heap.size, 0, none⟩ = some (.int .i64 N) := bP'.cell 0
  have d1 : W.cell? ⟨w4.heap.size, 1, none⟩ = some (.int .i64 D) := bP'.cell 1
  have HP := Aside0.mk hp
  have HB := Aside0.mk hB1
  have m1 := mulb (a := x1) (b := D) (A := 16777216) (B := 16777216) (by omega) (by omega) (by omega) hD1
  have m0 := mulb (a := x0) (b := D) (A := 16777216) (B := 16777216) (by omega) (by omega) (by omega) hD1
  have u1 : IntKind.i64.wrap (x1 * D) = x1 * D := IntWalk.i64_in _ (by omega)
  clear hp hB1 bP'
  by_cases hh : N ≤ x1 * D
  case neg =>
   have hgt : x1 * D < N := by omega
   have HH := Aside0.mk (show endB N D (⟨x0, y0⟩, ⟨x1, y1⟩) = false by unfold endB; simp; omega)
   clear hok m1 m0 hh
   gi_wp2_with fail
   exact ⟨keepsFrom_below _ (Below.refl _ _), KeepB.refl _ _ _, fun q hq => (List.mem_append.1 hq).elim (HP.out q) (fun e => by simp at e; subst e; exact HH.out), HB.out⟩
  case pos =>
   have HE := Aside0.mk (show endB N D (⟨x0, y0⟩, ⟨x1, y1⟩) = true by unfold endB; simp; omega)
   have HH := Aside0.mk (high_eq hok)
   have HWI := Aside0.mk (wide_eq hok)
   have hwi := hok.wide
   have hhi := hok.high
   have m2 := mulb (a := D) (b := wideI (⟨x0, y0⟩, ⟨x1, y1⟩)) (A := 16777216) (B := 16777216) (by omega) hD1 (by omega) hwi.2
   have m3 : 0 < D * wideI (⟨x0, y0⟩, ⟨x1, y1⟩) := Int.mul_pos hD0 hwi.1
   obtain ⟨q, wh, hpr⟩ := product_some (N - x0 * D) (highI (⟨x0, y0⟩, ⟨x1, y1⟩)) (D * wideI (⟨x0, y0⟩, ⟨x1, y1⟩)) (by omega)
   have HPR := Aside0.mk hpr
   have u2 : IntKind.i64.wrap (x0 * D) = x0 * D := IntWalk.i64_in _ (by omega)
   have u3 : IntKind.i64.wrap (N - x0 * D) = N - x0 * D := IntWalk.i64_in _ (by omega)
   have u4 : IntKind.i64.wrap (D * wideI (⟨x0, y0⟩, ⟨x1, y1⟩)) = D * wideI (⟨x0, y0⟩, ⟨x1, y1⟩) := IntWalk.i64_in _ (by omega)
   have FB : ∀ X : World, Below W.heap.size W X → X.cell? ⟨Bx, 0, none⟩ = some (.int .i64 x0) ∧ X.cell? ⟨Bx, 1, none⟩ = some (.int .i64 y0) ∧ X.cell? ⟨Bx, 2, none⟩ = some (.int .i64 x1) ∧ X.cell? ⟨Bx, 3, none⟩ = some (.int .i64 y1) ∧ X.cell? ⟨w4.heap.size, 0, none⟩ = some (.int .i64 N) ∧ X.cell? ⟨w4.heap.size, 1, none⟩ = some (.int .i64 D) := fun X h =>
    ⟨(h.cell (World.block_lt_of_cell? W _ c0)).trans c0, (h.cell (World.block_lt_of_cell? W _ c1)).trans c1, (h.cell (World.block_lt_of_cell? W _ c2)).trans c2, (h.cell (World.block_lt_of_cell? W _ c3)).trans c3, (h.cell (World.block_lt_of_cell? W _ d0)).trans d0, (h.cell (World.block_lt_of_cell? W _ d1)).trans d1⟩
   have HFB := Aside0.mk FB
   clear FB hok hpr m1 m0 m2 hwi hhi
   gi_wp2_with fail
   refine wpIn_region_IN (I := fun X => Below W.heap.size W X) (by kernel_rfl) (by kernel_rfl) rfl ?_
   change AnyI _ _ _ _ _ _ _ _ _ _ (World.drew _)
   have HI := (show Below W.heap.size W W.drew from below_drew1 (Below.refl _ _))
   refine AnyI.take (i := 0) (v := ?_) rfl rfl (by kernel_rfl) (by kernel_rfl) (by kernel_rfl) (fun _ _ _ h => h) ⟨Or.inl ⟨by rfl, ?_⟩, fun _ => rfl⟩ HI ?_
   rotate_left
   ·
    intro wI hI; obtain ⟨c0, c1, c2, c3, d0, d1⟩ := HFB.out _ hI; go_simp; try with_reducible rfl
   go_simp
   refine AnyI.take (i := 1) (v := ?_) rfl rfl (by kernel_rfl) (by kernel_rfl) (by kernel_rfl) (fun _ _ _ h => h) ⟨Or.inl ⟨by rfl, ?_⟩, fun _ => rfl⟩ HI ?_
   rotate_left
   ·
    intro wI hI; obtain ⟨c0, c1, c2, c3, d0, d1⟩ := HFB.out _ hI; go_simp; try with_reducible rfl
   go_simp
   refine AnyI.take (i := 2) (v := ?_) rfl rfl (by kernel_rfl) (by kernel_rfl) (by kernel_rfl) (fun _ _ _ h => h) ⟨Or.inl ⟨by rfl, ?_⟩, fun _ => rfl⟩ HI ?_
   rotate_left
   ·
    intro wI hI; obtain ⟨c0, c1, c2, c3, d0, d1⟩ := HFB.out _ hI; go_simp; try with_reducible rfl
   go_simp
   refine AnyI.take (i := 3) (v := ?_) rfl rfl (by kernel_rfl) (by kernel_rfl) (by kernel_rfl) (fun _ _ _ h => h) ⟨Or.inl ⟨by rfl, ?_⟩, fun _ => rfl⟩ HI ?_
   rotate_left
   ·
    intro wI hI; obtain ⟨c0, c1, c2, c3, d0, d1⟩ := HFB.out _ hI; go_simp; try with_reducible rfl
   go_simp
   refine AnyI.take (i := 4) (v := ?_) rfl rfl (by kernel_rfl) (by kernel_rfl) (by kernel_rfl) (fun _ _ _ h => h) ⟨Or.inl ⟨by rfl, ?_⟩, fun _ => rfl⟩ HI ?_
   rotate_left
   ·
    intro wI hI; obtain ⟨c0, c1, c2, c3, d0, d1⟩ := HFB.out _ hI; go_simp; try with_reducible rfl
   go_simp
   refine AnyI.take (i := 5) (v := ?_) rfl rfl (by kernel_rfl) (by kernel_rfl) (by kernel_rfl) (fun _ _ _ h => h) ⟨Or.inl ⟨by rfl, ?_⟩, fun _ => rfl⟩ HI ?_
   rotate_left
   ·
    intro wI hI; obtain ⟨c0, c1, c2, c3, d0, d1⟩ := HFB.out _ hI; go_simp; try with_reducible rfl
   go_simp
   refine AnyI.take (i := 6) (v := ?_) rfl rfl (by kernel_rfl) (by kernel_rfl) (by kernel_rfl) (fun _ _ _ h => h) ⟨Or.inl ⟨by rfl, ?_⟩, fun _ => rfl⟩ HI ?_
   rotate_left
   ·
    intro wI hI; obtain ⟨c0, c1, c2, c3, d0, d1⟩ := HFB.out _ hI; go_simp; try with_reducible rfl
   go_simp
   refine AnyI.take (i := 7) (v := ?_) rfl rfl (by kernel_rfl) (by kernel_rfl) (by kernel_rfl) (fun _ _ _ h => h) ⟨Or.inl ⟨by rfl, ?_⟩, fun _ => rfl⟩ HI ?_
   rotate_left
   ·
    intro wI hI; obtain ⟨c0, c1, c2, c3, d0, d1⟩ := HFB.out _ hI; go_simp; try with_reducible rfl
   go_simp
   refine AnyI.take (i := 8) (v := ?_) rfl rfl (by kernel_rfl) (by kernel_rfl) (by kernel_rfl) (fun _ _ _ h => h) ⟨Or.inl ⟨by rfl, ?_⟩, fun _ => rfl⟩ HI ?_
   rotate_left
   ·
    intro wI hI; obtain ⟨c0, c1, c2, c3, d0, d1⟩ := HFB.out _ hI; go_simp; try with_reducible rfl
   go_simp
   refine AnyI.take (i := 9) (v := ?_) rfl rfl (by kernel_rfl) (by kernel_rfl) (by kernel_rfl) (fun _ _ _ h => h) ⟨Or.inl ⟨by rfl, ?_⟩, fun _ => rfl⟩ HI ?_
   rotate_left
   ·
    intro wI hI; obtain ⟨c0, c1, c2, c3, d0, d1⟩ := HFB.out _ hI; go_simp; try with_reducible rfl
   go_simp
   refine AnyI.take (i := 11) (v := ?_) rfl rfl (by kernel_rfl) (by kernel_rfl) (by kernel_rfl) (fun _ _ _ h => h) ⟨Or.inl ⟨by rfl, ?_⟩, fun _ => rfl⟩ HI ?_
   rotate_left
   ·
    intro wI hI; obtain ⟨c0, c1, c2, c3, d0, d1⟩ := HFB.out _ hI; go_simp; try with_reducible rfl
   go_simp
   refine AnyI.take (i := 12) (v := ?_) rfl rfl (by kernel_rfl) (by kernel_rfl) (by kernel_rfl) (fun _ _ _ h => h) ⟨Or.inl ⟨by rfl, ?_⟩, fun _ => rfl⟩ HI ?_
   rotate_left
   ·
    intro wI hI; obtain ⟨c0, c1, c2, c3, d0, d1⟩ := HFB.out _ hI; go_simp; try with_reducible rfl
   go_simp
   refine AnyI.take (i := 13) (v := ?_) rfl rfl (by kernel_rfl) (by kernel_rfl) (by kernel_rfl) (fun _ _ _ h => h) ⟨Or.inl ⟨by rfl, ?_⟩, fun _ => rfl⟩ HI ?_
   rotate_left
   ·
    intro wI hI; obtain ⟨c0, c1, c2, c3, d0, d1⟩ := HFB.out _ hI; go_simp; try with_reducible rfl
   go_simp
   refine AnyI.one (i := 10) (by kernel_rfl) rfl (fun K hK => ?_)
   go_simp
   refine ⟨trivial, ?_⟩
   gi_at_call 86
   refine (callsIn_wide.2 (curve_line_high.calls _ _ _ _ _ _ HH.out)).mono ?_
   rintro e W1 ⟨rfl, hb6⟩
   have HI := HI.trans (hb6.mono HI.size)
   clear hb6
   refine hK _ _ HI ?_
   clear hK K
   refine AnyI.one (i := 14) (by kernel_rfl) rfl (fun K hK => ?_)
   go_simp
   refine ⟨trivial, ?_⟩
   gi_at_call 87
   refine (callsIn_wide.2 (curve_line_wide.calls _ _ _ _ _ _ HWI.out)).mono ?_
   rintro e W2 ⟨rfl, hb6⟩
   have HI := HI.trans (hb6.mono HI.size)
   clear hb6
   refine hK _ _ HI ?_
   clear hK K
   refine AnyI.take (i := 15) (v := ?_) rfl rfl (by kernel_rfl) (by kernel_rfl) (by kernel_rfl) (fun _ _ _ h => h) ⟨Or.inl ⟨by rfl, ?_⟩, fun _ => rfl⟩ HI ?_
   rotate_left
   ·
    intro wI hI; obtain ⟨c0, c1, c2, c3, d0, d1⟩ := HFB.out _ hI; go_simp; try with_reducible rfl
   go_simp
   refine AnyI.one (i := 16) (by kernel_rfl) rfl (fun K hK => ?_)
   go_simp
   refine ⟨trivial, ?_⟩
   gi_at_call 85
   refine (callsIn_wide.2 (curve_product.calls _ _ _ _ _ _ HPR.out)).mono ?_
   rintro e W3 ⟨rfl, ⟨n3, rfl⟩⟩
   have HI := pw_below_drewN HI n3
   refine hK _ _ HI ?_
   clear hK K
   refine AnyI.take (i := 17) (v := ?_) rfl rfl (by kernel_rfl) (by kernel_rfl) (by kernel_rfl) (fun _ _ _ h => h) ⟨Or.inl ⟨by rfl, ?_⟩, fun _ => rfl⟩ HI ?_
   rotate_left
   ·
    intro wI hI; obtain ⟨c0, c1, c2, c3, d0, d1⟩ := HFB.out _ hI; go_simp; try with_reducible rfl
   go_simp
   refine AnyI.take (i := 18) (v := ?_) rfl rfl (by kernel_rfl) (by kernel_rfl) (by kernel_rfl) (fun _ _ _ h => h) ⟨Or.inl ⟨by rfl, ?_⟩, fun _ => rfl⟩ HI ?_
   rotate_left
   ·
    intro wI hI; obtain ⟨c0, c1, c2, c3, d0, d1⟩ := HFB.out _ hI; go_simp; try with_reducible rfl
   go_simp
   refine AnyI.take (i := 19) (v := ?_) rfl rfl (by kernel_rfl) (by kernel_rfl) (by kernel_rfl) (fun _ _ _ h => h) ⟨Or.inl ⟨by rfl, ?_⟩, fun _ => rfl⟩ HI ?_
   rotate_left
   ·
    intro wI hI; obtain ⟨c0, c1, c2, c3, d0, d1⟩ := HFB.out _ hI; go_simp; try with_reducible rfl
   go_simp
   refine AnyI.take (i := 20) (v := ?_) rfl rfl (by kernel_rfl) (by kernel_rfl) (by kernel_rfl) (fun _ _ _ h => h) ⟨Or.inl ⟨by rfl, ?_⟩, fun _ => rfl⟩ HI ?_
   rotate_left
   ·
    intro wI hI; obtain ⟨c0, c1, c2, c3, d0, d1⟩ := HFB.out _ hI; go_simp; try with_reducible rfl
   go_simp
   refine AnyI.take (i := 21) (v := ?_) rfl rfl (by kernel_rfl) (by kernel_rfl) (by kernel_rfl) (fun _ _ _ h => h) ⟨Or.inl ⟨by rfl, ?_⟩, fun _ => rfl⟩ HI ?_
   rotate_left
   ·
    intro wI hI; obtain ⟨c0, c1, c2, c3, d0, d1⟩ := HFB.out _ hI; go_simp; try with_reducible rfl
   go_simp
   refine AnyI.done (by kernel_rfl) ?_ _
   simp only [OnlyN, Exit.then]
   have hW9 := HB.out.trans (HI.mono HB.out.size)
   obtain ⟨W9, hW9e⟩ : ∃ W9, W2.drewN n3 = W9 := ⟨_, rfl⟩
   rw [hW9e] at HI hW9 ⊢
   clear hW9e
   obtain ⟨e0, e1, _, _, _, _⟩ := HFB.out _ HI
   have HBX9 := Aside0.mk (bX.below hW9 bX.lt)
   have HBZ9 := Aside0.mk (bZ.below hW9 bZ.lt)
   have hsz9 := hW9.size
   have hbz := bZ.lt
   have HH9 := Aside0.mk HI
   have HW9 := Aside0.mk hW9
   clear HI hW9 HFB u1 u2 u3 u4 c0 c1 c2 c3 d0 d1
   obtain ⟨L, hL⟩ : ∃ L, wrap64 (y0 + q) = L := ⟨_, rfl⟩
   cases wh with
   | true =>
    have HBA := Aside0.mk (show Blk (W9.alloc (.cells #[.int .i64 L, .int .i64 L] 43)) w.heap.size 43 #[.int .i64 0, .int .i64 0] from HBX9.out.alloc _)
    have HBB := Aside0.mk (show Blk (W9.alloc (.cells #[.int .i64 L, .int .i64 L] 43)) (w.heap.size + 1) 28 #[.int .i64 0] from HBZ9.out.alloc _)
    have HBD := Aside0.mk (show Below W.heap.size W (W9.alloc (.cells #[.int .i64 L, .int .i64 L] 43)) from HH9.out.alloc HH9.out.size _)
    have x0' : ((W9.alloc (.cells #[.int .i64 L, .int .i64 L] 43))).cell? ⟨w.heap.size, 0, none⟩ = some (.int .i64 0) := HBA.out.cell 0
    have x1' : ((W9.alloc (.cells #[.int .i64 L, .int .i64 L] 43))).cell? ⟨w.heap.size, 1, none⟩ = some (.int .i64 0) := HBA.out.cell 1
    have z0' : ((W9.alloc (.cells #[.int .i64 L, .int .i64 L] 43))).cell? ⟨w.heap.size + 1, 0, none⟩ = some (.int .i64 0) := HBB.out.cell 0
    have fx0 := HBA.out.frozen 0
    have fx1 := HBA.out.frozen 1
    have fz0 := HBB.out.frozen 0
    gi_wp2_with fail
    have r1 : Blk ((((W9.alloc (.cells #[.int .i64 L, .int .i64 L] 43)).setCell ⟨w.heap.size, 0, none⟩ (.int .i64 L)).setCell ⟨w.heap.size, 1, none⟩ (.int .i64 L)).setCell ⟨w.heap.size + 1, 0, none⟩ (.int .i64 0)) w.heap.size 43 #[.int .i64 L, .int .i64 L] := by have h := ((HBA.out.set_ 0 (.int .i64 L)).set_ 1 (.int .i64 L)).far (p := ⟨w.heap.size + 1, 0, none⟩) (by simp) (.int .i64 0); simpa using h
    have r2 : Blk ((((W9.alloc (.cells #[.int .i64 L, .int .i64 L] 43)).setCell ⟨w.heap.size, 0, none⟩ (.int .i64 L)).setCell ⟨w.heap.size, 1, none⟩ (.int .i64 L)).setCell ⟨w.heap.size + 1, 0, none⟩ (.int .i64 0)) (w.heap.size + 1) 28 #[.int .i64 0] := by have h := ((HBB.out.far (p := ⟨w.heap.size, 0, none⟩) (by simp) (.int .i64 L)).far (p := ⟨w.heap.size, 1, none⟩) (by simp) (.int .i64 L)).set_ 0 (.int .i64 0); simpa using h
    subst hL
    exact ⟨(((keepsFrom_below _ HBD.out).trans ((KeepsOthers.setCell _ _ _).from _)).trans ((KeepsOthers.setCell _ _ _).from _)).trans ((KeepsOthers.setCell _ _ _).from _), ⟨rfl, pre, ⟨(⟨x0, y0⟩, ⟨x1, y1⟩), hml⟩, q, true, ⟨rfl, HP.out, HE.out, HPR.out⟩, r1, r2⟩, ((((hB0.trans (HW9.out.mono (by omega))).alloc (by omega) _).setCell (by simp) _).setCell (by simp) _).setCell (by simp) _⟩
   | false =>
    have HBA := Aside0.mk (show Blk (W9.alloc (.cells #[.int .i64 L, .int .i64 (wrap64 (L + 1))] 43)) w.heap.size 43 #[.int .i64 0, .int .i64 0] from HBX9.out.alloc _)
    have HBB := Aside0.mk (show Blk (W9.alloc (.cells #[.int .i64 L, .int .i64 (wrap64 (L + 1))] 43)) (w.heap.size + 1) 28 #[.int .i64 0] from HBZ9.out.alloc _)
    have HBD := Aside0.mk (show Below W.heap.size W (W9.alloc (.cells #[.int .i64 L, .int .i64 (wrap64 (L + 1))] 43)) from HH9.out.alloc HH9.out.size _)
    have x0' : ((W9.alloc (.cells #[.int .i64 L, .int .i64 (wrap64 (L + 1))] 43))).cell? ⟨w.heap.size, 0, none⟩ = some (.int .i64 0) := HBA.out.cell 0
    have x1' : ((W9.alloc (.cells #[.int .i64 L, .int .i64 (wrap64 (L + 1))] 43))).cell? ⟨w.heap.size, 1, none⟩ = some (.int .i64 0) := HBA.out.cell 1
    have z0' : ((W9.alloc (.cells #[.int .i64 L, .int .i64 (wrap64 (L + 1))] 43))).cell? ⟨w.heap.size + 1, 0, none⟩ = some (.int .i64 0) := HBB.out.cell 0
    have fx0 := HBA.out.frozen 0
    have fx1 := HBA.out.frozen 1
    have fz0 := HBB.out.frozen 0
    gi_wp2_with fail
    have r1 : Blk ((((W9.alloc (.cells #[.int .i64 L, .int .i64 (wrap64 (L + 1))] 43)).setCell ⟨w.heap.size, 0, none⟩ (.int .i64 L)).setCell ⟨w.heap.size, 1, none⟩ (.int .i64 (wrap64 (L + 1)))).setCell ⟨w.heap.size + 1, 0, none⟩ (.int .i64 0)) w.heap.size 43 #[.int .i64 L, .int .i64 (wrap64 (L + 1))] := by have h := ((HBA.out.set_ 0 (.int .i64 L)).set_ 1 (.int .i64 (wrap64 (L + 1)))).far (p := ⟨w.heap.size + 1, 0, none⟩) (by simp) (.int .i64 0); simpa using h
    have r2 : Blk ((((W9.alloc (.cells #[.int .i64 L, .int .i64 (wrap64 (L + 1))] 43)).setCell ⟨w.heap.size, 0, none⟩ (.int .i64 L)).setCell ⟨w.heap.size, 1, none⟩ (.int .i64 (wrap64 (L + 1)))).setCell ⟨w.heap.size + 1, 0, none⟩ (.int .i64 0)) (w.heap.size + 1) 28 #[.int .i64 0] := by have h := ((HBB.out.far (p := ⟨w.heap.size, 0, none⟩) (by simp) (.int .i64 L)).far (p := ⟨w.heap.size, 1, none⟩) (by simp) (.int .i64 (wrap64 (L + 1)))).set_ 0 (.int .i64 0); simpa using h
    subst hL
    exact ⟨(((keepsFrom_below _ HBD.out).trans ((KeepsOthers.setCell _ _ _).from _)).trans ((KeepsOthers.setCell _ _ _).from _)).trans ((KeepsOthers.setCell _ _ _).from _), ⟨rfl, pre, ⟨(⟨x0, y0⟩, ⟨x1, y1⟩), hml⟩, q, false, ⟨rfl, HP.out, HE.out, HPR.out⟩, r1, r2⟩, ((((hB0.trans (HW9.out.mono (by omega))).alloc (by omega) _).setCell (by simp) _).setCell (by simp) _).setCell (by simp) _⟩
 case done =>
  rintro D' ys W hD hys ⟨hp, hB1⟩ hK
  exfalso
  have h := HM.out
  rw [← hys, List.find?_map] at h
  have hn : List.find? ((endB N D) ∘ fun x : LineIn l1 => x.1) ys = none := List.find?_eq_none.2 (fun q hq => by simp [hp q hq])
  rw [hn] at h
  cases h
 case stop =>
  rintro D' j pre W hD ⟨k, hk⟩ ⟨⟨rfl, ini, last, q', wh', ⟨rfl, hini, hlast, hpr⟩, b1, b2⟩, hB1⟩ hK
  have hf : (linesOf l1).find? (endB N D) = some last.1 := by
   rw [List.map_append] at hk
   exact find_of_take hk.symm (fun l hl => by obtain ⟨z, hz, rfl⟩ := List.mem_map.1 hl; exact hini z hz) hlast
  have e1 : last.1 = m := Option.some.inj (hf.symm.trans HM.out)
  rw [e1] at hpr b1
  have e2 := hpr.symm.trans HQ.out
  simp only [Option.some.injEq, Prod.mk.injEq] at e2
  obtain ⟨rfl, rfl⟩ := e2
  have HK2 := Aside0.mk hK
  have B1 := Aside0.mk b1
  have B2 := Aside0.mk b2
  have HB2 := Aside0.mk hB1
  obtain ⟨r1, hr1⟩ : ∃ r, wrap64 (m.1.f1 + q') = r := ⟨_, rfl⟩
  obtain ⟨r2, hr2⟩ : ∃ r, hiI wh' r1 = r := ⟨_, rfl⟩
  rw [hr1, hr2] at b1
  have B3 := Aside0.mk b1
  have HRA := Aside0.mk hr1
  have HRB := Aside0.mk hr2
  clear hK b1 b2 hB1 hr1 hr2 B1
  gi_wp2
  refine ⟨by simp, .inl ⟨_, _, rfl, run_takeDeferred HK2.out, ?_⟩⟩
  have hw0 := bX.lt
  have hw1 := bZ.lt
  have b5 := B3.out.grown (grownBy_putObj' _ D' (.deferred none)) (by simp; omega)
  have b6 := B2.out.grown (grownBy_putObj' _ D' (.deferred none)) (by simp; omega)
  have g0 := b5.cell 0
  have g1 := b5.cell 1
  have g2 := b6.cell 0
  refine ⟨.tuple #[.agg #[.int .i64 r1, .int .i64 r2], .int .i64 0], ?_, by rw [← HRB.out, ← HRA.out], HB2.out.trans (belowK_b (w := w) (Nat.le_refl _) _ D' _ _ (by omega) HK2.out rfl rfl)⟩
  clear HK2 B2 B3 HB2 b5 b6 HRA HRB
  simp [results, Tryd.f40, go_sem, g0, g1, g2]
theorem thru_find {c : List S57} (h : Good c) {N D : Int} (hD : 0 < D) (h0 : (rd_T57 c 0).f0 * D ≤ N) {m : S57 × S57} (hf : (linesOf c).find? (endB N D) = some m) : m ∈ linesOf c ∧ 0 ≤ N - m.1.f0 * D ∧ N - m.1.f0 * D ≤ D * wideI m := by
 obtain ⟨hp, us, bs, hl, has⟩ := List.find?_eq_some_iff_append.1 hf
 have hm := List.mem_of_find?_eq_some hf
 refine ⟨hm, ?_, ?_⟩
 ·
  have hi : (linesOf c)[us.length]? = some m := by rw [hl]; simp
  have hlt : us.length + 1 < c.length := by
   have h1 := (List.getElem?_eq_some_iff.1 hi).1
   rw [linesOf_len] at h1; omega
  have e := (linesOf_at hlt).symm.trans hi
  simp only [Option.some.injEq] at e
  rcases Nat.eq_zero_or_pos us.length with hz | hz
  ·
   rw [← e, hz]
   have e0 : (rd_T57 c 0) = c.getD 0 z57 := rfl
   rw [e0] at h0
   show 0 ≤ N - (c.getD 0 z57).f0 * D
   omega
  ·
   have hpr := linesOf_at (c := c) (i := us.length - 1) (by omega)
   rw [hl, List.getElem?_append_left (by omega), List.getElem?_eq_getElem (by omega)] at hpr
   simp only [Option.some.injEq] at hpr
   have hb := has _ (List.getElem_mem (l := us) (n := us.length - 1) (by omega))
   rw [hpr] at hb
   simp only [endB, Bool.not_eq_true', decide_eq_false_iff_not, show us.length - 1 + 1 = us.length by omega] at hb
   rw [← e]
   show 0 ≤ N - (c.getD us.length z57).f0 * D
   omega
 ·
  have hb : N ≤ m.2.f0 * D := by simpa [endB] using hp
  have e : D * wideI m = m.2.f0 * D - m.1.f0 * D := by unfold wideI; grind
  omega
theorem thru_none {c : List S57} (h : Good c) {N D : Int} (h1 : N ≤ (rd_T57 c ((c.length : Int) - 1)).f0 * D) : (linesOf c).find? (endB N D) ≠ none := by
 intro hn
 have h2 := h.len2
 have hm := mem_linesOf.2 ⟨c.length - 2, (show c.length - 2 + 1 < c.length by omega), rfl⟩
 have := List.find?_eq_none.1 hn _ hm
 unfold rd_T57 at h1
 rw [show ((c.length : Int) - 1).toNat = c.length - 2 + 1 by omega] at h1
 simp [endB] at this
 rw [List.getD_eq_getElem?_getD] at h1
 omega
theorem curve_Through.calls (A0 : Option Addr) (c0 : Nat) (l0 : List S57) (A1 : Option Addr) (c1 : Nat) (l1 : List S57) (a2 : Int) (r1 : Int) (r2 : Int) (r3 : Int) (w : World) (hr0 : Kd.C k57 w A0 l0.length l0) (hc0 : l0.length ≤ c0) (hr1 : Kd.C k57 w A1 l1.length l1) (hc1 : l1.length ≤ c1) (h : curve_Through.f l0 l1 a2 = some (r1, r2, r3)) :
  Calls Tryd.prog 40 #[.slice A0 l0.length c0, .slice A1 l1.length c1, .int .i64 a2] w fun e w' => e = .returned (.tuple #[.agg #[.int .i64 r1, .int .i64 r2], .int .i64 r3]) ∧ Below w.heap.size w w' := by
 unfold curve_Through.f at h
 by_cases hg : goodB l0 = true ∧ goodB l1 = true
 ·
  rw [if_pos hg] at h
  have HG1 := good_of hg.2
  have HG := good_of hg.1
  have hl2 := HG1.len2
  have e0 : (l1.headD z57) = rd_T57 l1 0 := by rw [headD_eq (by omega)]; rfl
  have eL : (l1.getLastD z57) = rd_T57 l1 ((l1.length : Int) - 1) := by rw [lastD_eq (by omega)]; unfold rd_T57; rw [show ((l1.length : Int) - 1).toNat = l1.length - 1 by omega]
  cases hx : inB l0 a2
  ·
   rw [hx, if_neg (by simp)] at h
   simp only [Option.some.injEq, Prod.mk.injEq] at h
   obtain ⟨rfl, rfl, rfl⟩ := h
   exact through_out A0 c0 l0 A1 c1 l1 a2 w hr0 hc0 hr1 hc1 hg.1 hg.2 hx
  ·
   rw [hx, if_pos rfl] at h
   obtain ⟨l, hl, hml, hx0, hx1⟩ := lineAt_of HG ((inB_iff HG).1 hx).1 ((inB_iff HG).1 hx).2
   obtain ⟨⟨N, D⟩, hND⟩ : ∃ q, exactI l a2 = q := ⟨_, rfl⟩
   obtain ⟨hN0, hN1, hD0, hD1⟩ := exactI_bounds (good_line HG hml) hx0 hx1 hND
   rw [hl] at h
   simp only [hND, e0, eL] at h
   by_cases hA : N < (rd_T57 l1 0).f0 * D
   ·
    rw [if_pos (Or.inl hA)] at h
    simp only [Option.some.injEq, Prod.mk.injEq] at h
    obtain ⟨rfl, rfl, rfl⟩ := h
    exact through_edgeA A0 c0 l0 A1 c1 l1 a2 w hr0 hc0 hr1 hc1 hg.1 hg.2 hx l hl N D hND hA
   ·
    by_cases hB : (rd_T57 l1 ((l1.length : Int) - 1)).f0 * D < N
    ·
     rw [if_pos (Or.inr hB)] at h
     simp only [Option.some.injEq, Prod.mk.injEq] at h
     obtain ⟨rfl, rfl, rfl⟩ := h
     exact through_edgeB A0 c0 l0 A1 c1 l1 a2 w hr0 hc0 hr1 hc1 hg.1 hg.2 hx l hl N D hND ⟨by omega, hB⟩
    ·
     rw [if_neg (by omega)] at h
     have ef : (linesOf l1).find? (fun m => decide (N ≤ m.2.f0 * D)) = (linesOf l1).find? (endB N D) := rfl
     rw [ef] at h
     cases hf : (linesOf l1).find? (endB N D) with
     | none => exact absurd hf (thru_none HG1 (by omega))
     | some m =>
      rw [hf] at h
      obtain ⟨hm, t0, t1⟩ := thru_find HG1 hD0 (by omega) hf
      have hok := good_line HG1 hm
      have hwi := hok.wide
      have hhi := hok.high
      have m2 := mulb (a := D) (b := wideI m) (A := 16777216) (B := 16777216) (by omega) hD1 (by omega) hwi.2
      have m3 : 0 < D * wideI m := Int.mul_pos hD0 hwi.1
      have hq := product_eq t0 t1 (by omega) hhi.2 m3 (by omega)
      have key := through_in A0 c0 l0 A1 c1 l1 a2 w hr0 hc0 hr1 hc1 hg.1 hg.2 hx l hl N D hND ⟨by omega, by omega⟩ m hf _ _ hq
      simp only [Option.some.injEq, Prod.mk.injEq, behindI] at h
      obtain ⟨rfl, rfl, rfl⟩ := h
      have hq0 : 0 ≤ (N - m.1.f0 * D) * highI m / (D * wideI m) := Int.ediv_nonneg (Int.mul_nonneg t0 (by omega)) (by omega)
      have hq1 : (N - m.1.f0 * D) * highI m / (D * wideI m) ≤ highI m := by
       refine Int.ediv_le_of_le_mul m3 ?_
       rw [Int.mul_comm (highI m)]
       exact Int.mul_le_mul_of_nonneg_right t1 (by omega)
      have hy0 := hok.y0
      have hy1 := hok.y1
      have hyh : m.1.f1 + highI m = m.2.f1 := by unfold highI; omega
      obtain ⟨L, hL⟩ : ∃ L, m.1.f1 + (N - m.1.f0 * D) * highI m / (D * wideI m) = L := ⟨_, rfl⟩
      rw [hL] at key ⊢
      have w1 : wrap64 L = L := w64 (by omega) (by omega)
      have w2 : wrap64 (L + 1) = L + 1 := w64 (by omega) (by omega)
      rw [w1] at key
      have e3 : hiI ((N - m.1.f0 * D) * highI m % (D * wideI m) == 0) L = if decide ((N - m.1.f0 * D) * highI m % (D * wideI m) = 0) = true then L else L + 1 := by
       unfold hiI; rw [w2]
       by_cases hz : (N - m.1.f0 * D) * highI m % (D * wideI m) = 0
       ·
        rw [if_pos (by simpa using hz), if_pos (by simpa using hz)]
       ·
        rw [if_neg (by simpa using hz), if_neg (by simpa using hz)]
      rw [e3] at key
      exact key
 ·
  rw [if_neg hg] at h
  simp only [Option.some.injEq, Prod.mk.injEq] at h
  obtain ⟨rfl, rfl, rfl⟩ := h
  exact through_bad A0 c0 l0 A1 c1 l1 a2 w hr0 hc0 hr1 hc1 hg
end Go.Proofs.YtlhhpogaaneamaaDoor.X
namespace Go.Proofs.YtlhhpogaaneamaaDoor.X
open Go.RowKit
set_option linter.unusedVariables false
theorem Evn.fix {α : Type} {g : Nat → Option α} {r : α} (h : Evn g r) : ∃ k0, ∀ K, k0 ≤ K → ∀ j, g (K + j) = some r := by
 obtain ⟨k0, h0⟩ := h
 exact ⟨k0, fun K hK j => h0 _ (by omega)⟩
def stepOk (c : List S57) (i : Nat) : Bool := okp (c.getD i z57) && (decide (i = 0) || (decide (px c (i - 1) < px c i) && decide (py c (i - 1) < py c i)))
theorem rd_nat (c : List S57) (i : Nat) : rd_T57 c (i : Int) = c.getD i z57 := by unfold rd_T57; rw [Int.toNat_natCast]
theorem valid_l0 (c : List S57) (h64 : c.length ≤ 64) : ∀ d i : Nat, i + d = c.length → Evn (fun k => ref_Valid.l0 k c i) ((List.range' i d).all (stepOk c)) := by
 intro d
 induction d with
 | zero =>
  intro i hi
  refine Evn.step (Evn.of fun k => ?_)
  simp only [ref_Valid.l0]
  rw [if_neg (by omega)]; rfl
 | succ d ih =>
  intro i hi
  have e1 : ∀ k, ref_Valid.l0 (k + 1) c i = ref_Valid.j2 k c i (!okp (c.getD i z57)) := by
   intro k
   simp only [ref_Valid.l0]
   rw [if_pos (by omega), if_pos (by omega), rd_nat]
   unfold okp okc
   obtain ⟨P, hP⟩ : ∃ P, c.getD i z57 = P := ⟨_, rfl⟩
   rw [hP]
   by_cases a1 : P.f0 < 0
   ·
    rw [if_pos a1]; have : ¬ 0 ≤ P.f0 := by omega
    simp [this]
   ·
    rw [if_neg a1]
    by_cases a2 : P.f0 > 16777216
    ·
     rw [if_pos a2]
     have : ¬ P.f0 ≤ 16777216 := by omega
     simp [this]
    ·
     rw [if_neg a2]
     by_cases a3 : P.f1 < 0
     ·
      rw [if_pos a3]; have : ¬ 0 ≤ P.f1 := by omega
      simp [this]
     ·
      rw [if_neg a3]
      congr 1
      have b1 : 0 ≤ P.f0 := by omega
      have b2 : P.f0 ≤ 16777216 := by omega
      have b3 : 0 ≤ P.f1 := by omega
      rw [decide_eq_true b1, decide_eq_true b2, decide_eq_true b3]
      simp only [Bool.true_and]
      by_cases b4 : P.f1 ≤ 16777216
      ·
       rw [decide_eq_true b4, decide_eq_false (by omega)]; rfl
      ·
       rw [decide_eq_false b4, decide_eq_true (by omega)]; rfl
  refine Evn.step (Evn.ext ?_ e1)
  rw [List.range'_succ, List.all_cons]
  cases ho : okp (c.getD i z57) with
  | false =>
   refine Evn.step (Evn.of fun k => ?_)
   have hst : stepOk c i = false := by unfold stepOk; rw [ho]; rfl
   simp only [ref_Valid.j2]
   rw [if_pos (by rfl), hst]; rfl
  | true =>
   have e2 : ∀ k, ref_Valid.j2 (k + 1) c i (!true) = ref_Valid.j3 k c i (!(decide (i = 0) || (decide (px c (i - 1) < px c i) && decide (py c (i - 1) < py c i)))) := by
    intro k
    simp only [ref_Valid.j2]
    rw [if_neg (by simp)]
    by_cases h0 : (i : Int) > 0
    ·
     rw [if_pos h0, if_pos (by omega), if_pos (by omega), w64 (n := (i : Int) - 1) (by omega) (by omega), if_pos (by omega), if_pos (by omega)]
     have ei : (i : Int) - 1 = ((i - 1 : Nat) : Int) := by omega
     rw [ei, rd_nat, rd_nat]
     have hn : ¬ i = 0 := by omega
     rw [decide_eq_false hn, Bool.false_or]
     show ite (px c i ≤ px c (i - 1)) (ref_Valid.j3 k c i true) (ref_Valid.j3 k c i (decide (py c i ≤ py c (i - 1)))) = _
     by_cases a1 : px c i ≤ px c (i - 1)
     ·
      rw [if_pos a1, decide_eq_false (show ¬ px c (i - 1) < px c i by omega)]; rfl
     ·
      rw [if_neg a1, decide_eq_true (show px c (i - 1) < px c i by omega), Bool.true_and]
      congr 1
      by_cases a2 : py c i ≤ py c (i - 1)
      ·
       rw [decide_eq_true a2, decide_eq_false (by omega)]; rfl
      ·
       rw [decide_eq_false a2, decide_eq_true (by omega)]; rfl
    ·
     rw [if_neg h0, decide_eq_true (show i = 0 by omega)]; rfl
   refine Evn.step (Evn.ext ?_ e2)
   cases hs : (decide (i = 0) || (decide (px c (i - 1) < px c i) && decide (py c (i - 1) < py c i))) with
   | false =>
    refine Evn.step (Evn.of fun k => ?_)
    simp only [ref_Valid.j3]
    simp only [stepOk, ho, hs]
    rfl
   | true =>
    have e3 : ∀ k, ref_Valid.j3 (k + 1) c i (!true) = ref_Valid.l0 k c ((i + 1 : Nat) : Int) := by
     intro k
     simp only [ref_Valid.j3]
     rw [if_neg (by simp), w64 (n := (i : Int) + 1) (by omega) (by omega)]
     rfl
    refine Evn.step (Evn.ext ?_ e3)
    have hst : stepOk c i = true := by simp only [stepOk, ho, hs]; rfl
    rw [hst, Bool.true_and]
    exact ih (i + 1) (by omega)
theorem steps_good (c : List S57) (h2 : 2 ≤ c.length) (h64 : c.length ≤ 64) : (List.range' 0 c.length).all (stepOk c) = true ↔ Good c := by
 rw [List.all_eq_true]
 constructor
 ·
  intro h
  have hs : ∀ i, i < c.length → stepOk c i = true := fun i hi => h i (by simp [List.mem_range'_1]; omega)
  have hb : ∀ i, i < c.length → okp (c.getD i z57) = true := fun i hi => by have := hs i hi; simp only [stepOk, Bool.and_eq_true] at this; exact this.1
  have hp : ∀ i, i + 1 < c.length → px c i < px c (i + 1) ∧ py c i < py c (i + 1) := fun i hi => by
   have := hs (i + 1) hi
   simpa [stepOk] using (by simpa [stepOk] using this : _ ∧ _).2
  refine ⟨h2, h64, fun i hi => ?_, fun i hi => ?_, fun i hi => (hp i hi).1, fun i hi => (hp i hi).2⟩
  ·
   have := hb i hi; simp only [okp, okc, Bool.and_eq_true, decide_eq_true_eq] at this; exact this.1
  ·
   have := hb i hi; simp only [okp, okc, Bool.and_eq_true, decide_eq_true_eq] at this; exact this.2
 ·
  intro h i hi
  have hi' : i < c.length := by simp [List.mem_range'_1] at hi; omega
  have a := h.bx i hi'; have b := h.by_ i hi'
  have ho : okp (c.getD i z57) = true := by
   simp only [okp, okc, Bool.and_eq_true, decide_eq_true_eq]; exact ⟨a, b⟩
  unfold stepOk
  rw [ho, Bool.true_and]
  cases i with
  | zero => rfl
  | succ i =>
   have := h.ix i hi'; have := h.iy i hi'
   simp [*]
theorem valid_ev (c : List S57) : Evn (fun k => ref_Valid.f k c) (goodB c) := by
 by_cases h2 : (c.length : Int) < 2
 ·
  have e : goodB c = false := by
   cases hg : goodB c with
   | false => rfl
   | true => have := (good_of hg).len2; omega
  rw [e]
  refine Evn.step (Evn.of fun k => ?_)
  unfold ref_Valid.f
  rw [if_pos h2]; simp only [ref_Valid.j0]; rfl
 ·
  by_cases h64 : (c.length : Int) > 64
  ·
   have e : goodB c = false := by
    cases hg : goodB c with
    | false => rfl
    | true => have := (good_of hg).len64; omega
   rw [e]
   refine Evn.step (Evn.of fun k => ?_)
   unfold ref_Valid.f
   rw [if_neg h2, decide_eq_true h64]; simp only [ref_Valid.j0]; rfl
  ·
   have key := valid_l0 c (by omega) c.length 0 (by omega)
   have e : (List.range' 0 c.length).all (stepOk c) = goodB c := by
    rw [Bool.eq_iff_iff, steps_good c (by omega) (by omega), good_iff]
   rw [e] at key
   refine Evn.step (Evn.ext key fun k => ?_)
   unfold ref_Valid.f
   rw [if_neg h2, decide_eq_false h64]; simp only [ref_Valid.j0]; rfl
section
variable {c : List S57} (h : Good c)
include h
theorem from_eq : ref_From.f c = some (px c 0) := by
 have := h.len2
 unfold ref_From.f; rw [if_pos (by omega)]; rfl
theorem to_eq : ref_To.f c = some (px c (c.length - 1)) := by
 have := h.len2; have := h.len64
 unfold ref_To.f
 rw [w64 (n := (c.length : Int) - 1) (by omega) (by omega), if_pos (by omega), if_pos (by omega), show (c.length : Int) - 1 = ((c.length - 1 : Nat) : Int) by omega, rd_nat]; rfl
theorem in_eq (x : Int) : ref_In.f c x = some (inB c x) := by
 have h2 := h.len2
 unfold ref_In.f inB
 rw [from_eq h, to_eq h, headD_eq (by omega), lastD_eq (by omega)]
 simp only [Option.bind_some]
 show ite (x ≥ px c 0) _ _ = some (decide (px c 0 ≤ x) && decide (x ≤ px c (c.length - 1)))
 by_cases hx : px c 0 ≤ x
 ·
  rw [if_pos hx, decide_eq_true hx]; rfl
 ·
  rw [if_neg hx, decide_eq_false hx]; rfl
theorem asked_in {x : Int} (hx : inB c x = true) : ∃ l, lineAt c x = some l ∧ l ∈ linesOf c ∧ l.1.f0 ≤ x ∧ x ≤ l.2.f0 ∧ curve_asked.f c x = some (l.1.f0, l.1.f1, l.2.f0, l.2.f1, 0) := by
 have hr := (inB_iff h).1 hx
 obtain ⟨l, hl, hm, ha, hb⟩ := lineAt_of h hr.1 hr.2
 refine ⟨l, hl, hm, ha, hb, ?_⟩
 unfold curve_asked.f
 rw [show curve_Check.f c = some 0 by simp [curve_Check.f, good_iff.2 h], Option.bind_some, if_pos rfl, within_eq h, hx, Option.bind_some, if_pos rfl]
 unfold curve_at.f
 rw [hl]; rfl
theorem exact_in {x : Int} (hx : inB c x = true) : Evn (fun k => curve_Exact.f k c x) ((valR c x).num, ((valR c x).den : Int), 0) := by
 obtain ⟨l, hl, hm, ha, hb, e⟩ := asked_in h hx
 have ok := good_line h hm
 have key := exact_ev ok ha hb
 rw [exactI_eq ok.wide.1, ← valR_line hl] at key
 refine Evn.ext (key.bind (f := fun _ r => some (r.1, r.2, 0)) (Evn.of fun _ => rfl)) fun k => ?_
 unfold curve_Exact.f
 rw [e, Option.bind_some, if_pos rfl]
theorem val_bounds {x : Int} (hx : inB c x = true) : 0 ≤ (valR c x).num ∧ (valR c x).num ≤ 281474976710656 ∧ 0 < ((valR c x).den : Int) ∧ ((valR c x).den : Int) ≤ 16777216 := by
 obtain ⟨l, hl, hm, ha, hb, e⟩ := asked_in h hx
 have ok := good_line h hm
 rw [valR_line hl]
 exact exactI_bounds ok ha hb (exactI_eq ok.wide.1)
end
theorem cmpI_rat (p q : Rat) : cmpI p.num p.den q.num q.den = if p < q then -1 else if q < p then 1 else 0 := by
 have h1 := div_lt_div_iff p.num p.den q.num q.den (den_pos p) (den_pos q)
 have h2 := div_lt_div_iff q.num q.den p.num p.den (den_pos q) (den_pos p)
 rw [rat_eta, rat_eta] at h1 h2
 unfold cmpI
 simp only [← h1, ← h2]
instance s57Dec : DecidableEq S57 := fun p q =>
 if h : p.f0 = q.f0 ∧ p.f1 = q.f1 then isTrue (by obtain ⟨a, b⟩ := p; obtain ⟨c, d⟩ := q; obtain ⟨h1, h2⟩ := h; simp only at h1 h2; rw [h1, h2])
 else isFalse (fun e => h (by rw [e]; exact ⟨rfl, rfl⟩))
theorem same_l0 (a b : List S57) (hl : a.length = b.length) (hm : a.length ≤ 1000000) : ∀ d i : Nat, i + d = a.length → ∃ r, Evn (fun k => ref_Same.l0 k a b i) r ∧ (r = true ↔ ∀ j, i ≤ j → j < a.length → a.getD j z57 = b.getD j z57) := by
 intro d
 induction d with
 | zero =>
  intro i hi
  refine ⟨true, Evn.step (Evn.of fun k => ?_), ⟨fun _ j h1 h2 => by omega, fun _ => rfl⟩⟩
  simp only [ref_Same.l0]
  rw [if_neg (by omega)]
 | succ d ih =>
  intro i hi
  have e : ∀ k, ref_Same.l0 (k + 1) a b i = if a.getD i z57 = b.getD i z57 then ref_Same.l0 k a b ((i + 1 : Nat) : Int) else some false := by
   intro k
   simp only [ref_Same.l0]
   rw [if_pos (by omega), if_pos (by omega), if_pos (by omega), rd_nat, rd_nat, w64 (n := (i : Int) + 1) (by omega) (by omega)]
   obtain ⟨p, hp⟩ : ∃ p, a.getD i z57 = p := ⟨_, rfl⟩
   obtain ⟨q, hq⟩ : ∃ q, b.getD i z57 = q := ⟨_, rfl⟩
   rw [hp, hq]
   obtain ⟨p0, p1⟩ := p
   obtain ⟨q0, q1⟩ := q
   by_cases e0 : p0 = q0
   ·
    by_cases e1 : p1 = q1
    ·
     subst e0; subst e1; simp
    ·
     rw [if_pos (by simp [e1]), if_neg (by simp [e1])]
   ·
    rw [if_pos (by simp [e0]), if_neg (by simp [e0])]
  by_cases he : a.getD i z57 = b.getD i z57
  ·
   obtain ⟨r, h1, h2⟩ := ih (i + 1) (by omega)
   refine ⟨r, Evn.step (Evn.ext h1 fun k => by rw [e, if_pos he]), h2.trans ⟨fun h j hj hl => ?_, fun h j hj hl => h j (by omega) hl⟩⟩
   by_cases hji : j = i
   ·
    subst hji; exact he
   ·
    exact h j (by omega) hl
  ·
   exact ⟨false, Evn.step (Evn.of fun k => by rw [e, if_neg he]), ⟨(fun h => by cases h), fun h => absurd (h i (Nat.le_refl _) (by omega)) he⟩⟩
theorem same_ev (a b : List S57) (hm : a.length ≤ 1000000) : ∃ r, Evn (fun k => ref_Same.f k a b) r ∧ (r = true ↔ a = b) := by
 by_cases hl : a.length = b.length
 ·
  obtain ⟨r, h1, h2⟩ := same_l0 a b hl hm a.length 0 (by omega)
  refine ⟨r, Evn.ext h1 fun k => ?_, h2.trans ⟨fun h => ?_, fun h => by subst h; exact fun _ _ _ => rfl⟩⟩
  ·
   unfold ref_Same.f; rw [if_pos (by omega)]; rfl
  ·
   refine List.ext_getElem hl fun i h3 h4 => ?_
   have := h i (by omega) h3
   rwa [getD_of h3, getD_of h4] at this
 ·
  refine ⟨false, Evn.of fun k => ?_, ⟨(fun h => by cases h), fun h => absurd (congrArg List.length h) hl⟩⟩
  unfold ref_Same.f; rw [if_neg (by omega)]
end Go.Proofs.YtlhhpogaaneamaaDoor.X
namespace Go.Proofs.YtlhhpogaaneamaaDoor.X
open Go.RowKit
set_option linter.unusedVariables false
def Seg (p q : S57) (x v : Rat) : Prop := (p.f0 : Rat) ≤ x ∧ x ≤ (q.f0 : Rat) ∧ (v - p.f1) * ((q.f0 : Rat) - p.f0) = (x - p.f0) * ((q.f1 : Rat) - p.f1)
def Inc (c : List S57) : Prop := incB c = true
theorem inc_cons {p q : S57} {t : List S57} : Inc (p :: q :: t) ↔ p.f0 < q.f0 ∧ p.f1 < q.f1 ∧ Inc (q :: t) := by
 unfold Inc; simp only [incB, Bool.and_eq_true, decide_eq_true_eq, and_assoc]
theorem inc_tail {p : S57} {t : List S57} (h : Inc (p :: t)) : Inc t := by
 cases t with
 | nil => rfl
 | cons q t => exact (inc_cons.1 h).2.2
theorem onAt_succ (p : S57) (c : List S57) (i : Nat) (x v : Rat) : OnAt (p :: c) (i + 1) x v ↔ OnAt c i x v := by
 unfold OnAt
 have e : ∀ j, px (p :: c) (j + 1) = px c j := fun j => rfl
 have f : ∀ j, py (p :: c) (j + 1) = py c j := fun j => rfl
 rw [e, e, f, f, List.length_cons]
 constructor
 ·
  rintro ⟨a, b⟩; exact ⟨by omega, b⟩
 ·
  rintro ⟨a, b⟩; exact ⟨by omega, b⟩
theorem on_cons {p q : S57} {t : List S57} {x v : Rat} : On (p :: q :: t) x v ↔ Seg p q x v ∨ On (q :: t) x v := by
 constructor
 ·
  rintro ⟨i, h⟩
  cases i with
  | zero => exact Or.inl ⟨h.2.1, h.2.2.1, h.2.2.2⟩
  | succ i => exact Or.inr ⟨i, (onAt_succ _ _ _ _ _).1 h⟩
 ·
  rintro (h | ⟨i, h⟩)
  ·
   exact ⟨0, by simp, h.1, h.2.1, h.2.2⟩
  ·
   exact ⟨i + 1, (onAt_succ _ _ _ _ _).2 h⟩
theorem on_one {p : S57} {x v : Rat} : ¬ On [p] x v := by
 rintro ⟨i, h, _⟩
 simp at h
theorem rising_of : ∀ {c : List S57}, 2 ≤ c.length → Inc c → Rising c := by
 intro c h2 h
 have hi := h
 unfold Inc at hi
 rw [rises_all, List.all_eq_true] at hi
 have hs : ∀ i, i + 1 < c.length → px c i < px c (i + 1) ∧ py c i < py c (i + 1) := fun i hl => by
  have := hi _ (mem_linesOf.2 ⟨i, hl, rfl⟩)
  simp only [Bool.and_eq_true, decide_eq_true_eq] at this
  exact this
 exact ⟨h2, fun i hl => (hs i hl).1, fun i hl => (hs i hl).2⟩
theorem good_inc {c : List S57} (h : Good c) : Inc c := by
 have := good_iff.2 h
 unfold goodB at this
 simp only [Bool.and_eq_true] at this
 exact this.2
theorem good_mk {c : List S57} (h2 : 2 ≤ c.length) (h64 : c.length ≤ 64) (hr : rightB c = true) (hi : Inc c) : Good c := by
 refine good_of ?_
 unfold goodB
 rw [decide_eq_true h2, decide_eq_true h64, hr, hi]; rfl
theorem good_right {c : List S57} (h : Good c) : rightB c = true := by
 have := good_iff.2 h
 unfold goodB at this
 simp only [Bool.and_eq_true] at this
 exact this.1.2
theorem on_ge : ∀ {t : List S57} {p : S57} {x v : Rat}, Inc (p :: t) → On (p :: t) x v → (p.f0 : Rat) ≤ x := by
 intro t
 induction t with
 | nil => intro p x v _ h; exact absurd h on_one
 | cons q t ih =>
  intro p x v hi h
  obtain ⟨h1, h2, h3⟩ := inc_cons.1 hi
  rcases on_cons.1 h with h | h
  ·
   exact h.1
  ·
   have := ih h3 h; have := cast_lt h1; grind
def sl (p q : S57) : Rat := ((q.f1 : Rat) - p.f1) / ((q.f0 : Rat) - p.f0)
theorem sl_y {p q : S57} (h : p.f0 < q.f0) : (q.f1 : Rat) = p.f1 + ((q.f0 : Rat) - p.f0) * sl p q := by
 unfold sl
 have := cast_lt h
 have : (q.f0 : Rat) - p.f0 ≠ 0 := by grind
 grind
theorem sl_of {p q : S57} {k : Rat} (h : p.f0 < q.f0) (e : (q.f1 : Rat) = p.f1 + ((q.f0 : Rat) - p.f0) * k) : sl p q = k := by
 unfold sl
 have := cast_lt h
 have : (q.f0 : Rat) - p.f0 ≠ 0 := by grind
 grind
theorem seg_iff {p q : S57} {x v : Rat} (h : p.f0 < q.f0) : Seg p q x v ↔ (p.f0 : Rat) ≤ x ∧ x ≤ (q.f0 : Rat) ∧ v = p.f1 + (x - p.f0) * sl p q := by
 have h0 := cast_lt h
 have hn : (q.f0 : Rat) - p.f0 ≠ 0 := by grind
 have hy := sl_y h
 generalize sl p q = k at *
 unfold Seg
 constructor
 ·
  rintro ⟨a, b, c⟩
  refine ⟨a, b, ?_⟩
  have : (v - p.f1 - (x - p.f0) * k) * ((q.f0 : Rat) - p.f0) = 0 := by grind
  rcases Rat.mul_eq_zero.1 this with e | e
  ·
   grind
  ·
   exact absurd e hn
 ·
  rintro ⟨a, b, c⟩
  exact ⟨a, b, by grind⟩
theorem sl_join {p q r : S57} (h1 : p.f0 < q.f0) (h2 : q.f0 < r.f0) (h : sl p q = sl q r) : sl p r = sl p q := by
 have a := sl_y h1
 have b := sl_y h2
 refine sl_of (by omega) ?_
 rw [← h] at b
 grind
theorem seg_join {p q r : S57} {x v : Rat} (h1 : p.f0 < q.f0) (h2 : q.f0 < r.f0) (h : sl p q = sl q r) : Seg p r x v ↔ Seg p q x v ∨ Seg q r x v := by
 have e := sl_join h1 h2 h
 have a := sl_y h1
 have g1 := cast_lt h1
 have g2 := cast_lt h2
 rw [seg_iff (by omega), seg_iff h1, seg_iff h2, e, ← h]
 generalize sl p q = k at *
 constructor
 ·
  rintro ⟨x1, x2, x3⟩
  by_cases c : x ≤ (q.f0 : Rat)
  ·
   exact Or.inl ⟨x1, c, x3⟩
  ·
   exact Or.inr ⟨by grind, x2, by grind⟩
 ·
  rintro (⟨x1, x2, x3⟩ | ⟨x1, x2, x3⟩)
  ·
   exact ⟨x1, by grind, x3⟩
  ·
   exact ⟨by grind, x2, by grind⟩
theorem straight_iff {p q r : S57} (h1 : p.f0 < q.f0) (h2 : q.f0 < r.f0) : straightB p q r = true ↔ sl p q = sl q r := by
 have g1 := cast_lt h1
 have g2 := cast_lt h2
 have a := sl_y h1
 have b := sl_y h2
 unfold straightB
 rw [decide_eq_true_eq]
 have e : (q.f1 - p.f1) * (r.f0 - q.f0) = (r.f1 - q.f1) * (q.f0 - p.f0) ↔ ((q.f1 : Rat) - p.f1) * ((r.f0 : Rat) - q.f0) = ((r.f1 : Rat) - q.f1) * ((q.f0 : Rat) - p.f0) := by
  rw [← Rat.intCast_sub, ← Rat.intCast_sub, ← Rat.intCast_sub, ← Rat.intCast_sub, ← Rat.intCast_mul, ← Rat.intCast_mul, Rat.intCast_inj]
 rw [e]
 generalize sl p q = k at *
 generalize sl q r = m at *
 constructor
 ·
  intro h
  have : (k - m) * (((q.f0 : Rat) - p.f0) * ((r.f0 : Rat) - q.f0)) = 0 := by grind
  rcases Rat.mul_eq_zero.1 this with e | e
  ·
   grind
  ·
   rcases Rat.mul_eq_zero.1 e with e | e
   ·
    exfalso; grind
   ·
    exfalso; grind
 ·
  intro h; subst h; grind
def NoStr : List S57 → Prop
 | p :: q :: r :: t => sl p q ≠ sl q r ∧ NoStr (q :: r :: t)
 | _ => True
theorem nrm_spec : ∀ (t : List S57) (o p : S57), Inc (p :: t) → o.f0 ≤ p.f0 → o.f1 ≤ p.f1 → (∀ q t', t = q :: t' → sl o q = sl p q) →
  (∀ x v, On (o :: nrm p t) x v ↔ On (o :: t) x v) ∧ Inc (o :: nrm p t) ∧ NoStr (o :: nrm p t) ∧ (∀ q t', t = q :: t' → ∃ q' t'', nrm p t = q' :: t'' ∧ sl o q' = sl o q) ∧ (nrm p t).length ≤ t.length ∧ (∀ z, z ∈ nrm p t → z ∈ t) := by
 intro t
 induction t with
 | nil => intro o p _ _ _ _; exact ⟨fun _ _ => Iff.rfl, rfl, trivial, (fun q t' e => by cases e), Nat.le_refl _, fun z h => h⟩
 | cons q t ih =>
  intro o p hi h0 h1 hs
  obtain ⟨i1, i2, i3⟩ := inc_cons.1 hi
  cases t with
  | nil =>
   refine ⟨fun _ _ => Iff.rfl, inc_cons.2 ⟨by omega, by omega, rfl⟩, trivial, fun a b e => ?_, Nat.le_refl _, fun z h => h⟩
   cases e
   exact ⟨_, _, rfl, rfl⟩
  | cons r t =>
   obtain ⟨j1, j2, j3⟩ := inc_cons.1 i3
   have hso := hs q _ rfl
   have hoq : o.f0 < q.f0 := by omega
   by_cases hst : straightB p q r = true
   ·
    have en : nrm p (q :: r :: t) = nrm q (r :: t) := by simp only [nrm]; rw [if_pos hst]
    rw [straight_iff i1 j1] at hst
    have e1 : sl o q = sl q r := by rw [hso, hst]
    have e2 := sl_join hoq j1 e1
    obtain ⟨a, b, c, d, f, g⟩ := ih o q i3 (by omega) (by omega) (fun q' t' e => by cases e; rw [e2, e1])
    rw [en]
    refine ⟨fun x v => ?_, b, c, fun q' t' e => ?_, by simp only [List.length_cons] at f ⊢; omega, fun z hz => List.mem_cons_of_mem _ (g z hz)⟩
    ·
     rw [a, on_cons, on_cons, on_cons, seg_join hoq j1 e1, or_assoc]
    ·
     cases e
     obtain ⟨q', t'', k1, k2⟩ := d r _ rfl
     exact ⟨q', t'', k1, by rw [k2, e2]⟩
   ·
    have en : nrm p (q :: r :: t) = q :: nrm q (r :: t) := by simp only [nrm]; rw [if_neg hst]
    rw [straight_iff i1 j1] at hst
    obtain ⟨a, b, c, d, f, g⟩ := ih q q i3 (Int.le_refl _) (Int.le_refl _) (fun q' t' e => rfl)
    rw [en]
    obtain ⟨q', t'', k1, k2⟩ := d r _ rfl
    refine ⟨fun x v => ?_, inc_cons.2 ⟨hoq, by omega, b⟩, ?_, fun q' t' e => ?_, by simp only [List.length_cons] at f ⊢; omega, fun z hz => ?_⟩
    ·
     rw [on_cons, a, on_cons (q := q)]
    ·
     rw [k1] at c ⊢
     exact ⟨by rw [hso, k2]; exact hst, c⟩
    ·
     cases e
     exact ⟨_, _, rfl, rfl⟩
    ·
     rcases List.mem_cons.1 hz with e | e
     ·
      rw [e]; exact List.mem_cons_self
     ·
      exact List.mem_cons_of_mem _ (g z e)
theorem norm_good {c : List S57} (h : Good c) : Good (normC c) ∧ NoStr (normC c) ∧ ∀ x v, On (normC c) x v ↔ On c x v := by
 have h2 := h.len2
 have hi := good_inc h
 have hr := good_right h
 have h64 := h.len64
 match c, h2, hi, hr, h64 with
 | p :: q :: t, h2, hi, hr, h64 =>
  obtain ⟨a, b, c, d, f, g⟩ := nrm_spec (q :: t) p p hi (Int.le_refl _) (Int.le_refl _) (fun _ _ _ => rfl)
  obtain ⟨q', t'', k1, k2⟩ := d q _ rfl
  have e : normC (p :: q :: t) = p :: nrm p (q :: t) := rfl
  rw [e]
  refine ⟨good_mk (by rw [k1]; simp) (by simp only [List.length_cons] at f h64 ⊢; omega) ?_ b, c, a⟩
  unfold rightB at hr ⊢
  rw [List.all_eq_true] at hr ⊢
  intro z hz
  rcases List.mem_cons.1 hz with e | e
  ·
   rw [e]; exact hr _ List.mem_cons_self
  ·
   exact hr _ (List.mem_cons_of_mem _ (g z e))
theorem seg_left {p q : S57} (h : p.f0 < q.f0) : Seg p q p.f0 p.f1 := by
 have := cast_lt h
 exact ⟨Rat.le_refl, by grind, by grind⟩
theorem seg_right {p q : S57} (h : p.f0 < q.f0) : Seg p q q.f0 q.f1 := by
 have := cast_lt h
 exact ⟨by grind, Rat.le_refl, by grind⟩
theorem norm_step {p q q' : S57} {ta tb : List S57} (ia : Inc (p :: q :: ta)) (ib : Inc (p :: q' :: tb)) (na : NoStr (p :: q :: ta)) (hg : ∀ x v, On (p :: q :: ta) x v ↔ On (p :: q' :: tb) x v) : ¬ q.f0 < q'.f0 := by
 intro hlt
 obtain ⟨a1, a2, a3⟩ := inc_cons.1 ia
 obtain ⟨b1, b2, b3⟩ := inc_cons.1 ib
 have ra := rising_of (by simp) ia
 have ga1 := cast_lt a1
 have gb1 := cast_lt b1
 have glt := cast_lt hlt
 have ob : ∀ z : Rat, (p.f0 : Rat) ≤ z → z ≤ (q'.f0 : Rat) → On (p :: q :: ta) z (p.f1 + (z - p.f0) * sl p q') := fun z z1 z2 => (hg _ _).2 (on_cons.2 (Or.inl ((seg_iff b1).2 ⟨z1, z2, rfl⟩)))
 have oq : On (p :: q :: ta) q.f0 q.f1 := on_cons.2 (Or.inl (seg_right a1))
 have e1 := On.unique ra oq (ob q.f0 (by grind) (by grind))
 have e2 : sl p q = sl p q' := sl_of a1 e1
 cases ta with
 | nil =>
  have o := ob q'.f0 (by grind) Rat.le_refl
  rcases on_cons.1 o with o | o
  ·
   have := o.2.1; grind
  ·
   exact on_one o
 | cons r ta =>
  obtain ⟨c1, c2, c3⟩ := inc_cons.1 a3
  have gc1 := cast_lt c1
  have hn := na.1
  apply hn
  obtain ⟨z, hz⟩ : ∃ z : Int, z = min r.f0 q'.f0 := ⟨_, rfl⟩
  have z1 : q.f0 < z ∧ z ≤ r.f0 ∧ z ≤ q'.f0 := by omega
  have g1 := cast_lt z1.1
  have g2 := cast_le z1.2.1
  have g3 := cast_le z1.2.2
  have o1 : On (p :: q :: r :: ta) z (q.f1 + ((z : Rat) - q.f0) * sl q r) := on_cons.2 (Or.inr (on_cons.2 (Or.inl ((seg_iff c1).2 ⟨by grind, g2, rfl⟩))))
  have e3 := On.unique ra o1 (ob z (by grind) g3)
  rw [← e2] at e3 e1
  generalize sl q r = m at *
  generalize sl p q = k at *
  have : (k - m) * ((z : Rat) - q.f0) = 0 := by grind
  rcases Rat.mul_eq_zero.1 this with e | e
  ·
   grind
  ·
   exfalso; grind
theorem norm_unique : ∀ (ta tb : List S57) (p : S57), Inc (p :: ta) → Inc (p :: tb) → NoStr (p :: ta) → NoStr (p :: tb) → (∀ x v, On (p :: ta) x v ↔ On (p :: tb) x v) → ta = tb := by
 intro ta
 induction ta with
 | nil =>
  intro tb p ia ib na nb hg
  cases tb with
  | nil => rfl
  | cons q tb => exact absurd ((hg _ _).2 (on_cons.2 (Or.inl (seg_left (inc_cons.1 ib).1)))) on_one
 | cons q ta ih =>
  intro tb p ia ib na nb hg
  cases tb with
  | nil => exact absurd ((hg _ _).1 (on_cons.2 (Or.inl (seg_left (inc_cons.1 ia).1)))) on_one
  | cons q' tb =>
   have h1 := norm_step ia ib na hg
   have h2 := norm_step ib ia nb (fun x v => (hg x v).symm)
   have hx : q.f0 = q'.f0 := by omega
   obtain ⟨a1, a2, a3⟩ := inc_cons.1 ia
   obtain ⟨b1, b2, b3⟩ := inc_cons.1 ib
   have ra := rising_of (by simp) ia
   have o1 : On (p :: q :: ta) q.f0 q.f1 := on_cons.2 (Or.inl (seg_right a1))
   have o2 : On (p :: q :: ta) q'.f0 q'.f1 := (hg _ _).2 (on_cons.2 (Or.inl (seg_right b1)))
   rw [← hx] at o2
   have hy : q.f1 = q'.f1 := Rat.intCast_inj.1 (On.unique ra o1 o2)
   obtain rfl : q = q' := by obtain ⟨u, v⟩ := q; obtain ⟨u', v'⟩ := q'; simp only at hx hy; rw [hx, hy]
   have tl : ∀ {t t' : List S57}, Inc (p :: q :: t) → Inc (p :: q :: t') → (∀ x v, On (p :: q :: t) x v ↔ On (p :: q :: t') x v) → t ≠ [] → t' ≠ [] ∧ ∀ x v, On (q :: t) x v → On (q :: t') x v := by
    intro t t' it it' hg ht
    obtain ⟨r, t, rfl⟩ := List.exists_cons_of_ne_nil ht
    obtain ⟨_, _, c3⟩ := inc_cons.1 it
    obtain ⟨_, _, d3⟩ := inc_cons.1 it'
    obtain ⟨c1, _, _⟩ := inc_cons.1 c3
    have gc := cast_lt c1
    have hne : t' ≠ [] := by
     rintro rfl
     have := (hg r.f0 r.f1).1 (on_cons.2 (Or.inr (on_cons.2 (Or.inl (seg_right c1)))))
     rcases on_cons.1 this with o | o
     ·
      have := o.2.1; grind
     ·
      exact on_one o
    refine ⟨hne, fun x v o => ?_⟩
    have hge := on_ge c3 o
    rcases on_cons.1 ((hg x v).1 (on_cons.2 (Or.inr o))) with s | s
    ·
     obtain ⟨s1, s2, s3⟩ := (seg_iff a1).1 s
     have ex : x = q.f0 := by grind
     have ev : v = q.f1 := by rw [s3, ex]; exact (sl_y a1).symm
     obtain ⟨r', t', rfl⟩ := List.exists_cons_of_ne_nil hne
     rw [ex, ev]
     exact on_cons.2 (Or.inl (seg_left (inc_cons.1 d3).1))
    ·
     exact s
   congr 1
   by_cases e : ta = []
   ·
    subst e
    by_cases e' : tb = []
    ·
     rw [e']
    ·
     exact absurd rfl (tl ib ia (fun x v => (hg x v).symm) e').1
   ·
    have k1 := tl ia ib hg e
    have k2 := tl ib ia (fun x v => (hg x v).symm) k1.1
    exact ih tb q a3 b3 (by cases ta with | nil => trivial | cons r t => exact na.2) (by cases tb with | nil => trivial | cons r t => exact nb.2) (fun x v => ⟨k1.2 x v, k2.2 x v⟩)
theorem graph_ends {a b : List S57} (ha : Good a) (hb : Good b) (hg : ∀ x v, On a x v ↔ On b x v) : px a 0 = px b 0 ∧ py a 0 = py b 0 ∧ px a (a.length - 1) = px b (b.length - 1) := by
 have la := ha.len2
 have lb := hb.len2
 have a0 := on_point ha.rising (i := 0) (by omega)
 have b0 := on_point hb.rising (i := 0) (by omega)
 have a1 := on_point ha.rising (i := a.length - 1) (by omega)
 have b1 := on_point hb.rising (i := b.length - 1) (by omega)
 have r1 := ((hg _ _).1 a0).range hb.rising
 have r2 := ((hg _ _).2 b0).range ha.rising
 have r3 := ((hg _ _).1 a1).range hb.rising
 have r4 := ((hg _ _).2 b1).range ha.rising
 have e0 : px a 0 = px b 0 := by have := of_cast_le r1.1; have := of_cast_le r2.1; omega
 refine ⟨e0, ?_, by have := of_cast_le r3.2; have := of_cast_le r4.2; omega⟩
 have o := (hg _ _).1 a0
 rw [e0] at o
 exact Rat.intCast_inj.1 (On.unique hb.rising o b0)
theorem norm_eq {a b : List S57} (ha : Good a) (hb : Good b) (na : NoStr a) (nb : NoStr b) (hg : ∀ x v, On a x v ↔ On b x v) : a = b := by
 have e := graph_ends ha hb hg
 have la := ha.len2
 have lb := hb.len2
 have ia := good_inc ha
 have ib := good_inc hb
 match a, b, la, lb, ia, ib, na, nb, hg, e with
 | p :: ta, q :: tb, _, _, ia, ib, na, nb, hg, e =>
  have e1 : p.f0 = q.f0 := e.1
  have e2 : p.f1 = q.f1 := e.2.1
  obtain rfl : p = q := by obtain ⟨u, v⟩ := p; obtain ⟨u', v'⟩ := q; simp only at e1 e2; rw [e1, e2]
  rw [norm_unique ta tb p ia ib na nb hg]
end Go.Proofs.YtlhhpogaaneamaaDoor.X
