/- curveSame_holds: the declarations of this seat that its proof uses. Conditions: none. -/
import Derived.Test.YtlhhpogaaneamaaDoorTie
import Derived.Deep.Slices
import Derived.Deep.Fields
import Derived.ChangeSame
import Derived.LaidLaws
import Derived.LaidHandle
import Derived.ProofKit
import Derived.RangeFuncNested
import Derived.RangeFuncBound
import Derived.RangeFuncCalls
import Derived.RangeFuncLeaves
import Derived.Shelf.Abstract
import Derived.Shelf.RegionOpen
import Derived.OwnWalkIn
import Derived.TacticsInMore
import Derived.LoopNIn
import Derived.LoopIn
import Derived.Stop.RegionWithIn
import Derived.RangeFuncBox
import Derived.StillTailTactics
import Derived.Test.YtlhhpogaaneamaaDoorKSP1
namespace Go.Proofs.YtlhhpogaaneamaaDoor
open Go Go.ChangeShapes Go.WideShapes Go.Deep Go.RowKit Go.Proofs.YtlhhpogaaneamaaDoorW.PrintWords
set_option linter.unusedVariables false
theorem ownK : ownKnob Tryd.prog.godebug = none := by kernel_rfl
theorem laidOutK : laidOutB Tryd.prog = true := by kernel_rfl
def tab32 : Array Value := #[.int .u8 0, .int .u8 1, .int .u8 28, .int .u8 2, .int .u8 29, .int .u8 14, .int .u8 24, .int .u8 3, .int .u8 30, .int .u8 22, .int .u8 20, .int .u8 15, .int .u8 25, .int .u8 17, .int .u8 4, .int .u8 8, .int .u8 31, .int .u8 27, .int .u8 13, .int .u8 23, .int .u8 21, .int .u8 19, .int .u8 16, .int .u8 7, .int .u8 26, .int .u8 12, .int .u8 18, .int .u8 6, .int .u8 11, .int .u8 5, .int .u8 10, .int .u8 9]
def tab64 : Array Value := #[.int .u8 0, .int .u8 1, .int .u8 56, .int .u8 2, .int .u8 57, .int .u8 49, .int .u8 28, .int .u8 3, .int .u8 61, .int .u8 58, .int .u8 42, .int .u8 50, .int .u8 38, .int .u8 29, .int .u8 17, .int .u8 4, .int .u8 62, .int .u8 47, .int .u8 59, .int .u8 36, .int .u8 45, .int .u8 43, .int .u8 51, .int .u8 22, .int .u8 53, .int .u8 39, .int .u8 33, .int .u8 30, .int .u8 24, .int .u8 18, .int .u8 12, .int .u8 5, .int .u8 63, .int .u8 55, .int .u8 48, .int .u8 27, .int .u8 60, .int .u8 41, .int .u8 37, .int .u8 16, .int .u8 46, .int .u8 35, .int .u8 44, .int .u8 21, .int .u8 52, .int .u8 32, .int .u8 23, .int .u8 11, .int .u8 54, .int .u8 26, .int .u8 40, .int .u8 15, .int .u8 34, .int .u8 20, .int .u8 31, .int .u8 10, .int .u8 25, .int .u8 14, .int .u8 19, .int .u8 9, .int .u8 13, .int .u8 8, .int .u8 7, .int .u8 6]
def tabP : Array Value := #[.int .u64 1, .int .u64 10, .int .u64 100, .int .u64 1000, .int .u64 10000, .int .u64 100000, .int .u64 1000000, .int .u64 10000000, .int .u64 100000000, .int .u64 1000000000, .int .u64 10000000000, .int .u64 100000000000, .int .u64 1000000000000, .int .u64 10000000000000, .int .u64 100000000000000, .int .u64 1000000000000000, .int .u64 10000000000000000, .int .u64 100000000000000000, .int .u64 1000000000000000000, .int .u64 10000000000000000000]
noncomputable def laidWorld (os : Os) : World :=
 let w0 := World.holding Tryd.prog os ⟨#[], #[], []⟩
 { w0 with heap := ((w0.heap.modify 0 fun | .cells _ t frozen => .cells tabP t frozen | o => o).modify 2 fun | .cells _ t frozen => .cells tab32 t frozen | o => o).modify 3 fun | .cells _ t frozen => .cells tab64 t frozen | o => o }
abbrev laidL {H : Type} : List (String × DataW H) := [("math/bits.deBruijn32tab", Rows.laid_math_bits_deBruijn32tab), ("math/bits.deBruijn64tab", Rows.laid_math_bits_deBruijn64tab), ("internal/strconv.uint64pow10", Rows.laid_internal_strconv_uint64pow10)]
set_option maxRecDepth 100000 in
theorem laidWorld_met (os : Os) (args : Array Value) : laidMet Tryd.prog laidL ((laidWorld os).forCall (fun _ _ => 0) ⟨#[], args, []⟩).memory :=
 laidMet_of_run (ps := (List.range 32).map (MemPlace.cell 2) ++ (List.range 64).map (MemPlace.cell 3) ++ (List.range 20).map (MemPlace.cell 0)) 8 (by kernel_rfl) (by kernel_rfl) (by kernel_rfl)
section
variable {H : Type} {enc : TypeId × Value → H} {P : Program} {w : World} {base : Nat} {spare : Nat → Bool} {held : Bool}
theorem open_slice_fields {t e : TypeId} {fs : Array Field} {fuel : Nat} {cs : List Value} {x : DataW H × List MemPlace} (ht : P.underlying t = some (.slice e)) (he : P.underlying e = some (.struct fs))
  (hone : oneCellFields P fs = true) (hC : P.cellsOf e = fs.size) (h : DataW.trod enc P w base spare held fuel t cs = some x) :
  (cs = [.slice none 0 0] ∧ x = (.nil, [])) ∨
  ∃ (a : Addr) (len cap m : Nat) (D : Nat → DataW H) (Pl : Nat → List MemPlace), cs = [.slice (some a) len cap] ∧ base ≤ a.block ∧ len ≤ cap ∧ cap ≤ maxLen ∧ m = (if spare a.block then cap else len) ∧
   x = (.slice ((List.range len).map D) ((List.range (m - len)).map fun j => D (len + j)), MemPlace.row a (m * fs.size) ++ (List.range m).flatMap Pl) ∧
   ∀ i, i < m → ∃ (ys : List (DataW H × List MemPlace)) (n : Nat), D i = .agg (ys.map (·.1)) ∧ Pl i = ys.flatMap (·.2) ∧ ys.length = fs.size ∧
    ∀ (j : Nat) (f : Field), fs[j]? = some f → ∃ (v : Value) (y : DataW H × List MemPlace), w.cell? (a.add (i * fs.size + j)) = some v ∧ ys[j]? = some y ∧ DataW.trod enc P w base spare held n f.type [v] = some y := by
 rcases open_slice ht h with h0 | ⟨a, len, cap, m, n, D, Pl, hcs, hb, hl, hm, hmm, hx, hi⟩
 ·
  exact .inl h0
 ·
  refine .inr ⟨a, len, cap, m, D, Pl, hcs, hb, hl, hm, hmm, by rw [hC] at hx; exact hx, fun i him => ?_⟩
  obtain ⟨cs', hc, ht'⟩ := hi i him
  rw [hC] at hc
  obtain ⟨ys, n', hn', hy, hlen, hyl, hf⟩ := DataW.trod_struct he ht'
  obtain ⟨_, hcl, hat⟩ := World.cells?_some hc
  simp only [Prod.mk.injEq] at hy
  refine ⟨ys, n', hy.1, hy.2, hyl, fun j f hj => ?_⟩
  obtain ⟨ho, hk⟩ := hone_of hone j f hj
  have hjl : j < fs.size := (Array.getElem?_eq_some_iff.1 hj).1
  have hcell := hat j hjl
  have hv : cs'[j]? = some (cs'[j]'(by omega)) := List.getElem?_eq_getElem (by omega)
  have h1 := hf j f hj
  rw [ho, hk] at h1
  have hone' : (cs'.drop j).take 1 = [cs'[j]'(by omega)] := by
   rw [List.drop_eq_getElem_cons (by omega)]
   rfl
  rw [hone'] at h1
  have hys : ys[j]? = some (ys[j]'(by omega)) := List.getElem?_eq_getElem (by omega)
  refine ⟨_, _, ?_, hys, h1.trans hys⟩
  rw [← Go.Deep.add_add, hcell, hv]
end
section
variable {H : Type} {enc : TypeId × Value → H} {W : World}
theorem fields57 : ∃ f0 f1 : Field, Tryd.prog.underlying 57 = some (.struct #[f0, f1]) ∧ f0.type = 3 ∧ f1.type = 3 := ⟨_, _, Tryd.underlying57, rfl, rfl⟩
theorem one57 : ∀ fs, Tryd.prog.underlying 57 = some (.struct fs) → oneCellFields Tryd.prog fs = true ∧ Tryd.prog.cellsOf 57 = fs.size := by
 intro fs h
 rw [Tryd.underlying57] at h
 simp only [Option.some.injEq, TypeDesc.struct.injEq] at h
 subst h
 exact ⟨by kernel_rfl, by kernel_rfl⟩
def intCell (v : Option Value) : Int := match v with | some (.int _ n) => n | _ => 0
set_option maxRecDepth 100000 in
theorem open_curve {v : Value} {d : DataW H} {p : List MemPlace} (hv : Value.okWide Tryd.prog W .any 0 23 v) (h : DataW.Trod enc Tryd.prog W 0 (fun _ => true) true 23 v d p) :
  ∃ (A : Option Addr) (cap : Nat) (l0 : List X.S57), v = .slice A l0.length cap ∧ l0.length ≤ cap ∧ Kd.C X.k57 W A l0.length l0 := by
 obtain ⟨a, len, cap, rfl⟩ := okWide_slice Tryd.underlying23 hv
 obtain ⟨fuel, hf⟩ := h
 obtain ⟨f0, f1, hu, t0, t1⟩ := fields57
 obtain ⟨ho, hC⟩ := one57 _ hu
 rcases open_slice_fields Tryd.underlying23 hu ho hC hf with ⟨hcs, _⟩ | ⟨x, l, c, m, D, Pl, hcs, _, hl, hm, hmm, _, hi⟩
 ·
  simp [Value.cells] at hcs
  obtain ⟨rfl, rfl, rfl⟩ := hcs
  exact ⟨none, 0, [], rfl, Nat.le_refl _, rfl, by simp, fun h => by simp at h⟩
 ·
  simp [Value.cells] at hcs
  obtain ⟨rfl, rfl, rfl⟩ := hcs
  have hlm : len ≤ m := by rw [hmm]; split <;> omega
  refine ⟨some x, cap, (List.range len).map (fun i => ⟨intCell (W.cell? (x.add (i * 2))), intCell (W.cell? (x.add (i * 2 + 1)))⟩), by simp, by simpa using hl, ?_⟩
  refine ⟨rfl, by simp; unfold maxLen at hm; omega, fun _ => ⟨x, rfl, fun j q hj => ?_⟩⟩
  simp only [List.getElem?_map, Option.map_eq_some_iff] at hj
  obtain ⟨i, hi', rfl⟩ := hj
  have hji : i = j ∧ j < len := by
   obtain ⟨h1, h2⟩ := List.getElem?_eq_some_iff.1 hi'
   simp at h1 h2
   exact ⟨h2.symm, h1⟩
  obtain ⟨rfl, hjl⟩ := hji
  obtain ⟨ys, n, _, _, _, hfld⟩ := hi i (by omega)
  obtain ⟨v0, y0, c0, _, r0⟩ := hfld 0 f0 rfl
  obtain ⟨v1, y1, c1, _, r1⟩ := hfld 1 f1 rfl
  rw [t0] at r0
  rw [t1] at r1
  obtain ⟨n0, e0, _, _⟩ := DataW.trod_int Tryd.underlying3 r0
  obtain ⟨n1, e1, _, _⟩ := DataW.trod_int Tryd.underlying3 r1
  simp only [List.cons.injEq, and_true] at e0 e1
  subst e0; subst e1
  have c0' : W.cell? (x.add (i * 2)) = some (.int .i64 n0) := c0
  have c1' : W.cell? (x.add (i * 2 + 1)) = some (.int .i64 n1) := c1
  rw [c0', c1']
  refine ⟨[.int .i64 n0, .int .i64 n1], rfl, X.k57_mk W ⟨n0, n1⟩, fun k u hk => ?_⟩
  match k, hk with
  | 0, hk => simp at hk; subst hk; exact c0'
  | 1, hk => simp at hk; subst hk; exact c1'
end
end Go.Proofs.YtlhhpogaaneamaaDoor
namespace Go.Proofs.YtlhhpogaaneamaaDoor.X
open Go.RowKit Go.Proofs.YtlhhpogaaneamaaDoorW.PrintWords Go.Proofs.YtlhhpogaaneamaaDoorW.PrintLast Go.Proofs.YtlhhpogaaneamaaDoorW.PrintMore
set_option linter.unusedVariables false
theorem coord_eq (a : Int) : curve_coord.f a = some (okc a) := by
 unfold curve_coord.f okc
 by_cases h : 0 ≤ a <;> simp [h]
theorem coord_T (a : Int) (w : World) (h : okc a = true) : Calls Tryd.prog 91 #[.int .i64 a] w fun e w' => e = .returned (.bool true) ∧ Drawn0 w w' :=
 curve_coord.calls a true w (by rw [coord_eq, h])
theorem coord_F (a : Int) (w : World) (h : okc a = false) : Calls Tryd.prog 91 #[.int .i64 a] w fun e w' => e = .returned (.bool false) ∧ Drawn0 w w' :=
 curve_coord.calls a false w (by rw [coord_eq, h])
set_option maxHeartbeats 400000 in
theorem right1_calls (p : S57) (w : World) : Calls Tryd.prog 103 #[.agg #[.int .i64 p.f0, .int .i64 p.f1]] w fun e w' => e = .returned (.bool (!okp p)) ∧ Below w.heap.size w w' := by
 obtain ⟨x, y⟩ := p
 have hu57 := Tryd.underlying57
 have HB := Aside0.mk (Below.refl w.heap.size w)
 cases hx : okc x
 ·
  have e0 : (!okp ⟨x, y⟩) = true := by simp [okp, hx]
  rw [e0]
  have HX := Aside0.mk hx
  clear hx e0
  go_enter Tryd.func103, Tryd.ntmps103
  go_wp2_with fail
  refine (coord_F x _ HX.out).mono ?_
  rintro e w1 ⟨rfl, ⟨n, rfl⟩⟩
  go_wp2_with fail
  go_ret
  exact ⟨rfl, pw_below_drewN (below_alloc HB.out _) _⟩
 ·
  have HX := Aside0.mk hx
  cases hy : okc y
  ·
   have e0 : (!okp ⟨x, y⟩) = true := by simp [okp, hy]
   rw [e0]
   have HY := Aside0.mk hy
   clear hx hy e0
   go_enter Tryd.func103, Tryd.ntmps103
   go_wp2_with fail
   refine (coord_T x _ HX.out).mono ?_
   rintro e w1 ⟨rfl, ⟨n, rfl⟩⟩
   go_wp2_with fail
   refine (coord_F y _ HY.out).mono ?_
   rintro e w1 ⟨rfl, ⟨m, rfl⟩⟩
   go_wp2_with fail
   go_ret
   exact ⟨rfl, pw_below_drewN (below_alloc HB.out _) _⟩
  ·
   have e0 : (!okp ⟨x, y⟩) = false := by simp [okp, hx, hy]
   rw [e0]
   have HY := Aside0.mk hy
   clear hx hy e0
   go_enter Tryd.func103, Tryd.ntmps103
   go_wp2_with fail
   refine (coord_T x _ HX.out).mono ?_
   rintro e w1 ⟨rfl, ⟨n, rfl⟩⟩
   go_wp2_with fail
   refine (coord_T y _ HY.out).mono ?_
   rintro e w1 ⟨rfl, ⟨m, rfl⟩⟩
   go_wp2_with fail
   go_ret
   exact ⟨rfl, pw_below_drewN (below_alloc HB.out _) _⟩
theorem right_of_idx {l0 : List S57} (h : ∀ j : Nat, (j : Int) < l0.length → okp (l0.getD j z57) = true) : rightB l0 = true := by
 unfold rightB
 rw [List.all_eq_true]
 intro x hx
 obtain ⟨j, hj, rfl⟩ := List.getElem_of_mem hx
 have := h j (by omega)
 rwa [List.getD_eq_getElem?_getD, List.getElem?_eq_getElem hj] at this
theorem wrong_of_idx {l0 : List S57} {i : Int} (h0 : 0 ≤ i) (h1 : i < l0.length) (h : okp (rd_T57 l0 i) = false) : rightB l0 = false := by
 unfold rightB rd_T57 at *
 rw [List.all_eq_false]
 have hj : i.toNat < l0.length := by omega
 refine ⟨l0[i.toNat], List.getElem_mem hj, ?_⟩
 rw [List.getD_eq_getElem?_getD, List.getElem?_eq_getElem hj] at h
 simpa using h
set_option maxRecDepth 100000 in
set_option maxHeartbeats 400000 in
theorem indexFunc_calls (A : Option Addr) (c : Nat) (l0 : List S57) (w : World) (hr : Kd.C k57 w A l0.length l0) (hm : l0.length ≤ 9223372036854775807) :
  Calls Tryd.prog 111 #[.slice A l0.length c, .func (.func 103) #[] #[]] w fun e w' => ∃ i : Int, e = .returned (.int .i64 i) ∧ (rightB l0 = decide (i < 0)) ∧ Below w.heap.size w w' := by
 have hu57 := Tryd.underlying57
 have HR := Aside0.mk hr
 have HB := Aside0.mk (Below.refl w.heap.size w)
 clear hr
 go_enter Tryd.func111, Tryd.ntmps111
 go_wp2_with fail
 go_loopw [5, 8] (fun v5 v8 wr => ∃ i : Int, 0 ≤ i ∧ i ≤ l0.length ∧ v8 = .int .i64 i ∧ Aside0 (∀ j : Nat, (j : Int) < i → okp (l0.getD j z57) = true) ∧ Aside0 (Below w.heap.size w wr)) (fun _ v8 _ => l0.length - (intOf v8).toNat)
 case atStart => exact ⟨0, by omega, by omega, rfl, ⟨fun j hj => by omega⟩, HB⟩
 case round =>
  clear HB
  obtain ⟨i, h0, h1, rfl, HI, HB⟩ := hrel
  by_cases hlt : i < l0.length
  ·
   obtain ⟨ad, e258, hx0, hx1⟩ := at_T57 HR.out i h0 hlt
   cases e258
   replace hx0 := (HB.out.cell (World.block_lt_of_cell? w _ hx0)).trans hx0
   replace hx1 := (HB.out.cell (World.block_lt_of_cell? w _ hx1)).trans hx1
   go_wp2_with fail
   refine (right1_calls (rd_T57 l0 i) _).mono ?_
   rintro e w1 ⟨rfl, hb⟩
   have HB1 := Aside0.mk (below_then HB.out HB.out.size hb)
   clear hb HB hx0 hx1
   cases hk : okp (rd_T57 l0 i)
   ·
    have HK := Aside0.mk hk
    clear hk
    go_wp2_with fail
    go_ret
    exact ⟨i, rfl, by rw [wrong_of_idx h0 hlt HK.out]; exact (decide_eq_false (by omega)).symm, HB1.out⟩
   ·
    have HK := Aside0.mk hk
    clear hk
    go_wp2_with fail
    go_roundw
    case rel => exact ⟨i + 1, by omega, by omega, by go_num, ⟨fun j hj => by
     rcases Int.lt_or_eq_of_le (show (j : Int) ≤ i by omega) with h | h
     ·
      exact HI.out j h
     ·
      have := HK.out; unfold rd_T57 at this; rwa [show i.toNat = j by omega] at this⟩, HB1⟩
    case measure => simp [intOf]; omega
  ·
   go_wp2_with fail
   go_ret
   exact ⟨-1, rfl, by rw [right_of_idx (fun j hj => HI.out j (by omega))]; rfl, HB.out⟩
theorem containsFunc_calls (A : Option Addr) (c : Nat) (l0 : List S57) (w : World) (hr : Kd.C k57 w A l0.length l0) (hm : l0.length ≤ 9223372036854775807) :
  Calls Tryd.prog 102 #[.slice A l0.length c, .func (.func 103) #[] #[]] w fun e w' => e = .returned (.bool (!rightB l0)) ∧ Below w.heap.size w w' := by
 have HR := Aside0.mk hr
 clear hr
 go_enter Tryd.func102, Tryd.ntmps102
 go_wp2_with fail
 refine (indexFunc_calls A c l0 _ HR.out hm).mono ?_
 rintro e w1 ⟨i, rfl, hi, hb⟩
 have HI := Aside0.mk hi
 have HB := Aside0.mk hb
 clear hi hb
 go_wp2_with fail
 go_ret
 exact ⟨by rw [HI.out]; by_cases h : 0 ≤ i <;> simp [h] <;> omega, HB.out⟩
theorem curve_right.calls (A : Option Addr) (c : Nat) (l0 : List S57) (r : Bool) (w : World) (hr : Kd.C k57 w A l0.length l0) (hc : l0.length ≤ c) (h : curve_right.f l0 = some r) :
  Calls Tryd.prog 77 #[.slice A l0.length c] w fun e w' => e = .returned (.bool r) ∧ Below w.heap.size w w' := by
 have HR := Aside0.mk hr
 have HH := Aside0.mk h
 clear hr h hc
 go_enter Tryd.func77, Tryd.ntmps77
 go_wp2_with fail
 refine (containsFunc_calls A c l0 _ HR.out HR.out.2.1).mono ?_
 rintro e w1 ⟨rfl, hb⟩
 have HB := Aside0.mk hb
 clear hb
 go_wp2_with fail
 go_ret
 have hh := HH.out
 simp only [curve_right.f, Option.some.injEq] at hh
 exact ⟨by rw [← hh]; simp, HB.out⟩
end Go.Proofs.YtlhhpogaaneamaaDoor.X
namespace Go.Proofs.YtlhhpogaaneamaaDoor.X
open Go.RowKit Go.Shelf Go.Proofs.YtlhhpogaaneamaaDoorW.PrintWords Go.Proofs.YtlhhpogaaneamaaDoorW.PrintLast Go.Proofs.YtlhhpogaaneamaaDoorW.PrintMore
set_option linter.unusedVariables false
attribute [local go_sem] Oper.semAt_some
def encL (l : S57 × S57) : Array Value := #[.agg #[.int .i64 l.1.f0, .int .i64 l.1.f1, .int .i64 l.2.f0, .int .i64 l.2.f1]]
theorem linesOf_length (c : List S57) : (linesOf c).length = c.length - 1 := by simp [linesOf]
theorem linesOf_get (c : List S57) (i : Int) (h1 : 1 ≤ i) (h2 : i < c.length) : (linesOf c)[(i - 1).toNat]? = some (rd_T57 c (i - 1), rd_T57 c i) := by
 unfold linesOf rd_T57
 obtain ⟨k, rfl⟩ : ∃ k : Nat, i = k + 1 := ⟨(i - 1).toNat, by omega⟩
 have e1 : ((k : Int) + 1 - 1).toNat = k := by omega
 have e2 : ((k : Int) + 1).toNat = k + 1 := by omega
 rw [e1, e2, List.getD_eq_getElem?_getD, List.getD_eq_getElem?_getD]
 have h : k + 1 < c.length := by omega
 rw [List.getElem?_eq_getElem (by simp; omega), List.getElem_zip, List.getElem?_eq_getElem (by omega), List.getElem?_eq_getElem h]
 simp
structure KeepB (B Bs : Nat) (w w' : World) : Prop where
 below : Below B w w'
 row : w'.heap[Bs]? = w.heap[Bs]?
theorem KeepB.refl (B Bs : Nat) (w : World) : KeepB B Bs w w := ⟨Below.refl _ _, rfl⟩
theorem KeepB.trans {B Bs : Nat} {w1 w2 w3 : World} (h : KeepB B Bs w1 w2) (k : KeepB B Bs w2 w3) : KeepB B Bs w1 w3 := ⟨h.below.trans k.below, k.row.trans h.row⟩
theorem KeepB.drew {B Bs : Nat} {w w' : World} (h : KeepB B Bs w w') : KeepB B Bs w w'.drew := ⟨below_drew h.below, h.row⟩
theorem KeepB.of {B Bs : Nat} {w w' : World} (h : Below B w w') (hlt : Bs < B) : KeepB B Bs w w' := ⟨h, h.block Bs hlt⟩
theorem KeepB.cell {B Bs : Nat} {w w' : World} (h : KeepB B Bs w w') (i : Nat) : w'.cell? ⟨Bs, i, none⟩ = w.cell? ⟨Bs, i, none⟩ := by
 unfold World.cell?; rw [h.row]
theorem keepB_b {B Bs : Nat} {w : World} (hn : B ≤ w.heap.size) (hs : Bs < w.heap.size) (W : World) (l : Nat) (o o' : Obj) (hl : w.heap.size ≤ l) (h : W.heap[l]? = some o) (hc : o.isCells = false) (hw : o.isWalk = false) : KeepB B Bs W (W.putObj l o') :=
 ⟨belowK_b hn W l o o' hl h hc hw, (belowK_b (n₀ := w.heap.size) (Nat.le_refl _) W l o o' hl h hc hw).block Bs hs⟩
def YB (n₀ Bs : Nat) (J Jx : List (S57 × S57) → World → Prop) (xs : List (S57 × S57)) (W : World) (b : Bool) (W' : World) : Prop :=
 match b with
 | true => J xs W' ∧ KeepB n₀ Bs W W'
 | false => Jx xs W'
set_option maxRecDepth 100000 in
set_option maxHeartbeats 4000000 in
theorem lines1_in (F : Fence) (n : Nat) (h101 : F.fn 101) (hro : F.round = none) (hn : 1 ≤ n) (l Bs n₀ : Nat) (A : Option Addr) (cap : Nat) (c : List S57) (J Jx : List (S57 × S57) → World → Prop)
  (hJd : ∀ pre W, J pre W → J pre W.drew) (W0 : World) (hn0 : W0.heap.size ≤ n₀) (hr : Kd.C k57 W0 A c.length c)
  (hY : ∀ pre x W, J pre W → pre.length < (linesOf c).length → x ∈ linesOf c → YieldAt F (n - 1) Tryd.prog l (encL x) W fun e W' =>
   (e = .returned (.bool true) ∧ J (pre ++ [x]) W' ∧ KeepB n₀ Bs W W') ∨ (e = .returned (.bool false) ∧ Jx (pre ++ [x]) W'))
  (W : World) (hbW : Below W0.heap.size W0 W) (hBs : W.cell? ⟨Bs, 0, none⟩ = some (.slice A c.length cap)) (h0 : J [] W) :
  CallsIn F n Tryd.prog 101 #[.func (.yield l) #[] #[], .pointer (some ⟨Bs, 0, none⟩)] W fun e W' => (∃ v, e = .returned v) ∧
   ((∃ ys, ys = linesOf c ∧ J ys W') ∨ (∃ pre, (∃ k, pre = (linesOf c).take k) ∧ Jx pre W')) := by
 refine callsIn_of_wp Tryd.func101 rfl h101 ?_ hro
 simp only [Tryd.ntmps101, List.size_toArray, List.length_cons, List.length_nil, Nat.reduceAdd, Nat.reduceSub, Array.replicate_succ, Array.replicate_zero, List.push_toArray, List.append_toArray, List.nil_append, List.cons_append]
 have hm := hr.2.1
 have HR := Aside0.mk hr
 have HW := Aside0.mk hbW
 clear hr hbW
 gi_wp2
 gi_loopw [3] (fun v3 wr => ∃ j : Int, 0 ≤ j ∧ (j + 1 ≤ c.length ∨ j = 0) ∧ v3 = .int .i64 (j + 1) ∧ Aside0 (J ((linesOf c).take j.toNat) wr) ∧ Aside0 (KeepB n₀ Bs W wr))
  (fun v3 _ => c.length - (intOf v3).toNat)
 case atStart => exact ⟨0, by omega, by omega, rfl, ⟨by simpa using h0⟩, ⟨KeepB.refl _ _ _⟩⟩
 case round =>
  obtain ⟨j, h1, h2, rfl, HJ, HB⟩ := hrel
  have hBs' := (HB.out.cell 0).trans hBs
  clear hBs
  by_cases hlt : j + 1 < c.length
  ·
   obtain ⟨ad, e258, hx0, hx1⟩ := at_T57 HR.out j (by omega) (by omega)
   cases e258
   obtain ⟨ad', e259, hy0, hy1⟩ := at_T57 HR.out (j + 1) (by omega) (by omega)
   cases e259
   have mv : ∀ {a : Addr} {v : Value}, W0.cell? a = some v → wr.cell? a = some v := fun {a v} h =>
    (HB.out.below.cell (Nat.lt_of_lt_of_le (World.block_lt_of_cell? W0 _ h) hn0)).trans ((HW.out.cell (World.block_lt_of_cell? W0 _ h)).trans h)
   replace hx0 := mv hx0
   replace hx1 := mv hx1
   replace hy0 := mv hy0
   replace hy1 := mv hy1
   clear mv
   have hlen : j.toNat < (linesOf c).length := by rw [linesOf_length]; omega
   have hget : (linesOf c)[j.toNat]? = some (rd_T57 c j, rd_T57 c (j + 1)) := by
    have := linesOf_get c (j + 1) (by omega) hlt
    rwa [show j + 1 - 1 = j by omega] at this
   have hsn : (linesOf c).take j.toNat ++ [(rd_T57 c j, rd_T57 c (j + 1))] = (linesOf c).take (j.toNat + 1) := by
    rw [List.take_add_one, hget]; rfl
   have HS := Aside0.mk hsn
   have HM := Aside0.mk (List.mem_of_getElem? hget)
   clear hsn hget
   obtain ⟨fn, tmps, assign, body, hy, hR0⟩ := hY _ (rd_T57 c j, rd_T57 c (j + 1)) wr.drew (hJd _ _ HJ.out) (by rw [List.length_take]; omega) HM.out
   dsimp only [encL] at hy
   have hR := hR0.mono (R' := fun e W' => ∃ b : Bool, e = .returned (.bool b) ∧ YB n₀ Bs J Jx ((linesOf c).take j.toNat ++ [(rd_T57 c j, rd_T57 c (j + 1))]) wr.drew b W') (by
    rintro e W' (⟨rfl, h⟩ | ⟨rfl, h⟩)
    ·
     exact ⟨true, rfl, h⟩
    ·
     exact ⟨false, rfl, h⟩)
   clear hR0 hY
   gi_wp2
   have p1 := eq_true h1
   have p2 := eq_true (show j < (c.length : Int) by omega)
   have p3 := eq_true (show 0 ≤ j + 1 by omega)
   have p4 := eq_true hlt
   have w1 : IntKind.i64.wrap j = j := IntWalk.i64_in _ (by omega)
   refine wpIn_region_any (by kernel_rfl) ?_
   change wpAnyIn _ _ _ _ _ _ _ _ _ (World.drew _)
   refine wpAnyIn_take (i := 0) (v := ?_) hro rfl (by kernel_rfl) (by kernel_rfl) (by kernel_rfl) (fun _ _ _ h => h) ⟨Or.inl ⟨by rfl, ?_⟩, fun _ => rfl⟩ ?_
   rotate_left
   ·
    intro w; go_simp; with_reducible rfl
   refine wpAnyIn_take (i := 2) (v := ?_) hro rfl (by kernel_rfl) (by kernel_rfl) (by kernel_rfl) (fun _ _ _ h => h) ⟨Or.inl ⟨by rfl, ?_⟩, fun _ => rfl⟩ ?_
   rotate_left
   ·
    intro w; go_simp; with_reducible rfl
   refine wpAnyIn_take (i := 3) (v := ?_) hro rfl (by kernel_rfl) (by kernel_rfl) (by kernel_rfl) (fun _ _ _ h => h) ⟨Or.inl ⟨by rfl, ?_⟩, fun _ => rfl⟩ ?_
   rotate_left
   ·
    intro w; go_simp; with_reducible rfl
   refine wpAnyIn_take (i := 7) (v := ?_) hro rfl (by kernel_rfl) (by kernel_rfl) (by kernel_rfl) (fun _ _ _ h => h) ⟨Or.inl ⟨by rfl, ?_⟩, fun _ => rfl⟩ ?_
   rotate_left
   ·
    intro w; go_simp; with_reducible rfl
   refine wpAnyIn_ready (rs := [1, 6]) (by kernel_rfl) (by simp) ?_
   refine AllReadyIn.cons rfl (fun K hK => ?_) ?_
   ·
    go_simp
    (refine hK _ _ ?_; clear hK K)
    refine wpAnyIn_take (i := 4) (v := ?_) hro rfl (by kernel_rfl) (by kernel_rfl) (by kernel_rfl) (fun _ _ _ h => h) ⟨Or.inl ⟨by rfl, ?_⟩, fun _ => rfl⟩ ?_
    rotate_left
    ·
     intro w; go_simp; with_reducible rfl
    refine wpAnyIn_ready (rs := [5, 6]) (by kernel_rfl) (by simp) ?_
    refine AllReadyIn.cons rfl (fun K hK => ?_) ?_
    ·
     go_simp
     (refine hK _ _ ?_; clear hK K)
     refine wpAnyIn_ready (rs := [6]) (by kernel_rfl) (by simp) ?_
     refine AllReadyIn.cons rfl (fun K hK => ?_) ?_
     ·
      go_simp
      (refine hK _ _ ?_; clear hK K)
      refine wpAnyIn_take (i := 8) (v := ?_) hro rfl (by kernel_rfl) (by kernel_rfl) (by kernel_rfl) (fun _ _ _ h => h) ⟨Or.inl ⟨by rfl, ?_⟩, fun _ => rfl⟩ ?_
      rotate_left
      ·
       intro w; go_simp; with_reducible rfl
      refine wpAnyIn_ready (rs := [9]) (by kernel_rfl) (by simp) ?_
      refine AllReadyIn.cons rfl (fun K hK => ?_) ?_
      ·
       go_simp
       (refine hK _ _ ?_; clear hK K)
       refine wpAnyIn_take (i := 10) (v := ?_) hro rfl (by kernel_rfl) (by kernel_rfl) (by kernel_rfl) (fun _ _ _ h => h) ⟨Or.inl ⟨by rfl, ?_⟩, fun _ => rfl⟩ ?_
       rotate_left
       ·
        intro w; go_simp; with_reducible rfl
       refine wpAnyIn_ready (rs := [11]) (by kernel_rfl) (by simp) ?_
       refine AllReadyIn.cons rfl (fun K hK => ?_) ?_
       ·
        go_simp
        gi_wp2_with (refine hR.mono ?_; rintro e W3 ⟨b, rfl, hb⟩)
        refine wpAnyIn_take (i := 12) (v := ?_) hro rfl (by kernel_rfl) (by kernel_rfl) (by kernel_rfl) (fun _ _ _ h => h) ⟨Or.inl ⟨by rfl, ?_⟩, fun _ => rfl⟩ ?_
        rotate_left
        ·
         intro w; go_simp; with_reducible rfl
        refine wpAnyIn_done (by kernel_rfl) ?_ _
        cases b
        ·
         have hb' := Aside0.mk hb; clear hb
         gi_wp2
         refine bodyPost_ret (results_none rfl _ _ _) rfl ?_
         exact ⟨⟨_, rfl⟩, .inr ⟨_, ⟨j.toNat + 1, HS.out⟩, hb'.out⟩⟩
        ·
         have hb' := Aside0.mk hb; clear hb
         gi_wp2
         go_roundw
         case rel => exact ⟨j + 1, by omega, by omega, by go_num, ⟨by have h := hb'.out.1; rw [HS.out] at h; rwa [show (j + 1).toNat = j.toNat + 1 by omega]⟩, ⟨HB.out.drew.trans hb'.out.2⟩⟩
         case measure => simp [intOf]; omega
       exact AllReadyIn.nil
      exact AllReadyIn.nil
     exact AllReadyIn.nil
    refine AllReadyIn.cons rfl (fun K hK => ?_) ?_
    ·
     go_simp
     (refine hK _ _ ?_; clear hK K)
     refine wpAnyIn_take (i := 8) (v := ?_) hro rfl (by kernel_rfl) (by kernel_rfl) (by kernel_rfl) (fun _ _ _ h => h) ⟨Or.inl ⟨by rfl, ?_⟩, fun _ => rfl⟩ ?_
     rotate_left
     ·
      intro w; go_simp; with_reducible rfl
     refine wpAnyIn_ready (rs := [5, 9]) (by kernel_rfl) (by simp) ?_
     refine AllReadyIn.cons rfl (fun K hK => ?_) ?_
     ·
      go_simp
      (refine hK _ _ ?_; clear hK K)
      refine wpAnyIn_ready (rs := [9]) (by kernel_rfl) (by simp) ?_
      refine AllReadyIn.cons rfl (fun K hK => ?_) ?_
      ·
       go_simp
       (refine hK _ _ ?_; clear hK K)
       refine wpAnyIn_take (i := 10) (v := ?_) hro rfl (by kernel_rfl) (by kernel_rfl) (by kernel_rfl) (fun _ _ _ h => h) ⟨Or.inl ⟨by rfl, ?_⟩, fun _ => rfl⟩ ?_
       rotate_left
       ·
        intro w; go_simp; with_reducible rfl
       refine wpAnyIn_ready (rs := [11]) (by kernel_rfl) (by simp) ?_
       refine AllReadyIn.cons rfl (fun K hK => ?_) ?_
       ·
        go_simp
        gi_wp2_with (refine hR.mono ?_; rintro e W3 ⟨b, rfl, hb⟩)
        refine wpAnyIn_take (i := 12) (v := ?_) hro rfl (by kernel_rfl) (by kernel_rfl) (by kernel_rfl) (fun _ _ _ h => h) ⟨Or.inl ⟨by rfl, ?_⟩, fun _ => rfl⟩ ?_
        rotate_left
        ·
         intro w; go_simp; with_reducible rfl
        refine wpAnyIn_done (by kernel_rfl) ?_ _
        cases b
        ·
         have hb' := Aside0.mk hb; clear hb
         gi_wp2
         refine bodyPost_ret (results_none rfl _ _ _) rfl ?_
         exact ⟨⟨_, rfl⟩, .inr ⟨_, ⟨j.toNat + 1, HS.out⟩, hb'.out⟩⟩
        ·
         have hb' := Aside0.mk hb; clear hb
         gi_wp2
         go_roundw
         case rel => exact ⟨j + 1, by omega, by omega, by go_num, ⟨by have h := hb'.out.1; rw [HS.out] at h; rwa [show (j + 1).toNat = j.toNat + 1 by omega]⟩, ⟨HB.out.drew.trans hb'.out.2⟩⟩
         case measure => simp [intOf]; omega
       exact AllReadyIn.nil
      exact AllReadyIn.nil
     refine AllReadyIn.cons rfl (fun K hK => ?_) ?_
     ·
      go_simp
      (refine hK _ _ ?_; clear hK K)
      refine wpAnyIn_ready (rs := [5]) (by kernel_rfl) (by simp) ?_
      refine AllReadyIn.cons rfl (fun K hK => ?_) ?_
      ·
       go_simp
       (refine hK _ _ ?_; clear hK K)
       refine wpAnyIn_take (i := 10) (v := ?_) hro rfl (by kernel_rfl) (by kernel_rfl) (by kernel_rfl) (fun _ _ _ h => h) ⟨Or.inl ⟨by rfl, ?_⟩, fun _ => rfl⟩ ?_
       rotate_left
       ·
        intro w; go_simp; with_reducible rfl
       refine wpAnyIn_ready (rs := [11]) (by kernel_rfl) (by simp) ?_
       refine AllReadyIn.cons rfl (fun K hK => ?_) ?_
       ·
        go_simp
        gi_wp2_with (refine hR.mono ?_; rintro e W3 ⟨b, rfl, hb⟩)
        refine wpAnyIn_take (i := 12) (v := ?_) hro rfl (by kernel_rfl) (by kernel_rfl) (by kernel_rfl) (fun _ _ _ h => h) ⟨Or.inl ⟨by rfl, ?_⟩, fun _ => rfl⟩ ?_
        rotate_left
        ·
         intro w; go_simp; with_reducible rfl
        refine wpAnyIn_done (by kernel_rfl) ?_ _
        cases b
        ·
         have hb' := Aside0.mk hb; clear hb
         gi_wp2
         refine bodyPost_ret (results_none rfl _ _ _) rfl ?_
         exact ⟨⟨_, rfl⟩, .inr ⟨_, ⟨j.toNat + 1, HS.out⟩, hb'.out⟩⟩
        ·
         have hb' := Aside0.mk hb; clear hb
         gi_wp2
         go_roundw
         case rel => exact ⟨j + 1, by omega, by omega, by go_num, ⟨by have h := hb'.out.1; rw [HS.out] at h; rwa [show (j + 1).toNat = j.toNat + 1 by omega]⟩, ⟨HB.out.drew.trans hb'.out.2⟩⟩
         case measure => simp [intOf]; omega
       exact AllReadyIn.nil
      exact AllReadyIn.nil
     exact AllReadyIn.nil
    exact AllReadyIn.nil
   refine AllReadyIn.cons rfl (fun K hK => ?_) ?_
   ·
    go_simp
    (refine hK _ _ ?_; clear hK K)
    refine wpAnyIn_take (i := 8) (v := ?_) hro rfl (by kernel_rfl) (by kernel_rfl) (by kernel_rfl) (fun _ _ _ h => h) ⟨Or.inl ⟨by rfl, ?_⟩, fun _ => rfl⟩ ?_
    rotate_left
    ·
     intro w; go_simp; with_reducible rfl
    refine wpAnyIn_ready (rs := [1, 9]) (by kernel_rfl) (by simp) ?_
    refine AllReadyIn.cons rfl (fun K hK => ?_) ?_
    ·
     go_simp
     (refine hK _ _ ?_; clear hK K)
     refine wpAnyIn_take (i := 4) (v := ?_) hro rfl (by kernel_rfl) (by kernel_rfl) (by kernel_rfl) (fun _ _ _ h => h) ⟨Or.inl ⟨by rfl, ?_⟩, fun _ => rfl⟩ ?_
     rotate_left
     ·
      intro w; go_simp; with_reducible rfl
     refine wpAnyIn_ready (rs := [5, 9]) (by kernel_rfl) (by simp) ?_
     refine AllReadyIn.cons rfl (fun K hK => ?_) ?_
     ·
      go_simp
      (refine hK _ _ ?_; clear hK K)
      refine wpAnyIn_ready (rs := [9]) (by kernel_rfl) (by simp) ?_
      refine AllReadyIn.cons rfl (fun K hK => ?_) ?_
      ·
       go_simp
       (refine hK _ _ ?_; clear hK K)
       refine wpAnyIn_take (i := 10) (v := ?_) hro rfl (by kernel_rfl) (by kernel_rfl) (by kernel_rfl) (fun _ _ _ h => h) ⟨Or.inl ⟨by rfl, ?_⟩, fun _ => rfl⟩ ?_
       rotate_left
       ·
        intro w; go_simp; with_reducible rfl
       refine wpAnyIn_ready (rs := [11]) (by kernel_rfl) (by simp) ?_
       refine AllReadyIn.cons rfl (fun K hK => ?_) ?_
       ·
        go_simp
        gi_wp2_with (refine hR.mono ?_; rintro e W3 ⟨b, rfl, hb⟩)
        refine wpAnyIn_take (i := 12) (v := ?_) hro rfl (by kernel_rfl) (by kernel_rfl) (by kernel_rfl) (fun _ _ _ h => h) ⟨Or.inl ⟨by rfl, ?_⟩, fun _ => rfl⟩ ?_
        rotate_left
        ·
         intro w; go_simp; with_reducible rfl
        refine wpAnyIn_done (by kernel_rfl) ?_ _
        cases b
        ·
         have hb' := Aside0.mk hb; clear hb
         gi_wp2
         refine bodyPost_ret (results_none rfl _ _ _) rfl ?_
         exact ⟨⟨_, rfl⟩, .inr ⟨_, ⟨j.toNat + 1, HS.out⟩, hb'.out⟩⟩
        ·
         have hb' := Aside0.mk hb; clear hb
         gi_wp2
         go_roundw
         case rel => exact ⟨j + 1, by omega, by omega, by go_num, ⟨by have h := hb'.out.1; rw [HS.out] at h; rwa [show (j + 1).toNat = j.toNat + 1 by omega]⟩, ⟨HB.out.drew.trans hb'.out.2⟩⟩
         case measure => simp [intOf]; omega
       exact AllReadyIn.nil
      exact AllReadyIn.nil
     refine AllReadyIn.cons rfl (fun K hK => ?_) ?_
     ·
      go_simp
      (refine hK _ _ ?_; clear hK K)
      refine wpAnyIn_ready (rs := [5]) (by kernel_rfl) (by simp) ?_
      refine AllReadyIn.cons rfl (fun K hK => ?_) ?_
      ·
       go_simp
       (refine hK _ _ ?_; clear hK K)
       refine wpAnyIn_take (i := 10) (v := ?_) hro rfl (by kernel_rfl) (by kernel_rfl) (by kernel_rfl) (fun _ _ _ h => h) ⟨Or.inl ⟨by rfl, ?_⟩, fun _ => rfl⟩ ?_
       rotate_left
       ·
        intro w; go_simp; with_reducible rfl
       refine wpAnyIn_ready (rs := [11]) (by kernel_rfl) (by simp) ?_
       refine AllReadyIn.cons rfl (fun K hK => ?_) ?_
       ·
        go_simp
        gi_wp2_with (refine hR.mono ?_; rintro e W3 ⟨b, rfl, hb⟩)
        refine wpAnyIn_take (i := 12) (v := ?_) hro rfl (by kernel_rfl) (by kernel_rfl) (by kernel_rfl) (fun _ _ _ h => h) ⟨Or.inl ⟨by rfl, ?_⟩, fun _ => rfl⟩ ?_
        rotate_left
        ·
         intro w; go_simp; with_reducible rfl
        refine wpAnyIn_done (by kernel_rfl) ?_ _
        cases b
        ·
         have hb' := Aside0.mk hb; clear hb
         gi_wp2
         refine bodyPost_ret (results_none rfl _ _ _) rfl ?_
         exact ⟨⟨_, rfl⟩, .inr ⟨_, ⟨j.toNat + 1, HS.out⟩, hb'.out⟩⟩
        ·
         have hb' := Aside0.mk hb; clear hb
         gi_wp2
         go_roundw
         case rel => exact ⟨j + 1, by omega, by omega, by go_num, ⟨by have h := hb'.out.1; rw [HS.out] at h; rwa [show (j + 1).toNat = j.toNat + 1 by omega]⟩, ⟨HB.out.drew.trans hb'.out.2⟩⟩
         case measure => simp [intOf]; omega
       exact AllReadyIn.nil
      exact AllReadyIn.nil
     exact AllReadyIn.nil
    refine AllReadyIn.cons rfl (fun K hK => ?_) ?_
    ·
     go_simp
     (refine hK _ _ ?_; clear hK K)
     refine wpAnyIn_ready (rs := [1]) (by kernel_rfl) (by simp) ?_
     refine AllReadyIn.cons rfl (fun K hK => ?_) ?_
     ·
      go_simp
      (refine hK _ _ ?_; clear hK K)
      refine wpAnyIn_take (i := 4) (v := ?_) hro rfl (by kernel_rfl) (by kernel_rfl) (by kernel_rfl) (fun _ _ _ h => h) ⟨Or.inl ⟨by rfl, ?_⟩, fun _ => rfl⟩ ?_
      rotate_left
      ·
       intro w; go_simp; with_reducible rfl
      refine wpAnyIn_ready (rs := [5]) (by kernel_rfl) (by simp) ?_
      refine AllReadyIn.cons rfl (fun K hK => ?_) ?_
      ·
       go_simp
       (refine hK _ _ ?_; clear hK K)
       refine wpAnyIn_take (i := 10) (v := ?_) hro rfl (by kernel_rfl) (by kernel_rfl) (by kernel_rfl) (fun _ _ _ h => h) ⟨Or.inl ⟨by rfl, ?_⟩, fun _ => rfl⟩ ?_
       rotate_left
       ·
        intro w; go_simp; with_reducible rfl
       refine wpAnyIn_ready (rs := [11]) (by kernel_rfl) (by simp) ?_
       refine AllReadyIn.cons rfl (fun K hK => ?_) ?_
       ·
        go_simp
        gi_wp2_with (refine hR.mono ?_; rintro e W3 ⟨b, rfl, hb⟩)
        refine wpAnyIn_take (i := 12) (v := ?_) hro rfl (by kernel_rfl) (by kernel_rfl) (by kernel_rfl) (fun _ _ _ h => h) ⟨Or.inl ⟨by rfl, ?_⟩, fun _ => rfl⟩ ?_
        rotate_left
        ·
         intro w; go_simp; with_reducible rfl
        refine wpAnyIn_done (by kernel_rfl) ?_ _
        cases b
        ·
         have hb' := Aside0.mk hb; clear hb
         gi_wp2
         refine bodyPost_ret (results_none rfl _ _ _) rfl ?_
         exact ⟨⟨_, rfl⟩, .inr ⟨_, ⟨j.toNat + 1, HS.out⟩, hb'.out⟩⟩
        ·
         have hb' := Aside0.mk hb; clear hb
         gi_wp2
         go_roundw
         case rel => exact ⟨j + 1, by omega, by omega, by go_num, ⟨by have h := hb'.out.1; rw [HS.out] at h; rwa [show (j + 1).toNat = j.toNat + 1 by omega]⟩, ⟨HB.out.drew.trans hb'.out.2⟩⟩
         case measure => simp [intOf]; omega
       exact AllReadyIn.nil
      exact AllReadyIn.nil
     exact AllReadyIn.nil
    exact AllReadyIn.nil
   exact AllReadyIn.nil
  ·
   obtain hj : j.toNat = (linesOf c).length ∨ (linesOf c).length ≤ j.toNat := by rw [linesOf_length]; omega
   have hall : (linesOf c).take j.toNat = linesOf c := List.take_of_length_le (by omega)
   have HL := Aside0.mk hall
   clear hall hj
   gi_wp2
   go_end0
   exact ⟨⟨_, rfl⟩, .inl (by have := HJ.out; rwa [HL.out] at this)⟩
set_option maxHeartbeats 1000000 in
theorem lines_in (F : Fence) (n : Nat) (h72 : F.fn 72) (hro : F.round = none) (A : Option Addr) (len cap : Nat) (w : World) :
  CallsIn F n Tryd.prog 72 #[.slice A len cap] w fun e w' => e = .returned (.func (.func 101) #[] #[.pointer (some ⟨w.heap.size, 0, none⟩)]) ∧ w' = w.alloc (.cells #[.slice A len cap] 23) := by
 refine callsIn_of_wp Tryd.func72 rfl h72 ?_ hro
 simp only [Tryd.ntmps72, List.size_toArray, List.length_cons, List.length_nil, Nat.reduceAdd, Nat.reduceSub, Array.replicate_succ, Array.replicate_zero, List.push_toArray, List.append_toArray, List.nil_append, List.cons_append]
 gi_wp2
 go_ret
 exact ⟨rfl, rfl⟩
theorem lines_stops (F : Fence) (n : Nat) (h101 : F.fn 101) (hro : F.round = none) (hn : 1 ≤ n) (Bs n₀ : Nat) (A : Option Addr) (cap : Nat) (c : List S57) (W0 : World) (hn0 : W0.heap.size ≤ n₀) (hr : Kd.C k57 W0 A c.length c)
  (w : World) (hb : Below W0.heap.size W0 w) (hBs : Bs < n₀) (hn₀ : n₀ ≤ w.heap.size) (hc : w.cell? ⟨Bs, 0, none⟩ = some (.slice A c.length cap)) :
  SeqStopsK F n Tryd.prog 101 #[.pointer (some ⟨Bs, 0, none⟩)] encL (Below n₀) (fun ys => ys = linesOf c) (fun pre => ∃ k, pre = (linesOf c).take k) (linesOf c).length w := fun l J Jx W hW hJ _ hY h0 =>
 lines1_in F n h101 hro hn l Bs n₀ A cap c J Jx (fun pre W' h => hJ pre W' W'.drew none h ⟨rfl, rfl, rfl, Nat.le_refl _, fun _ _ _ => rfl⟩ (fun r e => by cases e)) W0 hn0 hr (fun pre x W' h hl _ => by
  obtain ⟨fn, tmps, assign, body, hy, hR⟩ := hY pre x W' h hl
  exact ⟨fn, tmps, assign, body, hy, hR.mono fun e W'' hh => hh.imp (fun q => ⟨q.1, q.2.1, KeepB.of q.2.2 hBs⟩) id⟩) W (hb.trans (hW.mono (Nat.le_trans hn0 hn₀)))
  ((hW.cell (p := ⟨Bs, 0, none⟩) (Nat.lt_of_lt_of_le hBs hn₀)).trans hc) h0
abbrev LineIn (c : List S57) : Type := { l : S57 × S57 // l ∈ linesOf c }
theorem lines_stopsM (F : Fence) (n : Nat) (h101 : F.fn 101) (hro : F.round = none) (hn : 1 ≤ n) (Bs n₀ : Nat) (A : Option Addr) (cap : Nat) (c : List S57) (W0 : World) (hn0 : W0.heap.size ≤ n₀) (hr : Kd.C k57 W0 A c.length c)
  (w : World) (hb : Below W0.heap.size W0 w) (hBs : Bs < w.heap.size) (hn₀ : n₀ ≤ w.heap.size) (hc : w.cell? ⟨Bs, 0, none⟩ = some (.slice A c.length cap)) :
  SeqStopsK F n Tryd.prog 101 #[.pointer (some ⟨Bs, 0, none⟩)] (fun x : LineIn c => encL x.1) (KeepB n₀ Bs) (fun ys => ys.map (fun x => x.1) = linesOf c) (fun pre => ∃ k, pre.map (fun x => x.1) = (linesOf c).take k) (linesOf c).length w := by
 intro l J Jx W hW hJ hJx hY h0
 refine (lines1_in F n h101 hro hn l Bs n₀ A cap c (fun pre W' => ∃ p : List (LineIn c), p.map (fun x => x.1) = pre ∧ J p W') (fun pre W' => ∃ p : List (LineIn c), p.map (fun x => x.1) = pre ∧ Jx p W')
  (fun pre W' ⟨p, hp, h⟩ => ⟨p, hp, hJ p W' W'.drew none h ⟨rfl, rfl, rfl, Nat.le_refl _, fun _ _ _ => rfl⟩ (fun r e => by cases e)⟩) W0 hn0 hr ?_ W (hb.trans (hW.mono (Nat.le_trans hn0 hn₀)))
  ((hW.cell (p := ⟨Bs, 0, none⟩) hBs).trans hc) ⟨[], rfl, h0⟩).mono ?_
 ·
  rintro pre x W1 ⟨p, rfl, hJ1⟩ hlen hx
  obtain ⟨fn, tmps, assign, body, hy, hR⟩ := hY p ⟨x, hx⟩ W1 hJ1 (by simpa using hlen)
  refine ⟨fn, tmps, assign, body, hy, hR.mono ?_⟩
  rintro e W' (⟨rfl, h, hk⟩ | ⟨rfl, h⟩)
  ·
   exact .inl ⟨rfl, ⟨p ++ [⟨x, hx⟩], by simp, h⟩, hk⟩
  ·
   exact .inr ⟨rfl, ⟨p ++ [⟨x, hx⟩], by simp, h⟩⟩
 ·
  rintro e W' ⟨hv, ⟨ys, rfl, p, hp, h⟩ | ⟨pre, ⟨k, rfl⟩, p, hp, h⟩⟩
  ·
   exact ⟨hv, .inl ⟨p, hp, h⟩⟩
  ·
   exact ⟨hv, .inr ⟨p, ⟨k, hp⟩, h⟩⟩
end Go.Proofs.YtlhhpogaaneamaaDoor.X
namespace Go.Proofs.YtlhhpogaaneamaaDoor.X
open Go.RowKit Go.Shelf Go.Proofs.YtlhhpogaaneamaaDoorW.PrintWords Go.Proofs.YtlhhpogaaneamaaDoorW.PrintLast Go.Proofs.YtlhhpogaaneamaaDoorW.PrintMore
set_option linter.unusedVariables false
attribute [local go_sem] Oper.semAt_some
def Blk (w : World) (g : Nat) (t : TypeId) (cs : Array Value) : Prop := w.heap[g]? = some (.cells cs t (0, 0))
section
variable {w w' : World} {g : Nat} {t : TypeId} {cs : Array Value}
theorem Blk.lt (h : Blk w g t cs) : g < w.heap.size := by
 rcases Nat.lt_or_ge g w.heap.size with hlt | hge
 ·
  exact hlt
 ·
  unfold Blk at h; rw [Array.getElem?_eq_none hge] at h; cases h
theorem Blk.cell (h : Blk w g t cs) (i : Nat) : w.cell? ⟨g, i, none⟩ = cs[i]? := cell_of_row w g i cs t (0, 0) h
theorem Blk.frozen (h : Blk w g t cs) (i : Nat) : w.frozen? ⟨g, i, none⟩ = false := by
 unfold Blk at h
 simp [World.frozen?, h]
theorem Blk.new (w : World) (t : TypeId) (cs : Array Value) : Blk (w.alloc (.cells cs t)) w.heap.size t cs := heap_alloc_new w _
theorem Blk.drewN (h : Blk w g t cs) (n : Nat) : Blk (w.drewN n) g t cs := h
theorem Blk.alloc (h : Blk w g t cs) (o : Obj) : Blk (w.alloc o) g t cs := (Below.heap_alloc w o g h.lt).trans h
theorem Blk.set_ (h : Blk w g t cs) (i : Nat) (u : Value) : Blk (w.setCell ⟨g, i, none⟩ u) g t (cs.setIfInBounds i u) := by
 unfold Blk at h ⊢
 simp [World.setCell, Array.getElem?_modify, h]
theorem Blk.far (h : Blk w g t cs) {p : Addr} (hp : g ≠ p.block) (u : Value) : Blk (w.setCell p u) g t cs := (Below.heap_setCell w p u g hp).trans h
theorem Blk.below {B : Nat} (h : Blk w g t cs) (hb : Below B w w') (hg : g < B) : Blk w' g t cs := (hb.block g hg).trans h
theorem Blk.grown {row : Option Nat} (h : Blk w g t cs) (hb : w.grownBy w' row) (hg : some g ≠ row) : Blk w' g t cs := (hb.block g h.lt hg).trans h
end
theorem blk_own {β : Type} (B : Nat) (t : TypeId) (f : β → Array Value) : Own (fun s W => Blk W B t (f s)) := fun s X Y row hs hg hrow =>
 hs.grown hg (fun e' => by obtain ⟨o, ho, hc⟩ := hrow B e'.symm; rw [show X.heap[B]? = _ from hs] at ho; cases ho; cases hc)
theorem keepsFrom_below (B : Nat) {W W' : World} (h : Below W.heap.size W W') : KeepsFrom B W W' :=
 ⟨h.size, fun k o hk ho h0 => (h.block k (Array.getElem?_eq_some_iff.1 ho).1).trans ho⟩
theorem blk_set4 {w : World} {g : Nat} {t : TypeId} {a b c d v0 v1 v2 v3 : Value} (h : Blk w g t #[a, b, c, d]) :
  Blk ((((w.setCell ⟨g, 0, none⟩ v0).setCell ⟨g, 1, none⟩ v1).setCell ⟨g, 2, none⟩ v2).setCell ⟨g, 3, none⟩ v3) g t #[v0, v1, v2, v3] := by
 have := (((h.set_ 0 v0).set_ 1 v1).set_ 2 v2).set_ 3 v3
 simpa using this
def cells4 (l : S57 × S57) : Array Value := #[.int .i64 l.1.f0, .int .i64 l.1.f1, .int .i64 l.2.f0, .int .i64 l.2.f1]
theorem find_of_take {α : Type} {p : α → Bool} {xs ini : List α} {k : Nat} {last : α} (h : xs.take k = ini ++ [last]) (hi : ∀ l ∈ ini, p l = false) (hl : p last = true) : xs.find? p = some last := by
 have e : xs = (ini ++ [last]) ++ xs.drop k := by rw [← h, List.take_append_drop]
 rw [e, List.append_assoc, List.find?_append, List.find?_eq_none.2 (fun x hx => by rw [hi x hx]; simp)]
 simp [hl]
theorem has_T (l : S57 × S57) (x : Int) (w : World) (h : hasB x l = true) : Calls Tryd.prog 73 #[.agg #[.int .i64 l.1.f0, .int .i64 l.1.f1, .int .i64 l.2.f0, .int .i64 l.2.f1], .int .i64 x] w fun e w' => e = .returned (.bool true) ∧ Below w.heap.size w w' :=
 curve_line_has.calls _ _ _ _ x true w (by
  unfold curve_line_has.f; unfold hasB at h
  simp only [Bool.and_eq_true, decide_eq_true_eq] at h
  rw [if_pos h.1]; simp [h.2])
theorem has_F (l : S57 × S57) (x : Int) (w : World) (h : hasB x l = false) : Calls Tryd.prog 73 #[.agg #[.int .i64 l.1.f0, .int .i64 l.1.f1, .int .i64 l.2.f0, .int .i64 l.2.f1], .int .i64 x] w fun e w' => e = .returned (.bool false) ∧ Below w.heap.size w w' :=
 curve_line_has.calls _ _ _ _ x false w (by
  unfold curve_line_has.f; unfold hasB at h
  simp only [Bool.and_eq_false_iff, decide_eq_false_iff_not] at h
  by_cases h1 : l.1.f0 ≤ x
  ·
   rw [if_pos h1]; simp; omega
  ·
   rw [if_neg h1])
set_option maxRecDepth 100000 in
set_option maxHeartbeats 2000000 in
theorem at_calls (A : Option Addr) (cap : Nat) (c : List S57) (x : Int) (w : World) (hr : Kd.C k57 w A c.length c) :
  Calls Tryd.prog 80 #[.slice A c.length cap, .int .i64 x] w fun e W' => ((∃ l, lineAt c x = some l ∧ e = .returned (.agg (cells4 l))) ∨ lineAt c x = none ∧ e = .returned (.agg #[.int .i64 0, .int .i64 0, .int .i64 0, .int .i64 0])) ∧ Below w.heap.size w W' := by
 refine (callsIn_wide (n := 6)).1 ?_
 refine callsIn_of_wp_marks Tryd.func80 rfl trivial ?_ rfl
 simp only [Tryd.ntmps80, List.size_toArray, List.length_cons, List.length_nil, Nat.reduceAdd, Nat.reduceSub, Array.replicate_succ, Array.replicate_zero, List.push_toArray, List.append_toArray, List.nil_append, List.cons_append]
 have hu72 := Tryd.underlying72
 gi_wp2_with (refine ⟨trivial, ?_⟩; gi_at_call 72; refine (lines_in Fence.wide _ trivial rfl _ _ _ _).mono ?_; rintro e w' ⟨rfl, rfl⟩)
 obtain ⟨W0, hW0⟩ : ∃ W0, ((w.alloc (.cells #[.int .i64 x] 3)).alloc (.cells #[.int .i64 0, .int .i64 0, .int .i64 0, .int .i64 0] 72)).alloc (.cells #[.slice A c.length cap] 23) = W0 := ⟨_, rfl⟩
 have bX : Blk W0 w.heap.size 3 #[.int .i64 x] := by rw [← hW0]; exact ((Blk.new w 3 _).alloc _).alloc _
 have bR : Blk W0 (w.heap.size + 1) 72 #[.int .i64 0, .int .i64 0, .int .i64 0, .int .i64 0] := by
  rw [← hW0]; have h := (Blk.new (w.alloc (.cells #[.int .i64 x] 3)) 72 #[.int .i64 0, .int .i64 0, .int .i64 0, .int .i64 0]).alloc (.cells #[.slice A c.length cap] 23); rwa [World.size_alloc] at h
 have bC : Blk W0 (w.heap.size + 1 + 1) 23 #[.slice A c.length cap] := by
  rw [← hW0]; have h := Blk.new ((w.alloc (.cells #[.int .i64 x] 3)).alloc (.cells #[.int .i64 0, .int .i64 0, .int .i64 0, .int .i64 0] 72)) 23 #[.slice A c.length cap]; rwa [World.size_alloc, World.size_alloc] at h
 have hsz : W0.heap.size = w.heap.size + 3 := by rw [← hW0]; simp
 have hB0 : Below w.heap.size w W0 := by rw [← hW0]; exact (((Below.refl _ w).alloc (Nat.le_refl _) _).alloc (by simp) _).alloc (by simp; omega) _
 rw [hW0]
 clear hW0
 refine wpIn_rangeFunc_ownH rfl (by omega) (gf := 101) (lb := #[.pointer (some ⟨w.heap.size + 1 + 1, 0, none⟩)]) rfl trivial (enters_of Tryd.func101 (by kernel_rfl) rfl)
  (lines_stops Fence.wide _ trivial rfl (by omega) (w.heap.size + 1 + 1) W0.heap.size A cap c w (by omega) hr W0 hB0 (by omega) (Nat.le_refl _) (by rw [bC.cell]; rfl)) belowK_t (belowK_b (Nat.le_refl _)) (Below.refl _ _) (fun _ => rfl)
  (fun pre W => (∀ l ∈ pre, hasB x l = false) ∧ Below W0.heap.size W0 W)
  (fun j pre W => (∃ ini last, (j = .ret ∧ pre = ini ++ [last] ∧ (∀ l ∈ ini, hasB x l = false) ∧ hasB x last = true) ∧ Blk W (w.heap.size + 1) 72 (cells4 last)) ∧ Below w.heap.size w W)
  (OwnFrom.and (ownFrom_pure _ _) (ownFrom_below (Nat.le_refl _) (Nat.le_refl _)))
  (fun j => OwnFrom.and (Own.from (fun s X Y row hs hg hrow => by obtain ⟨ini, last, h1, h2⟩ := hs; exact ⟨ini, last, h1, blk_own _ _ (fun (_ : Unit) => cells4 last) () X Y row h2 hg hrow⟩) _) (ownFrom_below (Nat.le_refl _) (by omega)))
  ⟨by simp, Below.refl _ _⟩
  (fun l a' W => ∃ Bx, W0.heap.size ≤ Bx ∧ Blk W Bx 72 (cells4 l) ∧ a' = { tmps := #[.slice A c.length cap, .int .i64 x, undef, .pointer (some ⟨w.heap.size, 0, none⟩), .pointer (some ⟨w.heap.size + 1, 0, none⟩), .pointer (some ⟨Bx, 0, none⟩), .slice A c.length cap, .func (.func 101) #[] #[.pointer (some ⟨w.heap.size + 1 + 1, 0, none⟩)], .agg (cells4 l), undef, undef, undef, undef, undef], defers := [] })
  (fun l a' _ X Y row hs hg hrow => by obtain ⟨Bx, h1, h2, h3⟩ := hs; exact ⟨Bx, h1, blk_own Bx 72 (fun (_ : Unit) => cells4 l) () X Y row h2 hg (fun r e => (hrow r e).2), h3⟩)
  ?assign ?body ?done ?stop
 case assign =>
  rintro l pre ln W K ⟨hp, hB1⟩ hK
  have hsW := hB1.size
  obtain ⟨⟨x0, y0⟩, ⟨x1, y1⟩⟩ := ln
  simp only [encL]
  gi_wp2
  exact hK _ _ ((KeepsOthers.alloc _ _).from _) ((Below.refl _ W).alloc hsW _) ⟨hp, hB1.alloc hsW _⟩ ⟨W.heap.size, hsW, Blk.new W 72 _, rfl⟩
 case body =>
  rintro l pre ln a' W hl ⟨r, hr'⟩ ⟨hp, hB1⟩ ⟨Bx, hBx, bX', rfl⟩ hlt
  obtain ⟨⟨x0, y0⟩, ⟨x1, y1⟩⟩ := ln
  have b1 := bX.below hB1 (by omega)
  have b2 := bR.below hB1 (by omega)
  simp only [cells4] at bX' ⊢
  have c0 : W.cell? ⟨Bx, 0, none⟩ = some (.int .i64 x0) := bX'.cell 0
  have c1 : W.cell? ⟨Bx, 1, none⟩ = some (.int .i64 y0) := bX'.cell 1
  have c2 : W.cell? ⟨Bx, 2, none⟩ = some (.int .i64 x1) := bX'.cell 2
  have c3 : W.cell? ⟨Bx, 3, none⟩ = some (.int .i64 y1) := bX'.cell 3
  have cx : W.cell? ⟨w.heap.size, 0, none⟩ = some (.int .i64 x) := b1.cell 0
  have HP := Aside0.mk hp
  have HB := Aside0.mk hB1
  clear hp hB1
  cases hh : hasB x (⟨x0, y0⟩, ⟨x1, y1⟩)
  ·
   have HH := Aside0.mk hh
   clear hh
   gi_wp2_with (refine ⟨trivial, ?_⟩; gi_at_call 73; refine (CallsIn.inRound l (callsIn_wide.2 (has_F (⟨x0, y0⟩, ⟨x1, y1⟩) x _ HH.out))).mono ?_; rintro e w1 ⟨rfl, hb1⟩)
   exact ⟨keepsFrom_below _ hb1, hb1.mono HB.out.size, fun q hq => (List.mem_append.1 hq).elim (HP.out q) (fun e => by simp at e; subst e; exact HH.out), HB.out.trans (hb1.mono HB.out.size)⟩
  ·
   have HH := Aside0.mk hh
   clear hh
   gi_wp2_with (refine ⟨trivial, ?_⟩; gi_at_call 73; refine (CallsIn.inRound l (callsIn_wide.2 (has_T (⟨x0, y0⟩, ⟨x1, y1⟩) x _ HH.out))).mono ?_; rintro e w1 ⟨rfl, hb1⟩; have d0 := (hb1.cell (p := ⟨Bx, 0, none⟩) bX'.lt).trans c0; have d1 := (hb1.cell (p := ⟨Bx, 1, none⟩) bX'.lt).trans c1; have d2 := (hb1.cell (p := ⟨Bx, 2, none⟩) bX'.lt).trans c2; have d3 := (hb1.cell (p := ⟨Bx, 3, none⟩) bX'.lt).trans c3; have b2' := b2.below hb1 b2.lt; have e0 : w1.cell? ⟨w.heap.size + 1, 0, none⟩ = some (.int .i64 0) := b2'.cell 0; have e1 : w1.cell? ⟨w.heap.size + 1, 1, none⟩ = some (.int .i64 0) := b2'.cell 1; have e2 : w1.cell? ⟨w.heap.size + 1, 2, none⟩ = some (.int .i64 0) := b2'.cell 2; have e3 : w1.cell? ⟨w.heap.size + 1, 3, none⟩ = some (.int .i64 0) := b2'.cell 3; have f0 := b2'.frozen 0; have f1 := b2'.frozen 1; have f2 := b2'.frozen 2; have f3 := b2'.frozen 3)
   have hk4 : KeepsFrom W0.heap.size W ((((w1.setCell ⟨w.heap.size + 1, 0, none⟩ (.int .i64 x0)).setCell ⟨w.heap.size + 1, 1, none⟩ (.int .i64 y0)).setCell ⟨w.heap.size + 1, 2, none⟩ (.int .i64 x1)).setCell ⟨w.heap.size + 1, 3, none⟩ (.int .i64 y1)) :=
    ((((keepsFrom_below _ hb1).trans ((KeepsOthers.setCell _ _ _).from _)).trans ((KeepsOthers.setCell _ _ _).from _)).trans ((KeepsOthers.setCell _ _ _).from _)).trans ((KeepsOthers.setCell _ _ _).from _)
   have hbb : Below w.heap.size w w1 := (hB0.trans (HB.out.mono hB0.size)).trans (hb1.mono (Nat.le_trans hB0.size HB.out.size))
   exact ⟨hk4, ⟨pre, (⟨x0, y0⟩, ⟨x1, y1⟩), ⟨rfl, rfl, HP.out, HH.out⟩, blk_set4 b2'⟩, (((hbb.setCell (by simp) _).setCell (by simp) _).setCell (by simp) _).setCell (by simp) _⟩
 case done =>
  rintro D ys W hD rfl ⟨hp, hB1⟩ hK
  have b2 := bR.below hB1 (by omega)
  have e0 : W.cell? ⟨w.heap.size + 1, 0, none⟩ = some (.int .i64 0) := b2.cell 0
  have e1 : W.cell? ⟨w.heap.size + 1, 1, none⟩ = some (.int .i64 0) := b2.cell 1
  have e2 : W.cell? ⟨w.heap.size + 1, 2, none⟩ = some (.int .i64 0) := b2.cell 2
  have e3 : W.cell? ⟨w.heap.size + 1, 3, none⟩ = some (.int .i64 0) := b2.cell 3
  have f0 := b2.frozen 0
  have f1 := b2.frozen 1
  have f2 := b2.frozen 2
  have f3 := b2.frozen 3
  have HK := Aside0.mk hK
  have HP := Aside0.mk hp
  have HB := Aside0.mk hB1
  clear hK hp hB1
  gi_wp2
  have hbb : Below w.heap.size w W := hB0.trans (HB.out.mono hB0.size)
  have hbb4 := (((hbb.setCell (p := ⟨w.heap.size + 1, 0, none⟩) (by simp) (.int .i64 0)).setCell (p := ⟨w.heap.size + 1, 1, none⟩) (by simp) (.int .i64 0)).setCell (p := ⟨w.heap.size + 1, 2, none⟩) (by simp) (.int .i64 0)).setCell (p := ⟨w.heap.size + 1, 3, none⟩) (by simp) (.int .i64 0)
  have b4 := blk_set4 (v0 := .int .i64 0) (v1 := .int .i64 0) (v2 := .int .i64 0) (v3 := .int .i64 0) b2
  have hK' : ((((W.setCell ⟨w.heap.size + 1, 0, none⟩ (.int .i64 0)).setCell ⟨w.heap.size + 1, 1, none⟩ (.int .i64 0)).setCell ⟨w.heap.size + 1, 2, none⟩ (.int .i64 0)).setCell ⟨w.heap.size + 1, 3, none⟩ (.int .i64 0)).heap[D]? = some (.deferred (some [])) :=
   ((((KeepsOthers.setCell _ _ _).trans (KeepsOthers.setCell _ _ _)).trans (KeepsOthers.setCell _ _ _)).trans (KeepsOthers.setCell _ _ _)).same D _ HK.out rfl
  refine ⟨by simp, .inl ⟨_, _, rfl, run_takeDeferred hK', ?_⟩⟩
  have b5 := b4.grown (grownBy_putObj' _ D (.deferred none)) (by simp; omega)
  have g0 := b5.cell 0
  have g1 := b5.cell 1
  have g2 := b5.cell 2
  have g3 := b5.cell 3
  refine ⟨.agg #[.int .i64 0, .int .i64 0, .int .i64 0, .int .i64 0], ?_, .inr ⟨?_, rfl⟩, hbb4.trans (belowK_b (w := w) (Nat.le_refl _) _ D _ _ (by omega) hK' rfl rfl)⟩
  ·
   clear HK HP HB hbb hbb4 b4 hK' b5 b2 e0 e1 e2 e3 f0 f1 f2 f3
   simp [results, Tryd.f80, go_sem, g0, g1, g2, g3]
  ·
   unfold lineAt
   rw [List.find?_eq_none]
   exact fun q hq => by rw [HP.out q hq]; simp
 case stop =>
  rintro D j pre W hD ⟨k, hk⟩ ⟨⟨ini, last, ⟨rfl, hpre, hini, hlast⟩, b2⟩, hB1⟩ hK
  have HK := Aside0.mk hK
  clear hK
  gi_wp2
  refine ⟨by simp, .inl ⟨_, _, rfl, run_takeDeferred HK.out, ?_⟩⟩
  have b5 := b2.grown (grownBy_putObj' _ D (.deferred none)) (by simp; omega)
  have g0 := b5.cell 0
  have g1 := b5.cell 1
  have g2 := b5.cell 2
  have g3 := b5.cell 3
  refine ⟨.agg (cells4 last), ?_, .inl ⟨last, ?_, rfl⟩, hB1.trans (belowK_b (w := w) (Nat.le_refl _) _ D _ _ (by omega) HK.out rfl rfl)⟩
  ·
   simp only [cells4] at g0 g1 g2 g3 ⊢
   simp [results, Tryd.f80, go_sem, g0, g1, g2, g3]
  ·
   unfold lineAt
   rw [find_of_take (hk.symm.trans hpre) hini hlast]
theorem curve_at.calls (A0 : Option Addr) (c0 : Nat) (l0 : List S57) (a1 : Int) (r1 r2 r3 r4 : Int) (w : World) (hr0 : Kd.C k57 w A0 l0.length l0) (hc0 : l0.length ≤ c0) (h : curve_at.f l0 a1 = some (r1, r2, r3, r4)) :
  Calls Tryd.prog 80 #[.slice A0 l0.length c0, .int .i64 a1] w fun e w' => e = .returned (.agg #[.int .i64 r1, .int .i64 r2, .int .i64 r3, .int .i64 r4]) ∧ Below w.heap.size w w' := by
 refine (at_calls A0 c0 l0 a1 w hr0).mono ?_
 rintro e w' ⟨⟨l, hl, rfl⟩ | ⟨hl, rfl⟩, hb⟩
 ·
  simp only [curve_at.f, hl, Option.some.injEq, Prod.mk.injEq] at h
  obtain ⟨rfl, rfl, rfl, rfl⟩ := h
  exact ⟨rfl, hb⟩
 ·
  simp only [curve_at.f, hl, Option.some.injEq, Prod.mk.injEq] at h
  obtain ⟨rfl, rfl, rfl, rfl⟩ := h
  exact ⟨rfl, hb⟩
end Go.Proofs.YtlhhpogaaneamaaDoor.X
namespace Go.Proofs.YtlhhpogaaneamaaDoor.X
open Go.RowKit Go.Shelf Go.Proofs.YtlhhpogaaneamaaDoorW.PrintWords Go.Proofs.YtlhhpogaaneamaaDoorW.PrintLast Go.Proofs.YtlhhpogaaneamaaDoorW.PrintMore
set_option linter.unusedVariables false
attribute [local go_sem] Oper.semAt_some
def risesB (l : S57 × S57) : Bool := decide (l.1.f0 < l.2.f0) && decide (l.1.f1 < l.2.f1)
theorem incB_eq : ∀ c : List S57, incB c = (linesOf c).all risesB
 | [] => rfl
 | [_] => rfl
 | p :: q :: r => by
  have ih := incB_eq (q :: r)
  simp only [incB, linesOf, List.tail_cons, List.zip_cons_cons, List.all_cons, risesB] at ih ⊢
  rw [ih]
def ChkI (W0 : World) (pre : List (S57 × S57)) (W : World) : Prop := (∀ l ∈ pre, risesB l = true) ∧ Below W0.heap.size W0 W
def ChkX (w : World) (j : Code) (pre : List (S57 × S57)) (W : World) : Prop := (∃ ini last, (j = .ret ∧ pre = ini ++ [last] ∧ risesB last = false) ∧ Blk W w.heap.size 28 #[.int .i64 10]) ∧ Below w.heap.size w W
set_option maxRecDepth 100000 in
set_option maxHeartbeats 2000000 in
theorem check_loop (A : Option Addr) (cap : Nat) (c : List S57) (w : World) (hr : Kd.C k57 w A c.length c) (hc : c.length ≤ cap) (h2 : 2 ≤ c.length) (h64 : c.length ≤ 64) (hR : rightB c = true) :
  Calls Tryd.prog 30 #[.slice A c.length cap] w fun e W' => ((incB c = true ∧ e = .returned (.int .i64 0)) ∨ (incB c = false ∧ e = .returned (.int .i64 10))) ∧ Below w.heap.size w W' := by
 have HRT := Aside0.mk (show curve_right.f c = some true by unfold curve_right.f; rw [hR])
 have HR := Aside0.mk hr
 clear hr hR
 refine (callsIn_wide (n := 6)).1 ?_
 refine callsIn_of_wp_marks Tryd.func30 rfl trivial ?_ rfl
 simp only [Tryd.ntmps30, List.size_toArray, List.length_cons, List.length_nil, Nat.reduceAdd, Nat.reduceSub, Array.replicate_succ, Array.replicate_zero, List.push_toArray, List.append_toArray, List.nil_append, List.cons_append]
 have hu72 := Tryd.underlying72
 have hu57 := Tryd.underlying57
 have t1 : decide ((c.length : Int) < 2) = false := decide_eq_false (by omega)
 have t2 : decide ((64 : Int) < c.length) = false := decide_eq_false (by omega)
 gi_wp2_with (refine ⟨trivial, ?_⟩; gi_at_call 77; refine (callsIn_wide.2 (curve_right.calls A cap c true _ (Kd.C_alloc HR.out _) hc HRT.out)).mono ?_; rintro e w1 ⟨rfl, hb1⟩)
 refine ⟨trivial, ?_⟩
 refine (lines_in Fence.wide _ trivial rfl _ _ _ _).mono ?_
 rintro e w2 ⟨rfl, rfl⟩
 gi_wp2
 have hB1 : Below w.heap.size w w1 := ((Below.refl _ w).alloc (Nat.le_refl _) _).trans (hb1.mono (by simp))
 have hs1 : w.heap.size + 1 ≤ w1.heap.size := by have := hb1.size; simpa using this
 obtain ⟨W0, hW0⟩ : ∃ W0, w1.alloc (.cells #[.slice A c.length cap] 23) = W0 := ⟨_, rfl⟩
 have bR : Blk W0 w.heap.size 28 #[.int .i64 0] := by rw [← hW0]; exact ((Blk.new w 28 _).below hb1 (by simp)).alloc _
 have bC : Blk W0 w1.heap.size 23 #[.slice A c.length cap] := by rw [← hW0]; exact Blk.new _ _ _
 have hsz : W0.heap.size = w1.heap.size + 1 := by rw [← hW0]; simp
 have hB0 : Below w.heap.size w W0 := by rw [← hW0]; exact hB1.alloc (by omega) _
 rw [hW0]
 clear hW0 hb1 hB1
 refine wpIn_rangeFunc_ownH rfl (by omega) (gf := 101) (lb := #[.pointer (some ⟨w1.heap.size, 0, none⟩)]) rfl trivial (enters_of Tryd.func101 (by kernel_rfl) rfl)
  (lines_stops Fence.wide _ trivial rfl (by omega) w1.heap.size W0.heap.size A cap c w (by omega) HR.out W0 hB0 (by omega) (Nat.le_refl _) (by rw [bC.cell]; rfl)) belowK_t (belowK_b (Nat.le_refl _)) (Below.refl _ _) (fun _ => rfl)
  (ChkI W0) (ChkX w)
  (OwnFrom.and (ownFrom_pure _ _) (ownFrom_below (Nat.le_refl _) (Nat.le_refl _)))
  (fun j => OwnFrom.and (Own.from (fun s X Y row hs hg hrow => by obtain ⟨ini, last, h1, h2⟩ := hs; exact ⟨ini, last, h1, blk_own _ _ (fun (_ : Unit) => #[.int .i64 10]) () X Y row h2 hg hrow⟩) _) (ownFrom_below (Nat.le_refl _) (by omega)))
  ⟨by simp, Below.refl _ _⟩
  (fun l a' W => ∃ Bx, W0.heap.size ≤ Bx ∧ Blk W Bx 72 (cells4 l) ∧ a' = { tmps := #[.slice A c.length cap, undef, .pointer (some ⟨w.heap.size, 0, none⟩), .pointer (some ⟨Bx, 0, none⟩), .slice A c.length cap, .int .i64 c.length, .bool false, .bool false, .slice A c.length cap, .int .i64 c.length, .bool false, .bool false, .bool false, .slice A c.length cap, .bool true, .bool false, .bool false, .slice A c.length cap, .func (.func 101) #[] #[.pointer (some ⟨w1.heap.size, 0, none⟩)], .agg (cells4 l), undef, undef, undef, undef, undef, undef, undef, undef, undef, undef, undef, undef, undef, undef, undef, undef], defers := [] })
  (fun l a' _ X Y row hs hg hrow => by obtain ⟨Bx, h1, h2, h3⟩ := hs; exact ⟨Bx, h1, blk_own Bx 72 (fun (_ : Unit) => cells4 l) () X Y row h2 hg (fun r e => (hrow r e).2), h3⟩)
  ?assign ?body ?done ?stop
 case assign =>
  rintro l pre ln W K ⟨hp, hB1⟩ hK
  have hsW := hB1.size
  obtain ⟨⟨x0, y0⟩, ⟨x1, y1⟩⟩ := ln
  simp only [encL]
  gi_wp2
  exact hK _ _ ((KeepsOthers.alloc _ _).from _) ((Below.refl _ W).alloc hsW _) ⟨hp, hB1.alloc hsW _⟩ ⟨W.heap.size, hsW, Blk.new W 72 _, rfl⟩
 case body =>
  rintro l pre ln a' W hl ⟨r, hr'⟩ ⟨hp, hB1⟩ ⟨Bx, hBx, bX', rfl⟩ hlt
  obtain ⟨⟨x0, y0⟩, ⟨x1, y1⟩⟩ := ln
  have b2 := bR.below hB1 (by omega)
  simp only [cells4] at bX' ⊢
  have c0 : W.cell? ⟨Bx, 0, none⟩ = some (.int .i64 x0) := bX'.cell 0
  have c1 : W.cell? ⟨Bx, 1, none⟩ = some (.int .i64 y0) := bX'.cell 1
  have c2 : W.cell? ⟨Bx, 2, none⟩ = some (.int .i64 x1) := bX'.cell 2
  have c3 : W.cell? ⟨Bx, 3, none⟩ = some (.int .i64 y1) := bX'.cell 3
  have e0 : W.cell? ⟨w.heap.size, 0, none⟩ = some (.int .i64 0) := b2.cell 0
  have f0 := b2.frozen 0
  have HP := Aside0.mk hp
  have HB := Aside0.mk hB1
  clear hp hB1 t1 t2
  have hbb : Below w.heap.size w W := hB0.trans (HB.out.mono (by omega))
  by_cases hx : x1 ≤ x0
  ·
   gi_wp2
   exact ⟨(KeepsOthers.setCell _ _ _).from _, ⟨pre, (⟨x0, y0⟩, ⟨x1, y1⟩), ⟨rfl, rfl, by simp [risesB]; omega⟩, by have := b2.set_ 0 (.int .i64 10); simpa using this⟩, hbb.setCell (by simp) _⟩
  ·
   by_cases hy : y1 ≤ y0
   ·
    gi_wp2
    exact ⟨(KeepsOthers.setCell _ _ _).from _, ⟨pre, (⟨x0, y0⟩, ⟨x1, y1⟩), ⟨rfl, rfl, by simp [risesB]; omega⟩, by have := b2.set_ 0 (.int .i64 10); simpa using this⟩, hbb.setCell (by simp) _⟩
   ·
    gi_wp2
    exact ⟨KeepsFrom.refl _ _, Below.refl _ _, fun q hq => (List.mem_append.1 hq).elim (HP.out q) (fun e => by simp at e; subst e; simp [risesB]; omega), HB.out⟩
 case done =>
  rintro D ys W hD rfl ⟨hp, hB1⟩ hK
  have b2 := bR.below hB1 (by omega)
  have e0 : W.cell? ⟨w.heap.size, 0, none⟩ = some (.int .i64 0) := b2.cell 0
  have f0 := b2.frozen 0
  have HK := Aside0.mk hK
  have HP := Aside0.mk hp
  have HB := Aside0.mk hB1
  clear hK hp hB1
  gi_wp2
  have hbb : Below w.heap.size w W := hB0.trans (HB.out.mono (by omega))
  have hbb4 := hbb.setCell (p := ⟨w.heap.size, 0, none⟩) (by simp) (.int .i64 0)
  have b4 : Blk (W.setCell ⟨w.heap.size, 0, none⟩ (.int .i64 0)) w.heap.size 28 #[.int .i64 0] := by have := b2.set_ 0 (.int .i64 0); simpa using this
  have hK' : (W.setCell ⟨w.heap.size, 0, none⟩ (.int .i64 0)).heap[D]? = some (.deferred (some [])) := (KeepsOthers.setCell _ _ _).same D _ HK.out rfl
  refine ⟨by simp, .inl ⟨_, _, rfl, run_takeDeferred hK', ?_⟩⟩
  have g0 := (b4.grown (grownBy_putObj' _ D (.deferred none)) (by simp; omega)).cell 0
  refine ⟨.int .i64 0, ?_, .inl ⟨?_, rfl⟩, hbb4.trans (belowK_b (w := w) (Nat.le_refl _) _ D _ _ (by omega) hK' rfl rfl)⟩
  ·
   clear HK HP HB hbb hbb4 b4 hK' b2 e0 f0
   simp [results, Tryd.f30, go_sem, g0]
  ·
   rw [incB_eq, List.all_eq_true]; exact HP.out
 case stop =>
  rintro D j pre W hD ⟨k, hk⟩ ⟨⟨ini, last, ⟨rfl, hpre, hlast⟩, b2⟩, hB1⟩ hK
  have HK := Aside0.mk hK
  clear hK
  gi_wp2
  refine ⟨by simp, .inl ⟨_, _, rfl, run_takeDeferred HK.out, ?_⟩⟩
  have g0 := (b2.grown (grownBy_putObj' _ D (.deferred none)) (by simp; omega)).cell 0
  refine ⟨.int .i64 10, ?_, .inr ⟨?_, rfl⟩, hB1.trans (belowK_b (w := w) (Nat.le_refl _) _ D _ _ (by omega) HK.out rfl rfl)⟩
  ·
   clear HK b2 hB1
   simp [results, Tryd.f30, go_sem, g0]
  ·
   rw [incB_eq, List.all_eq_false]
   exact ⟨last, List.mem_of_mem_take (i := k) (by rw [← hk, hpre]; simp), by rw [hlast]; simp⟩
set_option maxRecDepth 100000 in
set_option maxHeartbeats 400000 in
theorem check_short (A : Option Addr) (cap : Nat) (c : List S57) (w : World) (h2 : c.length < 2) :
  Calls Tryd.prog 30 #[.slice A c.length cap] w fun e W' => e = .returned (.int .i64 10) ∧ Below w.heap.size w W' := by
 have t1 : decide ((c.length : Int) < 2) = true := decide_eq_true (by omega)
 go_enter Tryd.func30, Tryd.ntmps30
 go_wp2_with fail
 exact bodyPost_ret (v := .int .i64 10) (by simp [results, Tryd.f30, go_sem]) rfl ⟨rfl, (Below.refl _ _).alloc (Nat.le_refl _) _⟩
set_option maxRecDepth 100000 in
set_option maxHeartbeats 400000 in
theorem check_long (A : Option Addr) (cap : Nat) (c : List S57) (w : World) (h2 : 64 < c.length) :
  Calls Tryd.prog 30 #[.slice A c.length cap] w fun e W' => e = .returned (.int .i64 10) ∧ Below w.heap.size w W' := by
 have t1 : decide ((c.length : Int) < 2) = false := decide_eq_false (by omega)
 have t2 : decide ((64 : Int) < c.length) = true := decide_eq_true (by omega)
 go_enter Tryd.func30, Tryd.ntmps30
 go_wp2_with fail
 exact bodyPost_ret (v := .int .i64 10) (by simp [results, Tryd.f30, go_sem]) rfl ⟨rfl, (Below.refl _ _).alloc (Nat.le_refl _) _⟩
set_option maxRecDepth 100000 in
set_option maxHeartbeats 400000 in
theorem check_wrong (A : Option Addr) (cap : Nat) (c : List S57) (w : World) (hr : Kd.C k57 w A c.length c) (hc : c.length ≤ cap) (h2 : 2 ≤ c.length) (h64 : c.length ≤ 64) (hR : rightB c = false) :
  Calls Tryd.prog 30 #[.slice A c.length cap] w fun e W' => e = .returned (.int .i64 10) ∧ Below w.heap.size w W' := by
 have HRT := Aside0.mk (show curve_right.f c = some false by unfold curve_right.f; rw [hR])
 have HR := Aside0.mk hr
 clear hr hR
 have t1 : decide ((c.length : Int) < 2) = false := decide_eq_false (by omega)
 have t2 : decide ((64 : Int) < c.length) = false := decide_eq_false (by omega)
 go_enter Tryd.func30, Tryd.ntmps30
 go_wp2_with fail
 refine (curve_right.calls A cap c false _ (Kd.C_alloc HR.out _) hc HRT.out).mono ?_
 rintro e w1 ⟨rfl, hb1⟩
 have b2 : Blk w1 w.heap.size 28 #[.int .i64 0] := (Blk.new w 28 _).below hb1 (by simp)
 have e0 : w1.cell? ⟨w.heap.size, 0, none⟩ = some (.int .i64 0) := b2.cell 0
 have f0 := b2.frozen 0
 have b3 : Blk (w1.setCell ⟨w.heap.size, 0, none⟩ (.int .i64 10)) w.heap.size 28 #[.int .i64 10] := by have := b2.set_ 0 (.int .i64 10); simpa using this
 have HB := Aside0.mk ((((Below.refl _ w).alloc (Nat.le_refl _) _).trans (hb1.mono (by simp))).setCell (p := ⟨w.heap.size, 0, none⟩) (by simp) (.int .i64 10))
 have g0 := b3.cell 0
 have G0 := Aside0.mk g0
 clear hb1 g0
 go_wp2_with fail
 have g0 := G0.out
 exact bodyPost_ret (v := .int .i64 10) (by simp [results, Tryd.f30, go_sem, g0]) rfl ⟨rfl, HB.out⟩
theorem curve_Check.calls (A0 : Option Addr) (c0 : Nat) (l0 : List S57) (r : Int) (w : World) (hr0 : Kd.C k57 w A0 l0.length l0) (hc0 : l0.length ≤ c0) (h : curve_Check.f l0 = some r) :
  Calls Tryd.prog 30 #[.slice A0 l0.length c0] w fun e w' => e = .returned (.int .i64 r) ∧ Below w.heap.size w w' := by
 simp only [curve_Check.f, Option.some.injEq] at h
 subst h
 have hg : goodB l0 = (decide (2 ≤ l0.length) && decide (l0.length ≤ 64) && rightB l0 && incB l0) := rfl
 by_cases h2 : l0.length < 2
 ·
  rw [hg, decide_eq_false (by omega)]; exact check_short A0 c0 l0 w h2
 ·
  by_cases h64 : 64 < l0.length
  ·
   rw [hg, decide_eq_false (p := l0.length ≤ 64) (by omega), Bool.and_false]; exact check_long A0 c0 l0 w h64
  ·
   rw [hg, decide_eq_true (p := 2 ≤ l0.length) (by omega), decide_eq_true (p := l0.length ≤ 64) (by omega)]
   cases hR : rightB l0
   ·
    exact check_wrong A0 c0 l0 w hr0 hc0 (by omega) (by omega) hR
   ·
    refine (check_loop A0 c0 l0 w hr0 hc0 (by omega) (by omega) hR).mono ?_
    rintro e w' ⟨⟨hi, rfl⟩ | ⟨hi, rfl⟩, hb⟩
    ·
     rw [hi]; exact ⟨rfl, hb⟩
    ·
     rw [hi]; exact ⟨rfl, hb⟩
end Go.Proofs.YtlhhpogaaneamaaDoor.X
namespace Go.Proofs.YtlhhpogaaneamaaDoor.X
open Go.RowKit Go.Shelf Go.Proofs.YtlhhpogaaneamaaDoorW.PrintWords Go.Proofs.YtlhhpogaaneamaaDoorW.PrintLast Go.Proofs.YtlhhpogaaneamaaDoorW.PrintMore
set_option linter.unusedVariables false
attribute [local go_sem] Oper.semAt_some
theorem within_quiet {w w1 : World} {A : Option Addr} {cap : Nat} {c : List S57} {x : Int} {r : Bool} {n : Nat} (hr : Kd.C k57 w A c.length c) (hb : Below w.heap.size w w1) (hc : c.length ≤ cap) (h : curve_within.f c x = some r) :
  Calls Tryd.prog 71 #[.slice A c.length cap, .int .i64 x] (w1.drewN n) fun e w'' => e = .returned (.bool r) ∧ ∃ m, w'' = w1.drewN m :=
 Calls.quiet_of ((curve_within.calls A cap c x r (w1.drewN n) (Kd.C_below hr (pw_below_drewN hb _)) hc h).mono fun e w2 ⟨he, hd⟩ => ⟨he, hd.out⟩)
theorem within_eq {c : List S57} (h : Good c) {x : Int} : curve_within.f c x = some (inB c x) := by
 have h2 := h.len2
 have h6 := h.len64
 have e0 : (c.headD z57) = rd_T57 c 0 := by rw [headD_eq (by omega)]; rfl
 have eL : (c.getLastD z57) = rd_T57 c ((c.length : Int) - 1) := by rw [lastD_eq (by omega)]; unfold rd_T57; rw [show ((c.length : Int) - 1).toNat = c.length - 1 by omega]
 unfold curve_within.f inB
 rw [e0, eL, w64 (n := (c.length : Int) - 1) (by omega) (by omega), if_pos (show (0 : Int) < c.length by omega), if_pos (show (0 : Int) ≤ (c.length : Int) - 1 by omega), if_pos (show (c.length : Int) - 1 < c.length by omega)]
 by_cases hx : (rd_T57 c 0).f0 ≤ x
 ·
  rw [if_pos hx, decide_eq_true hx]; simp
 ·
  rw [if_neg hx, decide_eq_false hx]; simp
def rateOf (x : Int) (ls : List (S57 × S57)) : Int × Int := match ls.reverse.find? (hasB x) with | some l => rateI l | none => (0, 0)
theorem rateOf_T {x : Int} {l : S57 × S57} (pre : List (S57 × S57)) (h : hasB x l = true) : rateOf x (pre ++ [l]) = rateI l := by
 simp [rateOf, h]
theorem rateOf_F {x : Int} {l : S57 × S57} (pre : List (S57 × S57)) (h : hasB x l = false) : rateOf x (pre ++ [l]) = rateOf x pre := by
 simp [rateOf, h]
set_option maxRecDepth 100000 in
set_option maxHeartbeats 4000000 in
theorem rate_bad (A : Option Addr) (cap : Nat) (c : List S57) (x : Int) (w : World) (hr : Kd.C k57 w A c.length c) (hc : c.length ≤ cap) (hg : goodB c = false) :
  Calls Tryd.prog 28 #[.slice A c.length cap, .int .i64 x] w fun e w' => e = .returned (.tuple #[.agg #[.int .i64 0, .int .i64 0], .int .i64 10]) ∧ Below w.heap.size w w' := by
 have hu25 := Tryd.underlying25
 have HR := Aside0.mk hr
 have HX := Aside0.mk (show Blk ((w.alloc (.cells #[.int .i64 x] 3)).alloc (.cells #[.int .i64 0, .int .i64 0] 25)) w.heap.size 3 #[.int .i64 x] from (Blk.new w 3 _).alloc _)
 have HZ := Aside0.mk (show Blk ((w.alloc (.cells #[.int .i64 x] 3)).alloc (.cells #[.int .i64 0, .int .i64 0] 25)) (w.heap.size + 1) 25 #[.int .i64 0, .int .i64 0] by
   have h := Blk.new (w.alloc (.cells #[.int .i64 x] 3)) 25 #[.int .i64 0, .int .i64 0]; rwa [World.size_alloc] at h)
 have HB := Aside0.mk (show Below w.heap.size w ((w.alloc (.cells #[.int .i64 x] 3)).alloc (.cells #[.int .i64 0, .int .i64 0] 25)) from ((Below.refl _ w).alloc (Nat.le_refl _) _).alloc (by simp) _)
 clear hr
 have HC := Aside0.mk (show curve_Check.f c = some 10 by simp [curve_Check.f, hg])
 clear hg
 go_enter Tryd.func28, Tryd.ntmps28
 go_wp2_with fail
 refine (curve_Check.calls A cap c 10 _ (Kd.C_below HR.out HB.out) hc HC.out).mono ?_
 rintro e w1 ⟨rfl, hb⟩
 have bX := HX.out.below hb (by simp; omega)
 have bZ := HZ.out.below hb (by simp)
 have HBX := Aside0.mk bX
 have HBZ := Aside0.mk bZ
 have HB1 := Aside0.mk (HB.out.trans (hb.mono HB.out.size))
 have c1 : w1.cell? ⟨w.heap.size, 0, none⟩ = some (.int .i64 x) := bX.cell 0
 have z0 : w1.cell? ⟨w.heap.size + 1, 0, none⟩ = some (.int .i64 0) := bZ.cell 0
 have z1 : w1.cell? ⟨w.heap.size + 1, 1, none⟩ = some (.int .i64 0) := bZ.cell 1
 have f0 := bZ.frozen 0
 have f1 := bZ.frozen 1
 clear hb bX bZ
 have b3 : Blk ((w1.setCell ⟨w.heap.size + 1, 0, none⟩ (.int .i64 0)).setCell ⟨w.heap.size + 1, 1, none⟩ (.int .i64 0)) (w.heap.size + 1) 25 #[.int .i64 0, .int .i64 0] := by have := (HBZ.out.set_ 0 (.int .i64 0)).set_ 1 (.int .i64 0); simpa using this
 have HB2 := Aside0.mk ((HB1.out.setCell (p := ⟨w.heap.size + 1, 0, none⟩) (by simp) (.int .i64 0)).setCell (p := ⟨w.heap.size + 1, 1, none⟩) (by simp) (.int .i64 0))
 have G := Aside0.mk b3
 clear b3
 go_wp2_with fail
 have g0 := G.out.cell 0
 have g1 := G.out.cell 1
 exact bodyPost_ret (v := .tuple #[.agg #[.int .i64 0, .int .i64 0], .int .i64 10]) (by simp [results, Tryd.f28, go_sem, g0, g1]) rfl ⟨rfl, HB2.out⟩
set_option maxRecDepth 100000 in
set_option maxHeartbeats 4000000 in
theorem rate_out (A : Option Addr) (cap : Nat) (c : List S57) (x : Int) (w : World) (hr : Kd.C k57 w A c.length c) (hc : c.length ≤ cap) (hg : goodB c = true) (hx : inB c x = false) :
  Calls Tryd.prog 28 #[.slice A c.length cap, .int .i64 x] w fun e w' => e = .returned (.tuple #[.agg #[.int .i64 0, .int .i64 0], .int .i64 1]) ∧ Below w.heap.size w w' := by
 have hu25 := Tryd.underlying25
 have HR := Aside0.mk hr
 have HX := Aside0.mk (show Blk ((w.alloc (.cells #[.int .i64 x] 3)).alloc (.cells #[.int .i64 0, .int .i64 0] 25)) w.heap.size 3 #[.int .i64 x] from (Blk.new w 3 _).alloc _)
 have HZ := Aside0.mk (show Blk ((w.alloc (.cells #[.int .i64 x] 3)).alloc (.cells #[.int .i64 0, .int .i64 0] 25)) (w.heap.size + 1) 25 #[.int .i64 0, .int .i64 0] by
   have h := Blk.new (w.alloc (.cells #[.int .i64 x] 3)) 25 #[.int .i64 0, .int .i64 0]; rwa [World.size_alloc] at h)
 have HB := Aside0.mk (show Below w.heap.size w ((w.alloc (.cells #[.int .i64 x] 3)).alloc (.cells #[.int .i64 0, .int .i64 0] 25)) from ((Below.refl _ w).alloc (Nat.le_refl _) _).alloc (by simp) _)
 clear hr
 have HG := Aside0.mk (good_of hg)
 have HC := Aside0.mk (show curve_Check.f c = some 0 by simp [curve_Check.f, hg])
 have hl2 := HG.out.len2
 have hl64 := HG.out.len64
 obtain ⟨ad, e259, hy0, hy1⟩ := at_T57 HR.out ((c.length : Int) - 1) (by omega) (by omega)
 cases e259
 have HP2 := Aside0.mk hy0
 clear hy0 hy1
 have HW := Aside0.mk (show curve_within.f c x = some false by rw [within_eq HG.out, hx])
 clear hx
 clear hg
 go_enter Tryd.func28, Tryd.ntmps28
 go_wp2_with fail
 refine (curve_Check.calls (some ad) cap c 0 _ (Kd.C_below HR.out HB.out) hc HC.out).mono ?_
 rintro e w1 ⟨rfl, hb⟩
 have bX := HX.out.below hb (by simp; omega)
 have bZ := HZ.out.below hb (by simp)
 have HBX := Aside0.mk bX
 have HBZ := Aside0.mk bZ
 have HB1 := Aside0.mk (HB.out.trans (hb.mono HB.out.size))
 have c1 : w1.cell? ⟨w.heap.size, 0, none⟩ = some (.int .i64 x) := bX.cell 0
 have z0 : w1.cell? ⟨w.heap.size + 1, 0, none⟩ = some (.int .i64 0) := bZ.cell 0
 have z1 : w1.cell? ⟨w.heap.size + 1, 1, none⟩ = some (.int .i64 0) := bZ.cell 1
 have f0 := bZ.frozen 0
 have f1 := bZ.frozen 1
 clear hb bX bZ
 have y0 := (HB1.out.cell (World.block_lt_of_cell? w _ HP2.out)).trans HP2.out
 rw [show ((c.length : Int) - 1).toNat = c.length - 1 by omega] at y0
 have q1 : ¬ ((c.length : Int) - 1 < 0) := by omega
 have qi : IntKind.i64.wrap ((c.length : Int) - 1) = (c.length : Int) - 1 := IntWalk.i64_in _ (by omega)
 have q2 : 0 ≤ (c.length : Int) - 1 := by omega
 have q3 : (c.length : Int) - 1 < c.length := by omega
 have q5 : 1 ≤ (c.length : Int) := by omega
 have q4 : ((c.length : Int) - 1).toNat = c.length - 1 := by omega
 have HZ2 := Aside0.mk (show Blk w1 (w.heap.size + 1) 25 #[.int .i64 0, .int .i64 0] from HBZ.out)
 go_wp2_with fail
 go_quiet ((go_at_call 71; exact within_quiet HR.out HB1.out hc HW.out))
 have b3 : Blk (((w1.drewN nq).setCell ⟨w.heap.size + 1, 0, none⟩ (.int .i64 0)).setCell ⟨w.heap.size + 1, 1, none⟩ (.int .i64 0)) (w.heap.size + 1) 25 #[.int .i64 0, .int .i64 0] := by have := ((HBZ.out.drewN nq).set_ 0 (.int .i64 0)).set_ 1 (.int .i64 0); simpa using this
 have HB2 := Aside0.mk (((pw_below_drewN HB1.out nq).setCell (p := ⟨w.heap.size + 1, 0, none⟩) (by simp) (.int .i64 0)).setCell (p := ⟨w.heap.size + 1, 1, none⟩) (by simp) (.int .i64 0))
 have G := Aside0.mk b3
 clear b3
 go_wp2_with fail
 have g0 := G.out.cell 0
 have g1 := G.out.cell 1
 exact bodyPost_ret (v := .tuple #[.agg #[.int .i64 0, .int .i64 0], .int .i64 1]) (by simp [results, Tryd.f28, go_sem, g0, g1]) rfl ⟨rfl, HB2.out⟩
set_option maxRecDepth 100000 in
set_option maxHeartbeats 4000000 in
theorem rate_end (A : Option Addr) (cap : Nat) (c : List S57) (x : Int) (w : World) (hr : Kd.C k57 w A c.length c) (hc : c.length ≤ cap) (hg : goodB c = true) (hx : inB c x = true) (hl : x = (rd_T57 c ((c.length : Int) - 1)).f0) :
  Calls Tryd.prog 28 #[.slice A c.length cap, .int .i64 x] w fun e w' => e = .returned (.tuple #[.agg #[.int .i64 0, .int .i64 0], .int .i64 1]) ∧ Below w.heap.size w w' := by
 have hu25 := Tryd.underlying25
 have HR := Aside0.mk hr
 have HX := Aside0.mk (show Blk ((w.alloc (.cells #[.int .i64 x] 3)).alloc (.cells #[.int .i64 0, .int .i64 0] 25)) w.heap.size 3 #[.int .i64 x] from (Blk.new w 3 _).alloc _)
 have HZ := Aside0.mk (show Blk ((w.alloc (.cells #[.int .i64 x] 3)).alloc (.cells #[.int .i64 0, .int .i64 0] 25)) (w.heap.size + 1) 25 #[.int .i64 0, .int .i64 0] by
   have h := Blk.new (w.alloc (.cells #[.int .i64 x] 3)) 25 #[.int .i64 0, .int .i64 0]; rwa [World.size_alloc] at h)
 have HB := Aside0.mk (show Below w.heap.size w ((w.alloc (.cells #[.int .i64 x] 3)).alloc (.cells #[.int .i64 0, .int .i64 0] 25)) from ((Below.refl _ w).alloc (Nat.le_refl _) _).alloc (by simp) _)
 clear hr
 have HG := Aside0.mk (good_of hg)
 have HC := Aside0.mk (show curve_Check.f c = some 0 by simp [curve_Check.f, hg])
 have hl2 := HG.out.len2
 have hl64 := HG.out.len64
 obtain ⟨ad, e259, hy0, hy1⟩ := at_T57 HR.out ((c.length : Int) - 1) (by omega) (by omega)
 cases e259
 have HP2 := Aside0.mk hy0
 clear hy0 hy1
 have HW := Aside0.mk (show curve_within.f c x = some true by rw [within_eq HG.out, hx])
 have t9 : (x == (rd_T57 c ((c.length : Int) - 1)).f0) = true := by simp [hl]
 clear hx hl
 clear hg
 go_enter Tryd.func28, Tryd.ntmps28
 go_wp2_with fail
 refine (curve_Check.calls (some ad) cap c 0 _ (Kd.C_below HR.out HB.out) hc HC.out).mono ?_
 rintro e w1 ⟨rfl, hb⟩
 have bX := HX.out.below hb (by simp; omega)
 have bZ := HZ.out.below hb (by simp)
 have HBX := Aside0.mk bX
 have HBZ := Aside0.mk bZ
 have HB1 := Aside0.mk (HB.out.trans (hb.mono HB.out.size))
 have c1 : w1.cell? ⟨w.heap.size, 0, none⟩ = some (.int .i64 x) := bX.cell 0
 have z0 : w1.cell? ⟨w.heap.size + 1, 0, none⟩ = some (.int .i64 0) := bZ.cell 0
 have z1 : w1.cell? ⟨w.heap.size + 1, 1, none⟩ = some (.int .i64 0) := bZ.cell 1
 have f0 := bZ.frozen 0
 have f1 := bZ.frozen 1
 clear hb bX bZ
 have y0 := (HB1.out.cell (World.block_lt_of_cell? w _ HP2.out)).trans HP2.out
 rw [show ((c.length : Int) - 1).toNat = c.length - 1 by omega] at y0
 have q1 : ¬ ((c.length : Int) - 1 < 0) := by omega
 have qi : IntKind.i64.wrap ((c.length : Int) - 1) = (c.length : Int) - 1 := IntWalk.i64_in _ (by omega)
 have q2 : 0 ≤ (c.length : Int) - 1 := by omega
 have q3 : (c.length : Int) - 1 < c.length := by omega
 have q5 : 1 ≤ (c.length : Int) := by omega
 have q4 : ((c.length : Int) - 1).toNat = c.length - 1 := by omega
 have HZ2 := Aside0.mk (show Blk w1 (w.heap.size + 1) 25 #[.int .i64 0, .int .i64 0] from HBZ.out)
 go_wp2_with fail
 go_quiet ((go_at_call 71; exact within_quiet HR.out HB1.out hc HW.out))
 have b3 : Blk (((w1.drewN nq).setCell ⟨w.heap.size + 1, 0, none⟩ (.int .i64 0)).setCell ⟨w.heap.size + 1, 1, none⟩ (.int .i64 0)) (w.heap.size + 1) 25 #[.int .i64 0, .int .i64 0] := by have := ((HBZ.out.drewN nq).set_ 0 (.int .i64 0)).set_ 1 (.int .i64 0); simpa using this
 have HB2 := Aside0.mk (((pw_below_drewN HB1.out nq).setCell (p := ⟨w.heap.size + 1, 0, none⟩) (by simp) (.int .i64 0)).setCell (p := ⟨w.heap.size + 1, 1, none⟩) (by simp) (.int .i64 0))
 have G := Aside0.mk b3
 clear b3
 go_wp2_with fail
 have g0 := G.out.cell 0
 have g1 := G.out.cell 1
 exact bodyPost_ret (v := .tuple #[.agg #[.int .i64 0, .int .i64 0], .int .i64 1]) (by simp [results, Tryd.f28, go_sem, g0, g1]) rfl ⟨rfl, HB2.out⟩
def rateM (x : Int) {c : List S57} (pre : List (LineIn c)) : Int × Int := rateOf x (pre.map (fun l => l.1))
def RateH (W0 w1 : World) (x : Int) {c : List S57} (pre : List (LineIn c)) (W : World) : Prop := Blk W w1.heap.size 25 #[.int .i64 (rateM x pre).1, .int .i64 (rateM x pre).2] ∧ Below w1.heap.size W0 W
set_option maxRecDepth 100000 in
set_option maxHeartbeats 4000000 in
theorem rate_in (A : Option Addr) (cap : Nat) (c : List S57) (x : Int) (w : World) (hr : Kd.C k57 w A c.length c) (hc : c.length ≤ cap) (hg : goodB c = true) (hx : inB c x = true) (hl : x ≠ (rd_T57 c ((c.length : Int) - 1)).f0) :
  Calls Tryd.prog 28 #[.slice A c.length cap, .int .i64 x] w fun e w' => e = .returned (.tuple #[.agg #[.int .i64 (rateOf x (linesOf c)).1, .int .i64 (rateOf x (linesOf c)).2], .int .i64 0]) ∧ Below w.heap.size w w' := by
 have hu25 := Tryd.underlying25
 have HR := Aside0.mk hr
 have HX := Aside0.mk (show Blk ((w.alloc (.cells #[.int .i64 x] 3)).alloc (.cells #[.int .i64 0, .int .i64 0] 25)) w.heap.size 3 #[.int .i64 x] from (Blk.new w 3 _).alloc _)
 have HZ := Aside0.mk (show Blk ((w.alloc (.cells #[.int .i64 x] 3)).alloc (.cells #[.int .i64 0, .int .i64 0] 25)) (w.heap.size + 1) 25 #[.int .i64 0, .int .i64 0] by
   have h := Blk.new (w.alloc (.cells #[.int .i64 x] 3)) 25 #[.int .i64 0, .int .i64 0]; rwa [World.size_alloc] at h)
 have HB := Aside0.mk (show Below w.heap.size w ((w.alloc (.cells #[.int .i64 x] 3)).alloc (.cells #[.int .i64 0, .int .i64 0] 25)) from ((Below.refl _ w).alloc (Nat.le_refl _) _).alloc (by simp) _)
 clear hr
 have HG := Aside0.mk (good_of hg)
 have HC := Aside0.mk (show curve_Check.f c = some 0 by simp [curve_Check.f, hg])
 have hl2 := HG.out.len2
 have hl64 := HG.out.len64
 obtain ⟨ad, e259, hy0, hy1⟩ := at_T57 HR.out ((c.length : Int) - 1) (by omega) (by omega)
 cases e259
 have HP2 := Aside0.mk hy0
 clear hy0 hy1
 have HW := Aside0.mk (show curve_within.f c x = some true by rw [within_eq HG.out, hx])
 have t9 : (x == (rd_T57 c ((c.length : Int) - 1)).f0) = false := by simp [hl]
 clear hx hl hg
 refine (callsIn_wide (n := 6)).1 ?_
 refine callsIn_of_wp_marks Tryd.func28 rfl trivial ?_ rfl
 simp only [Tryd.ntmps28, List.size_toArray, List.length_cons, List.length_nil, Nat.reduceAdd, Nat.reduceSub, Array.replicate_succ, Array.replicate_zero, List.push_toArray, List.append_toArray, List.nil_append, List.cons_append]
 have hu72 := Tryd.underlying72
 refine wpIn_wide.2 ?_
 go_wp2_with fail
 refine (curve_Check.calls (some ad) cap c 0 _ (Kd.C_below HR.out HB.out) hc HC.out).mono ?_
 rintro e w1 ⟨rfl, hb⟩
 have bX := HX.out.below hb (by simp; omega)
 have bZ := HZ.out.below hb (by simp)
 have HBX := Aside0.mk bX
 have HBZ := Aside0.mk bZ
 have HB1 := Aside0.mk (HB.out.trans (hb.mono HB.out.size))
 have c1 : w1.cell? ⟨w.heap.size, 0, none⟩ = some (.int .i64 x) := bX.cell 0
 have z0 : w1.cell? ⟨w.heap.size + 1, 0, none⟩ = some (.int .i64 0) := bZ.cell 0
 have z1 : w1.cell? ⟨w.heap.size + 1, 1, none⟩ = some (.int .i64 0) := bZ.cell 1
 have f0 := bZ.frozen 0
 have f1 := bZ.frozen 1
 clear hb bX bZ
 have y0 := (HB1.out.cell (World.block_lt_of_cell? w _ HP2.out)).trans HP2.out
 rw [show ((c.length : Int) - 1).toNat = c.length - 1 by omega] at y0
 have q1 : ¬ ((c.length : Int) - 1 < 0) := by omega
 have qi : IntKind.i64.wrap ((c.length : Int) - 1) = (c.length : Int) - 1 := IntWalk.i64_in _ (by omega)
 have q2 : 0 ≤ (c.length : Int) - 1 := by omega
 have q3 : (c.length : Int) - 1 < c.length := by omega
 have q5 : 1 ≤ (c.length : Int) := by omega
 have q4 : ((c.length : Int) - 1).toNat = c.length - 1 := by omega
 go_wp2_with fail
 go_quiet ((go_at_call 71; exact within_quiet HR.out HB1.out hc HW.out))
 go_wp2_with fail
 refine ((callsIn_wide (n := 6)).1 (lines_in Fence.wide _ trivial rfl _ _ _ _)).mono ?_
 rintro e w' ⟨rfl, rfl⟩
 go_wp2_with fail
 obtain ⟨W0, hW0⟩ : ∃ W0, ((w1.drewN nq).alloc (.cells #[.int .i64 0, .int .i64 0] 25)).alloc (.cells #[.slice (some ad) c.length cap] 23) = W0 := ⟨_, rfl⟩
 have hs1 := HB1.out.size
 have hlt1 : w.heap.size + 1 < w1.heap.size := HBZ.out.lt
 have bX : Blk W0 w.heap.size 3 #[.int .i64 x] := by rw [← hW0]; exact ((HBX.out.drewN nq).alloc _).alloc _
 have bZ : Blk W0 (w.heap.size + 1) 25 #[.int .i64 0, .int .i64 0] := by rw [← hW0]; exact ((HBZ.out.drewN nq).alloc _).alloc _
 have bR : Blk W0 w1.heap.size 25 #[.int .i64 0, .int .i64 0] := by rw [← hW0]; exact (Blk.new (w1.drewN nq) 25 _).alloc _
 have bC : Blk W0 (w1.heap.size + 1) 23 #[.slice (some ad) c.length cap] := by
  rw [← hW0]; have h := Blk.new ((w1.drewN nq).alloc (.cells #[.int .i64 0, .int .i64 0] 25)) 23 #[.slice (some ad) c.length cap]; rwa [World.size_alloc] at h
 have hsz : W0.heap.size = w1.heap.size + 2 := by rw [← hW0]; simp
 have hB0 : Below w.heap.size w W0 := by rw [← hW0]; exact ((pw_below_drewN HB1.out nq).alloc (by simpa using hs1) _).alloc (by simp; omega) _
 rw [hW0]
 clear hW0 c1 z0 z1 f0 f1 y0
 refine (wpIn_wide (n := 6)).1 ?_
 refine wpIn_rangeFunc_ownH rfl (by omega) (gf := 101) (lb := #[.pointer (some ⟨w1.heap.size + 1, 0, none⟩)]) rfl trivial (enters_of Tryd.func101 (by kernel_rfl) rfl)
  (lines_stopsM Fence.wide _ trivial rfl (by omega) (w1.heap.size + 1) w1.heap.size (some ad) cap c w (by omega) HR.out W0 hB0 (by omega) (by omega) (by rw [bC.cell]; rfl)) KeepB.trans (keepB_b (by omega) (by omega)) (Below.refl _ _) (fun _ => rfl)
  (RateH W0 w1 x) (fun _ _ _ => False)
  (OwnFrom.and (Own.from (blk_own _ _ (fun s : List (LineIn c) => #[.int .i64 (rateM x s).1, .int .i64 (rateM x s).2])) _) (ownFrom_below (by omega) (by omega)))
  (fun j => Own.from (fun s X Y row hs hg hrow => hs.elim) _)
  ⟨bR, Below.refl _ _⟩
  (fun (l : LineIn c) a' W => ∃ Bx, W0.heap.size ≤ Bx ∧ Blk W Bx 72 (cells4 l.1) ∧ a' = { tmps := #[.slice (some ad) c.length cap, .int .i64 x, undef, .pointer (some ⟨w.heap.size, 0, none⟩), .pointer (some ⟨w.heap.size + 1, 0, none⟩), .int .i64 0, .int .i64 0, .pointer (some ⟨w1.heap.size, 0, none⟩), .pointer (some ⟨Bx, 0, none⟩), .slice (some ad) c.length cap, .int .i64 0, .int .i64 0, .bool false, undef, undef, .slice (some ad) c.length cap, .int .i64 x, .bool true, .bool false, .bool false, .int .i64 x, .slice (some ad) c.length cap, .slice (some ad) c.length cap, .int .i64 c.length, .int .i64 ((c.length : Int) - 1), .pointer (some (ad.add ((c.length - 1) * 2))), .pointer (some (ad.add ((c.length - 1) * 2))), .int .i64 (rd_T57 c ((c.length : Int) - 1)).f0, .bool false, .bool false, undef, .slice (some ad) c.length cap, .func (.func 101) #[] #[.pointer (some ⟨w1.heap.size + 1, 0, none⟩)], .agg (cells4 l.1), undef, undef, undef, undef, undef, undef], defers := [] })
  (fun l a' _ X Y row hs hg hrow => by obtain ⟨Bx, h1, h2, h3⟩ := hs; exact ⟨Bx, h1, blk_own Bx 72 (fun (_ : Unit) => cells4 l.1) () X Y row h2 hg (fun r e => (hrow r e).2), h3⟩)
  ?assign ?body ?done ?stop
 case assign =>
  rintro l pre ln W K ⟨hp, hB1⟩ hK
  have hsW := hB1.size
  obtain ⟨⟨⟨x0, y0⟩, ⟨x1, y1⟩⟩, hml⟩ := ln
  simp only [encL]
  gi_wp2
  exact hK _ _ ((KeepsOthers.alloc _ _).from _) ⟨(Below.refl _ W).alloc (by omega) _, Below.heap_alloc W _ _ (by omega)⟩ ⟨hp.alloc _, hB1.alloc (by omega) _⟩ ⟨W.heap.size, by omega, Blk.new W 72 _, rfl⟩
 case body =>
  rintro l pre ln a' W hl ⟨r, hr'⟩ ⟨hbR, hB1⟩ ⟨Bx, hBx, bX', rfl⟩ hlt
  obtain ⟨⟨⟨x0, y0⟩, ⟨x1, y1⟩⟩, hml⟩ := ln
  have hok := good_line HG.out hml
  simp only [cells4] at bX' ⊢
  have c0 : W.cell? ⟨Bx, 0, none⟩ = some (.int .i64 x0) := bX'.cell 0
  have c1 : W.cell? ⟨Bx, 1, none⟩ = some (.int .i64 y0) := bX'.cell 1
  have c2 : W.cell? ⟨Bx, 2, none⟩ = some (.int .i64 x1) := bX'.cell 2
  have c3 : W.cell? ⟨Bx, 3, none⟩ = some (.int .i64 y1) := bX'.cell 3
  have hbX := bX.below hB1 (by omega)
  have cx : W.cell? ⟨w.heap.size, 0, none⟩ = some (.int .i64 x) := hbX.cell 0
  have HBR := Aside0.mk hbR
  have HBX := Aside0.mk hbX
  have HB := Aside0.mk hB1
  clear hbR hbX hB1
  cases hh : hasB x (⟨x0, y0⟩, ⟨x1, y1⟩)
  ·
   have HH := Aside0.mk hh
   clear hh
   gi_wp2_with (refine ⟨trivial, ?_⟩; gi_at_call 73; refine (CallsIn.inRound l (callsIn_wide.2 (has_F (⟨x0, y0⟩, ⟨x1, y1⟩) x _ HH.out))).mono ?_; rintro e w2 ⟨rfl, hb1⟩)
   have hsz1 := HBR.out.lt
   have hsz2 := HBX.out.lt
   have hsB := HB.out.size
   refine ⟨keepsFrom_below _ hb1, ⟨hb1.mono (by omega), hb1.block _ (by omega)⟩, ?_, HB.out.trans (hb1.mono (by omega))⟩
   have h := HBR.out.below hb1 hsz1
   simpa [rateM, rateOf_F, HH.out] using h
  ·
   have HH := Aside0.mk hh
   clear hh
   obtain ⟨k, hk⟩ := (rate_ev hok).one
   obtain ⟨⟨ra, rb⟩, hrr⟩ : ∃ q, rateI (⟨x0, y0⟩, ⟨x1, y1⟩) = q := ⟨_, rfl⟩
   rw [hrr] at hk
   have HK := Aside0.mk hk
   have HRR := Aside0.mk hrr
   clear hk hrr
   gi_wp2_with (refine ⟨trivial, ?_⟩; gi_at_call 73; refine (CallsIn.inRound l (callsIn_wide.2 (has_T (⟨x0, y0⟩, ⟨x1, y1⟩) x _ HH.out))).mono ?_; rintro e w2 ⟨rfl, hb1⟩; have d0 := (hb1.cell (p := ⟨Bx, 0, none⟩) bX'.lt).trans c0; have d1 := (hb1.cell (p := ⟨Bx, 1, none⟩) bX'.lt).trans c1; have d2 := (hb1.cell (p := ⟨Bx, 2, none⟩) bX'.lt).trans c2; have d3 := (hb1.cell (p := ⟨Bx, 3, none⟩) bX'.lt).trans c3)
   refine ⟨trivial, ?_⟩
   refine (CallsIn.inRound l (callsIn_wide.2 (curve_line_rate.calls k _ _ _ _ _ _ _ HK.out))).mono ?_
   rintro e w3 ⟨rfl, hb2⟩
   have hsB := HB.out.size
   have hbb := hb1.trans (hb2.mono hb1.size)
   have b2' := HBR.out.below hbb HBR.out.lt
   have e0 : w3.cell? ⟨w1.heap.size, 0, none⟩ = some (.int .i64 (rateM x pre).1) := b2'.cell 0
   have e1 : w3.cell? ⟨w1.heap.size, 1, none⟩ = some (.int .i64 (rateM x pre).2) := b2'.cell 1
   have f0 := b2'.frozen 0
   have f1 := b2'.frozen 1
   have HBB := Aside0.mk hbb
   have HB2 := Aside0.mk b2'
   clear hb1 hb2 hbb b2'
   gi_wp2
   have hrow : ∀ k, k ≠ w1.heap.size → ((w3.setCell ⟨w1.heap.size, 0, none⟩ (.int .i64 ra)).setCell ⟨w1.heap.size, 1, none⟩ (.int .i64 rb)).heap[k]? = w3.heap[k]? := fun k hk => by
    rw [Below.heap_setCell _ _ _ _ hk, Below.heap_setCell _ _ _ _ hk]
   refine ⟨((keepsFrom_below _ HBB.out).trans ((KeepsOthers.setCell _ _ _).from _)).trans ((KeepsOthers.setCell _ _ _).from _), ⟨((HBB.out.mono (by omega)).setCell (by simp) _).setCell (by simp) _, (hrow _ (by omega)).trans (HBB.out.block _ (by omega))⟩, ?_, ((HB.out.trans (HBB.out.mono (by omega))).setCell (by simp) _).setCell (by simp) _⟩
   have h := (HB2.out.set_ 0 (.int .i64 ra)).set_ 1 (.int .i64 rb)
   have er : rateM x (pre ++ [(⟨(⟨x0, y0⟩, ⟨x1, y1⟩), hml⟩ : LineIn c)]) = (ra, rb) := by unfold rateM; rw [List.map_append, ← HRR.out]; exact rateOf_T _ HH.out
   rw [er]; simpa using h
 case done =>
  rintro D ys W hD hys ⟨hbR, hB1⟩ hK
  have bR' : Blk W w1.heap.size 25 #[.int .i64 (rateOf x (linesOf c)).1, .int .i64 (rateOf x (linesOf c)).2] := by rw [← hys]; exact hbR
  have bZ' := bZ.below hB1 (by omega)
  have e0 : W.cell? ⟨w1.heap.size, 0, none⟩ = some (.int .i64 (rateOf x (linesOf c)).1) := bR'.cell 0
  have e1 : W.cell? ⟨w1.heap.size, 1, none⟩ = some (.int .i64 (rateOf x (linesOf c)).2) := bR'.cell 1
  have z0 : W.cell? ⟨w.heap.size + 1, 0, none⟩ = some (.int .i64 0) := bZ'.cell 0
  have z1 : W.cell? ⟨w.heap.size + 1, 1, none⟩ = some (.int .i64 0) := bZ'.cell 1
  have f0 := bZ'.frozen 0
  have f1 := bZ'.frozen 1
  have HK := Aside0.mk hK
  have HB := Aside0.mk hB1
  clear hK hB1 hbR
  go_wp2
  have b4 : Blk ((W.setCell ⟨w.heap.size + 1, 0, none⟩ (.int .i64 (rateOf x (linesOf c)).1)).setCell ⟨w.heap.size + 1, 1, none⟩ (.int .i64 (rateOf x (linesOf c)).2)) (w.heap.size + 1) 25 #[.int .i64 (rateOf x (linesOf c)).1, .int .i64 (rateOf x (linesOf c)).2] := by
   have := (bZ'.set_ 0 (.int .i64 (rateOf x (linesOf c)).1)).set_ 1 (.int .i64 (rateOf x (linesOf c)).2); simpa using this
  have hK' : ((W.setCell ⟨w.heap.size + 1, 0, none⟩ (.int .i64 (rateOf x (linesOf c)).1)).setCell ⟨w.heap.size + 1, 1, none⟩ (.int .i64 (rateOf x (linesOf c)).2)).heap[D]? = some (.deferred (some [])) :=
   ((KeepsOthers.setCell _ _ _).trans (KeepsOthers.setCell _ _ _)).same D _ HK.out rfl
  have hbb : Below w.heap.size w ((W.setCell ⟨w.heap.size + 1, 0, none⟩ (.int .i64 (rateOf x (linesOf c)).1)).setCell ⟨w.heap.size + 1, 1, none⟩ (.int .i64 (rateOf x (linesOf c)).2)) := ((hB0.trans (HB.out.mono (by omega))).setCell (by simp) _).setCell (by simp) _
  refine ⟨by simp, .inl ⟨_, _, rfl, run_takeDeferred hK', ?_⟩⟩
  have b5 := b4.grown (grownBy_putObj' _ D (.deferred none)) (by simp; omega)
  have g0 := b5.cell 0
  have g1 := b5.cell 1
  refine ⟨.tuple #[.agg #[.int .i64 (rateOf x (linesOf c)).1, .int .i64 (rateOf x (linesOf c)).2], .int .i64 0], ?_, rfl, hbb.trans (belowK_b (w := w) (Nat.le_refl _) _ D _ _ (by omega) hK' rfl rfl)⟩
  clear HK HB hbb b4 hK' b5 bR' bZ' e0 e1 z0 z1 f0 f1
  simp [results, Tryd.f28, go_sem, g0, g1]
 case stop =>
  rintro D j pre W hD ⟨k, hk⟩ hF hK
  exact hF.elim
theorem curve_Rate.calls (A0 : Option Addr) (c0 : Nat) (l0 : List S57) (a1 : Int) (r1 : Int) (r2 : Int) (r3 : Int) (w : World) (hr0 : Kd.C k57 w A0 l0.length l0) (hc0 : l0.length ≤ c0) (h : curve_Rate.f l0 a1 = some (r1, r2, r3)) :
  Calls Tryd.prog 28 #[.slice A0 l0.length c0, .int .i64 a1] w fun e w' => e = .returned (.tuple #[.agg #[.int .i64 r1, .int .i64 r2], .int .i64 r3]) ∧ Below w.heap.size w w' := by
 unfold curve_Rate.f at h
 by_cases hg : goodB l0 = true
 ·
  have h2 := (good_of hg).len2
  rw [if_pos hg, lastD_eq (by omega), show l0.getD (l0.length - 1) z57 = rd_T57 l0 ((l0.length : Int) - 1) by unfold rd_T57; rw [show ((l0.length : Int) - 1).toNat = l0.length - 1 by omega]] at h
  cases hx : inB l0 a1
  ·
   rw [hx, if_neg (by simp)] at h
   simp only [Option.some.injEq, Prod.mk.injEq] at h
   obtain ⟨rfl, rfl, rfl⟩ := h
   exact rate_out A0 c0 l0 a1 w hr0 hc0 hg hx
  ·
   by_cases hl : a1 = (rd_T57 l0 ((l0.length : Int) - 1)).f0
   ·
    rw [if_neg (fun q => q.2 hl)] at h
    simp only [Option.some.injEq, Prod.mk.injEq] at h
    obtain ⟨rfl, rfl, rfl⟩ := h
    exact rate_end A0 c0 l0 a1 w hr0 hc0 hg hx hl
   ·
    rw [if_pos ⟨hx, hl⟩] at h
    have H := rate_in A0 c0 l0 a1 w hr0 hc0 hg hx hl
    unfold rateOf at H
    unfold lineOn at h
    cases hf : (linesOf l0).reverse.find? (hasB a1) with
    | some l =>
     rw [hf] at H h
     simp only [Option.some.injEq, Prod.mk.injEq] at h
     obtain ⟨rfl, rfl, rfl⟩ := h
     exact H
    | none =>
     rw [hf] at H h
     simp only [Option.some.injEq, Prod.mk.injEq] at h
     obtain ⟨rfl, rfl, rfl⟩ := h
     exact H
 ·
  have hg' : goodB l0 = false := by simpa using hg
  rw [if_neg hg] at h
  simp only [Option.some.injEq, Prod.mk.injEq] at h
  obtain ⟨rfl, rfl, rfl⟩ := h
  exact rate_bad A0 c0 l0 a1 w hr0 hc0 hg'
end Go.Proofs.YtlhhpogaaneamaaDoor.X
namespace Go.Proofs.YtlhhpogaaneamaaDoor.X
open Go.RowKit Go.Shelf Go.Proofs.YtlhhpogaaneamaaDoorW.PrintWords Go.Proofs.YtlhhpogaaneamaaDoorW.PrintLast Go.Proofs.YtlhhpogaaneamaaDoorW.PrintMore
set_option linter.unusedVariables false
theorem lt_of_div_lt {n1 d1 n2 d2 : Int} (h1 : 0 < d1) (h2 : 0 < d2) (h : n1 / d1 < n2 / d2) : n1 * d2 < n2 * d1 := by
 have a1 := Int.lt_ediv_add_one_mul_self n1 h1
 have a2 := Int.ediv_mul_le n2 (show d2 ≠ 0 by omega)
 have a3 : (n1 / d1 + 1) * d1 ≤ (n2 / d2) * d1 := Int.mul_le_mul_of_nonneg_right (by omega) (by omega)
 have a4 : n1 * d2 < (n2 / d2 * d1) * d2 := by
  have : n1 < n2 / d2 * d1 := by omega
  exact Int.mul_lt_mul_of_pos_right this h2
 have a5 : (n2 / d2 * d2) * d1 ≤ n2 * d1 := Int.mul_le_mul_of_nonneg_right a2 (by omega)
 have a6 : (n2 / d2 * d1) * d2 = (n2 / d2 * d2) * d1 := by rw [Int.mul_assoc, Int.mul_comm d1 d2, ← Int.mul_assoc]
 omega
theorem cmp_lt {n1 d1 n2 d2 : Int} (h1 : 0 < d1) (h2 : 0 < d2) (h : n1 / d1 < n2 / d2) : cmpI n1 d1 n2 d2 = -1 := by
 unfold cmpI; rw [if_pos (lt_of_div_lt h1 h2 h)]
theorem cmp_gt {n1 d1 n2 d2 : Int} (h1 : 0 < d1) (h2 : 0 < d2) (h : n2 / d2 < n1 / d1) : cmpI n1 d1 n2 d2 = 1 := by
 have := lt_of_div_lt h2 h1 h
 unfold cmpI; rw [if_neg (by omega), if_pos this]
theorem cmp_mod {n1 d1 n2 d2 : Int} (h : n1 / d1 = n2 / d2) : cmpI n1 d1 n2 d2 = cmpI (n1 % d1) d1 (n2 % d2) d2 := by
 have e1 := Int.mul_ediv_add_emod n1 d1
 have e2 := Int.mul_ediv_add_emod n2 d2
 rw [h] at e1
 have k : n1 * d2 - n2 * d1 = (n1 % d1) * d2 - (n2 % d2) * d1 := by grind
 unfold cmpI
 by_cases c1 : n1 * d2 < n2 * d1
 ·
  rw [if_pos c1, if_pos (by omega)]
 ·
  rw [if_neg c1, if_neg (c := (n1 % d1) * d2 < (n2 % d2) * d1) (by omega)]
  by_cases c2 : n2 * d1 < n1 * d2
  ·
   rw [if_pos c2, if_pos (by omega)]
  ·
   rw [if_neg c2, if_neg (by omega)]
theorem cmp_inv (n1 d1 n2 d2 : Int) : cmpI d1 n1 d2 n2 = - cmpI n1 d1 n2 d2 := by
 unfold cmpI
 have e1 : d1 * n2 = n2 * d1 := Int.mul_comm ..
 have e2 : d2 * n1 = n1 * d2 := Int.mul_comm ..
 rw [e1, e2]
 by_cases c1 : n1 * d2 < n2 * d1
 ·
  rw [if_pos c1, if_neg (by omega), if_pos c1]; rfl
 ·
  rw [if_neg c1]
  by_cases c2 : n2 * d1 < n1 * d2
  ·
   rw [if_pos c2, if_pos c2, if_neg c1]
  ·
   rw [if_neg c2, if_neg c2, if_neg c1]; rfl
theorem cmp_zero_pos {d1 n2 d2 : Int} (h1 : 0 < d1) (h2 : 0 < n2) : cmpI 0 d1 n2 d2 = -1 := by
 have := Int.mul_pos h2 h1
 unfold cmpI; rw [if_pos (by omega)]
theorem cmp_pos_zero {n1 d1 d2 : Int} (h1 : 0 < d2) (h2 : 0 < n1) : cmpI n1 d1 0 d2 = 1 := by
 have := Int.mul_pos h2 h1
 unfold cmpI; rw [if_neg (by omega), if_pos (by omega)]
def CmpInv (w : World) (R : Int) (kq : Nat) (s n1 d1 n2 d2 : Int) (wr : World) : Prop :=
 s * cmpI n1 d1 n2 d2 = R ∧ d1.toNat ≤ kq ∧ Blk wr w.heap.size 25 #[.int .i64 n1, .int .i64 d1] ∧ Blk wr (w.heap.size + 1) 25 #[.int .i64 n2, .int .i64 d2] ∧ Below w.heap.size w wr
set_option maxRecDepth 100000 in
set_option maxHeartbeats 8000000 in
theorem compare_walk (a b c d : Int) (w : World) (ha : 0 ≤ a) (ha' : a ≤ 281474976710656) (hb : 0 < b) (hb' : b ≤ 281474976710656) (hc : 0 ≤ c) (hc' : c ≤ 281474976710656) (hd : 0 < d) (hd' : d ≤ 281474976710656) :
  Calls Tryd.prog 64 #[.agg #[.int .i64 a, .int .i64 b], .agg #[.int .i64 c, .int .i64 d]] w fun e w' => e = .returned (.int .i64 (cmpI a b c d)) ∧ Below w.heap.size w w' := by
 have hu25 := Tryd.underlying25
 obtain ⟨R, hR⟩ : ∃ R, cmpI a b c d = R := ⟨_, rfl⟩
 rw [hR]
 have HR := Aside0.mk hR
 clear hR
 have b1 : Blk ((w.alloc (.cells #[.int .i64 a, .int .i64 b] 25)).alloc (.cells #[.int .i64 c, .int .i64 d] 25)) w.heap.size 25 #[.int .i64 a, .int .i64 b] := (Blk.new w 25 _).alloc _
 have b2 : Blk ((w.alloc (.cells #[.int .i64 a, .int .i64 b] 25)).alloc (.cells #[.int .i64 c, .int .i64 d] 25)) (w.heap.size + 1) 25 #[.int .i64 c, .int .i64 d] := by
  have h := Blk.new (w.alloc (.cells #[.int .i64 a, .int .i64 b] 25)) 25 #[.int .i64 c, .int .i64 d]; rwa [World.size_alloc] at h
 have hB : Below w.heap.size w ((w.alloc (.cells #[.int .i64 a, .int .i64 b] 25)).alloc (.cells #[.int .i64 c, .int .i64 d] 25)) := ((Below.refl _ w).alloc (Nat.le_refl _) _).alloc (by simp) _
 have HI := Aside0.mk (show CmpInv w R b.toNat 1 a b c d ((w.alloc (.cells #[.int .i64 a, .int .i64 b] 25)).alloc (.cells #[.int .i64 c, .int .i64 d] 25)) from ⟨by rw [HR.out]; omega, Nat.le_refl _, b1, b2, hB⟩)
 clear b1 b2 hB HR
 go_enter Tryd.func64, Tryd.ntmps64
 go_wp2_with fail
 go_loopg [5] b.toNat (fun kq v5 wr => ∃ s n1 d1 n2 d2 : Int, v5 = .int .i64 s ∧ -1 ≤ s ∧ s ≤ 1 ∧ 0 ≤ n1 ∧ n1 ≤ 281474976710656 ∧ 0 < d1 ∧ d1 ≤ 281474976710656 ∧ 0 ≤ n2 ∧ n2 ≤ 281474976710656 ∧ 0 < d2 ∧ d2 ≤ 281474976710656 ∧ Aside0 (CmpInv w R kq s n1 d1 n2 d2 wr))
 case atStart => exact ⟨1, a, b, c, d, rfl, by omega, by omega, ha, ha', hb, hb', hc, hc', hd, hd', HI⟩
 case round =>
  clear HI ha ha' hb hb' hc hc' hd hd'
  obtain ⟨s, n1, d1, n2, d2, rfl, hs1, hs2, ha, ha', hb, hb', hc, hc', hd, hd', HI⟩ := hrel
  have c0 : wr.cell? ⟨w.heap.size, 0, none⟩ = some (.int .i64 n1) := HI.out.2.2.1.cell 0
  have c1 : wr.cell? ⟨w.heap.size, 1, none⟩ = some (.int .i64 d1) := HI.out.2.2.1.cell 1
  have c2 : wr.cell? ⟨w.heap.size + 1, 0, none⟩ = some (.int .i64 n2) := HI.out.2.2.2.1.cell 0
  have c3 : wr.cell? ⟨w.heap.size + 1, 1, none⟩ = some (.int .i64 d2) := HI.out.2.2.2.1.cell 1
  have z1 : ((d1 : Int) == 0) = false := by simp; omega
  have z2 : ((d2 : Int) == 0) = false := by simp; omega
  by_cases hpq : n1 / d1 = n2 / d2
  ·
   have e1 : (n1 / d1 == n2 / d2) = true := by simpa using hpq
   have HPQ := Aside0.mk hpq
   clear hpq
   go_wp2_with fail
   go_quiet (fail)
   go_wp2_with fail
   have f0 := HI.out.2.2.1.frozen 0
   have f2 := HI.out.2.2.2.1.frozen 0
   have HW8 : Aside0 (CmpInv w R gk s (n1 % d1) d1 (n2 % d2) d2 (((wr.drewN (nq + 1)).setCell ⟨w.heap.size, 0, none⟩ (.int .i64 (n1 % d1))).setCell ⟨w.heap.size + 1, 0, none⟩ (.int .i64 (n2 % d2)))) := by
    obtain ⟨g1, g2, g3, g4, g5⟩ := HI.out
    refine ⟨by rw [← cmp_mod HPQ.out]; exact g1, g2, ?_, ?_, ((pw_below_drewN g5 _).setCell (by simp) _).setCell (by simp) _⟩
    ·
     have h := ((g3.drewN (nq + 1)).set_ 0 (.int .i64 (n1 % d1))).far (p := ⟨w.heap.size + 1, 0, none⟩) (by simp) (.int .i64 (n2 % d2)); simpa using h
    ·
     have h := ((g4.drewN (nq + 1)).far (p := ⟨w.heap.size, 0, none⟩) (by simp) (.int .i64 (n1 % d1))).set_ 0 (.int .i64 (n2 % d2)); simpa using h
   go_cut [] (fun wc => Aside0 (CmpInv w R gk s (n1 % d1) d1 (n2 % d2) d2 wc))
   case first =>
    clear hs1 hs2 e1
    have y1 := eq_false (show ¬ d1 = 0 by omega)
    have y2 := eq_false (show ¬ d2 = 0 by omega)
    have t1 : n1.tmod d1 = n1 % d1 := Int.tmod_eq_emod_of_nonneg ha
    have t2 : n2.tmod d2 = n2 % d2 := Int.tmod_eq_emod_of_nonneg hc
    clear ha ha' hb hb' hc hc' hd hd' z1 z2
    refine wp_region_any (by kernel_rfl) ?_
    change wpAny _ _ _ _ _ _ _ (World.drew _)
    refine wpAny_take (i := 0) (v := ?_) rfl (by kernel_rfl) (by kernel_rfl) (by kernel_rfl) (fun _ _ _ h => h) (Or.inl ⟨by rfl, ?_⟩) ?_
    rotate_left
    ·
     intro w; go_simp; try with_reducible rfl
    refine wpAny_take (i := 2) (v := ?_) rfl (by kernel_rfl) (by kernel_rfl) (by kernel_rfl) (fun _ _ _ h => h) (Or.inl ⟨by rfl, ?_⟩) ?_
    rotate_left
    ·
     intro w; go_simp; try with_reducible rfl
    refine wpAny_take (i := 5) (v := ?_) rfl (by kernel_rfl) (by kernel_rfl) (by kernel_rfl) (fun _ _ _ h => h) (Or.inl ⟨by rfl, ?_⟩) ?_
    rotate_left
    ·
     intro w; go_simp; try with_reducible rfl
    refine wpAny_take (i := 7) (v := ?_) rfl (by kernel_rfl) (by kernel_rfl) (by kernel_rfl) (fun _ _ _ h => h) (Or.inl ⟨by rfl, ?_⟩) ?_
    rotate_left
    ·
     intro w; go_simp; try with_reducible rfl
    refine wpAny_ready (rs := [1, 3, 6, 8]) (by kernel_rfl) (by simp) ?_
    refine AllReady.cons rfl (fun K hK => ?_) ?_
    ·
     go_simp
     (refine hK _ _ ?_; clear hK K)
     refine wpAny_ready (rs := [3, 6, 8]) (by kernel_rfl) (by simp) ?_
     refine AllReady.cons rfl (fun K hK => ?_) ?_
     ·
      go_simp
      (refine hK _ _ ?_; clear hK K)
      refine wpAny_take (i := 4) (v := ?_) rfl (by kernel_rfl) (by kernel_rfl) (by kernel_rfl) (fun _ _ _ h => h) (Or.inl ⟨by rfl, ?_⟩) ?_
      rotate_left
      ·
       intro w; go_simp; try with_reducible rfl
      refine wpAny_take (i := 10) (v := ?_) rfl (by kernel_rfl) (by kernel_rfl) (by kernel_rfl) (fun _ _ _ h => h) (Or.inl ⟨by rfl, ?_⟩) ?_
      rotate_left
      ·
       intro w; go_simp; try with_reducible rfl
      refine wpAny_ready (rs := [6, 8, 11]) (by kernel_rfl) (by simp) ?_
      refine AllReady.cons rfl (fun K hK => ?_) ?_
      ·
       go_simp
       (refine hK _ _ ?_; clear hK K)
       refine wpAny_ready (rs := [8, 11]) (by kernel_rfl) (by simp) ?_
       refine AllReady.cons rfl (fun K hK => ?_) ?_
       ·
        go_simp
        (refine hK _ _ ?_; clear hK K)
        refine wpAny_take (i := 9) (v := ?_) rfl (by kernel_rfl) (by kernel_rfl) (by kernel_rfl) (fun _ _ _ h => h) (Or.inl ⟨by rfl, ?_⟩) ?_
        rotate_left
        ·
         intro w; go_simp; try with_reducible rfl
        refine wpAny_ready (rs := [11]) (by kernel_rfl) (by simp) ?_
        refine AllReady.cons rfl (fun K hK => ?_) ?_
        ·
         go_simp
         (refine hK _ _ ?_; clear hK K)
         refine wpAny_take (i := 12) (v := ?_) rfl (by kernel_rfl) (by kernel_rfl) (by kernel_rfl) (fun _ _ _ h => h) (Or.inl ⟨by rfl, ?_⟩) ?_
         rotate_left
         ·
          intro w; go_simp; try with_reducible rfl
         refine wpAny_ready (rs := [13]) (by kernel_rfl) (by simp) ?_
         refine AllReady.cons rfl (fun K hK => ?_) ?_
         ·
          go_simp
          (refine hK _ _ ?_; clear hK K)
          refine wpAny_done (by kernel_rfl) ?_ _
          go_step
          go_step
          go_meet
          case rel => exact HW8
         exact AllReady.nil
        exact AllReady.nil
       refine AllReady.cons rfl (fun K hK => ?_) ?_
       ·
        go_simp
        (refine hK _ _ ?_; clear hK K)
        refine wpAny_ready (rs := [8]) (by kernel_rfl) (by simp) ?_
        refine AllReady.cons rfl (fun K hK => ?_) ?_
        ·
         go_simp
         (refine hK _ _ ?_; clear hK K)
         refine wpAny_take (i := 9) (v := ?_) rfl (by kernel_rfl) (by kernel_rfl) (by kernel_rfl) (fun _ _ _ h => h) (Or.inl ⟨by rfl, ?_⟩) ?_
         rotate_left
         ·
          intro w; go_simp; try with_reducible rfl
         refine wpAny_take (i := 12) (v := ?_) rfl (by kernel_rfl) (by kernel_rfl) (by kernel_rfl) (fun _ _ _ h => h) (Or.inl ⟨by rfl, ?_⟩) ?_
         rotate_left
         ·
          intro w; go_simp; try with_reducible rfl
         refine wpAny_ready (rs := [13]) (by kernel_rfl) (by simp) ?_
         refine AllReady.cons rfl (fun K hK => ?_) ?_
         ·
          go_simp
          (refine hK _ _ ?_; clear hK K)
          refine wpAny_done (by kernel_rfl) ?_ _
          go_step
          go_step
          go_meet
          case rel => exact HW8
         exact AllReady.nil
        exact AllReady.nil
       exact AllReady.nil
      refine AllReady.cons rfl (fun K hK => ?_) ?_
      ·
       go_simp
       (refine hK _ _ ?_; clear hK K)
       refine wpAny_ready (rs := [6, 11]) (by kernel_rfl) (by simp) ?_
       refine AllReady.cons rfl (fun K hK => ?_) ?_
       ·
        go_simp
        (refine hK _ _ ?_; clear hK K)
        refine wpAny_take (i := 9) (v := ?_) rfl (by kernel_rfl) (by kernel_rfl) (by kernel_rfl) (fun _ _ _ h => h) (Or.inl ⟨by rfl, ?_⟩) ?_
        rotate_left
        ·
         intro w; go_simp; try with_reducible rfl
        refine wpAny_ready (rs := [11]) (by kernel_rfl) (by simp) ?_
        refine AllReady.cons rfl (fun K hK => ?_) ?_
        ·
         go_simp
         (refine hK _ _ ?_; clear hK K)
         refine wpAny_take (i := 12) (v := ?_) rfl (by kernel_rfl) (by kernel_rfl) (by kernel_rfl) (fun _ _ _ h => h) (Or.inl ⟨by rfl, ?_⟩) ?_
         rotate_left
         ·
          intro w; go_simp; try with_reducible rfl
         refine wpAny_ready (rs := [13]) (by kernel_rfl) (by simp) ?_
         refine AllReady.cons rfl (fun K hK => ?_) ?_
         ·
          go_simp
          (refine hK _ _ ?_; clear hK K)
          refine wpAny_done (by kernel_rfl) ?_ _
          go_step
          go_step
          go_meet
          case rel => exact HW8
         exact AllReady.nil
        exact AllReady.nil
       refine AllReady.cons rfl (fun K hK => ?_) ?_
       ·
        go_simp
        (refine hK _ _ ?_; clear hK K)
        refine wpAny_ready (rs := [6]) (by kernel_rfl) (by simp) ?_
        refine AllReady.cons rfl (fun K hK => ?_) ?_
        ·
         go_simp
         (refine hK _ _ ?_; clear hK K)
         refine wpAny_take (i := 9) (v := ?_) rfl (by kernel_rfl) (by kernel_rfl) (by kernel_rfl) (fun _ _ _ h => h) (Or.inl ⟨by rfl, ?_⟩) ?_
         rotate_left
         ·
          intro w; go_simp; try with_reducible rfl
         refine wpAny_take (i := 12) (v := ?_) rfl (by kernel_rfl) (by kernel_rfl) (by kernel_rfl) (fun _ _ _ h => h) (Or.inl ⟨by rfl, ?_⟩) ?_
         rotate_left
         ·
          intro w; go_simp; try with_reducible rfl
         refine wpAny_ready (rs := [13]) (by kernel_rfl) (by simp) ?_
         refine AllReady.cons rfl (fun K hK => ?_) ?_
         ·
          go_simp
          (refine hK _ _ ?_; clear hK K)
          refine wpAny_done (by kernel_rfl) ?_ _
          go_step
          go_step
          go_meet
          case rel => exact HW8
         exact AllReady.nil
        exact AllReady.nil
       exact AllReady.nil
      refine AllReady.cons rfl (fun K hK => ?_) ?_
      ·
       go_simp
       (refine hK _ _ ?_; clear hK K)
       refine wpAny_ready (rs := [6, 8]) (by kernel_rfl) (by simp) ?_
       refine AllReady.cons rfl (fun K hK => ?_) ?_
       ·
        go_simp
        (refine hK _ _ ?_; clear hK K)
        refine wpAny_ready (rs := [8]) (by kernel_rfl) (by simp) ?_
        refine AllReady.cons rfl (fun K hK => ?_) ?_
        ·
         go_simp
         (refine hK _ _ ?_; clear hK K)
         refine wpAny_take (i := 9) (v := ?_) rfl (by kernel_rfl) (by kernel_rfl) (by kernel_rfl) (fun _ _ _ h => h) (Or.inl ⟨by rfl, ?_⟩) ?_
         rotate_left
         ·
          intro w; go_simp; try with_reducible rfl
         refine wpAny_take (i := 12) (v := ?_) rfl (by kernel_rfl) (by kernel_rfl) (by kernel_rfl) (fun _ _ _ h => h) (Or.inl ⟨by rfl, ?_⟩) ?_
         rotate_left
         ·
          intro w; go_simp; try with_reducible rfl
         refine wpAny_ready (rs := [13]) (by kernel_rfl) (by simp) ?_
         refine AllReady.cons rfl (fun K hK => ?_) ?_
         ·
          go_simp
          (refine hK _ _ ?_; clear hK K)
          refine wpAny_done (by kernel_rfl) ?_ _
          go_step
          go_step
          go_meet
          case rel => exact HW8
         exact AllReady.nil
        exact AllReady.nil
       refine AllReady.cons rfl (fun K hK => ?_) ?_
       ·
        go_simp
        (refine hK _ _ ?_; clear hK K)
        refine wpAny_ready (rs := [6]) (by kernel_rfl) (by simp) ?_
        refine AllReady.cons rfl (fun K hK => ?_) ?_
        ·
         go_simp
         (refine hK _ _ ?_; clear hK K)
         refine wpAny_take (i := 9) (v := ?_) rfl (by kernel_rfl) (by kernel_rfl) (by kernel_rfl) (fun _ _ _ h => h) (Or.inl ⟨by rfl, ?_⟩) ?_
         rotate_left
         ·
          intro w; go_simp; try with_reducible rfl
         refine wpAny_take (i := 12) (v := ?_) rfl (by kernel_rfl) (by kernel_rfl) (by kernel_rfl) (fun _ _ _ h => h) (Or.inl ⟨by rfl, ?_⟩) ?_
         rotate_left
         ·
          intro w; go_simp; try with_reducible rfl
         refine wpAny_ready (rs := [13]) (by kernel_rfl) (by simp) ?_
         refine AllReady.cons rfl (fun K hK => ?_) ?_
         ·
          go_simp
          (refine hK _ _ ?_; clear hK K)
          refine wpAny_done (by kernel_rfl) ?_ _
          go_step
          go_step
          go_meet
          case rel => exact HW8
         exact AllReady.nil
        exact AllReady.nil
       exact AllReady.nil
      exact AllReady.nil
     refine AllReady.cons rfl (fun K hK => ?_) ?_
     ·
      go_simp
      (refine hK _ _ ?_; clear hK K)
      refine wpAny_ready (rs := [3, 8]) (by kernel_rfl) (by simp) ?_
      refine AllReady.cons rfl (fun K hK => ?_) ?_
      ·
       go_simp
       (refine hK _ _ ?_; clear hK K)
       refine wpAny_take (i := 4) (v := ?_) rfl (by kernel_rfl) (by kernel_rfl) (by kernel_rfl) (fun _ _ _ h => h) (Or.inl ⟨by rfl, ?_⟩) ?_
       rotate_left
       ·
        intro w; go_simp; try with_reducible rfl
       refine wpAny_take (i := 10) (v := ?_) rfl (by kernel_rfl) (by kernel_rfl) (by kernel_rfl) (fun _ _ _ h => h) (Or.inl ⟨by rfl, ?_⟩) ?_
       rotate_left
       ·
        intro w; go_simp; try with_reducible rfl
       refine wpAny_ready (rs := [8, 11]) (by kernel_rfl) (by simp) ?_
       refine AllReady.cons rfl (fun K hK => ?_) ?_
       ·
        go_simp
        (refine hK _ _ ?_; clear hK K)
        refine wpAny_take (i := 9) (v := ?_) rfl (by kernel_rfl) (by kernel_rfl) (by kernel_rfl) (fun _ _ _ h => h) (Or.inl ⟨by rfl, ?_⟩) ?_
        rotate_left
        ·
         intro w; go_simp; try with_reducible rfl
        refine wpAny_ready (rs := [11]) (by kernel_rfl) (by simp) ?_
        refine AllReady.cons rfl (fun K hK => ?_) ?_
        ·
         go_simp
         (refine hK _ _ ?_; clear hK K)
         refine wpAny_take (i := 12) (v := ?_) rfl (by kernel_rfl) (by kernel_rfl) (by kernel_rfl) (fun _ _ _ h => h) (Or.inl ⟨by rfl, ?_⟩) ?_
         rotate_left
         ·
          intro w; go_simp; try with_reducible rfl
         refine wpAny_ready (rs := [13]) (by kernel_rfl) (by simp) ?_
         refine AllReady.cons rfl (fun K hK => ?_) ?_
         ·
          go_simp
          (refine hK _ _ ?_; clear hK K)
          refine wpAny_done (by kernel_rfl) ?_ _
          go_step
          go_step
          go_meet
          case rel => exact HW8
         exact AllReady.nil
        exact AllReady.nil
       refine AllReady.cons rfl (fun K hK => ?_) ?_
       ·
        go_simp
        (refine hK _ _ ?_; clear hK K)
        refine wpAny_ready (rs := [8]) (by kernel_rfl) (by simp) ?_
        refine AllReady.cons rfl (fun K hK => ?_) ?_
        ·
         go_simp
         (refine hK _ _ ?_; clear hK K)
         refine wpAny_take (i := 9) (v := ?_) rfl (by kernel_rfl) (by kernel_rfl) (by kernel_rfl) (fun _ _ _ h => h) (Or.inl ⟨by rfl, ?_⟩) ?_
         rotate_left
         ·
          intro w; go_simp; try with_reducible rfl
         refine wpAny_take (i := 12) (v := ?_) rfl (by kernel_rfl) (by kernel_rfl) (by kernel_rfl) (fun _ _ _ h => h) (Or.inl ⟨by rfl, ?_⟩) ?_
         rotate_left
         ·
          intro w; go_simp; try with_reducible rfl
         refine wpAny_ready (rs := [13]) (by kernel_rfl) (by simp) ?_
         refine AllReady.cons rfl (fun K hK => ?_) ?_
         ·
          go_simp
          (refine hK _ _ ?_; clear hK K)
          refine wpAny_done (by kernel_rfl) ?_ _
          go_step
          go_step
          go_meet
          case rel => exact HW8
         exact AllReady.nil
        exact AllReady.nil
       exact AllReady.nil
      refine AllReady.cons rfl (fun K hK => ?_) ?_
      ·
       go_simp
       (refine hK _ _ ?_; clear hK K)
       refine wpAny_take (i := 9) (v := ?_) rfl (by kernel_rfl) (by kernel_rfl) (by kernel_rfl) (fun _ _ _ h => h) (Or.inl ⟨by rfl, ?_⟩) ?_
       rotate_left
       ·
        intro w; go_simp; try with_reducible rfl
       refine wpAny_ready (rs := [3]) (by kernel_rfl) (by simp) ?_
       refine AllReady.cons rfl (fun K hK => ?_) ?_
       ·
        go_simp
        (refine hK _ _ ?_; clear hK K)
        refine wpAny_take (i := 4) (v := ?_) rfl (by kernel_rfl) (by kernel_rfl) (by kernel_rfl) (fun _ _ _ h => h) (Or.inl ⟨by rfl, ?_⟩) ?_
        rotate_left
        ·
         intro w; go_simp; try with_reducible rfl
        refine wpAny_take (i := 10) (v := ?_) rfl (by kernel_rfl) (by kernel_rfl) (by kernel_rfl) (fun _ _ _ h => h) (Or.inl ⟨by rfl, ?_⟩) ?_
        rotate_left
        ·
         intro w; go_simp; try with_reducible rfl
        refine wpAny_ready (rs := [11]) (by kernel_rfl) (by simp) ?_
        refine AllReady.cons rfl (fun K hK => ?_) ?_
        ·
         go_simp
         (refine hK _ _ ?_; clear hK K)
         refine wpAny_take (i := 12) (v := ?_) rfl (by kernel_rfl) (by kernel_rfl) (by kernel_rfl) (fun _ _ _ h => h) (Or.inl ⟨by rfl, ?_⟩) ?_
         rotate_left
         ·
          intro w; go_simp; try with_reducible rfl
         refine wpAny_ready (rs := [13]) (by kernel_rfl) (by simp) ?_
         refine AllReady.cons rfl (fun K hK => ?_) ?_
         ·
          go_simp
          (refine hK _ _ ?_; clear hK K)
          refine wpAny_done (by kernel_rfl) ?_ _
          go_step
          go_step
          go_meet
          case rel => exact HW8
         exact AllReady.nil
        exact AllReady.nil
       exact AllReady.nil
      exact AllReady.nil
     refine AllReady.cons rfl (fun K hK => ?_) ?_
     ·
      go_simp
      (refine hK _ _ ?_; clear hK K)
      refine wpAny_ready (rs := [3, 6]) (by kernel_rfl) (by simp) ?_
      refine AllReady.cons rfl (fun K hK => ?_) ?_
      ·
       go_simp
       (refine hK _ _ ?_; clear hK K)
       refine wpAny_take (i := 4) (v := ?_) rfl (by kernel_rfl) (by kernel_rfl) (by kernel_rfl) (fun _ _ _ h => h) (Or.inl ⟨by rfl, ?_⟩) ?_
       rotate_left
       ·
        intro w; go_simp; try with_reducible rfl
       refine wpAny_take (i := 10) (v := ?_) rfl (by kernel_rfl) (by kernel_rfl) (by kernel_rfl) (fun _ _ _ h => h) (Or.inl ⟨by rfl, ?_⟩) ?_
       rotate_left
       ·
        intro w; go_simp; try with_reducible rfl
       refine wpAny_ready (rs := [6, 11]) (by kernel_rfl) (by simp) ?_
       refine AllReady.cons rfl (fun K hK => ?_) ?_
       ·
        go_simp
        (refine hK _ _ ?_; clear hK K)
        refine wpAny_take (i := 9) (v := ?_) rfl (by kernel_rfl) (by kernel_rfl) (by kernel_rfl) (fun _ _ _ h => h) (Or.inl ⟨by rfl, ?_⟩) ?_
        rotate_left
        ·
         intro w; go_simp; try with_reducible rfl
        refine wpAny_ready (rs := [11]) (by kernel_rfl) (by simp) ?_
        refine AllReady.cons rfl (fun K hK => ?_) ?_
        ·
         go_simp
         (refine hK _ _ ?_; clear hK K)
         refine wpAny_take (i := 12) (v := ?_) rfl (by kernel_rfl) (by kernel_rfl) (by kernel_rfl) (fun _ _ _ h => h) (Or.inl ⟨by rfl, ?_⟩) ?_
         rotate_left
         ·
          intro w; go_simp; try with_reducible rfl
         refine wpAny_ready (rs := [13]) (by kernel_rfl) (by simp) ?_
         refine AllReady.cons rfl (fun K hK => ?_) ?_
         ·
          go_simp
          (refine hK _ _ ?_; clear hK K)
          refine wpAny_done (by kernel_rfl) ?_ _
          go_step
          go_step
          go_meet
          case rel => exact HW8
         exact AllReady.nil
        exact AllReady.nil
       refine AllReady.cons rfl (fun K hK => ?_) ?_
       ·
        go_simp
        (refine hK _ _ ?_; clear hK K)
        refine wpAny_ready (rs := [6]) (by kernel_rfl) (by simp) ?_
        refine AllReady.cons rfl (fun K hK => ?_) ?_
        ·
         go_simp
         (refine hK _ _ ?_; clear hK K)
         refine wpAny_take (i := 9) (v := ?_) rfl (by kernel_rfl) (by kernel_rfl) (by kernel_rfl) (fun _ _ _ h => h) (Or.inl ⟨by rfl, ?_⟩) ?_
         rotate_left
         ·
          intro w; go_simp; try with_reducible rfl
         refine wpAny_take (i := 12) (v := ?_) rfl (by kernel_rfl) (by kernel_rfl) (by kernel_rfl) (fun _ _ _ h => h) (Or.inl ⟨by rfl, ?_⟩) ?_
         rotate_left
         ·
          intro w; go_simp; try with_reducible rfl
         refine wpAny_ready (rs := [13]) (by kernel_rfl) (by simp) ?_
         refine AllReady.cons rfl (fun K hK => ?_) ?_
         ·
          go_simp
          (refine hK _ _ ?_; clear hK K)
          refine wpAny_done (by kernel_rfl) ?_ _
          go_step
          go_step
          go_meet
          case rel => exact HW8
         exact AllReady.nil
        exact AllReady.nil
       exact AllReady.nil
      refine AllReady.cons rfl (fun K hK => ?_) ?_
      ·
       go_simp
       (refine hK _ _ ?_; clear hK K)
       refine wpAny_take (i := 9) (v := ?_) rfl (by kernel_rfl) (by kernel_rfl) (by kernel_rfl) (fun _ _ _ h => h) (Or.inl ⟨by rfl, ?_⟩) ?_
       rotate_left
       ·
        intro w; go_simp; try with_reducible rfl
       refine wpAny_ready (rs := [3]) (by kernel_rfl) (by simp) ?_
       refine AllReady.cons rfl (fun K hK => ?_) ?_
       ·
        go_simp
        (refine hK _ _ ?_; clear hK K)
        refine wpAny_take (i := 4) (v := ?_) rfl (by kernel_rfl) (by kernel_rfl) (by kernel_rfl) (fun _ _ _ h => h) (Or.inl ⟨by rfl, ?_⟩) ?_
        rotate_left
        ·
         intro w; go_simp; try with_reducible rfl
        refine wpAny_take (i := 10) (v := ?_) rfl (by kernel_rfl) (by kernel_rfl) (by kernel_rfl) (fun _ _ _ h => h) (Or.inl ⟨by rfl, ?_⟩) ?_
        rotate_left
        ·
         intro w; go_simp; try with_reducible rfl
        refine wpAny_ready (rs := [11]) (by kernel_rfl) (by simp) ?_
        refine AllReady.cons rfl (fun K hK => ?_) ?_
        ·
         go_simp
         (refine hK _ _ ?_; clear hK K)
         refine wpAny_take (i := 12) (v := ?_) rfl (by kernel_rfl) (by kernel_rfl) (by kernel_rfl) (fun _ _ _ h => h) (Or.inl ⟨by rfl, ?_⟩) ?_
         rotate_left
         ·
          intro w; go_simp; try with_reducible rfl
         refine wpAny_ready (rs := [13]) (by kernel_rfl) (by simp) ?_
         refine AllReady.cons rfl (fun K hK => ?_) ?_
         ·
          go_simp
          (refine hK _ _ ?_; clear hK K)
          refine wpAny_done (by kernel_rfl) ?_ _
          go_step
          go_step
          go_meet
          case rel => exact HW8
         exact AllReady.nil
        exact AllReady.nil
       exact AllReady.nil
      exact AllReady.nil
     exact AllReady.nil
    refine AllReady.cons rfl (fun K hK => ?_) ?_
    ·
     go_simp
     (refine hK _ _ ?_; clear hK K)
     refine wpAny_ready (rs := [1, 6, 8]) (by kernel_rfl) (by simp) ?_
     refine AllReady.cons rfl (fun K hK => ?_) ?_
     ·
      go_simp
      (refine hK _ _ ?_; clear hK K)
      refine wpAny_take (i := 4) (v := ?_) rfl (by kernel_rfl) (by kernel_rfl) (by kernel_rfl) (fun _ _ _ h => h) (Or.inl ⟨by rfl, ?_⟩) ?_
      rotate_left
      ·
       intro w; go_simp; try with_reducible rfl
      refine wpAny_take (i := 10) (v := ?_) rfl (by kernel_rfl) (by kernel_rfl) (by kernel_rfl) (fun _ _ _ h => h) (Or.inl ⟨by rfl, ?_⟩) ?_
      rotate_left
      ·
       intro w; go_simp; try with_reducible rfl
      refine wpAny_ready (rs := [6, 8, 11]) (by kernel_rfl) (by simp) ?_
      refine AllReady.cons rfl (fun K hK => ?_) ?_
      ·
       go_simp
       (refine hK _ _ ?_; clear hK K)
       refine wpAny_ready (rs := [8, 11]) (by kernel_rfl) (by simp) ?_
       refine AllReady.cons rfl (fun K hK => ?_) ?_
       ·
        go_simp
        (refine hK _ _ ?_; clear hK K)
        refine wpAny_take (i := 9) (v := ?_) rfl (by kernel_rfl) (by kernel_rfl) (by kernel_rfl) (fun _ _ _ h => h) (Or.inl ⟨by rfl, ?_⟩) ?_
        rotate_left
        ·
         intro w; go_simp; try with_reducible rfl
        refine wpAny_ready (rs := [11]) (by kernel_rfl) (by simp) ?_
        refine AllReady.cons rfl (fun K hK => ?_) ?_
        ·
         go_simp
         (refine hK _ _ ?_; clear hK K)
         refine wpAny_take (i := 12) (v := ?_) rfl (by kernel_rfl) (by kernel_rfl) (by kernel_rfl) (fun _ _ _ h => h) (Or.inl ⟨by rfl, ?_⟩) ?_
         rotate_left
         ·
          intro w; go_simp; try with_reducible rfl
         refine wpAny_ready (rs := [13]) (by kernel_rfl) (by simp) ?_
         refine AllReady.cons rfl (fun K hK => ?_) ?_
         ·
          go_simp
          (refine hK _ _ ?_; clear hK K)
          refine wpAny_done (by kernel_rfl) ?_ _
          go_step
          go_step
          go_meet
          case rel => exact HW8
         exact AllReady.nil
        exact AllReady.nil
       refine AllReady.cons rfl (fun K hK => ?_) ?_
       ·
        go_simp
        (refine hK _ _ ?_; clear hK K)
        refine wpAny_ready (rs := [8]) (by kernel_rfl) (by simp) ?_
        refine AllReady.cons rfl (fun K hK => ?_) ?_
        ·
         go_simp
         (refine hK _ _ ?_; clear hK K)
         refine wpAny_take (i := 9) (v := ?_) rfl (by kernel_rfl) (by kernel_rfl) (by kernel_rfl) (fun _ _ _ h => h) (Or.inl ⟨by rfl, ?_⟩) ?_
         rotate_left
         ·
          intro w; go_simp; try with_reducible rfl
         refine wpAny_take (i := 12) (v := ?_) rfl (by kernel_rfl) (by kernel_rfl) (by kernel_rfl) (fun _ _ _ h => h) (Or.inl ⟨by rfl, ?_⟩) ?_
         rotate_left
         ·
          intro w; go_simp; try with_reducible rfl
         refine wpAny_ready (rs := [13]) (by kernel_rfl) (by simp) ?_
         refine AllReady.cons rfl (fun K hK => ?_) ?_
         ·
          go_simp
          (refine hK _ _ ?_; clear hK K)
          refine wpAny_done (by kernel_rfl) ?_ _
          go_step
          go_step
          go_meet
          case rel => exact HW8
         exact AllReady.nil
        exact AllReady.nil
       exact AllReady.nil
      refine AllReady.cons rfl (fun K hK => ?_) ?_
      ·
       go_simp
       (refine hK _ _ ?_; clear hK K)
       refine wpAny_ready (rs := [6, 11]) (by kernel_rfl) (by simp) ?_
       refine AllReady.cons rfl (fun K hK => ?_) ?_
       ·
        go_simp
        (refine hK _ _ ?_; clear hK K)
        refine wpAny_take (i := 9) (v := ?_) rfl (by kernel_rfl) (by kernel_rfl) (by kernel_rfl) (fun _ _ _ h => h) (Or.inl ⟨by rfl, ?_⟩) ?_
        rotate_left
        ·
         intro w; go_simp; try with_reducible rfl
        refine wpAny_ready (rs := [11]) (by kernel_rfl) (by simp) ?_
        refine AllReady.cons rfl (fun K hK => ?_) ?_
        ·
         go_simp
         (refine hK _ _ ?_; clear hK K)
         refine wpAny_take (i := 12) (v := ?_) rfl (by kernel_rfl) (by kernel_rfl) (by kernel_rfl) (fun _ _ _ h => h) (Or.inl ⟨by rfl, ?_⟩) ?_
         rotate_left
         ·
          intro w; go_simp; try with_reducible rfl
         refine wpAny_ready (rs := [13]) (by kernel_rfl) (by simp) ?_
         refine AllReady.cons rfl (fun K hK => ?_) ?_
         ·
          go_simp
          (refine hK _ _ ?_; clear hK K)
          refine wpAny_done (by kernel_rfl) ?_ _
          go_step
          go_step
          go_meet
          case rel => exact HW8
         exact AllReady.nil
        exact AllReady.nil
       refine AllReady.cons rfl (fun K hK => ?_) ?_
       ·
        go_simp
        (refine hK _ _ ?_; clear hK K)
        refine wpAny_ready (rs := [6]) (by kernel_rfl) (by simp) ?_
        refine AllReady.cons rfl (fun K hK => ?_) ?_
        ·
         go_simp
         (refine hK _ _ ?_; clear hK K)
         refine wpAny_take (i := 9) (v := ?_) rfl (by kernel_rfl) (by kernel_rfl) (by kernel_rfl) (fun _ _ _ h => h) (Or.inl ⟨by rfl, ?_⟩) ?_
         rotate_left
         ·
          intro w; go_simp; try with_reducible rfl
         refine wpAny_take (i := 12) (v := ?_) rfl (by kernel_rfl) (by kernel_rfl) (by kernel_rfl) (fun _ _ _ h => h) (Or.inl ⟨by rfl, ?_⟩) ?_
         rotate_left
         ·
          intro w; go_simp; try with_reducible rfl
         refine wpAny_ready (rs := [13]) (by kernel_rfl) (by simp) ?_
         refine AllReady.cons rfl (fun K hK => ?_) ?_
         ·
          go_simp
          (refine hK _ _ ?_; clear hK K)
          refine wpAny_done (by kernel_rfl) ?_ _
          go_step
          go_step
          go_meet
          case rel => exact HW8
         exact AllReady.nil
        exact AllReady.nil
       exact AllReady.nil
      refine AllReady.cons rfl (fun K hK => ?_) ?_
      ·
       go_simp
       (refine hK _ _ ?_; clear hK K)
       refine wpAny_ready (rs := [6, 8]) (by kernel_rfl) (by simp) ?_
       refine AllReady.cons rfl (fun K hK => ?_) ?_
       ·
        go_simp
        (refine hK _ _ ?_; clear hK K)
        refine wpAny_ready (rs := [8]) (by kernel_rfl) (by simp) ?_
        refine AllReady.cons rfl (fun K hK => ?_) ?_
        ·
         go_simp
         (refine hK _ _ ?_; clear hK K)
         refine wpAny_take (i := 9) (v := ?_) rfl (by kernel_rfl) (by kernel_rfl) (by kernel_rfl) (fun _ _ _ h => h) (Or.inl ⟨by rfl, ?_⟩) ?_
         rotate_left
         ·
          intro w; go_simp; try with_reducible rfl
         refine wpAny_take (i := 12) (v := ?_) rfl (by kernel_rfl) (by kernel_rfl) (by kernel_rfl) (fun _ _ _ h => h) (Or.inl ⟨by rfl, ?_⟩) ?_
         rotate_left
         ·
          intro w; go_simp; try with_reducible rfl
         refine wpAny_ready (rs := [13]) (by kernel_rfl) (by simp) ?_
         refine AllReady.cons rfl (fun K hK => ?_) ?_
         ·
          go_simp
          (refine hK _ _ ?_; clear hK K)
          refine wpAny_done (by kernel_rfl) ?_ _
          go_step
          go_step
          go_meet
          case rel => exact HW8
         exact AllReady.nil
        exact AllReady.nil
       refine AllReady.cons rfl (fun K hK => ?_) ?_
       ·
        go_simp
        (refine hK _ _ ?_; clear hK K)
        refine wpAny_ready (rs := [6]) (by kernel_rfl) (by simp) ?_
        refine AllReady.cons rfl (fun K hK => ?_) ?_
        ·
         go_simp
         (refine hK _ _ ?_; clear hK K)
         refine wpAny_take (i := 9) (v := ?_) rfl (by kernel_rfl) (by kernel_rfl) (by kernel_rfl) (fun _ _ _ h => h) (Or.inl ⟨by rfl, ?_⟩) ?_
         rotate_left
         ·
          intro w; go_simp; try with_reducible rfl
         refine wpAny_take (i := 12) (v := ?_) rfl (by kernel_rfl) (by kernel_rfl) (by kernel_rfl) (fun _ _ _ h => h) (Or.inl ⟨by rfl, ?_⟩) ?_
         rotate_left
         ·
          intro w; go_simp; try with_reducible rfl
         refine wpAny_ready (rs := [13]) (by kernel_rfl) (by simp) ?_
         refine AllReady.cons rfl (fun K hK => ?_) ?_
         ·
          go_simp
          (refine hK _ _ ?_; clear hK K)
          refine wpAny_done (by kernel_rfl) ?_ _
          go_step
          go_step
          go_meet
          case rel => exact HW8
         exact AllReady.nil
        exact AllReady.nil
       exact AllReady.nil
      exact AllReady.nil
     refine AllReady.cons rfl (fun K hK => ?_) ?_
     ·
      go_simp
      (refine hK _ _ ?_; clear hK K)
      refine wpAny_ready (rs := [1, 8]) (by kernel_rfl) (by simp) ?_
      refine AllReady.cons rfl (fun K hK => ?_) ?_
      ·
       go_simp
       (refine hK _ _ ?_; clear hK K)
       refine wpAny_take (i := 4) (v := ?_) rfl (by kernel_rfl) (by kernel_rfl) (by kernel_rfl) (fun _ _ _ h => h) (Or.inl ⟨by rfl, ?_⟩) ?_
       rotate_left
       ·
        intro w; go_simp; try with_reducible rfl
       refine wpAny_take (i := 10) (v := ?_) rfl (by kernel_rfl) (by kernel_rfl) (by kernel_rfl) (fun _ _ _ h => h) (Or.inl ⟨by rfl, ?_⟩) ?_
       rotate_left
       ·
        intro w; go_simp; try with_reducible rfl
       refine wpAny_ready (rs := [8, 11]) (by kernel_rfl) (by simp) ?_
       refine AllReady.cons rfl (fun K hK => ?_) ?_
       ·
        go_simp
        (refine hK _ _ ?_; clear hK K)
        refine wpAny_take (i := 9) (v := ?_) rfl (by kernel_rfl) (by kernel_rfl) (by kernel_rfl) (fun _ _ _ h => h) (Or.inl ⟨by rfl, ?_⟩) ?_
        rotate_left
        ·
         intro w; go_simp; try with_reducible rfl
        refine wpAny_ready (rs := [11]) (by kernel_rfl) (by simp) ?_
        refine AllReady.cons rfl (fun K hK => ?_) ?_
        ·
         go_simp
         (refine hK _ _ ?_; clear hK K)
         refine wpAny_take (i := 12) (v := ?_) rfl (by kernel_rfl) (by kernel_rfl) (by kernel_rfl) (fun _ _ _ h => h) (Or.inl ⟨by rfl, ?_⟩) ?_
         rotate_left
         ·
          intro w; go_simp; try with_reducible rfl
         refine wpAny_ready (rs := [13]) (by kernel_rfl) (by simp) ?_
         refine AllReady.cons rfl (fun K hK => ?_) ?_
         ·
          go_simp
          (refine hK _ _ ?_; clear hK K)
          refine wpAny_done (by kernel_rfl) ?_ _
          go_step
          go_step
          go_meet
          case rel => exact HW8
         exact AllReady.nil
        exact AllReady.nil
       refine AllReady.cons rfl (fun K hK => ?_) ?_
       ·
        go_simp
        (refine hK _ _ ?_; clear hK K)
        refine wpAny_ready (rs := [8]) (by kernel_rfl) (by simp) ?_
        refine AllReady.cons rfl (fun K hK => ?_) ?_
        ·
         go_simp
         (refine hK _ _ ?_; clear hK K)
         refine wpAny_take (i := 9) (v := ?_) rfl (by kernel_rfl) (by kernel_rfl) (by kernel_rfl) (fun _ _ _ h => h) (Or.inl ⟨by rfl, ?_⟩) ?_
         rotate_left
         ·
          intro w; go_simp; try with_reducible rfl
         refine wpAny_take (i := 12) (v := ?_) rfl (by kernel_rfl) (by kernel_rfl) (by kernel_rfl) (fun _ _ _ h => h) (Or.inl ⟨by rfl, ?_⟩) ?_
         rotate_left
         ·
          intro w; go_simp; try with_reducible rfl
         refine wpAny_ready (rs := [13]) (by kernel_rfl) (by simp) ?_
         refine AllReady.cons rfl (fun K hK => ?_) ?_
         ·
          go_simp
          (refine hK _ _ ?_; clear hK K)
          refine wpAny_done (by kernel_rfl) ?_ _
          go_step
          go_step
          go_meet
          case rel => exact HW8
         exact AllReady.nil
        exact AllReady.nil
       exact AllReady.nil
      refine AllReady.cons rfl (fun K hK => ?_) ?_
      ·
       go_simp
       (refine hK _ _ ?_; clear hK K)
       refine wpAny_take (i := 9) (v := ?_) rfl (by kernel_rfl) (by kernel_rfl) (by kernel_rfl) (fun _ _ _ h => h) (Or.inl ⟨by rfl, ?_⟩) ?_
       rotate_left
       ·
        intro w; go_simp; try with_reducible rfl
       refine wpAny_ready (rs := [1]) (by kernel_rfl) (by simp) ?_
       refine AllReady.cons rfl (fun K hK => ?_) ?_
       ·
        go_simp
        (refine hK _ _ ?_; clear hK K)
        refine wpAny_take (i := 4) (v := ?_) rfl (by kernel_rfl) (by kernel_rfl) (by kernel_rfl) (fun _ _ _ h => h) (Or.inl ⟨by rfl, ?_⟩) ?_
        rotate_left
        ·
         intro w; go_simp; try with_reducible rfl
        refine wpAny_take (i := 10) (v := ?_) rfl (by kernel_rfl) (by kernel_rfl) (by kernel_rfl) (fun _ _ _ h => h) (Or.inl ⟨by rfl, ?_⟩) ?_
        rotate_left
        ·
         intro w; go_simp; try with_reducible rfl
        refine wpAny_ready (rs := [11]) (by kernel_rfl) (by simp) ?_
        refine AllReady.cons rfl (fun K hK => ?_) ?_
        ·
         go_simp
         (refine hK _ _ ?_; clear hK K)
         refine wpAny_take (i := 12) (v := ?_) rfl (by kernel_rfl) (by kernel_rfl) (by kernel_rfl) (fun _ _ _ h => h) (Or.inl ⟨by rfl, ?_⟩) ?_
         rotate_left
         ·
          intro w; go_simp; try with_reducible rfl
         refine wpAny_ready (rs := [13]) (by kernel_rfl) (by simp) ?_
         refine AllReady.cons rfl (fun K hK => ?_) ?_
         ·
          go_simp
          (refine hK _ _ ?_; clear hK K)
          refine wpAny_done (by kernel_rfl) ?_ _
          go_step
          go_step
          go_meet
          case rel => exact HW8
         exact AllReady.nil
        exact AllReady.nil
       exact AllReady.nil
      exact AllReady.nil
     refine AllReady.cons rfl (fun K hK => ?_) ?_
     ·
      go_simp
      (refine hK _ _ ?_; clear hK K)
      refine wpAny_ready (rs := [1, 6]) (by kernel_rfl) (by simp) ?_
      refine AllReady.cons rfl (fun K hK => ?_) ?_
      ·
       go_simp
       (refine hK _ _ ?_; clear hK K)
       refine wpAny_take (i := 4) (v := ?_) rfl (by kernel_rfl) (by kernel_rfl) (by kernel_rfl) (fun _ _ _ h => h) (Or.inl ⟨by rfl, ?_⟩) ?_
       rotate_left
       ·
        intro w; go_simp; try with_reducible rfl
       refine wpAny_take (i := 10) (v := ?_) rfl (by kernel_rfl) (by kernel_rfl) (by kernel_rfl) (fun _ _ _ h => h) (Or.inl ⟨by rfl, ?_⟩) ?_
       rotate_left
       ·
        intro w; go_simp; try with_reducible rfl
       refine wpAny_ready (rs := [6, 11]) (by kernel_rfl) (by simp) ?_
       refine AllReady.cons rfl (fun K hK => ?_) ?_
       ·
        go_simp
        (refine hK _ _ ?_; clear hK K)
        refine wpAny_take (i := 9) (v := ?_) rfl (by kernel_rfl) (by kernel_rfl) (by kernel_rfl) (fun _ _ _ h => h) (Or.inl ⟨by rfl, ?_⟩) ?_
        rotate_left
        ·
         intro w; go_simp; try with_reducible rfl
        refine wpAny_ready (rs := [11]) (by kernel_rfl) (by simp) ?_
        refine AllReady.cons rfl (fun K hK => ?_) ?_
        ·
         go_simp
         (refine hK _ _ ?_; clear hK K)
         refine wpAny_take (i := 12) (v := ?_) rfl (by kernel_rfl) (by kernel_rfl) (by kernel_rfl) (fun _ _ _ h => h) (Or.inl ⟨by rfl, ?_⟩) ?_
         rotate_left
         ·
          intro w; go_simp; try with_reducible rfl
         refine wpAny_ready (rs := [13]) (by kernel_rfl) (by simp) ?_
         refine AllReady.cons rfl (fun K hK => ?_) ?_
         ·
          go_simp
          (refine hK _ _ ?_; clear hK K)
          refine wpAny_done (by kernel_rfl) ?_ _
          go_step
          go_step
          go_meet
          case rel => exact HW8
         exact AllReady.nil
        exact AllReady.nil
       refine AllReady.cons rfl (fun K hK => ?_) ?_
       ·
        go_simp
        (refine hK _ _ ?_; clear hK K)
        refine wpAny_ready (rs := [6]) (by kernel_rfl) (by simp) ?_
        refine AllReady.cons rfl (fun K hK => ?_) ?_
        ·
         go_simp
         (refine hK _ _ ?_; clear hK K)
         refine wpAny_take (i := 9) (v := ?_) rfl (by kernel_rfl) (by kernel_rfl) (by kernel_rfl) (fun _ _ _ h => h) (Or.inl ⟨by rfl, ?_⟩) ?_
         rotate_left
         ·
          intro w; go_simp; try with_reducible rfl
         refine wpAny_take (i := 12) (v := ?_) rfl (by kernel_rfl) (by kernel_rfl) (by kernel_rfl) (fun _ _ _ h => h) (Or.inl ⟨by rfl, ?_⟩) ?_
         rotate_left
         ·
          intro w; go_simp; try with_reducible rfl
         refine wpAny_ready (rs := [13]) (by kernel_rfl) (by simp) ?_
         refine AllReady.cons rfl (fun K hK => ?_) ?_
         ·
          go_simp
          (refine hK _ _ ?_; clear hK K)
          refine wpAny_done (by kernel_rfl) ?_ _
          go_step
          go_step
          go_meet
          case rel => exact HW8
         exact AllReady.nil
        exact AllReady.nil
       exact AllReady.nil
      refine AllReady.cons rfl (fun K hK => ?_) ?_
      ·
       go_simp
       (refine hK _ _ ?_; clear hK K)
       refine wpAny_take (i := 9) (v := ?_) rfl (by kernel_rfl) (by kernel_rfl) (by kernel_rfl) (fun _ _ _ h => h) (Or.inl ⟨by rfl, ?_⟩) ?_
       rotate_left
       ·
        intro w; go_simp; try with_reducible rfl
       refine wpAny_ready (rs := [1]) (by kernel_rfl) (by simp) ?_
       refine AllReady.cons rfl (fun K hK => ?_) ?_
       ·
        go_simp
        (refine hK _ _ ?_; clear hK K)
        refine wpAny_take (i := 4) (v := ?_) rfl (by kernel_rfl) (by kernel_rfl) (by kernel_rfl) (fun _ _ _ h => h) (Or.inl ⟨by rfl, ?_⟩) ?_
        rotate_left
        ·
         intro w; go_simp; try with_reducible rfl
        refine wpAny_take (i := 10) (v := ?_) rfl (by kernel_rfl) (by kernel_rfl) (by kernel_rfl) (fun _ _ _ h => h) (Or.inl ⟨by rfl, ?_⟩) ?_
        rotate_left
        ·
         intro w; go_simp; try with_reducible rfl
        refine wpAny_ready (rs := [11]) (by kernel_rfl) (by simp) ?_
        refine AllReady.cons rfl (fun K hK => ?_) ?_
        ·
         go_simp
         (refine hK _ _ ?_; clear hK K)
         refine wpAny_take (i := 12) (v := ?_) rfl (by kernel_rfl) (by kernel_rfl) (by kernel_rfl) (fun _ _ _ h => h) (Or.inl ⟨by rfl, ?_⟩) ?_
         rotate_left
         ·
          intro w; go_simp; try with_reducible rfl
         refine wpAny_ready (rs := [13]) (by kernel_rfl) (by simp) ?_
         refine AllReady.cons rfl (fun K hK => ?_) ?_
         ·
          go_simp
          (refine hK _ _ ?_; clear hK K)
          refine wpAny_done (by kernel_rfl) ?_ _
          go_step
          go_step
          go_meet
          case rel => exact HW8
         exact AllReady.nil
        exact AllReady.nil
       exact AllReady.nil
      exact AllReady.nil
     exact AllReady.nil
    refine AllReady.cons rfl (fun K hK => ?_) ?_
    ·
     go_simp
     (refine hK _ _ ?_; clear hK K)
     refine wpAny_ready (rs := [1, 3, 8]) (by kernel_rfl) (by simp) ?_
     refine AllReady.cons rfl (fun K hK => ?_) ?_
     ·
      go_simp
      (refine hK _ _ ?_; clear hK K)
      refine wpAny_ready (rs := [3, 8]) (by kernel_rfl) (by simp) ?_
      refine AllReady.cons rfl (fun K hK => ?_) ?_
      ·
       go_simp
       (refine hK _ _ ?_; clear hK K)
       refine wpAny_take (i := 4) (v := ?_) rfl (by kernel_rfl) (by kernel_rfl) (by kernel_rfl) (fun _ _ _ h => h) (Or.inl ⟨by rfl, ?_⟩) ?_
       rotate_left
       ·
        intro w; go_simp; try with_reducible rfl
       refine wpAny_take (i := 10) (v := ?_) rfl (by kernel_rfl) (by kernel_rfl) (by kernel_rfl) (fun _ _ _ h => h) (Or.inl ⟨by rfl, ?_⟩) ?_
       rotate_left
       ·
        intro w; go_simp; try with_reducible rfl
       refine wpAny_ready (rs := [8, 11]) (by kernel_rfl) (by simp) ?_
       refine AllReady.cons rfl (fun K hK => ?_) ?_
       ·
        go_simp
        (refine hK _ _ ?_; clear hK K)
        refine wpAny_take (i := 9) (v := ?_) rfl (by kernel_rfl) (by kernel_rfl) (by kernel_rfl) (fun _ _ _ h => h) (Or.inl ⟨by rfl, ?_⟩) ?_
        rotate_left
        ·
         intro w; go_simp; try with_reducible rfl
        refine wpAny_ready (rs := [11]) (by kernel_rfl) (by simp) ?_
        refine AllReady.cons rfl (fun K hK => ?_) ?_
        ·
         go_simp
         (refine hK _ _ ?_; clear hK K)
         refine wpAny_take (i := 12) (v := ?_) rfl (by kernel_rfl) (by kernel_rfl) (by kernel_rfl) (fun _ _ _ h => h) (Or.inl ⟨by rfl, ?_⟩) ?_
         rotate_left
         ·
          intro w; go_simp; try with_reducible rfl
         refine wpAny_ready (rs := [13]) (by kernel_rfl) (by simp) ?_
         refine AllReady.cons rfl (fun K hK => ?_) ?_
         ·
          go_simp
          (refine hK _ _ ?_; clear hK K)
          refine wpAny_done (by kernel_rfl) ?_ _
          go_step
          go_step
          go_meet
          case rel => exact HW8
         exact AllReady.nil
        exact AllReady.nil
       refine AllReady.cons rfl (fun K hK => ?_) ?_
       ·
        go_simp
        (refine hK _ _ ?_; clear hK K)
        refine wpAny_ready (rs := [8]) (by kernel_rfl) (by simp) ?_
        refine AllReady.cons rfl (fun K hK => ?_) ?_
        ·
         go_simp
         (refine hK _ _ ?_; clear hK K)
         refine wpAny_take (i := 9) (v := ?_) rfl (by kernel_rfl) (by kernel_rfl) (by kernel_rfl) (fun _ _ _ h => h) (Or.inl ⟨by rfl, ?_⟩) ?_
         rotate_left
         ·
          intro w; go_simp; try with_reducible rfl
         refine wpAny_take (i := 12) (v := ?_) rfl (by kernel_rfl) (by kernel_rfl) (by kernel_rfl) (fun _ _ _ h => h) (Or.inl ⟨by rfl, ?_⟩) ?_
         rotate_left
         ·
          intro w; go_simp; try with_reducible rfl
         refine wpAny_ready (rs := [13]) (by kernel_rfl) (by simp) ?_
         refine AllReady.cons rfl (fun K hK => ?_) ?_
         ·
          go_simp
          (refine hK _ _ ?_; clear hK K)
          refine wpAny_done (by kernel_rfl) ?_ _
          go_step
          go_step
          go_meet
          case rel => exact HW8
         exact AllReady.nil
        exact AllReady.nil
       exact AllReady.nil
      refine AllReady.cons rfl (fun K hK => ?_) ?_
      ·
       go_simp
       (refine hK _ _ ?_; clear hK K)
       refine wpAny_take (i := 9) (v := ?_) rfl (by kernel_rfl) (by kernel_rfl) (by kernel_rfl) (fun _ _ _ h => h) (Or.inl ⟨by rfl, ?_⟩) ?_
       rotate_left
       ·
        intro w; go_simp; try with_reducible rfl
       refine wpAny_ready (rs := [3]) (by kernel_rfl) (by simp) ?_
       refine AllReady.cons rfl (fun K hK => ?_) ?_
       ·
        go_simp
        (refine hK _ _ ?_; clear hK K)
        refine wpAny_take (i := 4) (v := ?_) rfl (by kernel_rfl) (by kernel_rfl) (by kernel_rfl) (fun _ _ _ h => h) (Or.inl ⟨by rfl, ?_⟩) ?_
        rotate_left
        ·
         intro w; go_simp; try with_reducible rfl
        refine wpAny_take (i := 10) (v := ?_) rfl (by kernel_rfl) (by kernel_rfl) (by kernel_rfl) (fun _ _ _ h => h) (Or.inl ⟨by rfl, ?_⟩) ?_
        rotate_left
        ·
         intro w; go_simp; try with_reducible rfl
        refine wpAny_ready (rs := [11]) (by kernel_rfl) (by simp) ?_
        refine AllReady.cons rfl (fun K hK => ?_) ?_
        ·
         go_simp
         (refine hK _ _ ?_; clear hK K)
         refine wpAny_take (i := 12) (v := ?_) rfl (by kernel_rfl) (by kernel_rfl) (by kernel_rfl) (fun _ _ _ h => h) (Or.inl ⟨by rfl, ?_⟩) ?_
         rotate_left
         ·
          intro w; go_simp; try with_reducible rfl
         refine wpAny_ready (rs := [13]) (by kernel_rfl) (by simp) ?_
         refine AllReady.cons rfl (fun K hK => ?_) ?_
         ·
          go_simp
          (refine hK _ _ ?_; clear hK K)
          refine wpAny_done (by kernel_rfl) ?_ _
          go_step
          go_step
          go_meet
          case rel => exact HW8
         exact AllReady.nil
        exact AllReady.nil
       exact AllReady.nil
      exact AllReady.nil
     refine AllReady.cons rfl (fun K hK => ?_) ?_
     ·
      go_simp
      (refine hK _ _ ?_; clear hK K)
      refine wpAny_ready (rs := [1, 8]) (by kernel_rfl) (by simp) ?_
      refine AllReady.cons rfl (fun K hK => ?_) ?_
      ·
       go_simp
       (refine hK _ _ ?_; clear hK K)
       refine wpAny_take (i := 4) (v := ?_) rfl (by kernel_rfl) (by kernel_rfl) (by kernel_rfl) (fun _ _ _ h => h) (Or.inl ⟨by rfl, ?_⟩) ?_
       rotate_left
       ·
        intro w; go_simp; try with_reducible rfl
       refine wpAny_take (i := 10) (v := ?_) rfl (by kernel_rfl) (by kernel_rfl) (by kernel_rfl) (fun _ _ _ h => h) (Or.inl ⟨by rfl, ?_⟩) ?_
       rotate_left
       ·
        intro w; go_simp; try with_reducible rfl
       refine wpAny_ready (rs := [8, 11]) (by kernel_rfl) (by simp) ?_
       refine AllReady.cons rfl (fun K hK => ?_) ?_
       ·
        go_simp
        (refine hK _ _ ?_; clear hK K)
        refine wpAny_take (i := 9) (v := ?_) rfl (by kernel_rfl) (by kernel_rfl) (by kernel_rfl) (fun _ _ _ h => h) (Or.inl ⟨by rfl, ?_⟩) ?_
        rotate_left
        ·
         intro w; go_simp; try with_reducible rfl
        refine wpAny_ready (rs := [11]) (by kernel_rfl) (by simp) ?_
        refine AllReady.cons rfl (fun K hK => ?_) ?_
        ·
         go_simp
         (refine hK _ _ ?_; clear hK K)
         refine wpAny_take (i := 12) (v := ?_) rfl (by kernel_rfl) (by kernel_rfl) (by kernel_rfl) (fun _ _ _ h => h) (Or.inl ⟨by rfl, ?_⟩) ?_
         rotate_left
         ·
          intro w; go_simp; try with_reducible rfl
         refine wpAny_ready (rs := [13]) (by kernel_rfl) (by simp) ?_
         refine AllReady.cons rfl (fun K hK => ?_) ?_
         ·
          go_simp
          (refine hK _ _ ?_; clear hK K)
          refine wpAny_done (by kernel_rfl) ?_ _
          go_step
          go_step
          go_meet
          case rel => exact HW8
         exact AllReady.nil
        exact AllReady.nil
       refine AllReady.cons rfl (fun K hK => ?_) ?_
       ·
        go_simp
        (refine hK _ _ ?_; clear hK K)
        refine wpAny_ready (rs := [8]) (by kernel_rfl) (by simp) ?_
        refine AllReady.cons rfl (fun K hK => ?_) ?_
        ·
         go_simp
         (refine hK _ _ ?_; clear hK K)
         refine wpAny_take (i := 9) (v := ?_) rfl (by kernel_rfl) (by kernel_rfl) (by kernel_rfl) (fun _ _ _ h => h) (Or.inl ⟨by rfl, ?_⟩) ?_
         rotate_left
         ·
          intro w; go_simp; try with_reducible rfl
         refine wpAny_take (i := 12) (v := ?_) rfl (by kernel_rfl) (by kernel_rfl) (by kernel_rfl) (fun _ _ _ h => h) (Or.inl ⟨by rfl, ?_⟩) ?_
         rotate_left
         ·
          intro w; go_simp; try with_reducible rfl
         refine wpAny_ready (rs := [13]) (by kernel_rfl) (by simp) ?_
         refine AllReady.cons rfl (fun K hK => ?_) ?_
         ·
          go_simp
          (refine hK _ _ ?_; clear hK K)
          refine wpAny_done (by kernel_rfl) ?_ _
          go_step
          go_step
          go_meet
          case rel => exact HW8
         exact AllReady.nil
        exact AllReady.nil
       exact AllReady.nil
      refine AllReady.cons rfl (fun K hK => ?_) ?_
      ·
       go_simp
       (refine hK _ _ ?_; clear hK K)
       refine wpAny_take (i := 9) (v := ?_) rfl (by kernel_rfl) (by kernel_rfl) (by kernel_rfl) (fun _ _ _ h => h) (Or.inl ⟨by rfl, ?_⟩) ?_
       rotate_left
       ·
        intro w; go_simp; try with_reducible rfl
       refine wpAny_ready (rs := [1]) (by kernel_rfl) (by simp) ?_
       refine AllReady.cons rfl (fun K hK => ?_) ?_
       ·
        go_simp
        (refine hK _ _ ?_; clear hK K)
        refine wpAny_take (i := 4) (v := ?_) rfl (by kernel_rfl) (by kernel_rfl) (by kernel_rfl) (fun _ _ _ h => h) (Or.inl ⟨by rfl, ?_⟩) ?_
        rotate_left
        ·
         intro w; go_simp; try with_reducible rfl
        refine wpAny_take (i := 10) (v := ?_) rfl (by kernel_rfl) (by kernel_rfl) (by kernel_rfl) (fun _ _ _ h => h) (Or.inl ⟨by rfl, ?_⟩) ?_
        rotate_left
        ·
         intro w; go_simp; try with_reducible rfl
        refine wpAny_ready (rs := [11]) (by kernel_rfl) (by simp) ?_
        refine AllReady.cons rfl (fun K hK => ?_) ?_
        ·
         go_simp
         (refine hK _ _ ?_; clear hK K)
         refine wpAny_take (i := 12) (v := ?_) rfl (by kernel_rfl) (by kernel_rfl) (by kernel_rfl) (fun _ _ _ h => h) (Or.inl ⟨by rfl, ?_⟩) ?_
         rotate_left
         ·
          intro w; go_simp; try with_reducible rfl
         refine wpAny_ready (rs := [13]) (by kernel_rfl) (by simp) ?_
         refine AllReady.cons rfl (fun K hK => ?_) ?_
         ·
          go_simp
          (refine hK _ _ ?_; clear hK K)
          refine wpAny_done (by kernel_rfl) ?_ _
          go_step
          go_step
          go_meet
          case rel => exact HW8
         exact AllReady.nil
        exact AllReady.nil
       exact AllReady.nil
      exact AllReady.nil
     refine AllReady.cons rfl (fun K hK => ?_) ?_
     ·
      go_simp
      (refine hK _ _ ?_; clear hK K)
      refine wpAny_take (i := 9) (v := ?_) rfl (by kernel_rfl) (by kernel_rfl) (by kernel_rfl) (fun _ _ _ h => h) (Or.inl ⟨by rfl, ?_⟩) ?_
      rotate_left
      ·
       intro w; go_simp; try with_reducible rfl
      refine wpAny_ready (rs := [1, 3]) (by kernel_rfl) (by simp) ?_
      refine AllReady.cons rfl (fun K hK => ?_) ?_
      ·
       go_simp
       (refine hK _ _ ?_; clear hK K)
       refine wpAny_ready (rs := [3]) (by kernel_rfl) (by simp) ?_
       refine AllReady.cons rfl (fun K hK => ?_) ?_
       ·
        go_simp
        (refine hK _ _ ?_; clear hK K)
        refine wpAny_take (i := 4) (v := ?_) rfl (by kernel_rfl) (by kernel_rfl) (by kernel_rfl) (fun _ _ _ h => h) (Or.inl ⟨by rfl, ?_⟩) ?_
        rotate_left
        ·
         intro w; go_simp; try with_reducible rfl
        refine wpAny_take (i := 10) (v := ?_) rfl (by kernel_rfl) (by kernel_rfl) (by kernel_rfl) (fun _ _ _ h => h) (Or.inl ⟨by rfl, ?_⟩) ?_
        rotate_left
        ·
         intro w; go_simp; try with_reducible rfl
        refine wpAny_ready (rs := [11]) (by kernel_rfl) (by simp) ?_
        refine AllReady.cons rfl (fun K hK => ?_) ?_
        ·
         go_simp
         (refine hK _ _ ?_; clear hK K)
         refine wpAny_take (i := 12) (v := ?_) rfl (by kernel_rfl) (by kernel_rfl) (by kernel_rfl) (fun _ _ _ h => h) (Or.inl ⟨by rfl, ?_⟩) ?_
         rotate_left
         ·
          intro w; go_simp; try with_reducible rfl
         refine wpAny_ready (rs := [13]) (by kernel_rfl) (by simp) ?_
         refine AllReady.cons rfl (fun K hK => ?_) ?_
         ·
          go_simp
          (refine hK _ _ ?_; clear hK K)
          refine wpAny_done (by kernel_rfl) ?_ _
          go_step
          go_step
          go_meet
          case rel => exact HW8
         exact AllReady.nil
        exact AllReady.nil
       exact AllReady.nil
      refine AllReady.cons rfl (fun K hK => ?_) ?_
      ·
       go_simp
       (refine hK _ _ ?_; clear hK K)
       refine wpAny_ready (rs := [1]) (by kernel_rfl) (by simp) ?_
       refine AllReady.cons rfl (fun K hK => ?_) ?_
       ·
        go_simp
        (refine hK _ _ ?_; clear hK K)
        refine wpAny_take (i := 4) (v := ?_) rfl (by kernel_rfl) (by kernel_rfl) (by kernel_rfl) (fun _ _ _ h => h) (Or.inl ⟨by rfl, ?_⟩) ?_
        rotate_left
        ·
         intro w; go_simp; try with_reducible rfl
        refine wpAny_take (i := 10) (v := ?_) rfl (by kernel_rfl) (by kernel_rfl) (by kernel_rfl) (fun _ _ _ h => h) (Or.inl ⟨by rfl, ?_⟩) ?_
        rotate_left
        ·
         intro w; go_simp; try with_reducible rfl
        refine wpAny_ready (rs := [11]) (by kernel_rfl) (by simp) ?_
        refine AllReady.cons rfl (fun K hK => ?_) ?_
        ·
         go_simp
         (refine hK _ _ ?_; clear hK K)
         refine wpAny_take (i := 12) (v := ?_) rfl (by kernel_rfl) (by kernel_rfl) (by kernel_rfl) (fun _ _ _ h => h) (Or.inl ⟨by rfl, ?_⟩) ?_
         rotate_left
         ·
          intro w; go_simp; try with_reducible rfl
         refine wpAny_ready (rs := [13]) (by kernel_rfl) (by simp) ?_
         refine AllReady.cons rfl (fun K hK => ?_) ?_
         ·
          go_simp
          (refine hK _ _ ?_; clear hK K)
          refine wpAny_done (by kernel_rfl) ?_ _
          go_step
          go_step
          go_meet
          case rel => exact HW8
         exact AllReady.nil
        exact AllReady.nil
       exact AllReady.nil
      exact AllReady.nil
     exact AllReady.nil
    refine AllReady.cons rfl (fun K hK => ?_) ?_
    ·
     go_simp
     (refine hK _ _ ?_; clear hK K)
     refine wpAny_ready (rs := [1, 3, 6]) (by kernel_rfl) (by simp) ?_
     refine AllReady.cons rfl (fun K hK => ?_) ?_
     ·
      go_simp
      (refine hK _ _ ?_; clear hK K)
      refine wpAny_ready (rs := [3, 6]) (by kernel_rfl) (by simp) ?_
      refine AllReady.cons rfl (fun K hK => ?_) ?_
      ·
       go_simp
       (refine hK _ _ ?_; clear hK K)
       refine wpAny_take (i := 4) (v := ?_) rfl (by kernel_rfl) (by kernel_rfl) (by kernel_rfl) (fun _ _ _ h => h) (Or.inl ⟨by rfl, ?_⟩) ?_
       rotate_left
       ·
        intro w; go_simp; try with_reducible rfl
       refine wpAny_take (i := 10) (v := ?_) rfl (by kernel_rfl) (by kernel_rfl) (by kernel_rfl) (fun _ _ _ h => h) (Or.inl ⟨by rfl, ?_⟩) ?_
       rotate_left
       ·
        intro w; go_simp; try with_reducible rfl
       refine wpAny_ready (rs := [6, 11]) (by kernel_rfl) (by simp) ?_
       refine AllReady.cons rfl (fun K hK => ?_) ?_
       ·
        go_simp
        (refine hK _ _ ?_; clear hK K)
        refine wpAny_take (i := 9) (v := ?_) rfl (by kernel_rfl) (by kernel_rfl) (by kernel_rfl) (fun _ _ _ h => h) (Or.inl ⟨by rfl, ?_⟩) ?_
        rotate_left
        ·
         intro w; go_simp; try with_reducible rfl
        refine wpAny_ready (rs := [11]) (by kernel_rfl) (by simp) ?_
        refine AllReady.cons rfl (fun K hK => ?_) ?_
        ·
         go_simp
         (refine hK _ _ ?_; clear hK K)
         refine wpAny_take (i := 12) (v := ?_) rfl (by kernel_rfl) (by kernel_rfl) (by kernel_rfl) (fun _ _ _ h => h) (Or.inl ⟨by rfl, ?_⟩) ?_
         rotate_left
         ·
          intro w; go_simp; try with_reducible rfl
         refine wpAny_ready (rs := [13]) (by kernel_rfl) (by simp) ?_
         refine AllReady.cons rfl (fun K hK => ?_) ?_
         ·
          go_simp
          (refine hK _ _ ?_; clear hK K)
          refine wpAny_done (by kernel_rfl) ?_ _
          go_step
          go_step
          go_meet
          case rel => exact HW8
         exact AllReady.nil
        exact AllReady.nil
       refine AllReady.cons rfl (fun K hK => ?_) ?_
       ·
        go_simp
        (refine hK _ _ ?_; clear hK K)
        refine wpAny_ready (rs := [6]) (by kernel_rfl) (by simp) ?_
        refine AllReady.cons rfl (fun K hK => ?_) ?_
        ·
         go_simp
         (refine hK _ _ ?_; clear hK K)
         refine wpAny_take (i := 9) (v := ?_) rfl (by kernel_rfl) (by kernel_rfl) (by kernel_rfl) (fun _ _ _ h => h) (Or.inl ⟨by rfl, ?_⟩) ?_
         rotate_left
         ·
          intro w; go_simp; try with_reducible rfl
         refine wpAny_take (i := 12) (v := ?_) rfl (by kernel_rfl) (by kernel_rfl) (by kernel_rfl) (fun _ _ _ h => h) (Or.inl ⟨by rfl, ?_⟩) ?_
         rotate_left
         ·
          intro w; go_simp; try with_reducible rfl
         refine wpAny_ready (rs := [13]) (by kernel_rfl) (by simp) ?_
         refine AllReady.cons rfl (fun K hK => ?_) ?_
         ·
          go_simp
          (refine hK _ _ ?_; clear hK K)
          refine wpAny_done (by kernel_rfl) ?_ _
          go_step
          go_step
          go_meet
          case rel => exact HW8
         exact AllReady.nil
        exact AllReady.nil
       exact AllReady.nil
      refine AllReady.cons rfl (fun K hK => ?_) ?_
      ·
       go_simp
       (refine hK _ _ ?_; clear hK K)
       refine wpAny_take (i := 9) (v := ?_) rfl (by kernel_rfl) (by kernel_rfl) (by kernel_rfl) (fun _ _ _ h => h) (Or.inl ⟨by rfl, ?_⟩) ?_
       rotate_left
       ·
        intro w; go_simp; try with_reducible rfl
       refine wpAny_ready (rs := [3]) (by kernel_rfl) (by simp) ?_
       refine AllReady.cons rfl (fun K hK => ?_) ?_
       ·
        go_simp
        (refine hK _ _ ?_; clear hK K)
        refine wpAny_take (i := 4) (v := ?_) rfl (by kernel_rfl) (by kernel_rfl) (by kernel_rfl) (fun _ _ _ h => h) (Or.inl ⟨by rfl, ?_⟩) ?_
        rotate_left
        ·
         intro w; go_simp; try with_reducible rfl
        refine wpAny_take (i := 10) (v := ?_) rfl (by kernel_rfl) (by kernel_rfl) (by kernel_rfl) (fun _ _ _ h => h) (Or.inl ⟨by rfl, ?_⟩) ?_
        rotate_left
        ·
         intro w; go_simp; try with_reducible rfl
        refine wpAny_ready (rs := [11]) (by kernel_rfl) (by simp) ?_
        refine AllReady.cons rfl (fun K hK => ?_) ?_
        ·
         go_simp
         (refine hK _ _ ?_; clear hK K)
         refine wpAny_take (i := 12) (v := ?_) rfl (by kernel_rfl) (by kernel_rfl) (by kernel_rfl) (fun _ _ _ h => h) (Or.inl ⟨by rfl, ?_⟩) ?_
         rotate_left
         ·
          intro w; go_simp; try with_reducible rfl
         refine wpAny_ready (rs := [13]) (by kernel_rfl) (by simp) ?_
         refine AllReady.cons rfl (fun K hK => ?_) ?_
         ·
          go_simp
          (refine hK _ _ ?_; clear hK K)
          refine wpAny_done (by kernel_rfl) ?_ _
          go_step
          go_step
          go_meet
          case rel => exact HW8
         exact AllReady.nil
        exact AllReady.nil
       exact AllReady.nil
      exact AllReady.nil
     refine AllReady.cons rfl (fun K hK => ?_) ?_
     ·
      go_simp
      (refine hK _ _ ?_; clear hK K)
      refine wpAny_ready (rs := [1, 6]) (by kernel_rfl) (by simp) ?_
      refine AllReady.cons rfl (fun K hK => ?_) ?_
      ·
       go_simp
       (refine hK _ _ ?_; clear hK K)
       refine wpAny_take (i := 4) (v := ?_) rfl (by kernel_rfl) (by kernel_rfl) (by kernel_rfl) (fun _ _ _ h => h) (Or.inl ⟨by rfl, ?_⟩) ?_
       rotate_left
       ·
        intro w; go_simp; try with_reducible rfl
       refine wpAny_take (i := 10) (v := ?_) rfl (by kernel_rfl) (by kernel_rfl) (by kernel_rfl) (fun _ _ _ h => h) (Or.inl ⟨by rfl, ?_⟩) ?_
       rotate_left
       ·
        intro w; go_simp; try with_reducible rfl
       refine wpAny_ready (rs := [6, 11]) (by kernel_rfl) (by simp) ?_
       refine AllReady.cons rfl (fun K hK => ?_) ?_
       ·
        go_simp
        (refine hK _ _ ?_; clear hK K)
        refine wpAny_take (i := 9) (v := ?_) rfl (by kernel_rfl) (by kernel_rfl) (by kernel_rfl) (fun _ _ _ h => h) (Or.inl ⟨by rfl, ?_⟩) ?_
        rotate_left
        ·
         intro w; go_simp; try with_reducible rfl
        refine wpAny_ready (rs := [11]) (by kernel_rfl) (by simp) ?_
        refine AllReady.cons rfl (fun K hK => ?_) ?_
        ·
         go_simp
         (refine hK _ _ ?_; clear hK K)
         refine wpAny_take (i := 12) (v := ?_) rfl (by kernel_rfl) (by kernel_rfl) (by kernel_rfl) (fun _ _ _ h => h) (Or.inl ⟨by rfl, ?_⟩) ?_
         rotate_left
         ·
          intro w; go_simp; try with_reducible rfl
         refine wpAny_ready (rs := [13]) (by kernel_rfl) (by simp) ?_
         refine AllReady.cons rfl (fun K hK => ?_) ?_
         ·
          go_simp
          (refine hK _ _ ?_; clear hK K)
          refine wpAny_done (by kernel_rfl) ?_ _
          go_step
          go_step
          go_meet
          case rel => exact HW8
         exact AllReady.nil
        exact AllReady.nil
       refine AllReady.cons rfl (fun K hK => ?_) ?_
       ·
        go_simp
        (refine hK _ _ ?_; clear hK K)
        refine wpAny_ready (rs := [6]) (by kernel_rfl) (by simp) ?_
        refine AllReady.cons rfl (fun K hK => ?_) ?_
        ·
         go_simp
         (refine hK _ _ ?_; clear hK K)
         refine wpAny_take (i := 9) (v := ?_) rfl (by kernel_rfl) (by kernel_rfl) (by kernel_rfl) (fun _ _ _ h => h) (Or.inl ⟨by rfl, ?_⟩) ?_
         rotate_left
         ·
          intro w; go_simp; try with_reducible rfl
         refine wpAny_take (i := 12) (v := ?_) rfl (by kernel_rfl) (by kernel_rfl) (by kernel_rfl) (fun _ _ _ h => h) (Or.inl ⟨by rfl, ?_⟩) ?_
         rotate_left
         ·
          intro w; go_simp; try with_reducible rfl
         refine wpAny_ready (rs := [13]) (by kernel_rfl) (by simp) ?_
         refine AllReady.cons rfl (fun K hK => ?_) ?_
         ·
          go_simp
          (refine hK _ _ ?_; clear hK K)
          refine wpAny_done (by kernel_rfl) ?_ _
          go_step
          go_step
          go_meet
          case rel => exact HW8
         exact AllReady.nil
        exact AllReady.nil
       exact AllReady.nil
      refine AllReady.cons rfl (fun K hK => ?_) ?_
      ·
       go_simp
       (refine hK _ _ ?_; clear hK K)
       refine wpAny_take (i := 9) (v := ?_) rfl (by kernel_rfl) (by kernel_rfl) (by kernel_rfl) (fun _ _ _ h => h) (Or.inl ⟨by rfl, ?_⟩) ?_
       rotate_left
       ·
        intro w; go_simp; try with_reducible rfl
       refine wpAny_ready (rs := [1]) (by kernel_rfl) (by simp) ?_
       refine AllReady.cons rfl (fun K hK => ?_) ?_
       ·
        go_simp
        (refine hK _ _ ?_; clear hK K)
        refine wpAny_take (i := 4) (v := ?_) rfl (by kernel_rfl) (by kernel_rfl) (by kernel_rfl) (fun _ _ _ h => h) (Or.inl ⟨by rfl, ?_⟩) ?_
        rotate_left
        ·
         intro w; go_simp; try with_reducible rfl
        refine wpAny_take (i := 10) (v := ?_) rfl (by kernel_rfl) (by kernel_rfl) (by kernel_rfl) (fun _ _ _ h => h) (Or.inl ⟨by rfl, ?_⟩) ?_
        rotate_left
        ·
         intro w; go_simp; try with_reducible rfl
        refine wpAny_ready (rs := [11]) (by kernel_rfl) (by simp) ?_
        refine AllReady.cons rfl (fun K hK => ?_) ?_
        ·
         go_simp
         (refine hK _ _ ?_; clear hK K)
         refine wpAny_take (i := 12) (v := ?_) rfl (by kernel_rfl) (by kernel_rfl) (by kernel_rfl) (fun _ _ _ h => h) (Or.inl ⟨by rfl, ?_⟩) ?_
         rotate_left
         ·
          intro w; go_simp; try with_reducible rfl
         refine wpAny_ready (rs := [13]) (by kernel_rfl) (by simp) ?_
         refine AllReady.cons rfl (fun K hK => ?_) ?_
         ·
          go_simp
          (refine hK _ _ ?_; clear hK K)
          refine wpAny_done (by kernel_rfl) ?_ _
          go_step
          go_step
          go_meet
          case rel => exact HW8
         exact AllReady.nil
        exact AllReady.nil
       exact AllReady.nil
      exact AllReady.nil
     refine AllReady.cons rfl (fun K hK => ?_) ?_
     ·
      go_simp
      (refine hK _ _ ?_; clear hK K)
      refine wpAny_take (i := 9) (v := ?_) rfl (by kernel_rfl) (by kernel_rfl) (by kernel_rfl) (fun _ _ _ h => h) (Or.inl ⟨by rfl, ?_⟩) ?_
      rotate_left
      ·
       intro w; go_simp; try with_reducible rfl
      refine wpAny_ready (rs := [1, 3]) (by kernel_rfl) (by simp) ?_
      refine AllReady.cons rfl (fun K hK => ?_) ?_
      ·
       go_simp
       (refine hK _ _ ?_; clear hK K)
       refine wpAny_ready (rs := [3]) (by kernel_rfl) (by simp) ?_
       refine AllReady.cons rfl (fun K hK => ?_) ?_
       ·
        go_simp
        (refine hK _ _ ?_; clear hK K)
        refine wpAny_take (i := 4) (v := ?_) rfl (by kernel_rfl) (by kernel_rfl) (by kernel_rfl) (fun _ _ _ h => h) (Or.inl ⟨by rfl, ?_⟩) ?_
        rotate_left
        ·
         intro w; go_simp; try with_reducible rfl
        refine wpAny_take (i := 10) (v := ?_) rfl (by kernel_rfl) (by kernel_rfl) (by kernel_rfl) (fun _ _ _ h => h) (Or.inl ⟨by rfl, ?_⟩) ?_
        rotate_left
        ·
         intro w; go_simp; try with_reducible rfl
        refine wpAny_ready (rs := [11]) (by kernel_rfl) (by simp) ?_
        refine AllReady.cons rfl (fun K hK => ?_) ?_
        ·
         go_simp
         (refine hK _ _ ?_; clear hK K)
         refine wpAny_take (i := 12) (v := ?_) rfl (by kernel_rfl) (by kernel_rfl) (by kernel_rfl) (fun _ _ _ h => h) (Or.inl ⟨by rfl, ?_⟩) ?_
         rotate_left
         ·
          intro w; go_simp; try with_reducible rfl
         refine wpAny_ready (rs := [13]) (by kernel_rfl) (by simp) ?_
         refine AllReady.cons rfl (fun K hK => ?_) ?_
         ·
          go_simp
          (refine hK _ _ ?_; clear hK K)
          refine wpAny_done (by kernel_rfl) ?_ _
          go_step
          go_step
          go_meet
          case rel => exact HW8
         exact AllReady.nil
        exact AllReady.nil
       exact AllReady.nil
      refine AllReady.cons rfl (fun K hK => ?_) ?_
      ·
       go_simp
       (refine hK _ _ ?_; clear hK K)
       refine wpAny_ready (rs := [1]) (by kernel_rfl) (by simp) ?_
       refine AllReady.cons rfl (fun K hK => ?_) ?_
       ·
        go_simp
        (refine hK _ _ ?_; clear hK K)
        refine wpAny_take (i := 4) (v := ?_) rfl (by kernel_rfl) (by kernel_rfl) (by kernel_rfl) (fun _ _ _ h => h) (Or.inl ⟨by rfl, ?_⟩) ?_
        rotate_left
        ·
         intro w; go_simp; try with_reducible rfl
        refine wpAny_take (i := 10) (v := ?_) rfl (by kernel_rfl) (by kernel_rfl) (by kernel_rfl) (fun _ _ _ h => h) (Or.inl ⟨by rfl, ?_⟩) ?_
        rotate_left
        ·
         intro w; go_simp; try with_reducible rfl
        refine wpAny_ready (rs := [11]) (by kernel_rfl) (by simp) ?_
        refine AllReady.cons rfl (fun K hK => ?_) ?_
        ·
         go_simp
         (refine hK _ _ ?_; clear hK K)
         refine wpAny_take (i := 12) (v := ?_) rfl (by kernel_rfl) (by kernel_rfl) (by kernel_rfl) (fun _ _ _ h => h) (Or.inl ⟨by rfl, ?_⟩) ?_
         rotate_left
         ·
          intro w; go_simp; try with_reducible rfl
         refine wpAny_ready (rs := [13]) (by kernel_rfl) (by simp) ?_
         refine AllReady.cons rfl (fun K hK => ?_) ?_
         ·
          go_simp
          (refine hK _ _ ?_; clear hK K)
          refine wpAny_done (by kernel_rfl) ?_ _
          go_step
          go_step
          go_meet
          case rel => exact HW8
         exact AllReady.nil
        exact AllReady.nil
       exact AllReady.nil
      exact AllReady.nil
     exact AllReady.nil
    exact AllReady.nil
   case rest =>
    have q1 := Int.emod_nonneg n1 (show d1 ≠ 0 by omega)
    have q2 := Int.emod_lt_of_pos n1 hb
    have q3 := Int.emod_nonneg n2 (show d2 ≠ 0 by omega)
    have q4 := Int.emod_lt_of_pos n2 hd
    clear c0 c1 c2 c3 f0 f2 HW8 HPQ HI e1 z1 z2
    generalize n1 % d1 = m1 at hcut q1 q2 ⊢
    generalize n2 % d2 = m2 at hcut q3 q4 ⊢
    have c0 : wc.cell? ⟨w.heap.size, 0, none⟩ = some (.int .i64 m1) := hcut.out.2.2.1.cell 0
    have c1 : wc.cell? ⟨w.heap.size, 1, none⟩ = some (.int .i64 d1) := hcut.out.2.2.1.cell 1
    have c2 : wc.cell? ⟨w.heap.size + 1, 0, none⟩ = some (.int .i64 m2) := hcut.out.2.2.2.1.cell 0
    have c3 : wc.cell? ⟨w.heap.size + 1, 1, none⟩ = some (.int .i64 d2) := hcut.out.2.2.2.1.cell 1
    by_cases hm1 : m1 = 0
    ·
     have e1 : (m1 == 0) = true := by simpa using hm1
     by_cases hm2 : m2 = 0
     ·
      have e2 : (m2 == 0) = true := by simpa using hm2
      have HR := Aside0.mk (show R = 0 by rw [← hcut.out.1, hm1, hm2]; simp [cmpI])
      clear hm1 hm2
      go_wp2_with fail
      go_ret
      exact ⟨by rw [HR.out]; rfl, hcut.out.2.2.2.2⟩
     ·
      have e2 : (m2 == 0) = false := by simpa using hm2
      have HR := Aside0.mk (show R = -s by rw [← hcut.out.1, hm1, cmp_zero_pos hb (by omega)]; omega)
      clear hm1 hm2
      go_wp2_with fail
      go_ret
      exact ⟨by rw [HR.out]; rfl, hcut.out.2.2.2.2⟩
    ·
     have e1 : (m1 == 0) = false := by simpa using hm1
     by_cases hm2 : m2 = 0
     ·
      have e2 : (m2 == 0) = true := by simpa using hm2
      have HR := Aside0.mk (show R = s by rw [← hcut.out.1, hm2, cmp_pos_zero hd (by omega)]; omega)
      clear hm1 hm2
      go_wp2_with fail
      go_ret
      exact ⟨by rw [HR.out]; rfl, hcut.out.2.2.2.2⟩
     ·
      have e2 : (m2 == 0) = false := by simpa using hm2
      go_wp2_with fail
      have f0 := hcut.out.2.2.1.frozen 0
      have f1 := hcut.out.2.2.1.frozen 1
      have f2 := hcut.out.2.2.2.1.frozen 0
      have f3 := hcut.out.2.2.2.1.frozen 1
      have HW15 : Aside0 (CmpInv w R (gk - 1) (-s) d1 m1 d2 m2 (((((wc.drew).setCell ⟨w.heap.size, 0, none⟩ (.int .i64 d1)).setCell ⟨w.heap.size, 1, none⟩ (.int .i64 m1)).setCell ⟨w.heap.size + 1, 0, none⟩ (.int .i64 d2)).setCell ⟨w.heap.size + 1, 1, none⟩ (.int .i64 m2))) := by
       obtain ⟨g1, g2, g3, g4, g5⟩ := hcut.out
       refine ⟨by rw [cmp_inv, ← g1, Int.neg_mul_neg], by omega, ?_, ?_, ((((below_drew1 g5).setCell (by simp) _).setCell (by simp) _).setCell (by simp) _).setCell (by simp) _⟩
       ·
        have h := ((((show Blk wc.drew w.heap.size 25 #[.int .i64 m1, .int .i64 d1] from g3).set_ 0 (.int .i64 d1)).set_ 1 (.int .i64 m1)).far (p := ⟨w.heap.size + 1, 0, none⟩) (by simp) (.int .i64 d2)).far (p := ⟨w.heap.size + 1, 1, none⟩) (by simp) (.int .i64 m2); simpa using h
       ·
        have h := ((((show Blk wc.drew (w.heap.size + 1) 25 #[.int .i64 m2, .int .i64 d2] from g4).far (p := ⟨w.heap.size, 0, none⟩) (by simp) (.int .i64 d1)).far (p := ⟨w.heap.size, 1, none⟩) (by simp) (.int .i64 m1)).set_ 0 (.int .i64 d2)).set_ 1 (.int .i64 m2); simpa using h
      have hgk : 0 < gk := by have := hcut.out.2.1; omega
      have HM := Aside0.mk (show 0 < m1 ∧ 0 < m2 ∧ m1 ≤ 281474976710656 ∧ m2 ≤ 281474976710656 by omega)
      have HD := Aside0.mk (And.intro hb (And.intro hb' (And.intro hd hd')))
      clear e1 e2 hm1 hm2 q1 q2 q3 q4 ha ha' hb hb' hc hc' hd hd'
      refine wp_region_any (by kernel_rfl) ?_
      change wpAny _ _ _ _ _ _ _ (World.drew _)
      refine wpAny_take (i := 0) (v := ?_) rfl (by kernel_rfl) (by kernel_rfl) (by kernel_rfl) (fun _ _ _ h => h) (Or.inl ⟨by rfl, ?_⟩) ?_
      rotate_left
      ·
       intro w; go_simp; try with_reducible rfl
      refine wpAny_take (i := 2) (v := ?_) rfl (by kernel_rfl) (by kernel_rfl) (by kernel_rfl) (fun _ _ _ h => h) (Or.inl ⟨by rfl, ?_⟩) ?_
      rotate_left
      ·
       intro w; go_simp; try with_reducible rfl
      refine wpAny_take (i := 5) (v := ?_) rfl (by kernel_rfl) (by kernel_rfl) (by kernel_rfl) (fun _ _ _ h => h) (Or.inl ⟨by rfl, ?_⟩) ?_
      rotate_left
      ·
       intro w; go_simp; try with_reducible rfl
      refine wpAny_take (i := 7) (v := ?_) rfl (by kernel_rfl) (by kernel_rfl) (by kernel_rfl) (fun _ _ _ h => h) (Or.inl ⟨by rfl, ?_⟩) ?_
      rotate_left
      ·
       intro w; go_simp; try with_reducible rfl
      refine wpAny_ready (rs := [1, 3, 6, 8]) (by kernel_rfl) (by simp) ?_
      refine AllReady.cons rfl (fun K hK => ?_) ?_
      ·
       go_simp
       (refine hK _ _ ?_; clear hK K)
       refine wpAny_ready (rs := [3, 6, 8]) (by kernel_rfl) (by simp) ?_
       refine AllReady.cons rfl (fun K hK => ?_) ?_
       ·
        go_simp
        (refine hK _ _ ?_; clear hK K)
        refine wpAny_take (i := 4) (v := ?_) rfl (by kernel_rfl) (by kernel_rfl) (by kernel_rfl) (fun _ _ _ h => h) (Or.inl ⟨by rfl, ?_⟩) ?_
        rotate_left
        ·
         intro w; go_simp; try with_reducible rfl
        refine wpAny_ready (rs := [6, 8, 10]) (by kernel_rfl) (by simp) ?_
        refine AllReady.cons rfl (fun K hK => ?_) ?_
        ·
         go_simp
         (refine hK _ _ ?_; clear hK K)
         refine wpAny_ready (rs := [8, 10]) (by kernel_rfl) (by simp) ?_
         refine AllReady.cons rfl (fun K hK => ?_) ?_
         ·
          go_simp
          (refine hK _ _ ?_; clear hK K)
          refine wpAny_take (i := 9) (v := ?_) rfl (by kernel_rfl) (by kernel_rfl) (by kernel_rfl) (fun _ _ _ h => h) (Or.inl ⟨by rfl, ?_⟩) ?_
          rotate_left
          ·
           intro w; go_simp; try with_reducible rfl
          refine wpAny_ready (rs := [10]) (by kernel_rfl) (by simp) ?_
          refine AllReady.cons rfl (fun K hK => ?_) ?_
          ·
           go_simp
           (refine hK _ _ ?_; clear hK K)
           refine wpAny_ready (rs := [11]) (by kernel_rfl) (by simp) ?_
           refine AllReady.cons rfl (fun K hK => ?_) ?_
           ·
            go_simp
            (refine hK _ _ ?_; clear hK K)
            refine wpAny_done (by kernel_rfl) ?_ _
            go_wp2_with fail
            go_roundg (gk - 1)
            case measure => omega
            case rel => exact ⟨-s, d1, m1, d2, m2, rfl, by omega, by omega, Int.le_of_lt HD.out.1, HD.out.2.1, HM.out.1, HM.out.2.2.1, Int.le_of_lt HD.out.2.2.1, HD.out.2.2.2, HM.out.2.1, HM.out.2.2.2, HW15⟩
           exact AllReady.nil
          exact AllReady.nil
         refine AllReady.cons rfl (fun K hK => ?_) ?_
         ·
          go_simp
          (refine hK _ _ ?_; clear hK K)
          refine wpAny_ready (rs := [8]) (by kernel_rfl) (by simp) ?_
          refine AllReady.cons rfl (fun K hK => ?_) ?_
          ·
           go_simp
           (refine hK _ _ ?_; clear hK K)
           refine wpAny_take (i := 9) (v := ?_) rfl (by kernel_rfl) (by kernel_rfl) (by kernel_rfl) (fun _ _ _ h => h) (Or.inl ⟨by rfl, ?_⟩) ?_
           rotate_left
           ·
            intro w; go_simp; try with_reducible rfl
           refine wpAny_ready (rs := [11]) (by kernel_rfl) (by simp) ?_
           refine AllReady.cons rfl (fun K hK => ?_) ?_
           ·
            go_simp
            (refine hK _ _ ?_; clear hK K)
            refine wpAny_done (by kernel_rfl) ?_ _
            go_wp2_with fail
            go_roundg (gk - 1)
            case measure => omega
            case rel => exact ⟨-s, d1, m1, d2, m2, rfl, by omega, by omega, Int.le_of_lt HD.out.1, HD.out.2.1, HM.out.1, HM.out.2.2.1, Int.le_of_lt HD.out.2.2.1, HD.out.2.2.2, HM.out.2.1, HM.out.2.2.2, HW15⟩
           exact AllReady.nil
          exact AllReady.nil
         exact AllReady.nil
        refine AllReady.cons rfl (fun K hK => ?_) ?_
        ·
         go_simp
         (refine hK _ _ ?_; clear hK K)
         refine wpAny_ready (rs := [6, 10]) (by kernel_rfl) (by simp) ?_
         refine AllReady.cons rfl (fun K hK => ?_) ?_
         ·
          go_simp
          (refine hK _ _ ?_; clear hK K)
          refine wpAny_take (i := 9) (v := ?_) rfl (by kernel_rfl) (by kernel_rfl) (by kernel_rfl) (fun _ _ _ h => h) (Or.inl ⟨by rfl, ?_⟩) ?_
          rotate_left
          ·
           intro w; go_simp; try with_reducible rfl
          refine wpAny_ready (rs := [10]) (by kernel_rfl) (by simp) ?_
          refine AllReady.cons rfl (fun K hK => ?_) ?_
          ·
           go_simp
           (refine hK _ _ ?_; clear hK K)
           refine wpAny_ready (rs := [11]) (by kernel_rfl) (by simp) ?_
           refine AllReady.cons rfl (fun K hK => ?_) ?_
           ·
            go_simp
            (refine hK _ _ ?_; clear hK K)
            refine wpAny_done (by kernel_rfl) ?_ _
            go_wp2_with fail
            go_roundg (gk - 1)
            case measure => omega
            case rel => exact ⟨-s, d1, m1, d2, m2, rfl, by omega, by omega, Int.le_of_lt HD.out.1, HD.out.2.1, HM.out.1, HM.out.2.2.1, Int.le_of_lt HD.out.2.2.1, HD.out.2.2.2, HM.out.2.1, HM.out.2.2.2, HW15⟩
           exact AllReady.nil
          exact AllReady.nil
         refine AllReady.cons rfl (fun K hK => ?_) ?_
         ·
          go_simp
          (refine hK _ _ ?_; clear hK K)
          refine wpAny_ready (rs := [6]) (by kernel_rfl) (by simp) ?_
          refine AllReady.cons rfl (fun K hK => ?_) ?_
          ·
           go_simp
           (refine hK _ _ ?_; clear hK K)
           refine wpAny_take (i := 9) (v := ?_) rfl (by kernel_rfl) (by kernel_rfl) (by kernel_rfl) (fun _ _ _ h => h) (Or.inl ⟨by rfl, ?_⟩) ?_
           rotate_left
           ·
            intro w; go_simp; try with_reducible rfl
           refine wpAny_ready (rs := [11]) (by kernel_rfl) (by simp) ?_
           refine AllReady.cons rfl (fun K hK => ?_) ?_
           ·
            go_simp
            (refine hK _ _ ?_; clear hK K)
            refine wpAny_done (by kernel_rfl) ?_ _
            go_wp2_with fail
            go_roundg (gk - 1)
            case measure => omega
            case rel => exact ⟨-s, d1, m1, d2, m2, rfl, by omega, by omega, Int.le_of_lt HD.out.1, HD.out.2.1, HM.out.1, HM.out.2.2.1, Int.le_of_lt HD.out.2.2.1, HD.out.2.2.2, HM.out.2.1, HM.out.2.2.2, HW15⟩
           exact AllReady.nil
          exact AllReady.nil
         exact AllReady.nil
        refine AllReady.cons rfl (fun K hK => ?_) ?_
        ·
         go_simp
         (refine hK _ _ ?_; clear hK K)
         refine wpAny_ready (rs := [6, 8]) (by kernel_rfl) (by simp) ?_
         refine AllReady.cons rfl (fun K hK => ?_) ?_
         ·
          go_simp
          (refine hK _ _ ?_; clear hK K)
          refine wpAny_ready (rs := [8]) (by kernel_rfl) (by simp) ?_
          refine AllReady.cons rfl (fun K hK => ?_) ?_
          ·
           go_simp
           (refine hK _ _ ?_; clear hK K)
           refine wpAny_take (i := 9) (v := ?_) rfl (by kernel_rfl) (by kernel_rfl) (by kernel_rfl) (fun _ _ _ h => h) (Or.inl ⟨by rfl, ?_⟩) ?_
           rotate_left
           ·
            intro w; go_simp; try with_reducible rfl
           refine wpAny_ready (rs := [11]) (by kernel_rfl) (by simp) ?_
           refine AllReady.cons rfl (fun K hK => ?_) ?_
           ·
            go_simp
            (refine hK _ _ ?_; clear hK K)
            refine wpAny_done (by kernel_rfl) ?_ _
            go_wp2_with fail
            go_roundg (gk - 1)
            case measure => omega
            case rel => exact ⟨-s, d1, m1, d2, m2, rfl, by omega, by omega, Int.le_of_lt HD.out.1, HD.out.2.1, HM.out.1, HM.out.2.2.1, Int.le_of_lt HD.out.2.2.1, HD.out.2.2.2, HM.out.2.1, HM.out.2.2.2, HW15⟩
           exact AllReady.nil
          exact AllReady.nil
         refine AllReady.cons rfl (fun K hK => ?_) ?_
         ·
          go_simp
          (refine hK _ _ ?_; clear hK K)
          refine wpAny_ready (rs := [6]) (by kernel_rfl) (by simp) ?_
          refine AllReady.cons rfl (fun K hK => ?_) ?_
          ·
           go_simp
           (refine hK _ _ ?_; clear hK K)
           refine wpAny_take (i := 9) (v := ?_) rfl (by kernel_rfl) (by kernel_rfl) (by kernel_rfl) (fun _ _ _ h => h) (Or.inl ⟨by rfl, ?_⟩) ?_
           rotate_left
           ·
            intro w; go_simp; try with_reducible rfl
           refine wpAny_ready (rs := [11]) (by kernel_rfl) (by simp) ?_
           refine AllReady.cons rfl (fun K hK => ?_) ?_
           ·
            go_simp
            (refine hK _ _ ?_; clear hK K)
            refine wpAny_done (by kernel_rfl) ?_ _
            go_wp2_with fail
            go_roundg (gk - 1)
            case measure => omega
            case rel => exact ⟨-s, d1, m1, d2, m2, rfl, by omega, by omega, Int.le_of_lt HD.out.1, HD.out.2.1, HM.out.1, HM.out.2.2.1, Int.le_of_lt HD.out.2.2.1, HD.out.2.2.2, HM.out.2.1, HM.out.2.2.2, HW15⟩
           exact AllReady.nil
          exact AllReady.nil
         exact AllReady.nil
        exact AllReady.nil
       refine AllReady.cons rfl (fun K hK => ?_) ?_
       ·
        go_simp
        (refine hK _ _ ?_; clear hK K)
        refine wpAny_ready (rs := [3, 8]) (by kernel_rfl) (by simp) ?_
        refine AllReady.cons rfl (fun K hK => ?_) ?_
        ·
         go_simp
         (refine hK _ _ ?_; clear hK K)
         refine wpAny_take (i := 4) (v := ?_) rfl (by kernel_rfl) (by kernel_rfl) (by kernel_rfl) (fun _ _ _ h => h) (Or.inl ⟨by rfl, ?_⟩) ?_
         rotate_left
         ·
          intro w; go_simp; try with_reducible rfl
         refine wpAny_ready (rs := [8, 10]) (by kernel_rfl) (by simp) ?_
         refine AllReady.cons rfl (fun K hK => ?_) ?_
         ·
          go_simp
          (refine hK _ _ ?_; clear hK K)
          refine wpAny_take (i := 9) (v := ?_) rfl (by kernel_rfl) (by kernel_rfl) (by kernel_rfl) (fun _ _ _ h => h) (Or.inl ⟨by rfl, ?_⟩) ?_
          rotate_left
          ·
           intro w; go_simp; try with_reducible rfl
          refine wpAny_ready (rs := [10]) (by kernel_rfl) (by simp) ?_
          refine AllReady.cons rfl (fun K hK => ?_) ?_
          ·
           go_simp
           (refine hK _ _ ?_; clear hK K)
           refine wpAny_ready (rs := [11]) (by kernel_rfl) (by simp) ?_
           refine AllReady.cons rfl (fun K hK => ?_) ?_
           ·
            go_simp
            (refine hK _ _ ?_; clear hK K)
            refine wpAny_done (by kernel_rfl) ?_ _
            go_wp2_with fail
            go_roundg (gk - 1)
            case measure => omega
            case rel => exact ⟨-s, d1, m1, d2, m2, rfl, by omega, by omega, Int.le_of_lt HD.out.1, HD.out.2.1, HM.out.1, HM.out.2.2.1, Int.le_of_lt HD.out.2.2.1, HD.out.2.2.2, HM.out.2.1, HM.out.2.2.2, HW15⟩
           exact AllReady.nil
          exact AllReady.nil
         refine AllReady.cons rfl (fun K hK => ?_) ?_
         ·
          go_simp
          (refine hK _ _ ?_; clear hK K)
          refine wpAny_ready (rs := [8]) (by kernel_rfl) (by simp) ?_
          refine AllReady.cons rfl (fun K hK => ?_) ?_
          ·
           go_simp
           (refine hK _ _ ?_; clear hK K)
           refine wpAny_take (i := 9) (v := ?_) rfl (by kernel_rfl) (by kernel_rfl) (by kernel_rfl) (fun _ _ _ h => h) (Or.inl ⟨by rfl, ?_⟩) ?_
           rotate_left
           ·
            intro w; go_simp; try with_reducible rfl
           refine wpAny_ready (rs := [11]) (by kernel_rfl) (by simp) ?_
           refine AllReady.cons rfl (fun K hK => ?_) ?_
           ·
            go_simp
            (refine hK _ _ ?_; clear hK K)
            refine wpAny_done (by kernel_rfl) ?_ _
            go_wp2_with fail
            go_roundg (gk - 1)
            case measure => omega
            case rel => exact ⟨-s, d1, m1, d2, m2, rfl, by omega, by omega, Int.le_of_lt HD.out.1, HD.out.2.1, HM.out.1, HM.out.2.2.1, Int.le_of_lt HD.out.2.2.1, HD.out.2.2.2, HM.out.2.1, HM.out.2.2.2, HW15⟩
           exact AllReady.nil
          exact AllReady.nil
         exact AllReady.nil
        refine AllReady.cons rfl (fun K hK => ?_) ?_
        ·
         go_simp
         (refine hK _ _ ?_; clear hK K)
         refine wpAny_take (i := 9) (v := ?_) rfl (by kernel_rfl) (by kernel_rfl) (by kernel_rfl) (fun _ _ _ h => h) (Or.inl ⟨by rfl, ?_⟩) ?_
         rotate_left
         ·
          intro w; go_simp; try with_reducible rfl
         refine wpAny_ready (rs := [3]) (by kernel_rfl) (by simp) ?_
         refine AllReady.cons rfl (fun K hK => ?_) ?_
         ·
          go_simp
          (refine hK _ _ ?_; clear hK K)
          refine wpAny_take (i := 4) (v := ?_) rfl (by kernel_rfl) (by kernel_rfl) (by kernel_rfl) (fun _ _ _ h => h) (Or.inl ⟨by rfl, ?_⟩) ?_
          rotate_left
          ·
           intro w; go_simp; try with_reducible rfl
          refine wpAny_ready (rs := [10]) (by kernel_rfl) (by simp) ?_
          refine AllReady.cons rfl (fun K hK => ?_) ?_
          ·
           go_simp
           (refine hK _ _ ?_; clear hK K)
           refine wpAny_ready (rs := [11]) (by kernel_rfl) (by simp) ?_
           refine AllReady.cons rfl (fun K hK => ?_) ?_
           ·
            go_simp
            (refine hK _ _ ?_; clear hK K)
            refine wpAny_done (by kernel_rfl) ?_ _
            go_wp2_with fail
            go_roundg (gk - 1)
            case measure => omega
            case rel => exact ⟨-s, d1, m1, d2, m2, rfl, by omega, by omega, Int.le_of_lt HD.out.1, HD.out.2.1, HM.out.1, HM.out.2.2.1, Int.le_of_lt HD.out.2.2.1, HD.out.2.2.2, HM.out.2.1, HM.out.2.2.2, HW15⟩
           exact AllReady.nil
          exact AllReady.nil
         exact AllReady.nil
        exact AllReady.nil
       refine AllReady.cons rfl (fun K hK => ?_) ?_
       ·
        go_simp
        (refine hK _ _ ?_; clear hK K)
        refine wpAny_ready (rs := [3, 6]) (by kernel_rfl) (by simp) ?_
        refine AllReady.cons rfl (fun K hK => ?_) ?_
        ·
         go_simp
         (refine hK _ _ ?_; clear hK K)
         refine wpAny_take (i := 4) (v := ?_) rfl (by kernel_rfl) (by kernel_rfl) (by kernel_rfl) (fun _ _ _ h => h) (Or.inl ⟨by rfl, ?_⟩) ?_
         rotate_left
         ·
          intro w; go_simp; try with_reducible rfl
         refine wpAny_ready (rs := [6, 10]) (by kernel_rfl) (by simp) ?_
         refine AllReady.cons rfl (fun K hK => ?_) ?_
         ·
          go_simp
          (refine hK _ _ ?_; clear hK K)
          refine wpAny_take (i := 9) (v := ?_) rfl (by kernel_rfl) (by kernel_rfl) (by kernel_rfl) (fun _ _ _ h => h) (Or.inl ⟨by rfl, ?_⟩) ?_
          rotate_left
          ·
           intro w; go_simp; try with_reducible rfl
          refine wpAny_ready (rs := [10]) (by kernel_rfl) (by simp) ?_
          refine AllReady.cons rfl (fun K hK => ?_) ?_
          ·
           go_simp
           (refine hK _ _ ?_; clear hK K)
           refine wpAny_ready (rs := [11]) (by kernel_rfl) (by simp) ?_
           refine AllReady.cons rfl (fun K hK => ?_) ?_
           ·
            go_simp
            (refine hK _ _ ?_; clear hK K)
            refine wpAny_done (by kernel_rfl) ?_ _
            go_wp2_with fail
            go_roundg (gk - 1)
            case measure => omega
            case rel => exact ⟨-s, d1, m1, d2, m2, rfl, by omega, by omega, Int.le_of_lt HD.out.1, HD.out.2.1, HM.out.1, HM.out.2.2.1, Int.le_of_lt HD.out.2.2.1, HD.out.2.2.2, HM.out.2.1, HM.out.2.2.2, HW15⟩
           exact AllReady.nil
          exact AllReady.nil
         refine AllReady.cons rfl (fun K hK => ?_) ?_
         ·
          go_simp
          (refine hK _ _ ?_; clear hK K)
          refine wpAny_ready (rs := [6]) (by kernel_rfl) (by simp) ?_
          refine AllReady.cons rfl (fun K hK => ?_) ?_
          ·
           go_simp
           (refine hK _ _ ?_; clear hK K)
           refine wpAny_take (i := 9) (v := ?_) rfl (by kernel_rfl) (by kernel_rfl) (by kernel_rfl) (fun _ _ _ h => h) (Or.inl ⟨by rfl, ?_⟩) ?_
           rotate_left
           ·
            intro w; go_simp; try with_reducible rfl
           refine wpAny_ready (rs := [11]) (by kernel_rfl) (by simp) ?_
           refine AllReady.cons rfl (fun K hK => ?_) ?_
           ·
            go_simp
            (refine hK _ _ ?_; clear hK K)
            refine wpAny_done (by kernel_rfl) ?_ _
            go_wp2_with fail
            go_roundg (gk - 1)
            case measure => omega
            case rel => exact ⟨-s, d1, m1, d2, m2, rfl, by omega, by omega, Int.le_of_lt HD.out.1, HD.out.2.1, HM.out.1, HM.out.2.2.1, Int.le_of_lt HD.out.2.2.1, HD.out.2.2.2, HM.out.2.1, HM.out.2.2.2, HW15⟩
           exact AllReady.nil
          exact AllReady.nil
         exact AllReady.nil
        refine AllReady.cons rfl (fun K hK => ?_) ?_
        ·
         go_simp
         (refine hK _ _ ?_; clear hK K)
         refine wpAny_take (i := 9) (v := ?_) rfl (by kernel_rfl) (by kernel_rfl) (by kernel_rfl) (fun _ _ _ h => h) (Or.inl ⟨by rfl, ?_⟩) ?_
         rotate_left
         ·
          intro w; go_simp; try with_reducible rfl
         refine wpAny_ready (rs := [3]) (by kernel_rfl) (by simp) ?_
         refine AllReady.cons rfl (fun K hK => ?_) ?_
         ·
          go_simp
          (refine hK _ _ ?_; clear hK K)
          refine wpAny_take (i := 4) (v := ?_) rfl (by kernel_rfl) (by kernel_rfl) (by kernel_rfl) (fun _ _ _ h => h) (Or.inl ⟨by rfl, ?_⟩) ?_
          rotate_left
          ·
           intro w; go_simp; try with_reducible rfl
          refine wpAny_ready (rs := [10]) (by kernel_rfl) (by simp) ?_
          refine AllReady.cons rfl (fun K hK => ?_) ?_
          ·
           go_simp
           (refine hK _ _ ?_; clear hK K)
           refine wpAny_ready (rs := [11]) (by kernel_rfl) (by simp) ?_
           refine AllReady.cons rfl (fun K hK => ?_) ?_
           ·
            go_simp
            (refine hK _ _ ?_; clear hK K)
            refine wpAny_done (by kernel_rfl) ?_ _
            go_wp2_with fail
            go_roundg (gk - 1)
            case measure => omega
            case rel => exact ⟨-s, d1, m1, d2, m2, rfl, by omega, by omega, Int.le_of_lt HD.out.1, HD.out.2.1, HM.out.1, HM.out.2.2.1, Int.le_of_lt HD.out.2.2.1, HD.out.2.2.2, HM.out.2.1, HM.out.2.2.2, HW15⟩
           exact AllReady.nil
          exact AllReady.nil
         exact AllReady.nil
        exact AllReady.nil
       exact AllReady.nil
      refine AllReady.cons rfl (fun K hK => ?_) ?_
      ·
       go_simp
       (refine hK _ _ ?_; clear hK K)
       refine wpAny_ready (rs := [1, 6, 8]) (by kernel_rfl) (by simp) ?_
       refine AllReady.cons rfl (fun K hK => ?_) ?_
       ·
        go_simp
        (refine hK _ _ ?_; clear hK K)
        refine wpAny_take (i := 4) (v := ?_) rfl (by kernel_rfl) (by kernel_rfl) (by kernel_rfl) (fun _ _ _ h => h) (Or.inl ⟨by rfl, ?_⟩) ?_
        rotate_left
        ·
         intro w; go_simp; try with_reducible rfl
        refine wpAny_ready (rs := [6, 8, 10]) (by kernel_rfl) (by simp) ?_
        refine AllReady.cons rfl (fun K hK => ?_) ?_
        ·
         go_simp
         (refine hK _ _ ?_; clear hK K)
         refine wpAny_ready (rs := [8, 10]) (by kernel_rfl) (by simp) ?_
         refine AllReady.cons rfl (fun K hK => ?_) ?_
         ·
          go_simp
          (refine hK _ _ ?_; clear hK K)
          refine wpAny_take (i := 9) (v := ?_) rfl (by kernel_rfl) (by kernel_rfl) (by kernel_rfl) (fun _ _ _ h => h) (Or.inl ⟨by rfl, ?_⟩) ?_
          rotate_left
          ·
           intro w; go_simp; try with_reducible rfl
          refine wpAny_ready (rs := [10]) (by kernel_rfl) (by simp) ?_
          refine AllReady.cons rfl (fun K hK => ?_) ?_
          ·
           go_simp
           (refine hK _ _ ?_; clear hK K)
           refine wpAny_ready (rs := [11]) (by kernel_rfl) (by simp) ?_
           refine AllReady.cons rfl (fun K hK => ?_) ?_
           ·
            go_simp
            (refine hK _ _ ?_; clear hK K)
            refine wpAny_done (by kernel_rfl) ?_ _
            go_wp2_with fail
            go_roundg (gk - 1)
            case measure => omega
            case rel => exact ⟨-s, d1, m1, d2, m2, rfl, by omega, by omega, Int.le_of_lt HD.out.1, HD.out.2.1, HM.out.1, HM.out.2.2.1, Int.le_of_lt HD.out.2.2.1, HD.out.2.2.2, HM.out.2.1, HM.out.2.2.2, HW15⟩
           exact AllReady.nil
          exact AllReady.nil
         refine AllReady.cons rfl (fun K hK => ?_) ?_
         ·
          go_simp
          (refine hK _ _ ?_; clear hK K)
          refine wpAny_ready (rs := [8]) (by kernel_rfl) (by simp) ?_
          refine AllReady.cons rfl (fun K hK => ?_) ?_
          ·
           go_simp
           (refine hK _ _ ?_; clear hK K)
           refine wpAny_take (i := 9) (v := ?_) rfl (by kernel_rfl) (by kernel_rfl) (by kernel_rfl) (fun _ _ _ h => h) (Or.inl ⟨by rfl, ?_⟩) ?_
           rotate_left
           ·
            intro w; go_simp; try with_reducible rfl
           refine wpAny_ready (rs := [11]) (by kernel_rfl) (by simp) ?_
           refine AllReady.cons rfl (fun K hK => ?_) ?_
           ·
            go_simp
            (refine hK _ _ ?_; clear hK K)
            refine wpAny_done (by kernel_rfl) ?_ _
            go_wp2_with fail
            go_roundg (gk - 1)
            case measure => omega
            case rel => exact ⟨-s, d1, m1, d2, m2, rfl, by omega, by omega, Int.le_of_lt HD.out.1, HD.out.2.1, HM.out.1, HM.out.2.2.1, Int.le_of_lt HD.out.2.2.1, HD.out.2.2.2, HM.out.2.1, HM.out.2.2.2, HW15⟩
           exact AllReady.nil
          exact AllReady.nil
         exact AllReady.nil
        refine AllReady.cons rfl (fun K hK => ?_) ?_
        ·
         go_simp
         (refine hK _ _ ?_; clear hK K)
         refine wpAny_ready (rs := [6, 10]) (by kernel_rfl) (by simp) ?_
         refine AllReady.cons rfl (fun K hK => ?_) ?_
         ·
          go_simp
          (refine hK _ _ ?_; clear hK K)
          refine wpAny_take (i := 9) (v := ?_) rfl (by kernel_rfl) (by kernel_rfl) (by kernel_rfl) (fun _ _ _ h => h) (Or.inl ⟨by rfl, ?_⟩) ?_
          rotate_left
          ·
           intro w; go_simp; try with_reducible rfl
          refine wpAny_ready (rs := [10]) (by kernel_rfl) (by simp) ?_
          refine AllReady.cons rfl (fun K hK => ?_) ?_
          ·
           go_simp
           (refine hK _ _ ?_; clear hK K)
           refine wpAny_ready (rs := [11]) (by kernel_rfl) (by simp) ?_
           refine AllReady.cons rfl (fun K hK => ?_) ?_
           ·
            go_simp
            (refine hK _ _ ?_; clear hK K)
            refine wpAny_done (by kernel_rfl) ?_ _
            go_wp2_with fail
            go_roundg (gk - 1)
            case measure => omega
            case rel => exact ⟨-s, d1, m1, d2, m2, rfl, by omega, by omega, Int.le_of_lt HD.out.1, HD.out.2.1, HM.out.1, HM.out.2.2.1, Int.le_of_lt HD.out.2.2.1, HD.out.2.2.2, HM.out.2.1, HM.out.2.2.2, HW15⟩
           exact AllReady.nil
          exact AllReady.nil
         refine AllReady.cons rfl (fun K hK => ?_) ?_
         ·
          go_simp
          (refine hK _ _ ?_; clear hK K)
          refine wpAny_ready (rs := [6]) (by kernel_rfl) (by simp) ?_
          refine AllReady.cons rfl (fun K hK => ?_) ?_
          ·
           go_simp
           (refine hK _ _ ?_; clear hK K)
           refine wpAny_take (i := 9) (v := ?_) rfl (by kernel_rfl) (by kernel_rfl) (by kernel_rfl) (fun _ _ _ h => h) (Or.inl ⟨by rfl, ?_⟩) ?_
           rotate_left
           ·
            intro w; go_simp; try with_reducible rfl
           refine wpAny_ready (rs := [11]) (by kernel_rfl) (by simp) ?_
           refine AllReady.cons rfl (fun K hK => ?_) ?_
           ·
            go_simp
            (refine hK _ _ ?_; clear hK K)
            refine wpAny_done (by kernel_rfl) ?_ _
            go_wp2_with fail
            go_roundg (gk - 1)
            case measure => omega
            case rel => exact ⟨-s, d1, m1, d2, m2, rfl, by omega, by omega, Int.le_of_lt HD.out.1, HD.out.2.1, HM.out.1, HM.out.2.2.1, Int.le_of_lt HD.out.2.2.1, HD.out.2.2.2, HM.out.2.1, HM.out.2.2.2, HW15⟩
           exact AllReady.nil
          exact AllReady.nil
         exact AllReady.nil
        refine AllReady.cons rfl (fun K hK => ?_) ?_
        ·
         go_simp
         (refine hK _ _ ?_; clear hK K)
         refine wpAny_ready (rs := [6, 8]) (by kernel_rfl) (by simp) ?_
         refine AllReady.cons rfl (fun K hK => ?_) ?_
         ·
          go_simp
          (refine hK _ _ ?_; clear hK K)
          refine wpAny_ready (rs := [8]) (by kernel_rfl) (by simp) ?_
          refine AllReady.cons rfl (fun K hK => ?_) ?_
          ·
           go_simp
           (refine hK _ _ ?_; clear hK K)
           refine wpAny_take (i := 9) (v := ?_) rfl (by kernel_rfl) (by kernel_rfl) (by kernel_rfl) (fun _ _ _ h => h) (Or.inl ⟨by rfl, ?_⟩) ?_
           rotate_left
           ·
            intro w; go_simp; try with_reducible rfl
           refine wpAny_ready (rs := [11]) (by kernel_rfl) (by simp) ?_
           refine AllReady.cons rfl (fun K hK => ?_) ?_
           ·
            go_simp
            (refine hK _ _ ?_; clear hK K)
            refine wpAny_done (by kernel_rfl) ?_ _
            go_wp2_with fail
            go_roundg (gk - 1)
            case measure => omega
            case rel => exact ⟨-s, d1, m1, d2, m2, rfl, by omega, by omega, Int.le_of_lt HD.out.1, HD.out.2.1, HM.out.1, HM.out.2.2.1, Int.le_of_lt HD.out.2.2.1, HD.out.2.2.2, HM.out.2.1, HM.out.2.2.2, HW15⟩
           exact AllReady.nil
          exact AllReady.nil
         refine AllReady.cons rfl (fun K hK => ?_) ?_
         ·
          go_simp
          (refine hK _ _ ?_; clear hK K)
          refine wpAny_ready (rs := [6]) (by kernel_rfl) (by simp) ?_
          refine AllReady.cons rfl (fun K hK => ?_) ?_
          ·
           go_simp
           (refine hK _ _ ?_; clear hK K)
           refine wpAny_take (i := 9) (v := ?_) rfl (by kernel_rfl) (by kernel_rfl) (by kernel_rfl) (fun _ _ _ h => h) (Or.inl ⟨by rfl, ?_⟩) ?_
           rotate_left
           ·
            intro w; go_simp; try with_reducible rfl
           refine wpAny_ready (rs := [11]) (by kernel_rfl) (by simp) ?_
           refine AllReady.cons rfl (fun K hK => ?_) ?_
           ·
            go_simp
            (refine hK _ _ ?_; clear hK K)
            refine wpAny_done (by kernel_rfl) ?_ _
            go_wp2_with fail
            go_roundg (gk - 1)
            case measure => omega
            case rel => exact ⟨-s, d1, m1, d2, m2, rfl, by omega, by omega, Int.le_of_lt HD.out.1, HD.out.2.1, HM.out.1, HM.out.2.2.1, Int.le_of_lt HD.out.2.2.1, HD.out.2.2.2, HM.out.2.1, HM.out.2.2.2, HW15⟩
           exact AllReady.nil
          exact AllReady.nil
         exact AllReady.nil
        exact AllReady.nil
       refine AllReady.cons rfl (fun K hK => ?_) ?_
       ·
        go_simp
        (refine hK _ _ ?_; clear hK K)
        refine wpAny_ready (rs := [1, 8]) (by kernel_rfl) (by simp) ?_
        refine AllReady.cons rfl (fun K hK => ?_) ?_
        ·
         go_simp
         (refine hK _ _ ?_; clear hK K)
         refine wpAny_take (i := 4) (v := ?_) rfl (by kernel_rfl) (by kernel_rfl) (by kernel_rfl) (fun _ _ _ h => h) (Or.inl ⟨by rfl, ?_⟩) ?_
         rotate_left
         ·
          intro w; go_simp; try with_reducible rfl
         refine wpAny_ready (rs := [8, 10]) (by kernel_rfl) (by simp) ?_
         refine AllReady.cons rfl (fun K hK => ?_) ?_
         ·
          go_simp
          (refine hK _ _ ?_; clear hK K)
          refine wpAny_take (i := 9) (v := ?_) rfl (by kernel_rfl) (by kernel_rfl) (by kernel_rfl) (fun _ _ _ h => h) (Or.inl ⟨by rfl, ?_⟩) ?_
          rotate_left
          ·
           intro w; go_simp; try with_reducible rfl
          refine wpAny_ready (rs := [10]) (by kernel_rfl) (by simp) ?_
          refine AllReady.cons rfl (fun K hK => ?_) ?_
          ·
           go_simp
           (refine hK _ _ ?_; clear hK K)
           refine wpAny_ready (rs := [11]) (by kernel_rfl) (by simp) ?_
           refine AllReady.cons rfl (fun K hK => ?_) ?_
           ·
            go_simp
            (refine hK _ _ ?_; clear hK K)
            refine wpAny_done (by kernel_rfl) ?_ _
            go_wp2_with fail
            go_roundg (gk - 1)
            case measure => omega
            case rel => exact ⟨-s, d1, m1, d2, m2, rfl, by omega, by omega, Int.le_of_lt HD.out.1, HD.out.2.1, HM.out.1, HM.out.2.2.1, Int.le_of_lt HD.out.2.2.1, HD.out.2.2.2, HM.out.2.1, HM.out.2.2.2, HW15⟩
           exact AllReady.nil
          exact AllReady.nil
         refine AllReady.cons rfl (fun K hK => ?_) ?_
         ·
          go_simp
          (refine hK _ _ ?_; clear hK K)
          refine wpAny_ready (rs := [8]) (by kernel_rfl) (by simp) ?_
          refine AllReady.cons rfl (fun K hK => ?_) ?_
          ·
           go_simp
           (refine hK _ _ ?_; clear hK K)
           refine wpAny_take (i := 9) (v := ?_) rfl (by kernel_rfl) (by kernel_rfl) (by kernel_rfl) (fun _ _ _ h => h) (Or.inl ⟨by rfl, ?_⟩) ?_
           rotate_left
           ·
            intro w; go_simp; try with_reducible rfl
           refine wpAny_ready (rs := [11]) (by kernel_rfl) (by simp) ?_
           refine AllReady.cons rfl (fun K hK => ?_) ?_
           ·
            go_simp
            (refine hK _ _ ?_; clear hK K)
            refine wpAny_done (by kernel_rfl) ?_ _
            go_wp2_with fail
            go_roundg (gk - 1)
            case measure => omega
            case rel => exact ⟨-s, d1, m1, d2, m2, rfl, by omega, by omega, Int.le_of_lt HD.out.1, HD.out.2.1, HM.out.1, HM.out.2.2.1, Int.le_of_lt HD.out.2.2.1, HD.out.2.2.2, HM.out.2.1, HM.out.2.2.2, HW15⟩
           exact AllReady.nil
          exact AllReady.nil
         exact AllReady.nil
        refine AllReady.cons rfl (fun K hK => ?_) ?_
        ·
         go_simp
         (refine hK _ _ ?_; clear hK K)
         refine wpAny_take (i := 9) (v := ?_) rfl (by kernel_rfl) (by kernel_rfl) (by kernel_rfl) (fun _ _ _ h => h) (Or.inl ⟨by rfl, ?_⟩) ?_
         rotate_left
         ·
          intro w; go_simp; try with_reducible rfl
         refine wpAny_ready (rs := [1]) (by kernel_rfl) (by simp) ?_
         refine AllReady.cons rfl (fun K hK => ?_) ?_
         ·
          go_simp
          (refine hK _ _ ?_; clear hK K)
          refine wpAny_take (i := 4) (v := ?_) rfl (by kernel_rfl) (by kernel_rfl) (by kernel_rfl) (fun _ _ _ h => h) (Or.inl ⟨by rfl, ?_⟩) ?_
          rotate_left
          ·
           intro w; go_simp; try with_reducible rfl
          refine wpAny_ready (rs := [10]) (by kernel_rfl) (by simp) ?_
          refine AllReady.cons rfl (fun K hK => ?_) ?_
          ·
           go_simp
           (refine hK _ _ ?_; clear hK K)
           refine wpAny_ready (rs := [11]) (by kernel_rfl) (by simp) ?_
           refine AllReady.cons rfl (fun K hK => ?_) ?_
           ·
            go_simp
            (refine hK _ _ ?_; clear hK K)
            refine wpAny_done (by kernel_rfl) ?_ _
            go_wp2_with fail
            go_roundg (gk - 1)
            case measure => omega
            case rel => exact ⟨-s, d1, m1, d2, m2, rfl, by omega, by omega, Int.le_of_lt HD.out.1, HD.out.2.1, HM.out.1, HM.out.2.2.1, Int.le_of_lt HD.out.2.2.1, HD.out.2.2.2, HM.out.2.1, HM.out.2.2.2, HW15⟩
           exact AllReady.nil
          exact AllReady.nil
         exact AllReady.nil
        exact AllReady.nil
       refine AllReady.cons rfl (fun K hK => ?_) ?_
       ·
        go_simp
        (refine hK _ _ ?_; clear hK K)
        refine wpAny_ready (rs := [1, 6]) (by kernel_rfl) (by simp) ?_
        refine AllReady.cons rfl (fun K hK => ?_) ?_
        ·
         go_simp
         (refine hK _ _ ?_; clear hK K)
         refine wpAny_take (i := 4) (v := ?_) rfl (by kernel_rfl) (by kernel_rfl) (by kernel_rfl) (fun _ _ _ h => h) (Or.inl ⟨by rfl, ?_⟩) ?_
         rotate_left
         ·
          intro w; go_simp; try with_reducible rfl
         refine wpAny_ready (rs := [6, 10]) (by kernel_rfl) (by simp) ?_
         refine AllReady.cons rfl (fun K hK => ?_) ?_
         ·
          go_simp
          (refine hK _ _ ?_; clear hK K)
          refine wpAny_take (i := 9) (v := ?_) rfl (by kernel_rfl) (by kernel_rfl) (by kernel_rfl) (fun _ _ _ h => h) (Or.inl ⟨by rfl, ?_⟩) ?_
          rotate_left
          ·
           intro w; go_simp; try with_reducible rfl
          refine wpAny_ready (rs := [10]) (by kernel_rfl) (by simp) ?_
          refine AllReady.cons rfl (fun K hK => ?_) ?_
          ·
           go_simp
           (refine hK _ _ ?_; clear hK K)
           refine wpAny_ready (rs := [11]) (by kernel_rfl) (by simp) ?_
           refine AllReady.cons rfl (fun K hK => ?_) ?_
           ·
            go_simp
            (refine hK _ _ ?_; clear hK K)
            refine wpAny_done (by kernel_rfl) ?_ _
            go_wp2_with fail
            go_roundg (gk - 1)
            case measure => omega
            case rel => exact ⟨-s, d1, m1, d2, m2, rfl, by omega, by omega, Int.le_of_lt HD.out.1, HD.out.2.1, HM.out.1, HM.out.2.2.1, Int.le_of_lt HD.out.2.2.1, HD.out.2.2.2, HM.out.2.1, HM.out.2.2.2, HW15⟩
           exact AllReady.nil
          exact AllReady.nil
         refine AllReady.cons rfl (fun K hK => ?_) ?_
         ·
          go_simp
          (refine hK _ _ ?_; clear hK K)
          refine wpAny_ready (rs := [6]) (by kernel_rfl) (by simp) ?_
          refine AllReady.cons rfl (fun K hK => ?_) ?_
          ·
           go_simp
           (refine hK _ _ ?_; clear hK K)
           refine wpAny_take (i := 9) (v := ?_) rfl (by kernel_rfl) (by kernel_rfl) (by kernel_rfl) (fun _ _ _ h => h) (Or.inl ⟨by rfl, ?_⟩) ?_
           rotate_left
           ·
            intro w; go_simp; try with_reducible rfl
           refine wpAny_ready (rs := [11]) (by kernel_rfl) (by simp) ?_
           refine AllReady.cons rfl (fun K hK => ?_) ?_
           ·
            go_simp
            (refine hK _ _ ?_; clear hK K)
            refine wpAny_done (by kernel_rfl) ?_ _
            go_wp2_with fail
            go_roundg (gk - 1)
            case measure => omega
            case rel => exact ⟨-s, d1, m1, d2, m2, rfl, by omega, by omega, Int.le_of_lt HD.out.1, HD.out.2.1, HM.out.1, HM.out.2.2.1, Int.le_of_lt HD.out.2.2.1, HD.out.2.2.2, HM.out.2.1, HM.out.2.2.2, HW15⟩
           exact AllReady.nil
          exact AllReady.nil
         exact AllReady.nil
        refine AllReady.cons rfl (fun K hK => ?_) ?_
        ·
         go_simp
         (refine hK _ _ ?_; clear hK K)
         refine wpAny_take (i := 9) (v := ?_) rfl (by kernel_rfl) (by kernel_rfl) (by kernel_rfl) (fun _ _ _ h => h) (Or.inl ⟨by rfl, ?_⟩) ?_
         rotate_left
         ·
          intro w; go_simp; try with_reducible rfl
         refine wpAny_ready (rs := [1]) (by kernel_rfl) (by simp) ?_
         refine AllReady.cons rfl (fun K hK => ?_) ?_
         ·
          go_simp
          (refine hK _ _ ?_; clear hK K)
          refine wpAny_take (i := 4) (v := ?_) rfl (by kernel_rfl) (by kernel_rfl) (by kernel_rfl) (fun _ _ _ h => h) (Or.inl ⟨by rfl, ?_⟩) ?_
          rotate_left
          ·
           intro w; go_simp; try with_reducible rfl
          refine wpAny_ready (rs := [10]) (by kernel_rfl) (by simp) ?_
          refine AllReady.cons rfl (fun K hK => ?_) ?_
          ·
           go_simp
           (refine hK _ _ ?_; clear hK K)
           refine wpAny_ready (rs := [11]) (by kernel_rfl) (by simp) ?_
           refine AllReady.cons rfl (fun K hK => ?_) ?_
           ·
            go_simp
            (refine hK _ _ ?_; clear hK K)
            refine wpAny_done (by kernel_rfl) ?_ _
            go_wp2_with fail
            go_roundg (gk - 1)
            case measure => omega
            case rel => exact ⟨-s, d1, m1, d2, m2, rfl, by omega, by omega, Int.le_of_lt HD.out.1, HD.out.2.1, HM.out.1, HM.out.2.2.1, Int.le_of_lt HD.out.2.2.1, HD.out.2.2.2, HM.out.2.1, HM.out.2.2.2, HW15⟩
           exact AllReady.nil
          exact AllReady.nil
         exact AllReady.nil
        exact AllReady.nil
       exact AllReady.nil
      refine AllReady.cons rfl (fun K hK => ?_) ?_
      ·
       go_simp
       (refine hK _ _ ?_; clear hK K)
       refine wpAny_ready (rs := [1, 3, 8]) (by kernel_rfl) (by simp) ?_
       refine AllReady.cons rfl (fun K hK => ?_) ?_
       ·
        go_simp
        (refine hK _ _ ?_; clear hK K)
        refine wpAny_ready (rs := [3, 8]) (by kernel_rfl) (by simp) ?_
        refine AllReady.cons rfl (fun K hK => ?_) ?_
        ·
         go_simp
         (refine hK _ _ ?_; clear hK K)
         refine wpAny_take (i := 4) (v := ?_) rfl (by kernel_rfl) (by kernel_rfl) (by kernel_rfl) (fun _ _ _ h => h) (Or.inl ⟨by rfl, ?_⟩) ?_
         rotate_left
         ·
          intro w; go_simp; try with_reducible rfl
         refine wpAny_ready (rs := [8, 10]) (by kernel_rfl) (by simp) ?_
         refine AllReady.cons rfl (fun K hK => ?_) ?_
         ·
          go_simp
          (refine hK _ _ ?_; clear hK K)
          refine wpAny_take (i := 9) (v := ?_) rfl (by kernel_rfl) (by kernel_rfl) (by kernel_rfl) (fun _ _ _ h => h) (Or.inl ⟨by rfl, ?_⟩) ?_
          rotate_left
          ·
           intro w; go_simp; try with_reducible rfl
          refine wpAny_ready (rs := [10]) (by kernel_rfl) (by simp) ?_
          refine AllReady.cons rfl (fun K hK => ?_) ?_
          ·
           go_simp
           (refine hK _ _ ?_; clear hK K)
           refine wpAny_ready (rs := [11]) (by kernel_rfl) (by simp) ?_
           refine AllReady.cons rfl (fun K hK => ?_) ?_
           ·
            go_simp
            (refine hK _ _ ?_; clear hK K)
            refine wpAny_done (by kernel_rfl) ?_ _
            go_wp2_with fail
            go_roundg (gk - 1)
            case measure => omega
            case rel => exact ⟨-s, d1, m1, d2, m2, rfl, by omega, by omega, Int.le_of_lt HD.out.1, HD.out.2.1, HM.out.1, HM.out.2.2.1, Int.le_of_lt HD.out.2.2.1, HD.out.2.2.2, HM.out.2.1, HM.out.2.2.2, HW15⟩
           exact AllReady.nil
          exact AllReady.nil
         refine AllReady.cons rfl (fun K hK => ?_) ?_
         ·
          go_simp
          (refine hK _ _ ?_; clear hK K)
          refine wpAny_ready (rs := [8]) (by kernel_rfl) (by simp) ?_
          refine AllReady.cons rfl (fun K hK => ?_) ?_
          ·
           go_simp
           (refine hK _ _ ?_; clear hK K)
           refine wpAny_take (i := 9) (v := ?_) rfl (by kernel_rfl) (by kernel_rfl) (by kernel_rfl) (fun _ _ _ h => h) (Or.inl ⟨by rfl, ?_⟩) ?_
           rotate_left
           ·
            intro w; go_simp; try with_reducible rfl
           refine wpAny_ready (rs := [11]) (by kernel_rfl) (by simp) ?_
           refine AllReady.cons rfl (fun K hK => ?_) ?_
           ·
            go_simp
            (refine hK _ _ ?_; clear hK K)
            refine wpAny_done (by kernel_rfl) ?_ _
            go_wp2_with fail
            go_roundg (gk - 1)
            case measure => omega
            case rel => exact ⟨-s, d1, m1, d2, m2, rfl, by omega, by omega, Int.le_of_lt HD.out.1, HD.out.2.1, HM.out.1, HM.out.2.2.1, Int.le_of_lt HD.out.2.2.1, HD.out.2.2.2, HM.out.2.1, HM.out.2.2.2, HW15⟩
           exact AllReady.nil
          exact AllReady.nil
         exact AllReady.nil
        refine AllReady.cons rfl (fun K hK => ?_) ?_
        ·
         go_simp
         (refine hK _ _ ?_; clear hK K)
         refine wpAny_take (i := 9) (v := ?_) rfl (by kernel_rfl) (by kernel_rfl) (by kernel_rfl) (fun _ _ _ h => h) (Or.inl ⟨by rfl, ?_⟩) ?_
         rotate_left
         ·
          intro w; go_simp; try with_reducible rfl
         refine wpAny_ready (rs := [3]) (by kernel_rfl) (by simp) ?_
         refine AllReady.cons rfl (fun K hK => ?_) ?_
         ·
          go_simp
          (refine hK _ _ ?_; clear hK K)
          refine wpAny_take (i := 4) (v := ?_) rfl (by kernel_rfl) (by kernel_rfl) (by kernel_rfl) (fun _ _ _ h => h) (Or.inl ⟨by rfl, ?_⟩) ?_
          rotate_left
          ·
           intro w; go_simp; try with_reducible rfl
          refine wpAny_ready (rs := [10]) (by kernel_rfl) (by simp) ?_
          refine AllReady.cons rfl (fun K hK => ?_) ?_
          ·
           go_simp
           (refine hK _ _ ?_; clear hK K)
           refine wpAny_ready (rs := [11]) (by kernel_rfl) (by simp) ?_
           refine AllReady.cons rfl (fun K hK => ?_) ?_
           ·
            go_simp
            (refine hK _ _ ?_; clear hK K)
            refine wpAny_done (by kernel_rfl) ?_ _
            go_wp2_with fail
            go_roundg (gk - 1)
            case measure => omega
            case rel => exact ⟨-s, d1, m1, d2, m2, rfl, by omega, by omega, Int.le_of_lt HD.out.1, HD.out.2.1, HM.out.1, HM.out.2.2.1, Int.le_of_lt HD.out.2.2.1, HD.out.2.2.2, HM.out.2.1, HM.out.2.2.2, HW15⟩
           exact AllReady.nil
          exact AllReady.nil
         exact AllReady.nil
        exact AllReady.nil
       refine AllReady.cons rfl (fun K hK => ?_) ?_
       ·
        go_simp
        (refine hK _ _ ?_; clear hK K)
        refine wpAny_ready (rs := [1, 8]) (by kernel_rfl) (by simp) ?_
        refine AllReady.cons rfl (fun K hK => ?_) ?_
        ·
         go_simp
         (refine hK _ _ ?_; clear hK K)
         refine wpAny_take (i := 4) (v := ?_) rfl (by kernel_rfl) (by kernel_rfl) (by kernel_rfl) (fun _ _ _ h => h) (Or.inl ⟨by rfl, ?_⟩) ?_
         rotate_left
         ·
          intro w; go_simp; try with_reducible rfl
         refine wpAny_ready (rs := [8, 10]) (by kernel_rfl) (by simp) ?_
         refine AllReady.cons rfl (fun K hK => ?_) ?_
         ·
          go_simp
          (refine hK _ _ ?_; clear hK K)
          refine wpAny_take (i := 9) (v := ?_) rfl (by kernel_rfl) (by kernel_rfl) (by kernel_rfl) (fun _ _ _ h => h) (Or.inl ⟨by rfl, ?_⟩) ?_
          rotate_left
          ·
           intro w; go_simp; try with_reducible rfl
          refine wpAny_ready (rs := [10]) (by kernel_rfl) (by simp) ?_
          refine AllReady.cons rfl (fun K hK => ?_) ?_
          ·
           go_simp
           (refine hK _ _ ?_; clear hK K)
           refine wpAny_ready (rs := [11]) (by kernel_rfl) (by simp) ?_
           refine AllReady.cons rfl (fun K hK => ?_) ?_
           ·
            go_simp
            (refine hK _ _ ?_; clear hK K)
            refine wpAny_done (by kernel_rfl) ?_ _
            go_wp2_with fail
            go_roundg (gk - 1)
            case measure => omega
            case rel => exact ⟨-s, d1, m1, d2, m2, rfl, by omega, by omega, Int.le_of_lt HD.out.1, HD.out.2.1, HM.out.1, HM.out.2.2.1, Int.le_of_lt HD.out.2.2.1, HD.out.2.2.2, HM.out.2.1, HM.out.2.2.2, HW15⟩
           exact AllReady.nil
          exact AllReady.nil
         refine AllReady.cons rfl (fun K hK => ?_) ?_
         ·
          go_simp
          (refine hK _ _ ?_; clear hK K)
          refine wpAny_ready (rs := [8]) (by kernel_rfl) (by simp) ?_
          refine AllReady.cons rfl (fun K hK => ?_) ?_
          ·
           go_simp
           (refine hK _ _ ?_; clear hK K)
           refine wpAny_take (i := 9) (v := ?_) rfl (by kernel_rfl) (by kernel_rfl) (by kernel_rfl) (fun _ _ _ h => h) (Or.inl ⟨by rfl, ?_⟩) ?_
           rotate_left
           ·
            intro w; go_simp; try with_reducible rfl
           refine wpAny_ready (rs := [11]) (by kernel_rfl) (by simp) ?_
           refine AllReady.cons rfl (fun K hK => ?_) ?_
           ·
            go_simp
            (refine hK _ _ ?_; clear hK K)
            refine wpAny_done (by kernel_rfl) ?_ _
            go_wp2_with fail
            go_roundg (gk - 1)
            case measure => omega
            case rel => exact ⟨-s, d1, m1, d2, m2, rfl, by omega, by omega, Int.le_of_lt HD.out.1, HD.out.2.1, HM.out.1, HM.out.2.2.1, Int.le_of_lt HD.out.2.2.1, HD.out.2.2.2, HM.out.2.1, HM.out.2.2.2, HW15⟩
           exact AllReady.nil
          exact AllReady.nil
         exact AllReady.nil
        refine AllReady.cons rfl (fun K hK => ?_) ?_
        ·
         go_simp
         (refine hK _ _ ?_; clear hK K)
         refine wpAny_take (i := 9) (v := ?_) rfl (by kernel_rfl) (by kernel_rfl) (by kernel_rfl) (fun _ _ _ h => h) (Or.inl ⟨by rfl, ?_⟩) ?_
         rotate_left
         ·
          intro w; go_simp; try with_reducible rfl
         refine wpAny_ready (rs := [1]) (by kernel_rfl) (by simp) ?_
         refine AllReady.cons rfl (fun K hK => ?_) ?_
         ·
          go_simp
          (refine hK _ _ ?_; clear hK K)
          refine wpAny_take (i := 4) (v := ?_) rfl (by kernel_rfl) (by kernel_rfl) (by kernel_rfl) (fun _ _ _ h => h) (Or.inl ⟨by rfl, ?_⟩) ?_
          rotate_left
          ·
           intro w; go_simp; try with_reducible rfl
          refine wpAny_ready (rs := [10]) (by kernel_rfl) (by simp) ?_
          refine AllReady.cons rfl (fun K hK => ?_) ?_
          ·
           go_simp
           (refine hK _ _ ?_; clear hK K)
           refine wpAny_ready (rs := [11]) (by kernel_rfl) (by simp) ?_
           refine AllReady.cons rfl (fun K hK => ?_) ?_
           ·
            go_simp
            (refine hK _ _ ?_; clear hK K)
            refine wpAny_done (by kernel_rfl) ?_ _
            go_wp2_with fail
            go_roundg (gk - 1)
            case measure => omega
            case rel => exact ⟨-s, d1, m1, d2, m2, rfl, by omega, by omega, Int.le_of_lt HD.out.1, HD.out.2.1, HM.out.1, HM.out.2.2.1, Int.le_of_lt HD.out.2.2.1, HD.out.2.2.2, HM.out.2.1, HM.out.2.2.2, HW15⟩
           exact AllReady.nil
          exact AllReady.nil
         exact AllReady.nil
        exact AllReady.nil
       refine AllReady.cons rfl (fun K hK => ?_) ?_
       ·
        go_simp
        (refine hK _ _ ?_; clear hK K)
        refine wpAny_take (i := 9) (v := ?_) rfl (by kernel_rfl) (by kernel_rfl) (by kernel_rfl) (fun _ _ _ h => h) (Or.inl ⟨by rfl, ?_⟩) ?_
        rotate_left
        ·
         intro w; go_simp; try with_reducible rfl
        refine wpAny_ready (rs := [1, 3]) (by kernel_rfl) (by simp) ?_
        refine AllReady.cons rfl (fun K hK => ?_) ?_
        ·
         go_simp
         (refine hK _ _ ?_; clear hK K)
         refine wpAny_ready (rs := [3]) (by kernel_rfl) (by simp) ?_
         refine AllReady.cons rfl (fun K hK => ?_) ?_
         ·
          go_simp
          (refine hK _ _ ?_; clear hK K)
          refine wpAny_take (i := 4) (v := ?_) rfl (by kernel_rfl) (by kernel_rfl) (by kernel_rfl) (fun _ _ _ h => h) (Or.inl ⟨by rfl, ?_⟩) ?_
          rotate_left
          ·
           intro w; go_simp; try with_reducible rfl
          refine wpAny_ready (rs := [10]) (by kernel_rfl) (by simp) ?_
          refine AllReady.cons rfl (fun K hK => ?_) ?_
          ·
           go_simp
           (refine hK _ _ ?_; clear hK K)
           refine wpAny_ready (rs := [11]) (by kernel_rfl) (by simp) ?_
           refine AllReady.cons rfl (fun K hK => ?_) ?_
           ·
            go_simp
            (refine hK _ _ ?_; clear hK K)
            refine wpAny_done (by kernel_rfl) ?_ _
            go_wp2_with fail
            go_roundg (gk - 1)
            case measure => omega
            case rel => exact ⟨-s, d1, m1, d2, m2, rfl, by omega, by omega, Int.le_of_lt HD.out.1, HD.out.2.1, HM.out.1, HM.out.2.2.1, Int.le_of_lt HD.out.2.2.1, HD.out.2.2.2, HM.out.2.1, HM.out.2.2.2, HW15⟩
           exact AllReady.nil
          exact AllReady.nil
         exact AllReady.nil
        refine AllReady.cons rfl (fun K hK => ?_) ?_
        ·
         go_simp
         (refine hK _ _ ?_; clear hK K)
         refine wpAny_ready (rs := [1]) (by kernel_rfl) (by simp) ?_
         refine AllReady.cons rfl (fun K hK => ?_) ?_
         ·
          go_simp
          (refine hK _ _ ?_; clear hK K)
          refine wpAny_take (i := 4) (v := ?_) rfl (by kernel_rfl) (by kernel_rfl) (by kernel_rfl) (fun _ _ _ h => h) (Or.inl ⟨by rfl, ?_⟩) ?_
          rotate_left
          ·
           intro w; go_simp; try with_reducible rfl
          refine wpAny_ready (rs := [10]) (by kernel_rfl) (by simp) ?_
          refine AllReady.cons rfl (fun K hK => ?_) ?_
          ·
           go_simp
           (refine hK _ _ ?_; clear hK K)
           refine wpAny_ready (rs := [11]) (by kernel_rfl) (by simp) ?_
           refine AllReady.cons rfl (fun K hK => ?_) ?_
           ·
            go_simp
            (refine hK _ _ ?_; clear hK K)
            refine wpAny_done (by kernel_rfl) ?_ _
            go_wp2_with fail
            go_roundg (gk - 1)
            case measure => omega
            case rel => exact ⟨-s, d1, m1, d2, m2, rfl, by omega, by omega, Int.le_of_lt HD.out.1, HD.out.2.1, HM.out.1, HM.out.2.2.1, Int.le_of_lt HD.out.2.2.1, HD.out.2.2.2, HM.out.2.1, HM.out.2.2.2, HW15⟩
           exact AllReady.nil
          exact AllReady.nil
         exact AllReady.nil
        exact AllReady.nil
       exact AllReady.nil
      refine AllReady.cons rfl (fun K hK => ?_) ?_
      ·
       go_simp
       (refine hK _ _ ?_; clear hK K)
       refine wpAny_ready (rs := [1, 3, 6]) (by kernel_rfl) (by simp) ?_
       refine AllReady.cons rfl (fun K hK => ?_) ?_
       ·
        go_simp
        (refine hK _ _ ?_; clear hK K)
        refine wpAny_ready (rs := [3, 6]) (by kernel_rfl) (by simp) ?_
        refine AllReady.cons rfl (fun K hK => ?_) ?_
        ·
         go_simp
         (refine hK _ _ ?_; clear hK K)
         refine wpAny_take (i := 4) (v := ?_) rfl (by kernel_rfl) (by kernel_rfl) (by kernel_rfl) (fun _ _ _ h => h) (Or.inl ⟨by rfl, ?_⟩) ?_
         rotate_left
         ·
          intro w; go_simp; try with_reducible rfl
         refine wpAny_ready (rs := [6, 10]) (by kernel_rfl) (by simp) ?_
         refine AllReady.cons rfl (fun K hK => ?_) ?_
         ·
          go_simp
          (refine hK _ _ ?_; clear hK K)
          refine wpAny_take (i := 9) (v := ?_) rfl (by kernel_rfl) (by kernel_rfl) (by kernel_rfl) (fun _ _ _ h => h) (Or.inl ⟨by rfl, ?_⟩) ?_
          rotate_left
          ·
           intro w; go_simp; try with_reducible rfl
          refine wpAny_ready (rs := [10]) (by kernel_rfl) (by simp) ?_
          refine AllReady.cons rfl (fun K hK => ?_) ?_
          ·
           go_simp
           (refine hK _ _ ?_; clear hK K)
           refine wpAny_ready (rs := [11]) (by kernel_rfl) (by simp) ?_
           refine AllReady.cons rfl (fun K hK => ?_) ?_
           ·
            go_simp
            (refine hK _ _ ?_; clear hK K)
            refine wpAny_done (by kernel_rfl) ?_ _
            go_wp2_with fail
            go_roundg (gk - 1)
            case measure => omega
            case rel => exact ⟨-s, d1, m1, d2, m2, rfl, by omega, by omega, Int.le_of_lt HD.out.1, HD.out.2.1, HM.out.1, HM.out.2.2.1, Int.le_of_lt HD.out.2.2.1, HD.out.2.2.2, HM.out.2.1, HM.out.2.2.2, HW15⟩
           exact AllReady.nil
          exact AllReady.nil
         refine AllReady.cons rfl (fun K hK => ?_) ?_
         ·
          go_simp
          (refine hK _ _ ?_; clear hK K)
          refine wpAny_ready (rs := [6]) (by kernel_rfl) (by simp) ?_
          refine AllReady.cons rfl (fun K hK => ?_) ?_
          ·
           go_simp
           (refine hK _ _ ?_; clear hK K)
           refine wpAny_take (i := 9) (v := ?_) rfl (by kernel_rfl) (by kernel_rfl) (by kernel_rfl) (fun _ _ _ h => h) (Or.inl ⟨by rfl, ?_⟩) ?_
           rotate_left
           ·
            intro w; go_simp; try with_reducible rfl
           refine wpAny_ready (rs := [11]) (by kernel_rfl) (by simp) ?_
           refine AllReady.cons rfl (fun K hK => ?_) ?_
           ·
            go_simp
            (refine hK _ _ ?_; clear hK K)
            refine wpAny_done (by kernel_rfl) ?_ _
            go_wp2_with fail
            go_roundg (gk - 1)
            case measure => omega
            case rel => exact ⟨-s, d1, m1, d2, m2, rfl, by omega, by omega, Int.le_of_lt HD.out.1, HD.out.2.1, HM.out.1, HM.out.2.2.1, Int.le_of_lt HD.out.2.2.1, HD.out.2.2.2, HM.out.2.1, HM.out.2.2.2, HW15⟩
           exact AllReady.nil
          exact AllReady.nil
         exact AllReady.nil
        refine AllReady.cons rfl (fun K hK => ?_) ?_
        ·
         go_simp
         (refine hK _ _ ?_; clear hK K)
         refine wpAny_take (i := 9) (v := ?_) rfl (by kernel_rfl) (by kernel_rfl) (by kernel_rfl) (fun _ _ _ h => h) (Or.inl ⟨by rfl, ?_⟩) ?_
         rotate_left
         ·
          intro w; go_simp; try with_reducible rfl
         refine wpAny_ready (rs := [3]) (by kernel_rfl) (by simp) ?_
         refine AllReady.cons rfl (fun K hK => ?_) ?_
         ·
          go_simp
          (refine hK _ _ ?_; clear hK K)
          refine wpAny_take (i := 4) (v := ?_) rfl (by kernel_rfl) (by kernel_rfl) (by kernel_rfl) (fun _ _ _ h => h) (Or.inl ⟨by rfl, ?_⟩) ?_
          rotate_left
          ·
           intro w; go_simp; try with_reducible rfl
          refine wpAny_ready (rs := [10]) (by kernel_rfl) (by simp) ?_
          refine AllReady.cons rfl (fun K hK => ?_) ?_
          ·
           go_simp
           (refine hK _ _ ?_; clear hK K)
           refine wpAny_ready (rs := [11]) (by kernel_rfl) (by simp) ?_
           refine AllReady.cons rfl (fun K hK => ?_) ?_
           ·
            go_simp
            (refine hK _ _ ?_; clear hK K)
            refine wpAny_done (by kernel_rfl) ?_ _
            go_wp2_with fail
            go_roundg (gk - 1)
            case measure => omega
            case rel => exact ⟨-s, d1, m1, d2, m2, rfl, by omega, by omega, Int.le_of_lt HD.out.1, HD.out.2.1, HM.out.1, HM.out.2.2.1, Int.le_of_lt HD.out.2.2.1, HD.out.2.2.2, HM.out.2.1, HM.out.2.2.2, HW15⟩
           exact AllReady.nil
          exact AllReady.nil
         exact AllReady.nil
        exact AllReady.nil
       refine AllReady.cons rfl (fun K hK => ?_) ?_
       ·
        go_simp
        (refine hK _ _ ?_; clear hK K)
        refine wpAny_ready (rs := [1, 6]) (by kernel_rfl) (by simp) ?_
        refine AllReady.cons rfl (fun K hK => ?_) ?_
        ·
         go_simp
         (refine hK _ _ ?_; clear hK K)
         refine wpAny_take (i := 4) (v := ?_) rfl (by kernel_rfl) (by kernel_rfl) (by kernel_rfl) (fun _ _ _ h => h) (Or.inl ⟨by rfl, ?_⟩) ?_
         rotate_left
         ·
          intro w; go_simp; try with_reducible rfl
         refine wpAny_ready (rs := [6, 10]) (by kernel_rfl) (by simp) ?_
         refine AllReady.cons rfl (fun K hK => ?_) ?_
         ·
          go_simp
          (refine hK _ _ ?_; clear hK K)
          refine wpAny_take (i := 9) (v := ?_) rfl (by kernel_rfl) (by kernel_rfl) (by kernel_rfl) (fun _ _ _ h => h) (Or.inl ⟨by rfl, ?_⟩) ?_
          rotate_left
          ·
           intro w; go_simp; try with_reducible rfl
          refine wpAny_ready (rs := [10]) (by kernel_rfl) (by simp) ?_
          refine AllReady.cons rfl (fun K hK => ?_) ?_
          ·
           go_simp
           (refine hK _ _ ?_; clear hK K)
           refine wpAny_ready (rs := [11]) (by kernel_rfl) (by simp) ?_
           refine AllReady.cons rfl (fun K hK => ?_) ?_
           ·
            go_simp
            (refine hK _ _ ?_; clear hK K)
            refine wpAny_done (by kernel_rfl) ?_ _
            go_wp2_with fail
            go_roundg (gk - 1)
            case measure => omega
            case rel => exact ⟨-s, d1, m1, d2, m2, rfl, by omega, by omega, Int.le_of_lt HD.out.1, HD.out.2.1, HM.out.1, HM.out.2.2.1, Int.le_of_lt HD.out.2.2.1, HD.out.2.2.2, HM.out.2.1, HM.out.2.2.2, HW15⟩
           exact AllReady.nil
          exact AllReady.nil
         refine AllReady.cons rfl (fun K hK => ?_) ?_
         ·
          go_simp
          (refine hK _ _ ?_; clear hK K)
          refine wpAny_ready (rs := [6]) (by kernel_rfl) (by simp) ?_
          refine AllReady.cons rfl (fun K hK => ?_) ?_
          ·
           go_simp
           (refine hK _ _ ?_; clear hK K)
           refine wpAny_take (i := 9) (v := ?_) rfl (by kernel_rfl) (by kernel_rfl) (by kernel_rfl) (fun _ _ _ h => h) (Or.inl ⟨by rfl, ?_⟩) ?_
           rotate_left
           ·
            intro w; go_simp; try with_reducible rfl
           refine wpAny_ready (rs := [11]) (by kernel_rfl) (by simp) ?_
           refine AllReady.cons rfl (fun K hK => ?_) ?_
           ·
            go_simp
            (refine hK _ _ ?_; clear hK K)
            refine wpAny_done (by kernel_rfl) ?_ _
            go_wp2_with fail
            go_roundg (gk - 1)
            case measure => omega
            case rel => exact ⟨-s, d1, m1, d2, m2, rfl, by omega, by omega, Int.le_of_lt HD.out.1, HD.out.2.1, HM.out.1, HM.out.2.2.1, Int.le_of_lt HD.out.2.2.1, HD.out.2.2.2, HM.out.2.1, HM.out.2.2.2, HW15⟩
           exact AllReady.nil
          exact AllReady.nil
         exact AllReady.nil
        refine AllReady.cons rfl (fun K hK => ?_) ?_
        ·
         go_simp
         (refine hK _ _ ?_; clear hK K)
         refine wpAny_take (i := 9) (v := ?_) rfl (by kernel_rfl) (by kernel_rfl) (by kernel_rfl) (fun _ _ _ h => h) (Or.inl ⟨by rfl, ?_⟩) ?_
         rotate_left
         ·
          intro w; go_simp; try with_reducible rfl
         refine wpAny_ready (rs := [1]) (by kernel_rfl) (by simp) ?_
         refine AllReady.cons rfl (fun K hK => ?_) ?_
         ·
          go_simp
          (refine hK _ _ ?_; clear hK K)
          refine wpAny_take (i := 4) (v := ?_) rfl (by kernel_rfl) (by kernel_rfl) (by kernel_rfl) (fun _ _ _ h => h) (Or.inl ⟨by rfl, ?_⟩) ?_
          rotate_left
          ·
           intro w; go_simp; try with_reducible rfl
          refine wpAny_ready (rs := [10]) (by kernel_rfl) (by simp) ?_
          refine AllReady.cons rfl (fun K hK => ?_) ?_
          ·
           go_simp
           (refine hK _ _ ?_; clear hK K)
           refine wpAny_ready (rs := [11]) (by kernel_rfl) (by simp) ?_
           refine AllReady.cons rfl (fun K hK => ?_) ?_
           ·
            go_simp
            (refine hK _ _ ?_; clear hK K)
            refine wpAny_done (by kernel_rfl) ?_ _
            go_wp2_with fail
            go_roundg (gk - 1)
            case measure => omega
            case rel => exact ⟨-s, d1, m1, d2, m2, rfl, by omega, by omega, Int.le_of_lt HD.out.1, HD.out.2.1, HM.out.1, HM.out.2.2.1, Int.le_of_lt HD.out.2.2.1, HD.out.2.2.2, HM.out.2.1, HM.out.2.2.2, HW15⟩
           exact AllReady.nil
          exact AllReady.nil
         exact AllReady.nil
        exact AllReady.nil
       refine AllReady.cons rfl (fun K hK => ?_) ?_
       ·
        go_simp
        (refine hK _ _ ?_; clear hK K)
        refine wpAny_take (i := 9) (v := ?_) rfl (by kernel_rfl) (by kernel_rfl) (by kernel_rfl) (fun _ _ _ h => h) (Or.inl ⟨by rfl, ?_⟩) ?_
        rotate_left
        ·
         intro w; go_simp; try with_reducible rfl
        refine wpAny_ready (rs := [1, 3]) (by kernel_rfl) (by simp) ?_
        refine AllReady.cons rfl (fun K hK => ?_) ?_
        ·
         go_simp
         (refine hK _ _ ?_; clear hK K)
         refine wpAny_ready (rs := [3]) (by kernel_rfl) (by simp) ?_
         refine AllReady.cons rfl (fun K hK => ?_) ?_
         ·
          go_simp
          (refine hK _ _ ?_; clear hK K)
          refine wpAny_take (i := 4) (v := ?_) rfl (by kernel_rfl) (by kernel_rfl) (by kernel_rfl) (fun _ _ _ h => h) (Or.inl ⟨by rfl, ?_⟩) ?_
          rotate_left
          ·
           intro w; go_simp; try with_reducible rfl
          refine wpAny_ready (rs := [10]) (by kernel_rfl) (by simp) ?_
          refine AllReady.cons rfl (fun K hK => ?_) ?_
          ·
           go_simp
           (refine hK _ _ ?_; clear hK K)
           refine wpAny_ready (rs := [11]) (by kernel_rfl) (by simp) ?_
           refine AllReady.cons rfl (fun K hK => ?_) ?_
           ·
            go_simp
            (refine hK _ _ ?_; clear hK K)
            refine wpAny_done (by kernel_rfl) ?_ _
            go_wp2_with fail
            go_roundg (gk - 1)
            case measure => omega
            case rel => exact ⟨-s, d1, m1, d2, m2, rfl, by omega, by omega, Int.le_of_lt HD.out.1, HD.out.2.1, HM.out.1, HM.out.2.2.1, Int.le_of_lt HD.out.2.2.1, HD.out.2.2.2, HM.out.2.1, HM.out.2.2.2, HW15⟩
           exact AllReady.nil
          exact AllReady.nil
         exact AllReady.nil
        refine AllReady.cons rfl (fun K hK => ?_) ?_
        ·
         go_simp
         (refine hK _ _ ?_; clear hK K)
         refine wpAny_ready (rs := [1]) (by kernel_rfl) (by simp) ?_
         refine AllReady.cons rfl (fun K hK => ?_) ?_
         ·
          go_simp
          (refine hK _ _ ?_; clear hK K)
          refine wpAny_take (i := 4) (v := ?_) rfl (by kernel_rfl) (by kernel_rfl) (by kernel_rfl) (fun _ _ _ h => h) (Or.inl ⟨by rfl, ?_⟩) ?_
          rotate_left
          ·
           intro w; go_simp; try with_reducible rfl
          refine wpAny_ready (rs := [10]) (by kernel_rfl) (by simp) ?_
          refine AllReady.cons rfl (fun K hK => ?_) ?_
          ·
           go_simp
           (refine hK _ _ ?_; clear hK K)
           refine wpAny_ready (rs := [11]) (by kernel_rfl) (by simp) ?_
           refine AllReady.cons rfl (fun K hK => ?_) ?_
           ·
            go_simp
            (refine hK _ _ ?_; clear hK K)
            refine wpAny_done (by kernel_rfl) ?_ _
            go_wp2_with fail
            go_roundg (gk - 1)
            case measure => omega
            case rel => exact ⟨-s, d1, m1, d2, m2, rfl, by omega, by omega, Int.le_of_lt HD.out.1, HD.out.2.1, HM.out.1, HM.out.2.2.1, Int.le_of_lt HD.out.2.2.1, HD.out.2.2.2, HM.out.2.1, HM.out.2.2.2, HW15⟩
           exact AllReady.nil
          exact AllReady.nil
         exact AllReady.nil
        exact AllReady.nil
       exact AllReady.nil
      exact AllReady.nil
  ·
   have e1 : (n1 / d1 == n2 / d2) = false := by simpa using hpq
   by_cases hlt : n1 / d1 < n2 / d2
   ·
    have e2 : decide (n1 / d1 < n2 / d2) = true := decide_eq_true hlt
    have hR : R = -s := by
     rw [← HI.out.1, cmp_lt hb hd hlt]; omega
    have HR := Aside0.mk hR
    clear hR hpq hlt
    go_wp2_with fail
    go_quiet (fail)
    go_wp2_with fail
    go_ret
    exact ⟨by rw [HR.out]; rfl, pw_below_drewN HI.out.2.2.2.2 _⟩
   ·
    have e2 : decide (n1 / d1 < n2 / d2) = false := decide_eq_false hlt
    have hR : R = s := by
     rw [← HI.out.1, cmp_gt hb hd (by omega)]; omega
    have HR := Aside0.mk hR
    clear hR hpq hlt
    go_wp2_with fail
    go_quiet (fail)
    go_wp2_with fail
    go_ret
    exact ⟨by rw [HR.out]; rfl, pw_below_drewN HI.out.2.2.2.2 _⟩
theorem curve_compare.calls (a0_0 : Int) (a0_1 : Int) (a1_0 : Int) (a1_1 : Int) (r : Int) (w : World) (h : curve_compare.f a0_0 a0_1 a1_0 a1_1 = some r) :
  Calls Tryd.prog 64 #[.agg #[.int .i64 a0_0, .int .i64 a0_1], .agg #[.int .i64 a1_0, .int .i64 a1_1]] w fun e w' => e = .returned (.int .i64 r) ∧ Below w.heap.size w w' := by
 unfold curve_compare.f fracB at h
 by_cases hc : (decide (0 ≤ a0_0) && decide (a0_0 ≤ 281474976710656) && decide (0 < a0_1) && decide (a0_1 ≤ 281474976710656)) = true ∧ (decide (0 ≤ a1_0) && decide (a1_0 ≤ 281474976710656) && decide (0 < a1_1) && decide (a1_1 ≤ 281474976710656)) = true
 ·
  rw [if_pos hc] at h
  cases h
  simp only [Bool.and_eq_true, decide_eq_true_eq] at hc
  exact compare_walk a0_0 a0_1 a1_0 a1_1 w hc.1.1.1.1 hc.1.1.1.2 hc.1.1.2 hc.1.2 hc.2.1.1.1 hc.2.1.1.2 hc.2.1.2 hc.2.2
 ·
  rw [if_neg hc] at h
  cases h
end Go.Proofs.YtlhhpogaaneamaaDoor.X
namespace Go.Proofs.YtlhhpogaaneamaaDoor.X
open Go.RowKit Go.Shelf Go.Proofs.YtlhhpogaaneamaaDoorW.PrintWords Go.Proofs.YtlhhpogaaneamaaDoorW.PrintLast Go.Proofs.YtlhhpogaaneamaaDoorW.PrintMore
set_option linter.unusedVariables false
theorem goodB_le {c : List S57} (h : goodB c = true) : c.length ≤ 64 := by
 unfold goodB at h
 simp only [Bool.and_eq_true, decide_eq_true_eq] at h
 exact h.1.1.2
set_option maxHeartbeats 400000 in
theorem turned1_calls (p : S57) (w : World) : Calls Tryd.prog 94 #[.agg #[.int .i64 p.f0, .int .i64 p.f1]] w fun e w' => e = .returned (.agg #[.int .i64 p.f1, .int .i64 p.f0]) ∧ Below w.heap.size w w' := by
 obtain ⟨x, y⟩ := p
 have hu57 := Tryd.underlying57
 go_enter Tryd.func94, Tryd.ntmps94
 go_wp2_with fail
 exact bodyPost_ret (v := .agg #[.int .i64 y, .int .i64 x]) (by simp [results, Tryd.f94, go_sem]) rfl ⟨rfl, ((Below.refl _ w).alloc (Nat.le_refl _) _).alloc (by simp) _⟩
theorem take_map_snoc {α : Type} (F : S57 → α) (c : List S57) (i : Int) (h0 : 0 ≤ i) (h1 : i < c.length) : (c.take i.toNat).map F ++ [F (rd_T57 c i)] = (c.take (i + 1).toNat).map F := by
 unfold rd_T57
 have e : (i + 1).toNat = i.toNat + 1 := by omega
 have h : i.toNat < c.length := by omega
 rw [e, List.take_add_one, List.getElem?_eq_getElem h, List.map_append, List.getD_eq_getElem?_getD, List.getElem?_eq_getElem h]
 rfl
set_option maxRecDepth 100000 in
set_option maxHeartbeats 1000000 in
theorem changed_turned (A : Option Addr) (c : Nat) (l0 : List S57) (w : World) (hr : Kd.C k57 w A l0.length l0) (hm : l0.length ≤ 1000000) :
  Calls Tryd.prog 92 #[.slice A l0.length c, .func (.func 94) #[] #[]] w fun e w' => ∃ v0_ : Value, e = .returned (v0_) ∧ Kd.R k57 57 w' w.heap.size (fun _ => True) v0_ (l0.map fun p => ⟨p.f1, p.f0⟩) ∧ Below w.heap.size w w' := by
 have hu57 := Tryd.underlying57
 have HR := Aside0.mk hr
 have HB := Aside0.mk (Below.refl w.heap.size w)
 clear hr
 go_enter Tryd.func92, Tryd.ntmps92
 go_wp2_with fail
 go_loopw [5, 10] (fun v5 v10 wr => ∃ i : Int, 0 ≤ i ∧ i ≤ l0.length ∧ v10 = .int .i64 i ∧ Aside0 (Kd.R k57 57 wr w.heap.size (fun _ => True) v5 ((l0.take i.toNat).map fun p => (⟨p.f1, p.f0⟩ : S57))) ∧ Aside0 (Below w.heap.size w wr)) (fun _ v10 _ => l0.length - (intOf v10).toNat)
 case atStart => exact ⟨0, by omega, by omega, rfl, ⟨Kd.R_nil _ _ _ _ _⟩, HB⟩
 case round =>
  clear HB
  obtain ⟨i, h0, h1, rfl, HO, HB⟩ := hrel
  by_cases hlt : i < l0.length
  ·
   obtain ⟨ad, e258, hx0, hx1⟩ := at_T57 HR.out i h0 hlt
   cases e258
   replace hx0 := (HB.out.cell (World.block_lt_of_cell? w _ hx0)).trans hx0
   replace hx1 := (HB.out.cell (World.block_lt_of_cell? w _ hx1)).trans hx1
   go_wp2_with fail
   refine (turned1_calls (rd_T57 l0 i) _).mono ?_
   rintro e w1 ⟨rfl, hb⟩
   have HO1 := Aside0.mk (Kd.R_below (Kd.R_alloc HO.out _) hb)
   have HB1 := Aside0.mk (below_step (below_alloc HB.out _) hb)
   clear hb HB HO hx0 hx1
   go_wp2_with (first | ((with_reducible refine gate_builtin (b := .append) (xs := #[.tmp 14, .tmp 18]) rfl ?_); at_builtin; refine Kd.R_append k57 (w0 := w) w.heap.size rfl (.tmp 14) (.tmp 18) 23 57 (.agg #[(.int .i64 0), (.int .i64 0)]) 16 rfl Tryd.underlying23 info57 rfl (by decide) (by omega) u5 ((l0.take i.toNat).map fun p => (⟨p.f1, p.f0⟩ : S57)) (⟨(rd_T57 l0 i).f1, (rd_T57 l0 i).f0⟩ : S57) [.int .i64 ((rd_T57 l0 i).f1), .int .i64 ((rd_T57 l0 i).f0)] (fun _ => True) (fun _ => False) rfl rfl ?aP (fun _ hk => hk.elim) ?aF ?aO ?aB ?aS ?aL ?_; (case aP => exact k57_mkM _ _ _ (⟨(rd_T57 l0 i).f1, (rd_T57 l0 i).f0⟩ : S57)); (case aB => exact HB1.out); (case aF => exact (fun _ _ => trivial)); (case aO => exact HO1.out); (case aS => exact below_size HB1.out); (case aL => simp only [List.length_map, List.length_take]; omega); intro v428 w65 ho hb hg hat; have HO2 := Aside0.mk ho; have HB2 := Aside0.mk hb; clear ho hb hg hat))
   go_roundw
   case rel => exact ⟨i + 1, by omega, by omega, by go_num, ⟨by have := HO2.out; rw [take_map_snoc (fun p => (⟨p.f1, p.f0⟩ : S57)) l0 i h0 hlt] at this; exact this⟩, HB2⟩
   case measure => simp [intOf]; omega
  ·
   have e : l0.take i.toNat = l0 := List.take_of_length_le (by omega)
   have HE := Aside0.mk e
   clear e
   go_wp2_with fail
   go_ret
   exact ⟨_, rfl, by have := HO.out; rw [HE.out] at this; exact this, HB.out⟩
set_option maxRecDepth 100000 in
set_option maxHeartbeats 400000 in
theorem moved1_calls (p : S57) (x y : Int) (B1 B2 : Nat) (w : World) (hx : Blk w B1 3 #[.int .i64 x]) (hy : Blk w B2 3 #[.int .i64 y]) : Calls Tryd.prog 106 #[.agg #[.int .i64 p.f0, .int .i64 p.f1], .pointer (some ⟨B1, 0, none⟩), .pointer (some ⟨B2, 0, none⟩)] w fun e w' => e = .returned (.agg #[.int .i64 (wrap64 (p.f0 + x)), .int .i64 (wrap64 (p.f1 + y))]) ∧ Below w.heap.size w w' := by
 obtain ⟨a, b⟩ := p
 have hu57 := Tryd.underlying57
 have c1 : ((w.alloc (.cells #[.int .i64 a, .int .i64 b] 57)).alloc (.cells #[.int .i64 0, .int .i64 0] 57)).cell? ⟨B1, 0, none⟩ = some (.int .i64 x) := ((hx.alloc _).alloc _).cell 0
 have c2 : ((w.alloc (.cells #[.int .i64 a, .int .i64 b] 57)).alloc (.cells #[.int .i64 0, .int .i64 0] 57)).cell? ⟨B2, 0, none⟩ = some (.int .i64 y) := ((hy.alloc _).alloc _).cell 0
 go_enter Tryd.func106, Tryd.ntmps106
 go_wp2_with fail
 exact bodyPost_ret (v := .agg #[.int .i64 (wrap64 (a + x)), .int .i64 (wrap64 (b + y))]) (by simp [results, Tryd.f106, go_sem]) rfl ⟨rfl, ((Below.refl _ w).alloc (Nat.le_refl _) _).alloc (by simp) _⟩
set_option maxRecDepth 100000 in
set_option maxHeartbeats 1000000 in
theorem changed_moved (A : Option Addr) (c : Nat) (l0 : List S57) (x y : Int) (B1 B2 : Nat) (w : World) (hx : Blk w B1 3 #[.int .i64 x]) (hy : Blk w B2 3 #[.int .i64 y]) (hr : Kd.C k57 w A l0.length l0) (hm : l0.length ≤ 1000000) :
  Calls Tryd.prog 92 #[.slice A l0.length c, .func (.func 106) #[] #[.pointer (some ⟨B1, 0, none⟩), .pointer (some ⟨B2, 0, none⟩)]] w fun e w' => ∃ v0_ : Value, e = .returned (v0_) ∧ Kd.R k57 57 w' w.heap.size (fun _ => True) v0_ (l0.map fun p => ⟨wrap64 (p.f0 + x), wrap64 (p.f1 + y)⟩) ∧ Below w.heap.size w w' := by
 have hu57 := Tryd.underlying57
 have HR := Aside0.mk hr
 have HB := Aside0.mk (Below.refl w.heap.size w)
 have HX := Aside0.mk hx
 have HY := Aside0.mk hy
 clear hr hx hy
 go_enter Tryd.func92, Tryd.ntmps92
 go_wp2_with fail
 go_loopw [5, 10] (fun v5 v10 wr => ∃ i : Int, 0 ≤ i ∧ i ≤ l0.length ∧ v10 = .int .i64 i ∧ Aside0 (Kd.R k57 57 wr w.heap.size (fun _ => True) v5 ((l0.take i.toNat).map fun p => (⟨wrap64 (p.f0 + x), wrap64 (p.f1 + y)⟩ : S57))) ∧ Aside0 (Below w.heap.size w wr)) (fun _ v10 _ => l0.length - (intOf v10).toNat)
 case atStart => exact ⟨0, by omega, by omega, rfl, ⟨Kd.R_nil _ _ _ _ _⟩, HB⟩
 case round =>
  clear HB
  obtain ⟨i, h0, h1, rfl, HO, HB⟩ := hrel
  by_cases hlt : i < l0.length
  ·
   obtain ⟨ad, e258, hx0, hx1⟩ := at_T57 HR.out i h0 hlt
   cases e258
   replace hx0 := (HB.out.cell (World.block_lt_of_cell? w _ hx0)).trans hx0
   replace hx1 := (HB.out.cell (World.block_lt_of_cell? w _ hx1)).trans hx1
   go_wp2_with fail
   refine (moved1_calls (rd_T57 l0 i) x y B1 B2 _ ((HX.out.below HB.out HX.out.lt).alloc _) ((HY.out.below HB.out HY.out.lt).alloc _)).mono ?_
   rintro e w1 ⟨rfl, hb⟩
   have HO1 := Aside0.mk (Kd.R_below (Kd.R_alloc HO.out _) hb)
   have HB1 := Aside0.mk (below_step (below_alloc HB.out _) hb)
   clear hb HB HO hx0 hx1
   go_wp2_with (first | ((with_reducible refine gate_builtin (b := .append) (xs := #[.tmp 14, .tmp 18]) rfl ?_); at_builtin; refine Kd.R_append k57 (w0 := w) w.heap.size rfl (.tmp 14) (.tmp 18) 23 57 (.agg #[(.int .i64 0), (.int .i64 0)]) 16 rfl Tryd.underlying23 info57 rfl (by decide) (by omega) u5 ((l0.take i.toNat).map fun p => (⟨wrap64 (p.f0 + x), wrap64 (p.f1 + y)⟩ : S57)) (⟨wrap64 ((rd_T57 l0 i).f0 + x), wrap64 ((rd_T57 l0 i).f1 + y)⟩ : S57) [.int .i64 (wrap64 ((rd_T57 l0 i).f0 + x)), .int .i64 (wrap64 ((rd_T57 l0 i).f1 + y))] (fun _ => True) (fun _ => False) rfl rfl ?aP (fun _ hk => hk.elim) ?aF ?aO ?aB ?aS ?aL ?_; (case aP => exact k57_mkM _ _ _ (⟨wrap64 ((rd_T57 l0 i).f0 + x), wrap64 ((rd_T57 l0 i).f1 + y)⟩ : S57)); (case aB => exact HB1.out); (case aF => exact (fun _ _ => trivial)); (case aO => exact HO1.out); (case aS => exact below_size HB1.out); (case aL => simp only [List.length_map, List.length_take]; omega); intro v428 w65 ho hb hg hat; have HO2 := Aside0.mk ho; have HB2 := Aside0.mk hb; clear ho hb hg hat))
   go_roundw
   case rel => exact ⟨i + 1, by omega, by omega, by go_num, ⟨by have := HO2.out; rw [take_map_snoc (fun p => (⟨wrap64 (p.f0 + x), wrap64 (p.f1 + y)⟩ : S57)) l0 i h0 hlt] at this; exact this⟩, HB2⟩
   case measure => simp [intOf]; omega
  ·
   have e : l0.take i.toNat = l0 := List.take_of_length_le (by omega)
   have HE := Aside0.mk e
   clear e
   go_wp2_with fail
   go_ret
   exact ⟨_, rfl, by have := HO.out; rw [HE.out] at this; exact this, HB.out⟩
set_option maxRecDepth 100000 in
set_option maxHeartbeats 400000 in
theorem scale1_calls (p : S57) (x y : Int) (B1 B2 : Nat) (w : World) (hx : Blk w B1 3 #[.int .i64 x]) (hy : Blk w B2 3 #[.int .i64 y]) : Calls Tryd.prog 93 #[.agg #[.int .i64 p.f0, .int .i64 p.f1], .pointer (some ⟨B1, 0, none⟩), .pointer (some ⟨B2, 0, none⟩)] w fun e w' => e = .returned (.agg #[.int .i64 (wrap64 (p.f0 * x)), .int .i64 (wrap64 (p.f1 * y))]) ∧ Below w.heap.size w w' := by
 obtain ⟨a, b⟩ := p
 have hu57 := Tryd.underlying57
 have c1 : ((w.alloc (.cells #[.int .i64 a, .int .i64 b] 57)).alloc (.cells #[.int .i64 0, .int .i64 0] 57)).cell? ⟨B1, 0, none⟩ = some (.int .i64 x) := ((hx.alloc _).alloc _).cell 0
 have c2 : ((w.alloc (.cells #[.int .i64 a, .int .i64 b] 57)).alloc (.cells #[.int .i64 0, .int .i64 0] 57)).cell? ⟨B2, 0, none⟩ = some (.int .i64 y) := ((hy.alloc _).alloc _).cell 0
 go_enter Tryd.func93, Tryd.ntmps93
 go_wp2_with fail
 exact bodyPost_ret (v := .agg #[.int .i64 (wrap64 (a * x)), .int .i64 (wrap64 (b * y))]) (by simp [results, Tryd.f93, go_sem]) rfl ⟨rfl, ((Below.refl _ w).alloc (Nat.le_refl _) _).alloc (by simp) _⟩
set_option maxRecDepth 100000 in
set_option maxHeartbeats 1000000 in
theorem changed_scale (A : Option Addr) (c : Nat) (l0 : List S57) (x y : Int) (B1 B2 : Nat) (w : World) (hx : Blk w B1 3 #[.int .i64 x]) (hy : Blk w B2 3 #[.int .i64 y]) (hr : Kd.C k57 w A l0.length l0) (hm : l0.length ≤ 1000000) :
  Calls Tryd.prog 92 #[.slice A l0.length c, .func (.func 93) #[] #[.pointer (some ⟨B1, 0, none⟩), .pointer (some ⟨B2, 0, none⟩)]] w fun e w' => ∃ v0_ : Value, e = .returned (v0_) ∧ Kd.R k57 57 w' w.heap.size (fun _ => True) v0_ (l0.map fun p => ⟨wrap64 (p.f0 * x), wrap64 (p.f1 * y)⟩) ∧ Below w.heap.size w w' := by
 have hu57 := Tryd.underlying57
 have HR := Aside0.mk hr
 have HB := Aside0.mk (Below.refl w.heap.size w)
 have HX := Aside0.mk hx
 have HY := Aside0.mk hy
 clear hr hx hy
 go_enter Tryd.func92, Tryd.ntmps92
 go_wp2_with fail
 go_loopw [5, 10] (fun v5 v10 wr => ∃ i : Int, 0 ≤ i ∧ i ≤ l0.length ∧ v10 = .int .i64 i ∧ Aside0 (Kd.R k57 57 wr w.heap.size (fun _ => True) v5 ((l0.take i.toNat).map fun p => (⟨wrap64 (p.f0 * x), wrap64 (p.f1 * y)⟩ : S57))) ∧ Aside0 (Below w.heap.size w wr)) (fun _ v10 _ => l0.length - (intOf v10).toNat)
 case atStart => exact ⟨0, by omega, by omega, rfl, ⟨Kd.R_nil _ _ _ _ _⟩, HB⟩
 case round =>
  clear HB
  obtain ⟨i, h0, h1, rfl, HO, HB⟩ := hrel
  by_cases hlt : i < l0.length
  ·
   obtain ⟨ad, e258, hx0, hx1⟩ := at_T57 HR.out i h0 hlt
   cases e258
   replace hx0 := (HB.out.cell (World.block_lt_of_cell? w _ hx0)).trans hx0
   replace hx1 := (HB.out.cell (World.block_lt_of_cell? w _ hx1)).trans hx1
   go_wp2_with fail
   refine (scale1_calls (rd_T57 l0 i) x y B1 B2 _ ((HX.out.below HB.out HX.out.lt).alloc _) ((HY.out.below HB.out HY.out.lt).alloc _)).mono ?_
   rintro e w1 ⟨rfl, hb⟩
   have HO1 := Aside0.mk (Kd.R_below (Kd.R_alloc HO.out _) hb)
   have HB1 := Aside0.mk (below_step (below_alloc HB.out _) hb)
   clear hb HB HO hx0 hx1
   go_wp2_with (first | ((with_reducible refine gate_builtin (b := .append) (xs := #[.tmp 14, .tmp 18]) rfl ?_); at_builtin; refine Kd.R_append k57 (w0 := w) w.heap.size rfl (.tmp 14) (.tmp 18) 23 57 (.agg #[(.int .i64 0), (.int .i64 0)]) 16 rfl Tryd.underlying23 info57 rfl (by decide) (by omega) u5 ((l0.take i.toNat).map fun p => (⟨wrap64 (p.f0 * x), wrap64 (p.f1 * y)⟩ : S57)) (⟨wrap64 ((rd_T57 l0 i).f0 * x), wrap64 ((rd_T57 l0 i).f1 * y)⟩ : S57) [.int .i64 (wrap64 ((rd_T57 l0 i).f0 * x)), .int .i64 (wrap64 ((rd_T57 l0 i).f1 * y))] (fun _ => True) (fun _ => False) rfl rfl ?aP (fun _ hk => hk.elim) ?aF ?aO ?aB ?aS ?aL ?_; (case aP => exact k57_mkM _ _ _ (⟨wrap64 ((rd_T57 l0 i).f0 * x), wrap64 ((rd_T57 l0 i).f1 * y)⟩ : S57)); (case aB => exact HB1.out); (case aF => exact (fun _ _ => trivial)); (case aO => exact HO1.out); (case aS => exact below_size HB1.out); (case aL => simp only [List.length_map, List.length_take]; omega); intro v428 w65 ho hb hg hat; have HO2 := Aside0.mk ho; have HB2 := Aside0.mk hb; clear ho hb hg hat))
   go_roundw
   case rel => exact ⟨i + 1, by omega, by omega, by go_num, ⟨by have := HO2.out; rw [take_map_snoc (fun p => (⟨wrap64 (p.f0 * x), wrap64 (p.f1 * y)⟩ : S57)) l0 i h0 hlt] at this; exact this⟩, HB2⟩
   case measure => simp [intOf]; omega
  ·
   have e : l0.take i.toNat = l0 := List.take_of_length_le (by omega)
   have HE := Aside0.mk e
   clear e
   go_wp2_with fail
   go_ret
   exact ⟨_, rfl, by have := HO.out; rw [HE.out] at this; exact this, HB.out⟩
theorem curve_Turned.calls (A0 : Option Addr) (c0 : Nat) (l0 : List S57) (r1 : List S57) (r2 : Int) (w : World) (hr0 : Kd.C k57 w A0 l0.length l0) (hc0 : l0.length ≤ c0) (h : curve_Turned.f l0 = some (r1, r2)) :
  Calls Tryd.prog 52 #[.slice A0 l0.length c0] w fun e w' => ∃ v0_ : Value, e = .returned (.tuple #[v0_, .int .i64 r2]) ∧ Kd.R k57 57 w' w.heap.size (fun _ => True) v0_ r1 ∧ Below w.heap.size w w' := by
 have HR := Aside0.mk hr0
 clear hr0
 by_cases hg : goodB l0 = true
 ·
  simp only [curve_Turned.f, hg, if_true, Option.some.injEq, Prod.mk.injEq] at h
  obtain ⟨rfl, rfl⟩ := h
  have HC := Aside0.mk (show curve_Check.f l0 = some 0 by simp [curve_Check.f, hg])
  have HM := Aside0.mk (show l0.length ≤ 1000000 by have := goodB_le hg; omega)
  clear hg
  go_enter Tryd.func52, Tryd.ntmps52
  go_wp2_with fail
  refine (curve_Check.calls A0 c0 l0 0 _ HR.out hc0 HC.out).mono ?_
  rintro e w1 ⟨rfl, hb⟩
  have HB := Aside0.mk hb
  clear hb
  go_wp2_with fail
  refine (changed_turned A0 c0 l0 _ (Kd.C_below HR.out HB.out) HM.out).mono ?_
  rintro e w2 ⟨v, rfl, hv, hb⟩
  have HV := Aside0.mk hv
  have HB2 := Aside0.mk hb
  clear hv hb
  go_wp2_with fail
  go_ret2
  exact ⟨v, rfl, Kd.R_lower HV.out HB.out.size, HB.out.trans (HB2.out.mono HB.out.size)⟩
 ·
  simp only [curve_Turned.f, if_neg hg, Option.some.injEq, Prod.mk.injEq] at h
  obtain ⟨rfl, rfl⟩ := h
  have HC := Aside0.mk (show curve_Check.f l0 = some 10 by simp [curve_Check.f, hg])
  clear hg
  go_enter Tryd.func52, Tryd.ntmps52
  go_wp2_with fail
  refine (curve_Check.calls A0 c0 l0 10 _ HR.out hc0 HC.out).mono ?_
  rintro e w1 ⟨rfl, hb⟩
  have HB := Aside0.mk hb
  clear hb
  go_wp2_with fail
  go_ret2
  exact ⟨_, rfl, Kd.R_nil _ _ _ _ _, HB.out⟩
theorem curve_moved.calls (A0 : Option Addr) (c0 : Nat) (l0 : List S57) (a1 : Int) (a2 : Int) (r : List S57) (w : World) (hr0 : Kd.C k57 w A0 l0.length l0) (hc0 : l0.length ≤ c0) (h : curve_moved.f l0 a1 a2 = some r) :
  Calls Tryd.prog 90 #[.slice A0 l0.length c0, .int .i64 a1, .int .i64 a2] w fun e w' => ∃ v0_ : Value, e = .returned (v0_) ∧ Kd.R k57 57 w' w.heap.size (fun _ => True) v0_ r ∧ Below w.heap.size w w' := by
 unfold curve_moved.f at h
 by_cases hm : l0.length ≤ 1000000
 ·
  rw [if_pos hm] at h
  cases h
  have HR := Aside0.mk hr0
  have b1 : Blk ((w.alloc (.cells #[.int .i64 a1] 3)).alloc (.cells #[.int .i64 a2] 3)) w.heap.size 3 #[.int .i64 a1] := (Blk.new w 3 _).alloc _
  have b2 : Blk ((w.alloc (.cells #[.int .i64 a1] 3)).alloc (.cells #[.int .i64 a2] 3)) (w.heap.size + 1) 3 #[.int .i64 a2] := by
   have h := Blk.new (w.alloc (.cells #[.int .i64 a1] 3)) 3 #[.int .i64 a2]; rwa [World.size_alloc] at h
  have hB : Below w.heap.size w ((w.alloc (.cells #[.int .i64 a1] 3)).alloc (.cells #[.int .i64 a2] 3)) := ((Below.refl _ w).alloc (Nat.le_refl _) _).alloc (by simp) _
  have HX := Aside0.mk b1
  have HY := Aside0.mk b2
  have HB := Aside0.mk hB
  clear hr0 b1 b2 hB
  go_enter Tryd.func90, Tryd.ntmps90
  go_wp2_with fail
  refine (changed_moved A0 c0 l0 a1 a2 _ _ _ HX.out HY.out (Kd.C_below HR.out HB.out) hm).mono ?_
  rintro e w2 ⟨v, rfl, hv, hb⟩
  have HV := Aside0.mk hv
  have HB2 := Aside0.mk hb
  clear hv hb
  go_wp2_with fail
  go_ret
  exact ⟨v, rfl, Kd.R_lower HV.out HB.out.size, HB.out.trans (HB2.out.mono HB.out.size)⟩
 ·
  rw [if_neg hm] at h
  cases h
end Go.Proofs.YtlhhpogaaneamaaDoor.X
