/- curveSame_holds: the declarations of this seat that its proof uses. Conditions: none. -/
import Derived.Test.YtlhhpogaaneamaaDoorKSP5
namespace Go.Proofs.YtlhhpogaaneamaaDoor.X
open Go.RowKit
set_option linter.unusedVariables false
set_option linter.unusedSimpArgs false
theorem cut_cases {c : List S57} (h : Good c) (f t : Int) : (∃ e, e ≠ 0 ∧ curve_Cut.f c f t = some ([], e)) ∨
  (inB c f = true ∧ inB c t = true ∧ f < t ∧ ∃ u v : Int, valR c f = (u : Rat) ∧ valR c t = (v : Rat) ∧ curve_Cut.f c f t = some (⟨f, u⟩ :: (c.filter (midB f t) ++ [⟨t, v⟩]), 0)) := by
 unfold curve_Cut.f
 rw [if_pos (good_iff.2 h)]
 by_cases hc : inB c f = true ∧ inB c t = true ∧ f < t
 ·
  rw [if_pos hc]
  have r1 := (inB_iff h).1 hc.1
  have r2 := (inB_iff h).1 hc.2.1
  obtain ⟨l, hl, okl, _, _, hv⟩ := valR_wide h r1.1 r1.2
  obtain ⟨m, hm, okm, _, _, hw⟩ := valR_wide h r2.1 r2.2
  rw [hl, hm]
  simp only
  have whole : ∀ {l : S57 × S57} {x : Int}, LineOk l → lowI l x = upI l x → lineV l x = ((lowI l x : Int) : Rat) := fun {l x} ok e => by
   have a := (lowI_iff (l := l) (x := x) (y := lowI l x) ok.wide.1).1 (Int.le_refl _)
   have b := (upI_iff (l := l) (x := x) (y := lowI l x) ok.wide.1).1 (by omega)
   exact Rat.le_antisymm b a
  by_cases hk : lowI l f = upI l f ∧ lowI m t = upI m t
  ·
   rw [if_pos hk]
   exact Or.inr ⟨hc.1, hc.2.1, hc.2.2, _, _, by rw [hv]; exact whole okl hk.1, by rw [hw]; exact whole okm hk.2, rfl⟩
  ·
   rw [if_neg hk]; exact Or.inl ⟨11, by omega, rfl⟩
 ·
  rw [if_neg hc]; exact Or.inl ⟨1, by omega, rfl⟩
theorem part_left {c : List S57} (h : Good c) {t u : Int} (h0 : px c 0 < t) (hu : valR c (px c 0) = (u : Rat)) (m : S57) : (⟨px c 0, u⟩ : S57) :: (c.filter (midB (px c 0) t) ++ [m]) = c.filter (ltB t) ++ [m] := by
 have hi := good_inc h
 have h2 := h.len2
 have hv := valR_first h
 rw [hu] at hv
 have hu' : u = py c 0 := Rat.intCast_inj.1 hv
 match c, h2, hi, h0, hu' with
 | p :: t', h2, hi, h0, hu' =>
  have e0 : px (p :: t') 0 = p.f0 := rfl
  have e1 : py (p :: t') 0 = p.f1 := rfl
  rw [e0] at h0 ⊢
  rw [e1] at hu'
  subst hu'
  have a1 : (p :: t').filter (ltB t) = p :: t'.filter (ltB t) := List.filter_cons_of_pos (by unfold ltB; exact decide_eq_true h0)
  have a2 : (p :: t').filter (midB p.f0 t) = t'.filter (midB p.f0 t) := List.filter_cons_of_neg (by unfold midB; simp)
  have a3 : t'.filter (midB p.f0 t) = t'.filter (ltB t) := List.filter_congr fun z hz => by
   have := (inc_all hi z hz).1
   unfold midB ltB
   rw [decide_eq_true this]; rfl
  rw [a1, a2, a3]; rfl
theorem part_right {c : List S57} (h : Good c) {t u : Int} (h0 : t < px c (c.length - 1)) (hu : valR c (px c (c.length - 1)) = (u : Rat)) : c.filter (midB t (px c (c.length - 1))) ++ [(⟨px c (c.length - 1), u⟩ : S57)] = c.filter (gtB t) := by
 have h2 := h.len2
 have hv := valR_last h
 rw [hu] at hv
 have hu' : u = py c (c.length - 1) := Rat.intCast_inj.1 hv
 have hne : c ≠ [] := by intro e; rw [e] at h2; simp at h2
 have hc := List.dropLast_concat_getLast hne
 have hlast : c.getLast hne = ⟨px c (c.length - 1), py c (c.length - 1)⟩ := by
  rw [List.getLast_eq_getElem]
  unfold px py
  rw [getD_of (by omega)]
 have hlt : ∀ z ∈ c.dropLast, z.f0 < px c (c.length - 1) := fun z hz => by
  obtain ⟨i, hi, rfl⟩ := List.getElem_of_mem hz
  rw [List.length_dropLast] at hi
  have := (h.rising.lt (i := i) (j := c.length - 1) (by omega) (by omega)).1
  rw [List.getElem_dropLast]
  have e : px c i = (c[i]'(by omega)).f0 := by unfold px; rw [getD_of (by omega)]
  omega
 rw [hlast] at hc
 obtain ⟨L, hL⟩ : ∃ L, px c (c.length - 1) = L := ⟨_, rfl⟩
 rw [hu']
 rw [hL] at hc hlt h0 ⊢
 have e1 : c.filter (midB t L) = c.dropLast.filter (gtB t) := by
  rw [← hc, List.filter_append, List.dropLast_concat, List.filter_cons_of_neg (by unfold midB; simp), List.filter_nil, List.append_nil]
  refine List.filter_congr fun z hz => ?_
  unfold midB gtB
  rw [decide_eq_true (hlt z hz), Bool.and_true]
 have e2 : c.filter (gtB t) = c.dropLast.filter (gtB t) ++ [⟨L, py c (c.length - 1)⟩] := by
  rw [← hc, List.filter_append, List.dropLast_concat, List.filter_cons_of_pos (by unfold gtB; exact decide_eq_true h0), List.filter_nil]
  rw [hc]
 rw [e1, e2]
theorem parts {c : List S57} (h : Good c) {t y : Int} (h0 : px c 0 < t) (h1 : t < px c (c.length - 1)) (hy : valR c t = (y : Rat)) :
  Good (c.filter (ltB t) ++ [⟨t, y⟩]) ∧ Good ((⟨t, y⟩ : S57) :: c.filter (gtB t)) ∧ (joinC (c.filter (ltB t) ++ [⟨t, y⟩]) (⟨t, y⟩ :: c.filter (gtB t))).length ≤ c.length + 1 ∧
  rightB (joinC (c.filter (ltB t) ++ [⟨t, y⟩]) (⟨t, y⟩ :: c.filter (gtB t))) = true ∧
  ((joinC (c.filter (ltB t) ++ [⟨t, y⟩]) (⟨t, y⟩ :: c.filter (gtB t))).length ≤ 64 → Good (joinC (c.filter (ltB t) ++ [⟨t, y⟩]) (⟨t, y⟩ :: c.filter (gtB t))) ∧ ∀ x v, On (joinC (c.filter (ltB t) ++ [⟨t, y⟩]) (⟨t, y⟩ :: c.filter (gtB t))) x v ↔ On c x v) := by
 have h2 := h.len2
 have h64 := h.len64
 have hi := good_inc h
 have hr := good_right h
 have om := valR_on h (Int.le_of_lt h0) (Int.le_of_lt h1)
 rw [hy] at om
 have hne : ∀ i, i < c.length → c.getD i z57 ∈ c := fun i hi => by rw [getD_of hi]; exact List.getElem_mem _
 have mu : c.getD 0 z57 ∈ c.filter (ltB t) := List.mem_filter.2 ⟨hne 0 (by omega), by unfold ltB; exact decide_eq_true h0⟩
 have mw : c.getD (c.length - 1) z57 ∈ c.filter (gtB t) := List.mem_filter.2 ⟨hne _ (by omega), by unfold gtB; exact decide_eq_true h1⟩
 have onp : ∀ z ∈ c, On c z.f0 z.f1 := fun z hz => by
  obtain ⟨i, hi, rfl⟩ := List.getElem_of_mem hz
  have := on_point h.rising hi
  unfold px py at this
  rw [getD_of hi] at this
  exact this
 have hu : ∀ z ∈ c.filter (ltB t), z.f0 < t ∧ z.f1 < y := fun z hz => by
  obtain ⟨a, b⟩ := List.mem_filter.1 hz
  have hlt : z.f0 < t := of_decide_eq_true b
  exact ⟨hlt, of_cast_lt (On.mono h.rising (onp z a) om (cast_lt hlt))⟩
 have hw : ∀ z ∈ c.filter (gtB t), t < z.f0 ∧ y < z.f1 := fun z hz => by
  obtain ⟨a, b⟩ := List.mem_filter.1 hz
  have hlt : t < z.f0 := of_decide_eq_true b
  exact ⟨hlt, of_cast_lt (On.mono h.rising om (onp z a) (cast_lt hlt))⟩
 have okm : okp (⟨t, y⟩ : S57) = true := by
  have a := right_at hr (i := 0) (by omega)
  have b := right_at hr (i := c.length - 1) (by omega)
  have r := om.range_y h.rising
  have r1 := of_cast_le r.1
  have r2 := of_cast_le r.2
  simp only [okp, okc, Bool.and_eq_true, decide_eq_true_eq]
  omega
 have hall : ∀ z ∈ c, okp z = true := by unfold rightB at hr; exact List.all_eq_true.1 hr
 have lu := List.length_pos_of_mem mu
 have lw := List.length_pos_of_mem mw
 have lp := len_parts t c
 have gA : Good (c.filter (ltB t) ++ [⟨t, y⟩]) := by
  refine good_mk (by simp only [List.length_append, List.length_cons, List.length_nil]; omega) (by simp only [List.length_append, List.length_cons, List.length_nil]; omega) ?_ (inc_append (inc_filter _ hi) rfl fun a ha b hb => ?_)
  ·
   unfold rightB
   rw [List.all_eq_true]
   intro z hz
   rcases List.mem_append.1 hz with e | e
   ·
    exact hall z (List.mem_filter.1 e).1
   ·
    rw [List.mem_singleton.1 e]; exact okm
  ·
   rw [List.mem_singleton.1 hb]; exact hu a ha
 have gB : Good ((⟨t, y⟩ : S57) :: c.filter (gtB t)) := by
  refine good_mk (by simp only [List.length_cons]; omega) (by simp only [List.length_cons]; omega) ?_ (inc_append (u := [⟨t, y⟩]) rfl (inc_filter _ hi) fun a ha b hb => ?_)
  ·
   unfold rightB
   rw [List.all_eq_true]
   intro z hz
   rcases List.mem_cons.1 hz with e | e
   ·
    rw [e]; exact okm
   ·
    exact hall z (List.mem_filter.1 e).1
  ·
   rw [List.mem_singleton.1 ha]; exact hw b hb
 obtain ⟨A, hA⟩ : ∃ A, c.filter (ltB t) ++ [⟨t, y⟩] = A := ⟨_, rfl⟩
 obtain ⟨B, hB⟩ : ∃ B, (⟨t, y⟩ : S57) :: c.filter (gtB t) = B := ⟨_, rfl⟩
 have lA : A.length = (c.filter (ltB t)).length + 1 := by rw [← hA]; simp
 have lB : B.length = (c.filter (gtB t)).length + 1 := by rw [← hB]; simp
 have eA : A.getD (A.length - 1) z57 = ⟨t, y⟩ := by
  rw [lA, ← hA, List.getD_eq_getElem?_getD, List.getElem?_append_right (by omega)]; simp
 have eB : B.getD 0 z57 = ⟨t, y⟩ := by rw [← hB]; rfl
 have hcL : ∀ x v, On c x v → x ≤ (t : Rat) → On A x v := by
  rw [← hA]
  refine cutL (m := ⟨t, y⟩) hi (fun p t' e => ?_) om
  have : px c 0 = p.f0 := by rw [e]; rfl
  show p.f0 < t
  omega
 have hcR : ∀ x v, On c x v → (t : Rat) ≤ x → On B x v := by
  rw [← hB]
  refine cutR (m := ⟨t, y⟩) hi (fun p t' e => ?_) om ⟨_, hne (c.length - 1) (by omega), h1⟩
  have : px c 0 = p.f0 := by rw [e]; rfl
  show p.f0 ≤ t
  omega
 rw [hA] at gA ⊢
 rw [hB] at gB ⊢
 have dx : px A (A.length - 1) - px B 0 = 0 := by unfold px; rw [eA, eB]; omega
 have dy : py A (A.length - 1) - py B 0 = 0 := by unfold py; rw [eA, eB]; omega
 have lJ := joinC_len (b := B) gA
 have hR : rightB (joinC A B) = true := by
  refine right_of fun i hi => ?_
  by_cases hil : i < A.length
  ·
   have e := joinC_l (b := B) gA hil
   rw [e.1, e.2]
   exact ⟨gA.bx i hil, gA.by_ i hil⟩
  ·
   obtain ⟨n, rfl⟩ : ∃ n, i = A.length - 1 + n := ⟨i - (A.length - 1), by omega⟩
   have e := joinC_r gA gB (i := n) (by omega)
   rw [dx, dy] at e
   rw [e.1, e.2, Int.add_zero, Int.add_zero]
   exact ⟨gB.bx n (by omega), gB.by_ n (by omega)⟩
 refine ⟨gA, gB, by omega, hR, fun hl => ?_⟩
 have gJ := joinC_good gA gB hl hR
 have dir : ∀ x v, On c x v → On (joinC A B) x v := fun x v o => by
  rcases Rat.le_total (a := x) (b := (t : Rat)) with e | e
  ·
   exact join_on_l gA (hcL x v o e)
  ·
   have := join_on_r gA gB (hcR x v o e)
   rw [dx, dy] at this
   have z : ((0 : Int) : Rat) = 0 := rfl
   rw [z, Rat.add_zero, Rat.add_zero] at this
   exact this
 refine ⟨gJ, fun x v => ⟨fun o => ?_, dir x v⟩⟩
 have a0 := (dir _ _ (on_point h.rising (i := 0) (by omega))).range gJ.rising
 have r := o.range gJ.rising
 -- the ranges are the same
 have j0 := joinC_l (b := B) gA (i := 0) (by omega)
 have j1 := joinC_r gA gB (i := B.length - 1) (by omega)
 rw [dx, show A.length - 1 + (B.length - 1) = (joinC A B).length - 1 by omega] at j1
 have b0 : px A 0 = px c 0 := by
  have m0 : A.getD 0 z57 ∈ c := by
   rw [← hA, List.getD_eq_getElem?_getD, List.getElem?_append_left (by omega), List.getElem?_eq_getElem (by omega)]
   exact (List.mem_filter.1 (List.getElem_mem _)).1
  have q := (onp _ m0).range h.rising
  have q1 := of_cast_le q.1
  have q2 := of_cast_le a0.1
  have e : px A 0 = (A.getD 0 z57).f0 := rfl
  omega
 have b1 : px B (B.length - 1) = px c (c.length - 1) := by
  have o := hcR _ _ (on_point h.rising (i := c.length - 1) (by omega)) (cast_le (Int.le_of_lt h1))
  have q := o.range gB.rising
  have q2 := of_cast_le q.2
  have m0 : B.getD (B.length - 1) z57 ∈ c := by
   rw [lB, ← hB, Nat.add_sub_cancel, List.getD_eq_getElem?_getD]
   obtain ⟨n, hn⟩ : ∃ n, (c.filter (gtB t)).length = n + 1 := ⟨(c.filter (gtB t)).length - 1, by omega⟩
   rw [hn, List.getElem?_cons_succ, List.getElem?_eq_getElem (by omega)]
   exact (List.mem_filter.1 (List.getElem_mem _)).1
  have q' := (onp _ m0).range h.rising
  have q3 := of_cast_le q'.2
  have e : px B (B.length - 1) = (B.getD (B.length - 1) z57).f0 := rfl
  omega
 rw [j0.1, j1.1, Int.add_zero, b0, b1] at r
 obtain ⟨w, ow⟩ := on_total h.rising r.1 r.2
 rw [On.unique gJ.rising o (dir _ _ ow)]
 exact ow
theorem val_graph {a b : List S57} (ha : Good a) (hb : Good b) (hg : ∀ x v, On a x v ↔ On b x v) (x : Int) : inB a x = inB b x ∧ (inB b x = true → valR a x = valR b x) := by
 have e := graph_ends ha hb hg
 have hi : inB a x = inB b x := by rw [Bool.eq_iff_iff, inB_iff ha, inB_iff hb, e.1, e.2.2]
 refine ⟨hi, fun hx => ?_⟩
 have r := (inB_iff hb).1 hx
 exact valR_eq ha ((hg _ _).2 (valR_on hb r.1 r.2))
theorem normal_same {c : List S57} (h : Good c) {d : List S57} (hd : Good d) (hg : ∀ x v, On d x v ↔ On c x v) : normC d = normC c := by
 obtain ⟨g1, s1, n1⟩ := norm_good h
 obtain ⟨g2, s2, n2⟩ := norm_good hd
 exact norm_eq g2 g1 s2 s1 fun x v => by rw [n2, n1]; exact hg x v
theorem same_refl (a : List S57) (hm : a.length ≤ 1000000) : Evn (fun k => ref_Same.f k a a) true := by
 obtain ⟨r, h, hr⟩ := same_ev a a hm
 rw [hr.2 rfl] at h
 exact h
def scaleOk (c : List S57) (kx ky : Int) : Prop := ((1 ≤ kx ∧ kx ≤ 16777216) ∧ (1 ≤ ky ∧ ky ≤ 16777216)) ∧ rightB (scaledC c kx ky) = true
theorem scale_cases {c : List S57} (h : Good c) (kx ky : Int) : (∃ e, e ≠ 0 ∧ curve_Scale.f c kx ky = some ([], e)) ∨ (scaleOk c kx ky ∧ curve_Scale.f c kx ky = some (scaledC c kx ky, 0)) := by
 unfold curve_Scale.f
 rw [if_pos (good_iff.2 h)]
 by_cases hc : okc kx = true ∧ okc ky = true ∧ kx ≠ 0 ∧ ky ≠ 0
 ·
  rw [if_pos hc]
  obtain ⟨h1, h2, h3, h4⟩ := hc
  simp only [okc, Bool.and_eq_true, decide_eq_true_eq] at h1 h2
  by_cases hr : rightB (scaledC c kx ky) = true
  ·
   rw [if_pos hr]; exact Or.inr ⟨⟨by omega, hr⟩, rfl⟩
  ·
   rw [if_neg hr]; exact Or.inl ⟨2, by omega, rfl⟩
 ·
  rw [if_neg hc]; exact Or.inl ⟨1, by omega, rfl⟩
theorem same_j7 {c : List S57} (h : Good c) {x kx ky : Int} (hx : inB c x = true) {l : List S57} {e : Int} (he : curve_Scale.f c kx ky = some (l, e)) :
  Evn (fun k => law_CurveSame.j7 k x kx ky e l (valR c x).num ((valR c x).den : Int)) true := by
 rcases scale_cases h kx ky with ⟨e', hne, he'⟩ | ⟨ok, he'⟩
 ·
  rw [he] at he'
  simp only [Option.some.injEq, Prod.mk.injEq] at he'
  refine Evn.step (Evn.of fun k => ?_)
  simp only [law_CurveSame.j7]
  rw [if_neg (by omega)]
 ·
  rw [he] at he'
  simp only [Option.some.injEq, Prod.mk.injEq] at he'
  obtain ⟨rfl, rfl⟩ := he'
  obtain ⟨⟨bx, by_⟩, hr⟩ := ok
  have hat := fun i hi => scaledC_at h bx by_ (i := i) hi
  have hz : Good (scaledC c kx ky) := aff_good (d := scaledC c kx ky) h (scaledC_len _ _ _) (kx := kx) (ky := ky) (dx := 0) (dy := 0) bx.1 by_.1 (fun i hi => by have := hat i hi; omega) hr
  have rx := (inB_iff h).1 hx
  have on := aff_on (d := scaledC c kx ky) (scaledC_len _ _ _) (kx := kx) (ky := ky) (dx := 0) (dy := 0) bx.1 (fun i hi => by have := hat i hi; omega) (valR_on h rx.1 rx.2)
  have z0 : ((0 : Int) : Rat) = 0 := rfl
  rw [z0, Rat.add_zero, Rat.add_zero, ← Rat.intCast_mul] at on
  have ev := valR_eq hz on
  have rz := on.range hz.rising
  have hxz : inB (scaledC c kx ky) (x * kx) = true := (inB_iff hz).2 ⟨of_cast_le rz.1, of_cast_le rz.2⟩
  have E := exact_in hz hxz
  have vz := val_bounds hz hxz
  have ry := on.range_y hz.rising
  rw [ev] at E vz
  obtain ⟨g, g0, g1, g2⟩ := scale_val (valR c x) ky (by omega)
  have va := val_bounds h hx
  have hl2 := h.len2
  have zb := hz.by_ ((scaledC c kx ky).length - 1) (by rw [scaledC_len]; omega)
  obtain ⟨r, hr'⟩ : ∃ r, valR c x = r := ⟨_, rfl⟩
  rw [hr'] at E vz ry g1 g2 va ⊢
  obtain ⟨t, ht⟩ : ∃ t, r * (ky : Rat) = t := ⟨_, rfl⟩
  rw [ht] at E vz ry g1 g2
  have b0 := h.bx 0 (by omega)
  have b1 := h.bx (c.length - 1) (by omega)
  have m0 := mulb (show 0 ≤ x by omega) (show x ≤ 16777216 by omega) (show 0 ≤ kx by omega) bx.2
  have w0 : wrap64 (x * kx) = x * kx := w64 (by omega) (by omega)
  have dg : Int.tmod (r.den : Int) (t.den : Int) = 0 := by rw [g1]; exact Int.mul_tmod_right _ _
  have qg : Int.tdiv (r.den : Int) (t.den : Int) = g := by rw [g1]; exact Int.mul_tdiv_cancel_left _ (by omega)
  have gb : g ≤ 16777216 := by
   have := Int.mul_le_mul_of_nonneg_right (show (1 : Int) ≤ (t.den : Int) by omega) (Int.le_of_lt g0)
   omega
  have tb : t.num ≤ 16777216 * (t.den : Int) := by
   have := (div_le_div_iff t.num t.den (py (scaledC c kx ky) ((scaledC c kx ky).length - 1)) 1 (den_pos t) (by omega)).1 (by rw [rat_eta]; have := ry.2; grind)
   have m := Int.mul_le_mul_of_nonneg_right zb.2 (Int.le_of_lt (den_pos t))
   omega
  have tg : t.num * g ≤ 16777216 * (r.den : Int) := by
   have := Int.mul_le_mul_of_nonneg_right tb (Int.le_of_lt g0)
   rw [g1, ← Int.mul_assoc]; exact this
  have tg0 : 0 ≤ t.num * g := Int.mul_nonneg vz.1 (Int.le_of_lt g0)
  have w1 : wrap64 g = g := w64 (by omega) (by omega)
  have w2 : wrap64 (t.num * g) = t.num * g := w64 (by omega) (by omega)
  have w3 : wrap64 (r.num * ky) = t.num * g := by rw [← g2]; exact w2
  refine Evn.step (Evn.ext (Evn.bind E (f := fun k bt526 => (if bt526.2.2 = 0 then (if bt526.2.1 < 1 then (law_CurveSame.j8 k true) else (if bt526.2.1 = 0 then (none) else (if (Int.tmod (r.den : Int) bt526.2.1) = 0 then (law_CurveSame.j8 k ((wrap64 (bt526.1 * (wrap64 (Int.tdiv (r.den : Int) bt526.2.1)))) != (wrap64 (r.num * ky)))) else (law_CurveSame.j8 k true)))) else (law_CurveSame.j8 k true))) ?_) fun k => ?_)
  ·
   refine Evn.step (Evn.of fun k => ?_)
   simp only [if_true]
   rw [if_neg (by omega), if_neg (by omega), if_pos dg, qg, w1, w2, w3]
   simp [law_CurveSame.j8]
  ·
   simp only [law_CurveSame.j7, if_true, w0]
theorem same_j5 {c : List S57} (h : Good c) {x dx dy kx ky : Int} (hx : inB c x = true) {l : List S57} {e : Int} (he : curve_Scale.f c kx ky = some (l, e)) {s : List S57} {es : Int}
  (hs : (s = movedC c dx dy ∧ es = 0 ∧ shiftOk c dx dy) ∨ es ≠ 0) :
  Evn (fun k => law_CurveSame.j5 k x dx dy kx ky es e s l false (valR c x).num ((valR c x).den : Int)) true := by
 have key := same_j7 h hx he
 rcases hs with ⟨rfl, rfl, ok⟩ | hne
 ·
  have hm := moved_good h ok
  have rx := (inB_iff h).1 hx
  have on := moved_on h ok (valR_on h rx.1 rx.2)
  rw [← Rat.intCast_add] at on
  have ev := valR_eq hm on
  have rm := on.range hm.rising
  have hxm : inB (movedC c dx dy) (x + dx) = true := (inB_iff hm).2 ⟨of_cast_le rm.1, of_cast_le rm.2⟩
  have E := exact_in hm hxm
  have nd := num_den_add (valR c x) dy
  rw [ev, nd.1, nd.2] at E
  have va := val_bounds h hx
  have hl2 := h.len2
  have b0 := h.bx 0 (by omega)
  have b1 := h.bx (c.length - 1) (by omega)
  obtain ⟨⟨o1, o2⟩, _⟩ := ok
  obtain ⟨r, hr⟩ : ∃ r, valR c x = r := ⟨_, rfl⟩
  rw [hr] at E va key ⊢
  have m1 := Int.mul_le_mul_of_nonneg_right o2.2 (Int.le_of_lt va.2.2.1)
  have m2 := Int.mul_le_mul_of_nonneg_right o2.1 (Int.le_of_lt va.2.2.1)
  have w0 : wrap64 (x + dx) = x + dx := w64 (by omega) (by omega)
  have w1 : wrap64 (dy * (r.den : Int)) = dy * (r.den : Int) := w64 (by omega) (by omega)
  have w2 : wrap64 (r.num + dy * (r.den : Int)) = r.num + dy * (r.den : Int) := w64 (by omega) (by omega)
  obtain ⟨k1, g1⟩ := E.fix
  obtain ⟨k2, g2⟩ := key.fix
  refine ⟨k1 + k2 + 2, fun k hk => ?_⟩
  obtain ⟨K, rfl⟩ : ∃ K, k = K + 2 := ⟨k - 2, by omega⟩
  have g1' := g1 K (by omega)
  have g2' := g2 K (by omega) 0
  rw [Nat.add_zero] at g2'
  show law_CurveSame.j5 (K + 2) x dx dy kx ky 0 e (movedC c dx dy) l false r.num (r.den : Int) = some true
  simp only [law_CurveSame.j5, if_true, w0, g1', Option.bind_some, w1, w2]
  rw [if_neg (by simp)]
  simp only [law_CurveSame.j6]
  simpa using g2'
 ·
  refine Evn.step (Evn.ext key fun k => ?_)
  simp only [law_CurveSame.j5]
  rw [if_neg (by simp), if_neg hne]
theorem same_j4 {c : List S57} (h : Good c) (x : Int) {dx dy kx ky : Int} {s : List S57} {es : Int}
  (hs : (s = movedC c dx dy ∧ es = 0 ∧ shiftOk c dx dy) ∨ es ≠ 0) : Evn (fun k => law_CurveSame.j4 k c x dx dy kx ky (normC c) es s) true := by
 have ex : ∃ l e, curve_Scale.f c kx ky = some (l, e) := by
  rcases scale_cases h kx ky with ⟨e', _, he'⟩ | ⟨_, he'⟩
  ·
   exact ⟨_, _, he'⟩
  ·
   exact ⟨_, _, he'⟩
 obtain ⟨l, e, he⟩ := ex
 obtain ⟨gN, sN, nN⟩ := norm_good h
 have vg := val_graph gN h nN x
 cases hx : inB c x with
 | false =>
  refine Evn.step (Evn.of fun k => ?_)
  simp only [law_CurveSame.j4, he, Option.bind_some, in_eq h, hx]
  rfl
 | true =>
  have E1 := exact_in h hx
  have E2 := exact_in gN (x := x) (by rw [vg.1]; exact hx)
  rw [vg.2 hx] at E2
  have va := val_bounds h hx
  obtain ⟨k1, g1⟩ := E1.fix
  obtain ⟨k2, g2⟩ := E2.fix
  obtain ⟨k3, g3⟩ := (same_j5 h hx he hs).fix
  refine ⟨k1 + k2 + k3 + 1, fun k hk => ?_⟩
  obtain ⟨K, rfl⟩ : ∃ K, k = K + 1 := ⟨k - 1, by omega⟩
  have g1' := g1 K (by omega) 0
  have g2' := g2 K (by omega) 0
  have g3' := g3 K (by omega) 0
  rw [Nat.add_zero] at g1' g2' g3'
  show law_CurveSame.j4 (K + 1) c x dx dy kx ky (normC c) es s = some true
  simp only [law_CurveSame.j4, he, Option.bind_some, in_eq h, hx, if_true, g1', g2', beq_self_eq_true, Bool.not_true, Bool.or_self]
  rw [if_neg (by simp), if_neg (by omega), decide_eq_false (by omega)]
  exact g3'
theorem same_j2 {c : List S57} (h : Good c) (x dx dy kx ky : Int) : Evn (fun k => law_CurveSame.j2 k c x dx dy kx ky (normC c)) true := by
 by_cases ok : shiftOk c dx dy
 ·
  have hm := moved_good h ok
  obtain ⟨ob, eb⟩ := moved_back h ok
  have S1 := shift_yes h ok
  have S2 := shift_yes hm ob
  rw [eb] at S2
  have R := same_refl c (by have := h.len64; omega)
  have w1 : wrap64 (-dx) = -dx := w64 (by have := ok.1.1; omega) (by have := ok.1.1; omega)
  have w2 : wrap64 (-dy) = -dy := w64 (by have := ok.1.2; omega) (by have := ok.1.2; omega)
  have key := same_j4 h x (kx := kx) (ky := ky) (s := movedC c dx dy) (es := 0) (Or.inl ⟨rfl, rfl, ok⟩)
  obtain ⟨k1, g1⟩ := S1.fix
  obtain ⟨k2, g2⟩ := S2.fix
  obtain ⟨k3, g3⟩ := R.fix
  obtain ⟨k4, g4⟩ := key.fix
  refine ⟨k1 + k2 + k3 + k4 + 2, fun k hk => ?_⟩
  obtain ⟨K, rfl⟩ : ∃ K, k = K + 2 := ⟨k - 2, by omega⟩
  have g1' := g1 K (by omega)
  have g2' := g2 K (by omega)
  have g3' := g3 K (by omega)
  have g4' := g4 K (by omega) 0
  rw [Nat.add_zero] at g4'
  show law_CurveSame.j2 (K + 2) c x dx dy kx ky (normC c) = some true
  simp only [law_CurveSame.j2, g1', Option.bind_some, if_true, w1, w2, g2', g3', Bool.not_true]
  simp only [law_CurveSame.j3]
  rw [if_neg (by simp)]
  exact g4'
 ·
  have S1 := shift_no h ok
  have key := same_j4 h x (dx := dx) (dy := dy) (kx := kx) (ky := ky) (s := []) (es := 2) (Or.inr (by omega))
  obtain ⟨k1, g1⟩ := S1.fix
  obtain ⟨k4, g4⟩ := key.fix
  refine ⟨k1 + k4 + 1, fun k hk => ?_⟩
  obtain ⟨K, rfl⟩ : ∃ K, k = K + 1 := ⟨k - 1, by omega⟩
  have g1' := g1 K (by omega) 0
  have g4' := g4 K (by omega) 0
  rw [Nat.add_zero] at g1' g4'
  show law_CurveSame.j2 (K + 1) c x dx dy kx ky (normC c) = some true
  simp only [law_CurveSame.j2, g1', Option.bind_some]
  rw [if_neg (by omega)]
  exact g4'
theorem normal_ok {c : List S57} (h : Good c) : curve_Normal.f c = some (normC c, 0) := by
 unfold curve_Normal.f; rw [if_pos (good_iff.2 h)]
theorem same_j0 {c : List S57} (h : Good c) (t x dx dy kx ky : Int) : Evn (fun k => law_CurveSame.j0 k c t x dx dy kx ky (normC c) false) true := by
 have key := same_j2 h x dx dy kx ky
 have h64 := h.len64
 rcases cut_cases h (px c 0) t with ⟨e1, n1, c1⟩ | ⟨i0, i1, lt1, u1, v1, q1, q2, c1⟩
 ·
  refine Evn.step (Evn.ext key fun k => ?_)
  simp only [law_CurveSame.j0, from_eq h, Option.bind_some, c1]
  rw [if_neg (by simp), if_neg n1]
 ·
  rcases cut_cases h t (px c (c.length - 1)) with ⟨e2, n2, c2⟩ | ⟨i2, i3, lt2, u2, v2, q3, q4, c2⟩
  ·
   refine Evn.step (Evn.ext key fun k => ?_)
   simp only [law_CurveSame.j0, from_eq h, to_eq h, Option.bind_some, c1, c2, if_true]
   rw [if_neg (by simp), if_neg n2]
  ·
   have huv : u2 = v1 := by rw [q2] at q3; exact (Rat.intCast_inj.1 q3).symm
   subst huv
   rw [part_left h lt1 q1] at c1
   rw [part_right h lt2 q4] at c2
   obtain ⟨gA, gB, hl, hR, hJ⟩ := parts h lt1 lt2 q2
   obtain ⟨A, hA⟩ : ∃ A, c.filter (ltB t) ++ [⟨t, u2⟩] = A := ⟨_, rfl⟩
   obtain ⟨B, hB⟩ : ∃ B, (⟨t, u2⟩ : S57) :: c.filter (gtB t) = B := ⟨_, rfl⟩
   rw [hA] at c1 gA hl hR hJ
   rw [hB] at c2 gB hl hR hJ
   have eJ : curve_Join.f A B = some (if (joinC A B).length ≤ 64 ∧ rightB (joinC A B) = true then (joinC A B, 0) else ([], 2)) := by
    unfold curve_Join.f; rw [if_pos ⟨good_iff.2 gA, good_iff.2 gB⟩]
   by_cases hl64 : (joinC A B).length ≤ 64
   ·
    rw [if_pos ⟨hl64, hR⟩] at eJ
    obtain ⟨gJ, nJ⟩ := hJ hl64
    have eN := normal_same h gJ nJ
    have R := same_refl (normC c) (by have := (norm_good h).1.len64; omega)
    obtain ⟨k1, g1⟩ := R.fix
    obtain ⟨k2, g2⟩ := key.fix
    refine ⟨k1 + k2 + 2, fun k hk => ?_⟩
    obtain ⟨K, rfl⟩ : ∃ K, k = K + 2 := ⟨k - 2, by omega⟩
    have g1' := g1 K (by omega)
    have g2' := g2 K (by omega) 0
    rw [Nat.add_zero] at g2'
    show law_CurveSame.j0 (K + 2) c t x dx dy kx ky (normC c) false = some true
    simp only [law_CurveSame.j0, from_eq h, to_eq h, Option.bind_some, c1, c2, if_true, eJ, normal_ok gJ, eN, g1', Bool.not_true]
    rw [if_neg (by simp), if_neg (by omega)]
    simp only [law_CurveSame.j1]
    rw [if_neg (by simp)]
    exact g2'
   ·
    rw [if_neg (fun hh => hl64 hh.1)] at eJ
    have eE : curve_Normal.f [] = some ([], 10) := rfl
    have hc : (c.length : Int) = 64 := by omega
    refine Evn.step (Evn.of fun k => ?_)
    simp only [law_CurveSame.j0, from_eq h, to_eq h, Option.bind_some, c1, c2, if_true, eJ, eE]
    rw [if_neg (by simp), hc]
    rfl
theorem same_true (c : List S57) (t x dx dy kx ky : Int) : ∃ k, law_CurveSame.f k c t x dx dy kx ky = some true := by
 obtain ⟨k1, h1⟩ := (valid_ev c).fix
 cases hg : goodB c with
 | false =>
  have h1' := h1 k1 (Nat.le_refl _) 0
  rw [hg, Nat.add_zero] at h1'
  exact ⟨k1, by simp [law_CurveSame.f, law_sane.f, h1']⟩
 | true =>
  have h := good_of hg
  obtain ⟨gN, sN, nN⟩ := norm_good h
  have eN : normC (normC c) = normC c := normal_same h gN nN
  have R := same_refl (normC c) (by have := gN.len64; omega)
  obtain ⟨k2, h2⟩ := R.fix
  obtain ⟨k3, h3⟩ := (same_j0 h t x dx dy kx ky).fix
  refine ⟨k1 + k2 + k3, ?_⟩
  have h1' := h1 (k1 + k2 + k3) (by omega) 0
  have h2' := h2 (k1 + k2 + k3) (by omega) 0
  have h3' := h3 (k1 + k2 + k3) (by omega) 0
  rw [hg] at h1'
  rw [Nat.add_zero] at h1' h2' h3'
  unfold law_CurveSame.f
  rw [show law_sane.f = some true from rfl, Option.bind_some, if_pos rfl, h1', Option.bind_some, if_pos rfl, normal_ok h, Option.bind_some, normal_ok gN, Option.bind_some, if_pos rfl, if_pos rfl, eN, h2', Option.bind_some]
  exact h3'
end Go.Proofs.YtlhhpogaaneamaaDoor.X
