/- The law DistStep is true of every input, and its arguments read behind the call as before: the row, over the printed walk and the plain law. -/
import Derived.Test.YtlljpjbhndcaiaaSb4
set_option linter.unusedVariables false
set_option linter.unusedSimpArgs false
set_option linter.unusedSectionVars false
section
namespace Go.Proofs.Ytlljpjbhndcaiaa.Q
open Go.RowKit Go.Proofs.YtlljpjbhndcaiaaW.PrintWords Go.Proofs.YtlljpjbhndcaiaaW.PrintLast Go.Proofs.YtlljpjbhndcaiaaW.PrintMore
attribute [local go_sem] max2_int min2_int max_two min_two max_three min_three max_four min_four
set_option linter.unusedVariables false
set_option linter.unusedSimpArgs false
def punchcutlaw08_DistStep.f (k : Nat) (l0 : List (List S133)) (a1 a2_0 a2_1 a3 a4 : Int) : Option Bool :=
  (punchcutlaw08_awake.f k).bind fun aw => if aw = true then (punchcutlaw06_Glyph.f k l0).bind fun es => (punchcutlaw07_Spot.f es a1 a2_0 a2_1).bind fun s =>
    (dist_Eight.f k es (wrap64 (s.1.tdiv 2)) (wrap64 (s.2.tdiv 2))).bind fun x => (dist_Eight.f k es (wrap64 (wrap64 (s.1.tdiv 2) + wrap64 a3)) (wrap64 (wrap64 (s.2.tdiv 2) + wrap64 a4))).bind fun y =>
    (root_Sqrt.f k (wrap64 (64 * wrap64 (wrap64 (wrap64 a3 * wrap64 a3) + wrap64 (wrap64 a4 * wrap64 a4))))).bind fun q =>
    if wrap64 (x - y) ≤ wrap64 (q + 2) ∧ wrap64 (y - x) ≤ wrap64 (q + 2) then some true else none
  else none
set_option maxHeartbeats 4000000 in
set_option maxRecDepth 100000 in
theorem punchcutlaw08_DistStep.calls (k : Nat) (A0 : Option Addr) (c0 : Nat) (l0 : List (List S133)) (a1 a2_0 a2_1 a3 a4 : Int) (r : Bool) (w : World) (hr0 : Kd.C (Kd.slice 133 k133) w A0 l0.length l0) (hc0 : l0.length ≤ c0) (h : punchcutlaw08_DistStep.f k l0 a1 a2_0 a2_1 a3 a4 = some r) :
    Calls Try.prog 4 #[.slice A0 l0.length c0, .int .u16 a1, .agg #[.int .i16 a2_0, .int .i16 a2_1], .int .i8 a3, .int .i8 a4] w fun e w' => e = .returned (.bool r) ∧ Below w.heap.size w w' := by
  unfold punchcutlaw08_DistStep.f at h
  obtain ⟨aw, haw, h1⟩ := Option.bind_eq_some_iff.mp h
  clear h
  split at h1
  case isFalse => cases h1
  rename_i hT
  subst hT
  obtain ⟨es, hes, h2⟩ := Option.bind_eq_some_iff.mp h1
  obtain ⟨⟨s1, s2⟩, hs, h3⟩ := Option.bind_eq_some_iff.mp h2
  obtain ⟨x, hx, h4⟩ := Option.bind_eq_some_iff.mp h3
  obtain ⟨y, hy, h5⟩ := Option.bind_eq_some_iff.mp h4
  obtain ⟨q, hq, h6⟩ := Option.bind_eq_some_iff.mp h5
  clear h1 h2 h3 h4 h5
  split at h6
  case isFalse => cases h6
  rename_i hall
  obtain rfl := Option.some.inj h6
  have HAW := Aside0.mk haw; have HES := Aside0.mk hes; have HS := Aside0.mk hs; have HX := Aside0.mk hx; have HY := Aside0.mk hy; have HQ := Aside0.mk hq; have HR0 := Aside0.mk hr0
  have hl1 := decide_eq_true hall.1; have hl2 := decide_eq_true hall.2
  clear haw hes hs hx hy hq h6 hall hr0
  go_enter Try.func4, Try.ntmps4
  go_wp2_with fail
  refine (punchcutlaw08_awake.calls k _ _ HAW.out).mono ?_
  rintro e w1 ⟨rfl, hb⟩
  have HB1 := Aside0.mk (bstep (balloc (Below.refl w.heap.size w) (.cells #[.int .i16 a2_0, .int .i16 a2_1] 26)) hb)
  have P1 := Aside0.mk ((hb.block _ (by simp)).trans (hnew w (.cells #[.int .i16 a2_0, .int .i16 a2_1] 26) rfl))
  clear hb
  go_wp2_with fail
  refine (glyph_at k _ _ l0 es w w1 HR0.out hc0 HB1.out HES.out).mono ?_
  rintro e w2 ⟨A, c, rfl, ho, hb⟩
  have HO2 := Aside0.mk ho
  have HB2 := Aside0.mk (bstep HB1.out hb)
  have P2 := Aside0.mk ((hb.block _ (Array.getElem?_eq_some_iff.1 P1.out).1).trans P1.out)
  clear hb ho P1
  obtain ⟨p0, p1, _, _⟩ := cells2 P2.out
  go_wp2_with fail
  refine (punchcutlaw07_Spot.calls _ _ es _ _ _ _ _ _ (rC HO2.out).1 (rC HO2.out).2 HS.out).mono ?_
  rintro e w3 ⟨rfl, hb⟩
  have hb1 := hb.size
  obtain ⟨W4, hW4⟩ : ∃ W4 : World, W4 = (w3.alloc (.cells #[.int .i64 (wrap64 (s1.tdiv 2)), .int .i64 (wrap64 (s2.tdiv 2))] 32)).alloc (.cells #[.int .i64 (wrap64 (wrap64 (s1.tdiv 2) + wrap64 a3)), .int .i64 (wrap64 (wrap64 (s2.tdiv 2) + wrap64 a4))] 32) := ⟨_, rfl⟩
  have HB4 : Aside0 (Below w.heap.size w W4) := ⟨by rw [hW4]; exact balloc (balloc (bstep HB2.out hb) _) _⟩
  have HO4 : Aside0 (Kd.R k40 40 W4 w.heap.size (fun _ => True) (.slice A es.length c) es) := ⟨by rw [hW4]; exact Kd.R_below (Kd.R_below (Kd.R_below HO2.out hb) (balloc (Below.refl _ _) _)) (balloc (Below.refl _ _) _)⟩
  have G4 : Aside0 (W4.heap[w3.heap.size]? = some (.cells #[.int .i64 (wrap64 (s1.tdiv 2)), .int .i64 (wrap64 (s2.tdiv 2))] 32 (0, 0))) := ⟨by rw [hW4]; exact halloc (hnew _ _ rfl) _⟩
  have G5 : Aside0 (W4.heap[w3.heap.size + 1]? = some (.cells #[.int .i64 (wrap64 (wrap64 (s1.tdiv 2) + wrap64 a3)), .int .i64 (wrap64 (wrap64 (s2.tdiv 2) + wrap64 a4))] 32 (0, 0))) := ⟨by rw [hW4]; exact hnew _ _ (by simp)⟩
  clear p0 p1 P2 hb
  go_upto_region 7 with fail
  rw [← hW4]
  clear hW4
  obtain ⟨c1, c2, _, _⟩ := cells2 G4.out
  obtain ⟨d1, d2, _, _⟩ := cells2 G5.out
  have hs1 := (Array.getElem?_eq_some_iff.1 G4.out).1
  have hs2 := (Array.getElem?_eq_some_iff.1 G5.out).1
  go_cut [14, 15] (fun s14 s15 W => s14 = .int .i64 x ∧ s15 = .int .i64 y ∧ Below W4.heap.size W4 W)
  case first =>
    have KS := Aside0.mk (show ∀ W : World, Below W4.heap.size W4 W → (W.cell? ⟨w3.heap.size, 0, none⟩ = some (.int .i64 (wrap64 (s1.tdiv 2))) ∧ W.cell? ⟨w3.heap.size, 1, none⟩ = some (.int .i64 (wrap64 (s2.tdiv 2))) ∧ W.cell? ⟨w3.heap.size + 1, 0, none⟩ = some (.int .i64 (wrap64 (wrap64 (s1.tdiv 2) + wrap64 a3))) ∧ W.cell? ⟨w3.heap.size + 1, 1, none⟩ = some (.int .i64 (wrap64 (wrap64 (s2.tdiv 2) + wrap64 a4)))) ∧ Below W4.heap.size W4 W from fun W h =>
      ⟨⟨((bcell h).1 _ _ hs1).trans c1, ((bcell h).1 _ _ hs1).trans c2, ((bcell h).1 _ _ hs2).trans d1, ((bcell h).1 _ _ hs2).trans d2⟩, h⟩)
    go_region_held3 (fun W => (W.cell? ⟨w3.heap.size, 0, none⟩ = some (.int .i64 (wrap64 (s1.tdiv 2))) ∧ W.cell? ⟨w3.heap.size, 1, none⟩ = some (.int .i64 (wrap64 (s2.tdiv 2))) ∧ W.cell? ⟨w3.heap.size + 1, 0, none⟩ = some (.int .i64 (wrap64 (wrap64 (s1.tdiv 2) + wrap64 a3))) ∧ W.cell? ⟨w3.heap.size + 1, 1, none⟩ = some (.int .i64 (wrap64 (wrap64 (s2.tdiv 2) + wrap64 a4)))) ∧ Below W4.heap.size W4 W)
      (first
        | exact KS.out _ (bdrew (Below.refl _ _))
        | (go_split_ands; refine KS.out _ ?_; (repeat (first | assumption | exact Below.refl _ _ | with_reducible refine bdrew ?_ | refine bstep ?_ (by assumption))); done))
      (first
        | (go_at_call 26; with_reducible refine (dist_Eight.calls k A c es (wrap64 (s1.tdiv 2)) (wrap64 (s2.tdiv 2)) x _ ?_ (rC HO4.out).2 HX.out).mono ?_; (go_split_ands; exact Kd.C_below (rC HO4.out).1 (by first | assumption | exact bdrew (Below.refl _ _))); rintro e w' ⟨rfl, hb⟩)
        | (go_at_call 26; with_reducible refine (dist_Eight.calls k A c es (wrap64 (wrap64 (s1.tdiv 2) + wrap64 a3)) (wrap64 (wrap64 (s2.tdiv 2) + wrap64 a4)) y _ ?_ (rC HO4.out).2 HY.out).mono ?_; (go_split_ands; exact Kd.C_below (rC HO4.out).1 (by first | assumption | exact bdrew (Below.refl _ _))); rintro e w' ⟨rfl, hb⟩))
    all_goals
      go_wp2_with fail
      go_meet
      go_split_ands
      exact ⟨rfl, rfl, by assumption⟩
  case rest =>
    obtain ⟨rfl, rfl, HB5⟩ := hcut
    have HB6 := Aside0.mk (bstep HB4.out HB5)
    clear HB5 c1 c2 d1 d2
    go_wp2_with fail
    refine (root_Sqrt.calls k _ _ _ HQ.out).mono ?_
    rintro e w6 ⟨rfl, hb⟩
    have hs6 := hb
    go_wp2_with fail
    go_ret
    exact ⟨rfl, bstep HB6.out (hb.below)⟩
end Go.Proofs.Ytlljpjbhndcaiaa.Q
end
section
set_option linter.unusedVariables false
set_option linter.unusedSimpArgs false
namespace Go.Proofs.Ytlljpjbhndcaiaa.M
open Go.RowKit Go.Proofs.Ytlljpjbhndcaiaa.Q Go.Proofs.YtlljpjbhndcaiaaW.PrintWords Go.Proofs.YtlljpjbhndcaiaaW.PrintLast Go.Proofs.YtlljpjbhndcaiaaW.PrintMore Go.Proofs.Ytlljpjbhndcaiaa.Geo
theorem tdiv2 {x : Int} (h0 : -32768 ≤ x) (h1 : x ≤ 32767) : wrap64 (Int.tdiv x 2) = Int.tdiv x 2 ∧ -16384 ≤ Int.tdiv x 2 ∧ Int.tdiv x 2 ≤ 16384 := by
  have h : Int.tdiv x 2 = x / 2 ∨ Int.tdiv x 2 = -(-x / 2) := by
    by_cases h0 : 0 ≤ x
    · exact .inl (Int.tdiv_eq_ediv_of_nonneg h0)
    · right
      have := Int.neg_tdiv x 2
      have h2 := Int.tdiv_eq_ediv_of_nonneg (a := -x) (b := 2) (by omega)
      omega
  rcases h with h | h
  · rw [h]; exact ⟨w64 (by omega) (by omega), by omega, by omega⟩
  · rw [h]; exact ⟨w64 (by omega) (by omega), by omega, by omega⟩
theorem sq_i8 {d : Int} (h : -128 ≤ d ∧ d ≤ 127) : 0 ≤ d * d ∧ d * d ≤ 16384 := by
  refine ⟨sq_nonneg d, ?_⟩
  by_cases h0 : 0 ≤ d
  · have := sq_le h0 (show d ≤ 128 by omega); omega
  · have := sq_le (a := -d) (b := 128) (by omega) (by omega)
    rw [Int.neg_mul_neg] at this
    omega
theorem DistStep (l0 : List (List S133)) (a1 a2_0 a2_1 a3 a4 : Int) (h1 : (Lit.int .u16 a1).wf = true) (h2 : (Lit.int .i16 a2_0).wf = true) (h3 : (Lit.int .i16 a2_1).wf = true) (h4 : (Lit.int .i8 a3).wf = true) (h5 : (Lit.int .i8 a4).wf = true) :
    ∃ k, punchcutlaw08_DistStep.f k l0 a1 a2_0 a2_1 a3 a4 = some true := by
  refine Ret.of ?_
  obtain ⟨es, he, hg⟩ := glyph_eq l0
  obtain ⟨p, hp, px, py⟩ := spot_eq es he.small (by have := he.few; omega) h1 h2 h3
  have b4 := wf_i8 h4
  have b5 := wf_i8 h5
  obtain ⟨x1, x2, x3⟩ := tdiv2 px.1 px.2
  obtain ⟨y1, y2, y3⟩ := tdiv2 py.1 py.2
  have s4 := sq_i8 b4
  have s5 := sq_i8 b5
  unfold punchcutlaw08_DistStep.f
  refine Ret.bind awake08_eq ?_
  simp only [if_true]
  refine Ret.bind hg ?_
  rw [hp]
  refine Ret.bind (Ret.const rfl) ?_
  simp only [x1, y1, w64 (n := a3) (by omega) (by omega), w64 (n := a4) (by omega) (by omega)]
  rw [w64 (n := p.x.tdiv 2 + a3) (by omega) (by omega), w64 (n := p.y.tdiv 2 + a4) (by omega) (by omega), w64 (n := a3 * a3) (by omega) (by omega), w64 (n := a4 * a4) (by omega) (by omega), w64 (n := a3 * a3 + a4 * a4) (by omega) (by omega), w64 (n := 64 * (a3 * a3 + a4 * a4)) (by omega) (by omega)]
  obtain ⟨q, q0, q1, q2, hq⟩ := sqrt_eq (64 * (a3 * a3 + a4 * a4)) (by omega) (by omega)
  have q3 : q ≤ 3037000500 := by
    by_cases hh : q ≤ 3037000500
    · exact hh
    · have := sq_le (a := 3037000500) (b := q) (by omega) (by omega); omega
  have hA : PtIn ⟨p.x.tdiv 2, p.y.tdiv 2⟩ := ⟨by unfold Mid; simp only; omega, by unfold Mid; simp only; omega⟩
  have hB : PtIn ⟨p.x.tdiv 2 + a3, p.y.tdiv 2 + a4⟩ := ⟨by unfold Mid; simp only; omega, by unfold Mid; simp only; omega⟩
  by_cases h : es = []
  · subst h
    refine Ret.bind (eight_nil ⟨p.x.tdiv 2, p.y.tdiv 2⟩) (Ret.bind (eight_nil ⟨p.x.tdiv 2 + a3, p.y.tdiv 2 + a4⟩) (Ret.bind hq (Ret.const ?_)))
    rw [w64 (n := q + 2) (by omega) (by omega), w64 (n := -1 - -1) (by omega) (by omega), if_pos (by omega)]
  · obtain ⟨x, hx, hrx⟩ := eight_eq es ⟨p.x.tdiv 2, p.y.tdiv 2⟩ he.small hA (few he (by omega)) h
    obtain ⟨y, hy, hry⟩ := eight_eq es ⟨p.x.tdiv 2 + a3, p.y.tdiv 2 + a4⟩ he.small hB (few he (by omega)) h
    have e1 : 64 * dist2 ⟨p.x.tdiv 2 + a3, p.y.tdiv 2 + a4⟩ ⟨p.x.tdiv 2, p.y.tdiv 2⟩ < (q + 1) * (q + 1) := by
      have : dist2 ⟨p.x.tdiv 2 + a3, p.y.tdiv 2 + a4⟩ ⟨p.x.tdiv 2, p.y.tdiv 2⟩ = a3 * a3 + a4 * a4 := by unfold dist2; grind
      rw [this]; exact q2
    have e2 : 64 * dist2 ⟨p.x.tdiv 2, p.y.tdiv 2⟩ ⟨p.x.tdiv 2 + a3, p.y.tdiv 2 + a4⟩ < (q + 1) * (q + 1) := by
      have : dist2 ⟨p.x.tdiv 2, p.y.tdiv 2⟩ ⟨p.x.tdiv 2 + a3, p.y.tdiv 2 + a4⟩ = a3 * a3 + a4 * a4 := by unfold dist2; grind
      rw [this]; exact q2
    have k1 := eight_step hx hy (by omega) e1
    have k2 := eight_step hy hx (by omega) e2
    have bx := eight_top hx h he.small hA
    have byy := eight_top hy h he.small hB
    have x0 := hx.1
    have y0 := hy.1
    refine Ret.bind hrx (Ret.bind hry (Ret.bind hq (Ret.const ?_)))
    rw [w64 (n := q + 2) (by omega) (by omega), w64 (n := x - y) (by omega) (by omega), w64 (n := y - x) (by omega) (by omega), if_pos (by omega)]
end Go.Proofs.Ytlljpjbhndcaiaa.M
end
section
set_option linter.unusedVariables false
set_option linter.unusedSimpArgs false
namespace Go.Proofs.Ytlljpjbhndcaiaa.distStep
open Go.ChangeShapes Go.WideShapes Go.ChangeAt Go.RowKit
open Go.Proofs.Ytlljpjbhndcaiaa.Rw (laidOut own open_dots open_spec open_grid open_place)
set_option maxRecDepth 100000 in
theorem lifted (os : Os) (started : os.Started) (H : Type) (enc : TypeId × Value → H) :
    ReturnsInHanded {} Try.checked os 4 .any (Rows.distStepSpec.pre6 enc Try.prog Try.f4 Rows.distStepRow.domain false) (Rows.distStepSpec.post enc Try.prog Try.f4 false true false false) := by
  refine returnsInHanded_of_change_sized (C := Try.checked) own started (by kernel_rfl) Try.func4
    (ChangeSpec.witness6 (enc := enc) (C := Try.checked) false ⟨#[], #[.slice none 0 0, .int .u16 0, .agg #[.int .i16 0, .int .i16 0], .int .i8 0, .int .i8 0], []⟩ 8 (by kernel_rfl) (by kernel_rfl) (by kernel_rfl) (by kernel_rfl)) ?_
  intro W base args ds gs before hval0 hW hcnd hsz0 _
  have hval : ∀ (j : Nat) t v, Try.f4.params[j]? = some t → args[j]? = some v → Value.okWide Try.prog W .any base t v := hval0
  have hW' := hW
  obtain ⟨p, q, hA0, hV, rfl, hfz, hnd⟩ := hW
  have hA : DataW.TrodAll enc Try.prog W 0 (fun _ => true) true Try.f4.params.toList args.toList ds p := hA0
  rw [Try.params4] at hA hval
  obtain ⟨v0, vs0, d0, ds0, p0, q0, hargs, rfl, rfl, h0, r0⟩ := trodAll_cons hA
  obtain ⟨v1, vs1, d1, ds1, p1, q1, rfl, rfl, rfl, h1, r1⟩ := trodAll_cons r0
  obtain ⟨v2, vs2, d2, ds2, p2, q2, rfl, rfl, rfl, h2, r2⟩ := trodAll_cons r1
  obtain ⟨v3, vs3, d3, ds3, p3, q3, rfl, rfl, rfl, h3, r3⟩ := trodAll_cons r2
  obtain ⟨v4, vs4, d4, ds4, p4, q4, rfl, rfl, rfl, h4, r4⟩ := trodAll_cons r3
  obtain ⟨rfl, rfl, rfl⟩ := trodAll_nil r4
  obtain rfl : args = #[v0, v1, v2, v3, v4] := by cases args; simp_all
  obtain ⟨rfl, rfl⟩ := trodVars_none hV
  have k0 := h0
  have lt0 : ∀ x ∈ p0, x.block < W.heap.size := by obtain ⟨m, hm⟩ := k0; exact DataW.trod_lt m _ _ _ hm
  obtain ⟨A0, l0, c0, rfl, hc0, hr0⟩ := open_dots (hval 0 22 v0 rfl rfl) h0
  obtain ⟨a1, rfl, rfl, rfl, w1⟩ := open_int Try.underlying23 (hval 1 23 v1 rfl rfl) h1
  have k2 := h2
  have lt2 : ∀ x ∈ p2, x.block < W.heap.size := by obtain ⟨m, hm⟩ := k2; exact DataW.trod_lt m _ _ _ hm
  obtain ⟨a2_0, a2_1, rfl, w2_0, w2_1⟩ := open_place (hval 2 26 v2 rfl rfl) h2
  obtain ⟨a3, rfl, rfl, rfl, w3⟩ := open_int Try.underlying44 (hval 3 44 v3 rfl rfl) h3
  obtain ⟨a4, rfl, rfl, rfl, w4⟩ := open_int Try.underlying44 (hval 4 44 v4 rfl rfl) h4
  clear hA0 hval0 hsz0
  obtain ⟨k, hk⟩ := M.DistStep l0 a1 a2_0 a2_1 a3 a4 w1 w2_0 w2_1 w3 w4
  refine (Q.punchcutlaw08_DistStep.calls k A0 c0 l0 a1 a2_0 a2_1 a3 a4 true W hr0 hc0 hk).mono fun e W' ⟨he, bel⟩ => ?_
  subst he
  exact ⟨_, rfl, _, _, _, [], _, [], hW', trodAll_mk1 (shut_bool Try.underlying4 _), (trodAll_cons_mk (Below.trod laidOut (by kernel_rfl) (of_decide_eq_true (by kernel_rfl)) k0 bel lt0) (trodAll_cons_mk (shut_int Try.underlying23 w1) (trodAll_cons_mk (Below.trod laidOut (by kernel_rfl) (of_decide_eq_true (by kernel_rfl)) k2 bel lt2) (trodAll_cons_mk (shut_int Try.underlying44 w3) (trodAll_cons_mk (shut_int Try.underlying44 w4) trodAll_mk0))))), rfl, bel.frame _, fun h => by cases h⟩
theorem over : Rows.distStepRow.holds Try.pinned (OpenSpec.ofChange Rows.distStepSpec) :=
  OpenClaim.holds_of_wide 4 Try.f4 rfl rfl rfl rfl rfl rfl rfl ⟨rfl, rfl, rfl, rfl, rfl⟩ rfl rfl rfl rfl rfl (by kernel_rfl) Try.func4 (by kernel_rfl)
    (of_decide_eq_true (by kernel_rfl)) (by unfold Func.isWrapper; first | (rw [if_pos (by decide +kernel)]; kernel_rfl) | (rw [if_neg (by decide +kernel)]; exact ⟨rfl, rfl⟩))
    (fun os started H enc _ => lifted os started H enc)
theorem proved : Rows.DistStepSaid := over
#print axioms proved
end Go.Proofs.Ytlljpjbhndcaiaa.distStep
namespace Go.Proofs.Ytlljpjbhndcaiaa
theorem distStep_holds : Rows.DistStepSaid := distStep.proved
end Go.Proofs.Ytlljpjbhndcaiaa
end
