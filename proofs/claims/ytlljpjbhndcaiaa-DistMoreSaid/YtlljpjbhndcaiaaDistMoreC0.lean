/- The law DistMore is true of every input, and its arguments read behind the call as before: the row, over the printed walk and the plain law. -/
import Derived.Test.YtlljpjbhndcaiaaSb4
set_option linter.unusedVariables false
set_option linter.unusedSimpArgs false
set_option linter.unusedSectionVars false
section
namespace Go.Proofs.Ytlljpjbhndcaiaa.Q
open Go.RowKit Go.Proofs.YtlljpjbhndcaiaaW.PrintWords Go.Proofs.YtlljpjbhndcaiaaW.PrintLast Go.Proofs.YtlljpjbhndcaiaaW.PrintMore
attribute [local go_sem] max2_int min2_int max_two min_two max_three min_three max_four min_four
set_option linter.unusedVariables false
set_option linter.unusedSimpArgs false
def more_want (i j : Int) : Int := if i < 0 ∨ j < 0 then (if i < j then j else i) else (if j < i then j else i)
def punchcutlaw08_DistMore.f (k : Nat) (l0 l1 : List (List S133)) (a2 a3_0 a3_1 : Int) : Option Bool :=
  (punchcutlaw08_awake.f k).bind fun aw => if aw = true then (punchcutlaw06_Glyph.f k l0).bind fun a => (punchcutlaw06_Glyph.f k l1).bind fun b => (punchcutlaw07_Spot.f a a2 a3_0 a3_1).bind fun s =>
    (dist_Eight.f k a s.1 s.2).bind fun i => (dist_Eight.f k b s.1 s.2).bind fun j => (dist_Eight.f k (a ++ b) s.1 s.2).bind fun q =>
    if (a.length ≤ 1000000 ∧ b.length ≤ 1000000) ∧ q = more_want i j then some true else none
  else none
set_option maxHeartbeats 2000000 in
set_option maxRecDepth 100000 in
theorem punchcutlaw08_DistMore.calls (k : Nat) (A0 : Option Addr) (c0 : Nat) (l0 : List (List S133)) (A1 : Option Addr) (c1 : Nat) (l1 : List (List S133)) (a2 a3_0 a3_1 : Int) (r : Bool) (w : World) (hr0 : Kd.C (Kd.slice 133 k133) w A0 l0.length l0) (hc0 : l0.length ≤ c0) (hr1 : Kd.C (Kd.slice 133 k133) w A1 l1.length l1) (hc1 : l1.length ≤ c1) (h : punchcutlaw08_DistMore.f k l0 l1 a2 a3_0 a3_1 = some r) :
    Calls Try.prog 5 #[.slice A0 l0.length c0, .slice A1 l1.length c1, .int .u16 a2, .agg #[.int .i16 a3_0, .int .i16 a3_1]] w fun e w' => e = .returned (.bool r) ∧ Below w.heap.size w w' := by
  unfold punchcutlaw08_DistMore.f at h
  obtain ⟨aw, haw, h1⟩ := Option.bind_eq_some_iff.mp h
  clear h
  split at h1
  case isFalse => cases h1
  rename_i hT
  subst hT
  obtain ⟨a, ha, h2⟩ := Option.bind_eq_some_iff.mp h1
  obtain ⟨b, hb, h3⟩ := Option.bind_eq_some_iff.mp h2
  obtain ⟨⟨s1, s2⟩, hs, h4⟩ := Option.bind_eq_some_iff.mp h3
  obtain ⟨i, hi, h5⟩ := Option.bind_eq_some_iff.mp h4
  obtain ⟨j, hj, h6⟩ := Option.bind_eq_some_iff.mp h5
  obtain ⟨q, hq, h7⟩ := Option.bind_eq_some_iff.mp h6
  clear h1 h2 h3 h4 h5 h6
  split at h7
  case isFalse => cases h7
  rename_i hall
  obtain rfl := Option.some.inj h7
  obtain ⟨⟨la, lb⟩, hqe⟩ := hall
  obtain ⟨ab, hab⟩ : ∃ x, x = a ++ b := ⟨_, rfl⟩
  rw [← hab] at hq
  have HAB := Aside0.mk hab
  have HAW := Aside0.mk haw; have HA := Aside0.mk ha; have HBB := Aside0.mk hb; have HS := Aside0.mk hs; have HI := Aside0.mk hi; have HJ := Aside0.mk hj; have HQ := Aside0.mk hq; have HR0 := Aside0.mk hr0; have HR1 := Aside0.mk hr1; have HE := Aside0.mk hqe
  clear haw ha hb hs hi hj hq h7 hr0 hr1 hqe hab
  go_enter Try.func5, Try.ntmps5
  go_wp2_with fail
  refine (punchcutlaw08_awake.calls k _ _ HAW.out).mono ?_
  rintro e w1 ⟨rfl, hb⟩
  have HB1 := Aside0.mk (bstep (balloc (Below.refl w.heap.size w) (.cells #[.int .i16 a3_0, .int .i16 a3_1] 26)) hb)
  have P1 := Aside0.mk ((hb.block _ (by simp)).trans (hnew w (.cells #[.int .i16 a3_0, .int .i16 a3_1] 26) rfl))
  clear hb
  go_wp2_with fail
  refine (glyph_at k _ _ l0 a w w1 HR0.out hc0 HB1.out HA.out).mono ?_
  rintro e w2 ⟨A, c, rfl, ho, hb⟩
  have HO2 := Aside0.mk ho
  have HB2 := Aside0.mk (bstep HB1.out hb)
  have P2 := Aside0.mk ((hb.block _ (Array.getElem?_eq_some_iff.1 P1.out).1).trans P1.out)
  clear hb ho P1
  go_wp2_with fail
  refine (glyph_at k _ _ l1 b w w2 HR1.out hc1 HB2.out HBB.out).mono ?_
  rintro e w3 ⟨B, d, rfl, ho, hb⟩
  have HO3 := Aside0.mk ho
  have HA3 := Aside0.mk (Kd.R_below HO2.out hb)
  have HB3 := Aside0.mk (bstep HB2.out hb)
  have P3 := Aside0.mk ((hb.block _ (Array.getElem?_eq_some_iff.1 P2.out).1).trans P2.out)
  clear hb ho P2 HO2
  obtain ⟨p0, p1, _, _⟩ := cells2 P3.out
  go_wp2_with fail
  refine (punchcutlaw07_Spot.calls _ _ a _ _ _ _ _ _ (rC HA3.out).1 (rC HA3.out).2 HS.out).mono ?_
  rintro e w4 ⟨rfl, hb⟩
  obtain ⟨g, hg⟩ : ∃ g, g = w4.heap.size := ⟨_, rfl⟩
  obtain ⟨W4, hW4⟩ : ∃ W4 : World, W4 = w4.alloc (.cells #[.int .i64 s1, .int .i64 s2] 32) := ⟨_, rfl⟩
  have HW4 : Aside0 (Below w.heap.size w W4) := ⟨by rw [hW4]; exact balloc (bstep HB3.out hb) _⟩
  have HA4 : Aside0 (Kd.R k40 40 W4 w.heap.size (fun _ => True) (.slice A a.length c) a) := ⟨by rw [hW4]; exact Kd.R_below (Kd.R_below HA3.out hb) (balloc (Below.refl _ _) _)⟩
  have HB4 : Aside0 (Kd.R k40 40 W4 w.heap.size (fun _ => True) (.slice B b.length d) b) := ⟨by rw [hW4]; exact Kd.R_below (Kd.R_below HO3.out hb) (balloc (Below.refl _ _) _)⟩
  have G4 : Aside0 (W4.heap[g]? = some (.cells #[.int .i64 s1, .int .i64 s2] 32 (0, 0))) := ⟨by rw [hW4, hg]; exact hnew _ _ rfl⟩
  clear p0 p1 P3 hb HA3 HO3 HB1 HB2 HB3
  go_upto_region 5 with fail
  rw [← hW4, ← hg]
  have hg4 := (Array.getElem?_eq_some_iff.1 G4.out).1
  clear hW4 hg
  refine region_inv (n := 15) (by kernel_rfl) [[], [], [0, 1], [], [], [3, 4], [], [6], [], [7, 8], [], [9, 10], [2], [5], [11]] (fun l act W => ∃ v25 v26 v27 v28 v29 v30 v31 v32 v33 v34 v35 v36 v12 v13 v14 : Value, act = ({ tmps := #[.slice A0 l0.length c0, .slice A1 l1.length c1, .int .u16 a2, .agg #[.int .i16 a3_0, .int .i16 a3_1], undef, undef, undef, .pointer (some ⟨w.heap.size, 0, none⟩), .bool false, .slice A a.length c, .slice B b.length d, .pointer (some ⟨g, 0, none⟩), v12, v13, v14, .bool true, .bool false, .slice A0 l0.length c0, .slice A a.length c, .slice A1 l1.length c1, .slice B b.length d, .slice A a.length c, .int .u16 a2, .agg #[.int .i16 a3_0, .int .i16 a3_1], .agg #[.int .i64 s1, .int .i64 s2], v25, v26, v27, v28, v29, v30, v31, v32, v33, v34, v35, v36, undef, undef, undef, undef, undef, undef, undef, undef, undef, undef, undef, undef, undef, undef, undef, undef], defers := [] } : Act) ∧ Below W4.heap.size W4 W ∧ (l.getD 0 false = true → v25 = .slice A a.length c) ∧ (l.getD 1 false = true → v26 = .agg #[.int .i64 s1, .int .i64 s2]) ∧ (l.getD 2 false = true → v27 = .int .i64 i) ∧ (l.getD 3 false = true → v28 = .slice B b.length d) ∧ (l.getD 4 false = true → v29 = .agg #[.int .i64 s1, .int .i64 s2]) ∧ (l.getD 5 false = true → v30 = .int .i64 j) ∧ (l.getD 6 false = true → v31 = .slice A a.length c) ∧ (l.getD 7 false = true → l.getD 9 false = false → ∃ A' c', v32 = .slice A' a.length c' ∧ Kd.R k40 40 W W4.heap.size (fun _ => True) v32 a) ∧ (l.getD 8 false = true → v33 = .slice B b.length d) ∧ (l.getD 9 false = true → l.getD 7 false = true ∧ ∃ A' c', v34 = .slice A' ab.length c' ∧ Kd.R k40 40 W W4.heap.size (fun _ => True) v34 ab) ∧ (l.getD 10 false = true → v35 = .agg #[.int .i64 s1, .int .i64 s2]) ∧ (l.getD 11 false = true → v36 = .int .i64 q) ∧ (l.getD 12 false = true → v12 = .int .i64 i) ∧ (l.getD 13 false = true → v13 = .int .i64 j) ∧ (l.getD 14 false = true → v14 = .int .i64 q)) rfl (by kernel_rfl) ?_ ⟨?_, ?_, ?_, ?_, ?_, ?_, ?_, ?_, ?_, ?_, ?_, ?_, ?_, ?_, ?_, trivial⟩ ?_
  · exact ⟨_, _, _, _, _, _, _, _, _, _, _, _, _, _, _, rfl, bdrew (Below.refl _ _), fun h => (by cases h), fun h => (by cases h), fun h => (by cases h), fun h => (by cases h), fun h => (by cases h), fun h => (by cases h), fun h => (by cases h), fun h => (by cases h), fun h => (by cases h), fun h => (by cases h), fun h => (by cases h), fun h => (by cases h), fun h => (by cases h), fun h => (by cases h), fun h => (by cases h)⟩
  · rintro l act W hl ⟨v25, v26, v27, v28, v29, v30, v31, v32, v33, v34, v35, v36, v12, v13, v14, rfl, HB, h0, h1, h2, h3, h4, h5, h6, h7, h8, h9, h10, h11, h12, h13, h14⟩ hi hT K hK
    match l, hl with
    | [b0, b1, b2, b3, b4, b5, b6, b7, b8, b9, b10, b11, b12, b13, b14], _ =>
    have HKK := Aside0.mk hK
    clear hK
    have H1 := Aside0.mk h1; have H2 := Aside0.mk h2; have H3 := Aside0.mk h3; have H4 := Aside0.mk h4; have H5 := Aside0.mk h5; have H6 := Aside0.mk h6; have H7 := Aside0.mk h7; have H8 := Aside0.mk h8; have H9 := Aside0.mk h9; have H10 := Aside0.mk h10; have H11 := Aside0.mk h11; have H12 := Aside0.mk h12; have H13 := Aside0.mk h13; have H14 := Aside0.mk h14; have HBA := Aside0.mk HB
    clear HB h0 h1 h2 h3 h4 h5 h6 h7 h8 h9 h10 h11 h12 h13 h14
    go_wp2_with fail
    exact HKK.out _ _ ⟨_, _, _, _, _, _, _, _, _, _, _, _, _, _, _, rfl, HBA.out, fun _ => rfl, H1.out, H2.out, H3.out, H4.out, H5.out, H6.out, H7.out, H8.out, H9.out, H10.out, H11.out, H12.out, H13.out, H14.out⟩
  · rintro l act W hl ⟨v25, v26, v27, v28, v29, v30, v31, v32, v33, v34, v35, v36, v12, v13, v14, rfl, HB, h0, h1, h2, h3, h4, h5, h6, h7, h8, h9, h10, h11, h12, h13, h14⟩ hi hT K hK
    match l, hl with
    | [b0, b1, b2, b3, b4, b5, b6, b7, b8, b9, b10, b11, b12, b13, b14], _ =>
    have HKK := Aside0.mk hK
    clear hK
    have hq := (HB.block _ hg4).trans G4.out
    obtain ⟨q0, q1, _, _⟩ := cells2 hq
    clear hq
    have H0 := Aside0.mk h0; have H2 := Aside0.mk h2; have H3 := Aside0.mk h3; have H4 := Aside0.mk h4; have H5 := Aside0.mk h5; have H6 := Aside0.mk h6; have H7 := Aside0.mk h7; have H8 := Aside0.mk h8; have H9 := Aside0.mk h9; have H10 := Aside0.mk h10; have H11 := Aside0.mk h11; have H12 := Aside0.mk h12; have H13 := Aside0.mk h13; have H14 := Aside0.mk h14; have HBA := Aside0.mk HB
    clear HB h0 h1 h2 h3 h4 h5 h6 h7 h8 h9 h10 h11 h12 h13 h14
    go_wp2_with fail
    exact HKK.out _ _ ⟨_, _, _, _, _, _, _, _, _, _, _, _, _, _, _, rfl, HBA.out, H0.out, fun _ => rfl, H2.out, H3.out, H4.out, H5.out, H6.out, H7.out, H8.out, H9.out, H10.out, H11.out, H12.out, H13.out, H14.out⟩
  · rintro l act W hl ⟨v25, v26, v27, v28, v29, v30, v31, v32, v33, v34, v35, v36, v12, v13, v14, rfl, HB, h0, h1, h2, h3, h4, h5, h6, h7, h8, h9, h10, h11, h12, h13, h14⟩ hi hT K hK
    match l, hl with
    | [b0, b1, b2, b3, b4, b5, b6, b7, b8, b9, b10, b11, b12, b13, b14], _ =>
    have HKK := Aside0.mk hK
    clear hK
    obtain rfl := (h0 (hT 0 (by decide))).symm
    obtain rfl := (h1 (hT 1 (by decide))).symm
    have H0 := Aside0.mk h0; have H1 := Aside0.mk h1; have H3 := Aside0.mk h3; have H4 := Aside0.mk h4; have H5 := Aside0.mk h5; have H6 := Aside0.mk h6; have H7 := Aside0.mk h7; have H8 := Aside0.mk h8; have H9 := Aside0.mk h9; have H10 := Aside0.mk h10; have H11 := Aside0.mk h11; have H12 := Aside0.mk h12; have H13 := Aside0.mk h13; have H14 := Aside0.mk h14; have HBA := Aside0.mk HB
    clear HB h0 h1 h2 h3 h4 h5 h6 h7 h8 h9 h10 h11 h12 h13 h14
    go_wp2_with fail
    refine (dist_Eight.calls k _ _ a _ _ i _ (Kd.C_below (rC HA4.out).1 HBA.out) (rC HA4.out).2 HI.out).mono ?_
    rintro e w' ⟨rfl, hb⟩
    exact HKK.out _ _ ⟨_, _, _, _, _, _, _, _, _, _, _, _, _, _, _, rfl, bstep HBA.out hb, fun _ => rfl, fun _ => rfl, fun _ => rfl, H3.out, H4.out, H5.out, H6.out, fun h h' => (let ⟨A', c', e', r'⟩ := H7.out h h'; ⟨A', c', e', Kd.R_below r' hb⟩), H8.out, fun h => (let ⟨x', A', c', e', r'⟩ := H9.out h; ⟨x', A', c', e', Kd.R_below r' hb⟩), H10.out, H11.out, H12.out, H13.out, H14.out⟩
  · rintro l act W hl ⟨v25, v26, v27, v28, v29, v30, v31, v32, v33, v34, v35, v36, v12, v13, v14, rfl, HB, h0, h1, h2, h3, h4, h5, h6, h7, h8, h9, h10, h11, h12, h13, h14⟩ hi hT K hK
    match l, hl with
    | [b0, b1, b2, b3, b4, b5, b6, b7, b8, b9, b10, b11, b12, b13, b14], _ =>
    have HKK := Aside0.mk hK
    clear hK
    have H0 := Aside0.mk h0; have H1 := Aside0.mk h1; have H2 := Aside0.mk h2; have H4 := Aside0.mk h4; have H5 := Aside0.mk h5; have H6 := Aside0.mk h6; have H7 := Aside0.mk h7; have H8 := Aside0.mk h8; have H9 := Aside0.mk h9; have H10 := Aside0.mk h10; have H11 := Aside0.mk h11; have H12 := Aside0.mk h12; have H13 := Aside0.mk h13; have H14 := Aside0.mk h14; have HBA := Aside0.mk HB
    clear HB h0 h1 h2 h3 h4 h5 h6 h7 h8 h9 h10 h11 h12 h13 h14
    go_wp2_with fail
    exact HKK.out _ _ ⟨_, _, _, _, _, _, _, _, _, _, _, _, _, _, _, rfl, HBA.out, H0.out, H1.out, H2.out, fun _ => rfl, H4.out, H5.out, H6.out, H7.out, H8.out, H9.out, H10.out, H11.out, H12.out, H13.out, H14.out⟩
  · rintro l act W hl ⟨v25, v26, v27, v28, v29, v30, v31, v32, v33, v34, v35, v36, v12, v13, v14, rfl, HB, h0, h1, h2, h3, h4, h5, h6, h7, h8, h9, h10, h11, h12, h13, h14⟩ hi hT K hK
    match l, hl with
    | [b0, b1, b2, b3, b4, b5, b6, b7, b8, b9, b10, b11, b12, b13, b14], _ =>
    have HKK := Aside0.mk hK
    clear hK
    have hq := (HB.block _ hg4).trans G4.out
    obtain ⟨q0, q1, _, _⟩ := cells2 hq
    clear hq
    have H0 := Aside0.mk h0; have H1 := Aside0.mk h1; have H2 := Aside0.mk h2; have H3 := Aside0.mk h3; have H5 := Aside0.mk h5; have H6 := Aside0.mk h6; have H7 := Aside0.mk h7; have H8 := Aside0.mk h8; have H9 := Aside0.mk h9; have H10 := Aside0.mk h10; have H11 := Aside0.mk h11; have H12 := Aside0.mk h12; have H13 := Aside0.mk h13; have H14 := Aside0.mk h14; have HBA := Aside0.mk HB
    clear HB h0 h1 h2 h3 h4 h5 h6 h7 h8 h9 h10 h11 h12 h13 h14
    go_wp2_with fail
    exact HKK.out _ _ ⟨_, _, _, _, _, _, _, _, _, _, _, _, _, _, _, rfl, HBA.out, H0.out, H1.out, H2.out, H3.out, fun _ => rfl, H5.out, H6.out, H7.out, H8.out, H9.out, H10.out, H11.out, H12.out, H13.out, H14.out⟩
  · rintro l act W hl ⟨v25, v26, v27, v28, v29, v30, v31, v32, v33, v34, v35, v36, v12, v13, v14, rfl, HB, h0, h1, h2, h3, h4, h5, h6, h7, h8, h9, h10, h11, h12, h13, h14⟩ hi hT K hK
    match l, hl with
    | [b0, b1, b2, b3, b4, b5, b6, b7, b8, b9, b10, b11, b12, b13, b14], _ =>
    have HKK := Aside0.mk hK
    clear hK
    obtain rfl := (h3 (hT 3 (by decide))).symm
    obtain rfl := (h4 (hT 4 (by decide))).symm
    have H0 := Aside0.mk h0; have H1 := Aside0.mk h1; have H2 := Aside0.mk h2; have H3 := Aside0.mk h3; have H4 := Aside0.mk h4; have H6 := Aside0.mk h6; have H7 := Aside0.mk h7; have H8 := Aside0.mk h8; have H9 := Aside0.mk h9; have H10 := Aside0.mk h10; have H11 := Aside0.mk h11; have H12 := Aside0.mk h12; have H13 := Aside0.mk h13; have H14 := Aside0.mk h14; have HBA := Aside0.mk HB
    clear HB h0 h1 h2 h3 h4 h5 h6 h7 h8 h9 h10 h11 h12 h13 h14
    go_wp2_with fail
    refine (dist_Eight.calls k _ _ b _ _ j _ (Kd.C_below (rC HB4.out).1 HBA.out) (rC HB4.out).2 HJ.out).mono ?_
    rintro e w' ⟨rfl, hb⟩
    exact HKK.out _ _ ⟨_, _, _, _, _, _, _, _, _, _, _, _, _, _, _, rfl, bstep HBA.out hb, H0.out, H1.out, H2.out, fun _ => rfl, fun _ => rfl, fun _ => rfl, H6.out, fun h h' => (let ⟨A', c', e', r'⟩ := H7.out h h'; ⟨A', c', e', Kd.R_below r' hb⟩), H8.out, fun h => (let ⟨x', A', c', e', r'⟩ := H9.out h; ⟨x', A', c', e', Kd.R_below r' hb⟩), H10.out, H11.out, H12.out, H13.out, H14.out⟩
  · rintro l act W hl ⟨v25, v26, v27, v28, v29, v30, v31, v32, v33, v34, v35, v36, v12, v13, v14, rfl, HB, h0, h1, h2, h3, h4, h5, h6, h7, h8, h9, h10, h11, h12, h13, h14⟩ hi hT K hK
    match l, hl with
    | [b0, b1, b2, b3, b4, b5, b6, b7, b8, b9, b10, b11, b12, b13, b14], _ =>
    have HKK := Aside0.mk hK
    clear hK
    have H0 := Aside0.mk h0; have H1 := Aside0.mk h1; have H2 := Aside0.mk h2; have H3 := Aside0.mk h3; have H4 := Aside0.mk h4; have H5 := Aside0.mk h5; have H7 := Aside0.mk h7; have H8 := Aside0.mk h8; have H9 := Aside0.mk h9; have H10 := Aside0.mk h10; have H11 := Aside0.mk h11; have H12 := Aside0.mk h12; have H13 := Aside0.mk h13; have H14 := Aside0.mk h14; have HBA := Aside0.mk HB
    clear HB h0 h1 h2 h3 h4 h5 h6 h7 h8 h9 h10 h11 h12 h13 h14
    go_wp2_with fail
    exact HKK.out _ _ ⟨_, _, _, _, _, _, _, _, _, _, _, _, _, _, _, rfl, HBA.out, H0.out, H1.out, H2.out, H3.out, H4.out, H5.out, fun _ => rfl, H7.out, H8.out, H9.out, H10.out, H11.out, H12.out, H13.out, H14.out⟩
  · rintro l act W hl ⟨v25, v26, v27, v28, v29, v30, v31, v32, v33, v34, v35, v36, v12, v13, v14, rfl, HB, h0, h1, h2, h3, h4, h5, h6, h7, h8, h9, h10, h11, h12, h13, h14⟩ hi hT K hK
    match l, hl with
    | [b0, b1, b2, b3, b4, b5, b6, b7, b8, b9, b10, b11, b12, b13, b14], _ =>
    have HKK := Aside0.mk hK
    clear hK
    obtain rfl := (h6 (hT 6 (by decide))).symm
    have H0 := Aside0.mk h0; have H1 := Aside0.mk h1; have H2 := Aside0.mk h2; have H3 := Aside0.mk h3; have H4 := Aside0.mk h4; have H5 := Aside0.mk h5; have H6 := Aside0.mk h6; have H8 := Aside0.mk h8; have H9 := Aside0.mk h9; have H10 := Aside0.mk h10; have H11 := Aside0.mk h11; have H12 := Aside0.mk h12; have H13 := Aside0.mk h13; have H14 := Aside0.mk h14; have HBA := Aside0.mk HB
    clear HB h0 h1 h2 h3 h4 h5 h6 h7 h8 h9 h10 h11 h12 h13 h14
    refine Kd.R_append_rows_step k40 (w0 := W4) W4.heap.size (by rfl) (.const (.slice none 0 0)) (.tmp 31) 29 40 (.agg #[.int .i64 0, .int .i64 0, .int .i64 0, .int .i64 0]) 32 rfl Try.underlying29 info40 rfl (by decide) (by omega) (.slice none 0 0) [] a A a.length c (fun _ => True) (fun _ => False) rfl rfl (Kd.R_nil _ _ _ _ _) (Kd.C_below (rC HA4.out).1 HBA.out) (fun _ _ h => h) (fun _ h => h.elim) (fun _ _ => trivial) HBA.out (HBA.out).size (by simp; omega) ?_
    intro v1 w1 ho hb1 hgr hat
    rw [List.nil_append] at ho
    obtain ⟨A', c', rfl⟩ := Kd.R_slice ho
    exact HKK.out _ _ ⟨_, _, _, _, _, _, _, _, _, _, _, _, _, _, _, rfl, hb1, H0.out, H1.out, H2.out, H3.out, H4.out, H5.out, fun _ => rfl, fun _ _ => ⟨A', c', rfl, ho⟩, H8.out, fun h => absurd (H9.out h).1 (by intro hx; exact Bool.false_ne_true (hi.symm.trans hx)), H10.out, H11.out, H12.out, H13.out, H14.out⟩
  · rintro l act W hl ⟨v25, v26, v27, v28, v29, v30, v31, v32, v33, v34, v35, v36, v12, v13, v14, rfl, HB, h0, h1, h2, h3, h4, h5, h6, h7, h8, h9, h10, h11, h12, h13, h14⟩ hi hT K hK
    match l, hl with
    | [b0, b1, b2, b3, b4, b5, b6, b7, b8, b9, b10, b11, b12, b13, b14], _ =>
    have HKK := Aside0.mk hK
    clear hK
    have H0 := Aside0.mk h0; have H1 := Aside0.mk h1; have H2 := Aside0.mk h2; have H3 := Aside0.mk h3; have H4 := Aside0.mk h4; have H5 := Aside0.mk h5; have H6 := Aside0.mk h6; have H7 := Aside0.mk h7; have H9 := Aside0.mk h9; have H10 := Aside0.mk h10; have H11 := Aside0.mk h11; have H12 := Aside0.mk h12; have H13 := Aside0.mk h13; have H14 := Aside0.mk h14; have HBA := Aside0.mk HB
    clear HB h0 h1 h2 h3 h4 h5 h6 h7 h8 h9 h10 h11 h12 h13 h14
    go_wp2_with fail
    exact HKK.out _ _ ⟨_, _, _, _, _, _, _, _, _, _, _, _, _, _, _, rfl, HBA.out, H0.out, H1.out, H2.out, H3.out, H4.out, H5.out, H6.out, H7.out, fun _ => rfl, H9.out, H10.out, H11.out, H12.out, H13.out, H14.out⟩
  · rintro l act W hl ⟨v25, v26, v27, v28, v29, v30, v31, v32, v33, v34, v35, v36, v12, v13, v14, rfl, HB, h0, h1, h2, h3, h4, h5, h6, h7, h8, h9, h10, h11, h12, h13, h14⟩ hi hT K hK
    match l, hl with
    | [b0, b1, b2, b3, b4, b5, b6, b7, b8, b9, b10, b11, b12, b13, b14], _ =>
    have HKK := Aside0.mk hK
    clear hK
    obtain rfl := (h8 (hT 8 (by decide))).symm
    obtain ⟨A', c', rfl, hr⟩ := h7 (hT 7 (by decide)) hi
    have h77 := hT 7 (by decide)
    have H0 := Aside0.mk h0; have H1 := Aside0.mk h1; have H2 := Aside0.mk h2; have H3 := Aside0.mk h3; have H4 := Aside0.mk h4; have H5 := Aside0.mk h5; have H6 := Aside0.mk h6; have H7 := Aside0.mk h7; have H8 := Aside0.mk h8; have H10 := Aside0.mk h10; have H11 := Aside0.mk h11; have H12 := Aside0.mk h12; have H13 := Aside0.mk h13; have H14 := Aside0.mk h14; have HBA := Aside0.mk HB
    clear HB h0 h1 h2 h3 h4 h5 h6 h7 h8 h9 h10 h11 h12 h13 h14
    refine Kd.R_append_rows_step k40 (w0 := W4) W4.heap.size (by rfl) (.tmp 32) (.tmp 33) 29 40 (.agg #[.int .i64 0, .int .i64 0, .int .i64 0, .int .i64 0]) 32 rfl Try.underlying29 info40 rfl (by decide) (by omega) (.slice A' a.length c') a b B b.length d (fun _ => True) (fun _ => False) rfl rfl hr (Kd.C_below (rC HB4.out).1 HBA.out) (fun _ _ h => h) (fun _ h => h.elim) (fun _ _ => trivial) HBA.out (HBA.out).size (by omega) ?_
    intro v1 w1 ho hb1 hgr hat
    rw [← HAB.out] at ho
    obtain ⟨A2, c2, rfl⟩ := Kd.R_slice ho
    exact HKK.out _ _ ⟨_, _, _, _, _, _, _, _, _, _, _, _, _, _, _, rfl, hb1, H0.out, H1.out, H2.out, H3.out, H4.out, H5.out, H6.out, fun _ h => (by cases h), fun _ => rfl, fun _ => ⟨h77, A2, c2, rfl, ho⟩, H10.out, H11.out, H12.out, H13.out, H14.out⟩
  · rintro l act W hl ⟨v25, v26, v27, v28, v29, v30, v31, v32, v33, v34, v35, v36, v12, v13, v14, rfl, HB, h0, h1, h2, h3, h4, h5, h6, h7, h8, h9, h10, h11, h12, h13, h14⟩ hi hT K hK
    match l, hl with
    | [b0, b1, b2, b3, b4, b5, b6, b7, b8, b9, b10, b11, b12, b13, b14], _ =>
    have HKK := Aside0.mk hK
    clear hK
    have hq := (HB.block _ hg4).trans G4.out
    obtain ⟨q0, q1, _, _⟩ := cells2 hq
    clear hq
    have H0 := Aside0.mk h0; have H1 := Aside0.mk h1; have H2 := Aside0.mk h2; have H3 := Aside0.mk h3; have H4 := Aside0.mk h4; have H5 := Aside0.mk h5; have H6 := Aside0.mk h6; have H7 := Aside0.mk h7; have H8 := Aside0.mk h8; have H9 := Aside0.mk h9; have H11 := Aside0.mk h11; have H12 := Aside0.mk h12; have H13 := Aside0.mk h13; have H14 := Aside0.mk h14; have HBA := Aside0.mk HB
    clear HB h0 h1 h2 h3 h4 h5 h6 h7 h8 h9 h10 h11 h12 h13 h14
    go_wp2_with fail
    exact HKK.out _ _ ⟨_, _, _, _, _, _, _, _, _, _, _, _, _, _, _, rfl, HBA.out, H0.out, H1.out, H2.out, H3.out, H4.out, H5.out, H6.out, H7.out, H8.out, H9.out, fun _ => rfl, H11.out, H12.out, H13.out, H14.out⟩
  · rintro l act W hl ⟨v25, v26, v27, v28, v29, v30, v31, v32, v33, v34, v35, v36, v12, v13, v14, rfl, HB, h0, h1, h2, h3, h4, h5, h6, h7, h8, h9, h10, h11, h12, h13, h14⟩ hi hT K hK
    match l, hl with
    | [b0, b1, b2, b3, b4, b5, b6, b7, b8, b9, b10, b11, b12, b13, b14], _ =>
    have HKK := Aside0.mk hK
    clear hK
    obtain rfl := (h10 (hT 10 (by decide))).symm
    obtain ⟨_, A', c', rfl, hr⟩ := h9 (hT 9 (by decide))
    have H0 := Aside0.mk h0; have H1 := Aside0.mk h1; have H2 := Aside0.mk h2; have H3 := Aside0.mk h3; have H4 := Aside0.mk h4; have H5 := Aside0.mk h5; have H6 := Aside0.mk h6; have H7 := Aside0.mk h7; have H8 := Aside0.mk h8; have H9 := Aside0.mk h9; have H10 := Aside0.mk h10; have H12 := Aside0.mk h12; have H13 := Aside0.mk h13; have H14 := Aside0.mk h14; have HBA := Aside0.mk HB
    clear HB h0 h1 h2 h3 h4 h5 h6 h7 h8 h9 h10 h11 h12 h13 h14
    go_wp2_with fail
    refine (dist_Eight.calls k _ _ ab _ _ q _ (rC hr).1 (rC hr).2 HQ.out).mono ?_
    rintro e w' ⟨rfl, hb⟩
    exact HKK.out _ _ ⟨_, _, _, _, _, _, _, _, _, _, _, _, _, _, _, rfl, bstep HBA.out hb, H0.out, H1.out, H2.out, H3.out, H4.out, H5.out, H6.out, fun h h' => (let ⟨A', c', e', r'⟩ := H7.out h h'; ⟨A', c', e', Kd.R_below r' hb⟩), H8.out, fun h => (let ⟨x', A', c', e', r'⟩ := H9.out h; ⟨x', A', c', e', Kd.R_below r' hb⟩), fun _ => rfl, fun _ => rfl, H12.out, H13.out, H14.out⟩
  · rintro l act W hl ⟨v25, v26, v27, v28, v29, v30, v31, v32, v33, v34, v35, v36, v12, v13, v14, rfl, HB, h0, h1, h2, h3, h4, h5, h6, h7, h8, h9, h10, h11, h12, h13, h14⟩ hi hT K hK
    match l, hl with
    | [b0, b1, b2, b3, b4, b5, b6, b7, b8, b9, b10, b11, b12, b13, b14], _ =>
    have HKK := Aside0.mk hK
    clear hK
    obtain rfl := (h2 (hT 2 (by decide))).symm
    have H0 := Aside0.mk h0; have H1 := Aside0.mk h1; have H2 := Aside0.mk h2; have H3 := Aside0.mk h3; have H4 := Aside0.mk h4; have H5 := Aside0.mk h5; have H6 := Aside0.mk h6; have H7 := Aside0.mk h7; have H8 := Aside0.mk h8; have H9 := Aside0.mk h9; have H10 := Aside0.mk h10; have H11 := Aside0.mk h11; have H13 := Aside0.mk h13; have H14 := Aside0.mk h14; have HBA := Aside0.mk HB
    clear HB h0 h1 h2 h3 h4 h5 h6 h7 h8 h9 h10 h11 h12 h13 h14
    go_wp2_with fail
    exact HKK.out _ _ ⟨_, _, _, _, _, _, _, _, _, _, _, _, _, _, _, rfl, HBA.out, H0.out, H1.out, fun _ => rfl, H3.out, H4.out, H5.out, H6.out, H7.out, H8.out, H9.out, H10.out, H11.out, fun _ => rfl, H13.out, H14.out⟩
  · rintro l act W hl ⟨v25, v26, v27, v28, v29, v30, v31, v32, v33, v34, v35, v36, v12, v13, v14, rfl, HB, h0, h1, h2, h3, h4, h5, h6, h7, h8, h9, h10, h11, h12, h13, h14⟩ hi hT K hK
    match l, hl with
    | [b0, b1, b2, b3, b4, b5, b6, b7, b8, b9, b10, b11, b12, b13, b14], _ =>
    have HKK := Aside0.mk hK
    clear hK
    obtain rfl := (h5 (hT 5 (by decide))).symm
    have H0 := Aside0.mk h0; have H1 := Aside0.mk h1; have H2 := Aside0.mk h2; have H3 := Aside0.mk h3; have H4 := Aside0.mk h4; have H5 := Aside0.mk h5; have H6 := Aside0.mk h6; have H7 := Aside0.mk h7; have H8 := Aside0.mk h8; have H9 := Aside0.mk h9; have H10 := Aside0.mk h10; have H11 := Aside0.mk h11; have H12 := Aside0.mk h12; have H14 := Aside0.mk h14; have HBA := Aside0.mk HB
    clear HB h0 h1 h2 h3 h4 h5 h6 h7 h8 h9 h10 h11 h12 h13 h14
    go_wp2_with fail
    exact HKK.out _ _ ⟨_, _, _, _, _, _, _, _, _, _, _, _, _, _, _, rfl, HBA.out, H0.out, H1.out, H2.out, H3.out, H4.out, fun _ => rfl, H6.out, H7.out, H8.out, H9.out, H10.out, H11.out, H12.out, fun _ => rfl, H14.out⟩
  · rintro l act W hl ⟨v25, v26, v27, v28, v29, v30, v31, v32, v33, v34, v35, v36, v12, v13, v14, rfl, HB, h0, h1, h2, h3, h4, h5, h6, h7, h8, h9, h10, h11, h12, h13, h14⟩ hi hT K hK
    match l, hl with
    | [b0, b1, b2, b3, b4, b5, b6, b7, b8, b9, b10, b11, b12, b13, b14], _ =>
    have HKK := Aside0.mk hK
    clear hK
    obtain rfl := (h11 (hT 11 (by decide))).symm
    have H0 := Aside0.mk h0; have H1 := Aside0.mk h1; have H2 := Aside0.mk h2; have H3 := Aside0.mk h3; have H4 := Aside0.mk h4; have H5 := Aside0.mk h5; have H6 := Aside0.mk h6; have H7 := Aside0.mk h7; have H8 := Aside0.mk h8; have H9 := Aside0.mk h9; have H10 := Aside0.mk h10; have H11 := Aside0.mk h11; have H12 := Aside0.mk h12; have H13 := Aside0.mk h13; have HBA := Aside0.mk HB
    clear HB h0 h1 h2 h3 h4 h5 h6 h7 h8 h9 h10 h11 h12 h13 h14
    go_wp2_with fail
    exact HKK.out _ _ ⟨_, _, _, _, _, _, _, _, _, _, _, _, _, _, _, rfl, HBA.out, H0.out, H1.out, H2.out, H3.out, H4.out, H5.out, H6.out, H7.out, H8.out, H9.out, H10.out, fun _ => rfl, H12.out, H13.out, fun _ => rfl⟩
  · rintro act W ⟨v25, v26, v27, v28, v29, v30, v31, v32, v33, v34, v35, v36, v12, v13, v14, rfl, HB, h0, h1, h2, h3, h4, h5, h6, h7, h8, h9, h10, h11, h12, h13, h14⟩
    obtain rfl := h12 rfl
    obtain rfl := h13 rfl
    obtain rfl := h14 rfl
    have HB5 := Aside0.mk (bstep HW4.out HB)
    clear HB h0 h1 h2 h3 h4 h5 h6 h7 h8 h9 h10 h11 h12 h13 h14
    have he := HE.out
    unfold more_want at he
    by_cases p1 : i < 0
    · have p1' : decide (i < 0) = true := decide_eq_true p1
      rw [if_pos (.inl p1)] at he
      clear p1
      split at he
      · subst he
        go_wp2_with fail
        all_goals
          go_ret
          exact ⟨by simp; try omega, HB5.out⟩
      · subst he
        go_wp2_with fail
        all_goals
          go_ret
          exact ⟨by simp; try omega, HB5.out⟩
    · have p1' : decide (i < 0) = false := decide_eq_false p1
      by_cases p2 : j < 0
      · have p2' : decide (j < 0) = true := decide_eq_true p2
        rw [if_pos (.inr p2)] at he
        clear p1 p2
        split at he
        · subst he
          go_wp2_with fail
          all_goals
            go_ret
            exact ⟨by simp; try omega, HB5.out⟩
        · subst he
          go_wp2_with fail
          all_goals
            go_ret
            exact ⟨by simp; try omega, HB5.out⟩
      · have p2' : decide (j < 0) = false := decide_eq_false p2
        rw [if_neg (by omega)] at he
        clear p1 p2
        split at he
        · subst he
          go_wp2_with fail
          all_goals
            go_ret
            exact ⟨by simp; try omega, HB5.out⟩
        · subst he
          go_wp2_with fail
          all_goals
            go_ret
            exact ⟨by simp; try omega, HB5.out⟩
end Go.Proofs.Ytlljpjbhndcaiaa.Q
end
section
set_option linter.unusedVariables false
set_option linter.unusedSimpArgs false
namespace Go.Proofs.Ytlljpjbhndcaiaa.M
open Go.RowKit Go.Proofs.Ytlljpjbhndcaiaa.Q Go.Proofs.YtlljpjbhndcaiaaW.PrintWords Go.Proofs.YtlljpjbhndcaiaaW.PrintLast Go.Proofs.YtlljpjbhndcaiaaW.PrintMore Go.Proofs.Ytlljpjbhndcaiaa.Geo
theorem DistMore (l0 l1 : List (List S133)) (a2 a3_0 a3_1 : Int) (h1 : (Lit.int .u16 a2).wf = true) (h2 : (Lit.int .i16 a3_0).wf = true) (h3 : (Lit.int .i16 a3_1).wf = true) :
    ∃ k, punchcutlaw08_DistMore.f k l0 l1 a2 a3_0 a3_1 = some true := by
  refine Ret.of ?_
  obtain ⟨a, ha, hga⟩ := glyph_eq l0
  obtain ⟨b, hb, hgb⟩ := glyph_eq l1
  obtain ⟨p, hp, px, py⟩ := spot_eq a ha.small (by have := ha.few; omega) h1 h2 h3
  have hP : PtIn p := ⟨by unfold Mid; omega, by unfold Mid; omega⟩
  have la := ha.few
  have lb := hb.few
  have hab : AllIn (a ++ b) := fun e he => by
    rcases List.mem_append.1 he with h | h
    · exact ha.small e h
    · exact hb.small e h
  unfold punchcutlaw08_DistMore.f
  refine Ret.bind awake08_eq ?_
  simp only [if_true]
  refine Ret.bind hga (Ret.bind hgb ?_)
  rw [hp]
  refine Ret.bind (Ret.const rfl) ?_
  by_cases ea : a = []
  · subst ea
    rw [List.nil_append]
    by_cases eb : b = []
    · subst eb
      refine Ret.bind (eight_nil p) (Ret.bind (eight_nil p) (Ret.bind (eight_nil p) (Ret.const ?_)))
      rw [if_pos ⟨by simp, by unfold more_want; omega⟩]
    · obtain ⟨y, hy, hry⟩ := eight_eq b p hb.small hP (few hb (by omega)) eb
      have y0 := hy.1
      refine Ret.bind (eight_nil p) (Ret.bind hry (Ret.bind hry (Ret.const ?_)))
      rw [if_pos ⟨⟨by simp, by omega⟩, by unfold more_want; rw [if_pos (by omega), if_pos (by omega)]⟩]
  · obtain ⟨x, hx, hrx⟩ := eight_eq a p ha.small hP (few ha (by omega)) ea
    have x0 := hx.1
    by_cases eb : b = []
    · subst eb
      rw [List.append_nil]
      refine Ret.bind hrx (Ret.bind (eight_nil p) (Ret.bind hrx (Ret.const ?_)))
      rw [if_pos ⟨⟨by omega, by simp⟩, by unfold more_want; rw [if_pos (by omega), if_neg (by omega)]⟩]
    · obtain ⟨y, hy, hry⟩ := eight_eq b p hb.small hP (few hb (by omega)) eb
      obtain ⟨z, hz, hrz⟩ := eight_eq (a ++ b) p hab hP (by rw [List.length_append]; omega) (by simp [ea])
      have y0 := hy.1
      have e := hz.unique (Is8.append hx hy)
      subst e
      refine Ret.bind hrx (Ret.bind hry (Ret.bind hrz (Ret.const ?_)))
      rw [if_pos ⟨⟨by omega, by omega⟩, by unfold more_want; rw [if_neg (show ¬ (x < 0 ∨ y < 0) by omega)]⟩]
end Go.Proofs.Ytlljpjbhndcaiaa.M
end
section
set_option linter.unusedVariables false
set_option linter.unusedSimpArgs false
namespace Go.Proofs.Ytlljpjbhndcaiaa.distMore
open Go.ChangeShapes Go.WideShapes Go.ChangeAt Go.RowKit
open Go.Proofs.Ytlljpjbhndcaiaa.Rw (laidOut own open_dots open_spec open_grid open_place)
set_option maxRecDepth 100000 in
theorem lifted (os : Os) (started : os.Started) (H : Type) (enc : TypeId × Value → H) :
    ReturnsInHanded {} Try.checked os 5 .any (Rows.distMoreSpec.pre6 enc Try.prog Try.f5 Rows.distMoreRow.domain false) (Rows.distMoreSpec.post enc Try.prog Try.f5 false true false false) := by
  refine returnsInHanded_of_change_sized (C := Try.checked) own started (by kernel_rfl) Try.func5
    (ChangeSpec.witness6 (enc := enc) (C := Try.checked) false ⟨#[], #[.slice none 0 0, .slice none 0 0, .int .u16 0, .agg #[.int .i16 0, .int .i16 0]], []⟩ 8 (by kernel_rfl) (by kernel_rfl) (by kernel_rfl) (by kernel_rfl)) ?_
  intro W base args ds gs before hval0 hW hcnd hsz0 _
  have hval : ∀ (j : Nat) t v, Try.f5.params[j]? = some t → args[j]? = some v → Value.okWide Try.prog W .any base t v := hval0
  have hW' := hW
  obtain ⟨p, q, hA0, hV, rfl, hfz, hnd⟩ := hW
  have hA : DataW.TrodAll enc Try.prog W 0 (fun _ => true) true Try.f5.params.toList args.toList ds p := hA0
  rw [Try.params5] at hA hval
  obtain ⟨v0, vs0, d0, ds0, p0, q0, hargs, rfl, rfl, h0, r0⟩ := trodAll_cons hA
  obtain ⟨v1, vs1, d1, ds1, p1, q1, rfl, rfl, rfl, h1, r1⟩ := trodAll_cons r0
  obtain ⟨v2, vs2, d2, ds2, p2, q2, rfl, rfl, rfl, h2, r2⟩ := trodAll_cons r1
  obtain ⟨v3, vs3, d3, ds3, p3, q3, rfl, rfl, rfl, h3, r3⟩ := trodAll_cons r2
  obtain ⟨rfl, rfl, rfl⟩ := trodAll_nil r3
  obtain rfl : args = #[v0, v1, v2, v3] := by cases args; simp_all
  obtain ⟨rfl, rfl⟩ := trodVars_none hV
  have k0 := h0
  have lt0 : ∀ x ∈ p0, x.block < W.heap.size := by obtain ⟨m, hm⟩ := k0; exact DataW.trod_lt m _ _ _ hm
  obtain ⟨A0, l0, c0, rfl, hc0, hr0⟩ := open_dots (hval 0 22 v0 rfl rfl) h0
  have k1 := h1
  have lt1 : ∀ x ∈ p1, x.block < W.heap.size := by obtain ⟨m, hm⟩ := k1; exact DataW.trod_lt m _ _ _ hm
  obtain ⟨A1, l1, c1, rfl, hc1, hr1⟩ := open_dots (hval 1 22 v1 rfl rfl) h1
  obtain ⟨a2, rfl, rfl, rfl, w2⟩ := open_int Try.underlying23 (hval 2 23 v2 rfl rfl) h2
  have k3 := h3
  have lt3 : ∀ x ∈ p3, x.block < W.heap.size := by obtain ⟨m, hm⟩ := k3; exact DataW.trod_lt m _ _ _ hm
  obtain ⟨a3_0, a3_1, rfl, w3_0, w3_1⟩ := open_place (hval 3 26 v3 rfl rfl) h3
  clear hA0 hval0 hsz0
  obtain ⟨k, hk⟩ := M.DistMore l0 l1 a2 a3_0 a3_1 w2 w3_0 w3_1
  refine (Q.punchcutlaw08_DistMore.calls k A0 c0 l0 A1 c1 l1 a2 a3_0 a3_1 true W hr0 hc0 hr1 hc1 hk).mono fun e W' ⟨he, bel⟩ => ?_
  subst he
  exact ⟨_, rfl, _, _, _, [], _, [], hW', trodAll_mk1 (shut_bool Try.underlying4 _), (trodAll_cons_mk (Below.trod laidOut (by kernel_rfl) (of_decide_eq_true (by kernel_rfl)) k0 bel lt0) (trodAll_cons_mk (Below.trod laidOut (by kernel_rfl) (of_decide_eq_true (by kernel_rfl)) k1 bel lt1) (trodAll_cons_mk (shut_int Try.underlying23 w2) (trodAll_cons_mk (Below.trod laidOut (by kernel_rfl) (of_decide_eq_true (by kernel_rfl)) k3 bel lt3) trodAll_mk0)))), rfl, bel.frame _, fun h => by cases h⟩
theorem over : Rows.distMoreRow.holds Try.pinned (OpenSpec.ofChange Rows.distMoreSpec) :=
  OpenClaim.holds_of_wide 5 Try.f5 rfl rfl rfl rfl rfl rfl rfl ⟨rfl, rfl, rfl, rfl, rfl⟩ rfl rfl rfl rfl rfl (by kernel_rfl) Try.func5 (by kernel_rfl)
    (of_decide_eq_true (by kernel_rfl)) (by unfold Func.isWrapper; first | (rw [if_pos (by decide +kernel)]; kernel_rfl) | (rw [if_neg (by decide +kernel)]; exact ⟨rfl, rfl⟩))
    (fun os started H enc _ => lifted os started H enc)
theorem proved : Rows.DistMoreSaid := over
#print axioms proved
end Go.Proofs.Ytlljpjbhndcaiaa.distMore
namespace Go.Proofs.Ytlljpjbhndcaiaa
theorem distMore_holds : Rows.DistMoreSaid := distMore.proved
end Go.Proofs.Ytlljpjbhndcaiaa
end
