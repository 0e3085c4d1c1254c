/- What the proof of the law DistSome leans on, part 2. -/
import Derived.Test.YtlljpjbhndcaiaaDistSomeC1
set_option linter.unusedVariables false
set_option linter.unusedSimpArgs false
set_option linter.unusedSectionVars false
section
namespace Go.Proofs.Ytlljpjbhndcaiaa.Q
open Go.RowKit Go.Proofs.YtlljpjbhndcaiaaW.PrintWords Go.Proofs.YtlljpjbhndcaiaaW.PrintLast Go.Proofs.YtlljpjbhndcaiaaW.PrintMore
attribute [local go_sem] max2_int min2_int max_two min_two max_three min_three max_four min_four
set_option linter.unusedVariables false
set_option linter.unusedSimpArgs false
def root_Scaled.j0 : Nat → Int → Bool → Int → Int → Option (Int)
  | 0, _, _, _, _ => none
  | k + 1, x1, x23, x122000, x122001 => if x23 = true then (some (-1)) else ((wide_Mul.f (IntKind.u64.wrap (x122000)) (IntKind.u64.wrap (wrap64 (x1 * x1)))).bind fun bt122 => ((wide_Pair_Div.f k bt122.1 bt122.2 (IntKind.u64.wrap (x122001))).bind fun bt124 => (if bt124.2.2 = 0 then (if bt124.1 > 4611686018427387904 then (some (-1)) else ((root_Sqrt.f k (wrap64 (bt124.1))).bind fun t127 => (some t127))) else (some (-1)))))
def root_Scaled.f (k : Nat) (a0_0 : Int) (a0_1 : Int) (a1 : Int) : Option (Int) := if a1 < 0 then (root_Scaled.j0 k a1 true a0_0 a0_1) else (if a1 > 1048576 then (root_Scaled.j0 k a1 true a0_0 a0_1) else (if a0_0 < 0 then (root_Scaled.j0 k a1 true a0_0 a0_1) else (root_Scaled.j0 k a1 (decide (a0_1 < 1)) a0_0 a0_1)))
theorem root_Scaled.mono_l : ∀ k, (∀ y0 y1 y2 y3, LeO (root_Scaled.j0 k y0 y1 y2 y3) (root_Scaled.j0 (k + 1) y0 y1 y2 y3))
  | 0 => fun _ _ _ _ r h => by simp [root_Scaled.j0] at h
  | k + 1 => by
    have ih0 := root_Scaled.mono_l k
    · intro y0 y1 y2 y3
      unfold root_Scaled.j0
      repeat' first
      | (with_reducible exact ih0 _ _ _ _)
      | (with_reducible exact root_Sqrt.mono _ _)
      | (with_reducible exact wide_Pair_Div.mono _ _ _ _)
      | (with_reducible exact LeO.refl _)
      | (with_reducible exact LeO.none _)
      | (with_reducible refine LeO.ite ?_ ?_)
      | (with_reducible refine LeO.bind ?_ (fun _ => ?_))
      | exact ih0 _ _ _ _
      | exact root_Sqrt.mono _ _
      | exact wide_Pair_Div.mono _ _ _ _
      | exact LeO.none _
      | refine LeO.ite ?_ ?_
      | refine LeO.bind ?_ (fun _ => ?_)
theorem root_Scaled.mono : ∀ a0 a1 a2 k, LeO (root_Scaled.f k a0 a1 a2) (root_Scaled.f (k + 1) a0 a1 a2) := by
  intro a0 a1 a2 k
  have ih0 := root_Scaled.mono_l k
  unfold root_Scaled.f
  repeat' first
      | (with_reducible exact ih0 _ _ _ _)
      | (with_reducible exact root_Sqrt.mono _ _)
      | (with_reducible exact wide_Pair_Div.mono _ _ _ _)
      | (with_reducible exact LeO.refl _)
      | (with_reducible exact LeO.none _)
      | (with_reducible refine LeO.ite ?_ ?_)
      | (with_reducible refine LeO.bind ?_ (fun _ => ?_))
      | exact ih0 _ _ _ _
      | exact root_Sqrt.mono _ _
      | exact wide_Pair_Div.mono _ _ _ _
      | exact LeO.none _
      | refine LeO.ite ?_ ?_
      | refine LeO.bind ?_ (fun _ => ?_)
def root_Scaled.T3 : Bool × List (List Nat × List Nat) := (true, [([], []), ([0], [0]), ([1], [1]), ([], []), ([], []), ([3, 4], [3, 4]), ([5], [5]), ([2, 6], [2, 6]), ([], []), ([8], [8]), ([9], [9]), ([7, 10, 7], [7, 10]), ([11], [11]), ([12], [12]), ([12], [12]), ([12], [12]), ([13, 11, 0, 1, 2, 3, 4, 5, 6, 7, 8, 9, 10, 11, 12, 13], [13]), ([14, 16, 0, 1, 2, 3, 4, 5, 6, 7, 8, 9, 10, 11, 12, 13, 14, 16], [14]), ([15, 17, 0, 1, 2, 3, 4, 5, 6, 7, 8, 9, 10, 11, 12, 13, 14, 15, 16, 17], [15])])
def root_Scaled.B3 : List Nat := [0, 1, 3, 0, 0, 24, 56, 127, 0, 256, 768, 2047, 4095, 8191, 8191, 8191, 16383, 98303, 262143]
theorem root_Scaled.tab3 : rtab .any (opsOf Try.f52 3) = root_Scaled.T3 := by kernel_rfl
theorem root_Scaled.bits3 : waitsOk root_Scaled.T3.2 root_Scaled.B3 = true := by kernel_rfl
set_option maxHeartbeats 8000000 in
set_option maxRecDepth 100000 in
theorem root_Scaled.calls (k : Nat) (a0_0 : Int) (a0_1 : Int) (a1 : Int) (r : Int) (w : World) (h : root_Scaled.f k a0_0 a0_1 a1 = some r) :
    Calls Try.prog 52 #[.agg #[.int .i64 a0_0, .int .i64 a0_1], .int .i64 a1] w fun e w' => e = .returned (.int .i64 r) ∧ Below w.heap.size w w' := by
  have hu36 := Try.underlying36
  have HB := Aside0.mk (Below.refl w.heap.size w)
  have H : (if a1 < 0 then (root_Scaled.j0 k a1 true a0_0 a0_1) else (if a1 > 1048576 then (root_Scaled.j0 k a1 true a0_0 a0_1) else (if a0_0 < 0 then (root_Scaled.j0 k a1 true a0_0 a0_1) else (root_Scaled.j0 k a1 (decide (a0_1 < 1)) a0_0 a0_1)))) = some r := h
  clear h
  have HC3 := Aside0.mk H
  clear H
  go_enter Try.func52, Try.ntmps52
  go_upto_region 1 with (first | ((with_reducible refine gate_dst (N := 2) rfl ?_); refine box_event ?hg (N := 2) ?hd (cs := #[.int .i64 a0_0, .int .i64 a0_1]) (t := 36) ?hr ?_; (case hd => rfl); (case hg => rfl); (case hr => first | (go_simp; done) | (go_simp; rfl)); intro gb121 hg w4 hbox hb; have n0_ := Aside0.mk (below_step (by repeat (first | (with_reducible first | exact HB.out | apply below_alloc | apply pw_below_drewN | apply below_drew1) | exact HB.out)) hb); have n1_ := Aside0.mk (hbox); have n2_ := Aside0.mk ((by rw [hg]; exact (below_size (by repeat (first | (with_reducible first | exact HB.out | apply below_alloc | apply pw_below_drewN | apply below_drew1) | exact HB.out))) : w.heap.size ≤ gb121)); have n3_ := Aside0.mk ((by rw [hg]; exact (below_size (by repeat (first | (with_reducible first | exact HB.out | apply below_alloc | apply pw_below_drewN | apply below_drew1) | exact HB.out))) : w.heap.size ≤ gb121)); clear HB; have HB := n0_; have BK121 := n1_; have GW121 := n2_; have GE121 := n3_; clear n0_ n1_ n2_ n3_; clear hb hbox hg))
  (try simp only [Act.put, List.setIfInBounds_toArray, List.set_cons_zero, List.set_cons_succ])
  go_cut [23] (fun v23 wc => ∃ (kq : Nat) (x23_2 : Bool), v23 = .bool x23_2 ∧ Aside0 (root_Scaled.j0 kq a1 x23_2 a0_0 a0_1 = some r) ∧ Aside0 (kq ≤ k) ∧ Aside0 (wc.heap[gb121]? = some (.cells #[.int .i64 a0_0, .int .i64 a0_1] 36 (0, 0))) ∧ Aside0 (Below w.heap.size w wc))
  case first =>
    have H := HC3.out
    clear HC3
    by_cases c5 : a1 < 0
    · rw [if_pos c5] at H
      have c5b0 : decide (a1 < 0) = true := decide_eq_true c5
      clear c5
      (first | rw [c5b0] | (simp only [i64_w, i32_w]; rw [c5b0]) | skip)
      have H' := Aside0.mk H
      clear H
      go_wp2
      go_meet
      case rel => exact ⟨_, (true), (by first | rfl | (simp; done) | (simp [*]; done)), H', ⟨by first | omega | exact Nat.le_refl _⟩, ⟨by (with_reducible repeat (first | refine blk_drewN ?_ _ | refine blk_drew ?_ | refine blk_alloc ?_ _)); exact BK121.out⟩, ⟨by repeat (first | (with_reducible first | exact HB.out | apply below_alloc | apply pw_below_drewN | apply below_drew1 | refine below_set ?_ GE121.out) | exact HB.out)⟩⟩
    · rw [if_neg c5] at H
      have c5b0 : decide (a1 < 0) = false := decide_eq_false c5
      clear c5
      (first | rw [c5b0] | (simp only [i64_w, i32_w]; rw [c5b0]) | skip)
      by_cases c6 : a1 > 1048576
      · rw [if_pos c6] at H
        have c6b0 : decide (1048576 < a1) = true := decide_eq_true c6
        clear c6
        have H' := Aside0.mk H
        clear H
        go_wp2
        go_meet
        case rel => exact ⟨_, (true), (by first | rfl | (simp; done) | (simp [*]; done)), H', ⟨by first | omega | exact Nat.le_refl _⟩, ⟨by (with_reducible repeat (first | refine blk_drewN ?_ _ | refine blk_drew ?_ | refine blk_alloc ?_ _)); exact BK121.out⟩, ⟨by repeat (first | (with_reducible first | exact HB.out | apply below_alloc | apply pw_below_drewN | apply below_drew1 | refine below_set ?_ GE121.out) | exact HB.out)⟩⟩
      · rw [if_neg c6] at H
        have c6b0 : decide (1048576 < a1) = false := decide_eq_false c6
        clear c6
        by_cases c7 : a0_0 < 0
        · rw [if_pos c7] at H
          have c7b0 : decide (a0_0 < 0) = true := decide_eq_true c7
          clear c7
          have H' := Aside0.mk H
          clear H
          have hcz8_0 : w4.cell? ⟨gb121, 0, none⟩ = some (.int .i64 a0_0) := (blk_cell BK121.out 0).trans rfl
          have hcz8_1 : w4.cell? ⟨gb121, 1, none⟩ = some (.int .i64 a0_1) := (blk_cell BK121.out 1).trans rfl
          have hfz8_0 := blk_frozen BK121.out 0
          have hfz8_1 := blk_frozen BK121.out 1
          go_wp2
          go_meet
          case rel => exact ⟨_, (true), (by first | rfl | (simp; done) | (simp [*]; done)), H', ⟨by first | omega | exact Nat.le_refl _⟩, ⟨by (with_reducible repeat (first | refine blk_drewN ?_ _ | refine blk_drew ?_ | refine blk_alloc ?_ _)); exact BK121.out⟩, ⟨by repeat (first | (with_reducible first | exact HB.out | apply below_alloc | apply pw_below_drewN | apply below_drew1 | refine below_set ?_ GE121.out) | exact HB.out)⟩⟩
        · rw [if_neg c7] at H
          have c7b0 : decide (a0_0 < 0) = false := decide_eq_false c7
          clear c7
          have H' := Aside0.mk H
          clear H
          have hcz9_0 : w4.cell? ⟨gb121, 0, none⟩ = some (.int .i64 a0_0) := (blk_cell BK121.out 0).trans rfl
          have hcz9_1 : w4.cell? ⟨gb121, 1, none⟩ = some (.int .i64 a0_1) := (blk_cell BK121.out 1).trans rfl
          have hfz9_0 := blk_frozen BK121.out 0
          have hfz9_1 := blk_frozen BK121.out 1
          go_wp2
          go_meet
          case rel => exact ⟨_, (decide (a0_1 < 1)), (by first | rfl | (simp; done) | (simp [*]; done)), H', ⟨by first | omega | exact Nat.le_refl _⟩, ⟨by (with_reducible repeat (first | refine blk_drewN ?_ _ | refine blk_drew ?_ | refine blk_alloc ?_ _)); exact BK121.out⟩, ⟨by repeat (first | (with_reducible first | exact HB.out | apply below_alloc | apply pw_below_drewN | apply below_drew1 | refine below_set ?_ GE121.out) | exact HB.out)⟩⟩
  case rest =>
    clear HC3
    try clear p2
    try clear c5
    try clear c5b0
    try clear c6
    try clear c6b0
    try clear c7
    try clear c7b0
    try clear hcz8_0
    try clear hcz8_1
    try clear hcz9_0
    try clear hcz9_1
    try clear hfz8_0
    try clear hfz8_1
    try clear hfz9_0
    try clear hfz9_1
    obtain ⟨kq, x23_2, rfl, HA, HJ2, BK121, HB⟩ := hcut
    cases kq with
    | zero => exact absurd HA.out (by simp [root_Scaled.j0])
    | succ kj2 =>
      have H := HA.out
      clear HA
      simp only [root_Scaled.j0] at H
      by_cases c10 : x23_2 = true
      · subst c10
        have H1 : (some (-1)) = some r := by rw [if_pos rfl] at H; exact H
        clear H
        have H := H1
        clear H1
        obtain rfl := Option.some.inj H
        go_wp2
        go_ret
        exact ⟨by first | rfl | (simp [errW_none, errW_some] <;> rfl) | (simp [*, errW_none, errW_some] <;> rfl), by repeat (first | (with_reducible first | exact HB.out | apply below_alloc | apply pw_below_drewN | apply below_drew1 | refine below_set ?_ GE121.out) | exact HB.out)⟩
      · replace c10 := Bool.eq_false_iff.mpr c10
        subst c10
        have H1 : ((wide_Mul.f (IntKind.u64.wrap (a0_0)) (IntKind.u64.wrap (wrap64 (a1 * a1)))).bind fun bt122 => ((wide_Pair_Div.f kj2 bt122.1 bt122.2 (IntKind.u64.wrap (a0_1))).bind fun bt124 => (if bt124.2.2 = 0 then (if bt124.1 > 4611686018427387904 then (some (-1)) else ((root_Sqrt.f kj2 (wrap64 (bt124.1))).bind fun t127 => (some t127))) else (some (-1))))) = some r := by rw [if_neg (show ¬ (false = true) by decide)] at H; exact H
        clear H
        have H := H1
        clear H1
        replace H := Option.bind_eq_some_iff.mp H
        obtain ⟨⟨t122, t123⟩, A110, H⟩ := H
        replace H : ((wide_Pair_Div.f kj2 t122 t123 (IntKind.u64.wrap (a0_1))).bind fun bt124 => (if bt124.2.2 = 0 then (if bt124.1 > 4611686018427387904 then (some (-1)) else ((root_Sqrt.f kj2 (wrap64 (bt124.1))).bind fun t127 => (some t127))) else (some (-1)))) = some r := H
        have A11 := Aside0.mk A110
        clear A110
        replace H := Option.bind_eq_some_iff.mp H
        obtain ⟨⟨t124, t125, t126⟩, A120, H⟩ := H
        replace H : (if t126 = 0 then (if t124 > 4611686018427387904 then (some (-1)) else ((root_Sqrt.f kj2 (wrap64 (t124))).bind fun t127 => (some t127))) else (some (-1))) = some r := H
        have A12 := Aside0.mk A120
        clear A120
        by_cases c13 : t126 = 0
        · rw [if_pos c13] at H
          have c13b0 : (t126 == 0) = true := beq_iff_eq.mpr c13
          have c13b1 : (t126 != 0) = false := bne_eq_false_iff_eq.mpr c13
          clear c13
          by_cases c14 : t124 > 4611686018427387904
          · rw [if_pos c14] at H
            have c14b0 : decide (4611686018427387904 < t124) = true := decide_eq_true c14
            clear c14
            obtain rfl := Option.some.inj H
            try go_wp2
            have n0_ := Aside0.mk (blk_drew BK121.out)
            have n1_ := Aside0.mk (below_drew1 HB.out)
            clear BK121
            clear HB
            have BK121 := n0_
            have HB := n1_
            clear n0_ n1_
            refine start_ (n := 19) (S := fun w' => w'.cell? ⟨gb121, 0, none⟩ = some (.int .i64 a0_0) ∧ w'.cell? ⟨gb121, 1, none⟩ = some (.int .i64 a0_1)) (ds := []) #[false, false, false, false, false, false, false, false, false, false, false, false, false, false, false, false, false, false, false] (by kernel_rfl) rfl rfl ⟨(blk_cell BK121.out 0).trans rfl, (blk_cell BK121.out 1).trans rfl⟩ (fun hHeld => ?_); refine with_tabW root_Scaled.tab3 root_Scaled.bits3 (fun HT_ HW_ => ?_)
            generalize wc.drew = w15 at BK121 HB hHeld ⊢
            refine pure_ (i := 0) (N := some 25) (v := ?_) (a' := ?_) #[true, false, false, false, false, false, false, false, false, false, false, false, false, false, false, false, false, false, false] rfl rfl (any_of HT_.out (by kernel_rfl)) (fun _ _ _ h => h) (Or.inl ⟨by rfl, ?_⟩) ?_ ?_
            rotate_left
            · intro w'
              go_simp
              with_reducible rfl
            rotate_left
            · simp only [Act.put, List.setIfInBounds_toArray, List.set_cons_zero, List.set_cons_succ, i64_w, i32_w]
              rfl
            refine pure_ (i := 3) (N := some 28) (v := ?_) (a' := ?_) #[true, false, false, true, false, false, false, false, false, false, false, false, false, false, false, false, false, false, false] rfl rfl (any_of HT_.out (by kernel_rfl)) (fun _ _ _ h => h) (Or.inl ⟨by rfl, ?_⟩) ?_ ?_
            rotate_left
            · intro w'
              go_simp
              with_reducible rfl
            rotate_left
            · simp only [Act.put, List.setIfInBounds_toArray, List.set_cons_zero, List.set_cons_succ, i64_w, i32_w]
              rfl
            refine pure_ (i := 4) (N := some 29) (v := ?_) (a' := ?_) #[true, false, false, true, true, false, false, false, false, false, false, false, false, false, false, false, false, false, false] rfl rfl (any_of HT_.out (by kernel_rfl)) (fun _ _ _ h => h) (Or.inl ⟨by rfl, ?_⟩) ?_ ?_
            rotate_left
            · intro w'
              go_simp
              with_reducible rfl
            rotate_left
            · simp only [Act.put, List.setIfInBounds_toArray, List.set_cons_zero, List.set_cons_succ, i64_w, i32_w]
              rfl
            refine pure_ (i := 5) (N := some 30) (v := ?_) (a' := ?_) #[true, false, false, true, true, true, false, false, false, false, false, false, false, false, false, false, false, false, false] rfl rfl (any_of HT_.out (by kernel_rfl)) (fun _ _ _ h => h) (Or.inl ⟨by rfl, ?_⟩) ?_ ?_
            rotate_left
            · intro w'
              go_simp
              with_reducible rfl
            rotate_left
            · simp only [Act.put, List.setIfInBounds_toArray, List.set_cons_zero, List.set_cons_succ, i64_w, i32_w]
              rfl
            refine pure_ (i := 6) (N := some 31) (v := ?_) (a' := ?_) #[true, false, false, true, true, true, true, false, false, false, false, false, false, false, false, false, false, false, false] rfl rfl (any_of HT_.out (by kernel_rfl)) (fun _ _ _ h => h) (Or.inl ⟨by rfl, ?_⟩) ?_ ?_
            rotate_left
            · intro w'
              go_simp
              with_reducible rfl
            rotate_left
            · simp only [Act.put, List.setIfInBounds_toArray, List.set_cons_zero, List.set_cons_succ, i64_w, i32_w]
              rfl
            refine pure_ (i := 8) (N := some 33) (v := ?_) (a' := ?_) #[true, false, false, true, true, true, true, false, true, false, false, false, false, false, false, false, false, false, false] rfl rfl (any_of HT_.out (by kernel_rfl)) (fun _ _ _ h => h) (Or.inl ⟨by rfl, ?_⟩) ?_ ?_
            rotate_left
            · intro w'
              go_simp
              with_reducible rfl
            rotate_left
            · simp only [Act.put, List.setIfInBounds_toArray, List.set_cons_zero, List.set_cons_succ, i64_w, i32_w]
              rfl
            refine take_ (i := 1) (N := some 26) (v := ?_) (a' := ?_) #[true, true, false, true, true, true, true, false, true, false, false, false, false, false, false, false, false, false, false] rfl rfl (take_ofW HT_.out HW_.out (by kernel_rfl)) (fun _ _ _ h => h) (Or.inl ⟨by rfl, ?_⟩) hHeld ?_ ?_
            rotate_left
            · rintro w' ⟨s0, s1⟩
              go_simp
              with_reducible rfl
            rotate_left
            · simp only [Act.put, List.setIfInBounds_toArray, List.set_cons_zero, List.set_cons_succ, i64_w, i32_w]
              rfl
            refine pure_ (i := 2) (N := some 27) (v := ?_) (a' := ?_) #[true, true, true, true, true, true, true, false, true, false, false, false, false, false, false, false, false, false, false] rfl rfl (any_of HT_.out (by kernel_rfl)) (fun _ _ _ h => h) (Or.inl ⟨by rfl, ?_⟩) ?_ ?_
            rotate_left
            · intro w'
              go_simp
              with_reducible rfl
            rotate_left
            · simp only [Act.put, List.setIfInBounds_toArray, List.set_cons_zero, List.set_cons_succ, i64_w, i32_w]
              rfl
            refine take_ (i := 9) (N := some 34) (v := ?_) (a' := ?_) #[true, true, true, true, true, true, true, false, true, true, false, false, false, false, false, false, false, false, false] rfl rfl (take_ofW HT_.out HW_.out (by kernel_rfl)) (fun _ _ _ h => h) (Or.inl ⟨by rfl, ?_⟩) hHeld ?_ ?_
            rotate_left
            · rintro w' ⟨s0, s1⟩
              go_simp
              with_reducible rfl
            rotate_left
            · simp only [Act.put, List.setIfInBounds_toArray, List.set_cons_zero, List.set_cons_succ, i64_w, i32_w]
              rfl
            refine pure_ (i := 10) (N := some 35) (v := ?_) (a' := ?_) #[true, true, true, true, true, true, true, false, true, true, true, false, false, false, false, false, false, false, false] rfl rfl (any_of HT_.out (by kernel_rfl)) (fun _ _ _ h => h) (Or.inl ⟨by rfl, ?_⟩) ?_ ?_
            rotate_left
            · intro w'
              go_simp
              with_reducible rfl
            rotate_left
            · simp only [Act.put, List.setIfInBounds_toArray, List.set_cons_zero, List.set_cons_succ, i64_w, i32_w]
              rfl
            refine one_ (i := 7) (N := some 32) #[true, true, true, true, true, true, true, true, true, true, true, false, false, false, false, false, false, false, false] rfl rfl (one_of HT_.out (by kernel_rfl)) (by decide) (fun K hK => ?_)
            refine goes_ Try.func78 (by kernel_rfl) rfl #[.int .u64 (IntKind.u64.wrap (a0_0)), .int .u64 (IntKind.u64.wrap (wrap64 (a1 * a1)))] (by rfl) rfl rfl (by (try simp only [List.map_toArray, List.map_cons, List.map_nil]); first | done | rfl | (simp only [List.length_drop, List.length_take]; rfl)) ?_
            with_reducible refine (wide_Mul.calls (IntKind.u64.wrap (a0_0)) (IntKind.u64.wrap (wrap64 (a1 * a1))) t122 t123 _ A11.out).mono ?_
            rintro e w16 ⟨rfl, hb⟩
            refine ⟨_, rfl, ?_⟩
            have n0_ := Aside0.mk (blk_below (g := gb121) (o := .cells #[.int .i64 a0_0, .int .i64 a0_1] 36 (0, 0)) (by (with_reducible repeat (first | refine blk_drewN ?_ _ | refine blk_drew ?_ | refine blk_alloc ?_ _)); exact BK121.out) hb)
            have n1_ := Aside0.mk (below_step (by repeat (first | (with_reducible first | exact HB.out | apply below_alloc | apply pw_below_drewN | apply below_drew1 | refine below_set ?_ GE121.out) | exact HB.out)) hb)
            clear BK121
            clear HB
            have BK121 := n0_
            have HB := n1_
            clear n0_ n1_
            (try clear hb)
            (try clear hb2)
            (try clear hk)
            (try clear hi)
            refine hK.out _ _ ⟨(blk_cell BK121.out 0).trans rfl, (blk_cell BK121.out 1).trans rfl⟩ (fun hHeld => ?_)
            clear hK K
            refine norm_ (a' := ?_) ?_ ?_
            rotate_left
            · show Act.put _ (some 32) _ = _
              simp only [Act.put, List.setIfInBounds_toArray, List.set_cons_zero, List.set_cons_succ, i64_w, i32_w]
              rfl
            refine one_ (i := 11) (N := some 36) #[true, true, true, true, true, true, true, true, true, true, true, true, false, false, false, false, false, false, false] rfl rfl (one_of HT_.out (by kernel_rfl)) (by decide) (fun K hK => ?_)
            refine goes_ Try.func79 (by kernel_rfl) rfl #[.agg #[.int .u64 t122, .int .u64 t123], .int .u64 (IntKind.u64.wrap (a0_1))] (by rfl) rfl rfl (by (try simp only [List.map_toArray, List.map_cons, List.map_nil]); first | done | rfl | (simp only [List.length_drop, List.length_take]; rfl)) ?_
            with_reducible refine (wide_Pair_Div.calls kj2 t122 t123 (IntKind.u64.wrap (a0_1)) t124 t125 t126 _ A12.out).mono ?_
            rintro e w17 ⟨rfl, hb⟩
            refine ⟨_, rfl, ?_⟩
            have n0_ := Aside0.mk (blk_below (g := gb121) (o := .cells #[.int .i64 a0_0, .int .i64 a0_1] 36 (0, 0)) (by (with_reducible repeat (first | refine blk_drewN ?_ _ | refine blk_drew ?_ | refine blk_alloc ?_ _)); exact BK121.out) hb)
            have n1_ := Aside0.mk (below_step (by repeat (first | (with_reducible first | exact HB.out | apply below_alloc | apply pw_below_drewN | apply below_drew1 | refine below_set ?_ GE121.out) | exact HB.out)) hb)
            clear BK121
            clear HB
            have BK121 := n0_
            have HB := n1_
            clear n0_ n1_
            (try clear hb)
            (try clear hb2)
            (try clear hk)
            (try clear hi)
            refine hK.out _ _ ⟨(blk_cell BK121.out 0).trans rfl, (blk_cell BK121.out 1).trans rfl⟩ (fun hHeld => ?_)
            clear hK K
            refine norm_ (a' := ?_) ?_ ?_
            rotate_left
            · show Act.put _ (some 36) _ = _
              simp only [Act.put, List.setIfInBounds_toArray, List.set_cons_zero, List.set_cons_succ, i64_w, i32_w]
              rfl
            refine pure_ (i := 12) (N := some 24) (v := ?_) (a' := ?_) #[true, true, true, true, true, true, true, true, true, true, true, true, true, false, false, false, false, false, false] rfl rfl (any_of HT_.out (by kernel_rfl)) (fun _ _ _ h => h) (Or.inl ⟨by rfl, ?_⟩) ?_ ?_
            rotate_left
            · intro w'
              go_simp
              with_reducible rfl
            rotate_left
            · simp only [Act.put, List.setIfInBounds_toArray, List.set_cons_zero, List.set_cons_succ, i64_w, i32_w]
              rfl
            refine pure_ (i := 13) (N := some 37) (v := ?_) (a' := ?_) #[true, true, true, true, true, true, true, true, true, true, true, true, true, true, false, false, false, false, false] rfl rfl (any_of HT_.out (by kernel_rfl)) (fun _ _ _ h => h) (Or.inl ⟨by rfl, ?_⟩) ?_ ?_
            rotate_left
            · intro w'
              go_simp
              with_reducible rfl
            rotate_left
            · simp only [Act.put, List.setIfInBounds_toArray, List.set_cons_zero, List.set_cons_succ, i64_w, i32_w]
              rfl
            refine pure_ (i := 14) (N := some 38) (v := ?_) (a' := ?_) #[true, true, true, true, true, true, true, true, true, true, true, true, true, true, true, false, false, false, false] rfl rfl (any_of HT_.out (by kernel_rfl)) (fun _ _ _ h => h) (Or.inl ⟨by rfl, ?_⟩) ?_ ?_
            rotate_left
            · intro w'
              go_simp
              with_reducible rfl
            rotate_left
            · simp only [Act.put, List.setIfInBounds_toArray, List.set_cons_zero, List.set_cons_succ, i64_w, i32_w]
              rfl
            refine pure_ (i := 15) (N := some 39) (v := ?_) (a' := ?_) #[true, true, true, true, true, true, true, true, true, true, true, true, true, true, true, true, false, false, false] rfl rfl (any_of HT_.out (by kernel_rfl)) (fun _ _ _ h => h) (Or.inl ⟨by rfl, ?_⟩) ?_ ?_
            rotate_left
            · intro w'
              go_simp
              with_reducible rfl
            rotate_left
            · simp only [Act.put, List.setIfInBounds_toArray, List.set_cons_zero, List.set_cons_succ, i64_w, i32_w]
              rfl
            refine pure_ (i := 16) (N := some 5) (v := ?_) (a' := ?_) #[true, true, true, true, true, true, true, true, true, true, true, true, true, true, true, true, true, false, false] rfl rfl (any_of HT_.out (by kernel_rfl)) (fun _ _ _ h => h) (Or.inl ⟨by rfl, ?_⟩) ?_ ?_
            rotate_left
            · intro w'
              go_simp
              with_reducible rfl
            rotate_left
            · simp only [Act.put, List.setIfInBounds_toArray, List.set_cons_zero, List.set_cons_succ, i64_w, i32_w]
              rfl
            refine pure_ (i := 17) (N := some 6) (v := ?_) (a' := ?_) #[true, true, true, true, true, true, true, true, true, true, true, true, true, true, true, true, true, true, false] rfl rfl (any_of HT_.out (by kernel_rfl)) (fun _ _ _ h => h) (Or.inl ⟨by rfl, ?_⟩) ?_ ?_
            rotate_left
            · intro w'
              go_simp
              with_reducible rfl
            rotate_left
            · simp only [Act.put, List.setIfInBounds_toArray, List.set_cons_zero, List.set_cons_succ, i64_w, i32_w]
              rfl
            refine pure_ (i := 18) (N := some 7) (v := ?_) (a' := ?_) #[true, true, true, true, true, true, true, true, true, true, true, true, true, true, true, true, true, true, true] rfl rfl (any_of HT_.out (by kernel_rfl)) (fun _ _ _ h => h) (Or.inl ⟨by rfl, ?_⟩) ?_ ?_
            rotate_left
            · intro w'
              go_simp
              with_reducible rfl
            rotate_left
            · simp only [Act.put, List.setIfInBounds_toArray, List.set_cons_zero, List.set_cons_succ, i64_w, i32_w]
              rfl
            refine done_ (done_of HT_.out (by kernel_rfl)) ?_
            try go_wp2
            go_ret
            exact ⟨by first | rfl | (simp [errW_none, errW_some] <;> rfl) | (simp [*, errW_none, errW_some] <;> rfl), by repeat (first | (with_reducible first | exact HB.out | apply below_alloc | apply pw_below_drewN | apply below_drew1 | refine below_set ?_ GE121.out) | exact HB.out)⟩
          · rw [if_neg c14] at H
            have c14b0 : decide (4611686018427387904 < t124) = false := decide_eq_false c14
            clear c14
            replace H := Option.bind_eq_some_iff.mp H
            obtain ⟨t127, A180, H⟩ := H
            replace H : (some t127) = some r := H
            have A18 := Aside0.mk A180
            clear A180
            obtain rfl := Option.some.inj H
            try go_wp2
            have n0_ := Aside0.mk (blk_drew BK121.out)
            have n1_ := Aside0.mk (below_drew1 HB.out)
            clear BK121
            clear HB
            have BK121 := n0_
            have HB := n1_
            clear n0_ n1_
            refine start_ (n := 19) (S := fun w' => w'.cell? ⟨gb121, 0, none⟩ = some (.int .i64 a0_0) ∧ w'.cell? ⟨gb121, 1, none⟩ = some (.int .i64 a0_1)) (ds := []) #[false, false, false, false, false, false, false, false, false, false, false, false, false, false, false, false, false, false, false] (by kernel_rfl) rfl rfl ⟨(blk_cell BK121.out 0).trans rfl, (blk_cell BK121.out 1).trans rfl⟩ (fun hHeld => ?_); refine with_tabW root_Scaled.tab3 root_Scaled.bits3 (fun HT_ HW_ => ?_)
            generalize wc.drew = w19 at BK121 HB hHeld ⊢
            refine pure_ (i := 0) (N := some 25) (v := ?_) (a' := ?_) #[true, false, false, false, false, false, false, false, false, false, false, false, false, false, false, false, false, false, false] rfl rfl (any_of HT_.out (by kernel_rfl)) (fun _ _ _ h => h) (Or.inl ⟨by rfl, ?_⟩) ?_ ?_
            rotate_left
            · intro w'
              go_simp
              with_reducible rfl
            rotate_left
            · simp only [Act.put, List.setIfInBounds_toArray, List.set_cons_zero, List.set_cons_succ, i64_w, i32_w]
              rfl
            refine pure_ (i := 3) (N := some 28) (v := ?_) (a' := ?_) #[true, false, false, true, false, false, false, false, false, false, false, false, false, false, false, false, false, false, false] rfl rfl (any_of HT_.out (by kernel_rfl)) (fun _ _ _ h => h) (Or.inl ⟨by rfl, ?_⟩) ?_ ?_
            rotate_left
            · intro w'
              go_simp
              with_reducible rfl
            rotate_left
            · simp only [Act.put, List.setIfInBounds_toArray, List.set_cons_zero, List.set_cons_succ, i64_w, i32_w]
              rfl
            refine pure_ (i := 4) (N := some 29) (v := ?_) (a' := ?_) #[true, false, false, true, true, false, false, false, false, false, false, false, false, false, false, false, false, false, false] rfl rfl (any_of HT_.out (by kernel_rfl)) (fun _ _ _ h => h) (Or.inl ⟨by rfl, ?_⟩) ?_ ?_
            rotate_left
            · intro w'
              go_simp
              with_reducible rfl
            rotate_left
            · simp only [Act.put, List.setIfInBounds_toArray, List.set_cons_zero, List.set_cons_succ, i64_w, i32_w]
              rfl
            refine pure_ (i := 5) (N := some 30) (v := ?_) (a' := ?_) #[true, false, false, true, true, true, false, false, false, false, false, false, false, false, false, false, false, false, false] rfl rfl (any_of HT_.out (by kernel_rfl)) (fun _ _ _ h => h) (Or.inl ⟨by rfl, ?_⟩) ?_ ?_
            rotate_left
            · intro w'
              go_simp
              with_reducible rfl
            rotate_left
            · simp only [Act.put, List.setIfInBounds_toArray, List.set_cons_zero, List.set_cons_succ, i64_w, i32_w]
              rfl
            refine pure_ (i := 6) (N := some 31) (v := ?_) (a' := ?_) #[true, false, false, true, true, true, true, false, false, false, false, false, false, false, false, false, false, false, false] rfl rfl (any_of HT_.out (by kernel_rfl)) (fun _ _ _ h => h) (Or.inl ⟨by rfl, ?_⟩) ?_ ?_
            rotate_left
            · intro w'
              go_simp
              with_reducible rfl
            rotate_left
            · simp only [Act.put, List.setIfInBounds_toArray, List.set_cons_zero, List.set_cons_succ, i64_w, i32_w]
              rfl
            refine pure_ (i := 8) (N := some 33) (v := ?_) (a' := ?_) #[true, false, false, true, true, true, true, false, true, false, false, false, false, false, false, false, false, false, false] rfl rfl (any_of HT_.out (by kernel_rfl)) (fun _ _ _ h => h) (Or.inl ⟨by rfl, ?_⟩) ?_ ?_
            rotate_left
            · intro w'
              go_simp
              with_reducible rfl
            rotate_left
            · simp only [Act.put, List.setIfInBounds_toArray, List.set_cons_zero, List.set_cons_succ, i64_w, i32_w]
              rfl
            refine take_ (i := 1) (N := some 26) (v := ?_) (a' := ?_) #[true, true, false, true, true, true, true, false, true, false, false, false, false, false, false, false, false, false, false] rfl rfl (take_ofW HT_.out HW_.out (by kernel_rfl)) (fun _ _ _ h => h) (Or.inl ⟨by rfl, ?_⟩) hHeld ?_ ?_
            rotate_left
            · rintro w' ⟨s0, s1⟩
              go_simp
              with_reducible rfl
            rotate_left
            · simp only [Act.put, List.setIfInBounds_toArray, List.set_cons_zero, List.set_cons_succ, i64_w, i32_w]
              rfl
            refine pure_ (i := 2) (N := some 27) (v := ?_) (a' := ?_) #[true, true, true, true, true, true, true, false, true, false, false, false, false, false, false, false, false, false, false] rfl rfl (any_of HT_.out (by kernel_rfl)) (fun _ _ _ h => h) (Or.inl ⟨by rfl, ?_⟩) ?_ ?_
            rotate_left
            · intro w'
              go_simp
              with_reducible rfl
            rotate_left
            · simp only [Act.put, List.setIfInBounds_toArray, List.set_cons_zero, List.set_cons_succ, i64_w, i32_w]
              rfl
            refine take_ (i := 9) (N := some 34) (v := ?_) (a' := ?_) #[true, true, true, true, true, true, true, false, true, true, false, false, false, false, false, false, false, false, false] rfl rfl (take_ofW HT_.out HW_.out (by kernel_rfl)) (fun _ _ _ h => h) (Or.inl ⟨by rfl, ?_⟩) hHeld ?_ ?_
            rotate_left
            · rintro w' ⟨s0, s1⟩
              go_simp
              with_reducible rfl
            rotate_left
            · simp only [Act.put, List.setIfInBounds_toArray, List.set_cons_zero, List.set_cons_succ, i64_w, i32_w]
              rfl
            refine pure_ (i := 10) (N := some 35) (v := ?_) (a' := ?_) #[true, true, true, true, true, true, true, false, true, true, true, false, false, false, false, false, false, false, false] rfl rfl (any_of HT_.out (by kernel_rfl)) (fun _ _ _ h => h) (Or.inl ⟨by rfl, ?_⟩) ?_ ?_
            rotate_left
            · intro w'
              go_simp
              with_reducible rfl
            rotate_left
            · simp only [Act.put, List.setIfInBounds_toArray, List.set_cons_zero, List.set_cons_succ, i64_w, i32_w]
              rfl
            refine one_ (i := 7) (N := some 32) #[true, true, true, true, true, true, true, true, true, true, true, false, false, false, false, false, false, false, false] rfl rfl (one_of HT_.out (by kernel_rfl)) (by decide) (fun K hK => ?_)
            refine goes_ Try.func78 (by kernel_rfl) rfl #[.int .u64 (IntKind.u64.wrap (a0_0)), .int .u64 (IntKind.u64.wrap (wrap64 (a1 * a1)))] (by rfl) rfl rfl (by (try simp only [List.map_toArray, List.map_cons, List.map_nil]); first | done | rfl | (simp only [List.length_drop, List.length_take]; rfl)) ?_
            with_reducible refine (wide_Mul.calls (IntKind.u64.wrap (a0_0)) (IntKind.u64.wrap (wrap64 (a1 * a1))) t122 t123 _ A11.out).mono ?_
            rintro e w20 ⟨rfl, hb⟩
            refine ⟨_, rfl, ?_⟩
            have n0_ := Aside0.mk (blk_below (g := gb121) (o := .cells #[.int .i64 a0_0, .int .i64 a0_1] 36 (0, 0)) (by (with_reducible repeat (first | refine blk_drewN ?_ _ | refine blk_drew ?_ | refine blk_alloc ?_ _)); exact BK121.out) hb)
            have n1_ := Aside0.mk (below_step (by repeat (first | (with_reducible first | exact HB.out | apply below_alloc | apply pw_below_drewN | apply below_drew1 | refine below_set ?_ GE121.out) | exact HB.out)) hb)
            clear BK121
            clear HB
            have BK121 := n0_
            have HB := n1_
            clear n0_ n1_
            (try clear hb)
            (try clear hb2)
            (try clear hk)
            (try clear hi)
            refine hK.out _ _ ⟨(blk_cell BK121.out 0).trans rfl, (blk_cell BK121.out 1).trans rfl⟩ (fun hHeld => ?_)
            clear hK K
            refine norm_ (a' := ?_) ?_ ?_
            rotate_left
            · show Act.put _ (some 32) _ = _
              simp only [Act.put, List.setIfInBounds_toArray, List.set_cons_zero, List.set_cons_succ, i64_w, i32_w]
              rfl
            refine one_ (i := 11) (N := some 36) #[true, true, true, true, true, true, true, true, true, true, true, true, false, false, false, false, false, false, false] rfl rfl (one_of HT_.out (by kernel_rfl)) (by decide) (fun K hK => ?_)
            refine goes_ Try.func79 (by kernel_rfl) rfl #[.agg #[.int .u64 t122, .int .u64 t123], .int .u64 (IntKind.u64.wrap (a0_1))] (by rfl) rfl rfl (by (try simp only [List.map_toArray, List.map_cons, List.map_nil]); first | done | rfl | (simp only [List.length_drop, List.length_take]; rfl)) ?_
            with_reducible refine (wide_Pair_Div.calls kj2 t122 t123 (IntKind.u64.wrap (a0_1)) t124 t125 t126 _ A12.out).mono ?_
            rintro e w21 ⟨rfl, hb⟩
            refine ⟨_, rfl, ?_⟩
            have n0_ := Aside0.mk (blk_below (g := gb121) (o := .cells #[.int .i64 a0_0, .int .i64 a0_1] 36 (0, 0)) (by (with_reducible repeat (first | refine blk_drewN ?_ _ | refine blk_drew ?_ | refine blk_alloc ?_ _)); exact BK121.out) hb)
            have n1_ := Aside0.mk (below_step (by repeat (first | (with_reducible first | exact HB.out | apply below_alloc | apply pw_below_drewN | apply below_drew1 | refine below_set ?_ GE121.out) | exact HB.out)) hb)
            clear BK121
            clear HB
            have BK121 := n0_
            have HB := n1_
            clear n0_ n1_
            (try clear hb)
            (try clear hb2)
            (try clear hk)
            (try clear hi)
            refine hK.out _ _ ⟨(blk_cell BK121.out 0).trans rfl, (blk_cell BK121.out 1).trans rfl⟩ (fun hHeld => ?_)
            clear hK K
            refine norm_ (a' := ?_) ?_ ?_
            rotate_left
            · show Act.put _ (some 36) _ = _
              simp only [Act.put, List.setIfInBounds_toArray, List.set_cons_zero, List.set_cons_succ, i64_w, i32_w]
              rfl
            refine pure_ (i := 12) (N := some 24) (v := ?_) (a' := ?_) #[true, true, true, true, true, true, true, true, true, true, true, true, true, false, false, false, false, false, false] rfl rfl (any_of HT_.out (by kernel_rfl)) (fun _ _ _ h => h) (Or.inl ⟨by rfl, ?_⟩) ?_ ?_
            rotate_left
            · intro w'
              go_simp
              with_reducible rfl
            rotate_left
            · simp only [Act.put, List.setIfInBounds_toArray, List.set_cons_zero, List.set_cons_succ, i64_w, i32_w]
              rfl
            refine pure_ (i := 13) (N := some 37) (v := ?_) (a' := ?_) #[true, true, true, true, true, true, true, true, true, true, true, true, true, true, false, false, false, false, false] rfl rfl (any_of HT_.out (by kernel_rfl)) (fun _ _ _ h => h) (Or.inl ⟨by rfl, ?_⟩) ?_ ?_
            rotate_left
            · intro w'
              go_simp
              with_reducible rfl
            rotate_left
            · simp only [Act.put, List.setIfInBounds_toArray, List.set_cons_zero, List.set_cons_succ, i64_w, i32_w]
              rfl
            refine pure_ (i := 14) (N := some 38) (v := ?_) (a' := ?_) #[true, true, true, true, true, true, true, true, true, true, true, true, true, true, true, false, false, false, false] rfl rfl (any_of HT_.out (by kernel_rfl)) (fun _ _ _ h => h) (Or.inl ⟨by rfl, ?_⟩) ?_ ?_
            rotate_left
            · intro w'
              go_simp
              with_reducible rfl
            rotate_left
            · simp only [Act.put, List.setIfInBounds_toArray, List.set_cons_zero, List.set_cons_succ, i64_w, i32_w]
              rfl
            refine pure_ (i := 15) (N := some 39) (v := ?_) (a' := ?_) #[true, true, true, true, true, true, true, true, true, true, true, true, true, true, true, true, false, false, false] rfl rfl (any_of HT_.out (by kernel_rfl)) (fun _ _ _ h => h) (Or.inl ⟨by rfl, ?_⟩) ?_ ?_
            rotate_left
            · intro w'
              go_simp
              with_reducible rfl
            rotate_left
            · simp only [Act.put, List.setIfInBounds_toArray, List.set_cons_zero, List.set_cons_succ, i64_w, i32_w]
              rfl
            refine pure_ (i := 16) (N := some 5) (v := ?_) (a' := ?_) #[true, true, true, true, true, true, true, true, true, true, true, true, true, true, true, true, true, false, false] rfl rfl (any_of HT_.out (by kernel_rfl)) (fun _ _ _ h => h) (Or.inl ⟨by rfl, ?_⟩) ?_ ?_
            rotate_left
            · intro w'
              go_simp
              with_reducible rfl
            rotate_left
            · simp only [Act.put, List.setIfInBounds_toArray, List.set_cons_zero, List.set_cons_succ, i64_w, i32_w]
              rfl
            refine pure_ (i := 17) (N := some 6) (v := ?_) (a' := ?_) #[true, true, true, true, true, true, true, true, true, true, true, true, true, true, true, true, true, true, false] rfl rfl (any_of HT_.out (by kernel_rfl)) (fun _ _ _ h => h) (Or.inl ⟨by rfl, ?_⟩) ?_ ?_
            rotate_left
            · intro w'
              go_simp
              with_reducible rfl
            rotate_left
            · simp only [Act.put, List.setIfInBounds_toArray, List.set_cons_zero, List.set_cons_succ, i64_w, i32_w]
              rfl
            refine pure_ (i := 18) (N := some 7) (v := ?_) (a' := ?_) #[true, true, true, true, true, true, true, true, true, true, true, true, true, true, true, true, true, true, true] rfl rfl (any_of HT_.out (by kernel_rfl)) (fun _ _ _ h => h) (Or.inl ⟨by rfl, ?_⟩) ?_ ?_
            rotate_left
            · intro w'
              go_simp
              with_reducible rfl
            rotate_left
            · simp only [Act.put, List.setIfInBounds_toArray, List.set_cons_zero, List.set_cons_succ, i64_w, i32_w]
              rfl
            refine done_ (done_of HT_.out (by kernel_rfl)) ?_
            try go_wp2_with (first | ((with_reducible refine gate_callee (f := 27) rfl ?_); refine goesL_ (some 48) rfl rfl Try.func27 (by kernel_rfl) rfl #[.int .i64 (wrap64 (t124))] rfl (by (try simp only [List.map_toArray, List.map_cons, List.map_nil]); first | done | rfl | (simp only [List.length_drop, List.length_take]; rfl)) ?_; (with_reducible refine (root_Sqrt.calls kj2 (wrap64 (t124)) t127 _ A18.out).mono ?_); rintro e w' ⟨rfl, ⟨nd, rfl⟩⟩; refine ⟨_, rfl, ?_⟩))
            go_ret
            exact ⟨by first | rfl | (simp [errW_none, errW_some] <;> rfl) | (simp [*, errW_none, errW_some] <;> rfl), by repeat (first | (with_reducible first | exact HB.out | apply below_alloc | apply pw_below_drewN | apply below_drew1 | refine below_set ?_ GE121.out) | exact HB.out)⟩
        · rw [if_neg c13] at H
          have c13b0 : (t126 == 0) = false := beq_eq_false_iff_ne.mpr c13
          have c13b1 : (t126 != 0) = true := bne_iff_ne.mpr c13
          obtain rfl := Option.some.inj H
          try go_wp2
          have n0_ := Aside0.mk (blk_drew BK121.out)
          have n1_ := Aside0.mk (below_drew1 HB.out)
          clear BK121
          clear HB
          have BK121 := n0_
          have HB := n1_
          clear n0_ n1_
          refine start_ (n := 19) (S := fun w' => w'.cell? ⟨gb121, 0, none⟩ = some (.int .i64 a0_0) ∧ w'.cell? ⟨gb121, 1, none⟩ = some (.int .i64 a0_1)) (ds := []) #[false, false, false, false, false, false, false, false, false, false, false, false, false, false, false, false, false, false, false] (by kernel_rfl) rfl rfl ⟨(blk_cell BK121.out 0).trans rfl, (blk_cell BK121.out 1).trans rfl⟩ (fun hHeld => ?_); refine with_tabW root_Scaled.tab3 root_Scaled.bits3 (fun HT_ HW_ => ?_)
          generalize wc.drew = w22 at BK121 HB hHeld ⊢
          refine pure_ (i := 0) (N := some 25) (v := ?_) (a' := ?_) #[true, false, false, false, false, false, false, false, false, false, false, false, false, false, false, false, false, false, false] rfl rfl (any_of HT_.out (by kernel_rfl)) (fun _ _ _ h => h) (Or.inl ⟨by rfl, ?_⟩) ?_ ?_
          rotate_left
          · intro w'
            go_simp
            with_reducible rfl
          rotate_left
          · simp only [Act.put, List.setIfInBounds_toArray, List.set_cons_zero, List.set_cons_succ, i64_w, i32_w]
            rfl
          refine pure_ (i := 3) (N := some 28) (v := ?_) (a' := ?_) #[true, false, false, true, false, false, false, false, false, false, false, false, false, false, false, false, false, false, false] rfl rfl (any_of HT_.out (by kernel_rfl)) (fun _ _ _ h => h) (Or.inl ⟨by rfl, ?_⟩) ?_ ?_
          rotate_left
          · intro w'
            go_simp
            with_reducible rfl
          rotate_left
          · simp only [Act.put, List.setIfInBounds_toArray, List.set_cons_zero, List.set_cons_succ, i64_w, i32_w]
            rfl
          refine pure_ (i := 4) (N := some 29) (v := ?_) (a' := ?_) #[true, false, false, true, true, false, false, false, false, false, false, false, false, false, false, false, false, false, false] rfl rfl (any_of HT_.out (by kernel_rfl)) (fun _ _ _ h => h) (Or.inl ⟨by rfl, ?_⟩) ?_ ?_
          rotate_left
          · intro w'
            go_simp
            with_reducible rfl
          rotate_left
          · simp only [Act.put, List.setIfInBounds_toArray, List.set_cons_zero, List.set_cons_succ, i64_w, i32_w]
            rfl
          refine pure_ (i := 5) (N := some 30) (v := ?_) (a' := ?_) #[true, false, false, true, true, true, false, false, false, false, false, false, false, false, false, false, false, false, false] rfl rfl (any_of HT_.out (by kernel_rfl)) (fun _ _ _ h => h) (Or.inl ⟨by rfl, ?_⟩) ?_ ?_
          rotate_left
          · intro w'
            go_simp
            with_reducible rfl
          rotate_left
          · simp only [Act.put, List.setIfInBounds_toArray, List.set_cons_zero, List.set_cons_succ, i64_w, i32_w]
            rfl
          refine pure_ (i := 6) (N := some 31) (v := ?_) (a' := ?_) #[true, false, false, true, true, true, true, false, false, false, false, false, false, false, false, false, false, false, false] rfl rfl (any_of HT_.out (by kernel_rfl)) (fun _ _ _ h => h) (Or.inl ⟨by rfl, ?_⟩) ?_ ?_
          rotate_left
          · intro w'
            go_simp
            with_reducible rfl
          rotate_left
          · simp only [Act.put, List.setIfInBounds_toArray, List.set_cons_zero, List.set_cons_succ, i64_w, i32_w]
            rfl
          refine pure_ (i := 8) (N := some 33) (v := ?_) (a' := ?_) #[true, false, false, true, true, true, true, false, true, false, false, false, false, false, false, false, false, false, false] rfl rfl (any_of HT_.out (by kernel_rfl)) (fun _ _ _ h => h) (Or.inl ⟨by rfl, ?_⟩) ?_ ?_
          rotate_left
          · intro w'
            go_simp
            with_reducible rfl
          rotate_left
          · simp only [Act.put, List.setIfInBounds_toArray, List.set_cons_zero, List.set_cons_succ, i64_w, i32_w]
            rfl
          refine take_ (i := 1) (N := some 26) (v := ?_) (a' := ?_) #[true, true, false, true, true, true, true, false, true, false, false, false, false, false, false, false, false, false, false] rfl rfl (take_ofW HT_.out HW_.out (by kernel_rfl)) (fun _ _ _ h => h) (Or.inl ⟨by rfl, ?_⟩) hHeld ?_ ?_
          rotate_left
          · rintro w' ⟨s0, s1⟩
            go_simp
            with_reducible rfl
          rotate_left
          · simp only [Act.put, List.setIfInBounds_toArray, List.set_cons_zero, List.set_cons_succ, i64_w, i32_w]
            rfl
          refine pure_ (i := 2) (N := some 27) (v := ?_) (a' := ?_) #[true, true, true, true, true, true, true, false, true, false, false, false, false, false, false, false, false, false, false] rfl rfl (any_of HT_.out (by kernel_rfl)) (fun _ _ _ h => h) (Or.inl ⟨by rfl, ?_⟩) ?_ ?_
          rotate_left
          · intro w'
            go_simp
            with_reducible rfl
          rotate_left
          · simp only [Act.put, List.setIfInBounds_toArray, List.set_cons_zero, List.set_cons_succ, i64_w, i32_w]
            rfl
          refine take_ (i := 9) (N := some 34) (v := ?_) (a' := ?_) #[true, true, true, true, true, true, true, false, true, true, false, false, false, false, false, false, false, false, false] rfl rfl (take_ofW HT_.out HW_.out (by kernel_rfl)) (fun _ _ _ h => h) (Or.inl ⟨by rfl, ?_⟩) hHeld ?_ ?_
          rotate_left
          · rintro w' ⟨s0, s1⟩
            go_simp
            with_reducible rfl
          rotate_left
          · simp only [Act.put, List.setIfInBounds_toArray, List.set_cons_zero, List.set_cons_succ, i64_w, i32_w]
            rfl
          refine pure_ (i := 10) (N := some 35) (v := ?_) (a' := ?_) #[true, true, true, true, true, true, true, false, true, true, true, false, false, false, false, false, false, false, false] rfl rfl (any_of HT_.out (by kernel_rfl)) (fun _ _ _ h => h) (Or.inl ⟨by rfl, ?_⟩) ?_ ?_
          rotate_left
          · intro w'
            go_simp
            with_reducible rfl
          rotate_left
          · simp only [Act.put, List.setIfInBounds_toArray, List.set_cons_zero, List.set_cons_succ, i64_w, i32_w]
            rfl
          refine one_ (i := 7) (N := some 32) #[true, true, true, true, true, true, true, true, true, true, true, false, false, false, false, false, false, false, false] rfl rfl (one_of HT_.out (by kernel_rfl)) (by decide) (fun K hK => ?_)
          refine goes_ Try.func78 (by kernel_rfl) rfl #[.int .u64 (IntKind.u64.wrap (a0_0)), .int .u64 (IntKind.u64.wrap (wrap64 (a1 * a1)))] (by rfl) rfl rfl (by (try simp only [List.map_toArray, List.map_cons, List.map_nil]); first | done | rfl | (simp only [List.length_drop, List.length_take]; rfl)) ?_
          with_reducible refine (wide_Mul.calls (IntKind.u64.wrap (a0_0)) (IntKind.u64.wrap (wrap64 (a1 * a1))) t122 t123 _ A11.out).mono ?_
          rintro e w23 ⟨rfl, hb⟩
          refine ⟨_, rfl, ?_⟩
          have n0_ := Aside0.mk (blk_below (g := gb121) (o := .cells #[.int .i64 a0_0, .int .i64 a0_1] 36 (0, 0)) (by (with_reducible repeat (first | refine blk_drewN ?_ _ | refine blk_drew ?_ | refine blk_alloc ?_ _)); exact BK121.out) hb)
          have n1_ := Aside0.mk (below_step (by repeat (first | (with_reducible first | exact HB.out | apply below_alloc | apply pw_below_drewN | apply below_drew1 | refine below_set ?_ GE121.out) | exact HB.out)) hb)
          clear BK121
          clear HB
          have BK121 := n0_
          have HB := n1_
          clear n0_ n1_
          (try clear hb)
          (try clear hb2)
          (try clear hk)
          (try clear hi)
          refine hK.out _ _ ⟨(blk_cell BK121.out 0).trans rfl, (blk_cell BK121.out 1).trans rfl⟩ (fun hHeld => ?_)
          clear hK K
          refine norm_ (a' := ?_) ?_ ?_
          rotate_left
          · show Act.put _ (some 32) _ = _
            simp only [Act.put, List.setIfInBounds_toArray, List.set_cons_zero, List.set_cons_succ, i64_w, i32_w]
            rfl
          refine one_ (i := 11) (N := some 36) #[true, true, true, true, true, true, true, true, true, true, true, true, false, false, false, false, false, false, false] rfl rfl (one_of HT_.out (by kernel_rfl)) (by decide) (fun K hK => ?_)
          refine goes_ Try.func79 (by kernel_rfl) rfl #[.agg #[.int .u64 t122, .int .u64 t123], .int .u64 (IntKind.u64.wrap (a0_1))] (by rfl) rfl rfl (by (try simp only [List.map_toArray, List.map_cons, List.map_nil]); first | done | rfl | (simp only [List.length_drop, List.length_take]; rfl)) ?_
          with_reducible refine (wide_Pair_Div.calls kj2 t122 t123 (IntKind.u64.wrap (a0_1)) t124 t125 t126 _ A12.out).mono ?_
          rintro e w24 ⟨rfl, hb⟩
          refine ⟨_, rfl, ?_⟩
          have n0_ := Aside0.mk (blk_below (g := gb121) (o := .cells #[.int .i64 a0_0, .int .i64 a0_1] 36 (0, 0)) (by (with_reducible repeat (first | refine blk_drewN ?_ _ | refine blk_drew ?_ | refine blk_alloc ?_ _)); exact BK121.out) hb)
          have n1_ := Aside0.mk (below_step (by repeat (first | (with_reducible first | exact HB.out | apply below_alloc | apply pw_below_drewN | apply below_drew1 | refine below_set ?_ GE121.out) | exact HB.out)) hb)
          clear BK121
          clear HB
          have BK121 := n0_
          have HB := n1_
          clear n0_ n1_
          (try clear hb)
          (try clear hb2)
          (try clear hk)
          (try clear hi)
          refine hK.out _ _ ⟨(blk_cell BK121.out 0).trans rfl, (blk_cell BK121.out 1).trans rfl⟩ (fun hHeld => ?_)
          clear hK K
          refine norm_ (a' := ?_) ?_ ?_
          rotate_left
          · show Act.put _ (some 36) _ = _
            simp only [Act.put, List.setIfInBounds_toArray, List.set_cons_zero, List.set_cons_succ, i64_w, i32_w]
            rfl
          refine pure_ (i := 12) (N := some 24) (v := ?_) (a' := ?_) #[true, true, true, true, true, true, true, true, true, true, true, true, true, false, false, false, false, false, false] rfl rfl (any_of HT_.out (by kernel_rfl)) (fun _ _ _ h => h) (Or.inl ⟨by rfl, ?_⟩) ?_ ?_
          rotate_left
          · intro w'
            go_simp
            with_reducible rfl
          rotate_left
          · simp only [Act.put, List.setIfInBounds_toArray, List.set_cons_zero, List.set_cons_succ, i64_w, i32_w]
            rfl
          refine pure_ (i := 13) (N := some 37) (v := ?_) (a' := ?_) #[true, true, true, true, true, true, true, true, true, true, true, true, true, true, false, false, false, false, false] rfl rfl (any_of HT_.out (by kernel_rfl)) (fun _ _ _ h => h) (Or.inl ⟨by rfl, ?_⟩) ?_ ?_
          rotate_left
          · intro w'
            go_simp
            with_reducible rfl
          rotate_left
          · simp only [Act.put, List.setIfInBounds_toArray, List.set_cons_zero, List.set_cons_succ, i64_w, i32_w]
            rfl
          refine pure_ (i := 14) (N := some 38) (v := ?_) (a' := ?_) #[true, true, true, true, true, true, true, true, true, true, true, true, true, true, true, false, false, false, false] rfl rfl (any_of HT_.out (by kernel_rfl)) (fun _ _ _ h => h) (Or.inl ⟨by rfl, ?_⟩) ?_ ?_
          rotate_left
          · intro w'
            go_simp
            with_reducible rfl
          rotate_left
          · simp only [Act.put, List.setIfInBounds_toArray, List.set_cons_zero, List.set_cons_succ, i64_w, i32_w]
            rfl
          refine pure_ (i := 15) (N := some 39) (v := ?_) (a' := ?_) #[true, true, true, true, true, true, true, true, true, true, true, true, true, true, true, true, false, false, false] rfl rfl (any_of HT_.out (by kernel_rfl)) (fun _ _ _ h => h) (Or.inl ⟨by rfl, ?_⟩) ?_ ?_
          rotate_left
          · intro w'
            go_simp
            with_reducible rfl
          rotate_left
          · simp only [Act.put, List.setIfInBounds_toArray, List.set_cons_zero, List.set_cons_succ, i64_w, i32_w]
            rfl
          refine pure_ (i := 16) (N := some 5) (v := ?_) (a' := ?_) #[true, true, true, true, true, true, true, true, true, true, true, true, true, true, true, true, true, false, false] rfl rfl (any_of HT_.out (by kernel_rfl)) (fun _ _ _ h => h) (Or.inl ⟨by rfl, ?_⟩) ?_ ?_
          rotate_left
          · intro w'
            go_simp
            with_reducible rfl
          rotate_left
          · simp only [Act.put, List.setIfInBounds_toArray, List.set_cons_zero, List.set_cons_succ, i64_w, i32_w]
            rfl
          refine pure_ (i := 17) (N := some 6) (v := ?_) (a' := ?_) #[true, true, true, true, true, true, true, true, true, true, true, true, true, true, true, true, true, true, false] rfl rfl (any_of HT_.out (by kernel_rfl)) (fun _ _ _ h => h) (Or.inl ⟨by rfl, ?_⟩) ?_ ?_
          rotate_left
          · intro w'
            go_simp
            with_reducible rfl
          rotate_left
          · simp only [Act.put, List.setIfInBounds_toArray, List.set_cons_zero, List.set_cons_succ, i64_w, i32_w]
            rfl
          refine pure_ (i := 18) (N := some 7) (v := ?_) (a' := ?_) #[true, true, true, true, true, true, true, true, true, true, true, true, true, true, true, true, true, true, true] rfl rfl (any_of HT_.out (by kernel_rfl)) (fun _ _ _ h => h) (Or.inl ⟨by rfl, ?_⟩) ?_ ?_
          rotate_left
          · intro w'
            go_simp
            with_reducible rfl
          rotate_left
          · simp only [Act.put, List.setIfInBounds_toArray, List.set_cons_zero, List.set_cons_succ, i64_w, i32_w]
            rfl
          refine done_ (done_of HT_.out (by kernel_rfl)) ?_
          try go_wp2
          go_ret
          exact ⟨by first | rfl | (simp [errW_none, errW_some] <;> rfl) | (simp [*, errW_none, errW_some] <;> rfl), by repeat (first | (with_reducible first | exact HB.out | apply below_alloc | apply pw_below_drewN | apply below_drew1 | refine below_set ?_ GE121.out) | exact HB.out)⟩
end Go.Proofs.Ytlljpjbhndcaiaa.Q
end
section
namespace Go.Proofs.Ytlljpjbhndcaiaa.Q
open Go.RowKit Go.Proofs.YtlljpjbhndcaiaaW.PrintWords Go.Proofs.YtlljpjbhndcaiaaW.PrintLast Go.Proofs.YtlljpjbhndcaiaaW.PrintMore
attribute [local go_sem] max2_int min2_int max_two min_two max_three min_three max_four min_four
set_option linter.unusedVariables false
set_option linter.unusedSimpArgs false
def dist_Eight.f (k : Nat) (l0 : List (S40)) (a1_0 : Int) (a1_1 : Int) : Option (Int) := (dist_Near.f k l0 a1_0 a1_1).bind fun bt138 => (if bt138.2.2 < 0 then (some (-1)) else ((root_Scaled.f k bt138.1 bt138.2.1 8).bind fun t142 => (some t142)))
theorem dist_Eight.mono : ∀ a0 a1 a2 k, LeO (dist_Eight.f k a0 a1 a2) (dist_Eight.f (k + 1) a0 a1 a2) := by
  intro a0 a1 a2 k
  unfold dist_Eight.f
  repeat' first
      | (with_reducible exact dist_Near.mono _ _ _ _)
      | (with_reducible exact root_Scaled.mono _ _ _ _)
      | (with_reducible exact LeO.refl _)
      | (with_reducible exact LeO.none _)
      | (with_reducible refine LeO.ite ?_ ?_)
      | (with_reducible refine LeO.bind ?_ (fun _ => ?_))
      | exact dist_Near.mono _ _ _ _
      | exact root_Scaled.mono _ _ _ _
      | exact LeO.none _
      | refine LeO.ite ?_ ?_
      | refine LeO.bind ?_ (fun _ => ?_)
set_option maxHeartbeats 8000000 in
set_option maxRecDepth 100000 in
theorem dist_Eight.calls (k : Nat) (A0 : Option Addr) (c0 : Nat) (l0 : List (S40)) (a1_0 : Int) (a1_1 : Int) (r : Int) (w : World) (hr0 : Kd.C k40 w A0 l0.length l0) (hc0 : l0.length ≤ c0) (h : dist_Eight.f k l0 a1_0 a1_1 = some r) :
    Calls Try.prog 26 #[.slice A0 l0.length c0, .agg #[.int .i64 a1_0, .int .i64 a1_1]] w fun e w' => e = .returned (.int .i64 r) ∧ Below w.heap.size w w' := by
  have hu32 := Try.underlying32
  have hu36 := Try.underlying36
  have HR0 := Aside0.mk hr0
  have HC0 := Aside0.mk hc0
  clear hr0 hc0
  have HB := Aside0.mk (Below.refl w.heap.size w)
  have H : ((dist_Near.f k l0 a1_0 a1_1).bind fun bt138 => (if bt138.2.2 < 0 then (some (-1)) else ((root_Scaled.f k bt138.1 bt138.2.1 8).bind fun t142 => (some t142)))) = some r := h
  clear h
  replace H := Option.bind_eq_some_iff.mp H
  obtain ⟨⟨t138, t139, t140⟩, A30, H⟩ := H
  replace H : (if t140 < 0 then (some (-1)) else ((root_Scaled.f k t138 t139 8).bind fun t142 => (some t142))) = some r := H
  have A3 := Aside0.mk A30
  clear A30
  by_cases c4 : t140 < 0
  · rw [if_pos c4] at H
    have c4b0 : decide (t140 < 0) = true := decide_eq_true c4
    clear c4
    obtain rfl := Option.some.inj H
    go_enter Try.func26, Try.ntmps26
    go_wp2_with (first | ((with_reducible refine gate_dst (N := 3) rfl ?_); refine box_event ?hg (N := 3) ?hd (cs := #[.int .i64 a1_0, .int .i64 a1_1]) (t := 32) ?hr ?_; (case hd => rfl); (case hg => rfl); (case hr => first | (go_simp; done) | (go_simp; rfl)); intro gb137 hg w5 hbox hb; have n0_ := Aside0.mk (below_step (by repeat (first | (with_reducible first | exact HB.out | apply below_alloc | apply pw_below_drewN | apply below_drew1) | exact HB.out)) hb); have n1_ := Aside0.mk (hbox); have n2_ := Aside0.mk ((by rw [hg]; exact (below_size (by repeat (first | (with_reducible first | exact HB.out | apply below_alloc | apply pw_below_drewN | apply below_drew1) | exact HB.out))) : w.heap.size ≤ gb137)); have n3_ := Aside0.mk ((by rw [hg]; exact (below_size (by repeat (first | (with_reducible first | exact HB.out | apply below_alloc | apply pw_below_drewN | apply below_drew1) | exact HB.out))) : w.heap.size ≤ gb137)); clear HB; have HB := n0_; have BK137 := n1_; have GW137 := n2_; have GE137 := n3_; clear n0_ n1_ n2_ n3_; clear hb hbox hg; have hcz6_0 : w5.cell? ⟨gb137, 0, none⟩ = some (.int .i64 a1_0) := (blk_cell BK137.out 0).trans rfl; have hcz6_1 : w5.cell? ⟨gb137, 1, none⟩ = some (.int .i64 a1_1) := (blk_cell BK137.out 1).trans rfl; have hfz6_0 := blk_frozen BK137.out 0; have hfz6_1 := blk_frozen BK137.out 1) | ((with_reducible refine gate_callee (f := 53) rfl ?_); refine goesL_ (some 10) rfl rfl Try.func53 (by kernel_rfl) rfl #[.slice A0 l0.length c0, .agg #[.int .i64 a1_0, .int .i64 a1_1]] rfl (by (try simp only [List.map_toArray, List.map_cons, List.map_nil]); first | done | rfl | (simp only [List.length_drop, List.length_take]; rfl)) ?_; (with_reducible refine (dist_Near.calls k _ _ l0 a1_0 a1_1 t138 t139 t140 _ ?side1 ?side2 A3.out).mono ?_); (case side1 => repeat (first | exact (Kd.C_below HR0.out HB.out) | (with_reducible refine Kd.C_alloc ?_ _) | (with_reducible refine Kd.C_drewN ?_ _) | (with_reducible refine Kd.C_drew ?_))); (case side2 => exact HC0.out); rintro e w7 ⟨rfl, hb⟩; refine ⟨_, rfl, ?_⟩; have n0_ := Aside0.mk (blk_below (g := gb137) (o := .cells #[.int .i64 a1_0, .int .i64 a1_1] 32 (0, 0)) (by (with_reducible repeat (first | refine blk_drewN ?_ _ | refine blk_drew ?_ | refine blk_alloc ?_ _)); exact BK137.out) hb); have n1_ := Aside0.mk (below_step (by repeat (first | (with_reducible first | exact HB.out | apply below_alloc | apply pw_below_drewN | apply below_drew1 | refine below_set ?_ GE137.out) | exact HB.out)) hb); clear BK137; clear HB; have BK137 := n0_; have HB := n1_; clear n0_ n1_; (try clear hb); (try clear hb2); (try clear hk); (try clear hi)) | ((with_reducible refine gate_dst (N := 5) rfl ?_); refine box_event ?hg (N := 5) ?hd (cs := #[.int .i64 0, .int .i64 0]) (t := 36) ?hr ?_; (case hd => rfl); (case hg => rfl); (case hr => first | (go_simp; done) | (go_simp; rfl)); intro gb141 hg w8 hbox hb; have n0_ := Aside0.mk (blk_below (g := gb137) (o := .cells #[.int .i64 a1_0, .int .i64 a1_1] 32 (0, 0)) (by (with_reducible repeat (first | refine blk_drewN ?_ _ | refine blk_drew ?_ | refine blk_alloc ?_ _)); exact BK137.out) hb); have n1_ := Aside0.mk (below_step (by repeat (first | (with_reducible first | exact HB.out | apply below_alloc | apply pw_below_drewN | apply below_drew1 | refine below_set ?_ GE137.out) | exact HB.out)) hb); have n2_ := Aside0.mk (hbox); have n3_ := Aside0.mk ((by rw [hg]; exact (below_size (by repeat (first | (with_reducible first | exact HB.out | apply below_alloc | apply pw_below_drewN | apply below_drew1 | refine below_set ?_ GE137.out) | exact HB.out))) : w.heap.size ≤ gb141)); have n4_ := Aside0.mk ((by rw [hg]; exact (below_size (by repeat (first | (with_reducible first | exact HB.out | apply below_alloc | apply pw_below_drewN | apply below_drew1 | refine below_set ?_ GE137.out) | exact HB.out))) : w.heap.size ≤ gb141)); have n5_ := Aside0.mk ((by rw [hg]; exact Nat.ne_of_lt (blk_lt (g := gb137) (o := .cells #[.int .i64 a1_0, .int .i64 a1_1] 32 (0, 0)) (by (with_reducible repeat (first | refine blk_drewN ?_ _ | refine blk_drew ?_ | refine blk_alloc ?_ _)); exact BK137.out)) : gb137 ≠ gb141)); have n6_ := Aside0.mk ((by rw [hg]; exact Nat.ne_of_gt (blk_lt (g := gb137) (o := .cells #[.int .i64 a1_0, .int .i64 a1_1] 32 (0, 0)) (by (with_reducible repeat (first | refine blk_drewN ?_ _ | refine blk_drew ?_ | refine blk_alloc ?_ _)); exact BK137.out)) : gb141 ≠ gb137)); clear BK137; clear HB; have BK137 := n0_; have HB := n1_; have BK141 := n2_; have GW141 := n3_; have GE141 := n4_; have NB137_141 := n5_; have NB141_137 := n6_; clear n0_ n1_ n2_ n3_ n4_ n5_ n6_; clear hb hbox hg; have hnb9 := NB141_137.out; have hnc9 := NB137_141.out; have hcz10_0 : w8.cell? ⟨gb141, 0, none⟩ = some (.int .i64 0) := (blk_cell BK141.out 0).trans rfl; have hcz10_1 : w8.cell? ⟨gb141, 1, none⟩ = some (.int .i64 0) := (blk_cell BK141.out 1).trans rfl; have hfz10_0 := blk_frozen BK141.out 0; have hfz10_1 := blk_frozen BK141.out 1))
    go_ret
    exact ⟨by first | rfl | (simp [errW_none, errW_some] <;> rfl) | (simp [*, errW_none, errW_some] <;> rfl), by repeat (first | (with_reducible first | exact HB.out | apply below_alloc | apply pw_below_drewN | apply below_drew1 | refine below_set ?_ GE137.out | refine below_set ?_ GE141.out) | exact HB.out)⟩
  · rw [if_neg c4] at H
    have c4b0 : decide (t140 < 0) = false := decide_eq_false c4
    clear c4
    replace H := Option.bind_eq_some_iff.mp H
    obtain ⟨t142, A110, H⟩ := H
    replace H : (some t142) = some r := H
    have A11 := Aside0.mk A110
    clear A110
    obtain rfl := Option.some.inj H
    go_enter Try.func26, Try.ntmps26
    go_wp2_with (first | ((with_reducible refine gate_dst (N := 3) rfl ?_); refine box_event ?hg (N := 3) ?hd (cs := #[.int .i64 a1_0, .int .i64 a1_1]) (t := 32) ?hr ?_; (case hd => rfl); (case hg => rfl); (case hr => first | (go_simp; done) | (go_simp; rfl)); intro gb137 hg w12 hbox hb; have n0_ := Aside0.mk (below_step (by repeat (first | (with_reducible first | exact HB.out | apply below_alloc | apply pw_below_drewN | apply below_drew1) | exact HB.out)) hb); have n1_ := Aside0.mk (hbox); have n2_ := Aside0.mk ((by rw [hg]; exact (below_size (by repeat (first | (with_reducible first | exact HB.out | apply below_alloc | apply pw_below_drewN | apply below_drew1) | exact HB.out))) : w.heap.size ≤ gb137)); have n3_ := Aside0.mk ((by rw [hg]; exact (below_size (by repeat (first | (with_reducible first | exact HB.out | apply below_alloc | apply pw_below_drewN | apply below_drew1) | exact HB.out))) : w.heap.size ≤ gb137)); clear HB; have HB := n0_; have BK137 := n1_; have GW137 := n2_; have GE137 := n3_; clear n0_ n1_ n2_ n3_; clear hb hbox hg; have hcz13_0 : w12.cell? ⟨gb137, 0, none⟩ = some (.int .i64 a1_0) := (blk_cell BK137.out 0).trans rfl; have hcz13_1 : w12.cell? ⟨gb137, 1, none⟩ = some (.int .i64 a1_1) := (blk_cell BK137.out 1).trans rfl; have hfz13_0 := blk_frozen BK137.out 0; have hfz13_1 := blk_frozen BK137.out 1) | ((with_reducible refine gate_callee (f := 53) rfl ?_); refine goesL_ (some 10) rfl rfl Try.func53 (by kernel_rfl) rfl #[.slice A0 l0.length c0, .agg #[.int .i64 a1_0, .int .i64 a1_1]] rfl (by (try simp only [List.map_toArray, List.map_cons, List.map_nil]); first | done | rfl | (simp only [List.length_drop, List.length_take]; rfl)) ?_; (with_reducible refine (dist_Near.calls k _ _ l0 a1_0 a1_1 t138 t139 t140 _ ?side1 ?side2 A3.out).mono ?_); (case side1 => repeat (first | exact (Kd.C_below HR0.out HB.out) | (with_reducible refine Kd.C_alloc ?_ _) | (with_reducible refine Kd.C_drewN ?_ _) | (with_reducible refine Kd.C_drew ?_))); (case side2 => exact HC0.out); rintro e w14 ⟨rfl, hb⟩; refine ⟨_, rfl, ?_⟩; have n0_ := Aside0.mk (blk_below (g := gb137) (o := .cells #[.int .i64 a1_0, .int .i64 a1_1] 32 (0, 0)) (by (with_reducible repeat (first | refine blk_drewN ?_ _ | refine blk_drew ?_ | refine blk_alloc ?_ _)); exact BK137.out) hb); have n1_ := Aside0.mk (below_step (by repeat (first | (with_reducible first | exact HB.out | apply below_alloc | apply pw_below_drewN | apply below_drew1 | refine below_set ?_ GE137.out) | exact HB.out)) hb); clear BK137; clear HB; have BK137 := n0_; have HB := n1_; clear n0_ n1_; (try clear hb); (try clear hb2); (try clear hk); (try clear hi)) | ((with_reducible refine gate_dst (N := 5) rfl ?_); refine box_event ?hg (N := 5) ?hd (cs := #[.int .i64 0, .int .i64 0]) (t := 36) ?hr ?_; (case hd => rfl); (case hg => rfl); (case hr => first | (go_simp; done) | (go_simp; rfl)); intro gb141 hg w15 hbox hb; have n0_ := Aside0.mk (blk_below (g := gb137) (o := .cells #[.int .i64 a1_0, .int .i64 a1_1] 32 (0, 0)) (by (with_reducible repeat (first | refine blk_drewN ?_ _ | refine blk_drew ?_ | refine blk_alloc ?_ _)); exact BK137.out) hb); have n1_ := Aside0.mk (below_step (by repeat (first | (with_reducible first | exact HB.out | apply below_alloc | apply pw_below_drewN | apply below_drew1 | refine below_set ?_ GE137.out) | exact HB.out)) hb); have n2_ := Aside0.mk (hbox); have n3_ := Aside0.mk ((by rw [hg]; exact (below_size (by repeat (first | (with_reducible first | exact HB.out | apply below_alloc | apply pw_below_drewN | apply below_drew1 | refine below_set ?_ GE137.out) | exact HB.out))) : w.heap.size ≤ gb141)); have n4_ := Aside0.mk ((by rw [hg]; exact (below_size (by repeat (first | (with_reducible first | exact HB.out | apply below_alloc | apply pw_below_drewN | apply below_drew1 | refine below_set ?_ GE137.out) | exact HB.out))) : w.heap.size ≤ gb141)); have n5_ := Aside0.mk ((by rw [hg]; exact Nat.ne_of_lt (blk_lt (g := gb137) (o := .cells #[.int .i64 a1_0, .int .i64 a1_1] 32 (0, 0)) (by (with_reducible repeat (first | refine blk_drewN ?_ _ | refine blk_drew ?_ | refine blk_alloc ?_ _)); exact BK137.out)) : gb137 ≠ gb141)); have n6_ := Aside0.mk ((by rw [hg]; exact Nat.ne_of_gt (blk_lt (g := gb137) (o := .cells #[.int .i64 a1_0, .int .i64 a1_1] 32 (0, 0)) (by (with_reducible repeat (first | refine blk_drewN ?_ _ | refine blk_drew ?_ | refine blk_alloc ?_ _)); exact BK137.out)) : gb141 ≠ gb137)); clear BK137; clear HB; have BK137 := n0_; have HB := n1_; have BK141 := n2_; have GW141 := n3_; have GE141 := n4_; have NB137_141 := n5_; have NB141_137 := n6_; clear n0_ n1_ n2_ n3_ n4_ n5_ n6_; clear hb hbox hg; have hnb16 := NB141_137.out; have hnc16 := NB137_141.out; have hcz17_0 : w15.cell? ⟨gb141, 0, none⟩ = some (.int .i64 0) := (blk_cell BK141.out 0).trans rfl; have hcz17_1 : w15.cell? ⟨gb141, 1, none⟩ = some (.int .i64 0) := (blk_cell BK141.out 1).trans rfl; have hfz17_0 := blk_frozen BK141.out 0; have hfz17_1 := blk_frozen BK141.out 1) | ((with_reducible refine gate_callee (f := 52) rfl ?_); refine goesL_ (some 16) rfl rfl Try.func52 (by kernel_rfl) rfl #[.agg #[.int .i64 t138, .int .i64 t139], .int .i64 8] rfl (by (try simp only [List.map_toArray, List.map_cons, List.map_nil]); first | done | rfl | (simp only [List.length_drop, List.length_take]; rfl)) ?_; (with_reducible refine (root_Scaled.calls k t138 t139 8 t142 _ A11.out).mono ?_); rintro e w18 ⟨rfl, hb⟩; refine ⟨_, rfl, ?_⟩; have n0_ := Aside0.mk (blk_below (g := gb137) (o := .cells #[.int .i64 a1_0, .int .i64 a1_1] 32 (0, 0)) (by (with_reducible repeat (first | refine blk_drewN ?_ _ | refine blk_drew ?_ | refine blk_alloc ?_ _)); refine blk_far ?_ NB137_141.out _; (with_reducible repeat (first | refine blk_drewN ?_ _ | refine blk_drew ?_ | refine blk_alloc ?_ _)); refine blk_far ?_ NB137_141.out _; (with_reducible repeat (first | refine blk_drewN ?_ _ | refine blk_drew ?_ | refine blk_alloc ?_ _)); exact BK137.out) hb); have n1_ := Aside0.mk (blk_below (g := gb141) (o := .cells #[.int .i64 t138, .int .i64 t139] 36 (0, 0)) (by (with_reducible repeat (first | refine blk_drewN ?_ _ | refine blk_drew ?_ | refine blk_alloc ?_ _)); refine blk_put (cs := #[.int .i64 t138, .int .i64 0]) ?_ 1 _ rfl; (with_reducible repeat (first | refine blk_drewN ?_ _ | refine blk_drew ?_ | refine blk_alloc ?_ _)); refine blk_put (cs := #[.int .i64 0, .int .i64 0]) ?_ 0 _ rfl; (with_reducible repeat (first | refine blk_drewN ?_ _ | refine blk_drew ?_ | refine blk_alloc ?_ _)); exact BK141.out) hb); have n2_ := Aside0.mk (below_step (by repeat (first | (with_reducible first | exact HB.out | apply below_alloc | apply pw_below_drewN | apply below_drew1 | refine below_set ?_ GE137.out | refine below_set ?_ GE141.out) | exact HB.out)) hb); clear BK137; clear BK141; clear HB; have BK137 := n0_; have BK141 := n1_; have HB := n2_; clear n0_ n1_ n2_; (try clear hb); (try clear hb2); (try clear hk); (try clear hi)))
    go_ret
    exact ⟨by first | rfl | (simp [errW_none, errW_some] <;> rfl) | (simp [*, errW_none, errW_some] <;> rfl), by repeat (first | (with_reducible first | exact HB.out | apply below_alloc | apply pw_below_drewN | apply below_drew1 | refine below_set ?_ GE137.out | refine below_set ?_ GE141.out) | exact HB.out)⟩
end Go.Proofs.Ytlljpjbhndcaiaa.Q
end
section
namespace Go.Proofs.Ytlljpjbhndcaiaa.Q
open Go.RowKit Go.Proofs.YtlljpjbhndcaiaaW.PrintWords Go.Proofs.YtlljpjbhndcaiaaW.PrintLast Go.Proofs.YtlljpjbhndcaiaaW.PrintMore
attribute [local go_sem] max2_int min2_int max_two min_two max_three min_three max_four min_four
set_option linter.unusedVariables false
set_option linter.unusedSimpArgs false
def plane_Side.f (a0_0 : Int) (a0_1 : Int) (a0_2 : Int) (a0_3 : Int) (a1_0 : Int) (a1_1 : Int) : Option (Int) :=
  let c := wrap64 (wrap64 (wrap64 (a0_2 - a0_0) * wrap64 (a1_1 - a0_1)) - wrap64 (wrap64 (a0_3 - a0_1) * wrap64 (a1_0 - a0_0)))
  if c > 0 then some 1 else if c < 0 then some (-1) else some 0
set_option maxHeartbeats 2000000 in
set_option maxRecDepth 100000 in
theorem plane_Side.calls (a0_0 : Int) (a0_1 : Int) (a0_2 : Int) (a0_3 : Int) (a1_0 : Int) (a1_1 : Int) (r : Int) (w : World) (h : plane_Side.f a0_0 a0_1 a0_2 a0_3 a1_0 a1_1 = some r) :
    Calls Try.prog 83 #[.agg #[.int .i64 a0_0, .int .i64 a0_1, .int .i64 a0_2, .int .i64 a0_3], .agg #[.int .i64 a1_0, .int .i64 a1_1]] w fun e w' => e = .returned (.int .i64 r) ∧ Below w.heap.size w w' := by
  unfold plane_Side.f at h
  obtain ⟨c, hc⟩ : ∃ x, x = wrap64 (wrap64 (wrap64 (a0_2 - a0_0) * wrap64 (a1_1 - a0_1)) - wrap64 (wrap64 (a0_3 - a0_1) * wrap64 (a1_0 - a0_0))) := ⟨_, rfl⟩
  simp only [← hc] at h
  have H := Aside0.mk h; have HC := Aside0.mk hc
  clear h hc
  go_enter Try.func83, Try.ntmps83
  go_upto_region 1 with fail
  obtain ⟨W0, c0, c1, c2, c3, d0, d1, hs0, hs1, HB, hW0⟩ : ∃ W0 : World, W0.cell? ⟨w.heap.size, 0, none⟩ = some (.int .i64 a0_0) ∧ W0.cell? ⟨w.heap.size, 1, none⟩ = some (.int .i64 a0_1) ∧ W0.cell? ⟨w.heap.size, 2, none⟩ = some (.int .i64 a0_2) ∧ W0.cell? ⟨w.heap.size, 3, none⟩ = some (.int .i64 a0_3)
      ∧ W0.cell? ⟨w.heap.size + 1, 0, none⟩ = some (.int .i64 a1_0) ∧ W0.cell? ⟨w.heap.size + 1, 1, none⟩ = some (.int .i64 a1_1) ∧ w.heap.size < W0.heap.size ∧ w.heap.size + 1 < W0.heap.size ∧ Below w.heap.size w W0 ∧
      W0 = ((w.alloc (.cells #[.int .i64 a0_0, .int .i64 a0_1, .int .i64 a0_2, .int .i64 a0_3] 40)).alloc (.cells #[.int .i64 a1_0, .int .i64 a1_1] 32)) :=
    ⟨_, by go_simp, by go_simp, by go_simp, by go_simp, by go_simp, by go_simp, by simp <;> omega, by simp <;> omega, balloc (balloc (Below.refl _ _) _) _, rfl⟩
  rw [← hW0]
  clear hW0
  have KS := Aside0.mk (show ∀ W : World, Below W0.heap.size W0 W → (W.cell? ⟨w.heap.size, 0, none⟩ = some (.int .i64 a0_0) ∧ W.cell? ⟨w.heap.size, 1, none⟩ = some (.int .i64 a0_1) ∧ W.cell? ⟨w.heap.size, 2, none⟩ = some (.int .i64 a0_2) ∧ W.cell? ⟨w.heap.size, 3, none⟩ = some (.int .i64 a0_3) ∧ W.cell? ⟨w.heap.size + 1, 0, none⟩ = some (.int .i64 a1_0) ∧ W.cell? ⟨w.heap.size + 1, 1, none⟩ = some (.int .i64 a1_1)) ∧ Below W0.heap.size W0 W from fun W h =>
    ⟨⟨((bcell h).1 _ _ hs0).trans c0, ((bcell h).1 _ _ hs0).trans c1, ((bcell h).1 _ _ hs0).trans c2, ((bcell h).1 _ _ hs0).trans c3, ((bcell h).1 _ _ hs1).trans d0, ((bcell h).1 _ _ hs1).trans d1⟩, h⟩)
  go_region_held3 (fun W => (W.cell? ⟨w.heap.size, 0, none⟩ = some (.int .i64 a0_0) ∧ W.cell? ⟨w.heap.size, 1, none⟩ = some (.int .i64 a0_1) ∧ W.cell? ⟨w.heap.size, 2, none⟩ = some (.int .i64 a0_2) ∧ W.cell? ⟨w.heap.size, 3, none⟩ = some (.int .i64 a0_3) ∧ W.cell? ⟨w.heap.size + 1, 0, none⟩ = some (.int .i64 a1_0) ∧ W.cell? ⟨w.heap.size + 1, 1, none⟩ = some (.int .i64 a1_1)) ∧ Below W0.heap.size W0 W)
    (first
      | exact KS.out _ (bdrew (Below.refl _ _))
      | (go_split_ands; refine KS.out _ ?_; (repeat (first | assumption | exact Below.refl _ _ | with_reducible refine bdrew ?_ | refine bstep ?_ (by assumption))); done))
    (first | (go_at_call 60; refine (plane_Sub.calls _ _ _ _ _ _ _ rfl).mono ?_; rintro e w' ⟨rfl, hb⟩) | (go_at_call 62; refine (plane_Cross.calls _ _ _ _ _ _ rfl).mono ?_; rintro e w' ⟨rfl, hb⟩))
  go_split_ands
  have HB2 := Aside0.mk (bstep HB (show Below W0.heap.size W0 _ by assumption))
  rw [← HC.out]
  by_cases p : 0 < c
  · have h := H.out
    rw [if_pos p] at h
    obtain rfl := Option.some.inj h
    go_wp2_with fail
    go_ret
    exact ⟨rfl, HB2.out⟩
  · by_cases q : c < 0
    · have h := H.out
      rw [if_neg p, if_pos q] at h
      obtain rfl := Option.some.inj h
      go_wp2_with fail
      go_ret
      exact ⟨rfl, HB2.out⟩
    · have h := H.out
      rw [if_neg p, if_neg q] at h
      obtain rfl := Option.some.inj h
      go_wp2_with fail
      go_ret
      exact ⟨rfl, HB2.out⟩
end Go.Proofs.Ytlljpjbhndcaiaa.Q
end
section
namespace Go.Proofs.Ytlljpjbhndcaiaa.Q
open Go.RowKit Go.Proofs.YtlljpjbhndcaiaaW.PrintWords Go.Proofs.YtlljpjbhndcaiaaW.PrintLast Go.Proofs.YtlljpjbhndcaiaaW.PrintMore
attribute [local go_sem] max2_int min2_int max_two min_two max_three min_three max_four min_four
set_option linter.unusedVariables false
set_option linter.unusedSimpArgs false
mutual
def wind_Number.l0 : Nat → Int → List (S40) → Int → Int → Int → Int → Option (Int)
  | 0, _, _, _, _, _, _ => none
  | k + 1, x5, x8, x9, x10, x144000, x144001 => if x10 < x9 then (if 0 ≤ x10 then (if x10 < (x8.length : Int) then (if ((rd_T40 x8 x10).f0.f1) ≤ x144001 then (if ((rd_T40 x8 x10).f1.f1) > x144001 then ((plane_Side.f ((rd_T40 x8 x10).f0.f0) ((rd_T40 x8 x10).f0.f1) ((rd_T40 x8 x10).f1.f0) ((rd_T40 x8 x10).f1.f1) x144000 x144001).bind fun t146 => (wind_Number.j1 k x5 x8 x9 x10 (decide (t146 > 0)) x144000 x144001 ((rd_T40 x8 x10).f0.f0) ((rd_T40 x8 x10).f0.f1) ((rd_T40 x8 x10).f1.f0) ((rd_T40 x8 x10).f1.f1))) else (wind_Number.j1 k x5 x8 x9 x10 false x144000 x144001 ((rd_T40 x8 x10).f0.f0) ((rd_T40 x8 x10).f0.f1) ((rd_T40 x8 x10).f1.f0) ((rd_T40 x8 x10).f1.f1))) else (wind_Number.j1 k x5 x8 x9 x10 false x144000 x144001 ((rd_T40 x8 x10).f0.f0) ((rd_T40 x8 x10).f0.f1) ((rd_T40 x8 x10).f1.f0) ((rd_T40 x8 x10).f1.f1))) else (none)) else (none)) else (some x5)
def wind_Number.j1 : Nat → Int → List (S40) → Int → Int → Bool → Int → Int → Int → Int → Int → Int → Option (Int)
  | 0, _, _, _, _, _, _, _, _, _, _, _ => none
  | k + 1, x5, x8, x9, x10, x14, x144000, x144001, x146000, x146001, x146002, x146003 => if x14 = true then (wind_Number.l0 k (wrap64 (x5 + 1)) x8 x9 (wrap64 (x10 + 1)) x144000 x144001) else (if x146003 ≤ x144001 then (if x146001 > x144001 then ((plane_Side.f x146000 x146001 x146002 x146003 x144000 x144001).bind fun t147 => (if t147 < 0 then (wind_Number.l0 k (wrap64 (x5 - 1)) x8 x9 (wrap64 (x10 + 1)) x144000 x144001) else (wind_Number.l0 k x5 x8 x9 (wrap64 (x10 + 1)) x144000 x144001))) else (wind_Number.l0 k x5 x8 x9 (wrap64 (x10 + 1)) x144000 x144001)) else (wind_Number.l0 k x5 x8 x9 (wrap64 (x10 + 1)) x144000 x144001))
end
def wind_Number.f (k : Nat) (l0 : List (S40)) (a1_0 : Int) (a1_1 : Int) : Option (Int) := wind_Number.l0 k 0 l0 (l0.length : Int) 0 a1_0 a1_1
theorem wind_Number.mono_l : ∀ k, (∀ y0 y1 y2 y3 y4 y5, LeO (wind_Number.l0 k y0 y1 y2 y3 y4 y5) (wind_Number.l0 (k + 1) y0 y1 y2 y3 y4 y5)) ∧ (∀ y0 y1 y2 y3 y4 y5 y6 y7 y8 y9 y10, LeO (wind_Number.j1 k y0 y1 y2 y3 y4 y5 y6 y7 y8 y9 y10) (wind_Number.j1 (k + 1) y0 y1 y2 y3 y4 y5 y6 y7 y8 y9 y10))
  | 0 => ⟨fun _ _ _ _ _ _ r h => by simp [wind_Number.l0] at h, fun _ _ _ _ _ _ _ _ _ _ _ r h => by simp [wind_Number.j1] at h⟩
  | k + 1 => by
    obtain ⟨ih0, ih1⟩ := wind_Number.mono_l k
    refine ⟨?_, ?_⟩
    · intro y0 y1 y2 y3 y4 y5
      unfold wind_Number.l0
      repeat' first
      | (with_reducible exact ih0 _ _ _ _ _ _)
      | (with_reducible exact ih1 _ _ _ _ _ _ _ _ _ _ _)
      | (with_reducible exact LeO.refl _)
      | (with_reducible exact LeO.none _)
      | (with_reducible refine LeO.ite ?_ ?_)
      | (with_reducible refine LeO.bind ?_ (fun _ => ?_))
      | exact ih0 _ _ _ _ _ _
      | exact ih1 _ _ _ _ _ _ _ _ _ _ _
      | exact LeO.none _
      | refine LeO.ite ?_ ?_
      | refine LeO.bind ?_ (fun _ => ?_)
    · intro y0 y1 y2 y3 y4 y5 y6 y7 y8 y9 y10
      unfold wind_Number.j1
      repeat' first
      | (with_reducible exact ih0 _ _ _ _ _ _)
      | (with_reducible exact ih1 _ _ _ _ _ _ _ _ _ _ _)
      | (with_reducible exact LeO.refl _)
      | (with_reducible exact LeO.none _)
      | (with_reducible refine LeO.ite ?_ ?_)
      | (with_reducible refine LeO.bind ?_ (fun _ => ?_))
      | exact ih0 _ _ _ _ _ _
      | exact ih1 _ _ _ _ _ _ _ _ _ _ _
      | exact LeO.none _
      | refine LeO.ite ?_ ?_
      | refine LeO.bind ?_ (fun _ => ?_)
theorem wind_Number.mono : ∀ a0 a1 a2 k, LeO (wind_Number.f k a0 a1 a2) (wind_Number.f (k + 1) a0 a1 a2) := by
  intro a0 a1 a2 k
  obtain ⟨ih0, ih1⟩ := wind_Number.mono_l k
  unfold wind_Number.f
  repeat' first
      | (with_reducible exact ih0 _ _ _ _ _ _)
      | (with_reducible exact ih1 _ _ _ _ _ _ _ _ _ _ _)
      | (with_reducible exact LeO.refl _)
      | (with_reducible exact LeO.none _)
      | (with_reducible refine LeO.ite ?_ ?_)
      | (with_reducible refine LeO.bind ?_ (fun _ => ?_))
      | exact ih0 _ _ _ _ _ _
      | exact ih1 _ _ _ _ _ _ _ _ _ _ _
      | exact LeO.none _
      | refine LeO.ite ?_ ?_
      | refine LeO.bind ?_ (fun _ => ?_)
set_option maxHeartbeats 8000000 in
set_option maxRecDepth 100000 in
theorem wind_Number.calls (k : Nat) (A0 : Option Addr) (c0 : Nat) (l0 : List (S40)) (a1_0 : Int) (a1_1 : Int) (r : Int) (w : World) (hr0 : Kd.C k40 w A0 l0.length l0) (hc0 : l0.length ≤ c0) (h : wind_Number.f k l0 a1_0 a1_1 = some r) :
    Calls Try.prog 67 #[.slice A0 l0.length c0, .agg #[.int .i64 a1_0, .int .i64 a1_1]] w fun e w' => e = .returned (.int .i64 r) ∧ Below w.heap.size w w' := by
  have hu32 := Try.underlying32
  have hu40 := Try.underlying40
  have HR0 := Aside0.mk hr0
  have HC0 := Aside0.mk hc0
  clear hr0 hc0
  have HB := Aside0.mk (Below.refl w.heap.size w)
  have H : (wind_Number.l0 k 0 l0 (l0.length : Int) 0 a1_0 a1_1) = some r := h
  clear h
  have H' := Aside0.mk H
  clear H
  go_enter Try.func67, Try.ntmps67
  go_wp2_with (first | ((with_reducible refine gate_dst (N := 3) rfl ?_); refine box_event ?hg (N := 3) ?hd (cs := #[.int .i64 a1_0, .int .i64 a1_1]) (t := 32) ?hr ?_; (case hd => rfl); (case hg => rfl); (case hr => first | (go_simp; done) | (go_simp; rfl)); intro gb143 hg w3 hbox hb; have n0_ := Aside0.mk (below_step (by repeat (first | (with_reducible first | exact HB.out | apply below_alloc | apply pw_below_drewN | apply below_drew1) | exact HB.out)) hb); have n1_ := Aside0.mk (hbox); have n2_ := Aside0.mk ((by rw [hg]; exact (below_size (by repeat (first | (with_reducible first | exact HB.out | apply below_alloc | apply pw_below_drewN | apply below_drew1) | exact HB.out))) : w.heap.size ≤ gb143)); have n3_ := Aside0.mk ((by rw [hg]; exact (below_size (by repeat (first | (with_reducible first | exact HB.out | apply below_alloc | apply pw_below_drewN | apply below_drew1) | exact HB.out))) : w.heap.size ≤ gb143)); clear HB; have HB := n0_; have BK143 := n1_; have GW143 := n2_; have GE143 := n3_; clear n0_ n1_ n2_ n3_; clear hb hbox hg))
  go_loopg [5, 10] k (fun kq v5 v10 w' => ∃ (x5_1 : Int) (x10_1 : Int), v5 = .int .i64 x5_1 ∧ v10 = .int .i64 x10_1 ∧ Aside0 (wind_Number.l0 kq x5_1 l0 (l0.length : Int) x10_1 a1_0 a1_1 = some r) ∧ Aside0 (kq ≤ k) ∧ Aside0 (w'.heap[gb143]? = some (.cells #[.int .i64 a1_0, .int .i64 a1_1] 32 (0, 0))) ∧ Aside0 (Below w.heap.size w w'))
  case atStart => exact ⟨(0), (0), (by first | rfl | (simp; done) | (simp [*]; done)), (by first | rfl | (simp; done) | (simp [*]; done)), H', ⟨Nat.le_refl _⟩, ⟨by (with_reducible repeat (first | refine blk_drewN ?_ _ | refine blk_drew ?_ | refine blk_alloc ?_ _)); exact BK143.out⟩, ⟨by repeat (first | (with_reducible first | exact HB.out | apply below_alloc | apply pw_below_drewN | apply below_drew1 | refine below_set ?_ GE143.out) | exact HB.out)⟩⟩
  case round =>
    clear H'
    try clear p2
    obtain ⟨x5_1, x10_1, rfl, rfl, HA, HK1, BK143, HB⟩ := hrel
    cases gk with
    | zero => exact absurd HA.out (by simp [wind_Number.l0])
    | succ k1 =>
      have H := HA.out
      clear HA
      simp only [wind_Number.l0] at H
      by_cases c4 : x10_1 < (l0.length : Int)
      · rw [if_pos c4] at H
        have c4b0 : decide (x10_1 < (l0.length : Int)) = true := decide_eq_true c4
        clear c4
        by_cases c5 : 0 ≤ x10_1
        · rw [if_pos c5] at H
          have c5b0 : decide (0 ≤ x10_1) = true := decide_eq_true c5
          clear c5
          by_cases c6 : x10_1 < (l0.length : Int)
          · rw [if_pos c6] at H
            have c6b0 : decide (x10_1 < (l0.length : Int)) = true := decide_eq_true c6
            clear c6
            have HC7 := Aside0.mk H
            clear H
            have p144 : 0 ≤ (x10_1 : Int) := of_decide_eq_true (by first | (with_reducible assumption) | assumption)
            have q144 : x10_1 < (l0.length : Int) := of_decide_eq_true (by first | (with_reducible assumption) | assumption)
            obtain ⟨ad144, e144, hx144_0, hx144_1, hx144_2, hx144_3⟩ := at_T40 HR0.out x10_1 p144 q144
            cases e144
            replace hx144_0 := (HB.out.cell (World.block_lt_of_cell? w _ hx144_0)).trans hx144_0
            replace hx144_1 := (HB.out.cell (World.block_lt_of_cell? w _ hx144_1)).trans hx144_1
            replace hx144_2 := (HB.out.cell (World.block_lt_of_cell? w _ hx144_2)).trans hx144_2
            replace hx144_3 := (HB.out.cell (World.block_lt_of_cell? w _ hx144_3)).trans hx144_3
            replace p144 := eq_true p144
            replace q144 := eq_true q144
            go_upto_region 5 with (first | ((with_reducible refine gate_dst (N := 7) rfl ?_); refine box_event ?hg (N := 7) ?hd (cs := #[.int .i64 0, .int .i64 0, .int .i64 0, .int .i64 0]) (t := 40) ?hr ?_; (case hd => rfl); (case hg => rfl); (case hr => first | (go_simp; done) | (go_simp; rfl)); intro gb145 hg w8 hbox hb; have n0_ := Aside0.mk (blk_below (g := gb143) (o := .cells #[.int .i64 a1_0, .int .i64 a1_1] 32 (0, 0)) (by (with_reducible repeat (first | refine blk_drewN ?_ _ | refine blk_drew ?_ | refine blk_alloc ?_ _)); exact BK143.out) hb); have n1_ := Aside0.mk (below_step (by repeat (first | (with_reducible first | exact HB.out | apply below_alloc | apply pw_below_drewN | apply below_drew1 | refine below_set ?_ GE143.out) | exact HB.out)) hb); have n2_ := Aside0.mk (hbox); have n3_ := Aside0.mk ((by rw [hg]; exact (below_size (by repeat (first | (with_reducible first | exact HB.out | apply below_alloc | apply pw_below_drewN | apply below_drew1 | refine below_set ?_ GE143.out) | exact HB.out))) : w.heap.size ≤ gb145)); have n4_ := Aside0.mk ((by rw [hg]; exact (below_size (by repeat (first | (with_reducible first | exact HB.out | apply below_alloc | apply pw_below_drewN | apply below_drew1 | refine below_set ?_ GE143.out) | exact HB.out))) : w.heap.size ≤ gb145)); have n5_ := Aside0.mk ((by rw [hg]; exact Nat.ne_of_lt (blk_lt (g := gb143) (o := .cells #[.int .i64 a1_0, .int .i64 a1_1] 32 (0, 0)) (by (with_reducible repeat (first | refine blk_drewN ?_ _ | refine blk_drew ?_ | refine blk_alloc ?_ _)); exact BK143.out)) : gb143 ≠ gb145)); have n6_ := Aside0.mk ((by rw [hg]; exact Nat.ne_of_gt (blk_lt (g := gb143) (o := .cells #[.int .i64 a1_0, .int .i64 a1_1] 32 (0, 0)) (by (with_reducible repeat (first | refine blk_drewN ?_ _ | refine blk_drew ?_ | refine blk_alloc ?_ _)); exact BK143.out)) : gb145 ≠ gb143)); clear BK143; clear HB; have BK143 := n0_; have HB := n1_; have BK145 := n2_; have GW145 := n3_; have GE145 := n4_; have NB143_145 := n5_; have NB145_143 := n6_; clear n0_ n1_ n2_ n3_ n4_ n5_ n6_; clear hb hbox hg; have hnb9 := NB145_143.out; have hnc9 := NB143_145.out; have hcz10_0 : w8.cell? ⟨gb145, 0, none⟩ = some (.int .i64 0) := (blk_cell BK145.out 0).trans rfl; have hcz10_1 : w8.cell? ⟨gb145, 1, none⟩ = some (.int .i64 0) := (blk_cell BK145.out 1).trans rfl; have hcz10_2 : w8.cell? ⟨gb145, 2, none⟩ = some (.int .i64 0) := (blk_cell BK145.out 2).trans rfl; have hcz10_3 : w8.cell? ⟨gb145, 3, none⟩ = some (.int .i64 0) := (blk_cell BK145.out 3).trans rfl; have hfz10_0 := blk_frozen BK145.out 0; have hfz10_1 := blk_frozen BK145.out 1; have hfz10_2 := blk_frozen BK145.out 2; have hfz10_3 := blk_frozen BK145.out 3))
            (try simp only [Act.put, List.setIfInBounds_toArray, List.set_cons_zero, List.set_cons_succ])
            go_cut [14] (fun v14 wc => ∃ (kq : Nat) (x14_6 : Bool), v14 = .bool x14_6 ∧ Aside0 (wind_Number.j1 kq x5_1 l0 (l0.length : Int) x10_1 x14_6 a1_0 a1_1 ((rd_T40 l0 x10_1).f0.f0) ((rd_T40 l0 x10_1).f0.f1) ((rd_T40 l0 x10_1).f1.f0) ((rd_T40 l0 x10_1).f1.f1) = some r) ∧ Aside0 (kq ≤ k1) ∧ Aside0 (wc.heap[gb143]? = some (.cells #[.int .i64 a1_0, .int .i64 a1_1] 32 (0, 0))) ∧ Aside0 (wc.heap[gb145]? = some (.cells #[.int .i64 ((rd_T40 l0 x10_1).f0.f0), .int .i64 ((rd_T40 l0 x10_1).f0.f1), .int .i64 ((rd_T40 l0 x10_1).f1.f0), .int .i64 ((rd_T40 l0 x10_1).f1.f1)] 40 (0, 0))) ∧ Aside0 (Below w.heap.size w wc))
            case first =>
              have H := HC7.out
              clear HC7
              by_cases c11 : ((rd_T40 l0 x10_1).f0.f1) ≤ a1_1
              · rw [if_pos c11] at H
                have c11b0 : decide (((rd_T40 l0 x10_1).f0.f1) ≤ a1_1) = true := decide_eq_true c11
                clear c11
                (first | rw [c11b0] | (simp only [i64_w, i32_w]; rw [c11b0]) | skip)
                by_cases c12 : ((rd_T40 l0 x10_1).f1.f1) > a1_1
                · rw [if_pos c12] at H
                  have c12b0 : decide (a1_1 < ((rd_T40 l0 x10_1).f1.f1)) = true := decide_eq_true c12
                  clear c12
                  replace H := Option.bind_eq_some_iff.mp H
                  obtain ⟨t146, A130, H⟩ := H
                  replace H : (wind_Number.j1 k1 x5_1 l0 (l0.length : Int) x10_1 (decide (t146 > 0)) a1_0 a1_1 ((rd_T40 l0 x10_1).f0.f0) ((rd_T40 l0 x10_1).f0.f1) ((rd_T40 l0 x10_1).f1.f0) ((rd_T40 l0 x10_1).f1.f1)) = some r := H
                  have A13 := Aside0.mk A130
                  clear A130
                  have H' := Aside0.mk H
                  clear H
                  have hnb14 := NB145_143.out
                  have hnc14 := NB143_145.out
                  have hcz15_0 : w8.cell? ⟨gb145, 0, none⟩ = some (.int .i64 0) := (blk_cell BK145.out 0).trans rfl
                  have hcz15_1 : w8.cell? ⟨gb145, 1, none⟩ = some (.int .i64 0) := (blk_cell BK145.out 1).trans rfl
                  have hcz15_2 : w8.cell? ⟨gb145, 2, none⟩ = some (.int .i64 0) := (blk_cell BK145.out 2).trans rfl
                  have hcz15_3 : w8.cell? ⟨gb145, 3, none⟩ = some (.int .i64 0) := (blk_cell BK145.out 3).trans rfl
                  have hfz15_0 := blk_frozen BK145.out 0
                  have hfz15_1 := blk_frozen BK145.out 1
                  have hfz15_2 := blk_frozen BK145.out 2
                  have hfz15_3 := blk_frozen BK145.out 3
                  have hcz16_0 : w8.cell? ⟨gb143, 0, none⟩ = some (.int .i64 a1_0) := (blk_cell BK143.out 0).trans rfl
                  have hcz16_1 : w8.cell? ⟨gb143, 1, none⟩ = some (.int .i64 a1_1) := (blk_cell BK143.out 1).trans rfl
                  have hfz16_0 := blk_frozen BK143.out 0
                  have hfz16_1 := blk_frozen BK143.out 1
                  go_wp2_with (first | (go_at_call 83; (with_reducible refine (plane_Side.calls ((rd_T40 l0 x10_1).f0.f0) ((rd_T40 l0 x10_1).f0.f1) ((rd_T40 l0 x10_1).f1.f0) ((rd_T40 l0 x10_1).f1.f1) a1_0 a1_1 t146 _ A13.out).mono ?_); rintro e w17 ⟨rfl, hb⟩; have n0_ := Aside0.mk (blk_below (g := gb143) (o := .cells #[.int .i64 a1_0, .int .i64 a1_1] 32 (0, 0)) (by (with_reducible repeat (first | refine blk_drewN ?_ _ | refine blk_drew ?_ | refine blk_alloc ?_ _)); refine blk_far ?_ NB143_145.out _; (with_reducible repeat (first | refine blk_drewN ?_ _ | refine blk_drew ?_ | refine blk_alloc ?_ _)); refine blk_far ?_ NB143_145.out _; (with_reducible repeat (first | refine blk_drewN ?_ _ | refine blk_drew ?_ | refine blk_alloc ?_ _)); refine blk_far ?_ NB143_145.out _; (with_reducible repeat (first | refine blk_drewN ?_ _ | refine blk_drew ?_ | refine blk_alloc ?_ _)); refine blk_far ?_ NB143_145.out _; (with_reducible repeat (first | refine blk_drewN ?_ _ | refine blk_drew ?_ | refine blk_alloc ?_ _)); exact BK143.out) hb); have n1_ := Aside0.mk (blk_below (g := gb145) (o := .cells #[.int .i64 ((rd_T40 l0 x10_1).f0.f0), .int .i64 ((rd_T40 l0 x10_1).f0.f1), .int .i64 ((rd_T40 l0 x10_1).f1.f0), .int .i64 ((rd_T40 l0 x10_1).f1.f1)] 40 (0, 0)) (by (with_reducible repeat (first | refine blk_drewN ?_ _ | refine blk_drew ?_ | refine blk_alloc ?_ _)); refine blk_put (cs := #[.int .i64 ((rd_T40 l0 x10_1).f0.f0), .int .i64 ((rd_T40 l0 x10_1).f0.f1), .int .i64 ((rd_T40 l0 x10_1).f1.f0), .int .i64 0]) ?_ 3 _ rfl; (with_reducible repeat (first | refine blk_drewN ?_ _ | refine blk_drew ?_ | refine blk_alloc ?_ _)); refine blk_put (cs := #[.int .i64 ((rd_T40 l0 x10_1).f0.f0), .int .i64 ((rd_T40 l0 x10_1).f0.f1), .int .i64 0, .int .i64 0]) ?_ 2 _ rfl; (with_reducible repeat (first | refine blk_drewN ?_ _ | refine blk_drew ?_ | refine blk_alloc ?_ _)); refine blk_put (cs := #[.int .i64 ((rd_T40 l0 x10_1).f0.f0), .int .i64 0, .int .i64 0, .int .i64 0]) ?_ 1 _ rfl; (with_reducible repeat (first | refine blk_drewN ?_ _ | refine blk_drew ?_ | refine blk_alloc ?_ _)); refine blk_put (cs := #[.int .i64 0, .int .i64 0, .int .i64 0, .int .i64 0]) ?_ 0 _ rfl; (with_reducible repeat (first | refine blk_drewN ?_ _ | refine blk_drew ?_ | refine blk_alloc ?_ _)); exact BK145.out) hb); have n2_ := Aside0.mk (below_step (by repeat (first | (with_reducible first | exact HB.out | apply below_alloc | apply pw_below_drewN | apply below_drew1 | refine below_set ?_ GE143.out | refine below_set ?_ GE145.out) | exact HB.out)) hb); clear BK143; clear BK145; clear HB; have BK143 := n0_; have BK145 := n1_; have HB := n2_; clear n0_ n1_ n2_; (try clear hb); (try clear hb2); (try clear hk); (try clear hi)))
                  go_meet
                  case rel => exact ⟨_, (decide (t146 > 0)), (by first | rfl | (simp; done) | (simp [*]; done)), H', ⟨by have := HK1.out; first | omega | exact Nat.le_refl _⟩, ⟨by (with_reducible repeat (first | refine blk_drewN ?_ _ | refine blk_drew ?_ | refine blk_alloc ?_ _)); exact BK143.out⟩, ⟨by (with_reducible repeat (first | refine blk_drewN ?_ _ | refine blk_drew ?_ | refine blk_alloc ?_ _)); exact BK145.out⟩, ⟨by repeat (first | (with_reducible first | exact HB.out | apply below_alloc | apply pw_below_drewN | apply below_drew1 | refine below_set ?_ GE143.out | refine below_set ?_ GE145.out) | exact HB.out)⟩⟩
                · rw [if_neg c12] at H
                  have c12b0 : decide (a1_1 < ((rd_T40 l0 x10_1).f1.f1)) = false := decide_eq_false c12
                  clear c12
                  have H' := Aside0.mk H
                  clear H
                  have hnb18 := NB145_143.out
                  have hnc18 := NB143_145.out
                  have hcz19_0 : w8.cell? ⟨gb145, 0, none⟩ = some (.int .i64 0) := (blk_cell BK145.out 0).trans rfl
                  have hcz19_1 : w8.cell? ⟨gb145, 1, none⟩ = some (.int .i64 0) := (blk_cell BK145.out 1).trans rfl
                  have hcz19_2 : w8.cell? ⟨gb145, 2, none⟩ = some (.int .i64 0) := (blk_cell BK145.out 2).trans rfl
                  have hcz19_3 : w8.cell? ⟨gb145, 3, none⟩ = some (.int .i64 0) := (blk_cell BK145.out 3).trans rfl
                  have hfz19_0 := blk_frozen BK145.out 0
                  have hfz19_1 := blk_frozen BK145.out 1
                  have hfz19_2 := blk_frozen BK145.out 2
                  have hfz19_3 := blk_frozen BK145.out 3
                  have hcz20_0 : w8.cell? ⟨gb143, 0, none⟩ = some (.int .i64 a1_0) := (blk_cell BK143.out 0).trans rfl
                  have hcz20_1 : w8.cell? ⟨gb143, 1, none⟩ = some (.int .i64 a1_1) := (blk_cell BK143.out 1).trans rfl
                  have hfz20_0 := blk_frozen BK143.out 0
                  have hfz20_1 := blk_frozen BK143.out 1
                  go_wp2
                  go_meet
                  case rel => exact ⟨_, (false), (by first | rfl | (simp; done) | (simp [*]; done)), H', ⟨by have := HK1.out; first | omega | exact Nat.le_refl _⟩, ⟨by (with_reducible repeat (first | refine blk_drewN ?_ _ | refine blk_drew ?_ | refine blk_alloc ?_ _)); refine blk_far ?_ NB143_145.out _; (with_reducible repeat (first | refine blk_drewN ?_ _ | refine blk_drew ?_ | refine blk_alloc ?_ _)); refine blk_far ?_ NB143_145.out _; (with_reducible repeat (first | refine blk_drewN ?_ _ | refine blk_drew ?_ | refine blk_alloc ?_ _)); refine blk_far ?_ NB143_145.out _; (with_reducible repeat (first | refine blk_drewN ?_ _ | refine blk_drew ?_ | refine blk_alloc ?_ _)); refine blk_far ?_ NB143_145.out _; (with_reducible repeat (first | refine blk_drewN ?_ _ | refine blk_drew ?_ | refine blk_alloc ?_ _)); exact BK143.out⟩, ⟨by (with_reducible repeat (first | refine blk_drewN ?_ _ | refine blk_drew ?_ | refine blk_alloc ?_ _)); refine blk_put (cs := #[.int .i64 ((rd_T40 l0 x10_1).f0.f0), .int .i64 ((rd_T40 l0 x10_1).f0.f1), .int .i64 ((rd_T40 l0 x10_1).f1.f0), .int .i64 0]) ?_ 3 _ rfl; (with_reducible repeat (first | refine blk_drewN ?_ _ | refine blk_drew ?_ | refine blk_alloc ?_ _)); refine blk_put (cs := #[.int .i64 ((rd_T40 l0 x10_1).f0.f0), .int .i64 ((rd_T40 l0 x10_1).f0.f1), .int .i64 0, .int .i64 0]) ?_ 2 _ rfl; (with_reducible repeat (first | refine blk_drewN ?_ _ | refine blk_drew ?_ | refine blk_alloc ?_ _)); refine blk_put (cs := #[.int .i64 ((rd_T40 l0 x10_1).f0.f0), .int .i64 0, .int .i64 0, .int .i64 0]) ?_ 1 _ rfl; (with_reducible repeat (first | refine blk_drewN ?_ _ | refine blk_drew ?_ | refine blk_alloc ?_ _)); refine blk_put (cs := #[.int .i64 0, .int .i64 0, .int .i64 0, .int .i64 0]) ?_ 0 _ rfl; (with_reducible repeat (first | refine blk_drewN ?_ _ | refine blk_drew ?_ | refine blk_alloc ?_ _)); exact BK145.out⟩, ⟨by repeat (first | (with_reducible first | exact HB.out | apply below_alloc | apply pw_below_drewN | apply below_drew1 | refine below_set ?_ GE143.out | refine below_set ?_ GE145.out) | exact HB.out)⟩⟩
              · rw [if_neg c11] at H
                have c11b0 : decide (((rd_T40 l0 x10_1).f0.f1) ≤ a1_1) = false := decide_eq_false c11
                clear c11
                (first | rw [c11b0] | (simp only [i64_w, i32_w]; rw [c11b0]) | skip)
                have H' := Aside0.mk H
                clear H
                have hnb21 := NB145_143.out
                have hnc21 := NB143_145.out
                have hcz22_0 : w8.cell? ⟨gb145, 0, none⟩ = some (.int .i64 0) := (blk_cell BK145.out 0).trans rfl
                have hcz22_1 : w8.cell? ⟨gb145, 1, none⟩ = some (.int .i64 0) := (blk_cell BK145.out 1).trans rfl
                have hcz22_2 : w8.cell? ⟨gb145, 2, none⟩ = some (.int .i64 0) := (blk_cell BK145.out 2).trans rfl
                have hcz22_3 : w8.cell? ⟨gb145, 3, none⟩ = some (.int .i64 0) := (blk_cell BK145.out 3).trans rfl
                have hfz22_0 := blk_frozen BK145.out 0
                have hfz22_1 := blk_frozen BK145.out 1
                have hfz22_2 := blk_frozen BK145.out 2
                have hfz22_3 := blk_frozen BK145.out 3
                have hcz23_0 : w8.cell? ⟨gb143, 0, none⟩ = some (.int .i64 a1_0) := (blk_cell BK143.out 0).trans rfl
                have hcz23_1 : w8.cell? ⟨gb143, 1, none⟩ = some (.int .i64 a1_1) := (blk_cell BK143.out 1).trans rfl
                have hfz23_0 := blk_frozen BK143.out 0
                have hfz23_1 := blk_frozen BK143.out 1
                go_wp2
                go_meet
                case rel => exact ⟨_, (false), (by first | rfl | (simp; done) | (simp [*]; done)), H', ⟨by have := HK1.out; first | omega | exact Nat.le_refl _⟩, ⟨by (with_reducible repeat (first | refine blk_drewN ?_ _ | refine blk_drew ?_ | refine blk_alloc ?_ _)); refine blk_far ?_ NB143_145.out _; (with_reducible repeat (first | refine blk_drewN ?_ _ | refine blk_drew ?_ | refine blk_alloc ?_ _)); refine blk_far ?_ NB143_145.out _; (with_reducible repeat (first | refine blk_drewN ?_ _ | refine blk_drew ?_ | refine blk_alloc ?_ _)); refine blk_far ?_ NB143_145.out _; (with_reducible repeat (first | refine blk_drewN ?_ _ | refine blk_drew ?_ | refine blk_alloc ?_ _)); refine blk_far ?_ NB143_145.out _; (with_reducible repeat (first | refine blk_drewN ?_ _ | refine blk_drew ?_ | refine blk_alloc ?_ _)); exact BK143.out⟩, ⟨by (with_reducible repeat (first | refine blk_drewN ?_ _ | refine blk_drew ?_ | refine blk_alloc ?_ _)); refine blk_put (cs := #[.int .i64 ((rd_T40 l0 x10_1).f0.f0), .int .i64 ((rd_T40 l0 x10_1).f0.f1), .int .i64 ((rd_T40 l0 x10_1).f1.f0), .int .i64 0]) ?_ 3 _ rfl; (with_reducible repeat (first | refine blk_drewN ?_ _ | refine blk_drew ?_ | refine blk_alloc ?_ _)); refine blk_put (cs := #[.int .i64 ((rd_T40 l0 x10_1).f0.f0), .int .i64 ((rd_T40 l0 x10_1).f0.f1), .int .i64 0, .int .i64 0]) ?_ 2 _ rfl; (with_reducible repeat (first | refine blk_drewN ?_ _ | refine blk_drew ?_ | refine blk_alloc ?_ _)); refine blk_put (cs := #[.int .i64 ((rd_T40 l0 x10_1).f0.f0), .int .i64 0, .int .i64 0, .int .i64 0]) ?_ 1 _ rfl; (with_reducible repeat (first | refine blk_drewN ?_ _ | refine blk_drew ?_ | refine blk_alloc ?_ _)); refine blk_put (cs := #[.int .i64 0, .int .i64 0, .int .i64 0, .int .i64 0]) ?_ 0 _ rfl; (with_reducible repeat (first | refine blk_drewN ?_ _ | refine blk_drew ?_ | refine blk_alloc ?_ _)); exact BK145.out⟩, ⟨by repeat (first | (with_reducible first | exact HB.out | apply below_alloc | apply pw_below_drewN | apply below_drew1 | refine below_set ?_ GE143.out | refine below_set ?_ GE145.out) | exact HB.out)⟩⟩
            case rest =>
              clear HC7
              try clear c1
              try clear p1
              try clear q1
              try clear hx1
              try clear c2
              try clear p2
              try clear c4
              try clear c4b0
              try clear c5
              try clear c5b0
              try clear c6
              try clear c6b0
              try clear c9
              try clear c11
              try clear c11b0
              try clear c12
              try clear c12b0
              try clear c14
              try clear p14
              try clear q14
              try clear hx14
              try clear c18
              try clear c21
              try clear hcz10_0
              try clear hcz10_1
              try clear hcz10_2
              try clear hcz10_3
              try clear hcz15_0
              try clear hcz15_1
              try clear hcz15_2
              try clear hcz15_3
              try clear hcz16_0
              try clear hcz16_1
              try clear hcz19_0
              try clear hcz19_1
              try clear hcz19_2
              try clear hcz19_3
              try clear hcz20_0
              try clear hcz20_1
              try clear hcz22_0
              try clear hcz22_1
              try clear hcz22_2
              try clear hcz22_3
              try clear hcz23_0
              try clear hcz23_1
              try clear hfz10_0
              try clear hfz10_1
              try clear hfz10_2
              try clear hfz10_3
              try clear hfz15_0
              try clear hfz15_1
              try clear hfz15_2
              try clear hfz15_3
              try clear hfz16_0
              try clear hfz16_1
              try clear hfz19_0
              try clear hfz19_1
              try clear hfz19_2
              try clear hfz19_3
              try clear hfz20_0
              try clear hfz20_1
              try clear hfz22_0
              try clear hfz22_1
              try clear hfz22_2
              try clear hfz22_3
              try clear hfz23_0
              try clear hfz23_1
              try clear hx144_0
              try clear hx144_1
              try clear hx144_2
              try clear hx144_3
              try clear p144
              try clear p2
              try clear q144
              obtain ⟨kq, x14_6, rfl, HA, HJ6, BK143, BK145, HB⟩ := hcut
              cases kq with
              | zero => exact absurd HA.out (by simp [wind_Number.j1])
              | succ kj6 =>
                have H := HA.out
                clear HA
                simp only [wind_Number.j1] at H
                by_cases c24 : x14_6 = true
                · subst c24
                  have H1 : (wind_Number.l0 kj6 (wrap64 (x5_1 + 1)) l0 (l0.length : Int) (wrap64 (x10_1 + 1)) a1_0 a1_1) = some r := by rw [if_pos rfl] at H; exact H
                  clear H
                  have H := H1
                  clear H1
                  have H' := Aside0.mk H
                  clear H
                  go_wp2
                  go_roundg kj6
                  case measure => have := HK1.out; have := HJ6.out; omega
                  case rel => exact ⟨(wrap64 (x5_1 + 1)), (wrap64 (x10_1 + 1)), (by first | rfl | (simp; done) | (simp [*]; done)), (by first | rfl | (simp; done) | (simp [*]; done)), H', ⟨by have := HK1.out; have := HJ6.out; omega⟩, ⟨by (with_reducible repeat (first | refine blk_drewN ?_ _ | refine blk_drew ?_ | refine blk_alloc ?_ _)); exact BK143.out⟩, ⟨by repeat (first | (with_reducible first | exact HB.out | apply below_alloc | apply pw_below_drewN | apply below_drew1 | refine below_set ?_ GE143.out | refine below_set ?_ GE145.out) | exact HB.out)⟩⟩
                · replace c24 := Bool.eq_false_iff.mpr c24
                  subst c24
                  have H1 : (if ((rd_T40 l0 x10_1).f1.f1) ≤ a1_1 then (if ((rd_T40 l0 x10_1).f0.f1) > a1_1 then ((plane_Side.f ((rd_T40 l0 x10_1).f0.f0) ((rd_T40 l0 x10_1).f0.f1) ((rd_T40 l0 x10_1).f1.f0) ((rd_T40 l0 x10_1).f1.f1) a1_0 a1_1).bind fun t147 => (if t147 < 0 then (wind_Number.l0 kj6 (wrap64 (x5_1 - 1)) l0 (l0.length : Int) (wrap64 (x10_1 + 1)) a1_0 a1_1) else (wind_Number.l0 kj6 x5_1 l0 (l0.length : Int) (wrap64 (x10_1 + 1)) a1_0 a1_1))) else (wind_Number.l0 kj6 x5_1 l0 (l0.length : Int) (wrap64 (x10_1 + 1)) a1_0 a1_1)) else (wind_Number.l0 kj6 x5_1 l0 (l0.length : Int) (wrap64 (x10_1 + 1)) a1_0 a1_1)) = some r := by rw [if_neg (show ¬ (false = true) by decide)] at H; exact H
                  clear H
                  have H := H1
                  clear H1
                  by_cases c25 : ((rd_T40 l0 x10_1).f1.f1) ≤ a1_1
                  · rw [if_pos c25] at H
                    have c25b0 : decide (((rd_T40 l0 x10_1).f1.f1) ≤ a1_1) = true := decide_eq_true c25
                    clear c25
                    by_cases c26 : ((rd_T40 l0 x10_1).f0.f1) > a1_1
                    · rw [if_pos c26] at H
                      have c26b0 : decide (a1_1 < ((rd_T40 l0 x10_1).f0.f1)) = true := decide_eq_true c26
                      clear c26
                      replace H := Option.bind_eq_some_iff.mp H
                      obtain ⟨t147, A270, H⟩ := H
                      replace H : (if t147 < 0 then (wind_Number.l0 kj6 (wrap64 (x5_1 - 1)) l0 (l0.length : Int) (wrap64 (x10_1 + 1)) a1_0 a1_1) else (wind_Number.l0 kj6 x5_1 l0 (l0.length : Int) (wrap64 (x10_1 + 1)) a1_0 a1_1)) = some r := H
                      have A27 := Aside0.mk A270
                      clear A270
                      by_cases c28 : t147 < 0
                      · rw [if_pos c28] at H
                        have c28b0 : decide (t147 < 0) = true := decide_eq_true c28
                        clear c28
                        have H' := Aside0.mk H
                        clear H
                        have hnb29 := NB145_143.out
                        have hnc29 := NB143_145.out
                        have hcz30_0 : wc.cell? ⟨gb145, 0, none⟩ = some (.int .i64 ((rd_T40 l0 x10_1).f0.f0)) := (blk_cell BK145.out 0).trans rfl
                        have hcz30_1 : wc.cell? ⟨gb145, 1, none⟩ = some (.int .i64 ((rd_T40 l0 x10_1).f0.f1)) := (blk_cell BK145.out 1).trans rfl
                        have hcz30_2 : wc.cell? ⟨gb145, 2, none⟩ = some (.int .i64 ((rd_T40 l0 x10_1).f1.f0)) := (blk_cell BK145.out 2).trans rfl
                        have hcz30_3 : wc.cell? ⟨gb145, 3, none⟩ = some (.int .i64 ((rd_T40 l0 x10_1).f1.f1)) := (blk_cell BK145.out 3).trans rfl
                        have hfz30_0 := blk_frozen BK145.out 0
                        have hfz30_1 := blk_frozen BK145.out 1
                        have hfz30_2 := blk_frozen BK145.out 2
                        have hfz30_3 := blk_frozen BK145.out 3
                        have hcz31_0 : wc.cell? ⟨gb143, 0, none⟩ = some (.int .i64 a1_0) := (blk_cell BK143.out 0).trans rfl
                        have hcz31_1 : wc.cell? ⟨gb143, 1, none⟩ = some (.int .i64 a1_1) := (blk_cell BK143.out 1).trans rfl
                        have hfz31_0 := blk_frozen BK143.out 0
                        have hfz31_1 := blk_frozen BK143.out 1
                        go_wp2_with (first | (go_at_call 83; (with_reducible refine (plane_Side.calls ((rd_T40 l0 x10_1).f0.f0) ((rd_T40 l0 x10_1).f0.f1) ((rd_T40 l0 x10_1).f1.f0) ((rd_T40 l0 x10_1).f1.f1) a1_0 a1_1 t147 _ A27.out).mono ?_); rintro e w32 ⟨rfl, hb⟩; have n0_ := Aside0.mk (blk_below (g := gb143) (o := .cells #[.int .i64 a1_0, .int .i64 a1_1] 32 (0, 0)) (by (with_reducible repeat (first | refine blk_drewN ?_ _ | refine blk_drew ?_ | refine blk_alloc ?_ _)); exact BK143.out) hb); have n1_ := Aside0.mk (blk_below (g := gb145) (o := .cells #[.int .i64 ((rd_T40 l0 x10_1).f0.f0), .int .i64 ((rd_T40 l0 x10_1).f0.f1), .int .i64 ((rd_T40 l0 x10_1).f1.f0), .int .i64 ((rd_T40 l0 x10_1).f1.f1)] 40 (0, 0)) (by (with_reducible repeat (first | refine blk_drewN ?_ _ | refine blk_drew ?_ | refine blk_alloc ?_ _)); exact BK145.out) hb); have n2_ := Aside0.mk (below_step (by repeat (first | (with_reducible first | exact HB.out | apply below_alloc | apply pw_below_drewN | apply below_drew1 | refine below_set ?_ GE143.out | refine below_set ?_ GE145.out) | exact HB.out)) hb); clear BK143; clear BK145; clear HB; have BK143 := n0_; have BK145 := n1_; have HB := n2_; clear n0_ n1_ n2_; (try clear hb); (try clear hb2); (try clear hk); (try clear hi)))
                        go_roundg kj6
                        case measure => have := HK1.out; have := HJ6.out; omega
                        case rel => exact ⟨(wrap64 (x5_1 - 1)), (wrap64 (x10_1 + 1)), (by first | rfl | (simp; done) | (simp [*]; done)), (by first | rfl | (simp; done) | (simp [*]; done)), H', ⟨by have := HK1.out; have := HJ6.out; omega⟩, ⟨by (with_reducible repeat (first | refine blk_drewN ?_ _ | refine blk_drew ?_ | refine blk_alloc ?_ _)); exact BK143.out⟩, ⟨by repeat (first | (with_reducible first | exact HB.out | apply below_alloc | apply pw_below_drewN | apply below_drew1 | refine below_set ?_ GE143.out | refine below_set ?_ GE145.out) | exact HB.out)⟩⟩
                      · rw [if_neg c28] at H
                        have c28b0 : decide (t147 < 0) = false := decide_eq_false c28
                        clear c28
                        have H' := Aside0.mk H
                        clear H
                        have hnb33 := NB145_143.out
                        have hnc33 := NB143_145.out
                        have hcz34_0 : wc.cell? ⟨gb145, 0, none⟩ = some (.int .i64 ((rd_T40 l0 x10_1).f0.f0)) := (blk_cell BK145.out 0).trans rfl
                        have hcz34_1 : wc.cell? ⟨gb145, 1, none⟩ = some (.int .i64 ((rd_T40 l0 x10_1).f0.f1)) := (blk_cell BK145.out 1).trans rfl
                        have hcz34_2 : wc.cell? ⟨gb145, 2, none⟩ = some (.int .i64 ((rd_T40 l0 x10_1).f1.f0)) := (blk_cell BK145.out 2).trans rfl
                        have hcz34_3 : wc.cell? ⟨gb145, 3, none⟩ = some (.int .i64 ((rd_T40 l0 x10_1).f1.f1)) := (blk_cell BK145.out 3).trans rfl
                        have hfz34_0 := blk_frozen BK145.out 0
                        have hfz34_1 := blk_frozen BK145.out 1
                        have hfz34_2 := blk_frozen BK145.out 2
                        have hfz34_3 := blk_frozen BK145.out 3
                        have hcz35_0 : wc.cell? ⟨gb143, 0, none⟩ = some (.int .i64 a1_0) := (blk_cell BK143.out 0).trans rfl
                        have hcz35_1 : wc.cell? ⟨gb143, 1, none⟩ = some (.int .i64 a1_1) := (blk_cell BK143.out 1).trans rfl
                        have hfz35_0 := blk_frozen BK143.out 0
                        have hfz35_1 := blk_frozen BK143.out 1
                        go_wp2_with (first | (go_at_call 83; (with_reducible refine (plane_Side.calls ((rd_T40 l0 x10_1).f0.f0) ((rd_T40 l0 x10_1).f0.f1) ((rd_T40 l0 x10_1).f1.f0) ((rd_T40 l0 x10_1).f1.f1) a1_0 a1_1 t147 _ A27.out).mono ?_); rintro e w36 ⟨rfl, hb⟩; have n0_ := Aside0.mk (blk_below (g := gb143) (o := .cells #[.int .i64 a1_0, .int .i64 a1_1] 32 (0, 0)) (by (with_reducible repeat (first | refine blk_drewN ?_ _ | refine blk_drew ?_ | refine blk_alloc ?_ _)); exact BK143.out) hb); have n1_ := Aside0.mk (blk_below (g := gb145) (o := .cells #[.int .i64 ((rd_T40 l0 x10_1).f0.f0), .int .i64 ((rd_T40 l0 x10_1).f0.f1), .int .i64 ((rd_T40 l0 x10_1).f1.f0), .int .i64 ((rd_T40 l0 x10_1).f1.f1)] 40 (0, 0)) (by (with_reducible repeat (first | refine blk_drewN ?_ _ | refine blk_drew ?_ | refine blk_alloc ?_ _)); exact BK145.out) hb); have n2_ := Aside0.mk (below_step (by repeat (first | (with_reducible first | exact HB.out | apply below_alloc | apply pw_below_drewN | apply below_drew1 | refine below_set ?_ GE143.out | refine below_set ?_ GE145.out) | exact HB.out)) hb); clear BK143; clear BK145; clear HB; have BK143 := n0_; have BK145 := n1_; have HB := n2_; clear n0_ n1_ n2_; (try clear hb); (try clear hb2); (try clear hk); (try clear hi)))
                        go_roundg kj6
                        case measure => have := HK1.out; have := HJ6.out; omega
                        case rel => exact ⟨(x5_1), (wrap64 (x10_1 + 1)), (by first | rfl | (simp; done) | (simp [*]; done)), (by first | rfl | (simp; done) | (simp [*]; done)), H', ⟨by have := HK1.out; have := HJ6.out; omega⟩, ⟨by (with_reducible repeat (first | refine blk_drewN ?_ _ | refine blk_drew ?_ | refine blk_alloc ?_ _)); exact BK143.out⟩, ⟨by repeat (first | (with_reducible first | exact HB.out | apply below_alloc | apply pw_below_drewN | apply below_drew1 | refine below_set ?_ GE143.out | refine below_set ?_ GE145.out) | exact HB.out)⟩⟩
                    · rw [if_neg c26] at H
                      have c26b0 : decide (a1_1 < ((rd_T40 l0 x10_1).f0.f1)) = false := decide_eq_false c26
                      clear c26
                      have H' := Aside0.mk H
                      clear H
                      have hnb37 := NB145_143.out
                      have hnc37 := NB143_145.out
                      have hcz38_0 : wc.cell? ⟨gb145, 0, none⟩ = some (.int .i64 ((rd_T40 l0 x10_1).f0.f0)) := (blk_cell BK145.out 0).trans rfl
                      have hcz38_1 : wc.cell? ⟨gb145, 1, none⟩ = some (.int .i64 ((rd_T40 l0 x10_1).f0.f1)) := (blk_cell BK145.out 1).trans rfl
                      have hcz38_2 : wc.cell? ⟨gb145, 2, none⟩ = some (.int .i64 ((rd_T40 l0 x10_1).f1.f0)) := (blk_cell BK145.out 2).trans rfl
                      have hcz38_3 : wc.cell? ⟨gb145, 3, none⟩ = some (.int .i64 ((rd_T40 l0 x10_1).f1.f1)) := (blk_cell BK145.out 3).trans rfl
                      have hfz38_0 := blk_frozen BK145.out 0
                      have hfz38_1 := blk_frozen BK145.out 1
                      have hfz38_2 := blk_frozen BK145.out 2
                      have hfz38_3 := blk_frozen BK145.out 3
                      have hcz39_0 : wc.cell? ⟨gb143, 0, none⟩ = some (.int .i64 a1_0) := (blk_cell BK143.out 0).trans rfl
                      have hcz39_1 : wc.cell? ⟨gb143, 1, none⟩ = some (.int .i64 a1_1) := (blk_cell BK143.out 1).trans rfl
                      have hfz39_0 := blk_frozen BK143.out 0
                      have hfz39_1 := blk_frozen BK143.out 1
                      go_wp2
                      go_roundg kj6
                      case measure => have := HK1.out; have := HJ6.out; omega
                      case rel => exact ⟨(x5_1), (wrap64 (x10_1 + 1)), (by first | rfl | (simp; done) | (simp [*]; done)), (by first | rfl | (simp; done) | (simp [*]; done)), H', ⟨by have := HK1.out; have := HJ6.out; omega⟩, ⟨by (with_reducible repeat (first | refine blk_drewN ?_ _ | refine blk_drew ?_ | refine blk_alloc ?_ _)); exact BK143.out⟩, ⟨by repeat (first | (with_reducible first | exact HB.out | apply below_alloc | apply pw_below_drewN | apply below_drew1 | refine below_set ?_ GE143.out | refine below_set ?_ GE145.out) | exact HB.out)⟩⟩
                  · rw [if_neg c25] at H
                    have c25b0 : decide (((rd_T40 l0 x10_1).f1.f1) ≤ a1_1) = false := decide_eq_false c25
                    clear c25
                    have H' := Aside0.mk H
                    clear H
                    have hnb40 := NB145_143.out
                    have hnc40 := NB143_145.out
                    have hcz41_0 : wc.cell? ⟨gb145, 0, none⟩ = some (.int .i64 ((rd_T40 l0 x10_1).f0.f0)) := (blk_cell BK145.out 0).trans rfl
                    have hcz41_1 : wc.cell? ⟨gb145, 1, none⟩ = some (.int .i64 ((rd_T40 l0 x10_1).f0.f1)) := (blk_cell BK145.out 1).trans rfl
                    have hcz41_2 : wc.cell? ⟨gb145, 2, none⟩ = some (.int .i64 ((rd_T40 l0 x10_1).f1.f0)) := (blk_cell BK145.out 2).trans rfl
                    have hcz41_3 : wc.cell? ⟨gb145, 3, none⟩ = some (.int .i64 ((rd_T40 l0 x10_1).f1.f1)) := (blk_cell BK145.out 3).trans rfl
                    have hfz41_0 := blk_frozen BK145.out 0
                    have hfz41_1 := blk_frozen BK145.out 1
                    have hfz41_2 := blk_frozen BK145.out 2
                    have hfz41_3 := blk_frozen BK145.out 3
                    have hcz42_0 : wc.cell? ⟨gb143, 0, none⟩ = some (.int .i64 a1_0) := (blk_cell BK143.out 0).trans rfl
                    have hcz42_1 : wc.cell? ⟨gb143, 1, none⟩ = some (.int .i64 a1_1) := (blk_cell BK143.out 1).trans rfl
                    have hfz42_0 := blk_frozen BK143.out 0
                    have hfz42_1 := blk_frozen BK143.out 1
                    go_wp2
                    go_roundg kj6
                    case measure => have := HK1.out; have := HJ6.out; omega
                    case rel => exact ⟨(x5_1), (wrap64 (x10_1 + 1)), (by first | rfl | (simp; done) | (simp [*]; done)), (by first | rfl | (simp; done) | (simp [*]; done)), H', ⟨by have := HK1.out; have := HJ6.out; omega⟩, ⟨by (with_reducible repeat (first | refine blk_drewN ?_ _ | refine blk_drew ?_ | refine blk_alloc ?_ _)); exact BK143.out⟩, ⟨by repeat (first | (with_reducible first | exact HB.out | apply below_alloc | apply pw_below_drewN | apply below_drew1 | refine below_set ?_ GE143.out | refine below_set ?_ GE145.out) | exact HB.out)⟩⟩
          · rw [if_neg c6] at H
            exact absurd H (by simp)
        · rw [if_neg c5] at H
          exact absurd H (by simp)
      · rw [if_neg c4] at H
        have c4b0 : decide (x10_1 < (l0.length : Int)) = false := decide_eq_false c4
        clear c4
        obtain rfl := Option.some.inj H
        go_wp2
        go_ret
        exact ⟨by first | rfl | (simp [errW_none, errW_some] <;> rfl) | (simp [*, errW_none, errW_some] <;> rfl), by repeat (first | (with_reducible first | exact HB.out | apply below_alloc | apply pw_below_drewN | apply below_drew1 | refine below_set ?_ GE143.out) | exact HB.out)⟩
end Go.Proofs.Ytlljpjbhndcaiaa.Q
end
section
namespace Go.Proofs.Ytlljpjbhndcaiaa.Q
open Go.RowKit Go.Proofs.YtlljpjbhndcaiaaW.PrintWords Go.Proofs.YtlljpjbhndcaiaaW.PrintLast Go.Proofs.YtlljpjbhndcaiaaW.PrintMore
attribute [local go_sem] max2_int min2_int max_two min_two max_three min_three max_four min_four
set_option linter.unusedVariables false
set_option linter.unusedSimpArgs false
def wind_On.go (k : Nat) (px py : Int) : List S40 → Option Bool
  | [] => some false
  | e :: r => (plane_Square.f k e.f0.f0 e.f0.f1 e.f1.f0 e.f1.f1 px py).bind fun d => if d.1 = 0 then some true else wind_On.go k px py r
def wind_On.f (k : Nat) (l0 : List (S40)) (a1_0 : Int) (a1_1 : Int) : Option (Bool) := wind_On.go k a1_0 a1_1 l0
theorem wind_On.mono : ∀ a0 a1 a2 k, LeO (wind_On.f k a0 a1 a2) (wind_On.f (k + 1) a0 a1 a2) := by
  intro a0 a1 a2 k
  unfold wind_On.f
  induction a0 with
  | nil => exact LeO.refl _
  | cons e r ih => exact LeO.bind (plane_Square.mono _ _ _ _ _ _ _) (fun _ => LeO.ite (LeO.refl _) ih)
theorem wind_field (x y : Int) (w : World) : (Instr.field 36 (.agg #[.int .i64 x, .int .i64 y]) 0).run Try.prog w = .ok (.int .i64 x) w := by kernel_rfl
theorem wind_On_drop (l : List S40) (i : Nat) (h : i < l.length) : l.drop i = rd_T40 l i :: l.drop (i + 1) := by
  rw [List.drop_eq_getElem_cons h]
  simp [rd_T40, h]
set_option maxHeartbeats 4000000 in
set_option maxRecDepth 100000 in
theorem wind_On.calls (k : Nat) (A0 : Option Addr) (c0 : Nat) (l0 : List (S40)) (a1_0 : Int) (a1_1 : Int) (r : Bool) (w : World) (hr0 : Kd.C k40 w A0 l0.length l0) (hc0 : l0.length ≤ c0) (h : wind_On.f k l0 a1_0 a1_1 = some r) :
    Calls Try.prog 68 #[.slice A0 l0.length c0, .agg #[.int .i64 a1_0, .int .i64 a1_1]] w fun e w' => e = .returned (.bool r) ∧ Below w.heap.size w w' := by
  have hm : l0.length ≤ 9223372036854775807 := hr0.2.1
  have HR0 := Aside0.mk hr0
  have H0 := Aside0.mk h
  clear hr0 h
  go_enter Try.func68, Try.ntmps68
  go_wp2_with fail
  go_loopw [9] (fun s9 W => ∃ (i : Nat), i ≤ l0.length ∧ s9 = .int .i64 i ∧ Aside0 (W.heap[w.heap.size]? = some (.cells #[.int .i64 a1_0, .int .i64 a1_1] 32 (0, 0)) ∧ Below w.heap.size w W ∧ wind_On.go k a1_0 a1_1 (l0.drop i) = some r)) (fun s9 _ => l0.length - (intOf s9).toNat)
  case atStart =>
    exact ⟨0, Nat.zero_le _, rfl, ⟨hnew _ _ rfl, balloc (Below.refl _ _) _, H0.out⟩⟩
  case round =>
    obtain ⟨i, hi, rfl, HRel⟩ := hrel
    by_cases hlt : i < l0.length
    · obtain ⟨hg, hB, hgo⟩ := HRel.out
      rw [wind_On_drop l0 i hlt, wind_On.go] at hgo
      obtain ⟨⟨d1, d2⟩, hd, hgo⟩ := Option.bind_eq_some_iff.mp hgo
      simp only at hgo
      have HD := Aside0.mk hd
      clear hd
      have h0 : (0 : Int) ≤ (i : Int) := by omega
      have h1 : (i : Int) < (l0.length : Int) := by omega
      obtain ⟨ad, rfl, x0, x1, x2, x3⟩ := at_T40 HR0.out (i : Int) h0 h1
      replace x0 := (hB.cell (World.block_lt_of_cell? w _ x0)).trans x0
      replace x1 := (hB.cell (World.block_lt_of_cell? w _ x1)).trans x1
      replace x2 := (hB.cell (World.block_lt_of_cell? w _ x2)).trans x2
      replace x3 := (hB.cell (World.block_lt_of_cell? w _ x3)).trans x3
      rw [Int.toNat_natCast] at x0 x1 x2 x3
      obtain ⟨y0, y1, _, _⟩ := cells2 hg
      have hsz := (Array.getElem?_eq_some_iff.1 hg).1
      have hne := Nat.ne_of_lt hsz
      have HB := Aside0.mk hB; have HG := Aside0.mk hg; have HGo := Aside0.mk hgo
      clear hB hg hgo
      go_wp2_with fail
      refine (plane_Square.calls k _ _ _ _ _ _ _ _ _ HD.out).mono ?_
      rintro e w' ⟨rfl, hb⟩
      have HB2 := Aside0.mk (bstep (balloc HB.out (.cells #[.int .i64 (rd_T40 l0 i).f0.f0, .int .i64 (rd_T40 l0 i).f0.f1, .int .i64 (rd_T40 l0 i).f1.f0, .int .i64 (rd_T40 l0 i).f1.f1] 40)) hb)
      have HG2 := Aside0.mk ((hb.block _ (salloc hsz _)).trans (halloc HG.out _))
      clear hb x0 x1 x2 x3 y0 y1
      have hf := wind_field
      by_cases hz : d1 = 0
      · have hz' : (d1 == 0) = true := by simpa using hz
        have hgo := HGo.out
        rw [if_pos hz] at hgo
        obtain rfl := Option.some.inj hgo
        clear hgo hz
        go_wp2_with fail
        go_ret
        exact ⟨rfl, HB2.out⟩
      · have hz' : (d1 == 0) = false := by simpa using hz
        have hgo := HGo.out
        rw [if_neg hz] at hgo
        have HGo2 := Aside0.mk hgo
        clear hgo hz
        go_wp2_with fail
        go_roundw
        case rel => exact ⟨i + 1, by omega, by go_num, ⟨HG2.out, HB2.out, HGo2.out⟩⟩
        case measure => simp [intOf]; omega
    · obtain rfl : i = l0.length := by omega
      obtain ⟨hg, hB, hgo⟩ := HRel.out
      rw [List.drop_length] at hgo
      obtain rfl := Option.some.inj hgo
      go_wp2_with fail
      go_ret
      exact ⟨rfl, hB⟩
end Go.Proofs.Ytlljpjbhndcaiaa.Q
end
section
namespace Go.Proofs.Ytlljpjbhndcaiaa.Q
open Go.RowKit Go.Proofs.YtlljpjbhndcaiaaW.PrintWords Go.Proofs.YtlljpjbhndcaiaaW.PrintLast Go.Proofs.YtlljpjbhndcaiaaW.PrintMore
attribute [local go_sem] max2_int min2_int max_two min_two max_three min_three max_four min_four
set_option linter.unusedVariables false
set_option linter.unusedSimpArgs false
def dist_Sign.f (k : Nat) (l0 : List (S40)) (a1_0 : Int) (a1_1 : Int) : Option (Int) := (wind_On.f k l0 a1_0 a1_1).bind fun t149 => (if t149 = true then (some 0) else ((wind_Number.f k l0 a1_0 a1_1).bind fun t150 => (if t150 = 0 then (some (-1)) else (some 1))))
theorem dist_Sign.mono : ∀ a0 a1 a2 k, LeO (dist_Sign.f k a0 a1 a2) (dist_Sign.f (k + 1) a0 a1 a2) := by
  intro a0 a1 a2 k
  unfold dist_Sign.f
  repeat' first
      | (with_reducible exact wind_Number.mono _ _ _ _)
      | (with_reducible exact wind_On.mono _ _ _ _)
      | (with_reducible exact LeO.refl _)
      | (with_reducible exact LeO.none _)
      | (with_reducible refine LeO.ite ?_ ?_)
      | (with_reducible refine LeO.bind ?_ (fun _ => ?_))
      | exact wind_Number.mono _ _ _ _
      | exact wind_On.mono _ _ _ _
      | exact LeO.none _
      | refine LeO.ite ?_ ?_
      | refine LeO.bind ?_ (fun _ => ?_)
set_option maxHeartbeats 8000000 in
set_option maxRecDepth 100000 in
theorem dist_Sign.calls (k : Nat) (A0 : Option Addr) (c0 : Nat) (l0 : List (S40)) (a1_0 : Int) (a1_1 : Int) (r : Int) (w : World) (hr0 : Kd.C k40 w A0 l0.length l0) (hc0 : l0.length ≤ c0) (h : dist_Sign.f k l0 a1_0 a1_1 = some r) :
    Calls Try.prog 51 #[.slice A0 l0.length c0, .agg #[.int .i64 a1_0, .int .i64 a1_1]] w fun e w' => e = .returned (.int .i64 r) ∧ Below w.heap.size w w' := by
  have hu32 := Try.underlying32
  have HR0 := Aside0.mk hr0
  have HC0 := Aside0.mk hc0
  clear hr0 hc0
  have HB := Aside0.mk (Below.refl w.heap.size w)
  have H : ((wind_On.f k l0 a1_0 a1_1).bind fun t149 => (if t149 = true then (some 0) else ((wind_Number.f k l0 a1_0 a1_1).bind fun t150 => (if t150 = 0 then (some (-1)) else (some 1))))) = some r := h
  clear h
  replace H := Option.bind_eq_some_iff.mp H
  obtain ⟨t149, A30, H⟩ := H
  replace H : (if t149 = true then (some 0) else ((wind_Number.f k l0 a1_0 a1_1).bind fun t150 => (if t150 = 0 then (some (-1)) else (some 1)))) = some r := H
  have A3 := Aside0.mk A30
  clear A30
  by_cases c4 : t149 = true
  · subst c4
    have H1 : (some 0) = some r := by rw [if_pos rfl] at H; exact H
    clear H
    have H := H1
    clear H1
    obtain rfl := Option.some.inj H
    go_enter Try.func51, Try.ntmps51
    go_wp2_with (first | ((with_reducible refine gate_dst (N := 3) rfl ?_); refine box_event ?hg (N := 3) ?hd (cs := #[.int .i64 a1_0, .int .i64 a1_1]) (t := 32) ?hr ?_; (case hd => rfl); (case hg => rfl); (case hr => first | (go_simp; done) | (go_simp; rfl)); intro gb148 hg w5 hbox hb; have n0_ := Aside0.mk (below_step (by repeat (first | (with_reducible first | exact HB.out | apply below_alloc | apply pw_below_drewN | apply below_drew1) | exact HB.out)) hb); have n1_ := Aside0.mk (hbox); have n2_ := Aside0.mk ((by rw [hg]; exact (below_size (by repeat (first | (with_reducible first | exact HB.out | apply below_alloc | apply pw_below_drewN | apply below_drew1) | exact HB.out))) : w.heap.size ≤ gb148)); have n3_ := Aside0.mk ((by rw [hg]; exact (below_size (by repeat (first | (with_reducible first | exact HB.out | apply below_alloc | apply pw_below_drewN | apply below_drew1) | exact HB.out))) : w.heap.size ≤ gb148)); clear HB; have HB := n0_; have BK148 := n1_; have GW148 := n2_; have GE148 := n3_; clear n0_ n1_ n2_ n3_; clear hb hbox hg; have hcz6_0 : w5.cell? ⟨gb148, 0, none⟩ = some (.int .i64 a1_0) := (blk_cell BK148.out 0).trans rfl; have hcz6_1 : w5.cell? ⟨gb148, 1, none⟩ = some (.int .i64 a1_1) := (blk_cell BK148.out 1).trans rfl; have hfz6_0 := blk_frozen BK148.out 0; have hfz6_1 := blk_frozen BK148.out 1) | ((with_reducible refine gate_callee (f := 68) rfl ?_); refine goesL_ (some 8) rfl rfl Try.func68 (by kernel_rfl) rfl #[.slice A0 l0.length c0, .agg #[.int .i64 a1_0, .int .i64 a1_1]] rfl (by (try simp only [List.map_toArray, List.map_cons, List.map_nil]); first | done | rfl | (simp only [List.length_drop, List.length_take]; rfl)) ?_; (with_reducible refine (wind_On.calls k _ _ l0 a1_0 a1_1 true _ ?side1 ?side2 A3.out).mono ?_); (case side1 => repeat (first | exact (Kd.C_below HR0.out HB.out) | (with_reducible refine Kd.C_alloc ?_ _) | (with_reducible refine Kd.C_drewN ?_ _) | (with_reducible refine Kd.C_drew ?_))); (case side2 => exact HC0.out); rintro e w7 ⟨rfl, hb⟩; refine ⟨_, rfl, ?_⟩; have n0_ := Aside0.mk (blk_below (g := gb148) (o := .cells #[.int .i64 a1_0, .int .i64 a1_1] 32 (0, 0)) (by (with_reducible repeat (first | refine blk_drewN ?_ _ | refine blk_drew ?_ | refine blk_alloc ?_ _)); exact BK148.out) hb); have n1_ := Aside0.mk (below_step (by repeat (first | (with_reducible first | exact HB.out | apply below_alloc | apply pw_below_drewN | apply below_drew1 | refine below_set ?_ GE148.out) | exact HB.out)) hb); clear BK148; clear HB; have BK148 := n0_; have HB := n1_; clear n0_ n1_; (try clear hb); (try clear hb2); (try clear hk); (try clear hi)))
    go_ret
    exact ⟨by first | rfl | (simp [errW_none, errW_some] <;> rfl) | (simp [*, errW_none, errW_some] <;> rfl), by repeat (first | (with_reducible first | exact HB.out | apply below_alloc | apply pw_below_drewN | apply below_drew1 | refine below_set ?_ GE148.out) | exact HB.out)⟩
  · replace c4 := Bool.eq_false_iff.mpr c4
    subst c4
    have H1 : ((wind_Number.f k l0 a1_0 a1_1).bind fun t150 => (if t150 = 0 then (some (-1)) else (some 1))) = some r := by rw [if_neg (show ¬ (false = true) by decide)] at H; exact H
    clear H
    have H := H1
    clear H1
    replace H := Option.bind_eq_some_iff.mp H
    obtain ⟨t150, A80, H⟩ := H
    replace H : (if t150 = 0 then (some (-1)) else (some 1)) = some r := H
    have A8 := Aside0.mk A80
    clear A80
    by_cases c9 : t150 = 0
    · rw [if_pos c9] at H
      have c9b0 : (t150 == 0) = true := beq_iff_eq.mpr c9
      have c9b1 : (t150 != 0) = false := bne_eq_false_iff_eq.mpr c9
      clear c9
      obtain rfl := Option.some.inj H
      go_enter Try.func51, Try.ntmps51
      go_wp2_with (first | ((with_reducible refine gate_dst (N := 3) rfl ?_); refine box_event ?hg (N := 3) ?hd (cs := #[.int .i64 a1_0, .int .i64 a1_1]) (t := 32) ?hr ?_; (case hd => rfl); (case hg => rfl); (case hr => first | (go_simp; done) | (go_simp; rfl)); intro gb148 hg w10 hbox hb; have n0_ := Aside0.mk (below_step (by repeat (first | (with_reducible first | exact HB.out | apply below_alloc | apply pw_below_drewN | apply below_drew1) | exact HB.out)) hb); have n1_ := Aside0.mk (hbox); have n2_ := Aside0.mk ((by rw [hg]; exact (below_size (by repeat (first | (with_reducible first | exact HB.out | apply below_alloc | apply pw_below_drewN | apply below_drew1) | exact HB.out))) : w.heap.size ≤ gb148)); have n3_ := Aside0.mk ((by rw [hg]; exact (below_size (by repeat (first | (with_reducible first | exact HB.out | apply below_alloc | apply pw_below_drewN | apply below_drew1) | exact HB.out))) : w.heap.size ≤ gb148)); clear HB; have HB := n0_; have BK148 := n1_; have GW148 := n2_; have GE148 := n3_; clear n0_ n1_ n2_ n3_; clear hb hbox hg; have hcz11_0 : w10.cell? ⟨gb148, 0, none⟩ = some (.int .i64 a1_0) := (blk_cell BK148.out 0).trans rfl; have hcz11_1 : w10.cell? ⟨gb148, 1, none⟩ = some (.int .i64 a1_1) := (blk_cell BK148.out 1).trans rfl; have hfz11_0 := blk_frozen BK148.out 0; have hfz11_1 := blk_frozen BK148.out 1) | ((with_reducible refine gate_callee (f := 68) rfl ?_); refine goesL_ (some 8) rfl rfl Try.func68 (by kernel_rfl) rfl #[.slice A0 l0.length c0, .agg #[.int .i64 a1_0, .int .i64 a1_1]] rfl (by (try simp only [List.map_toArray, List.map_cons, List.map_nil]); first | done | rfl | (simp only [List.length_drop, List.length_take]; rfl)) ?_; (with_reducible refine (wind_On.calls k _ _ l0 a1_0 a1_1 false _ ?side1 ?side2 A3.out).mono ?_); (case side1 => repeat (first | exact (Kd.C_below HR0.out HB.out) | (with_reducible refine Kd.C_alloc ?_ _) | (with_reducible refine Kd.C_drewN ?_ _) | (with_reducible refine Kd.C_drew ?_))); (case side2 => exact HC0.out); rintro e w12 ⟨rfl, hb⟩; refine ⟨_, rfl, ?_⟩; have n0_ := Aside0.mk (blk_below (g := gb148) (o := .cells #[.int .i64 a1_0, .int .i64 a1_1] 32 (0, 0)) (by (with_reducible repeat (first | refine blk_drewN ?_ _ | refine blk_drew ?_ | refine blk_alloc ?_ _)); exact BK148.out) hb); have n1_ := Aside0.mk (below_step (by repeat (first | (with_reducible first | exact HB.out | apply below_alloc | apply pw_below_drewN | apply below_drew1 | refine below_set ?_ GE148.out) | exact HB.out)) hb); clear BK148; clear HB; have BK148 := n0_; have HB := n1_; clear n0_ n1_; (try clear hb); (try clear hb2); (try clear hk); (try clear hi); have hcz13_0 : w12.cell? ⟨gb148, 0, none⟩ = some (.int .i64 a1_0) := (blk_cell BK148.out 0).trans rfl; have hcz13_1 : w12.cell? ⟨gb148, 1, none⟩ = some (.int .i64 a1_1) := (blk_cell BK148.out 1).trans rfl; have hfz13_0 := blk_frozen BK148.out 0; have hfz13_1 := blk_frozen BK148.out 1) | ((with_reducible refine gate_callee (f := 67) rfl ?_); refine goesL_ (some 12) rfl rfl Try.func67 (by kernel_rfl) rfl #[.slice A0 l0.length c0, .agg #[.int .i64 a1_0, .int .i64 a1_1]] rfl (by (try simp only [List.map_toArray, List.map_cons, List.map_nil]); first | done | rfl | (simp only [List.length_drop, List.length_take]; rfl)) ?_; (with_reducible refine (wind_Number.calls k _ _ l0 a1_0 a1_1 t150 _ ?side1 ?side2 A8.out).mono ?_); (case side1 => repeat (first | exact (Kd.C_below HR0.out HB.out) | (with_reducible refine Kd.C_alloc ?_ _) | (with_reducible refine Kd.C_drewN ?_ _) | (with_reducible refine Kd.C_drew ?_))); (case side2 => exact HC0.out); rintro e w14 ⟨rfl, hb⟩; refine ⟨_, rfl, ?_⟩; have n0_ := Aside0.mk (blk_below (g := gb148) (o := .cells #[.int .i64 a1_0, .int .i64 a1_1] 32 (0, 0)) (by (with_reducible repeat (first | refine blk_drewN ?_ _ | refine blk_drew ?_ | refine blk_alloc ?_ _)); exact BK148.out) hb); have n1_ := Aside0.mk (below_step (by repeat (first | (with_reducible first | exact HB.out | apply below_alloc | apply pw_below_drewN | apply below_drew1 | refine below_set ?_ GE148.out) | exact HB.out)) hb); clear BK148; clear HB; have BK148 := n0_; have HB := n1_; clear n0_ n1_; (try clear hb); (try clear hb2); (try clear hk); (try clear hi)))
      go_ret
      exact ⟨by first | rfl | (simp [errW_none, errW_some] <;> rfl) | (simp [*, errW_none, errW_some] <;> rfl), by repeat (first | (with_reducible first | exact HB.out | apply below_alloc | apply pw_below_drewN | apply below_drew1 | refine below_set ?_ GE148.out) | exact HB.out)⟩
    · rw [if_neg c9] at H
      have c9b0 : (t150 == 0) = false := beq_eq_false_iff_ne.mpr c9
      have c9b1 : (t150 != 0) = true := bne_iff_ne.mpr c9
      obtain rfl := Option.some.inj H
      go_enter Try.func51, Try.ntmps51
      go_wp2_with (first | ((with_reducible refine gate_dst (N := 3) rfl ?_); refine box_event ?hg (N := 3) ?hd (cs := #[.int .i64 a1_0, .int .i64 a1_1]) (t := 32) ?hr ?_; (case hd => rfl); (case hg => rfl); (case hr => first | (go_simp; done) | (go_simp; rfl)); intro gb148 hg w15 hbox hb; have n0_ := Aside0.mk (below_step (by repeat (first | (with_reducible first | exact HB.out | apply below_alloc | apply pw_below_drewN | apply below_drew1) | exact HB.out)) hb); have n1_ := Aside0.mk (hbox); have n2_ := Aside0.mk ((by rw [hg]; exact (below_size (by repeat (first | (with_reducible first | exact HB.out | apply below_alloc | apply pw_below_drewN | apply below_drew1) | exact HB.out))) : w.heap.size ≤ gb148)); have n3_ := Aside0.mk ((by rw [hg]; exact (below_size (by repeat (first | (with_reducible first | exact HB.out | apply below_alloc | apply pw_below_drewN | apply below_drew1) | exact HB.out))) : w.heap.size ≤ gb148)); clear HB; have HB := n0_; have BK148 := n1_; have GW148 := n2_; have GE148 := n3_; clear n0_ n1_ n2_ n3_; clear hb hbox hg; have hcz16_0 : w15.cell? ⟨gb148, 0, none⟩ = some (.int .i64 a1_0) := (blk_cell BK148.out 0).trans rfl; have hcz16_1 : w15.cell? ⟨gb148, 1, none⟩ = some (.int .i64 a1_1) := (blk_cell BK148.out 1).trans rfl; have hfz16_0 := blk_frozen BK148.out 0; have hfz16_1 := blk_frozen BK148.out 1) | ((with_reducible refine gate_callee (f := 68) rfl ?_); refine goesL_ (some 8) rfl rfl Try.func68 (by kernel_rfl) rfl #[.slice A0 l0.length c0, .agg #[.int .i64 a1_0, .int .i64 a1_1]] rfl (by (try simp only [List.map_toArray, List.map_cons, List.map_nil]); first | done | rfl | (simp only [List.length_drop, List.length_take]; rfl)) ?_; (with_reducible refine (wind_On.calls k _ _ l0 a1_0 a1_1 false _ ?side1 ?side2 A3.out).mono ?_); (case side1 => repeat (first | exact (Kd.C_below HR0.out HB.out) | (with_reducible refine Kd.C_alloc ?_ _) | (with_reducible refine Kd.C_drewN ?_ _) | (with_reducible refine Kd.C_drew ?_))); (case side2 => exact HC0.out); rintro e w17 ⟨rfl, hb⟩; refine ⟨_, rfl, ?_⟩; have n0_ := Aside0.mk (blk_below (g := gb148) (o := .cells #[.int .i64 a1_0, .int .i64 a1_1] 32 (0, 0)) (by (with_reducible repeat (first | refine blk_drewN ?_ _ | refine blk_drew ?_ | refine blk_alloc ?_ _)); exact BK148.out) hb); have n1_ := Aside0.mk (below_step (by repeat (first | (with_reducible first | exact HB.out | apply below_alloc | apply pw_below_drewN | apply below_drew1 | refine below_set ?_ GE148.out) | exact HB.out)) hb); clear BK148; clear HB; have BK148 := n0_; have HB := n1_; clear n0_ n1_; (try clear hb); (try clear hb2); (try clear hk); (try clear hi); have hcz18_0 : w17.cell? ⟨gb148, 0, none⟩ = some (.int .i64 a1_0) := (blk_cell BK148.out 0).trans rfl; have hcz18_1 : w17.cell? ⟨gb148, 1, none⟩ = some (.int .i64 a1_1) := (blk_cell BK148.out 1).trans rfl; have hfz18_0 := blk_frozen BK148.out 0; have hfz18_1 := blk_frozen BK148.out 1) | ((with_reducible refine gate_callee (f := 67) rfl ?_); refine goesL_ (some 12) rfl rfl Try.func67 (by kernel_rfl) rfl #[.slice A0 l0.length c0, .agg #[.int .i64 a1_0, .int .i64 a1_1]] rfl (by (try simp only [List.map_toArray, List.map_cons, List.map_nil]); first | done | rfl | (simp only [List.length_drop, List.length_take]; rfl)) ?_; (with_reducible refine (wind_Number.calls k _ _ l0 a1_0 a1_1 t150 _ ?side1 ?side2 A8.out).mono ?_); (case side1 => repeat (first | exact (Kd.C_below HR0.out HB.out) | (with_reducible refine Kd.C_alloc ?_ _) | (with_reducible refine Kd.C_drewN ?_ _) | (with_reducible refine Kd.C_drew ?_))); (case side2 => exact HC0.out); rintro e w19 ⟨rfl, hb⟩; refine ⟨_, rfl, ?_⟩; have n0_ := Aside0.mk (blk_below (g := gb148) (o := .cells #[.int .i64 a1_0, .int .i64 a1_1] 32 (0, 0)) (by (with_reducible repeat (first | refine blk_drewN ?_ _ | refine blk_drew ?_ | refine blk_alloc ?_ _)); exact BK148.out) hb); have n1_ := Aside0.mk (below_step (by repeat (first | (with_reducible first | exact HB.out | apply below_alloc | apply pw_below_drewN | apply below_drew1 | refine below_set ?_ GE148.out) | exact HB.out)) hb); clear BK148; clear HB; have BK148 := n0_; have HB := n1_; clear n0_ n1_; (try clear hb); (try clear hb2); (try clear hk); (try clear hi)))
      go_ret
      exact ⟨by first | rfl | (simp [errW_none, errW_some] <;> rfl) | (simp [*, errW_none, errW_some] <;> rfl), by repeat (first | (with_reducible first | exact HB.out | apply below_alloc | apply pw_below_drewN | apply below_drew1 | refine below_set ?_ GE148.out) | exact HB.out)⟩
end Go.Proofs.Ytlljpjbhndcaiaa.Q
end
section
namespace Go.Proofs.Ytlljpjbhndcaiaa.Q
open Go.RowKit Go.Proofs.YtlljpjbhndcaiaaW.PrintWords Go.Proofs.YtlljpjbhndcaiaaW.PrintLast Go.Proofs.YtlljpjbhndcaiaaW.PrintMore
attribute [local go_sem] max2_int min2_int max_two min_two max_three min_three max_four min_four
set_option linter.unusedVariables false
set_option linter.unusedSimpArgs false
def dist_Some.go (k : Nat) (px py : Int) (t : Nat → Bool) : List S40 → Nat → Int → Int → Int → Option (Int × Int × Int)
  | [], _, n, d, b => some (n, d, b)
  | e :: r, i, n, d, b => if t i = true then ((plane_Square.f k e.f0.f0 e.f0.f1 e.f1.f0 e.f1.f1 px py).bind fun s => if b < 0 then dist_Some.go k px py t r (i + 1) s.1 s.2 i else (root_Compare.f k s.1 s.2 n d).bind fun c => if c < 0 then dist_Some.go k px py t r (i + 1) s.1 s.2 i else dist_Some.go k px py t r (i + 1) n d b) else dist_Some.go k px py t r (i + 1) n d b
def dist_Some.f (k : Nat) (l0 : List S40) (px py : Int) (t : Nat → Bool) : Option (Int × Int × Int) := dist_Some.go k px py t l0 0 0 0 (-1)
theorem Some_drop (l : List S40) (i : Nat) (h : i < l.length) : l.drop i = rd_T40 l i :: l.drop (i + 1) := by
  rw [List.drop_eq_getElem_cons h]
  simp [rd_T40, h]
theorem balloc' {n : Nat} {w W : World} (hn : n ≤ W.heap.size) (h : Below n w W) (o : Obj) : Below n w (W.alloc o) := h.alloc hn o
theorem bset'' {n : Nat} {w W : World} {g o : Nat} (hg : n ≤ g) (h : Below n w W) (u : Value) : Below n w (W.setCell ⟨g, o, none⟩ u) := h.setCell (p := ⟨g, o, none⟩) hg u
theorem cells4 {W : World} {g t : Nat} {a b c d : Value} (h : W.heap[g]? = some (.cells #[a, b, c, d] t (0, 0))) : W.cell? ⟨g, 0, none⟩ = some a ∧ W.cell? ⟨g, 1, none⟩ = some b ∧ W.cell? ⟨g, 2, none⟩ = some c ∧ W.cell? ⟨g, 3, none⟩ = some d := by
  refine ⟨?_, ?_, ?_, ?_⟩ <;> simp [World.cell?, h]
def dist_Some.Rel (w : World) (J : Nat → World → Prop) (px py : Int) (i : Nat) (n d : Int) (W : World) : Prop :=
  J i W ∧ W.heap[w.heap.size]? = some (.cells #[.int .i64 px, .int .i64 py] 32 (0, 0)) ∧ W.heap[w.heap.size + 1]? = some (.cells #[.int .i64 0, .int .i64 0] 36 (0, 0)) ∧ W.heap[w.heap.size + 2]? = some (.cells #[.int .i64 n, .int .i64 d] 36 (0, 0))
set_option maxHeartbeats 4000000 in
set_option maxRecDepth 100000 in
theorem dist_Some.calls (k : Nat) (A0 : Option Addr) (c0 : Nat) (l0 : List S40) (px py : Int) (fn : Nat) (caps : Array Value) (t : Nat → Bool) (J : Nat → World → Prop) (r1 r2 r3 : Int) (w : World)
    (hent : ∀ args W, (callFunc fn args).run Try.prog W = .ok (.enter fn args) W) (hJ : ∀ i W W', J i W → Below w.heap.size W W' → J i W') (hJC : ∀ i W, J i W → Kd.C k40 W A0 l0.length l0)
    (hcall : ∀ (i : Nat) W, i < l0.length → J i W → w.heap.size ≤ W.heap.size → Calls Try.prog fn (#[.int .i64 i] ++ caps) W fun e W' => e = .returned (.bool (t i)) ∧ J (i + 1) W' ∧ W.heap.size ≤ W'.heap.size ∧ ∀ b, w.heap.size ≤ b → b < W.heap.size → W'.heap[b]? = W.heap[b]?)
    (h0 : J 0 w) (hc0 : l0.length ≤ c0) (h : dist_Some.f k l0 px py t = some (r1, r2, r3)) :
    Calls Try.prog 22 #[.slice A0 l0.length c0, .agg #[.int .i64 px, .int .i64 py], .func (.func fn) #[] caps] w fun e w' => e = .returned (.tuple #[.agg #[.int .i64 r1, .int .i64 r2], .int .i64 r3]) ∧ J l0.length w' ∧ w.heap.size ≤ w'.heap.size := by
  have hm : l0.length ≤ 9223372036854775807 := (hJC 0 w h0).2.1
  have HJ := Aside0.mk hJ; have HJC := Aside0.mk hJC; have HC := Aside0.mk hcall; have H0 := Aside0.mk h; have HJ0 := Aside0.mk h0
  clear hJ hJC hcall h h0
  go_enter Try.func22, Try.ntmps22
  go_wp2_with fail
  go_loopw [9, 16] (fun s9 s16 W => ∃ (i : Nat) (n d b : Int), i ≤ l0.length ∧ s9 = .int .i64 b ∧ s16 = .int .i64 i ∧ Aside0 (dist_Some.Rel w J px py i n d W ∧ dist_Some.go k px py t (l0.drop i) i n d b = some (r1, r2, r3))) (fun _ s16 _ => l0.length - (intOf s16).toNat)
  case atStart =>
    exact ⟨0, 0, 0, -1, Nat.zero_le _, rfl, rfl, ⟨⟨HJ.out _ _ _ HJ0.out (balloc (balloc (balloc (Below.refl _ _) _) _) _), halloc (halloc (hnew _ _ rfl) _) _, halloc (hnew _ _ (by simp)) _, hnew _ _ (by simp)⟩, H0.out⟩⟩
  case round =>
    obtain ⟨i, n, d, b, hi, rfl, rfl, HRel⟩ := hrel
    by_cases hlt : i < l0.length
    · obtain ⟨⟨hJi, hp, hf, hbest⟩, hgo⟩ := HRel.out
      rw [Some_drop l0 i hlt, dist_Some.go] at hgo
      have h0 : (0 : Int) ≤ (i : Int) := by omega
      have h1 : (i : Int) < (l0.length : Int) := by omega
      obtain ⟨ad, rfl, x0, x1, x2, x3⟩ := at_T40 (HJC.out _ _ hJi) (i : Int) h0 h1
      rw [Int.toNat_natCast] at x0 x1 x2 x3
      have hsz := (Array.getElem?_eq_some_iff.1 hbest).1
      obtain ⟨E, hE⟩ : ∃ E, E = rd_T40 l0 (i : Int) := ⟨_, rfl⟩
      rw [← hE] at x0 x1 x2 x3 hgo
      have HG := Aside0.mk hgo; have HJI := Aside0.mk hJi; have HP := Aside0.mk hp; have HF := Aside0.mk hf; have HBE := Aside0.mk hbest
      clear hJi hp hf hbest hgo HRel hE
      obtain ⟨w0, rfl⟩ : ∃ w0 : World, w0 = wr := ⟨_, rfl⟩
      go_wp2_with fail
      refine (HC.out i (w0.alloc (.cells #[.int .i64 E.f0.f0, .int .i64 E.f0.f1, .int .i64 E.f1.f0, .int .i64 E.f1.f1] 40)) hlt (HJ.out _ _ _ HJI.out (balloc' (by omega) (Below.refl _ _) _)) (by simp; omega)).mono ?_
      rintro e w1 ⟨rfl, hJ1, hs1, hk1⟩
      clear x0 x1 x2 x3
      have HJ1 := Aside0.mk hJ1
      have P1 := Aside0.mk ((hk1 _ (Nat.le_refl _) (by simp; omega)).trans (halloc HP.out _))
      have F1 := Aside0.mk ((hk1 _ (by omega) (by simp; omega)).trans (halloc HF.out _))
      have B1 := Aside0.mk ((hk1 _ (by omega) (by simp; omega)).trans (halloc HBE.out _))
      have E1 := Aside0.mk ((hk1 _ (by omega) (by simp)).trans (hnew w0 _ rfl))
      simp only [World.size_alloc] at hs1
      clear hk1 hJ1
      cases ht : t i with
      | false =>
        have HG2 : Aside0 (dist_Some.go k px py t (l0.drop (i + 1)) (i + 1) n d b = some (r1, r2, r3)) := ⟨by have := HG.out; rw [if_neg (by simp [ht])] at this; exact this⟩
        clear ht
        go_wp2_with fail
        go_roundw
        case rel => exact ⟨i + 1, n, d, b, by omega, rfl, by go_num, ⟨⟨HJ1.out, P1.out, F1.out, B1.out⟩, HG2.out⟩⟩
        case measure => simp [intOf]; omega
      | true =>
        have hgo := HG.out
        rw [if_pos (by simp [ht])] at hgo
        clear ht
        obtain ⟨⟨s1, s2⟩, hd, hgo⟩ := Option.bind_eq_some_iff.mp hgo
        simp only at hgo
        have HD := Aside0.mk hd; have HG2 := Aside0.mk hgo
        clear hd hgo HG
        obtain ⟨y0, y1, _, _⟩ := cells2 P1.out
        obtain ⟨v0, v1, v2, v3⟩ := cells4 E1.out
        go_wp2_with fail
        refine (plane_Square.calls k _ _ _ _ _ _ _ _ _ HD.out).mono ?_
        rintro e w2 ⟨rfl, hb2⟩
        have hs2 := hb2.size
        have HJ2 := Aside0.mk (HJ.out _ _ _ HJ1.out (balloc' (by omega) (hb2.mono (by omega)) (.cells #[.int .i64 s1, .int .i64 s2] 36)))
        have P2 := Aside0.mk (halloc ((hb2.block _ (by omega)).trans P1.out) (.cells #[.int .i64 s1, .int .i64 s2] 36))
        have F2 := Aside0.mk (halloc ((hb2.block _ (by omega)).trans F1.out) (.cells #[.int .i64 s1, .int .i64 s2] 36))
        have B2 := Aside0.mk (halloc ((hb2.block _ (by omega)).trans B1.out) (.cells #[.int .i64 s1, .int .i64 s2] 36))
        have D2 := Aside0.mk (hnew w2 (.cells #[.int .i64 s1, .int .i64 s2] 36) rfl)
        clear hb2 y0 y1 v0 v1 v2 v3
        by_cases hb : b < 0
        · have hb' : decide (b < 0) = true := decide_eq_true hb
          have HG3 := Aside0.mk ((if_pos hb).symm.trans HG2.out)
          clear hb
          go_upto_region 7 with fail
          obtain ⟨W2, hW2⟩ : ∃ W2 : World, W2 = w2.alloc (.cells #[.int .i64 s1, .int .i64 s2] 36) := ⟨_, rfl⟩
          have hsz2 : w2.heap.size < W2.heap.size := by rw [hW2]; simp
          rw [← hW2] at HJ2 P2 F2 B2 D2 ⊢
          clear hW2
          obtain ⟨b0, b1, q0, q1⟩ := cells2 B2.out
          obtain ⟨d0, d1, _, _⟩ := cells2 D2.out
          go_wp2_with fail
          go_roundw
          case rel => exact ⟨i + 1, s1, s2, i, by omega, rfl, by go_num, ⟨⟨HJ.out _ _ _ HJ2.out (bset'' (by omega) (bset'' (by omega) (Below.refl _ _) _) _), hset (hset P2.out (by omega) _) (by omega) _, hset (hset F2.out (by omega) _) (by omega) _, hset2 B2.out⟩, HG3.out⟩⟩
          case measure => simp [intOf]; omega
        · have hb' : decide (b < 0) = false := decide_eq_false hb
          have hgo := (if_neg hb).symm.trans HG2.out
          obtain ⟨c, hc, hgo⟩ := Option.bind_eq_some_iff.mp hgo
          have HCM := Aside0.mk hc; have HG3 := Aside0.mk hgo
          clear hb hc hgo HG2
          go_upto_region 7 with fail
          obtain ⟨W2, hW2⟩ : ∃ W2 : World, W2 = w2.alloc (.cells #[.int .i64 s1, .int .i64 s2] 36) := ⟨_, rfl⟩
          have hsz2 : w2.heap.size < W2.heap.size := by rw [hW2]; simp
          rw [← hW2] at HJ2 P2 F2 B2 D2 ⊢
          clear hW2
          obtain ⟨b0, b1, q0, q1⟩ := cells2 B2.out
          obtain ⟨d0, d1, _, _⟩ := cells2 D2.out
          go_wp2_with fail
          refine (root_Compare.calls k _ _ _ _ _ _ HCM.out).mono ?_
          rintro e w3 ⟨rfl, hb3⟩
          have hs3 := hb3.size
          have HJ3 := Aside0.mk (HJ.out _ _ _ HJ2.out (hb3.mono (by omega)))
          have P3 := Aside0.mk ((hb3.block _ (by omega)).trans P2.out)
          have F3 := Aside0.mk ((hb3.block _ (by omega)).trans F2.out)
          have B3 := Aside0.mk ((hb3.block _ (by omega)).trans B2.out)
          have D3 := Aside0.mk ((hb3.block _ (by omega)).trans D2.out)
          clear hb3 b0 b1 q0 q1 d0 d1
          by_cases hc : c < 0
          · have hc' : decide (c < 0) = true := decide_eq_true hc
            have HG4 := Aside0.mk ((if_pos hc).symm.trans HG3.out)
            clear hc
            obtain ⟨b0, b1, q0, q1⟩ := cells2 B3.out
            obtain ⟨d0, d1, _, _⟩ := cells2 D3.out
            go_wp2_with fail
            go_roundw
            case rel => exact ⟨i + 1, s1, s2, i, by omega, rfl, by go_num, ⟨⟨HJ.out _ _ _ HJ3.out (bset'' (by omega) (bset'' (by omega) (Below.refl _ _) _) _), hset (hset P3.out (by omega) _) (by omega) _, hset (hset F3.out (by omega) _) (by omega) _, hset2 B3.out⟩, HG4.out⟩⟩
            case measure => simp [intOf]; omega
          · have hc' : decide (c < 0) = false := decide_eq_false hc
            have HG4 := Aside0.mk ((if_neg hc).symm.trans HG3.out)
            clear hc
            go_wp2_with fail
            go_roundw
            case rel => exact ⟨i + 1, n, d, b, by omega, rfl, by go_num, ⟨⟨HJ3.out, P3.out, F3.out, B3.out⟩, HG4.out⟩⟩
            case measure => simp [intOf]; omega
    · obtain rfl : i = l0.length := by omega
      obtain ⟨⟨hJi, hp, hf, hbest⟩, hgo⟩ := HRel.out
      rw [List.drop_length] at hgo
      obtain ⟨rfl, rfl, rfl⟩ : n = r1 ∧ d = r2 ∧ b = r3 := by simpa [dist_Some.go] using hgo
      have hsz := (Array.getElem?_eq_some_iff.1 hbest).1
      obtain ⟨b0, b1, q0, q1⟩ := cells2 hbest
      obtain ⟨f0, f1, g0, g1⟩ := cells2 hf
      go_wp2_with fail
      exact bodyPost_ret (v := .tuple #[.agg #[.int .i64 n, .int .i64 d], .int .i64 b]) (by simp [results, Try.results22, go_sem, f0, f1]) rfl ⟨rfl, HJ.out _ wr _ hJi (bset'' (by omega) (bset'' (by omega) (Below.refl _ _) _) _), by simp; omega⟩
end Go.Proofs.Ytlljpjbhndcaiaa.Q
end
section
namespace Go.Proofs.Ytlljpjbhndcaiaa.Q
open Go.RowKit Go.Proofs.YtlljpjbhndcaiaaW.PrintWords Go.Proofs.YtlljpjbhndcaiaaW.PrintLast Go.Proofs.YtlljpjbhndcaiaaW.PrintMore
attribute [local go_sem] max2_int min2_int max_two min_two max_three min_three max_four min_four
set_option linter.unusedVariables false
set_option linter.unusedSimpArgs false
def es08 : List S40 := [(⟨(⟨100, 0⟩ : S32), (⟨110, 0⟩ : S32)⟩ : S40), (⟨(⟨3, 4⟩ : S32), (⟨30, 4⟩ : S32)⟩ : S40)]
def punchcutlaw08_awake.f (k : Nat) : Option Bool :=
  (dist_Near.f k es08 0 0).bind fun a => (dist_Near.f k [] 0 0).bind fun b => (dist_Some.f k es08 0 0 (fun i => i == 0)).bind fun c => (dist_Eight.f k es08 0 0).bind fun d => (dist_Sign.f k es08 0 0).bind fun e => (dist_Sign.f k es08 5 4).bind fun g =>
    if a = (25, 1, 1) ∧ b.2.2 = -1 ∧ c.2.2 = 0 ∧ d = 40 ∧ e = -1 ∧ g = 0 then some true else none
theorem awake08_eqF (d : Nat) (w : World) (x0 y0 : Int) (x1 y1 : Int) :
    (Op.equalIn (d + 2) 36 (.agg #[.int .i64 x0, .int .i64 x1]) (.agg #[.int .i64 y0, .int .i64 y1])).run Try.prog w = .ok (x0 == y0 && (x1 == y1)) w := by
  refine eqA_of Try.underlying36 (by kernel_rfl) ?_
  refine eqf_cons (by rfl) (by go_simp; rfl) (by go_simp; rfl) (by go_simp) ?_
  exact eqf_last (by rfl) (by go_simp; rfl) (by go_simp; rfl) (by go_simp)
theorem awake08_1 (i : Int) (w : World) : Calls Try.prog 54 #[.int .i64 i] w fun e w' => e = .returned (.bool (i == 0)) ∧ w = w' := by
  go_enter Try.func54, Try.ntmps54
  go_wp2_with fail
  go_ret
  exact ⟨rfl, rfl⟩
theorem awake08_nat (i : Nat) : ((i : Int) == 0) = (i == 0) := by rw [Bool.eq_iff_iff, beq_iff_eq, beq_iff_eq]; omega
theorem awake08_in (args : Array Value) (w : World) : (callFunc 54 args).run Try.prog w = .ok (.enter 54 args) w := by kernel_rfl
set_option maxHeartbeats 4000000 in
set_option maxRecDepth 100000 in
theorem punchcutlaw08_awake.calls (k : Nat) (r : Bool) (w : World) (h : punchcutlaw08_awake.f k = some r) :
    Calls Try.prog 18 #[] w fun e w' => e = .returned (.bool r) ∧ Below w.heap.size w w' := by
  unfold punchcutlaw08_awake.f at h
  obtain ⟨⟨a1, a2, a3⟩, ha, h1⟩ := Option.bind_eq_some_iff.mp h
  obtain ⟨⟨b1, b2, b3⟩, hb, h2⟩ := Option.bind_eq_some_iff.mp h1
  obtain ⟨⟨c1, c2, c3⟩, hc, h3⟩ := Option.bind_eq_some_iff.mp h2
  obtain ⟨d1, hd, h4⟩ := Option.bind_eq_some_iff.mp h3
  obtain ⟨e1, he, h5⟩ := Option.bind_eq_some_iff.mp h4
  obtain ⟨g1, hg, h6⟩ := Option.bind_eq_some_iff.mp h5
  clear h h1 h2 h3 h4 h5
  split at h6
  case isFalse => cases h6
  rename_i hall
  obtain ⟨ha2, rfl, rfl, rfl, rfl, rfl⟩ := hall
  obtain ⟨rfl, rfl, rfl⟩ : a1 = 25 ∧ a2 = 1 ∧ a3 = 1 := by simpa using ha2
  obtain rfl := Option.some.inj h6
  have HA := Aside0.mk ha; have HB := Aside0.mk hb; have HC := Aside0.mk hc; have HD := Aside0.mk hd; have HE := Aside0.mk he; have HG := Aside0.mk hg
  clear ha hb hc hd he hg ha2 h6
  have heq := @awake08_eqF
  go_enter Try.func18, Try.ntmps18
  go_wp2_with (first | ((with_reducible refine gate_dst (N := 14) rfl ?_); (try (refine gate_guard (by rfl) ?_; dsimp only)); refine Kd.R_lit k40 (w0 := w) w.heap.size 40 ?hg (N := 14) ?hd (xs := es08) (inner := [.int .i64 100, .int .i64 0, .int .i64 110, .int .i64 0, .int .i64 3, .int .i64 4, .int .i64 30, .int .i64 4]) (ok := fun _ => True) (okp := fun _ => True) ?hr ?hp (fun _ hk => hk) trivial (Below.refl _ _) (Nat.le_refl _) (by simp [es08]) ?_; (case hd => rfl); (case hg => rfl); (case hr => first | (go_simp; done) | (go_simp; rfl)); (case hp => exact (Reps.c4 (show Kd.M k40 _ _ _ (⟨(⟨100, 0⟩ : S32), (⟨110, 0⟩ : S32)⟩ : S40) [.int .i64 100, .int .i64 0, .int .i64 110, .int .i64 0] from (k40_mkM _ _ _ (⟨(⟨100, 0⟩ : S32), (⟨110, 0⟩ : S32)⟩ : S40))) (Reps.c4 (show Kd.M k40 _ _ _ (⟨(⟨3, 4⟩ : S32), (⟨30, 4⟩ : S32)⟩ : S40) [.int .i64 3, .int .i64 4, .int .i64 30, .int .i64 4] from (k40_mkM _ _ _ (⟨(⟨3, 4⟩ : S32), (⟨30, 4⟩ : S32)⟩ : S40))) (Reps.none _ _)))); intro v1 w1 ho1 hb1 hg_ hnew_; clear hg_ hnew_; have HO1 := Aside0.mk ho1; have HB1 := Aside0.mk hb1; clear ho1 hb1; obtain ⟨A1, n1, e1⟩ := Kd.R_slice HO1.out; subst e1))
  refine (dist_Near.calls k _ _ _ _ _ _ _ _ _ (Kd.R_reads' HO1.out).2.2 (Kd.R_reads' HO1.out).2.1 HA.out).mono ?_
  rintro e w2 ⟨rfl, hb⟩
  have HO2 := Aside0.mk (Kd.R_below (Kd.R_below HO1.out hb) (balloc (Below.refl _ _) (.cells #[.int .i64 25, .int .i64 1] 36)))
  have HB2 := Aside0.mk (balloc (bstep HB1.out hb) (.cells #[.int .i64 25, .int .i64 1] 36))
  have F2 := Aside0.mk (hnew w2 (.cells #[.int .i64 25, .int .i64 1] 36) rfl)
  clear hb HO1 HB1
  go_wp2_with fail
  refine (dist_Near.calls k none 0 [] 0 0 _ _ _ _ (Kd.C_nil _ _) (Nat.le_refl _) HB.out).mono ?_
  rintro e w3 ⟨rfl, hb⟩
  have hz2 := hb.size
  simp only [World.size_alloc] at hz2
  have HO3 := Aside0.mk (Kd.R_below (Kd.R_below HO2.out hb) (balloc (Below.refl _ _) (.cells #[.int .i64 b1, .int .i64 b2] 36)))
  have HB3 := Aside0.mk (balloc (bstep HB2.out hb) (.cells #[.int .i64 b1, .int .i64 b2] 36))
  have F3 := Aside0.mk (halloc ((hb.block _ (by simp)).trans F2.out) (.cells #[.int .i64 b1, .int .i64 b2] 36))
  clear hb HO2 HB2 F2
  go_wp2_with fail
  refine (dist_Some.calls k A1 n1 es08 0 0 54 #[] (fun i => i == 0) (fun _ W => Below (w3.alloc (.cells #[.int .i64 b1, .int .i64 b2] 36)).heap.size (w3.alloc (.cells #[.int .i64 b1, .int .i64 b2] 36)) W) _ _ _ (w3.alloc (.cells #[.int .i64 b1, .int .i64 b2] 36)) awake08_in (fun i W W' h hb => h.trans hb) (fun i W h => (Kd.R_reads' (Kd.R_below HO3.out h)).2.2) ?_ (Below.refl _ _) (Kd.R_reads' HO3.out).2.1 HC.out).mono ?_
  · intro i W hi hW hs
    refine (awake08_1 i W).mono ?_
    rintro e W' ⟨rfl, rfl⟩
    exact ⟨by rw [awake08_nat], hW, Nat.le_refl _, fun b _ _ => rfl⟩
  rintro e w4 ⟨rfl, hb, _⟩
  have hz3 := hb.size
  simp only [World.size_alloc] at hz3
  have HO4 := Aside0.mk (Kd.R_below (Kd.R_below HO3.out hb) (balloc (Below.refl _ _) (.cells #[.int .i64 c1, .int .i64 c2] 36)))
  have HB4 := Aside0.mk (balloc (bstep HB3.out hb) (.cells #[.int .i64 c1, .int .i64 c2] 36))
  have F4 := Aside0.mk (halloc ((hb.block _ (by simp; omega)).trans F3.out) (.cells #[.int .i64 c1, .int .i64 c2] 36))
  clear hb HO3 HB3 F3
  obtain ⟨f0, f1, _, _⟩ := cells2 F4.out
  go_wp2_with fail
  refine (dist_Eight.calls k _ _ _ _ _ _ _ (Kd.R_reads' HO4.out).2.2 (Kd.R_reads' HO4.out).2.1 HD.out).mono ?_
  rintro e w5 ⟨rfl, hb⟩
  have HO5 := Aside0.mk (Kd.R_below HO4.out hb)
  have HB5 := Aside0.mk (bstep HB4.out hb)
  clear hb HO4 HB4 F4 f0 f1
  go_wp2_with fail
  refine (dist_Sign.calls k _ _ _ _ _ _ _ (Kd.R_reads' HO5.out).2.2 (Kd.R_reads' HO5.out).2.1 HE.out).mono ?_
  rintro e w6 ⟨rfl, hb⟩
  have HO6 := Aside0.mk (Kd.R_below HO5.out hb)
  have HB6 := Aside0.mk (bstep HB5.out hb)
  clear hb HO5 HB5
  go_wp2_with fail
  refine (dist_Sign.calls k _ _ _ _ _ _ _ (Kd.R_reads' HO6.out).2.2 (Kd.R_reads' HO6.out).2.1 HG.out).mono ?_
  rintro e w7 ⟨rfl, hb⟩
  have HB7 := Aside0.mk (bstep HB6.out hb)
  clear hb
  go_wp2_with fail
  go_ret
  exact ⟨rfl, HB7.out⟩
end Go.Proofs.Ytlljpjbhndcaiaa.Q
end
section
namespace Go.Proofs.Ytlljpjbhndcaiaa.Q
open Go.RowKit Go.Proofs.YtlljpjbhndcaiaaW.PrintWords Go.Proofs.YtlljpjbhndcaiaaW.PrintLast Go.Proofs.YtlljpjbhndcaiaaW.PrintMore
attribute [local go_sem] max2_int min2_int max_two min_two max_three min_three max_four min_four
set_option linter.unusedVariables false
set_option linter.unusedSimpArgs false
def flat_small.f (a0_0 : Int) (a0_1 : Int) : Option (Int × Int) := some (wrap64 (16 * a0_0), wrap64 (16 * a0_1))
set_option maxHeartbeats 8000000 in
set_option maxRecDepth 100000 in
theorem flat_small.calls (a0_0 : Int) (a0_1 : Int) (r1 : Int) (r2 : Int) (w : World) (h : flat_small.f a0_0 a0_1 = some (r1, r2)) :
    Calls Try.prog 87 #[.agg #[.int .i64 a0_0, .int .i64 a0_1]] w fun e w' => e = .returned (.agg #[.int .i64 r1, .int .i64 r2]) ∧ Below w.heap.size w w' := by
  have hu32 := Try.underlying32
  have HB := Aside0.mk (Below.refl w.heap.size w)
  have H : (some (wrap64 (16 * a0_0), wrap64 (16 * a0_1))) = some (r1, r2) := h
  clear h
  simp only [Option.some.injEq, Prod.mk.injEq] at H
  obtain ⟨rfl, rfl⟩ := H
  go_enter Try.func87, Try.ntmps87
  go_wp2_with (first | ((with_reducible refine gate_dst (N := 1) rfl ?_); refine box_event ?hg (N := 1) ?hd (cs := #[.int .i64 a0_0, .int .i64 a0_1]) (t := 32) ?hr ?_; (case hd => rfl); (case hg => rfl); (case hr => first | (go_simp; done) | (go_simp; rfl)); intro gb162 hg w2 hbox hb; have n0_ := Aside0.mk (below_step (by repeat (first | (with_reducible first | exact HB.out | apply below_alloc | apply pw_below_drewN | apply below_drew1) | exact HB.out)) hb); have n1_ := Aside0.mk (hbox); have n2_ := Aside0.mk ((by rw [hg]; exact (below_size (by repeat (first | (with_reducible first | exact HB.out | apply below_alloc | apply pw_below_drewN | apply below_drew1) | exact HB.out))) : w.heap.size ≤ gb162)); have n3_ := Aside0.mk ((by rw [hg]; exact (below_size (by repeat (first | (with_reducible first | exact HB.out | apply below_alloc | apply pw_below_drewN | apply below_drew1) | exact HB.out))) : w.heap.size ≤ gb162)); clear HB; have HB := n0_; have BK162 := n1_; have GW162 := n2_; have GE162 := n3_; clear n0_ n1_ n2_ n3_; clear hb hbox hg) | ((with_reducible refine gate_dst (N := 2) rfl ?_); refine box_event ?hg (N := 2) ?hd (cs := #[.int .i64 0, .int .i64 0]) (t := 32) ?hr ?_; (case hd => rfl); (case hg => rfl); (case hr => first | (go_simp; done) | (go_simp; rfl)); intro gb163 hg w3 hbox hb; have n0_ := Aside0.mk (blk_below (g := gb162) (o := .cells #[.int .i64 a0_0, .int .i64 a0_1] 32 (0, 0)) (by (with_reducible repeat (first | refine blk_drewN ?_ _ | refine blk_drew ?_ | refine blk_alloc ?_ _)); exact BK162.out) hb); have n1_ := Aside0.mk (below_step (by repeat (first | (with_reducible first | exact HB.out | apply below_alloc | apply pw_below_drewN | apply below_drew1 | refine below_set ?_ GE162.out) | exact HB.out)) hb); have n2_ := Aside0.mk (hbox); have n3_ := Aside0.mk ((by rw [hg]; exact (below_size (by repeat (first | (with_reducible first | exact HB.out | apply below_alloc | apply pw_below_drewN | apply below_drew1 | refine below_set ?_ GE162.out) | exact HB.out))) : w.heap.size ≤ gb163)); have n4_ := Aside0.mk ((by rw [hg]; exact (below_size (by repeat (first | (with_reducible first | exact HB.out | apply below_alloc | apply pw_below_drewN | apply below_drew1 | refine below_set ?_ GE162.out) | exact HB.out))) : w.heap.size ≤ gb163)); have n5_ := Aside0.mk ((by rw [hg]; exact Nat.ne_of_lt (blk_lt (g := gb162) (o := .cells #[.int .i64 a0_0, .int .i64 a0_1] 32 (0, 0)) (by (with_reducible repeat (first | refine blk_drewN ?_ _ | refine blk_drew ?_ | refine blk_alloc ?_ _)); exact BK162.out)) : gb162 ≠ gb163)); have n6_ := Aside0.mk ((by rw [hg]; exact Nat.ne_of_gt (blk_lt (g := gb162) (o := .cells #[.int .i64 a0_0, .int .i64 a0_1] 32 (0, 0)) (by (with_reducible repeat (first | refine blk_drewN ?_ _ | refine blk_drew ?_ | refine blk_alloc ?_ _)); exact BK162.out)) : gb163 ≠ gb162)); clear BK162; clear HB; have BK162 := n0_; have HB := n1_; have BK163 := n2_; have GW163 := n3_; have GE163 := n4_; have NB162_163 := n5_; have NB163_162 := n6_; clear n0_ n1_ n2_ n3_ n4_ n5_ n6_; clear hb hbox hg; have hnb4 := NB162_163.out; have hnc4 := NB163_162.out; have hcz5_0 : w3.cell? ⟨gb162, 0, none⟩ = some (.int .i64 a0_0) := (blk_cell BK162.out 0).trans rfl; have hcz5_1 : w3.cell? ⟨gb162, 1, none⟩ = some (.int .i64 a0_1) := (blk_cell BK162.out 1).trans rfl; have hfz5_0 := blk_frozen BK162.out 0; have hfz5_1 := blk_frozen BK162.out 1; have hcz6_0 : w3.cell? ⟨gb163, 0, none⟩ = some (.int .i64 0) := (blk_cell BK163.out 0).trans rfl; have hcz6_1 : w3.cell? ⟨gb163, 1, none⟩ = some (.int .i64 0) := (blk_cell BK163.out 1).trans rfl; have hfz6_0 := blk_frozen BK163.out 0; have hfz6_1 := blk_frozen BK163.out 1))
  refine bodyPost_ret (results_cell_row rfl _ _ gb163 32 #[.int .i64 (wrap64 (16 * a0_0)), .int .i64 (wrap64 (16 * a0_1))] (0, 0) _ rfl (by (with_reducible repeat (first | refine blk_drewN ?_ _ | refine blk_drew ?_ | refine blk_alloc ?_ _)); refine blk_put (cs := #[.int .i64 (wrap64 (16 * a0_0)), .int .i64 0]) ?_ 1 _ rfl; (with_reducible repeat (first | refine blk_drewN ?_ _ | refine blk_drew ?_ | refine blk_alloc ?_ _)); refine blk_put (cs := #[.int .i64 0, .int .i64 0]) ?_ 0 _ rfl; (with_reducible repeat (first | refine blk_drewN ?_ _ | refine blk_drew ?_ | refine blk_alloc ?_ _)); exact BK163.out) Try.underlying32 rfl (by kernel_rfl)) rfl ?_
  exact ⟨by first | rfl | (simp [errW_none, errW_some] <;> rfl) | (simp [*, errW_none, errW_some] <;> rfl), by repeat (first | (with_reducible first | exact HB.out | apply below_alloc | apply pw_below_drewN | apply below_drew1 | refine below_set ?_ GE162.out | refine below_set ?_ GE163.out) | exact HB.out)⟩
end Go.Proofs.Ytlljpjbhndcaiaa.Q
end
section
namespace Go.Proofs.Ytlljpjbhndcaiaa.Q
open Go.RowKit Go.Proofs.YtlljpjbhndcaiaaW.PrintWords Go.Proofs.YtlljpjbhndcaiaaW.PrintLast Go.Proofs.YtlljpjbhndcaiaaW.PrintMore
attribute [local go_sem] max2_int min2_int max_two min_two max_three min_three max_four min_four
set_option linter.unusedVariables false
set_option linter.unusedSimpArgs false
def flat_On.c (a b c x y z : Int) : Int := wrap64 (Int.tdiv (wrap64 (wrap64 (wrap64 (wrap64 (a * x) + wrap64 (b * y)) + wrap64 (c * z)) * 16)) 16)
def flat_On.f (a0_0 : Int) (a0_1 : Int) (a0_2 : Int) (a0_3 : Int) (a0_4 : Int) (a0_5 : Int) (a0_6 : Bool) (a1 : Int) : Option (Int × Int) :=
  some (flat_On.c (wrap64 (wrap64 (4 - a1) * wrap64 (4 - a1))) (wrap64 (wrap64 (2 * a1) * wrap64 (4 - a1))) (wrap64 (a1 * a1)) a0_0 a0_2 a0_4,
    flat_On.c (wrap64 (wrap64 (4 - a1) * wrap64 (4 - a1))) (wrap64 (wrap64 (2 * a1) * wrap64 (4 - a1))) (wrap64 (a1 * a1)) a0_1 a0_3 a0_5)
set_option maxHeartbeats 1000000 in
theorem flat_On_1 (x y z a b c : Int) (g0 g1 g2 : Nat) (w : World) (h0 : w.cell? ⟨g0, 0, none⟩ = some (.int .i64 a)) (h1 : w.cell? ⟨g1, 0, none⟩ = some (.int .i64 b)) (h2 : w.cell? ⟨g2, 0, none⟩ = some (.int .i64 c)) :
    Calls Try.prog 98 #[.int .i64 x, .int .i64 y, .int .i64 z, .pointer (some ⟨g0, 0, none⟩), .pointer (some ⟨g1, 0, none⟩), .pointer (some ⟨g2, 0, none⟩)] w fun e w' => e = .returned (.int .i64 (flat_On.c a b c x y z)) ∧ w = w' := by
  go_enter Try.func98, Try.ntmps98
  go_wp2_with fail
  go_ret
  exact ⟨rfl, rfl⟩
set_option maxHeartbeats 2000000 in
theorem flat_On.calls (a0_0 : Int) (a0_1 : Int) (a0_2 : Int) (a0_3 : Int) (a0_4 : Int) (a0_5 : Int) (a0_6 : Bool) (a1 : Int) (r1 : Int) (r2 : Int) (w : World) (h : flat_On.f a0_0 a0_1 a0_2 a0_3 a0_4 a0_5 a0_6 a1 = some (r1, r2)) :
    Calls Try.prog 88 #[.agg #[.int .i64 a0_0, .int .i64 a0_1, .int .i64 a0_2, .int .i64 a0_3, .int .i64 a0_4, .int .i64 a0_5, .bool a0_6], .int .i64 a1] w fun e w' => e = .returned (.agg #[.int .i64 r1, .int .i64 r2]) ∧ Below w.heap.size w w' := by
  simp only [flat_On.f, Option.some.injEq, Prod.mk.injEq] at h
  obtain ⟨c0, hc0⟩ : ∃ x, x = wrap64 (wrap64 (4 - a1) * wrap64 (4 - a1)) := ⟨_, rfl⟩
  obtain ⟨c1, hc1⟩ : ∃ x, x = wrap64 (wrap64 (2 * a1) * wrap64 (4 - a1)) := ⟨_, rfl⟩
  obtain ⟨c2, hc2⟩ : ∃ x, x = wrap64 (a1 * a1) := ⟨_, rfl⟩
  rw [← hc0, ← hc1, ← hc2] at h
  obtain ⟨h1, h2⟩ := h
  have H1 := Aside0.mk h1; have H2 := Aside0.mk h2; have C0 := Aside0.mk hc0; have C1 := Aside0.mk hc1; have C2 := Aside0.mk hc2
  clear h1 h2 hc0 hc1 hc2
  go_enter Try.func88, Try.ntmps88
  go_upto_region 3 with fail
  obtain ⟨W0, hS, q0, q1, z0, z1, HB, hW0⟩ : ∃ W0 : World, ((W0.cell? ⟨w.heap.size, 0, none⟩ = some (.int .i64 a0_0) ∧ W0.cell? ⟨w.heap.size, 1, none⟩ = some (.int .i64 a0_1) ∧ W0.cell? ⟨w.heap.size, 2, none⟩ = some (.int .i64 a0_2) ∧ W0.cell? ⟨w.heap.size, 3, none⟩ = some (.int .i64 a0_3) ∧ W0.cell? ⟨w.heap.size, 4, none⟩ = some (.int .i64 a0_4) ∧ W0.cell? ⟨w.heap.size, 5, none⟩ = some (.int .i64 a0_5) ∧ W0.cell? ⟨w.heap.size + 1 + 1, 0, none⟩ = some (.int .i64 c0) ∧ W0.cell? ⟨w.heap.size + 1 + 1 + 1, 0, none⟩ = some (.int .i64 c1) ∧ W0.cell? ⟨w.heap.size + 1 + 1 + 1 + 1, 0, none⟩ = some (.int .i64 c2)) ∧ w.heap.size + 1 < W0.heap.size) ∧ W0.cell? ⟨w.heap.size + 1, 0, none⟩ = some (.int .i64 0) ∧ W0.cell? ⟨w.heap.size + 1, 1, none⟩ = some (.int .i64 0) ∧ W0.frozen? ⟨w.heap.size + 1, 0, none⟩ = false ∧ W0.frozen? ⟨w.heap.size + 1, 1, none⟩ = false ∧ Below w.heap.size w W0 ∧
      W0 = ((((w.alloc (.cells #[.int .i64 a0_0, .int .i64 a0_1, .int .i64 a0_2, .int .i64 a0_3, .int .i64 a0_4, .int .i64 a0_5, .bool a0_6] 143)).alloc (.cells #[.int .i64 0, .int .i64 0] 32)).alloc (.cells #[.int .i64 (wrap64 (wrap64 (4 - a1) * wrap64 (4 - a1)))] 3)).alloc (.cells #[.int .i64 (wrap64 (wrap64 (2 * a1) * wrap64 (4 - a1)))] 3)).alloc (.cells #[.int .i64 (wrap64 (a1 * a1))] 3) := by
    refine ⟨_, ⟨⟨?_, ?_, ?_, ?_, ?_, ?_, ?_, ?_, ?_⟩, ?_⟩, ?_, ?_, ?_, ?_, balloc (balloc (balloc (balloc (balloc (Below.refl _ _) _) _) _) _) _, rfl⟩
    all_goals first | (go_simp; done) | (rw [C0.out]; go_simp; done) | (rw [C1.out]; go_simp; done) | (rw [C2.out]; go_simp; done) | (simp <;> omega)
  rw [← hW0]
  clear hW0
  go_region_held3 (fun W => (W.cell? ⟨w.heap.size, 0, none⟩ = some (.int .i64 a0_0) ∧ W.cell? ⟨w.heap.size, 1, none⟩ = some (.int .i64 a0_1) ∧ W.cell? ⟨w.heap.size, 2, none⟩ = some (.int .i64 a0_2) ∧ W.cell? ⟨w.heap.size, 3, none⟩ = some (.int .i64 a0_3) ∧ W.cell? ⟨w.heap.size, 4, none⟩ = some (.int .i64 a0_4) ∧ W.cell? ⟨w.heap.size, 5, none⟩ = some (.int .i64 a0_5) ∧ W.cell? ⟨w.heap.size + 1 + 1, 0, none⟩ = some (.int .i64 c0) ∧ W.cell? ⟨w.heap.size + 1 + 1 + 1, 0, none⟩ = some (.int .i64 c1) ∧ W.cell? ⟨w.heap.size + 1 + 1 + 1 + 1, 0, none⟩ = some (.int .i64 c2)) ∧ w.heap.size + 1 < W.heap.size)
    (first | exact hS | (go_split_ands; exact ⟨⟨by assumption, by assumption, by assumption, by assumption, by assumption, by assumption, by assumption, by assumption, by assumption⟩, by assumption⟩) | (go_split_ands; exact ⟨⟨cset (cset (by assumption) (by omega) _) (by omega) _, cset (cset (by assumption) (by omega) _) (by omega) _, cset (cset (by assumption) (by omega) _) (by omega) _, cset (cset (by assumption) (by omega) _) (by omega) _, cset (cset (by assumption) (by omega) _) (by omega) _, cset (cset (by assumption) (by omega) _) (by omega) _, cset (cset (by assumption) (by omega) _) (by omega) _, cset (cset (by assumption) (by omega) _) (by omega) _, cset (cset (by assumption) (by omega) _) (by omega) _⟩, sset (sset (by assumption) _ _) _ _⟩))
    (first | (go_at_call 98; refine (flat_On_1 _ _ _ c0 c1 c2 _ _ _ _ (by first | assumption | (go_split_ands; assumption)) (by first | assumption | (go_split_ands; assumption)) (by first | assumption | (go_split_ands; assumption))).mono ?_; rintro e w' ⟨rfl, rfl⟩))
  go_wp2_with fail
  rw [← H1.out, ← H2.out]
  exact bodyPost_ret (v := .agg #[.int .i64 (flat_On.c c0 c1 c2 a0_0 a0_2 a0_4), .int .i64 (flat_On.c c0 c1 c2 a0_1 a0_3 a0_5)]) (by simp [results, Try.results88, go_sem, q0, q1]) rfl
    ⟨rfl, bset (bset HB.drew (by omega) _) (by omega) _⟩
end Go.Proofs.Ytlljpjbhndcaiaa.Q
end
section
namespace Go.Proofs.Ytlljpjbhndcaiaa.Q
open Go.RowKit Go.Proofs.YtlljpjbhndcaiaaW.PrintWords Go.Proofs.YtlljpjbhndcaiaaW.PrintLast Go.Proofs.YtlljpjbhndcaiaaW.PrintMore
attribute [local go_sem] max2_int min2_int max_two min_two max_three min_three max_four min_four
set_option linter.unusedVariables false
set_option linter.unusedSimpArgs false
theorem flat_eqP (d : Nat) (w : World) (x0 y0 : Int) (x1 y1 : Int) :
    (Op.equalIn (d + 2) 32 (.agg #[.int .i64 x0, .int .i64 x1]) (.agg #[.int .i64 y0, .int .i64 y1])).run Try.prog w = .ok (x0 == y0 && (x1 == y1)) w := by
  refine eqA_of Try.underlying32 (by kernel_rfl) ?_
  refine eqf_cons (by rfl) (by go_simp; rfl) (by go_simp; rfl) (by go_simp) ?_
  exact eqf_last (by rfl) (by go_simp; rfl) (by go_simp; rfl) (by go_simp)
theorem flat_i40 : (Try.prog.info? 40).map (fun i => (i.zero, i.size, i.bytes)) = some (some (.agg #[.int .i64 0, .int .i64 0, .int .i64 0, .int .i64 0]), 4, 32) := by kernel_rfl
def flat_Put (base g : Nat) (w0 w : World) (v : Value) (ys : List S40) (e : Ending) (w' : World) : Prop :=
  ∃ v' : Value, e = .returned (.tuple #[]) ∧ w'.heap[g]? = some (.cells #[v'] 29 (0, 0)) ∧ Kd.R k40 40 w' base (fun k => k ≠ g) v' ys ∧ Below base w0 w' ∧ w.heap.size ≤ w'.heap.size ∧
    ∀ k, k < w.heap.size → k ≠ g → some k ≠ v.ownBlock → w'.heap[k]? = w.heap[k]?
set_option maxHeartbeats 2000000 in
theorem flat_Edges_1 (ax ay bx byy : Int) (base g : Nat) (v : Value) (xs : List S40) (w0 w : World) (hg : w.heap[g]? = some (.cells #[v] 29 (0, 0))) (hR : Kd.R k40 40 w base (fun k => k ≠ g) v xs) (hB : Below base w0 w) (hbase : base ≤ w.heap.size) (hgb : base ≤ g) (hl : (xs.length + 1) * 32 ≤ 140737488355328) :
    Calls Try.prog 86 #[.agg #[.int .i64 ax, .int .i64 ay], .agg #[.int .i64 bx, .int .i64 byy], .pointer (some ⟨g, 0, none⟩)] w
      (flat_Put base g w0 w v (if ax = bx ∧ ay = byy then xs else xs ++ [⟨⟨ax, ay⟩, ⟨bx, byy⟩⟩])) := by
  have he := @flat_eqP
  have hgl := (Array.getElem?_eq_some_iff.1 hg).1
  obtain ⟨W0, c0, c1, d0, d1, e0, z0, hs, HB, hR0, hk, hsz, hg0, hW0⟩ : ∃ W0 : World, W0.cell? ⟨w.heap.size, 0, none⟩ = some (.int .i64 ax) ∧ W0.cell? ⟨w.heap.size, 1, none⟩ = some (.int .i64 ay) ∧ W0.cell? ⟨w.heap.size + 1, 0, none⟩ = some (.int .i64 bx) ∧ W0.cell? ⟨w.heap.size + 1, 1, none⟩ = some (.int .i64 byy)
      ∧ W0.cell? ⟨g, 0, none⟩ = some v ∧ W0.frozen? ⟨g, 0, none⟩ = false ∧ base ≤ W0.heap.size ∧ Below base w0 W0 ∧ Kd.R k40 40 W0 base (fun k => k ≠ g) v xs ∧ (∀ k, k < w.heap.size → W0.heap[k]? = w.heap[k]?) ∧ w.heap.size ≤ W0.heap.size ∧ W0.heap[g]? = some (.cells #[v] 29 (0, 0)) ∧
      W0 = (w.alloc (.cells #[.int .i64 ax, .int .i64 ay] 32)).alloc (.cells #[.int .i64 bx, .int .i64 byy] 32) := by
    obtain ⟨q, z⟩ := cells1 hg
    exact ⟨_, by go_simp, by go_simp, by go_simp, by go_simp, calloc (calloc q _) _, falloc (calloc q _) (falloc q z _) _, by simp; omega, (hB.alloc hbase _).alloc (by simp; omega) _, Kd.R_below (Kd.R_below hR (balloc (Below.refl _ _) _)) (balloc (Below.refl _ _) _),
      fun k hk => by rw [Below.heap_alloc _ _ _ (by simp; omega), Below.heap_alloc _ _ _ hk], by simp; omega, halloc (halloc hg _) _, rfl⟩
  by_cases h : ax = bx ∧ ay = byy
  · rw [if_pos h]
    obtain ⟨rfl, rfl⟩ := h
    go_enter Try.func86, Try.ntmps86
    go_upto_region 1 with fail
    rw [← hW0]
    clear hW0 hg
    go_wp2_with fail
    go_end0
    exact ⟨v, rfl, hg0, hR0, HB, hsz, fun k hk' _ _ => hk k hk'⟩
  · rw [if_neg h]
    have hp : (!(ax == bx && (ay == byy))) = true := by
      by_cases h1 : ax = bx
      · have h2 : ¬ ay = byy := fun h2 => h ⟨h1, h2⟩
        simp [h2]
      · simp [h1]
    have HL := Aside0.mk hl; have HK := Aside0.mk hk; have HR := Aside0.mk hR0; have HBB := Aside0.mk HB; have HG0 := Aside0.mk hg0
    clear h hR hB hl hk hR0 HB hg0
    go_enter Try.func86, Try.ntmps86
    go_upto_region 1 with fail
    rw [← hW0]
    clear hW0 hg
    go_wp2_with ((at_builtin; refine Kd.R_append k40 (w0 := w0) base rfl (.tmp 8) (.tmp 12) 29 40 (.agg #[.int .i64 0, .int .i64 0, .int .i64 0, .int .i64 0]) 32 rfl Try.underlying29 flat_i40 rfl (by decide) (by omega) v xs (⟨⟨ax, ay⟩, ⟨bx, byy⟩⟩ : S40) [.int .i64 ax, .int .i64 ay, .int .i64 bx, .int .i64 byy] (fun k => k ≠ g) (fun _ => False) rfl (by first | (go_simp; done) | (go_simp; rfl)) (k40_mkM _ _ _ _) (fun _ hk => hk.elim) ?c1 HR.out HBB.out (by simpa using hs) HL.out ?_; (case c1 => exact fun k hk' => by omega); intro v1 w1 ho hb hgr hat; obtain ⟨A1, k1, rfl⟩ := Kd.R_slice ho; simp only [List.length_append, List.length_cons, List.length_nil, Nat.zero_add] at ho; have hg1 := (hgr.block g (Nat.lt_of_lt_of_le hgl hsz) (fun hh => HR.out.1 g hh.symm rfl)).trans HG0.out; obtain ⟨q1, z1⟩ := cells1 hg1; have HO := Aside0.mk ho; have HB1 := Aside0.mk hb; have HGR := Aside0.mk hgr; have HG1 := Aside0.mk hg1; clear ho hb hgr hat hg1))
    go_end0
    refine ⟨_, rfl, hset1 HG1.out, Kd.R_far (p := ⟨g, 0, none⟩) HO.out (fun k hk' => hk') _, HB1.out.setCell (p := ⟨g, 0, none⟩) hgb _, ?_, fun k hk' hk1 hk2 => ?_⟩
    · have := HGR.out.size; simp; omega
    · rw [Below.heap_setCell _ _ _ _ hk1, HGR.out.block k (by omega) hk2]; exact HK.out k hk'
def flat_edge (a b : S32) : List S40 := if a.f0 = b.f0 ∧ a.f1 = b.f1 then [] else [⟨a, b⟩]
def flat_sm (p : S32) : S32 := ⟨wrap64 (16 * p.f0), wrap64 (16 * p.f1)⟩
def flat_cv (s : S143) (k : Int) : S32 :=
  ⟨flat_On.c (wrap64 (wrap64 (4 - k) * wrap64 (4 - k))) (wrap64 (wrap64 (2 * k) * wrap64 (4 - k))) (wrap64 (k * k)) s.f0.f0 s.f1.f0 s.f2.f0, flat_On.c (wrap64 (wrap64 (4 - k) * wrap64 (4 - k))) (wrap64 (wrap64 (2 * k) * wrap64 (4 - k))) (wrap64 (k * k)) s.f0.f1 s.f1.f1 s.f2.f1⟩
def flat_pt (s : S143) : Nat → S32
  | 0 => flat_sm s.f0
  | k + 1 => flat_cv s ((k : Int) + 1)
def flat_chords (s : S143) : Nat → List S40
  | 0 => []
  | k + 1 => flat_chords s k ++ flat_edge (flat_pt s k) (flat_pt s (k + 1))
def flat_seg (s : S143) : List S40 := if s.f3 = true then flat_chords s 4 else flat_edge (flat_sm s.f0) (flat_sm s.f2)
theorem flat_edge_len (a b : S32) : (flat_edge a b).length ≤ 1 := by unfold flat_edge; split <;> simp
theorem flat_chords_len (s : S143) : ∀ k, (flat_chords s k).length ≤ k
  | 0 => Nat.le_refl _
  | k + 1 => by
    have := flat_chords_len s k
    have := flat_edge_len (flat_pt s k) (flat_pt s (k + 1))
    simp only [flat_chords, List.length_append]
    omega
theorem flat_seg_len (s : S143) : (flat_seg s).length ≤ 4 := by
  unfold flat_seg
  split
  · exact flat_chords_len s 4
  · exact Nat.le_trans (flat_edge_len _ _) (by omega)
theorem flat_all_len : ∀ l : List S143, (l.flatMap flat_seg).length ≤ 4 * l.length
  | [] => Nat.le_refl _
  | s :: l => by
    have := flat_all_len l
    have := flat_seg_len s
    simp only [List.flatMap_cons, List.length_append, List.length_cons]
    omega
theorem flat_take (l : List S143) (k : Nat) (h : k < l.length) : (l.take (k + 1)).flatMap flat_seg = (l.take k).flatMap flat_seg ++ flat_seg (rd_T143 l k) := by
  rw [List.take_succ_eq_append_getElem h, List.flatMap_append]
  simp [rd_T143, h]
theorem flat_put_eq (xs : List S40) (a b : S32) : (if a.f0 = b.f0 ∧ a.f1 = b.f1 then xs else xs ++ [(⟨⟨a.f0, a.f1⟩, ⟨b.f0, b.f1⟩⟩ : S40)]) = xs ++ flat_edge a b := by
  unfold flat_edge
  split <;> simp
def flat_Edges.f (l0 : List S143) : Option (List S40) := if l0.length ≤ 1000000 then some (l0.flatMap flat_seg) else none
def flat_PS (w : World) (v : Value) (xs : List S40) (W : World) : Prop :=
  W.heap[w.heap.size]? = some (.cells #[v] 29 (0, 0)) ∧ Kd.R k40 40 W w.heap.size (fun q => q ≠ w.heap.size) v xs ∧ Below w.heap.size w W
def flat_Rel (w : World) (l0 : List S143) (k : Nat) (v : Value) (W : World) : Prop := flat_PS w v ((l0.take k).flatMap flat_seg) W
theorem flat_PS.below {w W W' : World} {v : Value} {xs : List S40} (h : flat_PS w v xs W) (hb : Below W.heap.size W W') : flat_PS w v xs W' :=
  ⟨(hb.block _ (Array.getElem?_eq_some_iff.1 h.1).1).trans h.1, Kd.R_below h.2.1 hb, bstep h.2.2 hb⟩
theorem flat_PS.set2 {w W : World} {v : Value} {xs : List S40} {g : Nat} {a b : Value} (h : flat_PS w v xs W) (hg : w.heap.size < g) (hb : W.heap[g]? = some (.cells #[a, b] 32 (0, 0))) (x y : Value) : flat_PS w v xs ((W.setCell ⟨g, 0, none⟩ x).setCell ⟨g, 1, none⟩ y) := by
  obtain ⟨h1, h2, h3⟩ := h
  have ht : ∀ q, q ∈ 40 :: k40.E → q ≠ 32 := by decide
  have r1 := Kd.R_set h2 hb ht 0 x
  have hb1 : (W.setCell ⟨g, 0, none⟩ x).heap[g]? = some (.cells #[x, b] 32 (0, 0)) := by simp [World.setCell, Array.getElem?_modify, hb]
  exact ⟨hset (hset h1 (by omega) _) (by omega) _, Kd.R_set r1 hb1 ht 1 y, bset (bset h3 (by omega) _) (by omega) _⟩
theorem flat_put (w W : World) (v : Value) (xs : List S40) (ax ay bx byy : Int) (h : flat_PS w v xs W) (hl : xs.length ≤ 4000000) :
    Calls Try.prog 86 #[.agg #[.int .i64 ax, .int .i64 ay], .agg #[.int .i64 bx, .int .i64 byy], .pointer (some ⟨w.heap.size, 0, none⟩)] W
      fun e W' => ∃ v', e = .returned (.tuple #[]) ∧ Aside0 (flat_PS w v' (xs ++ flat_edge ⟨ax, ay⟩ ⟨bx, byy⟩) W') ∧ Aside0 (∀ b cs t, W.heap[b]? = some (.cells cs t (0, 0)) → t ≠ 40 → b ≠ w.heap.size → W'.heap[b]? = some (.cells cs t (0, 0))) := by
  refine (flat_Edges_1 ax ay bx byy w.heap.size w.heap.size v xs w W h.1 h.2.1 h.2.2 h.2.2.size (Nat.le_refl _) (by omega)).mono ?_
  rintro e W' ⟨v', rfl, h1, h2, h3, h4, h5⟩
  have e1 := flat_put_eq xs ⟨ax, ay⟩ ⟨bx, byy⟩
  simp only at e1
  rw [e1] at h2
  refine ⟨v', rfl, ⟨h1, h2, h3⟩, ⟨fun b cs t hb ht hne => ?_⟩⟩
  rw [h5 b (Array.getElem?_eq_some_iff.1 hb).1 hne (Kd.R_ne h.2.1 hb (fun hh => ht hh.symm))]
  exact hb
theorem flat_cells7 {W : World} {g t : Nat} {a b c d e f x : Value} (h : W.heap[g]? = some (.cells #[a, b, c, d, e, f, x] t (0, 0))) : W.cell? ⟨g, 0, none⟩ = some a ∧ W.cell? ⟨g, 1, none⟩ = some b ∧ W.cell? ⟨g, 2, none⟩ = some c ∧ W.cell? ⟨g, 3, none⟩ = some d ∧ W.cell? ⟨g, 4, none⟩ = some e ∧ W.cell? ⟨g, 5, none⟩ = some f ∧ W.cell? ⟨g, 6, none⟩ = some x := by
  refine ⟨?_, ?_, ?_, ?_, ?_, ?_, ?_⟩ <;> simp [World.cell?, h]
set_option maxHeartbeats 4000000 in
set_option maxRecDepth 100000 in
theorem flat_Edges.calls (A0 : Option Addr) (c0 : Nat) (l0 : List S143) (r : List S40) (w : World) (hr0 : Kd.C k143 w A0 l0.length l0) (hc0 : l0.length ≤ c0) (h : flat_Edges.f l0 = some r) :
    Calls Try.prog 80 #[.slice A0 l0.length c0] w fun e w' => ∃ v0_ : Value, e = .returned v0_ ∧ Kd.R k40 40 w' w.heap.size (fun _ => True) v0_ r ∧ Below w.heap.size w w' := by
  unfold flat_Edges.f at h
  split at h
  case isFalse => cases h
  rename_i hlen
  obtain rfl := Option.some.inj h
  clear h
  have HR0 := Aside0.mk hr0
  clear hr0
  go_enter Try.func80, Try.ntmps80
  go_wp2_with fail
  go_loopw [13] (fun s13 W => ∃ (k : Nat) (v : Value), k ≤ l0.length ∧ s13 = .int .i64 k ∧ Aside0 (flat_Rel w l0 k v W)) (fun s13 _ => l0.length - (intOf s13).toNat)
  case atStart =>
    exact ⟨0, .slice none 0 0, Nat.zero_le _, rfl, ⟨hnew _ _ rfl, Kd.R_nil _ _ _ _ _, balloc (Below.refl _ _) _⟩⟩
  case round =>
    obtain ⟨k, v, hk, rfl, HRel⟩ := hrel
    by_cases hlt : k < l0.length
    · obtain ⟨hg, hR, hB⟩ := HRel.out
      have htk := flat_take l0 k hlt
      have hxl := flat_all_len (l0.take k)
      rw [List.length_take, Nat.min_eq_left hk] at hxl
      obtain ⟨xs, hxs⟩ : ∃ x, x = (l0.take k).flatMap flat_seg := ⟨_, rfl⟩
      rw [← hxs] at htk hR hxl
      obtain ⟨ad, rfl, x0, x1, x2, x3, x4, x5, x6⟩ := at_T143 HR0.out (k : Int) (by omega) (by omega)
      rw [Int.toNat_natCast] at x0 x1 x2 x3 x4 x5 x6
      obtain ⟨E, hE⟩ : ∃ E, E = rd_T143 l0 k := ⟨_, rfl⟩
      rw [← hE] at x0 x1 x2 x3 x4 x5 x6 htk
      replace x0 := (hB.cell (World.block_lt_of_cell? w _ x0)).trans x0
      replace x1 := (hB.cell (World.block_lt_of_cell? w _ x1)).trans x1
      replace x2 := (hB.cell (World.block_lt_of_cell? w _ x2)).trans x2
      replace x3 := (hB.cell (World.block_lt_of_cell? w _ x3)).trans x3
      replace x4 := (hB.cell (World.block_lt_of_cell? w _ x4)).trans x4
      replace x5 := (hB.cell (World.block_lt_of_cell? w _ x5)).trans x5
      replace x6 := (hB.cell (World.block_lt_of_cell? w _ x6)).trans x6
      obtain ⟨wo, rfl⟩ : ∃ wo : World, wo = wr := ⟨_, rfl⟩
      have hk0 : (0 : Int) ≤ (k : Int) := by omega
      have hk1 : (k : Int) < (l0.length : Int) := by omega
      have hPS : flat_PS w v xs wo := ⟨hg, hR, hB⟩
      have HPS := Aside0.mk hPS; have HXS := Aside0.mk hxs; have HTK := Aside0.mk htk; have HE := Aside0.mk hE
      clear hg hR hB hxs htk hE HRel hPS
      cases hcv : E.f3 with
      | false =>
        rw [hcv] at x6
        have hseg : flat_seg E = flat_edge (flat_sm E.f0) (flat_sm E.f2) := by unfold flat_seg; rw [hcv]; rfl
        have HSEG := Aside0.mk hseg
        clear hcv hseg
        go_upto_region 7 with fail
        obtain ⟨W1, hgs, hPS1, hlt1, hW1⟩ : ∃ W1 : World, W1.heap[wo.heap.size]? = some (.cells #[.int .i64 E.f0.f0, .int .i64 E.f0.f1, .int .i64 E.f1.f0, .int .i64 E.f1.f1, .int .i64 E.f2.f0, .int .i64 E.f2.f1, .bool false] 143 (0, 0)) ∧ flat_PS w v xs W1 ∧ w.heap.size < wo.heap.size ∧ W1 = wo.alloc (.cells #[.int .i64 E.f0.f0, .int .i64 E.f0.f1, .int .i64 E.f1.f0, .int .i64 E.f1.f1, .int .i64 E.f2.f0, .int .i64 E.f2.f1, .bool false] 143) :=
          ⟨_, hnew _ _ rfl, HPS.out.below (balloc (Below.refl _ _) _), (Array.getElem?_eq_some_iff.1 HPS.out.1).1, rfl⟩
        rw [← hW1]
        clear hW1
        have KS := Aside0.mk (show ∀ W : World, W.heap[wo.heap.size]? = some (.cells #[.int .i64 E.f0.f0, .int .i64 E.f0.f1, .int .i64 E.f1.f0, .int .i64 E.f1.f1, .int .i64 E.f2.f0, .int .i64 E.f2.f1, .bool false] 143 (0, 0)) → W.heap[wo.heap.size]? = some (.cells #[.int .i64 E.f0.f0, .int .i64 E.f0.f1, .int .i64 E.f1.f0, .int .i64 E.f1.f1, .int .i64 E.f2.f0, .int .i64 E.f2.f1, .bool false] 143 (0, 0)) ∧ W.cell? ⟨wo.heap.size, 0, none⟩ = some (.int .i64 E.f0.f0) ∧ W.cell? ⟨wo.heap.size, 1, none⟩ = some (.int .i64 E.f0.f1) ∧ W.cell? ⟨wo.heap.size, 4, none⟩ = some (.int .i64 E.f2.f0) ∧ W.cell? ⟨wo.heap.size, 5, none⟩ = some (.int .i64 E.f2.f1) from fun W h => by
          obtain ⟨y0, y1, _, _, y4, y5, _⟩ := flat_cells7 h
          exact ⟨h, y0, y1, y4, y5⟩)
        have HPS1 := Aside0.mk hPS1; have HGS := Aside0.mk hgs
        have hgl := (Array.getElem?_eq_some_iff.1 hgs).1
        clear hPS1 hgs
        go_region_held3 (fun W => W.heap[wo.heap.size]? = some (.cells #[.int .i64 E.f0.f0, .int .i64 E.f0.f1, .int .i64 E.f1.f0, .int .i64 E.f1.f1, .int .i64 E.f2.f0, .int .i64 E.f2.f1, .bool false] 143 (0, 0)) ∧ W.cell? ⟨wo.heap.size, 0, none⟩ = some (.int .i64 E.f0.f0) ∧ W.cell? ⟨wo.heap.size, 1, none⟩ = some (.int .i64 E.f0.f1) ∧ W.cell? ⟨wo.heap.size, 4, none⟩ = some (.int .i64 E.f2.f0) ∧ W.cell? ⟨wo.heap.size, 5, none⟩ = some (.int .i64 E.f2.f1))
          (first
            | exact KS.out _ HGS.out
            | (go_split_ands; exact KS.out _ ((hb.block _ (Array.getElem?_eq_some_iff.1 (by assumption)).1).trans (by assumption)))
            | (go_split_ands; exact KS.out _ (hkp.out _ _ _ (by assumption) (by decide) (by omega))))
          (first
            | (go_at_call 87; refine (flat_small.calls _ _ _ _ _ rfl).mono ?_; rintro e w' ⟨rfl, hb⟩)
            | (go_at_call 86; refine (flat_put w _ v xs _ _ _ _ (HPS1.out.below (by (repeat (first | assumption | exact Below.refl _ _ | with_reducible refine bdrew ?_ | refine bstep ?_ (by assumption))))) (by omega)).mono ?_; rintro e w' ⟨v', rfl, hps', hkp⟩))
        clear KS
        go_wp2_with fail
        go_roundw
        case rel => exact ⟨k + 1, v', by omega, by go_num, ⟨by unfold flat_Rel; rw [HTK.out, HSEG.out]; exact hps'.out⟩⟩
        case measure => simp [intOf]; omega
      | true =>
        rw [hcv] at x6
        have hseg : flat_seg E = flat_chords E 4 := by unfold flat_seg; rw [hcv]; rfl
        have HSEG := Aside0.mk hseg
        clear hcv hseg
        have hgl0 := (Array.getElem?_eq_some_iff.1 HPS.out.1).1
        obtain ⟨W1, hW1⟩ : ∃ W1 : World, W1 = wo.alloc (.cells #[.int .i64 E.f0.f0, .int .i64 E.f0.f1, .int .i64 E.f1.f0, .int .i64 E.f1.f1, .int .i64 E.f2.f0, .int .i64 E.f2.f1, .bool true] 143) := ⟨_, rfl⟩
        have HGS : Aside0 (W1.heap[wo.heap.size]? = some (.cells #[.int .i64 E.f0.f0, .int .i64 E.f0.f1, .int .i64 E.f1.f0, .int .i64 E.f1.f1, .int .i64 E.f2.f0, .int .i64 E.f2.f1, .bool true] 143 (0, 0))) := ⟨by rw [hW1]; exact hnew _ _ rfl⟩
        have HPS1 : Aside0 (flat_PS w v xs W1) := ⟨by rw [hW1]; exact HPS.out.below (balloc (Below.refl _ _) _)⟩
        go_upto_region 8 with fail
        rw [← hW1]
        clear hW1
        obtain ⟨y0, y1, y2, y3, y4, y5, y6⟩ := flat_cells7 HGS.out
        go_wp2_with fail
        refine (flat_small.calls _ _ _ _ _ rfl).mono ?_
        rintro e w2 ⟨rfl, hb⟩
        have HGS2 : Aside0 (w2.heap[wo.heap.size]? = some (.cells #[.int .i64 E.f0.f0, .int .i64 E.f0.f1, .int .i64 E.f1.f0, .int .i64 E.f1.f1, .int .i64 E.f2.f0, .int .i64 E.f2.f1, .bool true] 143 (0, 0))) := ⟨(hb.block _ (Array.getElem?_eq_some_iff.1 HGS.out).1).trans HGS.out⟩
        have HPS2 : Aside0 (flat_PS w v xs w2) := ⟨HPS1.out.below hb⟩
        clear hb y0 y1 y2 y3 y4 y5 y6 x0 x1 x2 x3 x4 x5 x6 HGS HPS1
        go_wp2_with fail
        have hz2 := (Array.getElem?_eq_some_iff.1 HGS2.out).1
        go_loopw [8] (fun s8 W => ∃ (m : Nat) (v' : Value), m ≤ 4 ∧ s8 = .int .i64 (m + 1 : Nat) ∧ Aside0 (flat_PS w v' (xs ++ flat_chords E m) W ∧ W.heap[wo.heap.size]? = some (.cells #[.int .i64 E.f0.f0, .int .i64 E.f0.f1, .int .i64 E.f1.f0, .int .i64 E.f1.f1, .int .i64 E.f2.f0, .int .i64 E.f2.f1, .bool true] 143 (0, 0)) ∧ W.heap[w2.heap.size]? = some (.cells #[.int .i64 (flat_pt E m).f0, .int .i64 (flat_pt E m).f1] 32 (0, 0)))) (fun s8 _ => 5 - (intOf s8).toNat)
        case atStart =>
          exact ⟨0, v, by omega, rfl, ⟨by rw [flat_chords, List.append_nil]; exact HPS2.out.below (balloc (Below.refl _ _) _), halloc HGS2.out _, hnew _ _ rfl⟩⟩
        case round =>
          obtain ⟨m, v', hm, rfl, HR2⟩ := hrel
          obtain ⟨p1, p2, p3⟩ := HR2.out
          have hcl := flat_chords_len E m
          by_cases hm4 : m < 4
          · obtain ⟨y0, y1, y2, y3, y4, y5, y6⟩ := flat_cells7 p2
            have hb2 := (Array.getElem?_eq_some_iff.1 p2).1
            have hb3 := (Array.getElem?_eq_some_iff.1 p3).1
            have hPw := (Array.getElem?_eq_some_iff.1 p1.1).1
            have HP1 := Aside0.mk p1; have HP2 := Aside0.mk p2; have HP3 := Aside0.mk p3
            clear p1 p2 p3
            obtain ⟨w3, rfl⟩ : ∃ w3 : World, w3 = wr := ⟨_, rfl⟩
            have e1 : ((m + 1 : Nat) : Int) ≤ 4 := by omega
            go_wp2_with fail
            obtain ⟨px, hpx⟩ : ∃ x, x = (flat_pt E (m + 1)).f0 := ⟨_, rfl⟩
            obtain ⟨py, hpy⟩ : ∃ x, x = (flat_pt E (m + 1)).f1 := ⟨_, rfl⟩
            have HPX := Aside0.mk hpx; have HPY := Aside0.mk hpy
            clear hpx hpy
            refine (flat_On.calls _ _ _ _ _ _ _ _ px py _ (by rw [HPX.out, HPY.out]; rfl)).mono ?_
            rintro e w4 ⟨rfl, hb⟩
            obtain ⟨w5, hw5⟩ : ∃ w5 : World, w5 = w4.alloc (.cells #[.int .i64 px, .int .i64 py] 32) := ⟨_, rfl⟩
            have q1 : Aside0 (flat_PS w v' (xs ++ flat_chords E m) w5) := ⟨by rw [hw5]; exact (HP1.out.below hb).below (balloc (Below.refl _ _) _)⟩
            have q2 : Aside0 (w5.heap[wo.heap.size]? = some (.cells #[.int .i64 E.f0.f0, .int .i64 E.f0.f1, .int .i64 E.f1.f0, .int .i64 E.f1.f1, .int .i64 E.f2.f0, .int .i64 E.f2.f1, .bool true] 143 (0, 0))) := ⟨by rw [hw5]; exact halloc ((hb.block _ hb2).trans HP2.out) _⟩
            have q3 : Aside0 (w5.heap[w2.heap.size]? = some (.cells #[.int .i64 (flat_pt E m).f0, .int .i64 (flat_pt E m).f1] 32 (0, 0))) := ⟨by rw [hw5]; exact halloc ((hb.block _ hb3).trans HP3.out) _⟩
            have q4 : Aside0 (w5.heap[w4.heap.size]? = some (.cells #[.int .i64 px, .int .i64 py] 32 (0, 0))) := ⟨by rw [hw5]; exact hnew _ _ rfl⟩
            have hz4 := hb.size
            have hne42 : w4.heap.size ≠ w2.heap.size := by omega
            clear hb y0 y1 y2 y3 y4 y5 y6 HP1 HP2 HP3
            go_upto_region 13 with fail
            rw [← hw5]
            clear hw5
            obtain ⟨h0, h1, _, _⟩ := cells2 q3.out
            obtain ⟨n0, n1, _, _⟩ := cells2 q4.out
            go_wp2_with fail
            refine (flat_put w w5 v' (xs ++ flat_chords E m) _ _ _ _ q1.out (by simp only [List.length_append]; omega)).mono ?_
            rintro e w6 ⟨v2, rfl, hps2, hk2⟩
            have r2 : Aside0 (w6.heap[wo.heap.size]? = some (.cells #[.int .i64 E.f0.f0, .int .i64 E.f0.f1, .int .i64 E.f1.f0, .int .i64 E.f1.f1, .int .i64 E.f2.f0, .int .i64 E.f2.f1, .bool true] 143 (0, 0))) := ⟨hk2.out _ _ _ q2.out (by decide) (by omega)⟩
            have r3 := hk2.out _ _ _ q3.out (by decide) (by omega)
            have r4 := hk2.out _ _ _ q4.out (by decide) (by omega)
            obtain ⟨n0', n1', _, _⟩ := cells2 r4
            obtain ⟨h0', h1', z0', z1'⟩ := cells2 r3
            have R3 := Aside0.mk r3
            clear h0 h1 n0 n1 q1 q2 q3 q4 r3 r4 hk2
            go_wp2_with fail
            go_roundw
            case rel =>
              refine ⟨m + 1, v2, by omega, by go_num, ⟨?_, ?_, ?_⟩⟩
              · have e2 : flat_chords E (m + 1) = flat_chords E m ++ flat_edge (flat_pt E m) (flat_pt E (m + 1)) := rfl
                rw [e2, ← List.append_assoc]
                have h := hps2.out
                rw [HPX.out, HPY.out] at h
                exact flat_PS.set2 h (by omega) R3.out _ _
              · exact hset (hset r2.out (by omega) _) (by omega) _
              · rw [← HPX.out, ← HPY.out]; exact hset2 R3.out
            case measure => simp [intOf]; omega
          · obtain rfl : m = 4 := by omega
            have HP1 := Aside0.mk p1
            clear p1 p2 p3
            go_wp2_with fail
            go_roundw
            case rel => exact ⟨k + 1, v', by omega, by go_num, ⟨by unfold flat_Rel; rw [HTK.out, HSEG.out]; exact HP1.out⟩⟩
            case measure => simp [intOf]; omega
    · obtain rfl : k = l0.length := by omega
      obtain ⟨hg, hR, hB⟩ := HRel.out
      rw [List.take_length] at hR
      obtain ⟨q, z⟩ := cells1 hg
      go_wp2_with fail
      go_ret
      exact ⟨v, rfl, Kd.R_mono hR (fun _ _ => trivial), hB⟩
end Go.Proofs.Ytlljpjbhndcaiaa.Q
end
section
namespace Go.Proofs.Ytlljpjbhndcaiaa.Q
open Go.RowKit Go.Proofs.YtlljpjbhndcaiaaW.PrintWords Go.Proofs.YtlljpjbhndcaiaaW.PrintLast Go.Proofs.YtlljpjbhndcaiaaW.PrintMore
attribute [local go_sem] max2_int min2_int max_two min_two max_three min_three max_four min_four
set_option linter.unusedVariables false
set_option linter.unusedSimpArgs false
def flat_All.l0 : Nat → List (S40) → List (List (S143)) → Int → Int → Option ((List (S40)))
  | 0, _, _, _, _ => none
  | k + 1, x3, x6, x7, x8 => if x8 < x7 then (if 0 ≤ x8 then (if x8 < (x6.length : Int) then ((flat_Edges.f (rd_L7 x6 x8)).bind fun t165 => (if x3.length + t165.length < 4398046511104 then (flat_All.l0 k (x3 ++ t165) x6 x7 (wrap64 (x8 + 1))) else (none))) else (none)) else (none)) else (some x3)
def flat_All.f (k : Nat) (l0 : List (List (S143))) : Option ((List (S40))) := flat_All.l0 k ([] : List (S40)) l0 (l0.length : Int) 0
theorem flat_All.mono_l : ∀ k, (∀ y0 y1 y2 y3, LeO (flat_All.l0 k y0 y1 y2 y3) (flat_All.l0 (k + 1) y0 y1 y2 y3))
  | 0 => fun _ _ _ _ r h => by simp [flat_All.l0] at h
  | k + 1 => by
    have ih0 := flat_All.mono_l k
    · intro y0 y1 y2 y3
      unfold flat_All.l0
      repeat' first
      | (with_reducible exact ih0 _ _ _ _)
      | (with_reducible exact LeO.refl _)
      | (with_reducible exact LeO.none _)
      | (with_reducible refine LeO.ite ?_ ?_)
      | (with_reducible refine LeO.bind ?_ (fun _ => ?_))
      | exact ih0 _ _ _ _
      | exact LeO.none _
      | refine LeO.ite ?_ ?_
      | refine LeO.bind ?_ (fun _ => ?_)
theorem flat_All.mono : ∀ a0 k, LeO (flat_All.f k a0) (flat_All.f (k + 1) a0) := by
  intro a0 k
  have ih0 := flat_All.mono_l k
  unfold flat_All.f
  repeat' first
      | (with_reducible exact ih0 _ _ _ _)
      | (with_reducible exact LeO.refl _)
      | (with_reducible exact LeO.none _)
      | (with_reducible refine LeO.ite ?_ ?_)
      | (with_reducible refine LeO.bind ?_ (fun _ => ?_))
      | exact ih0 _ _ _ _
      | exact LeO.none _
      | refine LeO.ite ?_ ?_
      | refine LeO.bind ?_ (fun _ => ?_)
set_option maxHeartbeats 8000000 in
set_option maxRecDepth 100000 in
theorem flat_All.calls (k : Nat) (A0 : Option Addr) (c0 : Nat) (l0 : List (List (S143))) (r : List (S40)) (w : World) (hr0 : Kd.C (Kd.slice 143 k143) w A0 l0.length l0) (hc0 : l0.length ≤ c0) (h : flat_All.f k l0 = some r) :
    Calls Try.prog 55 #[.slice A0 l0.length c0] w fun e w' => ∃ v0_ : Value, e = .returned (v0_) ∧ Kd.R k40 40 w' w.heap.size (fun _ => True) v0_ r ∧ Below w.heap.size w w' := by
  have HR0 := Aside0.mk hr0
  have HC0 := Aside0.mk hc0
  clear hr0 hc0
  have HB := Aside0.mk (Below.refl w.heap.size w)
  have H : (flat_All.l0 k ([] : List (S40)) l0 (l0.length : Int) 0) = some r := h
  clear h
  have H' := Aside0.mk H
  clear H
  go_enter Try.func55, Try.ntmps55
  go_wp2
  go_loopg [3, 8] k (fun kq v3 v8 w' => ∃ (x3_1 : List (S40)) (x8_1 : Int), v8 = .int .i64 x8_1 ∧ Aside0 (flat_All.l0 kq x3_1 l0 (l0.length : Int) x8_1 = some r) ∧ Aside0 (kq ≤ k) ∧ Aside0 (Kd.R k40 40 w' w.heap.size (fun _ => True) v3 x3_1) ∧ Aside0 (Below w.heap.size w w'))
  case atStart => exact ⟨(([] : List (S40))), (0), (by first | rfl | (simp; done) | (simp [*]; done)), H', ⟨Nat.le_refl _⟩, ⟨by first | exact Kd.R_nil _ _ _ _ _ | exact Kd.N_nil _ _ _ _ _ | exact Kd.V_nil _ _ _ _ _ | exact Kd.Q_nil _ _ _ _ _ | exact Kd.S_nil _ _ _ _ _⟩, ⟨by repeat (first | (with_reducible first | exact HB.out | apply below_alloc | apply pw_below_drewN | apply below_drew1) | exact HB.out)⟩⟩
  case round =>
    clear H'
    obtain ⟨x3_1, x8_1, rfl, HA, HK1, HO_3, HB⟩ := hrel
    cases gk with
    | zero => exact absurd HA.out (by simp [flat_All.l0])
    | succ k1 =>
      have H := HA.out
      clear HA
      simp only [flat_All.l0] at H
      by_cases c2 : x8_1 < (l0.length : Int)
      · rw [if_pos c2] at H
        have c2b0 : decide (x8_1 < (l0.length : Int)) = true := decide_eq_true c2
        clear c2
        by_cases c3 : 0 ≤ x8_1
        · rw [if_pos c3] at H
          have c3b0 : decide (0 ≤ x8_1) = true := decide_eq_true c3
          clear c3
          by_cases c4 : x8_1 < (l0.length : Int)
          · rw [if_pos c4] at H
            have c4b0 : decide (x8_1 < (l0.length : Int)) = true := decide_eq_true c4
            clear c4
            replace H := Option.bind_eq_some_iff.mp H
            obtain ⟨t165, A50, H⟩ := H
            replace H : (if x3_1.length + t165.length < 4398046511104 then (flat_All.l0 k1 (x3_1 ++ t165) l0 (l0.length : Int) (wrap64 (x8_1 + 1))) else (none)) = some r := H
            have A5 := Aside0.mk A50
            clear A50
            by_cases c6 : x3_1.length + t165.length < 4398046511104
            · rw [if_pos c6] at H
              have LMc6 := Aside0.mk c6
              clear c6
              obtain ⟨y168, hy168⟩ : ∃ y_ : List (S40), y_ = (x3_1 ++ t165) := ⟨_, rfl⟩
              replace H : (flat_All.l0 k1 y168 l0 (l0.length : Int) (wrap64 (x8_1 + 1))) = some r := by first | (rw [hy168]; with_reducible exact H) | (have H2_ := (Option.bind_some _ _).symm.trans H; rw [hy168]; with_reducible exact H2_) | (have H2_ := (Option.bind_some _ _).symm.trans H; with_reducible exact H2_) | with_reducible exact H | (rw [hy168]; exact H) | exact H
              have Ny168 := Aside0.mk hy168
              clear hy168
              have H' := Aside0.mk H
              clear H
              have p164 : 0 ≤ (x8_1 : Int) := of_decide_eq_true (by first | (with_reducible assumption) | assumption)
              have q164 : x8_1 < (l0.length : Int) := of_decide_eq_true (by first | (with_reducible assumption) | assumption)
              obtain ⟨ad164, A164_0, c164_0, e164, hx164_0, hl164_0, hi164_0⟩ := at_L7 HR0.out x8_1 p164 q164
              cases e164
              replace hx164_0 := (HB.out.cell (World.block_lt_of_cell? w _ hx164_0)).trans hx164_0
              have HR164_0 := Aside0.mk hi164_0
              have HC164_0 := Aside0.mk hl164_0
              clear hi164_0 hl164_0
              replace p164 := eq_true p164
              replace q164 := eq_true q164
              go_wp2_with (first | ((with_reducible refine gate_callee (f := 80) rfl ?_); refine goesL_ (some 14) rfl rfl Try.func80 (by kernel_rfl) rfl #[.slice A164_0 (rd_L7 l0 x8_1).length c164_0] rfl (by (try simp only [List.map_toArray, List.map_cons, List.map_nil]); first | done | rfl | (simp only [List.length_drop, List.length_take]; rfl)) ?_; (with_reducible refine (flat_Edges.calls _ _ (rd_L7 l0 x8_1) t165 _ ?side1 ?side2 A5.out).mono ?_); (case side1 => repeat (first | exact (Kd.C_below HR164_0.out HB.out) | (with_reducible refine Kd.C_alloc ?_ _) | (with_reducible refine Kd.C_drewN ?_ _) | (with_reducible refine Kd.C_drew ?_))); (case side2 => exact HC164_0.out); rintro e w7 ⟨v166, rfl, ho0, hb⟩; refine ⟨_, rfl, ?_⟩; have n0_ := Aside0.mk (Kd.R_elder' (by (with_reducible repeat (first | apply Kd.R_alloc | apply Kd.R_drewN | apply Kd.R_drew)); exact HO_3.out) (Kd.R_base ho0) hb); have n1_ := Aside0.mk (Kd.R_lower (Kd.R_new' ho0 (Kd.R_lt (by (with_reducible repeat (first | apply Kd.R_alloc | apply Kd.R_drewN | apply Kd.R_drew)); exact HO_3.out))) (below_size (by repeat (first | (with_reducible first | exact HB.out | apply below_alloc | apply pw_below_drewN | apply below_drew1) | exact HB.out)))); have n2_ := Aside0.mk (below_step (by repeat (first | (with_reducible first | exact HB.out | apply below_alloc | apply pw_below_drewN | apply below_drew1) | exact HB.out)) hb); clear HO_3; clear HB; have HO_3 := n0_; have HO167 := n1_; have HB := n2_; clear n0_ n1_ n2_; (try clear hb); (try clear hb2); (try clear hk); (try clear hi); (try clear ho0); obtain ⟨Ao9, co9, eo9⟩ := Kd.R_slice HO167.out; subst eo9) | ((with_reducible refine gate_builtin (b := .append) (xs := #[.tmp 12, .tmp 14]) rfl ?_); at_builtin; refine Kd.R_append_rows k40 (w0 := w) w.heap.size rfl (.tmp 12) (.tmp 14) 29 40 (.agg #[(.int .i64 0), (.int .i64 0), (.int .i64 0), (.int .i64 0)]) 32 rfl Try.underlying29 info40 rfl (by decide) (by omega) u3 x3_1 t165 _ _ _ (fun k_ => some k_ ≠ (.slice Ao9 t165.length co9 : Value).ownBlock) (fun _ => False) rfl rfl ?aO ?aR (fun _ _ h => h) (fun _ h => h.elim) ?aF ?aB ?aS ?aL ?_; (case aR => repeat (first | exact (Kd.R_reads' HO167.out).2.2 | (with_reducible refine Kd.C_alloc ?_ _) | (with_reducible refine Kd.C_drewN ?_ _) | (with_reducible refine Kd.C_drew ?_))); (case aB => exact (by repeat (first | (with_reducible first | exact HB.out | apply below_alloc | apply pw_below_drewN | apply below_drew1) | exact HB.out))); (case aF => exact (fun k_ hk => Kd.fresh' (Kd.R_lt (by (with_reducible repeat (first | apply Kd.R_alloc | apply Kd.R_drewN | apply Kd.R_drew)); exact HO167.out)) k_ hk)); (case aO => exact (by (with_reducible repeat (first | apply Kd.R_alloc | apply Kd.R_drewN | apply Kd.R_drew)); exact Kd.R_mono HO_3.out (fun _ hk => hk.2))); (case aS => exact (below_size (by repeat (first | (with_reducible first | exact HB.out | apply below_alloc | apply pw_below_drewN | apply below_drew1) | exact HB.out)))); (case aL => have := LMc6.out; omega); intro v169 w8 ho hb hg hat; rw [← Ny168.out] at ho; have n0_ := Aside0.mk (Kd.R_after (ok := (fun _ => True)) (by (with_reducible repeat (first | apply Kd.R_alloc | apply Kd.R_drewN | apply Kd.R_drew)); exact HO167.out) hg hat); have n1_ := Aside0.mk (hb); have n2_ := Aside0.mk (ho); clear HO167; clear HB; clear HO_3; have HO167 := n0_; have HB := n1_; have HO170 := n2_; clear n0_ n1_ n2_; clear ho hb hg hat))
              go_roundg k1
              case measure => have := HK1.out; omega
              case rel => exact ⟨(y168), (wrap64 (x8_1 + 1)), (by first | rfl | (simp; done) | (simp [*]; done)), H', ⟨by have := HK1.out; omega⟩, ⟨by (with_reducible repeat (first | apply Kd.R_alloc | apply Kd.R_drewN | apply Kd.R_drew)); exact Kd.R_mono HO170.out (fun _ hk => trivial)⟩, ⟨by repeat (first | (with_reducible first | exact HB.out | apply below_alloc | apply pw_below_drewN | apply below_drew1) | exact HB.out)⟩⟩
            · rw [if_neg c6] at H
              exact absurd H (by simp)
          · rw [if_neg c4] at H
            exact absurd H (by simp)
        · rw [if_neg c3] at H
          exact absurd H (by simp)
      · rw [if_neg c2] at H
        have c2b0 : decide (x8_1 < (l0.length : Int)) = false := decide_eq_false c2
        clear c2
        obtain rfl := Option.some.inj H
        go_wp2
        go_ret
        exact ⟨_, by first | rfl | (simp [errW_none, errW_some] <;> rfl) | (simp [*, errW_none, errW_some] <;> rfl), by (with_reducible repeat (first | apply Kd.R_alloc | apply Kd.R_drewN | apply Kd.R_drew)); exact HO_3.out, by repeat (first | (with_reducible first | exact HB.out | apply below_alloc | apply pw_below_drewN | apply below_drew1) | exact HB.out)⟩
end Go.Proofs.Ytlljpjbhndcaiaa.Q
end
section
namespace Go.Proofs.Ytlljpjbhndcaiaa.Q
open Go.RowKit Go.Proofs.YtlljpjbhndcaiaaW.PrintWords Go.Proofs.YtlljpjbhndcaiaaW.PrintLast Go.Proofs.YtlljpjbhndcaiaaW.PrintMore
attribute [local go_sem] max2_int min2_int max_two min_two max_three min_three max_four min_four
set_option linter.unusedVariables false
set_option linter.unusedSimpArgs false
def path_half.f (a0_0 : Int) (a0_1 : Int) (a0_2 : Bool) (a1_0 : Int) (a1_1 : Int) (a1_2 : Bool) : Option (Int × Int) := some (wrap64 (a0_0 + a1_0), wrap64 (a0_1 + a1_1))
set_option maxHeartbeats 8000000 in
set_option maxRecDepth 100000 in
theorem path_half.calls (a0_0 : Int) (a0_1 : Int) (a0_2 : Bool) (a1_0 : Int) (a1_1 : Int) (a1_2 : Bool) (r1 : Int) (r2 : Int) (w : World) (h : path_half.f a0_0 a0_1 a0_2 a1_0 a1_1 a1_2 = some (r1, r2)) :
    Calls Try.prog 89 #[.agg #[.int .i64 a0_0, .int .i64 a0_1, .bool a0_2], .agg #[.int .i64 a1_0, .int .i64 a1_1, .bool a1_2]] w fun e w' => e = .returned (.agg #[.int .i64 r1, .int .i64 r2]) ∧ Below w.heap.size w w' := by
  have hu135 := Try.underlying135
  have hu32 := Try.underlying32
  have HB := Aside0.mk (Below.refl w.heap.size w)
  have H : (some (wrap64 (a0_0 + a1_0), wrap64 (a0_1 + a1_1))) = some (r1, r2) := h
  clear h
  simp only [Option.some.injEq, Prod.mk.injEq] at H
  obtain ⟨rfl, rfl⟩ := H
  go_enter Try.func89, Try.ntmps89
  go_wp2_with (first | ((with_reducible refine gate_dst (N := 2) rfl ?_); refine box_event ?hg (N := 2) ?hd (cs := #[.int .i64 a0_0, .int .i64 a0_1, .bool a0_2]) (t := 135) ?hr ?_; (case hd => rfl); (case hg => rfl); (case hr => first | (go_simp; done) | (go_simp; rfl)); intro gb171 hg w3 hbox hb; have n0_ := Aside0.mk (below_step (by repeat (first | (with_reducible first | exact HB.out | apply below_alloc | apply pw_below_drewN | apply below_drew1) | exact HB.out)) hb); have n1_ := Aside0.mk (hbox); have n2_ := Aside0.mk ((by rw [hg]; exact (below_size (by repeat (first | (with_reducible first | exact HB.out | apply below_alloc | apply pw_below_drewN | apply below_drew1) | exact HB.out))) : w.heap.size ≤ gb171)); have n3_ := Aside0.mk ((by rw [hg]; exact (below_size (by repeat (first | (with_reducible first | exact HB.out | apply below_alloc | apply pw_below_drewN | apply below_drew1) | exact HB.out))) : w.heap.size ≤ gb171)); clear HB; have HB := n0_; have BK171 := n1_; have GW171 := n2_; have GE171 := n3_; clear n0_ n1_ n2_ n3_; clear hb hbox hg) | ((with_reducible refine gate_dst (N := 3) rfl ?_); refine box_event ?hg (N := 3) ?hd (cs := #[.int .i64 a1_0, .int .i64 a1_1, .bool a1_2]) (t := 135) ?hr ?_; (case hd => rfl); (case hg => rfl); (case hr => first | (go_simp; done) | (go_simp; rfl)); intro gb172 hg w4 hbox hb; have n0_ := Aside0.mk (blk_below (g := gb171) (o := .cells #[.int .i64 a0_0, .int .i64 a0_1, .bool a0_2] 135 (0, 0)) (by (with_reducible repeat (first | refine blk_drewN ?_ _ | refine blk_drew ?_ | refine blk_alloc ?_ _)); exact BK171.out) hb); have n1_ := Aside0.mk (below_step (by repeat (first | (with_reducible first | exact HB.out | apply below_alloc | apply pw_below_drewN | apply below_drew1 | refine below_set ?_ GE171.out) | exact HB.out)) hb); have n2_ := Aside0.mk (hbox); have n3_ := Aside0.mk ((by rw [hg]; exact (below_size (by repeat (first | (with_reducible first | exact HB.out | apply below_alloc | apply pw_below_drewN | apply below_drew1 | refine below_set ?_ GE171.out) | exact HB.out))) : w.heap.size ≤ gb172)); have n4_ := Aside0.mk ((by rw [hg]; exact (below_size (by repeat (first | (with_reducible first | exact HB.out | apply below_alloc | apply pw_below_drewN | apply below_drew1 | refine below_set ?_ GE171.out) | exact HB.out))) : w.heap.size ≤ gb172)); have n5_ := Aside0.mk ((by rw [hg]; exact Nat.ne_of_lt (blk_lt (g := gb171) (o := .cells #[.int .i64 a0_0, .int .i64 a0_1, .bool a0_2] 135 (0, 0)) (by (with_reducible repeat (first | refine blk_drewN ?_ _ | refine blk_drew ?_ | refine blk_alloc ?_ _)); exact BK171.out)) : gb171 ≠ gb172)); have n6_ := Aside0.mk ((by rw [hg]; exact Nat.ne_of_gt (blk_lt (g := gb171) (o := .cells #[.int .i64 a0_0, .int .i64 a0_1, .bool a0_2] 135 (0, 0)) (by (with_reducible repeat (first | refine blk_drewN ?_ _ | refine blk_drew ?_ | refine blk_alloc ?_ _)); exact BK171.out)) : gb172 ≠ gb171)); clear BK171; clear HB; have BK171 := n0_; have HB := n1_; have BK172 := n2_; have GW172 := n3_; have GE172 := n4_; have NB171_172 := n5_; have NB172_171 := n6_; clear n0_ n1_ n2_ n3_ n4_ n5_ n6_; clear hb hbox hg) | ((with_reducible refine gate_dst (N := 4) rfl ?_); refine box_event ?hg (N := 4) ?hd (cs := #[.int .i64 0, .int .i64 0]) (t := 32) ?hr ?_; (case hd => rfl); (case hg => rfl); (case hr => first | (go_simp; done) | (go_simp; rfl)); intro gb173 hg w5 hbox hb; have n0_ := Aside0.mk (blk_below (g := gb171) (o := .cells #[.int .i64 a0_0, .int .i64 a0_1, .bool a0_2] 135 (0, 0)) (by (with_reducible repeat (first | refine blk_drewN ?_ _ | refine blk_drew ?_ | refine blk_alloc ?_ _)); exact BK171.out) hb); have n1_ := Aside0.mk (blk_below (g := gb172) (o := .cells #[.int .i64 a1_0, .int .i64 a1_1, .bool a1_2] 135 (0, 0)) (by (with_reducible repeat (first | refine blk_drewN ?_ _ | refine blk_drew ?_ | refine blk_alloc ?_ _)); exact BK172.out) hb); have n2_ := Aside0.mk (below_step (by repeat (first | (with_reducible first | exact HB.out | apply below_alloc | apply pw_below_drewN | apply below_drew1 | refine below_set ?_ GE171.out | refine below_set ?_ GE172.out) | exact HB.out)) hb); have n3_ := Aside0.mk (hbox); have n4_ := Aside0.mk ((by rw [hg]; exact (below_size (by repeat (first | (with_reducible first | exact HB.out | apply below_alloc | apply pw_below_drewN | apply below_drew1 | refine below_set ?_ GE171.out | refine below_set ?_ GE172.out) | exact HB.out))) : w.heap.size ≤ gb173)); have n5_ := Aside0.mk ((by rw [hg]; exact (below_size (by repeat (first | (with_reducible first | exact HB.out | apply below_alloc | apply pw_below_drewN | apply below_drew1 | refine below_set ?_ GE171.out | refine below_set ?_ GE172.out) | exact HB.out))) : w.heap.size ≤ gb173)); have n6_ := Aside0.mk ((by rw [hg]; exact Nat.ne_of_lt (blk_lt (g := gb171) (o := .cells #[.int .i64 a0_0, .int .i64 a0_1, .bool a0_2] 135 (0, 0)) (by (with_reducible repeat (first | refine blk_drewN ?_ _ | refine blk_drew ?_ | refine blk_alloc ?_ _)); exact BK171.out)) : gb171 ≠ gb173)); have n7_ := Aside0.mk ((by rw [hg]; exact Nat.ne_of_gt (blk_lt (g := gb171) (o := .cells #[.int .i64 a0_0, .int .i64 a0_1, .bool a0_2] 135 (0, 0)) (by (with_reducible repeat (first | refine blk_drewN ?_ _ | refine blk_drew ?_ | refine blk_alloc ?_ _)); exact BK171.out)) : gb173 ≠ gb171)); have n8_ := Aside0.mk ((by rw [hg]; exact Nat.ne_of_lt (blk_lt (g := gb172) (o := .cells #[.int .i64 a1_0, .int .i64 a1_1, .bool a1_2] 135 (0, 0)) (by (with_reducible repeat (first | refine blk_drewN ?_ _ | refine blk_drew ?_ | refine blk_alloc ?_ _)); exact BK172.out)) : gb172 ≠ gb173)); have n9_ := Aside0.mk ((by rw [hg]; exact Nat.ne_of_gt (blk_lt (g := gb172) (o := .cells #[.int .i64 a1_0, .int .i64 a1_1, .bool a1_2] 135 (0, 0)) (by (with_reducible repeat (first | refine blk_drewN ?_ _ | refine blk_drew ?_ | refine blk_alloc ?_ _)); exact BK172.out)) : gb173 ≠ gb172)); clear BK171; clear BK172; clear HB; have BK171 := n0_; have BK172 := n1_; have HB := n2_; have BK173 := n3_; have GW173 := n4_; have GE173 := n5_; have NB171_173 := n6_; have NB173_171 := n7_; have NB172_173 := n8_; have NB173_172 := n9_; clear n0_ n1_ n2_ n3_ n4_ n5_ n6_ n7_ n8_ n9_; clear hb hbox hg; have hnb6 := NB171_172.out; have hnc6 := NB172_171.out; have hnb7 := NB171_173.out; have hnc7 := NB173_171.out; have hcz8_0 : w5.cell? ⟨gb171, 0, none⟩ = some (.int .i64 a0_0) := (blk_cell BK171.out 0).trans rfl; have hcz8_1 : w5.cell? ⟨gb171, 1, none⟩ = some (.int .i64 a0_1) := (blk_cell BK171.out 1).trans rfl; have hcz8_2 : w5.cell? ⟨gb171, 2, none⟩ = some (.bool a0_2) := (blk_cell BK171.out 2).trans rfl; have hfz8_0 := blk_frozen BK171.out 0; have hfz8_1 := blk_frozen BK171.out 1; have hfz8_2 := blk_frozen BK171.out 2; have hnb9 := NB172_173.out; have hnc9 := NB173_172.out; have hcz10_0 : w5.cell? ⟨gb172, 0, none⟩ = some (.int .i64 a1_0) := (blk_cell BK172.out 0).trans rfl; have hcz10_1 : w5.cell? ⟨gb172, 1, none⟩ = some (.int .i64 a1_1) := (blk_cell BK172.out 1).trans rfl; have hcz10_2 : w5.cell? ⟨gb172, 2, none⟩ = some (.bool a1_2) := (blk_cell BK172.out 2).trans rfl; have hfz10_0 := blk_frozen BK172.out 0; have hfz10_1 := blk_frozen BK172.out 1; have hfz10_2 := blk_frozen BK172.out 2; have hcz11_0 : w5.cell? ⟨gb173, 0, none⟩ = some (.int .i64 0) := (blk_cell BK173.out 0).trans rfl; have hcz11_1 : w5.cell? ⟨gb173, 1, none⟩ = some (.int .i64 0) := (blk_cell BK173.out 1).trans rfl; have hfz11_0 := blk_frozen BK173.out 0; have hfz11_1 := blk_frozen BK173.out 1))
  refine bodyPost_ret (results_cell_row rfl _ _ gb173 32 #[.int .i64 (wrap64 (a0_0 + a1_0)), .int .i64 (wrap64 (a0_1 + a1_1))] (0, 0) _ rfl (by (with_reducible repeat (first | refine blk_drewN ?_ _ | refine blk_drew ?_ | refine blk_alloc ?_ _)); refine blk_put (cs := #[.int .i64 (wrap64 (a0_0 + a1_0)), .int .i64 0]) ?_ 1 _ rfl; (with_reducible repeat (first | refine blk_drewN ?_ _ | refine blk_drew ?_ | refine blk_alloc ?_ _)); refine blk_put (cs := #[.int .i64 0, .int .i64 0]) ?_ 0 _ rfl; (with_reducible repeat (first | refine blk_drewN ?_ _ | refine blk_drew ?_ | refine blk_alloc ?_ _)); exact BK173.out) Try.underlying32 rfl (by kernel_rfl)) rfl ?_
  exact ⟨by first | rfl | (simp [errW_none, errW_some] <;> rfl) | (simp [*, errW_none, errW_some] <;> rfl), by repeat (first | (with_reducible first | exact HB.out | apply below_alloc | apply pw_below_drewN | apply below_drew1 | refine below_set ?_ GE171.out | refine below_set ?_ GE172.out | refine below_set ?_ GE173.out) | exact HB.out)⟩
end Go.Proofs.Ytlljpjbhndcaiaa.Q
end
section
namespace Go.Proofs.Ytlljpjbhndcaiaa.Q
open Go.RowKit Go.Proofs.YtlljpjbhndcaiaaW.PrintWords Go.Proofs.YtlljpjbhndcaiaaW.PrintLast Go.Proofs.YtlljpjbhndcaiaaW.PrintMore
attribute [local go_sem] max2_int min2_int max_two min_two max_three min_three max_four min_four
set_option linter.unusedVariables false
set_option linter.unusedSimpArgs false
def path_at.f (a0_0 : Int) (a0_1 : Int) (a0_2 : Bool) : Option (Int × Int) := some (wrap64 (2 * a0_0), wrap64 (2 * a0_1))
set_option maxHeartbeats 8000000 in
set_option maxRecDepth 100000 in
theorem path_at.calls (a0_0 : Int) (a0_1 : Int) (a0_2 : Bool) (r1 : Int) (r2 : Int) (w : World) (h : path_at.f a0_0 a0_1 a0_2 = some (r1, r2)) :
    Calls Try.prog 90 #[.agg #[.int .i64 a0_0, .int .i64 a0_1, .bool a0_2]] w fun e w' => e = .returned (.agg #[.int .i64 r1, .int .i64 r2]) ∧ Below w.heap.size w w' := by
  have hu135 := Try.underlying135
  have hu32 := Try.underlying32
  have HB := Aside0.mk (Below.refl w.heap.size w)
  have H : (some (wrap64 (2 * a0_0), wrap64 (2 * a0_1))) = some (r1, r2) := h
  clear h
  simp only [Option.some.injEq, Prod.mk.injEq] at H
  obtain ⟨rfl, rfl⟩ := H
  go_enter Try.func90, Try.ntmps90
  go_wp2_with (first | ((with_reducible refine gate_dst (N := 1) rfl ?_); refine box_event ?hg (N := 1) ?hd (cs := #[.int .i64 a0_0, .int .i64 a0_1, .bool a0_2]) (t := 135) ?hr ?_; (case hd => rfl); (case hg => rfl); (case hr => first | (go_simp; done) | (go_simp; rfl)); intro gb174 hg w2 hbox hb; have n0_ := Aside0.mk (below_step (by repeat (first | (with_reducible first | exact HB.out | apply below_alloc | apply pw_below_drewN | apply below_drew1) | exact HB.out)) hb); have n1_ := Aside0.mk (hbox); have n2_ := Aside0.mk ((by rw [hg]; exact (below_size (by repeat (first | (with_reducible first | exact HB.out | apply below_alloc | apply pw_below_drewN | apply below_drew1) | exact HB.out))) : w.heap.size ≤ gb174)); have n3_ := Aside0.mk ((by rw [hg]; exact (below_size (by repeat (first | (with_reducible first | exact HB.out | apply below_alloc | apply pw_below_drewN | apply below_drew1) | exact HB.out))) : w.heap.size ≤ gb174)); clear HB; have HB := n0_; have BK174 := n1_; have GW174 := n2_; have GE174 := n3_; clear n0_ n1_ n2_ n3_; clear hb hbox hg) | ((with_reducible refine gate_dst (N := 2) rfl ?_); refine box_event ?hg (N := 2) ?hd (cs := #[.int .i64 0, .int .i64 0]) (t := 32) ?hr ?_; (case hd => rfl); (case hg => rfl); (case hr => first | (go_simp; done) | (go_simp; rfl)); intro gb175 hg w3 hbox hb; have n0_ := Aside0.mk (blk_below (g := gb174) (o := .cells #[.int .i64 a0_0, .int .i64 a0_1, .bool a0_2] 135 (0, 0)) (by (with_reducible repeat (first | refine blk_drewN ?_ _ | refine blk_drew ?_ | refine blk_alloc ?_ _)); exact BK174.out) hb); have n1_ := Aside0.mk (below_step (by repeat (first | (with_reducible first | exact HB.out | apply below_alloc | apply pw_below_drewN | apply below_drew1 | refine below_set ?_ GE174.out) | exact HB.out)) hb); have n2_ := Aside0.mk (hbox); have n3_ := Aside0.mk ((by rw [hg]; exact (below_size (by repeat (first | (with_reducible first | exact HB.out | apply below_alloc | apply pw_below_drewN | apply below_drew1 | refine below_set ?_ GE174.out) | exact HB.out))) : w.heap.size ≤ gb175)); have n4_ := Aside0.mk ((by rw [hg]; exact (below_size (by repeat (first | (with_reducible first | exact HB.out | apply below_alloc | apply pw_below_drewN | apply below_drew1 | refine below_set ?_ GE174.out) | exact HB.out))) : w.heap.size ≤ gb175)); have n5_ := Aside0.mk ((by rw [hg]; exact Nat.ne_of_lt (blk_lt (g := gb174) (o := .cells #[.int .i64 a0_0, .int .i64 a0_1, .bool a0_2] 135 (0, 0)) (by (with_reducible repeat (first | refine blk_drewN ?_ _ | refine blk_drew ?_ | refine blk_alloc ?_ _)); exact BK174.out)) : gb174 ≠ gb175)); have n6_ := Aside0.mk ((by rw [hg]; exact Nat.ne_of_gt (blk_lt (g := gb174) (o := .cells #[.int .i64 a0_0, .int .i64 a0_1, .bool a0_2] 135 (0, 0)) (by (with_reducible repeat (first | refine blk_drewN ?_ _ | refine blk_drew ?_ | refine blk_alloc ?_ _)); exact BK174.out)) : gb175 ≠ gb174)); clear BK174; clear HB; have BK174 := n0_; have HB := n1_; have BK175 := n2_; have GW175 := n3_; have GE175 := n4_; have NB174_175 := n5_; have NB175_174 := n6_; clear n0_ n1_ n2_ n3_ n4_ n5_ n6_; clear hb hbox hg; have hnb4 := NB174_175.out; have hnc4 := NB175_174.out; have hcz5_0 : w3.cell? ⟨gb174, 0, none⟩ = some (.int .i64 a0_0) := (blk_cell BK174.out 0).trans rfl; have hcz5_1 : w3.cell? ⟨gb174, 1, none⟩ = some (.int .i64 a0_1) := (blk_cell BK174.out 1).trans rfl; have hcz5_2 : w3.cell? ⟨gb174, 2, none⟩ = some (.bool a0_2) := (blk_cell BK174.out 2).trans rfl; have hfz5_0 := blk_frozen BK174.out 0; have hfz5_1 := blk_frozen BK174.out 1; have hfz5_2 := blk_frozen BK174.out 2; have hcz6_0 : w3.cell? ⟨gb175, 0, none⟩ = some (.int .i64 0) := (blk_cell BK175.out 0).trans rfl; have hcz6_1 : w3.cell? ⟨gb175, 1, none⟩ = some (.int .i64 0) := (blk_cell BK175.out 1).trans rfl; have hfz6_0 := blk_frozen BK175.out 0; have hfz6_1 := blk_frozen BK175.out 1))
  refine bodyPost_ret (results_cell_row rfl _ _ gb175 32 #[.int .i64 (wrap64 (2 * a0_0)), .int .i64 (wrap64 (2 * a0_1))] (0, 0) _ rfl (by (with_reducible repeat (first | refine blk_drewN ?_ _ | refine blk_drew ?_ | refine blk_alloc ?_ _)); refine blk_put (cs := #[.int .i64 (wrap64 (2 * a0_0)), .int .i64 0]) ?_ 1 _ rfl; (with_reducible repeat (first | refine blk_drewN ?_ _ | refine blk_drew ?_ | refine blk_alloc ?_ _)); refine blk_put (cs := #[.int .i64 0, .int .i64 0]) ?_ 0 _ rfl; (with_reducible repeat (first | refine blk_drewN ?_ _ | refine blk_drew ?_ | refine blk_alloc ?_ _)); exact BK175.out) Try.underlying32 rfl (by kernel_rfl)) rfl ?_
  exact ⟨by first | rfl | (simp [errW_none, errW_some] <;> rfl) | (simp [*, errW_none, errW_some] <;> rfl), by repeat (first | (with_reducible first | exact HB.out | apply below_alloc | apply pw_below_drewN | apply below_drew1 | refine below_set ?_ GE174.out | refine below_set ?_ GE175.out) | exact HB.out)⟩
end Go.Proofs.Ytlljpjbhndcaiaa.Q
end
section
namespace Go.Proofs.Ytlljpjbhndcaiaa.Q
open Go.RowKit Go.Proofs.YtlljpjbhndcaiaaW.PrintWords Go.Proofs.YtlljpjbhndcaiaaW.PrintLast Go.Proofs.YtlljpjbhndcaiaaW.PrintMore
attribute [local go_sem] max2_int min2_int max_two min_two max_three min_three max_four min_four
set_option linter.unusedVariables false
set_option linter.unusedSimpArgs false
theorem path_i143 : (Try.prog.info? 143).map (fun i => (i.zero, i.size, i.bytes)) = some (some (.agg #[.int .i64 0, .int .i64 0, .int .i64 0, .int .i64 0, .int .i64 0, .int .i64 0, .bool false]), 7, 56) := by kernel_rfl
def path_Keep (g g' : Nat) (w W : World) : Prop := w.heap.size ≤ W.heap.size ∧ ∀ b cs t, w.heap[b]? = some (.cells cs t (0, 0)) → t ≠ 143 → b ≠ g → b ≠ g' → W.heap[b]? = some (.cells cs t (0, 0))
theorem path_Keep.refl (g g' : Nat) (w : World) : path_Keep g g' w w := ⟨Nat.le_refl _, fun _ _ _ h _ _ _ => h⟩
theorem path_Keep.below {g g' : Nat} {w W W' : World} (h : path_Keep g g' w W) (hb : Below W.heap.size W W') : path_Keep g g' w W' :=
  ⟨Nat.le_trans h.1 hb.size, fun b cs t h1 h2 h3 h4 => by
    have := h.2 b cs t h1 h2 h3 h4
    exact (hb.block _ (Array.getElem?_eq_some_iff.1 this).1).trans this⟩
theorem path_Keep.grown {g g' : Nat} {w W W' : World} {v : Value} {xs : List S143} {base : Nat} {ok : Nat → Prop} (h : path_Keep g g' w W) (hR : Kd.R k143 143 W base ok v xs) (hg : W.grownBy W' v.ownBlock) : path_Keep g g' w W' :=
  ⟨Nat.le_trans h.1 hg.size, fun b cs t h1 h2 h3 h4 => by
    have := h.2 b cs t h1 h2 h3 h4
    exact (hg.block _ (Array.getElem?_eq_some_iff.1 this).1 (Kd.R_ne hR this (fun hh => h2 hh.symm))).trans this⟩
theorem path_Keep.set {g g' q o : Nat} {w W : World} (h : path_Keep g g' w W) (hq : q = g ∨ q = g') (u : Value) : path_Keep g g' w (W.setCell ⟨q, o, none⟩ u) :=
  ⟨by simpa using h.1, fun b cs t h1 h2 h3 h4 => hset (h.2 b cs t h1 h2 h3 h4) (by rcases hq with rfl | rfl <;> assumption) u⟩
def path_seg (here : S32) (pull : Option S135) (p : S32) : S143 :=
  match pull with
  | none => ⟨here, here, p, false⟩
  | some v => ⟨here, ⟨wrap64 (2 * v.f0), wrap64 (2 * v.f1)⟩, p, true⟩
def path_St (base go gh gp : Nat) (w0 : World) (v : Value) (xs : List S143) (here : S32) (pull : Option S135) (W : World) : Prop :=
  W.heap[go]? = some (.cells #[v] 128 (0, 0)) ∧ Kd.R k143 143 W base (fun _ => True) v xs ∧ Below base w0 W ∧ W.heap[gh]? = some (.cells #[.int .i64 here.f0, .int .i64 here.f1] 32 (0, 0)) ∧
    match pull with
    | none => W.heap[gp]? = some (.cells #[.pointer none] 147 (0, 0))
    | some q => ∃ gv, W.heap[gp]? = some (.cells #[.pointer (some ⟨gv, 0, none⟩)] 147 (0, 0)) ∧ W.heap[gv]? = some (.cells #[.int .i64 q.f0, .int .i64 q.f1, .bool q.f2] 135 (0, 0))
def path_Put (base go gh gp : Nat) (w0 w : World) (ys : List S143) (p : S32) (pull : Option S135) (e : Ending) (w' : World) : Prop :=
  ∃ v' : Value, e = .returned (.tuple #[]) ∧ Aside0 (path_St base go gh gp w0 v' ys p pull w') ∧ Aside0 (path_Keep go gh w w')
theorem path_St.mk' {base go gh gp : Nat} {w0 w W' : World} {v v' : Value} {xs ys : List S143} {here p : S32} {pull : Option S135} (h : path_St base go gh gp w0 v xs here pull w) (hne : go ≠ gp ∧ gh ≠ gp) (hgv : True) (hk : path_Keep go gh w W')
    (h1 : W'.heap[go]? = some (.cells #[v'] 128 (0, 0))) (h2 : Kd.R k143 143 W' base (fun _ => True) v' ys) (h3 : Below base w0 W') (h4 : W'.heap[gh]? = some (.cells #[.int .i64 p.f0, .int .i64 p.f1] 32 (0, 0))) : path_St base go gh gp w0 v' ys p pull W' := by
  obtain ⟨a1, a2, a3, a4, a5⟩ := h
  refine ⟨h1, h2, h3, h4, ?_⟩
  cases pull with
  | none => exact hk.2 _ _ _ a5 (by decide) hne.1.symm hne.2.symm
  | some q =>
    obtain ⟨gv, b1, b2⟩ := a5
    refine ⟨gv, hk.2 _ _ _ b1 (by decide) hne.1.symm hne.2.symm, hk.2 _ _ _ b2 (by decide) ?_ ?_⟩
    · rintro rfl; rw [a1] at b2; simp at b2
    · rintro rfl; rw [a4] at b2; simp at b2
set_option maxHeartbeats 2000000 in
theorem path_end_none (px py : Int) (base go gh gp : Nat) (v : Value) (xs : List S143) (here : S32) (w0 w : World) (h : path_St base go gh gp w0 v xs here none w) (hne : go ≠ gp ∧ gh ≠ gp) (hgg : go ≠ gh) (hb : base ≤ go) (hbh : base ≤ gh) (hl : (xs.length + 1) * 56 ≤ 140737488355328) :
    Calls Try.prog 91 #[.agg #[.int .i64 px, .int .i64 py], .pointer (some ⟨gp, 0, none⟩), .pointer (some ⟨go, 0, none⟩), .pointer (some ⟨gh, 0, none⟩)] w
      (path_Put base go gh gp w0 w (xs ++ [path_seg here none ⟨px, py⟩]) ⟨px, py⟩ none) := by
  have H := Aside0.mk h
  obtain ⟨hgo, hR, hB, hgh, hgp⟩ := h
  have hgol := (Array.getElem?_eq_some_iff.1 hgo).1
  have hghl := (Array.getElem?_eq_some_iff.1 hgh).1
  obtain ⟨W0, e0, e1, f0, f1, a0, z0, q0, hs, HB, HR0, HK, hsz, hbx, hgo0, hgh0, hW0⟩ : ∃ W0 : World, W0.cell? ⟨w.heap.size, 0, none⟩ = some (.int .i64 px) ∧ W0.cell? ⟨w.heap.size, 1, none⟩ = some (.int .i64 py) ∧ W0.cell? ⟨gh, 0, none⟩ = some (.int .i64 here.f0) ∧ W0.cell? ⟨gh, 1, none⟩ = some (.int .i64 here.f1)
      ∧ W0.cell? ⟨go, 0, none⟩ = some v ∧ W0.frozen? ⟨go, 0, none⟩ = false ∧ W0.cell? ⟨gp, 0, none⟩ = some (.pointer none) ∧ base ≤ W0.heap.size ∧ Aside0 (Below base w0 W0) ∧ Aside0 (Kd.R k143 143 W0 base (fun _ => True) v xs) ∧ Aside0 (path_Keep go gh w W0) ∧ w.heap.size < W0.heap.size ∧ Aside0 (W0.heap[w.heap.size]? = some (.cells #[.int .i64 px, .int .i64 py] 32 (0, 0))) ∧ Aside0 (W0.heap[go]? = some (.cells #[v] 128 (0, 0))) ∧ Aside0 (W0.heap[gh]? = some (.cells #[.int .i64 here.f0, .int .i64 here.f1] 32 (0, 0))) ∧
      W0 = (w.alloc (.cells #[.int .i64 px, .int .i64 py] 32)) := by
    obtain ⟨q, z⟩ := cells1 hgo
    obtain ⟨q', _⟩ := cells1 hgp
    obtain ⟨r0, r1, _, _⟩ := cells2 hgh
    exact ⟨_, by go_simp, by go_simp, calloc r0 _, calloc r1 _, calloc q _, falloc q z _, calloc q' _, by simp; omega, ⟨hB.alloc (by omega) _⟩, ⟨Kd.R_below hR (balloc (Below.refl _ _) _)⟩, ⟨(path_Keep.refl _ _ _).below (balloc (Below.refl _ _) _)⟩, by simp, ⟨hnew _ _ rfl⟩, ⟨halloc hgo _⟩, ⟨halloc hgh _⟩, rfl⟩
  have HL := Aside0.mk hl
  clear hl hR hB hgo hgh hgp
  go_enter Try.func91, Try.ntmps91
  go_upto_region 1 with fail
  rw [← hW0]
  clear hW0
  go_wp2_with ((at_builtin; refine Kd.R_append k143 (w0 := w0) base rfl (.tmp 7) (.tmp 12) 128 143 (.agg #[.int .i64 0, .int .i64 0, .int .i64 0, .int .i64 0, .int .i64 0, .int .i64 0, .bool false]) 56 rfl Try.underlying128 path_i143 rfl (by decide) (by omega) v xs (path_seg here none ⟨px, py⟩) [.int .i64 here.f0, .int .i64 here.f1, .int .i64 here.f0, .int .i64 here.f1, .int .i64 px, .int .i64 py, .bool false] (fun _ => True) (fun _ => False) rfl (by first | (go_simp; done) | (go_simp; rfl)) (k143_mkM _ _ _ _) (fun _ hk => hk.elim) (fun _ _ => trivial) HR0.out HB.out (by simpa using hs) HL.out ?_; intro v1 w1 ho hb1 hgr hat; obtain ⟨A1, k1, rfl⟩ := Kd.R_slice ho; simp only [List.length_append, List.length_cons, List.length_nil, Nat.zero_add] at ho; have hk1 := HK.out.grown HR0.out hgr; have hg1 := (hgr.block go (by omega) (Kd.R_ne HR0.out hgo0.out (by decide))).trans hgo0.out; have hg2 := (hgr.block gh (by omega) (Kd.R_ne HR0.out hgh0.out (by decide))).trans hgh0.out; obtain ⟨q1, z1⟩ := cells1 hg1; obtain ⟨r0, r1, z2, z3⟩ := cells2 hg2; have hpx := (hgr.cell_far ⟨w.heap.size, 0, none⟩ (by omega) (Kd.R_ne HR0.out hbx.out (by decide))).trans e0; have hpy := (hgr.cell_far ⟨w.heap.size, 1, none⟩ (by omega) (Kd.R_ne HR0.out hbx.out (by decide))).trans e1; have HO := Aside0.mk ho; have HB1 := Aside0.mk hb1; have HK1 := Aside0.mk hk1; have HG1 := Aside0.mk hg1; have HG2 := Aside0.mk hg2; clear ho hb1 hgr hat hg1 hg2 hk1))
  go_end0
  have hk := ((HK1.out.set (o := 0) (.inl rfl) (.slice A1 (xs.length + 1) k1)).set (o := 0) (.inr rfl) (.int .i64 px)).set (o := 1) (.inr rfl) (.int .i64 py)
  have hgo2 := hset1 (x := .slice A1 (xs.length + 1) k1) HG1.out
  have hgh2 := hset (o := 0) HG2.out hgg.symm (.slice A1 (xs.length + 1) k1)
  have r1 := Kd.R_set HO.out HG1.out (by decide) 0 (.slice A1 (xs.length + 1) k1)
  have r2 := Kd.R_set r1 hgh2 (by decide) 0 (.int .i64 px)
  have r3 := Kd.R_set r2 (hset0 hgh2) (by decide) 1 (.int .i64 py)
  exact ⟨_, rfl, ⟨path_St.mk' H.out hne trivial hk (hset (hset hgo2 hgg _) hgg _) r3 (((HB1.out.setCell (p := ⟨go, 0, none⟩) hb _).setCell (p := ⟨gh, 0, none⟩) hbh _).setCell (p := ⟨gh, 1, none⟩) hbh _) (hset2 hgh2)⟩, ⟨hk⟩⟩
theorem path_cells3 {W : World} {g t : Nat} {a b c : Value} (h : W.heap[g]? = some (.cells #[a, b, c] t (0, 0))) : W.cell? ⟨g, 0, none⟩ = some a ∧ W.cell? ⟨g, 1, none⟩ = some b ∧ W.cell? ⟨g, 2, none⟩ = some c := by
  refine ⟨?_, ?_, ?_⟩ <;> simp [World.cell?, h]
set_option maxHeartbeats 8000000 in
set_option maxRecDepth 100000 in
theorem path_end_some (px py : Int) (base go gh gp : Nat) (v : Value) (xs : List S143) (here : S32) (q : S135) (w0 w : World) (h : path_St base go gh gp w0 v xs here (some q) w) (hne : go ≠ gp ∧ gh ≠ gp) (hgg : go ≠ gh) (hb : base ≤ go) (hbh : base ≤ gh) (hl : (xs.length + 1) * 56 ≤ 140737488355328) :
    Calls Try.prog 91 #[.agg #[.int .i64 px, .int .i64 py], .pointer (some ⟨gp, 0, none⟩), .pointer (some ⟨go, 0, none⟩), .pointer (some ⟨gh, 0, none⟩)] w
      (path_Put base go gh gp w0 w (xs ++ [path_seg here (some q) ⟨px, py⟩]) ⟨px, py⟩ (some q)) := by
  have H := Aside0.mk h
  obtain ⟨hgo, hR, hB, hgh, gv, hgp, hgv⟩ := h
  have hgol := (Array.getElem?_eq_some_iff.1 hgo).1
  have hghl := (Array.getElem?_eq_some_iff.1 hgh).1
  have hgvo : gv ≠ go := by rintro rfl; rw [hgo] at hgv; simp at hgv
  have hbxo : w.heap.size ≠ go := by omega
  obtain ⟨W0, q0, hbase, HB0, HR0, hK0, hbx, hgo0, hgh0, hgp0, hgv0, hW0⟩ : ∃ W0 : World, W0.cell? ⟨gp, 0, none⟩ = some (.pointer (some ⟨gv, 0, none⟩)) ∧ base ≤ W0.heap.size ∧ Aside0 (Below base w0 W0) ∧ Aside0 (Kd.R k143 143 W0 base (fun _ => True) v xs) ∧ Aside0 (path_Keep go gh w W0) ∧ Aside0 (W0.heap[w.heap.size]? = some (.cells #[.int .i64 px, .int .i64 py] 32 (0, 0))) ∧ Aside0 (W0.heap[go]? = some (.cells #[v] 128 (0, 0))) ∧ Aside0 (W0.heap[gh]? = some (.cells #[.int .i64 here.f0, .int .i64 here.f1] 32 (0, 0))) ∧ Aside0 (W0.heap[gp]? = some (.cells #[.pointer (some ⟨gv, 0, none⟩)] 147 (0, 0))) ∧ Aside0 (W0.heap[gv]? = some (.cells #[.int .i64 q.f0, .int .i64 q.f1, .bool q.f2] 135 (0, 0))) ∧
      W0 = (w.alloc (.cells #[.int .i64 px, .int .i64 py] 32)) := by
    obtain ⟨q', _⟩ := cells1 hgp
    exact ⟨_, calloc q' _, by simp; omega, ⟨hB.alloc (by omega) _⟩, ⟨Kd.R_below hR (balloc (Below.refl _ _) _)⟩, ⟨(path_Keep.refl _ _ _).below (balloc (Below.refl _ _) _)⟩, ⟨hnew _ _ rfl⟩, ⟨halloc hgo _⟩, ⟨halloc hgh _⟩, ⟨halloc hgp _⟩, ⟨halloc hgv _⟩, rfl⟩
  have HK0 := Aside0.mk (path_Keep.refl go go W0)
  have HL := Aside0.mk hl
  clear hl hR hB hgo hgh hgp hgv
  go_enter Try.func91, Try.ntmps91
  go_upto_region 1 with fail
  rw [← hW0]
  clear hW0
  go_upto_region 3 with fail
  refine region_inv (n := 11) (by kernel_rfl) [[], [], [], [2], [3], [4], [], [1, 5, 6], [7], [0, 8], [0, 1, 2, 3, 4, 5, 6, 7, 8, 9]] (fun l a W => ∃ v14 v15 v16 v17 v18 v19 v20 v21 v22 v23 : Value, a = ({ tmps := #[.agg #[.int .i64 px, .int .i64 py], .pointer (some ⟨gp, 0, none⟩), .pointer (some ⟨go, 0, none⟩), .pointer (some ⟨gh, 0, none⟩), .pointer (some ⟨w.heap.size, 0, none⟩), .pointer (some ⟨gv, 0, none⟩), .bool false, undef, undef, undef, undef, undef, undef, undef, v14, v15, v16, v17, v18, v19, v20, v21, v22, v23, undef], defers := [] } : Act) ∧ path_Keep go go W0 W ∧ Below base w0 W ∧ (l.getD 0 false = true → v14 = v) ∧ (l.getD 1 false = true → v15 = .agg #[.int .i64 here.f0, .int .i64 here.f1]) ∧ (l.getD 2 false = true → v16 = .pointer (some ⟨gv, 0, none⟩)) ∧ (l.getD 3 false = true → v17 = .pointer (some ⟨gv, 0, none⟩)) ∧ (l.getD 4 false = true → v18 = .agg #[.int .i64 q.f0, .int .i64 q.f1, .bool q.f2]) ∧ (l.getD 5 false = true → v19 = .agg #[.int .i64 (wrap64 (2 * q.f0)), .int .i64 (wrap64 (2 * q.f1))]) ∧ (l.getD 6 false = true → v20 = .agg #[.int .i64 px, .int .i64 py]) ∧ (l.getD 7 false = true → v21 = .agg #[.int .i64 here.f0, .int .i64 here.f1, .int .i64 (wrap64 (2 * q.f0)), .int .i64 (wrap64 (2 * q.f1)), .int .i64 px, .int .i64 py, .bool true]) ∧ (l.getD 10 false = false → W.heap[go]? = some (.cells #[v] 128 (0, 0))) ∧ (l.getD 8 false = false → Kd.R k143 143 W base (fun _ => True) v xs) ∧ (l.getD 8 false = true → l.getD 9 false = false → ∃ W' : World, W = W'.alloc (.cells #[.int .i64 here.f0, .int .i64 here.f1, .int .i64 (wrap64 (2 * q.f0)), .int .i64 (wrap64 (2 * q.f1)), .int .i64 px, .int .i64 py, .bool true] 143) ∧ Kd.R k143 143 W' base (fun _ => True) v xs ∧ Below base w0 W' ∧ base ≤ W'.heap.size ∧ path_Keep go go W0 W' ∧ W'.heap[go]? = some (.cells #[v] 128 (0, 0)) ∧ v22 = .slice (some ⟨W'.heap.size, 0, none⟩) 1 1) ∧ (l.getD 9 false = true → l.getD 10 false = false → ∃ A1 k1, v23 = .slice A1 (xs.length + 1) k1 ∧ Kd.R k143 143 W base (fun _ => True) (.slice A1 (xs.length + 1) k1) (xs ++ [path_seg here (some q) ⟨px, py⟩])) ∧ (l.getD 10 false = true → ∃ v1, W.heap[go]? = some (.cells #[v1] 128 (0, 0)) ∧ Kd.R k143 143 W base (fun _ => True) v1 (xs ++ [path_seg here (some q) ⟨px, py⟩])) ∧ (l.getD 9 false = true → l.getD 8 false = true) ∧ (l.getD 10 false = true → l.getD 9 false = true) ∧ (l.getD 10 false = true → l.getD 0 false = true) ∧ (l.getD 8 false = true → l.getD 5 false = true) ∧ (l.getD 7 false = true → l.getD 5 false = true)) rfl (by kernel_rfl) ?_ ⟨?_, ?_, ?_, ?_, ?_, ?_, ?_, ?_, ?_, ?_, ?_, trivial⟩ ?_
  · exact ⟨_, _, _, _, _, _, _, _, _, _, rfl, HK0.out.below (bdrew (Below.refl _ _)), HB0.out.drew, fun h => (by cases h), fun h => (by cases h), fun h => (by cases h), fun h => (by cases h), fun h => (by cases h), fun h => (by cases h), fun h => (by cases h), fun h => (by cases h), fun _ => hgo0.out, fun _ => Kd.R_below HR0.out (bdrew (Below.refl _ _)), fun h => (by cases h), fun h => (by cases h), fun h => (by cases h), fun h => (by cases h), fun h => (by cases h), fun h => (by cases h), fun h => (by cases h), fun h => (by cases h)⟩
  · rintro l a W hl ⟨v14, v15, v16, v17, v18, v19, v20, v21, v22, v23, rfl, HK, HB, h0, h1, h2, h3, h4, h5, h6, h7, hA, hR0, hR8, hR9, hF, o98, oA9, oA0, o85, o75⟩ hi hT K hK
    match l, hl with
    | [b0, b1, b2, b3, b4, b5, b6, b7, b8, b9, b10], _ =>
    have HKK := Aside0.mk hK
    clear hK
    obtain rfl : b10 = false := (by cases b10 with | false => rfl | true => exact (Bool.false_ne_true (hi.symm.trans (oA0 rfl))).elim)
    obtain ⟨c0, _⟩ := cells1 (hA rfl)
    have HA := Aside0.mk hA; have HR0' := Aside0.mk hR0; have HR8 := Aside0.mk hR8; have HR9 := Aside0.mk hR9; have HF := Aside0.mk hF; have O98 := Aside0.mk o98; have OA9 := Aside0.mk oA9; have OA0 := Aside0.mk oA0; have O85 := Aside0.mk o85; have O75 := Aside0.mk o75; have HK1 := Aside0.mk HK; have HB1 := Aside0.mk HB
    clear hA hR0 hR8 hR9 hF o98 oA9 oA0 o85 o75 HK HB
    go_wp2_with fail
    exact HKK.out _ _ ⟨_, _, _, _, _, _, _, _, _, _, rfl, HK1.out, HB1.out, fun _ => rfl, h1, h2, h3, h4, h5, h6, h7, HA.out, HR0'.out, HR8.out, HR9.out, HF.out, O98.out, OA9.out, fun _ => rfl, O85.out, O75.out⟩
  · rintro l a W hl ⟨v14, v15, v16, v17, v18, v19, v20, v21, v22, v23, rfl, HK, HB, h0, h1, h2, h3, h4, h5, h6, h7, hA, hR0, hR8, hR9, hF, o98, oA9, oA0, o85, o75⟩ hi hT K hK
    match l, hl with
    | [b0, b1, b2, b3, b4, b5, b6, b7, b8, b9, b10], _ =>
    have HKK := Aside0.mk hK
    clear hK
    obtain ⟨c0, c1, _, _⟩ := cells2 (HK.2 _ _ _ hgh0.out (by decide) hgg.symm hgg.symm)
    have HA := Aside0.mk hA; have HR0' := Aside0.mk hR0; have HR8 := Aside0.mk hR8; have HR9 := Aside0.mk hR9; have HF := Aside0.mk hF; have O98 := Aside0.mk o98; have OA9 := Aside0.mk oA9; have OA0 := Aside0.mk oA0; have O85 := Aside0.mk o85; have O75 := Aside0.mk o75; have HK1 := Aside0.mk HK; have HB1 := Aside0.mk HB
    clear hA hR0 hR8 hR9 hF o98 oA9 oA0 o85 o75 HK HB
    go_wp2_with fail
    exact HKK.out _ _ ⟨_, _, _, _, _, _, _, _, _, _, rfl, HK1.out, HB1.out, h0, fun _ => rfl, h2, h3, h4, h5, h6, h7, HA.out, HR0'.out, HR8.out, HR9.out, HF.out, O98.out, OA9.out, OA0.out, O85.out, O75.out⟩
  · rintro l a W hl ⟨v14, v15, v16, v17, v18, v19, v20, v21, v22, v23, rfl, HK, HB, h0, h1, h2, h3, h4, h5, h6, h7, hA, hR0, hR8, hR9, hF, o98, oA9, oA0, o85, o75⟩ hi hT K hK
    match l, hl with
    | [b0, b1, b2, b3, b4, b5, b6, b7, b8, b9, b10], _ =>
    have HKK := Aside0.mk hK
    clear hK
    obtain ⟨c0, _⟩ := cells1 (HK.2 _ _ _ hgp0.out (by decide) hne.1.symm hne.1.symm)
    have HA := Aside0.mk hA; have HR0' := Aside0.mk hR0; have HR8 := Aside0.mk hR8; have HR9 := Aside0.mk hR9; have HF := Aside0.mk hF; have O98 := Aside0.mk o98; have OA9 := Aside0.mk oA9; have OA0 := Aside0.mk oA0; have O85 := Aside0.mk o85; have O75 := Aside0.mk o75; have HK1 := Aside0.mk HK; have HB1 := Aside0.mk HB
    clear hA hR0 hR8 hR9 hF o98 oA9 oA0 o85 o75 HK HB
    go_wp2_with fail
    exact HKK.out _ _ ⟨_, _, _, _, _, _, _, _, _, _, rfl, HK1.out, HB1.out, h0, h1, fun _ => rfl, h3, h4, h5, h6, h7, HA.out, HR0'.out, HR8.out, HR9.out, HF.out, O98.out, OA9.out, OA0.out, O85.out, O75.out⟩
  · rintro l a W hl ⟨v14, v15, v16, v17, v18, v19, v20, v21, v22, v23, rfl, HK, HB, h0, h1, h2, h3, h4, h5, h6, h7, hA, hR0, hR8, hR9, hF, o98, oA9, oA0, o85, o75⟩ hi hT K hK
    match l, hl with
    | [b0, b1, b2, b3, b4, b5, b6, b7, b8, b9, b10], _ =>
    have HKK := Aside0.mk hK
    clear hK
    obtain rfl := (h2 (hT 2 (by decide))).symm
    have HA := Aside0.mk hA; have HR0' := Aside0.mk hR0; have HR8 := Aside0.mk hR8; have HR9 := Aside0.mk hR9; have HF := Aside0.mk hF; have O98 := Aside0.mk o98; have OA9 := Aside0.mk oA9; have OA0 := Aside0.mk oA0; have O85 := Aside0.mk o85; have O75 := Aside0.mk o75; have HK1 := Aside0.mk HK; have HB1 := Aside0.mk HB
    clear hA hR0 hR8 hR9 hF o98 oA9 oA0 o85 o75 HK HB
    go_wp2_with fail
    exact HKK.out _ _ ⟨_, _, _, _, _, _, _, _, _, _, rfl, HK1.out, HB1.out, h0, h1, fun _ => rfl, fun _ => rfl, h4, h5, h6, h7, HA.out, HR0'.out, HR8.out, HR9.out, HF.out, O98.out, OA9.out, OA0.out, O85.out, O75.out⟩
  · rintro l a W hl ⟨v14, v15, v16, v17, v18, v19, v20, v21, v22, v23, rfl, HK, HB, h0, h1, h2, h3, h4, h5, h6, h7, hA, hR0, hR8, hR9, hF, o98, oA9, oA0, o85, o75⟩ hi hT K hK
    match l, hl with
    | [b0, b1, b2, b3, b4, b5, b6, b7, b8, b9, b10], _ =>
    have HKK := Aside0.mk hK
    clear hK
    obtain rfl := (h3 (hT 3 (by decide))).symm
    obtain ⟨c0, c1, c2⟩ := path_cells3 (HK.2 _ _ _ hgv0.out (by decide) hgvo hgvo)
    have HA := Aside0.mk hA; have HR0' := Aside0.mk hR0; have HR8 := Aside0.mk hR8; have HR9 := Aside0.mk hR9; have HF := Aside0.mk hF; have O98 := Aside0.mk o98; have OA9 := Aside0.mk oA9; have OA0 := Aside0.mk oA0; have O85 := Aside0.mk o85; have O75 := Aside0.mk o75; have HK1 := Aside0.mk HK; have HB1 := Aside0.mk HB
    clear hA hR0 hR8 hR9 hF o98 oA9 oA0 o85 o75 HK HB
    go_wp2_with fail
    exact HKK.out _ _ ⟨_, _, _, _, _, _, _, _, _, _, rfl, HK1.out, HB1.out, h0, h1, h2, fun _ => rfl, fun _ => rfl, h5, h6, h7, HA.out, HR0'.out, HR8.out, HR9.out, HF.out, O98.out, OA9.out, OA0.out, O85.out, O75.out⟩
  · rintro l a W hl ⟨v14, v15, v16, v17, v18, v19, v20, v21, v22, v23, rfl, HK, HB, h0, h1, h2, h3, h4, h5, h6, h7, hA, hR0, hR8, hR9, hF, o98, oA9, oA0, o85, o75⟩ hi hT K hK
    match l, hl with
    | [b0, b1, b2, b3, b4, b5, b6, b7, b8, b9, b10], _ =>
    have HKK := Aside0.mk hK
    clear hK
    obtain rfl := (h4 (hT 4 (by decide))).symm
    obtain rfl : b5 = false := hi
    obtain rfl : b8 = false := (by cases b8 with | false => rfl | true => exact (Bool.false_ne_true (o85 rfl)).elim)
    obtain rfl : b9 = false := (by cases b9 with | false => rfl | true => exact (Bool.false_ne_true (o98 rfl)).elim)
    obtain rfl : b10 = false := (by cases b10 with | false => rfl | true => exact (Bool.false_ne_true (oA9 rfl)).elim)
    have HA := Aside0.mk (hA rfl); have HR0' := Aside0.mk (hR0 rfl); have HK1 := Aside0.mk HK; have HB1 := Aside0.mk HB
    clear hA hR0 hR8 hR9 hF o98 oA9 oA0 o85 o75 HK HB
    go_wp2_with fail
    refine (path_at.calls _ _ _ _ _ _ rfl).mono ?_
    rintro e w' ⟨rfl, hb⟩
    exact HKK.out _ _ ⟨_, _, _, _, _, _, _, _, _, _, rfl, HK1.out.below hb, HB1.out.trans (hb.mono (Nat.le_trans hbase HK1.out.1)), h0, h1, h2, h3, fun _ => rfl, fun _ => rfl, h6, h7, fun _ => (hb.block _ (Array.getElem?_eq_some_iff.1 HA.out).1).trans HA.out, fun _ => Kd.R_below HR0'.out hb, fun h => (by cases h), fun h => (by cases h), fun h => (by cases h), fun h => (by cases h), fun h => (by cases h), fun h => (by cases h), fun h => (by cases h), fun _ => rfl⟩
  · rintro l a W hl ⟨v14, v15, v16, v17, v18, v19, v20, v21, v22, v23, rfl, HK, HB, h0, h1, h2, h3, h4, h5, h6, h7, hA, hR0, hR8, hR9, hF, o98, oA9, oA0, o85, o75⟩ hi hT K hK
    match l, hl with
    | [b0, b1, b2, b3, b4, b5, b6, b7, b8, b9, b10], _ =>
    have HKK := Aside0.mk hK
    clear hK
    obtain ⟨c0, c1, _, _⟩ := cells2 (HK.2 _ _ _ hbx.out (by decide) hbxo hbxo)
    have HA := Aside0.mk hA; have HR0' := Aside0.mk hR0; have HR8 := Aside0.mk hR8; have HR9 := Aside0.mk hR9; have HF := Aside0.mk hF; have O98 := Aside0.mk o98; have OA9 := Aside0.mk oA9; have OA0 := Aside0.mk oA0; have O85 := Aside0.mk o85; have O75 := Aside0.mk o75; have HK1 := Aside0.mk HK; have HB1 := Aside0.mk HB
    clear hA hR0 hR8 hR9 hF o98 oA9 oA0 o85 o75 HK HB
    go_wp2_with fail
    exact HKK.out _ _ ⟨_, _, _, _, _, _, _, _, _, _, rfl, HK1.out, HB1.out, h0, h1, h2, h3, h4, h5, fun _ => rfl, h7, HA.out, HR0'.out, HR8.out, HR9.out, HF.out, O98.out, OA9.out, OA0.out, O85.out, O75.out⟩
  · rintro l a W hl ⟨v14, v15, v16, v17, v18, v19, v20, v21, v22, v23, rfl, HK, HB, h0, h1, h2, h3, h4, h5, h6, h7, hA, hR0, hR8, hR9, hF, o98, oA9, oA0, o85, o75⟩ hi hT K hK
    match l, hl with
    | [b0, b1, b2, b3, b4, b5, b6, b7, b8, b9, b10], _ =>
    have HKK := Aside0.mk hK
    clear hK
    obtain rfl := (h1 (hT 1 (by decide))).symm
    obtain rfl := (h5 (hT 5 (by decide))).symm
    obtain rfl := (h6 (hT 6 (by decide))).symm
    have HA := Aside0.mk hA; have HR0' := Aside0.mk hR0; have HR8 := Aside0.mk hR8; have HR9 := Aside0.mk hR9; have HF := Aside0.mk hF; have O98 := Aside0.mk o98; have OA9 := Aside0.mk oA9; have OA0 := Aside0.mk oA0; have O85 := Aside0.mk o85; have O75 := Aside0.mk o75; have HK1 := Aside0.mk HK; have HB1 := Aside0.mk HB
    clear hA hR0 hR8 hR9 hF o98 oA9 oA0 o85 o75 HK HB
    go_wp2_with fail
    exact HKK.out _ _ ⟨_, _, _, _, _, _, _, _, _, _, rfl, HK1.out, HB1.out, h0, fun _ => rfl, h2, h3, h4, fun _ => rfl, fun _ => rfl, fun _ => rfl, HA.out, HR0'.out, HR8.out, HR9.out, HF.out, O98.out, OA9.out, OA0.out, O85.out, fun _ => hT 5 (by decide)⟩
  · rintro l a W hl ⟨v14, v15, v16, v17, v18, v19, v20, v21, v22, v23, rfl, HK, HB, h0, h1, h2, h3, h4, h5, h6, h7, hA, hR0, hR8, hR9, hF, o98, oA9, oA0, o85, o75⟩ hi hT K hK
    match l, hl with
    | [b0, b1, b2, b3, b4, b5, b6, b7, b8, b9, b10], _ =>
    have HKK := Aside0.mk hK
    clear hK
    obtain rfl := (h7 (hT 7 (by decide))).symm
    obtain rfl : b8 = false := hi
    obtain rfl : b9 = false := (by cases b9 with | false => rfl | true => exact (Bool.false_ne_true (o98 rfl)).elim)
    obtain rfl : b10 = false := (by cases b10 with | false => rfl | true => exact (Bool.false_ne_true (oA9 rfl)).elim)
    have HA := Aside0.mk (hA rfl); have HR0' := Aside0.mk (hR0 rfl); have HK1 := Aside0.mk HK; have HB1 := Aside0.mk HB
    obtain rfl : b7 = true := hT 7 (by decide)
    clear hA hR0 hR8 hR9 hF o98 oA9 o85 HK HB
    have O75 := Aside0.mk o75
    clear o75
    go_wp2_with fail
    exact HKK.out _ _ ⟨_, _, _, _, _, _, _, _, _, _, rfl, HK1.out.below (balloc (Below.refl _ _) _), HB1.out.alloc (Nat.le_trans hbase HK1.out.1) _, h0, h1, h2, h3, h4, h5, h6, fun _ => rfl, fun _ => halloc HA.out _, fun h => (by cases h), fun _ _ => ⟨W, rfl, HR0'.out, HB1.out, Nat.le_trans hbase HK1.out.1, HK1.out, HA.out, rfl⟩, fun h => (by cases h), fun h => (by cases h), fun h => (by cases h), fun h => (by cases h), fun h => (by cases h), fun _ => O75.out rfl, O75.out⟩
  · rintro l a W hl ⟨v14, v15, v16, v17, v18, v19, v20, v21, v22, v23, rfl, HK, HB, h0, h1, h2, h3, h4, h5, h6, h7, hA, hR0, hR8, hR9, hF, o98, oA9, oA0, o85, o75⟩ hi hT K hK
    match l, hl with
    | [b0, b1, b2, b3, b4, b5, b6, b7, b8, b9, b10], _ =>
    have HKK := Aside0.mk hK
    clear hK
    obtain rfl := (h0 (hT 0 (by decide))).symm
    obtain rfl : b9 = false := hi
    obtain rfl : b8 = true := hT 8 (by decide)
    obtain rfl : b0 = true := hT 0 (by decide)
    obtain rfl : b10 = false := (by cases b10 with | false => rfl | true => exact (Bool.false_ne_true (oA9 rfl)).elim)
    obtain ⟨W', rfl, r1, r2, r3, r4, r5, rfl⟩ := hR8 rfl rfl
    refine Kd.R_append_step k143 (w0 := w0) base (by rfl) (.tmp 14) (.tmp 22) 128 143 (.agg #[.int .i64 0, .int .i64 0, .int .i64 0, .int .i64 0, .int .i64 0, .int .i64 0, .bool false]) 56 rfl Try.underlying128 path_i143 rfl (by decide) (by omega) v xs (path_seg here (some q) ⟨px, py⟩) [.int .i64 here.f0, .int .i64 here.f1, .int .i64 (wrap64 (2 * q.f0)), .int .i64 (wrap64 (2 * q.f1)), .int .i64 px, .int .i64 py, .bool true] (fun _ => True) (fun _ => False) rfl rfl (k143_mkM _ _ _ _) (fun _ hk => hk.elim) (fun _ _ => trivial) r1 r2 r3 HL.out ?_
    intro v1 w1 ho hb1 hgr hat
    obtain ⟨A1, k1, rfl⟩ := Kd.R_slice ho
    simp only [List.length_append, List.length_cons, List.length_nil, Nat.zero_add] at ho
    exact HKK.out _ _ ⟨_, _, _, _, _, _, _, _, _, _, rfl, r4.grown r1 hgr, hb1, fun _ => rfl, h1, h2, h3, h4, h5, h6, h7, fun _ => (hgr.block go (Array.getElem?_eq_some_iff.1 r5).1 (Kd.R_ne r1 r5 (by decide))).trans r5, fun h => (by cases h), fun _ h => (by cases h), fun _ _ => ⟨A1, k1, by simp, ho⟩, fun h => (by cases h), fun _ => rfl, fun h => (by cases h), fun h => (by cases h), o85, o75⟩
  · rintro l a W hl ⟨v14, v15, v16, v17, v18, v19, v20, v21, v22, v23, rfl, HK, HB, h0, h1, h2, h3, h4, h5, h6, h7, hA, hR0, hR8, hR9, hF, o98, oA9, oA0, o85, o75⟩ hi hT K hK
    match l, hl with
    | [b0, b1, b2, b3, b4, b5, b6, b7, b8, b9, b10], _ =>
    have HKK := Aside0.mk hK
    clear hK
    obtain rfl := (h0 (hT 0 (by decide))).symm
    obtain rfl := (h1 (hT 1 (by decide))).symm
    obtain rfl := (h2 (hT 2 (by decide))).symm
    obtain rfl := (h3 (hT 3 (by decide))).symm
    obtain rfl := (h4 (hT 4 (by decide))).symm
    obtain rfl := (h5 (hT 5 (by decide))).symm
    obtain rfl := (h6 (hT 6 (by decide))).symm
    obtain rfl := (h7 (hT 7 (by decide))).symm
    obtain rfl : b10 = false := hi
    obtain rfl : b9 = true := hT 9 (by decide)
    obtain rfl : b8 = true := hT 8 (by decide)
    obtain rfl : b0 = true := hT 0 (by decide)
    obtain ⟨A1, k1, rfl, r1⟩ := hR9 rfl rfl
    obtain ⟨c0, z0⟩ := cells1 (hA rfl)
    have HA := Aside0.mk (hA rfl); have HR1 := Aside0.mk r1; have HK1 := Aside0.mk HK; have HB1 := Aside0.mk HB; have O85 := Aside0.mk o85; have O75 := Aside0.mk o75
    clear hA hR0 hR8 hR9 hF o98 oA9 oA0 o85 o75 HK HB r1
    go_wp2_with fail
    exact HKK.out _ _ ⟨_, _, _, _, _, _, _, _, _, _, rfl, HK1.out.set (.inl rfl) _, HB1.out.setCell (p := ⟨go, 0, none⟩) hb _, fun _ => rfl, fun _ => rfl, fun _ => rfl, fun _ => rfl, fun _ => rfl, fun _ => rfl, fun _ => rfl, fun _ => rfl, fun h => (by cases h), fun h => (by cases h), fun _ h => (by cases h), fun _ h => (by cases h), fun _ => ⟨_, hset1 HA.out, Kd.R_set HR1.out HA.out (by decide) 0 _⟩, fun _ => rfl, fun _ => rfl, fun _ => rfl, O85.out, O75.out⟩
  · rintro a W ⟨v14, v15, v16, v17, v18, v19, v20, v21, v22, v23, rfl, HK, HB, h0, h1, h2, h3, h4, h5, h6, h7, hA, hR0, hR8, hR9, hF, o98, oA9, oA0, o85, o75⟩
    obtain ⟨v1, s1, s2⟩ := hF rfl
    have hgh1 := HK.2 _ _ _ hgh0.out (by decide) hgg.symm hgg.symm
    have hbx1 := HK.2 _ _ _ hbx.out (by decide) hbxo hbxo
    have KW : Aside0 (path_Keep go gh w W) := ⟨Nat.le_trans hK0.out.1 HK.1, fun b cs t h1 h2 h3 h4 => HK.2 b cs t (hK0.out.2 b cs t h1 h2 h3 h4) h2 h3 h3⟩
    obtain ⟨c0, c1, z0, z1⟩ := cells2 hgh1
    obtain ⟨d0, d1, _, _⟩ := cells2 hbx1
    have HG2 := Aside0.mk hgh1; have S1 := Aside0.mk s1; have S2 := Aside0.mk s2; have HB1 := Aside0.mk HB
    clear hA hR0 hR8 hR9 hF o98 oA9 oA0 o85 o75 HK HB s1 s2 hgh1 hbx1
    go_wp2_with fail
    go_end0
    have hk := (KW.out.set (o := 0) (.inr rfl) (.int .i64 px)).set (o := 1) (.inr rfl) (.int .i64 py)
    have r2 := Kd.R_set S2.out HG2.out (by decide) 0 (.int .i64 px)
    have r3 := Kd.R_set r2 (hset0 HG2.out) (by decide) 1 (.int .i64 py)
    exact ⟨_, rfl, ⟨path_St.mk' H.out hne trivial hk (hset (hset S1.out hgg _) hgg _) r3 ((HB1.out.setCell (p := ⟨gh, 0, none⟩) hbh _).setCell (p := ⟨gh, 1, none⟩) hbh _) (hset2 HG2.out)⟩, ⟨hk⟩⟩
theorem path_end (px py : Int) (base go gh gp : Nat) (v : Value) (xs : List S143) (here : S32) (pull : Option S135) (w0 w : World) (h : path_St base go gh gp w0 v xs here pull w) (hne : go ≠ gp ∧ gh ≠ gp) (hgg : go ≠ gh) (hb : base ≤ go) (hbh : base ≤ gh) (hl : (xs.length + 1) * 56 ≤ 140737488355328) :
    Calls Try.prog 91 #[.agg #[.int .i64 px, .int .i64 py], .pointer (some ⟨gp, 0, none⟩), .pointer (some ⟨go, 0, none⟩), .pointer (some ⟨gh, 0, none⟩)] w
      (path_Put base go gh gp w0 w (xs ++ [path_seg here pull ⟨px, py⟩]) ⟨px, py⟩ pull) := by
  cases pull with
  | none => exact path_end_none px py base go gh gp v xs here w0 w h hne hgg hb hbh hl
  | some q => exact path_end_some px py base go gh gp v xs here q w0 w h hne hgg hb hbh hl
theorem path_St.pull {base go gh gp : Nat} {w0 W : World} {v : Value} {xs : List S143} {here : S32} {pull : Option S135} (h : path_St base go gh gp w0 v xs here pull W) : ∃ x, W.heap[gp]? = some (.cells #[x] 147 (0, 0)) := by
  obtain ⟨_, _, _, _, h5⟩ := h
  cases pull with
  | none => exact ⟨_, h5⟩
  | some q => obtain ⟨gv, h6, _⟩ := h5; exact ⟨_, h6⟩
theorem path_St.setNil {base go gh gp : Nat} {w0 W : World} {v : Value} {xs : List S143} {here : S32} {pull : Option S135} (h : path_St base go gh gp w0 v xs here pull W) (hne : go ≠ gp ∧ gh ≠ gp) (hb : base ≤ gp) : path_St base go gh gp w0 v xs here none (W.setCell ⟨gp, 0, none⟩ (.pointer none)) := by
  obtain ⟨x, hx⟩ := h.pull
  obtain ⟨h1, h2, h3, h4, _⟩ := h
  exact ⟨hset h1 hne.1 _, Kd.R_set h2 hx (by decide) 0 _, h3.setCell (p := ⟨gp, 0, none⟩) hb _, hset h4 hne.2 _, hset1 hx⟩
theorem path_St.setSome {base go gh gp gv : Nat} {w0 W : World} {v : Value} {xs : List S143} {here : S32} {pull : Option S135} {q : S135} (h : path_St base go gh gp w0 v xs here pull W) (hne : go ≠ gp ∧ gh ≠ gp) (hb : base ≤ gp) (hgv : W.heap[gv]? = some (.cells #[.int .i64 q.f0, .int .i64 q.f1, .bool q.f2] 135 (0, 0))) :
    path_St base go gh gp w0 v xs here (some q) (W.setCell ⟨gp, 0, none⟩ (.pointer (some ⟨gv, 0, none⟩))) := by
  obtain ⟨x, hx⟩ := h.pull
  obtain ⟨h1, h2, h3, h4, _⟩ := h
  refine ⟨hset h1 hne.1 _, Kd.R_set h2 hx (by decide) 0 _, h3.setCell (p := ⟨gp, 0, none⟩) hb _, hset h4 hne.2 _, gv, hset1 hx, hset hgv ?_ _⟩
  rintro rfl; rw [hx] at hgv; simp at hgv
theorem path_St.below {base go gh gp : Nat} {w0 W W' : World} {v : Value} {xs : List S143} {here : S32} {pull : Option S135} (h : path_St base go gh gp w0 v xs here pull W) (hb : Below W.heap.size W W') (hbase : base ≤ W.heap.size) : path_St base go gh gp w0 v xs here pull W' := by
  obtain ⟨h1, h2, h3, h4, h5⟩ := h
  have hk : ∀ {k : Nat} {x : Obj}, W.heap[k]? = some x → W'.heap[k]? = some x := fun hx => (hb.block _ (Array.getElem?_eq_some_iff.1 hx).1).trans hx
  refine ⟨hk h1, Kd.R_below h2 hb, h3.trans (hb.mono hbase), hk h4, ?_⟩
  cases pull with
  | none => exact hk h5
  | some q => obtain ⟨gv, h6, h7⟩ := h5; exact ⟨gv, hk h6, hk h7⟩
def path_pt (v : S135) : S32 := ⟨wrap64 (2 * v.f0), wrap64 (2 * v.f1)⟩
def path_hf (a b : S135) : S32 := ⟨wrap64 (a.f0 + b.f0), wrap64 (a.f1 + b.f1)⟩
def path_F (l : List S135) : Nat := l.findIdx (fun v => v.f2)
def path_begin (l : List S135) : S32 := if path_F l < l.length then path_pt (rd_T135 l (path_F l)) else path_hf (rd_T135 l ((l.length : Int) - 1)) (rd_T135 l 0)
def path_first (l : List S135) : Nat := if path_F l < l.length then path_F l + 1 else path_F l
def path_count (l : List S135) : Nat := if path_F l < l.length then l.length - 1 else l.length
structure path_S where
  here : S32
  pull : Option S135
  out : List S143
def path_step (s : path_S) (v : S135) : path_S :=
  if v.f2 = true then ⟨path_pt v, none, s.out ++ [path_seg s.here s.pull (path_pt v)]⟩
  else match s.pull with
    | some q => ⟨path_hf q v, some v, s.out ++ [path_seg s.here s.pull (path_hf q v)]⟩
    | none => ⟨s.here, some v, s.out⟩
def path_run (l : List S135) : Nat → path_S
  | 0 => ⟨path_begin l, none, []⟩
  | k + 1 => path_step (path_run l k) (rd_T135 l (((path_first l : Int) + k) % l.length))
def path_all (l : List S135) : List S143 := (path_run l (path_count l)).out ++ [path_seg (path_run l (path_count l)).here (path_run l (path_count l)).pull (path_begin l)]
theorem path_run_len (l : List S135) : ∀ k, (path_run l k).out.length ≤ k
  | 0 => Nat.le_refl _
  | k + 1 => by
    have h := path_run_len l k
    simp only [path_run, path_step]
    split
    · simp only [List.length_append, List.length_singleton]; omega
    · split
      · simp only [List.length_append, List.length_singleton]; omega
      · exact Nat.le_trans h (by omega)
def path_Segs.f (l0 : List S135) : Option (List S143) := if l0.length ≤ 1000000 then some (if l0.length = 0 then [] else path_all l0) else none
theorem path_F_le (l : List S135) : path_F l ≤ l.length := List.findIdx_le_length
set_option maxHeartbeats 8000000 in
set_option maxRecDepth 100000 in
theorem path_Segs.calls (A0 : Option Addr) (c0 : Nat) (l0 : List S135) (r : List S143) (w : World) (hr0 : Kd.C k135 w A0 l0.length l0) (hc0 : l0.length ≤ c0) (h : path_Segs.f l0 = some r) :
    Calls Try.prog 81 #[.slice A0 l0.length c0] w fun e w' => ∃ v0_ : Value, e = .returned v0_ ∧ Kd.R k143 143 w' w.heap.size (fun _ => True) v0_ r ∧ Below w.heap.size w w' := by
  unfold path_Segs.f at h
  split at h
  case isFalse => cases h
  rename_i hlen
  obtain rfl := Option.some.inj h
  clear h
  have HR0 := Aside0.mk hr0
  clear hr0
  by_cases hz : l0.length = 0
  · rw [if_pos hz]
    have hz' : ((l0.length : Int) == 0) = true := by simp [hz]
    clear hz
    go_enter Try.func81, Try.ntmps81
    go_wp2_with fail
    go_ret
    exact ⟨_, rfl, Kd.R_nil _ _ _ _ _, Below.refl _ _⟩
  · rw [if_neg hz]
    have hz' : ((l0.length : Int) == 0) = false := by simpa using hz
    have hn : 0 < l0.length := by omega
    clear hz
    have hF := path_F_le l0
    obtain ⟨F, hFe⟩ : ∃ F, F = path_F l0 := ⟨_, rfl⟩
    rw [← hFe] at hF
    have HFE := Aside0.mk hFe
    clear hFe
    go_enter Try.func81, Try.ntmps81
    go_upto_block 0 with fail
    go_cut [4] (fun s4 W => s4 = .int .i64 F ∧ W = w)
    case first =>
      go_wp2_with fail
      go_loop [4] (fun s4 => ∃ i : Nat, i ≤ F ∧ s4 = .int .i64 i) (fun s4 => l0.length - (intOf s4).toNat)
      case atStart => exact ⟨0, Nat.zero_le _, rfl⟩
      case round =>
        obtain ⟨i, hi, rfl⟩ := hrel
        by_cases hlt : i < l0.length
        · obtain ⟨ad, rfl, x0, x1, x2⟩ := at_T135 HR0.out (i : Int) (by omega) (by omega)
          rw [Int.toNat_natCast] at x0 x1 x2
          have h0 : (0 : Int) ≤ (i : Int) := by omega
          have h1 : (i : Int) < (l0.length : Int) := by omega
          have hrd : rd_T135 l0 (i : Int) = l0[i] := by simp [rd_T135, hlt]
          by_cases hiF : i < F
          · have hb : (rd_T135 l0 (i : Int)).f2 = false := by
              rw [hrd]
              have := List.not_of_lt_findIdx (p := fun v : S135 => v.f2) (xs := l0) (i := i) (by have := HFE.out; unfold path_F at this; omega)
              simpa using this
            rw [hb] at x2
            clear hrd hb
            go_wp2_with fail
            go_round
            case rel => exact ⟨i + 1, by omega, by go_num⟩
            case measure => simp [intOf]; omega
          · obtain rfl : i = F := by omega
            have hb : (rd_T135 l0 (i : Int)).f2 = true := by
              rw [hrd]
              have e : i = l0.findIdx (fun v => v.f2) := HFE.out
              have := List.findIdx_getElem (p := fun v : S135 => v.f2) (xs := l0) (w := by omega)
              simpa [← e] using this
            rw [hb] at x2
            clear hrd hb
            go_wp2_with fail
            go_meet
            exact ⟨rfl, rfl⟩
        · obtain rfl : i = F := by omega
          obtain rfl : i = l0.length := by omega
          go_wp2_with fail
          go_meet
          exact ⟨rfl, rfl⟩
    case rest =>
      obtain ⟨rfl, rfl⟩ := hcut
      obtain ⟨w, rfl⟩ : ∃ w : World, w = wc := ⟨_, rfl⟩
      obtain ⟨ad, rfl, x0, x1, x2⟩ := at_T135 HR0.out ((l0.length : Int) - 1) (by omega) (by omega)
      obtain ⟨_, hade, y0, y1, y2⟩ := at_T135 HR0.out 0 (by omega) (by omega)
      obtain rfl := Option.some.inj hade
      clear hade
      have b0 : (0 : Int) ≤ (l0.length : Int) - 1 := by omega
      have b1 : (l0.length : Int) - 1 < (l0.length : Int) := by omega
      have b2 : (0 : Int) < (l0.length : Int) := by omega
      have b3 : (1 : Int) ≤ (l0.length : Int) := by omega
      have b4 : 1 ≤ l0.length := by omega
      obtain ⟨Z, hZ⟩ : ∃ Z, Z = rd_T135 l0 ((l0.length : Int) - 1) := ⟨_, rfl⟩
      obtain ⟨E, hE⟩ : ∃ E, E = rd_T135 l0 0 := ⟨_, rfl⟩
      rw [← hZ] at x0 x1 x2
      rw [← hE] at y0 y1 y2
      have HZ := Aside0.mk hZ; have HE := Aside0.mk hE
      clear hZ hE
      go_upto_region 7 with fail
      go_cut [6] (fun s6 W => ∃ g : Nat, s6 = .pointer (some ⟨g, 0, none⟩) ∧ w.heap.size ≤ g ∧ Aside0 (W.heap[g]? = some (.cells #[.int .i64 (path_hf Z E).f0, .int .i64 (path_hf Z E).f1] 32 (0, 0)) ∧ Below w.heap.size w W))
      case first =>
        simp only [Int.toNat_zero, Nat.zero_mul, Addr.add_zero'] at y0 y1 y2
        have en : ((l0.length : Int) - 1).toNat = l0.length - 1 := by omega
        rw [en] at x0 x1 x2
        clear en
        have hw : IntKind.i64.wrap ((l0.length : Int) - 1) = (l0.length : Int) - 1 := IntWalk.i64_in _ (by omega)
        have KS := Aside0.mk (show ∀ W : World, Below w.heap.size w W → (W.cell? (ad.add ((l0.length - 1) * 3)) = some (.int .i64 Z.f0) ∧ W.cell? ⟨(ad.add ((l0.length - 1) * 3)).block, (ad.add ((l0.length - 1) * 3)).off + 1, none⟩ = some (.int .i64 Z.f1) ∧ W.cell? ⟨(ad.add ((l0.length - 1) * 3)).block, (ad.add ((l0.length - 1) * 3)).off + 2, none⟩ = some (.bool Z.f2) ∧ W.cell? ad = some (.int .i64 E.f0) ∧ W.cell? ⟨ad.block, ad.off + 1, none⟩ = some (.int .i64 E.f1) ∧ W.cell? ⟨ad.block, ad.off + 2, none⟩ = some (.bool E.f2)) ∧ Below w.heap.size w W from fun W h =>
          ⟨⟨(h.cell (World.block_lt_of_cell? w _ x0)).trans x0, (h.cell (World.block_lt_of_cell? w _ x1)).trans x1, (h.cell (World.block_lt_of_cell? w _ x2)).trans x2, (h.cell (World.block_lt_of_cell? w _ y0)).trans y0, (h.cell (World.block_lt_of_cell? w _ y1)).trans y1, (h.cell (World.block_lt_of_cell? w _ y2)).trans y2⟩, h⟩)
        go_region_held3 (fun W => (W.cell? (ad.add ((l0.length - 1) * 3)) = some (.int .i64 Z.f0) ∧ W.cell? ⟨(ad.add ((l0.length - 1) * 3)).block, (ad.add ((l0.length - 1) * 3)).off + 1, none⟩ = some (.int .i64 Z.f1) ∧ W.cell? ⟨(ad.add ((l0.length - 1) * 3)).block, (ad.add ((l0.length - 1) * 3)).off + 2, none⟩ = some (.bool Z.f2) ∧ W.cell? ad = some (.int .i64 E.f0) ∧ W.cell? ⟨ad.block, ad.off + 1, none⟩ = some (.int .i64 E.f1) ∧ W.cell? ⟨ad.block, ad.off + 2, none⟩ = some (.bool E.f2)) ∧ Below w.heap.size w W)
          (first
            | exact KS.out _ (bdrew (Below.refl _ _))
            | (go_split_ands; refine KS.out _ ?_; (repeat (first | assumption | exact Below.refl _ _ | with_reducible refine balloc ?_ _ | (with_reducible refine bset' ?_ ?_ _; focus (first | omega | (simp; omega) | simp)) | with_reducible refine bdrew ?_ | refine bstep ?_ (by assumption))); done))
          (first | (go_at_call 89; refine (path_half.calls _ _ _ _ _ _ _ _ _ rfl).mono ?_; rintro e w' ⟨rfl, hb⟩; obtain ⟨hc, hf⟩ := bcell hb; have hq := hb.size; (try simp at hq); (try (have hy : w.heap.size < w'.heap.size := (by omega); have hny := Nat.ne_of_lt hy; have hmy := Nat.ne_of_gt hy))))
        all_goals
          go_wp2_with fail
          go_meet
          go_split_ands
          exact ⟨_, rfl, by first | omega | (simp <;> omega), ⟨by first | exact hnew _ _ rfl | exact hset2 ((hb.block _ (by simp)).trans (hnew _ _ rfl)), by assumption⟩⟩
      case rest =>
        obtain ⟨gh, rfl, hghw, HC⟩ := hcut
        obtain ⟨W1, rfl⟩ : ∃ W1 : World, W1 = wc := ⟨_, rfl⟩
        clear x0 x1 x2 y0 y1 y2 b0 b1 b3 b4
        go_upto_if 42 with fail
        go_cut [4, 5] (fun s4 s5 W => s4 = .int .i64 (path_first l0 : Nat) ∧ s5 = .int .i64 (path_count l0 : Nat) ∧ Aside0 (W.heap[gh]? = some (.cells #[.int .i64 (path_begin l0).f0, .int .i64 (path_begin l0).f1] 32 (0, 0)) ∧ Below w.heap.size w W))
        case first =>
          by_cases hFl : F < l0.length
          · have e1 : path_first l0 = F + 1 := by have h := HFE.out; unfold path_first; rw [← h, if_pos hFl]
            have e2 : path_count l0 = l0.length - 1 := by have h := HFE.out; unfold path_count; rw [← h, if_pos hFl]
            have e3 : path_begin l0 = path_pt (rd_T135 l0 F) := by have h := HFE.out; unfold path_begin; rw [← h, if_pos hFl]
            have E1 := Aside0.mk e1; have E2 := Aside0.mk e2; have E3 := Aside0.mk e3
            clear e1 e2 e3
            obtain ⟨_, hade, x0, x1, x2⟩ := at_T135 HR0.out (F : Int) (by omega) (by omega)
            obtain rfl := Option.some.inj hade
            rw [Int.toNat_natCast] at x0 x1 x2
            have hBW := HC.out.2
            replace x0 := (hBW.cell (World.block_lt_of_cell? w _ x0)).trans x0
            replace x1 := (hBW.cell (World.block_lt_of_cell? w _ x1)).trans x1
            replace x2 := (hBW.cell (World.block_lt_of_cell? w _ x2)).trans x2
            have h0 : (0 : Int) ≤ (F : Int) := by omega
            have h1 : (F : Int) < (l0.length : Int) := by omega
            clear hBW hade
            go_wp2_with fail
            refine (path_at.calls _ _ _ _ _ _ rfl).mono ?_
            rintro e w2 ⟨rfl, hb⟩
            have hg2 := (hb.block _ (Array.getElem?_eq_some_iff.1 HC.out.1).1).trans HC.out.1
            obtain ⟨q0, q1, z0, z1⟩ := cells2 hg2
            have HG := Aside0.mk hg2; have HB2 := Aside0.mk (bstep HC.out.2 hb)
            clear hb hg2 x0 x1 x2
            go_wp2_with fail
            go_meet
            exact ⟨by rw [E1.out]; go_num, by rw [E2.out]; simp; omega, ⟨by rw [E3.out]; exact hset2 HG.out, bset (bset HB2.out hghw _) hghw _⟩⟩
          · have e1 : path_first l0 = F := by have h := HFE.out; unfold path_first; rw [← h, if_neg hFl]
            have e2 : path_count l0 = l0.length := by have h := HFE.out; unfold path_count; rw [← h, if_neg hFl]
            have e3 : path_begin l0 = path_hf Z E := by have h := HFE.out; unfold path_begin; rw [← h, if_neg hFl, HZ.out, HE.out]
            have h1 : (l0.length : Int) ≤ (F : Int) := by omega
            have E1 := Aside0.mk e1; have E2 := Aside0.mk e2; have E3 := Aside0.mk e3
            clear e1 e2 e3
            go_wp2_with fail
            go_meet
            exact ⟨by rw [E1.out], by rw [E2.out], ⟨by rw [E3.out]; exact HC.out.1, HC.out.2⟩⟩
        case rest =>
          obtain ⟨rfl, rfl, HC2⟩ := hcut
          obtain ⟨W2, rfl⟩ : ∃ W2 : World, W2 = wc := ⟨_, rfl⟩
          obtain ⟨g0, g1, _, _⟩ := cells2 HC2.out.1
          have g0' := calloc g0 (.cells #[.slice none 0 0] 128)
          have g1' := calloc g1 (.cells #[.slice none 0 0] 128)
          have hghl := (Array.getElem?_eq_some_iff.1 HC2.out.1).1
          have hwW2 := HC2.out.2.size
          have hfc : path_first l0 ≤ l0.length ∧ path_count l0 ≤ l0.length := by
            have := path_F_le l0
            unfold path_first path_count
            split <;> omega
          obtain ⟨hfn, hcn⟩ := hfc
          go_wp2_with fail
          go_loopw [55] (fun s55 W => ∃ (k : Nat) (v : Value), k ≤ path_count l0 ∧ s55 = .int .i64 k ∧ Aside0 (path_St w.heap.size W2.heap.size gh (W2.heap.size + 1 + 1) w v (path_run l0 k).out (path_run l0 k).here (path_run l0 k).pull W ∧ W.heap[W2.heap.size + 1]? = some (.cells #[.int .i64 (path_begin l0).f0, .int .i64 (path_begin l0).f1] 32 (0, 0)) ∧ W2.heap.size + 1 + 1 < W.heap.size)) (fun s55 _ => path_count l0 - (intOf s55).toNat)
          case atStart =>
            refine ⟨0, .slice none 0 0, Nat.zero_le _, rfl, ⟨⟨halloc (halloc (hnew _ _ rfl) _) _, Kd.R_nil _ _ _ _ _, ?_, halloc (halloc (halloc HC2.out.1 _) _) _, hnew _ _ (by simp)⟩, halloc (hnew _ _ (by simp)) _, by simp⟩⟩
            exact ((HC2.out.2.alloc hwW2 _).alloc (by simp; omega) _).alloc (by simp; omega) _
          case round =>
            obtain ⟨k, v, hk, rfl, HR2⟩ := hrel
            clear g0 g1 g0' g1'
            obtain ⟨w3, rfl⟩ : ∃ w3 : World, w3 = wr := ⟨_, rfl⟩
            have hne1 : W2.heap.size ≠ W2.heap.size + 1 + 1 ∧ gh ≠ W2.heap.size + 1 + 1 := ⟨by omega, by omega⟩
            have hgg : W2.heap.size ≠ gh := by omega
            have hol := path_run_len l0 k
            by_cases hlt : k < path_count l0
            · obtain ⟨_, hade, x0, x1, x2⟩ := at_T135 HR0.out (((path_first l0 : Int) + k) % l0.length) (Int.emod_nonneg _ (by omega)) (Int.emod_lt_of_pos _ (by omega))
              obtain rfl := Option.some.inj hade
              have hrun : path_run l0 (k + 1) = path_step (path_run l0 k) (rd_T135 l0 (((path_first l0 : Int) + k) % l0.length)) := rfl
              have eix : (((path_first l0 : Int) + k) % l0.length).toNat = (path_first l0 + k) % l0.length := by
                rw [← Int.natCast_add, ← Int.natCast_emod, Int.toNat_natCast]
              rw [eix] at x0 x1 x2
              obtain ⟨X, hX⟩ : ∃ X, X = rd_T135 l0 (((path_first l0 : Int) + k) % l0.length) := ⟨_, rfl⟩
              rw [← hX] at x0 x1 x2 hrun
              have hBW := HR2.out.1.2.2.1
              replace x0 := (hBW.cell (World.block_lt_of_cell? w _ x0)).trans x0
              replace x1 := (hBW.cell (World.block_lt_of_cell? w _ x1)).trans x1
              replace x2 := (hBW.cell (World.block_lt_of_cell? w _ x2)).trans x2
              have j0 : (0 : Int) ≤ ((path_first l0 : Int) + k) % l0.length := Int.emod_nonneg _ (by omega)
              have j1 : ((path_first l0 : Int) + k) % l0.length < (l0.length : Int) := Int.emod_lt_of_pos _ (by omega)
              have j2 : (0 : Int) ≤ (path_first l0 : Int) + k := by omega
              have hbz := hBW.size
              have HRUN := Aside0.mk hrun
              clear hBW hade eix hX hrun
              go_upto_region 21 with fail
              obtain ⟨W4, hW4⟩ : ∃ W4 : World, W4 = w3.alloc (.cells #[.int .i64 X.f0, .int .i64 X.f1, .bool X.f2] 135) := ⟨_, rfl⟩
              have HV : Aside0 (W4.heap[w3.heap.size]? = some (.cells #[.int .i64 X.f0, .int .i64 X.f1, .bool X.f2] 135 (0, 0))) := ⟨by rw [hW4]; exact hnew _ _ rfl⟩
              have HS : Aside0 (path_St w.heap.size W2.heap.size gh (W2.heap.size + 1 + 1) w v (path_run l0 k).out (path_run l0 k).here (path_run l0 k).pull W4) := ⟨by rw [hW4]; exact HR2.out.1.below (balloc (Below.refl _ _) _) hbz⟩
              have HG : Aside0 (W4.heap[W2.heap.size + 1]? = some (.cells #[.int .i64 (path_begin l0).f0, .int .i64 (path_begin l0).f1] 32 (0, 0))) := ⟨by rw [hW4]; exact halloc HR2.out.2.1 _⟩
              have hz3 : W2.heap.size + 1 + 1 < w3.heap.size := HR2.out.2.2
              have hz4 : w3.heap.size < W4.heap.size := by rw [hW4]; simp
              rw [← hW4]
              clear hW4 HR2 x0 x1 x2
              have hgpb : w.heap.size ≤ W2.heap.size + 1 + 1 := by omega
              obtain ⟨c0', c1', c2'⟩ := path_cells3 HV.out
              obtain ⟨here, pull, out, hst⟩ : ∃ here pull out, path_run l0 k = ⟨here, pull, out⟩ := ⟨_, _, _, rfl⟩
              rw [hst] at hol HS HRUN
              simp only at hol HS
              clear hst
              cases hx : X.f2 with
              | true =>
                rw [hx] at c2'
                have hstep : path_run l0 (k + 1) = ⟨path_pt X, none, out ++ [path_seg here pull (path_pt X)]⟩ := by rw [HRUN.out]; unfold path_step; rw [if_pos hx]
                have HSTEP := Aside0.mk hstep
                clear hstep hx HRUN
                go_wp2_with fail
                refine (path_at.calls _ _ _ _ _ _ rfl).mono ?_
                rintro e w5 ⟨rfl, hb⟩
                have HS5 := Aside0.mk (HS.out.below hb (by omega))
                have HG5 := Aside0.mk ((hb.block _ (Array.getElem?_eq_some_iff.1 HG.out).1).trans HG.out)
                have hz5 := hb.size
                clear hb c0' c1' c2'
                go_wp2_with fail
                refine (path_end _ _ w.heap.size W2.heap.size gh (W2.heap.size + 1 + 1) v out here pull w w5 HS5.out hne1 hgg hwW2 hghw (by omega)).mono ?_
                rintro e w6 ⟨v', rfl, HS6, HK6⟩
                obtain ⟨x, hx⟩ := HS6.out.pull
                obtain ⟨q0, z0⟩ := cells1 hx
                have HG6 : Aside0 (w6.heap[W2.heap.size + 1]? = some (.cells #[.int .i64 (path_begin l0).f0, .int .i64 (path_begin l0).f1] 32 (0, 0))) := ⟨HK6.out.2 _ _ _ HG5.out (by decide) (by omega) (by omega)⟩
                have hz6 : W2.heap.size + 1 + 1 < w6.heap.size := (Array.getElem?_eq_some_iff.1 hx).1
                clear hx
                go_wp2_with fail
                go_roundw
                case rel =>
                  refine ⟨k + 1, v', by omega, by go_num, ⟨?_, hset HG6.out (by omega) _, by simpa using hz6⟩⟩
                  rw [HSTEP.out]
                  exact HS6.out.setNil hne1 hgpb
                case measure => simp [intOf]; omega
              | false =>
                rw [hx] at c2'
                cases pull with
                | none =>
                  have hstep : path_run l0 (k + 1) = ⟨here, some X, out⟩ := by rw [HRUN.out]; unfold path_step; rw [if_neg (by rw [hx]; decide)]
                  have HSTEP := Aside0.mk hstep
                  obtain ⟨q0, z0⟩ := cells1 HS.out.2.2.2.2
                  clear hstep hx HRUN c0' c1'
                  go_wp2_with fail
                  go_roundw
                  case rel =>
                    refine ⟨k + 1, v, by omega, by go_num, ⟨?_, hset HG.out (by omega) _, by simp; omega⟩⟩
                    rw [HSTEP.out]
                    exact HS.out.setSome hne1 hgpb HV.out
                  case measure => simp [intOf]; omega
                | some q =>
                  have hstep : path_run l0 (k + 1) = ⟨path_hf q X, some X, out ++ [path_seg here (some q) (path_hf q X)]⟩ := by rw [HRUN.out]; unfold path_step; rw [if_neg (by rw [hx]; decide)]
                  have HSTEP := Aside0.mk hstep
                  obtain ⟨gv, hgp, hgv⟩ := HS.out.2.2.2.2
                  have HGP := Aside0.mk hgp; have HGV := Aside0.mk hgv
                  obtain ⟨q0, z0⟩ := cells1 hgp
                  clear hstep HRUN hgp hgv
                  go_upto_region 25 with fail
                  have hgvo : gv ≠ W2.heap.size := by rintro rfl; have := HGV.out; rw [HS.out.1] at this; simp at this
                  have hgvh : gv ≠ gh := by rintro rfl; have := HGV.out; rw [HS.out.2.2.2.1] at this; simp at this
                  have KS := Aside0.mk (show ∀ W : World, (W.heap[W2.heap.size + 1 + 1]? = some (.cells #[.pointer (some ⟨gv, 0, none⟩)] 147 (0, 0)) ∧ W.heap[gv]? = some (.cells #[.int .i64 q.f0, .int .i64 q.f1, .bool q.f2] 135 (0, 0)) ∧ W.heap[w3.heap.size]? = some (.cells #[.int .i64 X.f0, .int .i64 X.f1, .bool X.f2] 135 (0, 0))) → (W.heap[W2.heap.size + 1 + 1]? = some (.cells #[.pointer (some ⟨gv, 0, none⟩)] 147 (0, 0)) ∧ W.heap[gv]? = some (.cells #[.int .i64 q.f0, .int .i64 q.f1, .bool q.f2] 135 (0, 0)) ∧ W.heap[w3.heap.size]? = some (.cells #[.int .i64 X.f0, .int .i64 X.f1, .bool X.f2] 135 (0, 0))) ∧ W.cell? ⟨W2.heap.size + 1 + 1, 0, none⟩ = some (.pointer (some ⟨gv, 0, none⟩)) ∧ W.cell? ⟨gv, 0, none⟩ = some (.int .i64 q.f0) ∧ W.cell? ⟨gv, 1, none⟩ = some (.int .i64 q.f1) ∧ W.cell? ⟨gv, 2, none⟩ = some (.bool q.f2) ∧ W.cell? ⟨w3.heap.size, 0, none⟩ = some (.int .i64 X.f0) ∧ W.cell? ⟨w3.heap.size, 1, none⟩ = some (.int .i64 X.f1) ∧ W.cell? ⟨w3.heap.size, 2, none⟩ = some (.bool X.f2) from fun W h => by
                    obtain ⟨r0, _⟩ := cells1 h.1
                    obtain ⟨r1, r2, r3⟩ := path_cells3 h.2.1
                    obtain ⟨r4, r5, r6⟩ := path_cells3 h.2.2
                    exact ⟨h, r0, r1, r2, r3, r4, r5, r6⟩)
                  rw [← hx] at c2'
                  go_region_held3 (fun W => (W.heap[W2.heap.size + 1 + 1]? = some (.cells #[.pointer (some ⟨gv, 0, none⟩)] 147 (0, 0)) ∧ W.heap[gv]? = some (.cells #[.int .i64 q.f0, .int .i64 q.f1, .bool q.f2] 135 (0, 0)) ∧ W.heap[w3.heap.size]? = some (.cells #[.int .i64 X.f0, .int .i64 X.f1, .bool X.f2] 135 (0, 0))) ∧ W.cell? ⟨W2.heap.size + 1 + 1, 0, none⟩ = some (.pointer (some ⟨gv, 0, none⟩)) ∧ W.cell? ⟨gv, 0, none⟩ = some (.int .i64 q.f0) ∧ W.cell? ⟨gv, 1, none⟩ = some (.int .i64 q.f1) ∧ W.cell? ⟨gv, 2, none⟩ = some (.bool q.f2) ∧ W.cell? ⟨w3.heap.size, 0, none⟩ = some (.int .i64 X.f0) ∧ W.cell? ⟨w3.heap.size, 1, none⟩ = some (.int .i64 X.f1) ∧ W.cell? ⟨w3.heap.size, 2, none⟩ = some (.bool X.f2))
                    (first
                      | exact KS.out _ ⟨HGP.out, HGV.out, HV.out⟩
                      | (go_split_ands; exact KS.out _ ⟨(hb.block _ (Array.getElem?_eq_some_iff.1 (by assumption)).1).trans (by assumption), (hb.block _ (Array.getElem?_eq_some_iff.1 (by assumption)).1).trans (by assumption), (hb.block _ (Array.getElem?_eq_some_iff.1 (by assumption)).1).trans (by assumption)⟩)
                      | (go_split_ands; exact KS.out _ ⟨hkp.out.2 _ _ _ (by assumption) (by decide) (by omega) (by omega), hkp.out.2 _ _ _ (by assumption) (by decide) hgvo hgvh, hkp.out.2 _ _ _ (by assumption) (by decide) (by omega) (by omega)⟩))
                    (first
                      | (go_at_call 89; refine (path_half.calls _ _ _ _ _ _ _ _ _ rfl).mono ?_; rintro e w' ⟨rfl, hb⟩)
                      | (go_at_call 91; refine (path_end _ _ w.heap.size W2.heap.size gh (W2.heap.size + 1 + 1) v out here (some q) w _ (HS.out.below (by (repeat (first | assumption | exact Below.refl _ _ | with_reducible refine bdrew ?_ | refine bstep ?_ (by assumption)))) (by omega)) hne1 hgg hwW2 hghw (by omega)).mono ?_; rintro e w' ⟨v', rfl, hps, hkp⟩))
                  have HV6 := Aside0.mk (hkp.out.2 _ _ _ ((hb.block _ (Array.getElem?_eq_some_iff.1 HV.out).1).trans HV.out) (by decide) (by omega) (by omega))
                  have HG6 := Aside0.mk (hkp.out.2 _ _ _ ((hb.block _ (Array.getElem?_eq_some_iff.1 HG.out).1).trans HG.out) (by decide) (by omega) (by omega))
                  obtain ⟨x, hxx⟩ := hps.out.pull
                  obtain ⟨r0, r1⟩ := cells1 hxx
                  have hz6 := (Array.getElem?_eq_some_iff.1 hxx).1
                  have HS6 := hps
                  clear hxx KS hb hkp hps q0 z0 c0' c1' c2'
                  go_wp2_with fail
                  go_roundw
                  case rel =>
                    refine ⟨k + 1, v', by omega, by go_num, ⟨?_, hset HG6.out (by omega) _, by simpa using hz6⟩⟩
                    rw [HSTEP.out]
                    exact HS6.out.setSome hne1 hgpb HV6.out
                  case measure => simp [intOf]; omega
            · obtain rfl : k = path_count l0 := by omega
              obtain ⟨hs, hg, hz3⟩ := HR2.out
              have hall : path_all l0 = (path_run l0 (path_count l0)).out ++ [path_seg (path_run l0 (path_count l0)).here (path_run l0 (path_count l0)).pull ⟨(path_begin l0).f0, (path_begin l0).f1⟩] := rfl
              have HALL := Aside0.mk hall
              obtain ⟨q0, q1, _, _⟩ := cells2 hg
              have HS := Aside0.mk hs
              clear hs hg hall HR2
              go_wp2_with fail
              refine (path_end _ _ w.heap.size W2.heap.size gh (W2.heap.size + 1 + 1) v _ _ _ w _ HS.out hne1 hgg hwW2 hghw (by omega)).mono ?_
              rintro e w6 ⟨v', rfl, HS6, HK6⟩
              obtain ⟨r0, r1⟩ := cells1 HS6.out.1
              go_wp2_with fail
              go_ret
              exact ⟨v', rfl, by rw [HALL.out]; exact HS6.out.2.1, HS6.out.2.2.1⟩
end Go.Proofs.Ytlljpjbhndcaiaa.Q
end
