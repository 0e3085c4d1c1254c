/- What the proof of the law SdfMake leans on, part 5. -/
import Derived.Test.YtlljpjbhndcaiaaSdfMakeC4
import Derived.Laws.BitsLemmas
import Derived.IntWalk
import Init
set_option linter.unusedVariables false
set_option linter.unusedSimpArgs false
set_option linter.unusedSectionVars false
section
namespace Go.Proofs.Ytlljpjbhndcaiaa.Q
open Go.RowKit Go.Proofs.YtlljpjbhndcaiaaW.PrintWords Go.Proofs.YtlljpjbhndcaiaaW.PrintLast Go.Proofs.YtlljpjbhndcaiaaW.PrintMore
attribute [local go_sem] max2_int min2_int max_two min_two max_three min_three max_four min_four
set_option linter.unusedVariables false
set_option linter.unusedSimpArgs false
def punchcutlaw10_awake.f (k : Nat)  : Option (Bool) := (some (([(⟨(⟨0, 0⟩ : S32), (⟨320, 0⟩ : S32)⟩ : S40), (⟨(⟨320, 0⟩ : S32), (⟨0, 320⟩ : S32)⟩ : S40), (⟨(⟨0, 320⟩ : S32), (⟨0, 0⟩ : S32)⟩ : S40)] : List (S40)) : List (S40))).bind fun y259 => ((sdf_Make.f k y259 (-2) (-2) 2 4 4 8).bind fun bt262 => ((sdf_Make.f k y259 0 0 0 0 0 0).bind fun bt269 => (if bt262.2.2.2 = 0 then (if bt269.2.2.2 = 6 then (if (bt262.2.2.1.length : Int) = 16 then (if 0 < (bt262.2.2.1.length : Int) then (if (rd bt262.2.2.1 0) < 128 then (if 5 < (bt262.2.2.1.length : Int) then (if (rd bt262.2.2.1 5) > 128 then (some (bt262.1 == 4)) else (some false)) else (none)) else (some false)) else (none)) else (some false)) else (some false)) else (some false))))
theorem punchcutlaw10_awake.mono : ∀ k, LeO (punchcutlaw10_awake.f k ) (punchcutlaw10_awake.f (k + 1) ) := by
  intro  k
  unfold punchcutlaw10_awake.f
  repeat' first
      | (with_reducible exact sdf_Make.mono _ _ _ _ _ _ _ _)
      | (with_reducible exact LeO.refl _)
      | (with_reducible exact LeO.none _)
      | (with_reducible refine LeO.ite ?_ ?_)
      | (with_reducible refine LeO.bind ?_ (fun _ => ?_))
      | exact sdf_Make.mono _ _ _ _ _ _ _ _
      | exact LeO.none _
      | refine LeO.ite ?_ ?_
      | refine LeO.bind ?_ (fun _ => ?_)
set_option maxHeartbeats 8000000 in
set_option maxRecDepth 100000 in
theorem punchcutlaw10_awake.calls (k : Nat)  (r : Bool) (w : World) (h : punchcutlaw10_awake.f k  = some r) :
    Calls Try.prog 34 #[] w fun e w' => e = .returned (.bool r) ∧ Below w.heap.size w w' := by
  have hu32 := Try.underlying32
  have hu40 := Try.underlying40
  have hu53 := Try.underlying53
  have hu57 := Try.underlying57
  have HB := Aside0.mk (Below.refl w.heap.size w)
  have H : ((some (([(⟨(⟨0, 0⟩ : S32), (⟨320, 0⟩ : S32)⟩ : S40), (⟨(⟨320, 0⟩ : S32), (⟨0, 320⟩ : S32)⟩ : S40), (⟨(⟨0, 320⟩ : S32), (⟨0, 0⟩ : S32)⟩ : S40)] : List (S40)) : List (S40))).bind fun y259 => ((sdf_Make.f k y259 (-2) (-2) 2 4 4 8).bind fun bt262 => ((sdf_Make.f k y259 0 0 0 0 0 0).bind fun bt269 => (if bt262.2.2.2 = 0 then (if bt269.2.2.2 = 6 then (if (bt262.2.2.1.length : Int) = 16 then (if 0 < (bt262.2.2.1.length : Int) then (if (rd bt262.2.2.1 0) < 128 then (if 5 < (bt262.2.2.1.length : Int) then (if (rd bt262.2.2.1 5) > 128 then (some (bt262.1 == 4)) else (some false)) else (none)) else (some false)) else (none)) else (some false)) else (some false)) else (some false))))) = some r := h
  clear h
  obtain ⟨y259, hy259⟩ : ∃ y_ : List (S40), y_ = (([(⟨(⟨0, 0⟩ : S32), (⟨320, 0⟩ : S32)⟩ : S40), (⟨(⟨320, 0⟩ : S32), (⟨0, 320⟩ : S32)⟩ : S40), (⟨(⟨0, 320⟩ : S32), (⟨0, 0⟩ : S32)⟩ : S40)] : List (S40))) := ⟨_, rfl⟩
  replace H : ((sdf_Make.f k y259 (-2) (-2) 2 4 4 8).bind fun bt262 => ((sdf_Make.f k y259 0 0 0 0 0 0).bind fun bt269 => (if bt262.2.2.2 = 0 then (if bt269.2.2.2 = 6 then (if (bt262.2.2.1.length : Int) = 16 then (if 0 < (bt262.2.2.1.length : Int) then (if (rd bt262.2.2.1 0) < 128 then (if 5 < (bt262.2.2.1.length : Int) then (if (rd bt262.2.2.1 5) > 128 then (some (bt262.1 == 4)) else (some false)) else (none)) else (some false)) else (none)) else (some false)) else (some false)) else (some false)))) = some r := by first | (rw [hy259]; with_reducible exact H) | (have H2_ := (Option.bind_some _ _).symm.trans H; rw [hy259]; with_reducible exact H2_) | (have H2_ := (Option.bind_some _ _).symm.trans H; with_reducible exact H2_) | with_reducible exact H | (rw [hy259]; exact H) | exact H
  have Ny259 := Aside0.mk hy259
  clear hy259
  replace H := Option.bind_eq_some_iff.mp H
  obtain ⟨⟨t262, t263, t264, t267⟩, A10, H⟩ := H
  replace H : ((sdf_Make.f k y259 0 0 0 0 0 0).bind fun bt269 => (if t267 = 0 then (if bt269.2.2.2 = 6 then (if (t264.length : Int) = 16 then (if 0 < (t264.length : Int) then (if (rd t264 0) < 128 then (if 5 < (t264.length : Int) then (if (rd t264 5) > 128 then (some (t262 == 4)) else (some false)) else (none)) else (some false)) else (none)) else (some false)) else (some false)) else (some false))) = some r := H
  have A1 := Aside0.mk A10
  clear A10
  replace H := Option.bind_eq_some_iff.mp H
  obtain ⟨⟨t269, t270, t271, t274⟩, A20, H⟩ := H
  replace H : (if t267 = 0 then (if t274 = 6 then (if (t264.length : Int) = 16 then (if 0 < (t264.length : Int) then (if (rd t264 0) < 128 then (if 5 < (t264.length : Int) then (if (rd t264 5) > 128 then (some (t262 == 4)) else (some false)) else (none)) else (some false)) else (none)) else (some false)) else (some false)) else (some false)) = some r := H
  have A2 := Aside0.mk A20
  clear A20
  by_cases c3 : t267 = 0
  · rw [if_pos c3] at H
    have c3b0 : (t267 == 0) = true := beq_iff_eq.mpr c3
    have c3b1 : (t267 != 0) = false := bne_eq_false_iff_eq.mpr c3
    clear c3
    by_cases c4 : t274 = 6
    · rw [if_pos c4] at H
      have c4b0 : (t274 == 6) = true := beq_iff_eq.mpr c4
      have c4b1 : (t274 != 6) = false := bne_eq_false_iff_eq.mpr c4
      clear c4
      by_cases c5 : (t264.length : Int) = 16
      · rw [if_pos c5] at H
        have c5b0 : ((t264.length : Int) == 16) = true := beq_iff_eq.mpr c5
        have c5b1 : ((t264.length : Int) != 16) = false := bne_eq_false_iff_eq.mpr c5
        clear c5
        by_cases c6 : 0 < (t264.length : Int)
        · rw [if_pos c6] at H
          have c6b0 : decide (0 < (t264.length : Int)) = true := decide_eq_true c6
          have c6b1 : decide (0 < t264.length) = true := decide_eq_true (by omega)
          clear c6
          by_cases c7 : (rd t264 0) < 128
          · rw [if_pos c7] at H
            have c7b0 : decide ((rd t264 0) < 128) = true := decide_eq_true c7
            clear c7
            by_cases c8 : 5 < (t264.length : Int)
            · rw [if_pos c8] at H
              have c8b0 : decide (5 < (t264.length : Int)) = true := decide_eq_true c8
              have c8b1 : decide (5 < t264.length) = true := decide_eq_true (by omega)
              clear c8
              by_cases c9 : (rd t264 5) > 128
              · rw [if_pos c9] at H
                have c9b0 : decide (128 < (rd t264 5)) = true := decide_eq_true c9
                clear c9
                obtain rfl := Option.some.inj H
                go_enter Try.func34, Try.ntmps34
                go_wp2_with (first | ((with_reducible refine gate_dst (N := 15) rfl ?_); (try (refine gate_guard (by rfl) ?_; dsimp only)); refine Kd.R_lit k40 _ 40 ?hg (N := 15) ?hd (xs := ([(⟨(⟨0, 0⟩ : S32), (⟨320, 0⟩ : S32)⟩ : S40), (⟨(⟨320, 0⟩ : S32), (⟨0, 320⟩ : S32)⟩ : S40), (⟨(⟨0, 320⟩ : S32), (⟨0, 0⟩ : S32)⟩ : S40)] : List (S40))) (inner := [.int .i64 0, .int .i64 0, .int .i64 320, .int .i64 0, .int .i64 320, .int .i64 0, .int .i64 0, .int .i64 320, .int .i64 0, .int .i64 320, .int .i64 0, .int .i64 0]) (ok := fun _ => True) (okp := fun _ => True) ?hr ?hp (fun _ hk => hk) trivial (Below.refl _ _) (Nat.le_refl _) (by simp) ?_; (case hd => rfl); (case hg => rfl); (case hr => first | (go_simp; done) | (go_simp; rfl)); (case hp => exact (Reps.c4 (show Kd.M k40 _ _ _ (⟨(⟨0, 0⟩ : S32), (⟨320, 0⟩ : S32)⟩ : S40) [.int .i64 0, .int .i64 0, .int .i64 320, .int .i64 0] from (k40_mkM _ _ _ (⟨(⟨0, 0⟩ : S32), (⟨320, 0⟩ : S32)⟩ : S40) )) (Reps.c4 (show Kd.M k40 _ _ _ (⟨(⟨320, 0⟩ : S32), (⟨0, 320⟩ : S32)⟩ : S40) [.int .i64 320, .int .i64 0, .int .i64 0, .int .i64 320] from (k40_mkM _ _ _ (⟨(⟨320, 0⟩ : S32), (⟨0, 320⟩ : S32)⟩ : S40) )) (Reps.c4 (show Kd.M k40 _ _ _ (⟨(⟨0, 320⟩ : S32), (⟨0, 0⟩ : S32)⟩ : S40) [.int .i64 0, .int .i64 320, .int .i64 0, .int .i64 0] from (k40_mkM _ _ _ (⟨(⟨0, 320⟩ : S32), (⟨0, 0⟩ : S32)⟩ : S40) )) (Reps.none _ _))))); intro v260 w10 ho11 hb hg_ hnew_; clear hg_ hnew_; (first | rw [← Ny259.out] at ho11 | (simp only [Int.reduceToNat] at ho11; rw [← Ny259.out] at ho11)); have n0_ := Aside0.mk (Kd.R_lower ho11 (below_size (by repeat (first | (with_reducible first | exact HB.out | apply below_alloc | apply pw_below_drewN | apply below_drew1) | exact HB.out)))); have n1_ := Aside0.mk (below_step (by repeat (first | (with_reducible first | exact HB.out | apply below_alloc | apply pw_below_drewN | apply below_drew1) | exact HB.out)) hb); clear HB; have HO261 := n0_; have HB := n1_; clear n0_ n1_; clear hb ho11; obtain ⟨Ao12, co12, eo12⟩ := Kd.R_slice HO261.out; subst eo12) | ((with_reducible refine gate_callee (f := 32) rfl ?_); refine goesL_ (some 19) rfl rfl Try.func32 (by kernel_rfl) rfl #[.slice Ao12 y259.length co12, .agg #[.int .i64 (-2), .int .i64 (-2), .int .i64 2, .int .i64 4, .int .i64 4, .int .i64 8]] rfl (by (try simp only [List.map_toArray, List.map_cons, List.map_nil]); first | done | rfl | (simp only [List.length_drop, List.length_take]; rfl)) ?_; (with_reducible refine (sdf_Make.calls k _ _ y259 (-2) (-2) 2 4 4 8 t262 t263 t264 t267 _ ?side1 ?side2 A1.out).mono ?_); (case side1 => repeat (first | exact (Kd.R_reads' HO261.out).2.2 | (with_reducible refine Kd.C_alloc ?_ _) | (with_reducible refine Kd.C_drewN ?_ _) | (with_reducible refine Kd.C_drew ?_))); (case side2 => exact (Kd.R_reads' HO261.out).2.1); rintro e w13 ⟨v265, rfl, ho0, hb⟩; refine ⟨_, rfl, ?_⟩; have n0_ := Aside0.mk (Kd.R_below (by (with_reducible repeat (first | apply Kd.R_alloc | apply Kd.R_drewN | apply Kd.R_drew)); exact HO261.out) hb); have n1_ := Aside0.mk (Kd.R_lower ho0 (below_size (by repeat (first | (with_reducible first | exact HB.out | apply below_alloc | apply pw_below_drewN | apply below_drew1) | exact HB.out)))); have n2_ := Aside0.mk (below_step (by repeat (first | (with_reducible first | exact HB.out | apply below_alloc | apply pw_below_drewN | apply below_drew1) | exact HB.out)) hb); clear HO261; clear HB; have HO261 := n0_; have HO266 := n1_; have HB := n2_; clear n0_ n1_ n2_; (try clear hb); (try clear hb2); (try clear hk); (try clear hi); (try clear ho0)) | ((with_reducible refine gate_dst (N := 2) rfl ?_); (try (refine gate_guard (by rfl) ?_; dsimp only)); refine box_event ?hg (N := 2) ?hd (cs := #[.int .i64 0, .int .i64 0, .slice none 0 0]) (t := 57) ?hr ?_; (case hd => rfl); (case hg => rfl); (case hr => first | (go_simp; done) | (go_simp; rfl)); intro gb268 hg w14 hbox hb; have n0_ := Aside0.mk (Kd.R_below (by (with_reducible repeat (first | apply Kd.R_alloc | apply Kd.R_drewN | apply Kd.R_drew)); exact HO261.out) hb); have n1_ := Aside0.mk (Kd.R_below (by (with_reducible repeat (first | apply Kd.R_alloc | apply Kd.R_drewN | apply Kd.R_drew)); exact HO266.out) hb); have n2_ := Aside0.mk (below_step (by repeat (first | (with_reducible first | exact HB.out | apply below_alloc | apply pw_below_drewN | apply below_drew1) | exact HB.out)) hb); have n3_ := Aside0.mk (hbox); have n4_ := Aside0.mk ((by rw [hg]; exact (below_size (by repeat (first | (with_reducible first | exact HB.out | apply below_alloc | apply pw_below_drewN | apply below_drew1) | exact HB.out))) : w.heap.size ≤ gb268)); have n5_ := Aside0.mk ((by rw [hg]; exact (below_size (by repeat (first | (with_reducible first | exact HB.out | apply below_alloc | apply pw_below_drewN | apply below_drew1) | exact HB.out))) : w.heap.size ≤ gb268)); clear HO261; clear HO266; clear HB; have HO261 := n0_; have HO266 := n1_; have HB := n2_; have BK268 := n3_; have GW268 := n4_; have GE268 := n5_; clear n0_ n1_ n2_ n3_ n4_ n5_; clear hb hbox hg; have hcz15_0 : w14.cell? ⟨gb268, 0, none⟩ = some (.int .i64 0) := (blk_cell BK268.out 0).trans rfl; have hcz15_1 : w14.cell? ⟨gb268, 1, none⟩ = some (.int .i64 0) := (blk_cell BK268.out 1).trans rfl; have hcz15_2 : w14.cell? ⟨gb268, 2, none⟩ = some (.slice none 0 0) := (blk_cell BK268.out 2).trans rfl; have hfz15_0 := blk_frozen BK268.out 0; have hfz15_1 := blk_frozen BK268.out 1; have hfz15_2 := blk_frozen BK268.out 2; obtain ⟨Ao16, co16, eo16⟩ := Kd.R_slice HO266.out; subst eo16) | ((with_reducible refine gate_callee (f := 32) rfl ?_); refine goesL_ (some 25) rfl rfl Try.func32 (by kernel_rfl) rfl #[.slice Ao12 y259.length co12, .agg #[.int .i64 0, .int .i64 0, .int .i64 0, .int .i64 0, .int .i64 0, .int .i64 0]] rfl (by (try simp only [List.map_toArray, List.map_cons, List.map_nil]); first | done | rfl | (simp only [List.length_drop, List.length_take]; rfl)) ?_; (with_reducible refine (sdf_Make.calls k _ _ y259 0 0 0 0 0 0 t269 t270 t271 t274 _ ?side1 ?side2 A2.out).mono ?_); (case side1 => refine (Kd.R_reads' (e := 40) (base := w.heap.size) (ok := fun k_ => True) (n := y259.length) (c := co12) ?_).2.2; exact (by (with_reducible repeat (first | apply Kd.R_alloc | apply Kd.R_drewN | apply Kd.R_drew)); exact (Kd.R_mono (Kd.R_far (p := ⟨gb268, 2, none⟩) (Kd.R_far (p := ⟨gb268, 1, none⟩) (Kd.R_far (p := ⟨gb268, 0, none⟩) (Kd.R_types HO261.out BK268.out (by decide)) (fun _ hk => hk.2) (.int .i64 t262)) (fun _ hk => hk.2) (.int .i64 t263)) (fun _ hk => hk.2) (.slice Ao16 t264.length co16)) (fun _ h_ => h_.1)))); (case side2 => exact (Kd.R_reads' HO261.out).2.1); rintro e w17 ⟨v272, rfl, ho0, hb⟩; refine ⟨_, rfl, ?_⟩; have n0_ := Aside0.mk (Kd.R_below (by (with_reducible repeat (first | apply Kd.R_alloc | apply Kd.R_drewN | apply Kd.R_drew)); exact (Kd.R_mono (Kd.R_far (p := ⟨gb268, 2, none⟩) (Kd.R_far (p := ⟨gb268, 1, none⟩) (Kd.R_far (p := ⟨gb268, 0, none⟩) (Kd.R_types HO261.out BK268.out (by decide)) (fun _ hk => hk.2) (.int .i64 t262)) (fun _ hk => hk.2) (.int .i64 t263)) (fun _ hk => hk.2) (.slice Ao16 t264.length co16)) (fun _ h_ => h_.1))) hb); have n1_ := Aside0.mk (Kd.R_elder' (by (with_reducible repeat (first | apply Kd.R_alloc | apply Kd.R_drewN | apply Kd.R_drew)); exact (Kd.R_mono (Kd.R_far (p := ⟨gb268, 2, none⟩) (Kd.R_far (p := ⟨gb268, 1, none⟩) (Kd.R_far (p := ⟨gb268, 0, none⟩) (Kd.R_types HO266.out BK268.out (by decide)) (fun _ hk => hk.2) (.int .i64 t262)) (fun _ hk => hk.2) (.int .i64 t263)) (fun _ hk => hk.2) (.slice Ao16 t264.length co16)) (fun _ h_ => h_.1))) (Kd.R_base ho0) hb); have n2_ := Aside0.mk (Kd.R_lower (Kd.R_new' ho0 (Kd.R_lt (by (with_reducible repeat (first | apply Kd.R_alloc | apply Kd.R_drewN | apply Kd.R_drew)); exact (Kd.R_mono (Kd.R_far (p := ⟨gb268, 2, none⟩) (Kd.R_far (p := ⟨gb268, 1, none⟩) (Kd.R_far (p := ⟨gb268, 0, none⟩) (Kd.R_types HO266.out BK268.out (by decide)) (fun _ hk => hk.2) (.int .i64 t262)) (fun _ hk => hk.2) (.int .i64 t263)) (fun _ hk => hk.2) (.slice Ao16 t264.length co16)) (fun _ h_ => h_.1))))) (below_size (by repeat (first | (with_reducible first | exact HB.out | apply below_alloc | apply pw_below_drewN | apply below_drew1 | refine below_set ?_ GE268.out) | exact HB.out)))); have n3_ := Aside0.mk (blk_below (g := gb268) (o := .cells #[.int .i64 t262, .int .i64 t263, .slice Ao16 t264.length co16] 57 (0, 0)) (by (with_reducible repeat (first | refine blk_drewN ?_ _ | refine blk_drew ?_ | refine blk_alloc ?_ _)); refine blk_put (cs := #[.int .i64 t262, .int .i64 t263, .slice none 0 0]) ?_ 2 _ rfl; (with_reducible repeat (first | refine blk_drewN ?_ _ | refine blk_drew ?_ | refine blk_alloc ?_ _)); refine blk_put (cs := #[.int .i64 t262, .int .i64 0, .slice none 0 0]) ?_ 1 _ rfl; (with_reducible repeat (first | refine blk_drewN ?_ _ | refine blk_drew ?_ | refine blk_alloc ?_ _)); refine blk_put (cs := #[.int .i64 0, .int .i64 0, .slice none 0 0]) ?_ 0 _ rfl; (with_reducible repeat (first | refine blk_drewN ?_ _ | refine blk_drew ?_ | refine blk_alloc ?_ _)); exact BK268.out) hb); have n4_ := Aside0.mk (below_step (by repeat (first | (with_reducible first | exact HB.out | apply below_alloc | apply pw_below_drewN | apply below_drew1 | refine below_set ?_ GE268.out) | exact HB.out)) hb); clear HO261; clear HO266; clear BK268; clear HB; have HO261 := n0_; have HO266 := n1_; have HO273 := n2_; have BK268 := n3_; have HB := n4_; clear n0_ n1_ n2_ n3_ n4_; (try clear hb); (try clear hb2); (try clear hk); (try clear hi); (try clear ho0)) | ((with_reducible refine gate_dst (N := 4) rfl ?_); (try (refine gate_guard (by rfl) ?_; dsimp only)); refine box_event ?hg (N := 4) ?hd (cs := #[.int .i64 0, .int .i64 0, .slice none 0 0]) (t := 57) ?hr ?_; (case hd => rfl); (case hg => rfl); (case hr => first | (go_simp; done) | (go_simp; rfl)); intro gb275 hg w18 hbox hb; have n0_ := Aside0.mk (Kd.R_below (by (with_reducible repeat (first | apply Kd.R_alloc | apply Kd.R_drewN | apply Kd.R_drew)); exact HO261.out) hb); have n1_ := Aside0.mk (Kd.R_below (by (with_reducible repeat (first | apply Kd.R_alloc | apply Kd.R_drewN | apply Kd.R_drew)); exact HO266.out) hb); have n2_ := Aside0.mk (Kd.R_below (by (with_reducible repeat (first | apply Kd.R_alloc | apply Kd.R_drewN | apply Kd.R_drew)); exact HO273.out) hb); have n3_ := Aside0.mk (blk_below (g := gb268) (o := .cells #[.int .i64 t262, .int .i64 t263, .slice Ao16 t264.length co16] 57 (0, 0)) (by (with_reducible repeat (first | refine blk_drewN ?_ _ | refine blk_drew ?_ | refine blk_alloc ?_ _)); exact BK268.out) hb); have n4_ := Aside0.mk (below_step (by repeat (first | (with_reducible first | exact HB.out | apply below_alloc | apply pw_below_drewN | apply below_drew1 | refine below_set ?_ GE268.out) | exact HB.out)) hb); have n5_ := Aside0.mk (hbox); have n6_ := Aside0.mk ((by rw [hg]; exact (below_size (by repeat (first | (with_reducible first | exact HB.out | apply below_alloc | apply pw_below_drewN | apply below_drew1 | refine below_set ?_ GE268.out) | exact HB.out))) : w.heap.size ≤ gb275)); have n7_ := Aside0.mk ((by rw [hg]; exact (below_size (by repeat (first | (with_reducible first | exact HB.out | apply below_alloc | apply pw_below_drewN | apply below_drew1 | refine below_set ?_ GE268.out) | exact HB.out))) : w.heap.size ≤ gb275)); have n8_ := Aside0.mk ((by rw [hg]; exact Nat.ne_of_lt (blk_lt (g := gb268) (o := .cells #[.int .i64 t262, .int .i64 t263, .slice Ao16 t264.length co16] 57 (0, 0)) (by (with_reducible repeat (first | refine blk_drewN ?_ _ | refine blk_drew ?_ | refine blk_alloc ?_ _)); exact BK268.out)) : gb268 ≠ gb275)); have n9_ := Aside0.mk ((by rw [hg]; exact Nat.ne_of_gt (blk_lt (g := gb268) (o := .cells #[.int .i64 t262, .int .i64 t263, .slice Ao16 t264.length co16] 57 (0, 0)) (by (with_reducible repeat (first | refine blk_drewN ?_ _ | refine blk_drew ?_ | refine blk_alloc ?_ _)); exact BK268.out)) : gb275 ≠ gb268)); clear HO261; clear HO266; clear HO273; clear BK268; clear HB; have HO261 := n0_; have HO266 := n1_; have HO273 := n2_; have BK268 := n3_; have HB := n4_; have BK275 := n5_; have GW275 := n6_; have GE275 := n7_; have NB268_275 := n8_; have NB275_268 := n9_; clear n0_ n1_ n2_ n3_ n4_ n5_ n6_ n7_ n8_ n9_; clear hb hbox hg; have hnb19 := NB275_268.out; have hnc19 := NB268_275.out; have hcz20_0 : w18.cell? ⟨gb275, 0, none⟩ = some (.int .i64 0) := (blk_cell BK275.out 0).trans rfl; have hcz20_1 : w18.cell? ⟨gb275, 1, none⟩ = some (.int .i64 0) := (blk_cell BK275.out 1).trans rfl; have hcz20_2 : w18.cell? ⟨gb275, 2, none⟩ = some (.slice none 0 0) := (blk_cell BK275.out 2).trans rfl; have hfz20_0 := blk_frozen BK275.out 0; have hfz20_1 := blk_frozen BK275.out 1; have hfz20_2 := blk_frozen BK275.out 2; obtain ⟨Ao21, co21, eo21⟩ := Kd.R_slice HO273.out; subst eo21; have hcz22_0 : w18.cell? ⟨gb268, 0, none⟩ = some (.int .i64 t262) := (blk_cell BK268.out 0).trans rfl; have hcz22_1 : w18.cell? ⟨gb268, 1, none⟩ = some (.int .i64 t263) := (blk_cell BK268.out 1).trans rfl; have hcz22_2 : w18.cell? ⟨gb268, 2, none⟩ = some (.slice Ao16 t264.length co16) := (blk_cell BK268.out 2).trans rfl; have hfz22_0 := blk_frozen BK268.out 0; have hfz22_1 := blk_frozen BK268.out 1; have hfz22_2 := blk_frozen BK268.out 2; have p276 : 0 ≤ (0 : Int) := (by omega); have q276 : 0 < (t264.length : Int) := of_decide_eq_true (by first | (with_reducible assumption) | assumption); obtain ⟨ad276, e276, hx276_0⟩ := Kd.at_int (Kd.R_reads' HO266.out).2.2 0 p276 q276; cases e276; have qi276 : (0 < t264.length) = True := eq_true (by omega); (try rw [show ((0 : Int)).toNat = 0 from rfl] at hx276_0); (try rw [Addr.add_zero'] at hx276_0); have hn276_0 : ad276.block ≠ gb275 := Kd.own_blk (Kd.R_ne HO266.out BK275.out (by decide)); have hn276_1 : ad276.block ≠ gb275 := Kd.own_blk (Kd.R_ne HO266.out BK275.out (by decide)); have hn276_2 : ad276.block ≠ gb275 := Kd.own_blk (Kd.R_ne HO266.out BK275.out (by decide)); replace hx276_0 := (cell_far (p := ⟨gb275, 0, none⟩) (by first | (rw [add_block]; exact hn276_0) | (show (Addr.add _ _).block ≠ _; rw [add_block]; exact hn276_0) | exact hn276_0) (.int .i64 t269)).trans hx276_0; replace hx276_0 := (cell_far (p := ⟨gb275, 1, none⟩) (by first | (rw [add_block]; exact hn276_1) | (show (Addr.add _ _).block ≠ _; rw [add_block]; exact hn276_1) | exact hn276_1) (.int .i64 t270)).trans hx276_0; replace hx276_0 := (cell_far (p := ⟨gb275, 2, none⟩) (by first | (rw [add_block]; exact hn276_2) | (show (Addr.add _ _).block ≠ _; rw [add_block]; exact hn276_2) | exact hn276_2) (.slice Ao21 t271.length co21)).trans hx276_0; clear hn276_0; clear hn276_1; clear hn276_2; replace p276 := eq_true p276; replace q276 := eq_true q276; have p277 : 0 ≤ (5 : Int) := (by omega); have q277 : 5 < (t264.length : Int) := of_decide_eq_true (by first | (with_reducible assumption) | assumption); obtain ⟨ad277, e277, hx277_0⟩ := Kd.at_int (Kd.R_reads' HO266.out).2.2 5 p277 q277; obtain rfl : ad276 = ad277 := (by injection e277); (try simp only [show (5 : Int).toNat = 5 from rfl, Nat.reduceMul, Nat.reduceEqDiff, Go.Addr.add, ↓reduceIte] at hx277_0); have qi277 : (5 < t264.length) = True := eq_true (by omega); (try rw [show ((5 : Int)).toNat = 5 from rfl] at hx277_0); have hn277_0 : ad276.block ≠ gb275 := Kd.own_blk (Kd.R_ne HO266.out BK275.out (by decide)); have hn277_1 : ad276.block ≠ gb275 := Kd.own_blk (Kd.R_ne HO266.out BK275.out (by decide)); have hn277_2 : ad276.block ≠ gb275 := Kd.own_blk (Kd.R_ne HO266.out BK275.out (by decide)); replace hx277_0 := (cell_far (p := ⟨gb275, 0, none⟩) (by first | (rw [add_block]; exact hn277_0) | (show (Addr.add _ _).block ≠ _; rw [add_block]; exact hn277_0) | exact hn277_0) (.int .i64 t269)).trans hx277_0; replace hx277_0 := (cell_far (p := ⟨gb275, 1, none⟩) (by first | (rw [add_block]; exact hn277_1) | (show (Addr.add _ _).block ≠ _; rw [add_block]; exact hn277_1) | exact hn277_1) (.int .i64 t270)).trans hx277_0; replace hx277_0 := (cell_far (p := ⟨gb275, 2, none⟩) (by first | (rw [add_block]; exact hn277_2) | (show (Addr.add _ _).block ≠ _; rw [add_block]; exact hn277_2) | exact hn277_2) (.slice Ao21 t271.length co21)).trans hx277_0; clear hn277_0; clear hn277_1; clear hn277_2; replace p277 := eq_true p277; replace q277 := eq_true q277))
                go_ret
                exact ⟨by first | rfl | (simp [errW_none, errW_some] <;> rfl) | (simp [*, errW_none, errW_some] <;> rfl), by repeat (first | (with_reducible first | exact HB.out | apply below_alloc | apply pw_below_drewN | apply below_drew1 | refine below_set ?_ GE268.out | refine below_set ?_ GE275.out) | exact HB.out)⟩
              · rw [if_neg c9] at H
                have c9b0 : decide (128 < (rd t264 5)) = false := decide_eq_false c9
                clear c9
                obtain rfl := Option.some.inj H
                go_enter Try.func34, Try.ntmps34
                go_wp2_with (first | ((with_reducible refine gate_dst (N := 15) rfl ?_); (try (refine gate_guard (by rfl) ?_; dsimp only)); refine Kd.R_lit k40 _ 40 ?hg (N := 15) ?hd (xs := ([(⟨(⟨0, 0⟩ : S32), (⟨320, 0⟩ : S32)⟩ : S40), (⟨(⟨320, 0⟩ : S32), (⟨0, 320⟩ : S32)⟩ : S40), (⟨(⟨0, 320⟩ : S32), (⟨0, 0⟩ : S32)⟩ : S40)] : List (S40))) (inner := [.int .i64 0, .int .i64 0, .int .i64 320, .int .i64 0, .int .i64 320, .int .i64 0, .int .i64 0, .int .i64 320, .int .i64 0, .int .i64 320, .int .i64 0, .int .i64 0]) (ok := fun _ => True) (okp := fun _ => True) ?hr ?hp (fun _ hk => hk) trivial (Below.refl _ _) (Nat.le_refl _) (by simp) ?_; (case hd => rfl); (case hg => rfl); (case hr => first | (go_simp; done) | (go_simp; rfl)); (case hp => exact (Reps.c4 (show Kd.M k40 _ _ _ (⟨(⟨0, 0⟩ : S32), (⟨320, 0⟩ : S32)⟩ : S40) [.int .i64 0, .int .i64 0, .int .i64 320, .int .i64 0] from (k40_mkM _ _ _ (⟨(⟨0, 0⟩ : S32), (⟨320, 0⟩ : S32)⟩ : S40) )) (Reps.c4 (show Kd.M k40 _ _ _ (⟨(⟨320, 0⟩ : S32), (⟨0, 320⟩ : S32)⟩ : S40) [.int .i64 320, .int .i64 0, .int .i64 0, .int .i64 320] from (k40_mkM _ _ _ (⟨(⟨320, 0⟩ : S32), (⟨0, 320⟩ : S32)⟩ : S40) )) (Reps.c4 (show Kd.M k40 _ _ _ (⟨(⟨0, 320⟩ : S32), (⟨0, 0⟩ : S32)⟩ : S40) [.int .i64 0, .int .i64 320, .int .i64 0, .int .i64 0] from (k40_mkM _ _ _ (⟨(⟨0, 320⟩ : S32), (⟨0, 0⟩ : S32)⟩ : S40) )) (Reps.none _ _))))); intro v260 w23 ho24 hb hg_ hnew_; clear hg_ hnew_; (first | rw [← Ny259.out] at ho24 | (simp only [Int.reduceToNat] at ho24; rw [← Ny259.out] at ho24)); have n0_ := Aside0.mk (Kd.R_lower ho24 (below_size (by repeat (first | (with_reducible first | exact HB.out | apply below_alloc | apply pw_below_drewN | apply below_drew1) | exact HB.out)))); have n1_ := Aside0.mk (below_step (by repeat (first | (with_reducible first | exact HB.out | apply below_alloc | apply pw_below_drewN | apply below_drew1) | exact HB.out)) hb); clear HB; have HO261 := n0_; have HB := n1_; clear n0_ n1_; clear hb ho24; obtain ⟨Ao25, co25, eo25⟩ := Kd.R_slice HO261.out; subst eo25) | ((with_reducible refine gate_callee (f := 32) rfl ?_); refine goesL_ (some 19) rfl rfl Try.func32 (by kernel_rfl) rfl #[.slice Ao25 y259.length co25, .agg #[.int .i64 (-2), .int .i64 (-2), .int .i64 2, .int .i64 4, .int .i64 4, .int .i64 8]] rfl (by (try simp only [List.map_toArray, List.map_cons, List.map_nil]); first | done | rfl | (simp only [List.length_drop, List.length_take]; rfl)) ?_; (with_reducible refine (sdf_Make.calls k _ _ y259 (-2) (-2) 2 4 4 8 t262 t263 t264 t267 _ ?side1 ?side2 A1.out).mono ?_); (case side1 => repeat (first | exact (Kd.R_reads' HO261.out).2.2 | (with_reducible refine Kd.C_alloc ?_ _) | (with_reducible refine Kd.C_drewN ?_ _) | (with_reducible refine Kd.C_drew ?_))); (case side2 => exact (Kd.R_reads' HO261.out).2.1); rintro e w26 ⟨v265, rfl, ho0, hb⟩; refine ⟨_, rfl, ?_⟩; have n0_ := Aside0.mk (Kd.R_below (by (with_reducible repeat (first | apply Kd.R_alloc | apply Kd.R_drewN | apply Kd.R_drew)); exact HO261.out) hb); have n1_ := Aside0.mk (Kd.R_lower ho0 (below_size (by repeat (first | (with_reducible first | exact HB.out | apply below_alloc | apply pw_below_drewN | apply below_drew1) | exact HB.out)))); have n2_ := Aside0.mk (below_step (by repeat (first | (with_reducible first | exact HB.out | apply below_alloc | apply pw_below_drewN | apply below_drew1) | exact HB.out)) hb); clear HO261; clear HB; have HO261 := n0_; have HO266 := n1_; have HB := n2_; clear n0_ n1_ n2_; (try clear hb); (try clear hb2); (try clear hk); (try clear hi); (try clear ho0)) | ((with_reducible refine gate_dst (N := 2) rfl ?_); (try (refine gate_guard (by rfl) ?_; dsimp only)); refine box_event ?hg (N := 2) ?hd (cs := #[.int .i64 0, .int .i64 0, .slice none 0 0]) (t := 57) ?hr ?_; (case hd => rfl); (case hg => rfl); (case hr => first | (go_simp; done) | (go_simp; rfl)); intro gb268 hg w27 hbox hb; have n0_ := Aside0.mk (Kd.R_below (by (with_reducible repeat (first | apply Kd.R_alloc | apply Kd.R_drewN | apply Kd.R_drew)); exact HO261.out) hb); have n1_ := Aside0.mk (Kd.R_below (by (with_reducible repeat (first | apply Kd.R_alloc | apply Kd.R_drewN | apply Kd.R_drew)); exact HO266.out) hb); have n2_ := Aside0.mk (below_step (by repeat (first | (with_reducible first | exact HB.out | apply below_alloc | apply pw_below_drewN | apply below_drew1) | exact HB.out)) hb); have n3_ := Aside0.mk (hbox); have n4_ := Aside0.mk ((by rw [hg]; exact (below_size (by repeat (first | (with_reducible first | exact HB.out | apply below_alloc | apply pw_below_drewN | apply below_drew1) | exact HB.out))) : w.heap.size ≤ gb268)); have n5_ := Aside0.mk ((by rw [hg]; exact (below_size (by repeat (first | (with_reducible first | exact HB.out | apply below_alloc | apply pw_below_drewN | apply below_drew1) | exact HB.out))) : w.heap.size ≤ gb268)); clear HO261; clear HO266; clear HB; have HO261 := n0_; have HO266 := n1_; have HB := n2_; have BK268 := n3_; have GW268 := n4_; have GE268 := n5_; clear n0_ n1_ n2_ n3_ n4_ n5_; clear hb hbox hg; have hcz28_0 : w27.cell? ⟨gb268, 0, none⟩ = some (.int .i64 0) := (blk_cell BK268.out 0).trans rfl; have hcz28_1 : w27.cell? ⟨gb268, 1, none⟩ = some (.int .i64 0) := (blk_cell BK268.out 1).trans rfl; have hcz28_2 : w27.cell? ⟨gb268, 2, none⟩ = some (.slice none 0 0) := (blk_cell BK268.out 2).trans rfl; have hfz28_0 := blk_frozen BK268.out 0; have hfz28_1 := blk_frozen BK268.out 1; have hfz28_2 := blk_frozen BK268.out 2; obtain ⟨Ao29, co29, eo29⟩ := Kd.R_slice HO266.out; subst eo29) | ((with_reducible refine gate_callee (f := 32) rfl ?_); refine goesL_ (some 25) rfl rfl Try.func32 (by kernel_rfl) rfl #[.slice Ao25 y259.length co25, .agg #[.int .i64 0, .int .i64 0, .int .i64 0, .int .i64 0, .int .i64 0, .int .i64 0]] rfl (by (try simp only [List.map_toArray, List.map_cons, List.map_nil]); first | done | rfl | (simp only [List.length_drop, List.length_take]; rfl)) ?_; (with_reducible refine (sdf_Make.calls k _ _ y259 0 0 0 0 0 0 t269 t270 t271 t274 _ ?side1 ?side2 A2.out).mono ?_); (case side1 => refine (Kd.R_reads' (e := 40) (base := w.heap.size) (ok := fun k_ => True) (n := y259.length) (c := co25) ?_).2.2; exact (by (with_reducible repeat (first | apply Kd.R_alloc | apply Kd.R_drewN | apply Kd.R_drew)); exact (Kd.R_mono (Kd.R_far (p := ⟨gb268, 2, none⟩) (Kd.R_far (p := ⟨gb268, 1, none⟩) (Kd.R_far (p := ⟨gb268, 0, none⟩) (Kd.R_types HO261.out BK268.out (by decide)) (fun _ hk => hk.2) (.int .i64 t262)) (fun _ hk => hk.2) (.int .i64 t263)) (fun _ hk => hk.2) (.slice Ao29 t264.length co29)) (fun _ h_ => h_.1)))); (case side2 => exact (Kd.R_reads' HO261.out).2.1); rintro e w30 ⟨v272, rfl, ho0, hb⟩; refine ⟨_, rfl, ?_⟩; have n0_ := Aside0.mk (Kd.R_below (by (with_reducible repeat (first | apply Kd.R_alloc | apply Kd.R_drewN | apply Kd.R_drew)); exact (Kd.R_mono (Kd.R_far (p := ⟨gb268, 2, none⟩) (Kd.R_far (p := ⟨gb268, 1, none⟩) (Kd.R_far (p := ⟨gb268, 0, none⟩) (Kd.R_types HO261.out BK268.out (by decide)) (fun _ hk => hk.2) (.int .i64 t262)) (fun _ hk => hk.2) (.int .i64 t263)) (fun _ hk => hk.2) (.slice Ao29 t264.length co29)) (fun _ h_ => h_.1))) hb); have n1_ := Aside0.mk (Kd.R_elder' (by (with_reducible repeat (first | apply Kd.R_alloc | apply Kd.R_drewN | apply Kd.R_drew)); exact (Kd.R_mono (Kd.R_far (p := ⟨gb268, 2, none⟩) (Kd.R_far (p := ⟨gb268, 1, none⟩) (Kd.R_far (p := ⟨gb268, 0, none⟩) (Kd.R_types HO266.out BK268.out (by decide)) (fun _ hk => hk.2) (.int .i64 t262)) (fun _ hk => hk.2) (.int .i64 t263)) (fun _ hk => hk.2) (.slice Ao29 t264.length co29)) (fun _ h_ => h_.1))) (Kd.R_base ho0) hb); have n2_ := Aside0.mk (Kd.R_lower (Kd.R_new' ho0 (Kd.R_lt (by (with_reducible repeat (first | apply Kd.R_alloc | apply Kd.R_drewN | apply Kd.R_drew)); exact (Kd.R_mono (Kd.R_far (p := ⟨gb268, 2, none⟩) (Kd.R_far (p := ⟨gb268, 1, none⟩) (Kd.R_far (p := ⟨gb268, 0, none⟩) (Kd.R_types HO266.out BK268.out (by decide)) (fun _ hk => hk.2) (.int .i64 t262)) (fun _ hk => hk.2) (.int .i64 t263)) (fun _ hk => hk.2) (.slice Ao29 t264.length co29)) (fun _ h_ => h_.1))))) (below_size (by repeat (first | (with_reducible first | exact HB.out | apply below_alloc | apply pw_below_drewN | apply below_drew1 | refine below_set ?_ GE268.out) | exact HB.out)))); have n3_ := Aside0.mk (blk_below (g := gb268) (o := .cells #[.int .i64 t262, .int .i64 t263, .slice Ao29 t264.length co29] 57 (0, 0)) (by (with_reducible repeat (first | refine blk_drewN ?_ _ | refine blk_drew ?_ | refine blk_alloc ?_ _)); refine blk_put (cs := #[.int .i64 t262, .int .i64 t263, .slice none 0 0]) ?_ 2 _ rfl; (with_reducible repeat (first | refine blk_drewN ?_ _ | refine blk_drew ?_ | refine blk_alloc ?_ _)); refine blk_put (cs := #[.int .i64 t262, .int .i64 0, .slice none 0 0]) ?_ 1 _ rfl; (with_reducible repeat (first | refine blk_drewN ?_ _ | refine blk_drew ?_ | refine blk_alloc ?_ _)); refine blk_put (cs := #[.int .i64 0, .int .i64 0, .slice none 0 0]) ?_ 0 _ rfl; (with_reducible repeat (first | refine blk_drewN ?_ _ | refine blk_drew ?_ | refine blk_alloc ?_ _)); exact BK268.out) hb); have n4_ := Aside0.mk (below_step (by repeat (first | (with_reducible first | exact HB.out | apply below_alloc | apply pw_below_drewN | apply below_drew1 | refine below_set ?_ GE268.out) | exact HB.out)) hb); clear HO261; clear HO266; clear BK268; clear HB; have HO261 := n0_; have HO266 := n1_; have HO273 := n2_; have BK268 := n3_; have HB := n4_; clear n0_ n1_ n2_ n3_ n4_; (try clear hb); (try clear hb2); (try clear hk); (try clear hi); (try clear ho0)) | ((with_reducible refine gate_dst (N := 4) rfl ?_); (try (refine gate_guard (by rfl) ?_; dsimp only)); refine box_event ?hg (N := 4) ?hd (cs := #[.int .i64 0, .int .i64 0, .slice none 0 0]) (t := 57) ?hr ?_; (case hd => rfl); (case hg => rfl); (case hr => first | (go_simp; done) | (go_simp; rfl)); intro gb275 hg w31 hbox hb; have n0_ := Aside0.mk (Kd.R_below (by (with_reducible repeat (first | apply Kd.R_alloc | apply Kd.R_drewN | apply Kd.R_drew)); exact HO261.out) hb); have n1_ := Aside0.mk (Kd.R_below (by (with_reducible repeat (first | apply Kd.R_alloc | apply Kd.R_drewN | apply Kd.R_drew)); exact HO266.out) hb); have n2_ := Aside0.mk (Kd.R_below (by (with_reducible repeat (first | apply Kd.R_alloc | apply Kd.R_drewN | apply Kd.R_drew)); exact HO273.out) hb); have n3_ := Aside0.mk (blk_below (g := gb268) (o := .cells #[.int .i64 t262, .int .i64 t263, .slice Ao29 t264.length co29] 57 (0, 0)) (by (with_reducible repeat (first | refine blk_drewN ?_ _ | refine blk_drew ?_ | refine blk_alloc ?_ _)); exact BK268.out) hb); have n4_ := Aside0.mk (below_step (by repeat (first | (with_reducible first | exact HB.out | apply below_alloc | apply pw_below_drewN | apply below_drew1 | refine below_set ?_ GE268.out) | exact HB.out)) hb); have n5_ := Aside0.mk (hbox); have n6_ := Aside0.mk ((by rw [hg]; exact (below_size (by repeat (first | (with_reducible first | exact HB.out | apply below_alloc | apply pw_below_drewN | apply below_drew1 | refine below_set ?_ GE268.out) | exact HB.out))) : w.heap.size ≤ gb275)); have n7_ := Aside0.mk ((by rw [hg]; exact (below_size (by repeat (first | (with_reducible first | exact HB.out | apply below_alloc | apply pw_below_drewN | apply below_drew1 | refine below_set ?_ GE268.out) | exact HB.out))) : w.heap.size ≤ gb275)); have n8_ := Aside0.mk ((by rw [hg]; exact Nat.ne_of_lt (blk_lt (g := gb268) (o := .cells #[.int .i64 t262, .int .i64 t263, .slice Ao29 t264.length co29] 57 (0, 0)) (by (with_reducible repeat (first | refine blk_drewN ?_ _ | refine blk_drew ?_ | refine blk_alloc ?_ _)); exact BK268.out)) : gb268 ≠ gb275)); have n9_ := Aside0.mk ((by rw [hg]; exact Nat.ne_of_gt (blk_lt (g := gb268) (o := .cells #[.int .i64 t262, .int .i64 t263, .slice Ao29 t264.length co29] 57 (0, 0)) (by (with_reducible repeat (first | refine blk_drewN ?_ _ | refine blk_drew ?_ | refine blk_alloc ?_ _)); exact BK268.out)) : gb275 ≠ gb268)); clear HO261; clear HO266; clear HO273; clear BK268; clear HB; have HO261 := n0_; have HO266 := n1_; have HO273 := n2_; have BK268 := n3_; have HB := n4_; have BK275 := n5_; have GW275 := n6_; have GE275 := n7_; have NB268_275 := n8_; have NB275_268 := n9_; clear n0_ n1_ n2_ n3_ n4_ n5_ n6_ n7_ n8_ n9_; clear hb hbox hg; have hnb32 := NB275_268.out; have hnc32 := NB268_275.out; have hcz33_0 : w31.cell? ⟨gb275, 0, none⟩ = some (.int .i64 0) := (blk_cell BK275.out 0).trans rfl; have hcz33_1 : w31.cell? ⟨gb275, 1, none⟩ = some (.int .i64 0) := (blk_cell BK275.out 1).trans rfl; have hcz33_2 : w31.cell? ⟨gb275, 2, none⟩ = some (.slice none 0 0) := (blk_cell BK275.out 2).trans rfl; have hfz33_0 := blk_frozen BK275.out 0; have hfz33_1 := blk_frozen BK275.out 1; have hfz33_2 := blk_frozen BK275.out 2; obtain ⟨Ao34, co34, eo34⟩ := Kd.R_slice HO273.out; subst eo34; have hcz35_0 : w31.cell? ⟨gb268, 0, none⟩ = some (.int .i64 t262) := (blk_cell BK268.out 0).trans rfl; have hcz35_1 : w31.cell? ⟨gb268, 1, none⟩ = some (.int .i64 t263) := (blk_cell BK268.out 1).trans rfl; have hcz35_2 : w31.cell? ⟨gb268, 2, none⟩ = some (.slice Ao29 t264.length co29) := (blk_cell BK268.out 2).trans rfl; have hfz35_0 := blk_frozen BK268.out 0; have hfz35_1 := blk_frozen BK268.out 1; have hfz35_2 := blk_frozen BK268.out 2; have p276 : 0 ≤ (0 : Int) := (by omega); have q276 : 0 < (t264.length : Int) := of_decide_eq_true (by first | (with_reducible assumption) | assumption); obtain ⟨ad276, e276, hx276_0⟩ := Kd.at_int (Kd.R_reads' HO266.out).2.2 0 p276 q276; cases e276; have qi276 : (0 < t264.length) = True := eq_true (by omega); (try rw [show ((0 : Int)).toNat = 0 from rfl] at hx276_0); (try rw [Addr.add_zero'] at hx276_0); have hn276_0 : ad276.block ≠ gb275 := Kd.own_blk (Kd.R_ne HO266.out BK275.out (by decide)); have hn276_1 : ad276.block ≠ gb275 := Kd.own_blk (Kd.R_ne HO266.out BK275.out (by decide)); have hn276_2 : ad276.block ≠ gb275 := Kd.own_blk (Kd.R_ne HO266.out BK275.out (by decide)); replace hx276_0 := (cell_far (p := ⟨gb275, 0, none⟩) (by first | (rw [add_block]; exact hn276_0) | (show (Addr.add _ _).block ≠ _; rw [add_block]; exact hn276_0) | exact hn276_0) (.int .i64 t269)).trans hx276_0; replace hx276_0 := (cell_far (p := ⟨gb275, 1, none⟩) (by first | (rw [add_block]; exact hn276_1) | (show (Addr.add _ _).block ≠ _; rw [add_block]; exact hn276_1) | exact hn276_1) (.int .i64 t270)).trans hx276_0; replace hx276_0 := (cell_far (p := ⟨gb275, 2, none⟩) (by first | (rw [add_block]; exact hn276_2) | (show (Addr.add _ _).block ≠ _; rw [add_block]; exact hn276_2) | exact hn276_2) (.slice Ao34 t271.length co34)).trans hx276_0; clear hn276_0; clear hn276_1; clear hn276_2; replace p276 := eq_true p276; replace q276 := eq_true q276; have p277 : 0 ≤ (5 : Int) := (by omega); have q277 : 5 < (t264.length : Int) := of_decide_eq_true (by first | (with_reducible assumption) | assumption); obtain ⟨ad277, e277, hx277_0⟩ := Kd.at_int (Kd.R_reads' HO266.out).2.2 5 p277 q277; obtain rfl : ad276 = ad277 := (by injection e277); (try simp only [show (5 : Int).toNat = 5 from rfl, Nat.reduceMul, Nat.reduceEqDiff, Go.Addr.add, ↓reduceIte] at hx277_0); have qi277 : (5 < t264.length) = True := eq_true (by omega); (try rw [show ((5 : Int)).toNat = 5 from rfl] at hx277_0); have hn277_0 : ad276.block ≠ gb275 := Kd.own_blk (Kd.R_ne HO266.out BK275.out (by decide)); have hn277_1 : ad276.block ≠ gb275 := Kd.own_blk (Kd.R_ne HO266.out BK275.out (by decide)); have hn277_2 : ad276.block ≠ gb275 := Kd.own_blk (Kd.R_ne HO266.out BK275.out (by decide)); replace hx277_0 := (cell_far (p := ⟨gb275, 0, none⟩) (by first | (rw [add_block]; exact hn277_0) | (show (Addr.add _ _).block ≠ _; rw [add_block]; exact hn277_0) | exact hn277_0) (.int .i64 t269)).trans hx277_0; replace hx277_0 := (cell_far (p := ⟨gb275, 1, none⟩) (by first | (rw [add_block]; exact hn277_1) | (show (Addr.add _ _).block ≠ _; rw [add_block]; exact hn277_1) | exact hn277_1) (.int .i64 t270)).trans hx277_0; replace hx277_0 := (cell_far (p := ⟨gb275, 2, none⟩) (by first | (rw [add_block]; exact hn277_2) | (show (Addr.add _ _).block ≠ _; rw [add_block]; exact hn277_2) | exact hn277_2) (.slice Ao34 t271.length co34)).trans hx277_0; clear hn277_0; clear hn277_1; clear hn277_2; replace p277 := eq_true p277; replace q277 := eq_true q277))
                go_ret
                exact ⟨by first | rfl | (simp [errW_none, errW_some] <;> rfl) | (simp [*, errW_none, errW_some] <;> rfl), by repeat (first | (with_reducible first | exact HB.out | apply below_alloc | apply pw_below_drewN | apply below_drew1 | refine below_set ?_ GE268.out | refine below_set ?_ GE275.out) | exact HB.out)⟩
            · rw [if_neg c8] at H
              exact absurd H (by simp)
          · rw [if_neg c7] at H
            have c7b0 : decide ((rd t264 0) < 128) = false := decide_eq_false c7
            clear c7
            obtain rfl := Option.some.inj H
            go_enter Try.func34, Try.ntmps34
            go_wp2_with (first | ((with_reducible refine gate_dst (N := 15) rfl ?_); (try (refine gate_guard (by rfl) ?_; dsimp only)); refine Kd.R_lit k40 _ 40 ?hg (N := 15) ?hd (xs := ([(⟨(⟨0, 0⟩ : S32), (⟨320, 0⟩ : S32)⟩ : S40), (⟨(⟨320, 0⟩ : S32), (⟨0, 320⟩ : S32)⟩ : S40), (⟨(⟨0, 320⟩ : S32), (⟨0, 0⟩ : S32)⟩ : S40)] : List (S40))) (inner := [.int .i64 0, .int .i64 0, .int .i64 320, .int .i64 0, .int .i64 320, .int .i64 0, .int .i64 0, .int .i64 320, .int .i64 0, .int .i64 320, .int .i64 0, .int .i64 0]) (ok := fun _ => True) (okp := fun _ => True) ?hr ?hp (fun _ hk => hk) trivial (Below.refl _ _) (Nat.le_refl _) (by simp) ?_; (case hd => rfl); (case hg => rfl); (case hr => first | (go_simp; done) | (go_simp; rfl)); (case hp => exact (Reps.c4 (show Kd.M k40 _ _ _ (⟨(⟨0, 0⟩ : S32), (⟨320, 0⟩ : S32)⟩ : S40) [.int .i64 0, .int .i64 0, .int .i64 320, .int .i64 0] from (k40_mkM _ _ _ (⟨(⟨0, 0⟩ : S32), (⟨320, 0⟩ : S32)⟩ : S40) )) (Reps.c4 (show Kd.M k40 _ _ _ (⟨(⟨320, 0⟩ : S32), (⟨0, 320⟩ : S32)⟩ : S40) [.int .i64 320, .int .i64 0, .int .i64 0, .int .i64 320] from (k40_mkM _ _ _ (⟨(⟨320, 0⟩ : S32), (⟨0, 320⟩ : S32)⟩ : S40) )) (Reps.c4 (show Kd.M k40 _ _ _ (⟨(⟨0, 320⟩ : S32), (⟨0, 0⟩ : S32)⟩ : S40) [.int .i64 0, .int .i64 320, .int .i64 0, .int .i64 0] from (k40_mkM _ _ _ (⟨(⟨0, 320⟩ : S32), (⟨0, 0⟩ : S32)⟩ : S40) )) (Reps.none _ _))))); intro v260 w36 ho37 hb hg_ hnew_; clear hg_ hnew_; (first | rw [← Ny259.out] at ho37 | (simp only [Int.reduceToNat] at ho37; rw [← Ny259.out] at ho37)); have n0_ := Aside0.mk (Kd.R_lower ho37 (below_size (by repeat (first | (with_reducible first | exact HB.out | apply below_alloc | apply pw_below_drewN | apply below_drew1) | exact HB.out)))); have n1_ := Aside0.mk (below_step (by repeat (first | (with_reducible first | exact HB.out | apply below_alloc | apply pw_below_drewN | apply below_drew1) | exact HB.out)) hb); clear HB; have HO261 := n0_; have HB := n1_; clear n0_ n1_; clear hb ho37; obtain ⟨Ao38, co38, eo38⟩ := Kd.R_slice HO261.out; subst eo38) | ((with_reducible refine gate_callee (f := 32) rfl ?_); refine goesL_ (some 19) rfl rfl Try.func32 (by kernel_rfl) rfl #[.slice Ao38 y259.length co38, .agg #[.int .i64 (-2), .int .i64 (-2), .int .i64 2, .int .i64 4, .int .i64 4, .int .i64 8]] rfl (by (try simp only [List.map_toArray, List.map_cons, List.map_nil]); first | done | rfl | (simp only [List.length_drop, List.length_take]; rfl)) ?_; (with_reducible refine (sdf_Make.calls k _ _ y259 (-2) (-2) 2 4 4 8 t262 t263 t264 t267 _ ?side1 ?side2 A1.out).mono ?_); (case side1 => repeat (first | exact (Kd.R_reads' HO261.out).2.2 | (with_reducible refine Kd.C_alloc ?_ _) | (with_reducible refine Kd.C_drewN ?_ _) | (with_reducible refine Kd.C_drew ?_))); (case side2 => exact (Kd.R_reads' HO261.out).2.1); rintro e w39 ⟨v265, rfl, ho0, hb⟩; refine ⟨_, rfl, ?_⟩; have n0_ := Aside0.mk (Kd.R_below (by (with_reducible repeat (first | apply Kd.R_alloc | apply Kd.R_drewN | apply Kd.R_drew)); exact HO261.out) hb); have n1_ := Aside0.mk (Kd.R_lower ho0 (below_size (by repeat (first | (with_reducible first | exact HB.out | apply below_alloc | apply pw_below_drewN | apply below_drew1) | exact HB.out)))); have n2_ := Aside0.mk (below_step (by repeat (first | (with_reducible first | exact HB.out | apply below_alloc | apply pw_below_drewN | apply below_drew1) | exact HB.out)) hb); clear HO261; clear HB; have HO261 := n0_; have HO266 := n1_; have HB := n2_; clear n0_ n1_ n2_; (try clear hb); (try clear hb2); (try clear hk); (try clear hi); (try clear ho0)) | ((with_reducible refine gate_dst (N := 2) rfl ?_); (try (refine gate_guard (by rfl) ?_; dsimp only)); refine box_event ?hg (N := 2) ?hd (cs := #[.int .i64 0, .int .i64 0, .slice none 0 0]) (t := 57) ?hr ?_; (case hd => rfl); (case hg => rfl); (case hr => first | (go_simp; done) | (go_simp; rfl)); intro gb268 hg w40 hbox hb; have n0_ := Aside0.mk (Kd.R_below (by (with_reducible repeat (first | apply Kd.R_alloc | apply Kd.R_drewN | apply Kd.R_drew)); exact HO261.out) hb); have n1_ := Aside0.mk (Kd.R_below (by (with_reducible repeat (first | apply Kd.R_alloc | apply Kd.R_drewN | apply Kd.R_drew)); exact HO266.out) hb); have n2_ := Aside0.mk (below_step (by repeat (first | (with_reducible first | exact HB.out | apply below_alloc | apply pw_below_drewN | apply below_drew1) | exact HB.out)) hb); have n3_ := Aside0.mk (hbox); have n4_ := Aside0.mk ((by rw [hg]; exact (below_size (by repeat (first | (with_reducible first | exact HB.out | apply below_alloc | apply pw_below_drewN | apply below_drew1) | exact HB.out))) : w.heap.size ≤ gb268)); have n5_ := Aside0.mk ((by rw [hg]; exact (below_size (by repeat (first | (with_reducible first | exact HB.out | apply below_alloc | apply pw_below_drewN | apply below_drew1) | exact HB.out))) : w.heap.size ≤ gb268)); clear HO261; clear HO266; clear HB; have HO261 := n0_; have HO266 := n1_; have HB := n2_; have BK268 := n3_; have GW268 := n4_; have GE268 := n5_; clear n0_ n1_ n2_ n3_ n4_ n5_; clear hb hbox hg; have hcz41_0 : w40.cell? ⟨gb268, 0, none⟩ = some (.int .i64 0) := (blk_cell BK268.out 0).trans rfl; have hcz41_1 : w40.cell? ⟨gb268, 1, none⟩ = some (.int .i64 0) := (blk_cell BK268.out 1).trans rfl; have hcz41_2 : w40.cell? ⟨gb268, 2, none⟩ = some (.slice none 0 0) := (blk_cell BK268.out 2).trans rfl; have hfz41_0 := blk_frozen BK268.out 0; have hfz41_1 := blk_frozen BK268.out 1; have hfz41_2 := blk_frozen BK268.out 2; obtain ⟨Ao42, co42, eo42⟩ := Kd.R_slice HO266.out; subst eo42) | ((with_reducible refine gate_callee (f := 32) rfl ?_); refine goesL_ (some 25) rfl rfl Try.func32 (by kernel_rfl) rfl #[.slice Ao38 y259.length co38, .agg #[.int .i64 0, .int .i64 0, .int .i64 0, .int .i64 0, .int .i64 0, .int .i64 0]] rfl (by (try simp only [List.map_toArray, List.map_cons, List.map_nil]); first | done | rfl | (simp only [List.length_drop, List.length_take]; rfl)) ?_; (with_reducible refine (sdf_Make.calls k _ _ y259 0 0 0 0 0 0 t269 t270 t271 t274 _ ?side1 ?side2 A2.out).mono ?_); (case side1 => refine (Kd.R_reads' (e := 40) (base := w.heap.size) (ok := fun k_ => True) (n := y259.length) (c := co38) ?_).2.2; exact (by (with_reducible repeat (first | apply Kd.R_alloc | apply Kd.R_drewN | apply Kd.R_drew)); exact (Kd.R_mono (Kd.R_far (p := ⟨gb268, 2, none⟩) (Kd.R_far (p := ⟨gb268, 1, none⟩) (Kd.R_far (p := ⟨gb268, 0, none⟩) (Kd.R_types HO261.out BK268.out (by decide)) (fun _ hk => hk.2) (.int .i64 t262)) (fun _ hk => hk.2) (.int .i64 t263)) (fun _ hk => hk.2) (.slice Ao42 t264.length co42)) (fun _ h_ => h_.1)))); (case side2 => exact (Kd.R_reads' HO261.out).2.1); rintro e w43 ⟨v272, rfl, ho0, hb⟩; refine ⟨_, rfl, ?_⟩; have n0_ := Aside0.mk (Kd.R_below (by (with_reducible repeat (first | apply Kd.R_alloc | apply Kd.R_drewN | apply Kd.R_drew)); exact (Kd.R_mono (Kd.R_far (p := ⟨gb268, 2, none⟩) (Kd.R_far (p := ⟨gb268, 1, none⟩) (Kd.R_far (p := ⟨gb268, 0, none⟩) (Kd.R_types HO261.out BK268.out (by decide)) (fun _ hk => hk.2) (.int .i64 t262)) (fun _ hk => hk.2) (.int .i64 t263)) (fun _ hk => hk.2) (.slice Ao42 t264.length co42)) (fun _ h_ => h_.1))) hb); have n1_ := Aside0.mk (Kd.R_elder' (by (with_reducible repeat (first | apply Kd.R_alloc | apply Kd.R_drewN | apply Kd.R_drew)); exact (Kd.R_mono (Kd.R_far (p := ⟨gb268, 2, none⟩) (Kd.R_far (p := ⟨gb268, 1, none⟩) (Kd.R_far (p := ⟨gb268, 0, none⟩) (Kd.R_types HO266.out BK268.out (by decide)) (fun _ hk => hk.2) (.int .i64 t262)) (fun _ hk => hk.2) (.int .i64 t263)) (fun _ hk => hk.2) (.slice Ao42 t264.length co42)) (fun _ h_ => h_.1))) (Kd.R_base ho0) hb); have n2_ := Aside0.mk (Kd.R_lower (Kd.R_new' ho0 (Kd.R_lt (by (with_reducible repeat (first | apply Kd.R_alloc | apply Kd.R_drewN | apply Kd.R_drew)); exact (Kd.R_mono (Kd.R_far (p := ⟨gb268, 2, none⟩) (Kd.R_far (p := ⟨gb268, 1, none⟩) (Kd.R_far (p := ⟨gb268, 0, none⟩) (Kd.R_types HO266.out BK268.out (by decide)) (fun _ hk => hk.2) (.int .i64 t262)) (fun _ hk => hk.2) (.int .i64 t263)) (fun _ hk => hk.2) (.slice Ao42 t264.length co42)) (fun _ h_ => h_.1))))) (below_size (by repeat (first | (with_reducible first | exact HB.out | apply below_alloc | apply pw_below_drewN | apply below_drew1 | refine below_set ?_ GE268.out) | exact HB.out)))); have n3_ := Aside0.mk (blk_below (g := gb268) (o := .cells #[.int .i64 t262, .int .i64 t263, .slice Ao42 t264.length co42] 57 (0, 0)) (by (with_reducible repeat (first | refine blk_drewN ?_ _ | refine blk_drew ?_ | refine blk_alloc ?_ _)); refine blk_put (cs := #[.int .i64 t262, .int .i64 t263, .slice none 0 0]) ?_ 2 _ rfl; (with_reducible repeat (first | refine blk_drewN ?_ _ | refine blk_drew ?_ | refine blk_alloc ?_ _)); refine blk_put (cs := #[.int .i64 t262, .int .i64 0, .slice none 0 0]) ?_ 1 _ rfl; (with_reducible repeat (first | refine blk_drewN ?_ _ | refine blk_drew ?_ | refine blk_alloc ?_ _)); refine blk_put (cs := #[.int .i64 0, .int .i64 0, .slice none 0 0]) ?_ 0 _ rfl; (with_reducible repeat (first | refine blk_drewN ?_ _ | refine blk_drew ?_ | refine blk_alloc ?_ _)); exact BK268.out) hb); have n4_ := Aside0.mk (below_step (by repeat (first | (with_reducible first | exact HB.out | apply below_alloc | apply pw_below_drewN | apply below_drew1 | refine below_set ?_ GE268.out) | exact HB.out)) hb); clear HO261; clear HO266; clear BK268; clear HB; have HO261 := n0_; have HO266 := n1_; have HO273 := n2_; have BK268 := n3_; have HB := n4_; clear n0_ n1_ n2_ n3_ n4_; (try clear hb); (try clear hb2); (try clear hk); (try clear hi); (try clear ho0)) | ((with_reducible refine gate_dst (N := 4) rfl ?_); (try (refine gate_guard (by rfl) ?_; dsimp only)); refine box_event ?hg (N := 4) ?hd (cs := #[.int .i64 0, .int .i64 0, .slice none 0 0]) (t := 57) ?hr ?_; (case hd => rfl); (case hg => rfl); (case hr => first | (go_simp; done) | (go_simp; rfl)); intro gb275 hg w44 hbox hb; have n0_ := Aside0.mk (Kd.R_below (by (with_reducible repeat (first | apply Kd.R_alloc | apply Kd.R_drewN | apply Kd.R_drew)); exact HO261.out) hb); have n1_ := Aside0.mk (Kd.R_below (by (with_reducible repeat (first | apply Kd.R_alloc | apply Kd.R_drewN | apply Kd.R_drew)); exact HO266.out) hb); have n2_ := Aside0.mk (Kd.R_below (by (with_reducible repeat (first | apply Kd.R_alloc | apply Kd.R_drewN | apply Kd.R_drew)); exact HO273.out) hb); have n3_ := Aside0.mk (blk_below (g := gb268) (o := .cells #[.int .i64 t262, .int .i64 t263, .slice Ao42 t264.length co42] 57 (0, 0)) (by (with_reducible repeat (first | refine blk_drewN ?_ _ | refine blk_drew ?_ | refine blk_alloc ?_ _)); exact BK268.out) hb); have n4_ := Aside0.mk (below_step (by repeat (first | (with_reducible first | exact HB.out | apply below_alloc | apply pw_below_drewN | apply below_drew1 | refine below_set ?_ GE268.out) | exact HB.out)) hb); have n5_ := Aside0.mk (hbox); have n6_ := Aside0.mk ((by rw [hg]; exact (below_size (by repeat (first | (with_reducible first | exact HB.out | apply below_alloc | apply pw_below_drewN | apply below_drew1 | refine below_set ?_ GE268.out) | exact HB.out))) : w.heap.size ≤ gb275)); have n7_ := Aside0.mk ((by rw [hg]; exact (below_size (by repeat (first | (with_reducible first | exact HB.out | apply below_alloc | apply pw_below_drewN | apply below_drew1 | refine below_set ?_ GE268.out) | exact HB.out))) : w.heap.size ≤ gb275)); have n8_ := Aside0.mk ((by rw [hg]; exact Nat.ne_of_lt (blk_lt (g := gb268) (o := .cells #[.int .i64 t262, .int .i64 t263, .slice Ao42 t264.length co42] 57 (0, 0)) (by (with_reducible repeat (first | refine blk_drewN ?_ _ | refine blk_drew ?_ | refine blk_alloc ?_ _)); exact BK268.out)) : gb268 ≠ gb275)); have n9_ := Aside0.mk ((by rw [hg]; exact Nat.ne_of_gt (blk_lt (g := gb268) (o := .cells #[.int .i64 t262, .int .i64 t263, .slice Ao42 t264.length co42] 57 (0, 0)) (by (with_reducible repeat (first | refine blk_drewN ?_ _ | refine blk_drew ?_ | refine blk_alloc ?_ _)); exact BK268.out)) : gb275 ≠ gb268)); clear HO261; clear HO266; clear HO273; clear BK268; clear HB; have HO261 := n0_; have HO266 := n1_; have HO273 := n2_; have BK268 := n3_; have HB := n4_; have BK275 := n5_; have GW275 := n6_; have GE275 := n7_; have NB268_275 := n8_; have NB275_268 := n9_; clear n0_ n1_ n2_ n3_ n4_ n5_ n6_ n7_ n8_ n9_; clear hb hbox hg; have hnb45 := NB275_268.out; have hnc45 := NB268_275.out; have hcz46_0 : w44.cell? ⟨gb275, 0, none⟩ = some (.int .i64 0) := (blk_cell BK275.out 0).trans rfl; have hcz46_1 : w44.cell? ⟨gb275, 1, none⟩ = some (.int .i64 0) := (blk_cell BK275.out 1).trans rfl; have hcz46_2 : w44.cell? ⟨gb275, 2, none⟩ = some (.slice none 0 0) := (blk_cell BK275.out 2).trans rfl; have hfz46_0 := blk_frozen BK275.out 0; have hfz46_1 := blk_frozen BK275.out 1; have hfz46_2 := blk_frozen BK275.out 2; obtain ⟨Ao47, co47, eo47⟩ := Kd.R_slice HO273.out; subst eo47; have hcz48_0 : w44.cell? ⟨gb268, 0, none⟩ = some (.int .i64 t262) := (blk_cell BK268.out 0).trans rfl; have hcz48_1 : w44.cell? ⟨gb268, 1, none⟩ = some (.int .i64 t263) := (blk_cell BK268.out 1).trans rfl; have hcz48_2 : w44.cell? ⟨gb268, 2, none⟩ = some (.slice Ao42 t264.length co42) := (blk_cell BK268.out 2).trans rfl; have hfz48_0 := blk_frozen BK268.out 0; have hfz48_1 := blk_frozen BK268.out 1; have hfz48_2 := blk_frozen BK268.out 2; have p276 : 0 ≤ (0 : Int) := (by omega); have q276 : 0 < (t264.length : Int) := of_decide_eq_true (by first | (with_reducible assumption) | assumption); obtain ⟨ad276, e276, hx276_0⟩ := Kd.at_int (Kd.R_reads' HO266.out).2.2 0 p276 q276; cases e276; have qi276 : (0 < t264.length) = True := eq_true (by omega); (try rw [show ((0 : Int)).toNat = 0 from rfl] at hx276_0); (try rw [Addr.add_zero'] at hx276_0); have hn276_0 : ad276.block ≠ gb275 := Kd.own_blk (Kd.R_ne HO266.out BK275.out (by decide)); have hn276_1 : ad276.block ≠ gb275 := Kd.own_blk (Kd.R_ne HO266.out BK275.out (by decide)); have hn276_2 : ad276.block ≠ gb275 := Kd.own_blk (Kd.R_ne HO266.out BK275.out (by decide)); replace hx276_0 := (cell_far (p := ⟨gb275, 0, none⟩) (by first | (rw [add_block]; exact hn276_0) | (show (Addr.add _ _).block ≠ _; rw [add_block]; exact hn276_0) | exact hn276_0) (.int .i64 t269)).trans hx276_0; replace hx276_0 := (cell_far (p := ⟨gb275, 1, none⟩) (by first | (rw [add_block]; exact hn276_1) | (show (Addr.add _ _).block ≠ _; rw [add_block]; exact hn276_1) | exact hn276_1) (.int .i64 t270)).trans hx276_0; replace hx276_0 := (cell_far (p := ⟨gb275, 2, none⟩) (by first | (rw [add_block]; exact hn276_2) | (show (Addr.add _ _).block ≠ _; rw [add_block]; exact hn276_2) | exact hn276_2) (.slice Ao47 t271.length co47)).trans hx276_0; clear hn276_0; clear hn276_1; clear hn276_2; replace p276 := eq_true p276; replace q276 := eq_true q276))
            go_ret
            exact ⟨by first | rfl | (simp [errW_none, errW_some] <;> rfl) | (simp [*, errW_none, errW_some] <;> rfl), by repeat (first | (with_reducible first | exact HB.out | apply below_alloc | apply pw_below_drewN | apply below_drew1 | refine below_set ?_ GE268.out | refine below_set ?_ GE275.out) | exact HB.out)⟩
        · rw [if_neg c6] at H
          exact absurd H (by simp)
      · rw [if_neg c5] at H
        have c5b0 : ((t264.length : Int) == 16) = false := beq_eq_false_iff_ne.mpr c5
        have c5b1 : ((t264.length : Int) != 16) = true := bne_iff_ne.mpr c5
        obtain rfl := Option.some.inj H
        go_enter Try.func34, Try.ntmps34
        go_wp2_with (first | ((with_reducible refine gate_dst (N := 15) rfl ?_); (try (refine gate_guard (by rfl) ?_; dsimp only)); refine Kd.R_lit k40 _ 40 ?hg (N := 15) ?hd (xs := ([(⟨(⟨0, 0⟩ : S32), (⟨320, 0⟩ : S32)⟩ : S40), (⟨(⟨320, 0⟩ : S32), (⟨0, 320⟩ : S32)⟩ : S40), (⟨(⟨0, 320⟩ : S32), (⟨0, 0⟩ : S32)⟩ : S40)] : List (S40))) (inner := [.int .i64 0, .int .i64 0, .int .i64 320, .int .i64 0, .int .i64 320, .int .i64 0, .int .i64 0, .int .i64 320, .int .i64 0, .int .i64 320, .int .i64 0, .int .i64 0]) (ok := fun _ => True) (okp := fun _ => True) ?hr ?hp (fun _ hk => hk) trivial (Below.refl _ _) (Nat.le_refl _) (by simp) ?_; (case hd => rfl); (case hg => rfl); (case hr => first | (go_simp; done) | (go_simp; rfl)); (case hp => exact (Reps.c4 (show Kd.M k40 _ _ _ (⟨(⟨0, 0⟩ : S32), (⟨320, 0⟩ : S32)⟩ : S40) [.int .i64 0, .int .i64 0, .int .i64 320, .int .i64 0] from (k40_mkM _ _ _ (⟨(⟨0, 0⟩ : S32), (⟨320, 0⟩ : S32)⟩ : S40) )) (Reps.c4 (show Kd.M k40 _ _ _ (⟨(⟨320, 0⟩ : S32), (⟨0, 320⟩ : S32)⟩ : S40) [.int .i64 320, .int .i64 0, .int .i64 0, .int .i64 320] from (k40_mkM _ _ _ (⟨(⟨320, 0⟩ : S32), (⟨0, 320⟩ : S32)⟩ : S40) )) (Reps.c4 (show Kd.M k40 _ _ _ (⟨(⟨0, 320⟩ : S32), (⟨0, 0⟩ : S32)⟩ : S40) [.int .i64 0, .int .i64 320, .int .i64 0, .int .i64 0] from (k40_mkM _ _ _ (⟨(⟨0, 320⟩ : S32), (⟨0, 0⟩ : S32)⟩ : S40) )) (Reps.none _ _))))); intro v260 w49 ho50 hb hg_ hnew_; clear hg_ hnew_; (first | rw [← Ny259.out] at ho50 | (simp only [Int.reduceToNat] at ho50; rw [← Ny259.out] at ho50)); have n0_ := Aside0.mk (Kd.R_lower ho50 (below_size (by repeat (first | (with_reducible first | exact HB.out | apply below_alloc | apply pw_below_drewN | apply below_drew1) | exact HB.out)))); have n1_ := Aside0.mk (below_step (by repeat (first | (with_reducible first | exact HB.out | apply below_alloc | apply pw_below_drewN | apply below_drew1) | exact HB.out)) hb); clear HB; have HO261 := n0_; have HB := n1_; clear n0_ n1_; clear hb ho50; obtain ⟨Ao51, co51, eo51⟩ := Kd.R_slice HO261.out; subst eo51) | ((with_reducible refine gate_callee (f := 32) rfl ?_); refine goesL_ (some 19) rfl rfl Try.func32 (by kernel_rfl) rfl #[.slice Ao51 y259.length co51, .agg #[.int .i64 (-2), .int .i64 (-2), .int .i64 2, .int .i64 4, .int .i64 4, .int .i64 8]] rfl (by (try simp only [List.map_toArray, List.map_cons, List.map_nil]); first | done | rfl | (simp only [List.length_drop, List.length_take]; rfl)) ?_; (with_reducible refine (sdf_Make.calls k _ _ y259 (-2) (-2) 2 4 4 8 t262 t263 t264 t267 _ ?side1 ?side2 A1.out).mono ?_); (case side1 => repeat (first | exact (Kd.R_reads' HO261.out).2.2 | (with_reducible refine Kd.C_alloc ?_ _) | (with_reducible refine Kd.C_drewN ?_ _) | (with_reducible refine Kd.C_drew ?_))); (case side2 => exact (Kd.R_reads' HO261.out).2.1); rintro e w52 ⟨v265, rfl, ho0, hb⟩; refine ⟨_, rfl, ?_⟩; have n0_ := Aside0.mk (Kd.R_below (by (with_reducible repeat (first | apply Kd.R_alloc | apply Kd.R_drewN | apply Kd.R_drew)); exact HO261.out) hb); have n1_ := Aside0.mk (Kd.R_lower ho0 (below_size (by repeat (first | (with_reducible first | exact HB.out | apply below_alloc | apply pw_below_drewN | apply below_drew1) | exact HB.out)))); have n2_ := Aside0.mk (below_step (by repeat (first | (with_reducible first | exact HB.out | apply below_alloc | apply pw_below_drewN | apply below_drew1) | exact HB.out)) hb); clear HO261; clear HB; have HO261 := n0_; have HO266 := n1_; have HB := n2_; clear n0_ n1_ n2_; (try clear hb); (try clear hb2); (try clear hk); (try clear hi); (try clear ho0)) | ((with_reducible refine gate_dst (N := 2) rfl ?_); (try (refine gate_guard (by rfl) ?_; dsimp only)); refine box_event ?hg (N := 2) ?hd (cs := #[.int .i64 0, .int .i64 0, .slice none 0 0]) (t := 57) ?hr ?_; (case hd => rfl); (case hg => rfl); (case hr => first | (go_simp; done) | (go_simp; rfl)); intro gb268 hg w53 hbox hb; have n0_ := Aside0.mk (Kd.R_below (by (with_reducible repeat (first | apply Kd.R_alloc | apply Kd.R_drewN | apply Kd.R_drew)); exact HO261.out) hb); have n1_ := Aside0.mk (Kd.R_below (by (with_reducible repeat (first | apply Kd.R_alloc | apply Kd.R_drewN | apply Kd.R_drew)); exact HO266.out) hb); have n2_ := Aside0.mk (below_step (by repeat (first | (with_reducible first | exact HB.out | apply below_alloc | apply pw_below_drewN | apply below_drew1) | exact HB.out)) hb); have n3_ := Aside0.mk (hbox); have n4_ := Aside0.mk ((by rw [hg]; exact (below_size (by repeat (first | (with_reducible first | exact HB.out | apply below_alloc | apply pw_below_drewN | apply below_drew1) | exact HB.out))) : w.heap.size ≤ gb268)); have n5_ := Aside0.mk ((by rw [hg]; exact (below_size (by repeat (first | (with_reducible first | exact HB.out | apply below_alloc | apply pw_below_drewN | apply below_drew1) | exact HB.out))) : w.heap.size ≤ gb268)); clear HO261; clear HO266; clear HB; have HO261 := n0_; have HO266 := n1_; have HB := n2_; have BK268 := n3_; have GW268 := n4_; have GE268 := n5_; clear n0_ n1_ n2_ n3_ n4_ n5_; clear hb hbox hg; have hcz54_0 : w53.cell? ⟨gb268, 0, none⟩ = some (.int .i64 0) := (blk_cell BK268.out 0).trans rfl; have hcz54_1 : w53.cell? ⟨gb268, 1, none⟩ = some (.int .i64 0) := (blk_cell BK268.out 1).trans rfl; have hcz54_2 : w53.cell? ⟨gb268, 2, none⟩ = some (.slice none 0 0) := (blk_cell BK268.out 2).trans rfl; have hfz54_0 := blk_frozen BK268.out 0; have hfz54_1 := blk_frozen BK268.out 1; have hfz54_2 := blk_frozen BK268.out 2; obtain ⟨Ao55, co55, eo55⟩ := Kd.R_slice HO266.out; subst eo55) | ((with_reducible refine gate_callee (f := 32) rfl ?_); refine goesL_ (some 25) rfl rfl Try.func32 (by kernel_rfl) rfl #[.slice Ao51 y259.length co51, .agg #[.int .i64 0, .int .i64 0, .int .i64 0, .int .i64 0, .int .i64 0, .int .i64 0]] rfl (by (try simp only [List.map_toArray, List.map_cons, List.map_nil]); first | done | rfl | (simp only [List.length_drop, List.length_take]; rfl)) ?_; (with_reducible refine (sdf_Make.calls k _ _ y259 0 0 0 0 0 0 t269 t270 t271 t274 _ ?side1 ?side2 A2.out).mono ?_); (case side1 => refine (Kd.R_reads' (e := 40) (base := w.heap.size) (ok := fun k_ => True) (n := y259.length) (c := co51) ?_).2.2; exact (by (with_reducible repeat (first | apply Kd.R_alloc | apply Kd.R_drewN | apply Kd.R_drew)); exact (Kd.R_mono (Kd.R_far (p := ⟨gb268, 2, none⟩) (Kd.R_far (p := ⟨gb268, 1, none⟩) (Kd.R_far (p := ⟨gb268, 0, none⟩) (Kd.R_types HO261.out BK268.out (by decide)) (fun _ hk => hk.2) (.int .i64 t262)) (fun _ hk => hk.2) (.int .i64 t263)) (fun _ hk => hk.2) (.slice Ao55 t264.length co55)) (fun _ h_ => h_.1)))); (case side2 => exact (Kd.R_reads' HO261.out).2.1); rintro e w56 ⟨v272, rfl, ho0, hb⟩; refine ⟨_, rfl, ?_⟩; have n0_ := Aside0.mk (Kd.R_below (by (with_reducible repeat (first | apply Kd.R_alloc | apply Kd.R_drewN | apply Kd.R_drew)); exact (Kd.R_mono (Kd.R_far (p := ⟨gb268, 2, none⟩) (Kd.R_far (p := ⟨gb268, 1, none⟩) (Kd.R_far (p := ⟨gb268, 0, none⟩) (Kd.R_types HO261.out BK268.out (by decide)) (fun _ hk => hk.2) (.int .i64 t262)) (fun _ hk => hk.2) (.int .i64 t263)) (fun _ hk => hk.2) (.slice Ao55 t264.length co55)) (fun _ h_ => h_.1))) hb); have n1_ := Aside0.mk (Kd.R_elder' (by (with_reducible repeat (first | apply Kd.R_alloc | apply Kd.R_drewN | apply Kd.R_drew)); exact (Kd.R_mono (Kd.R_far (p := ⟨gb268, 2, none⟩) (Kd.R_far (p := ⟨gb268, 1, none⟩) (Kd.R_far (p := ⟨gb268, 0, none⟩) (Kd.R_types HO266.out BK268.out (by decide)) (fun _ hk => hk.2) (.int .i64 t262)) (fun _ hk => hk.2) (.int .i64 t263)) (fun _ hk => hk.2) (.slice Ao55 t264.length co55)) (fun _ h_ => h_.1))) (Kd.R_base ho0) hb); have n2_ := Aside0.mk (Kd.R_lower (Kd.R_new' ho0 (Kd.R_lt (by (with_reducible repeat (first | apply Kd.R_alloc | apply Kd.R_drewN | apply Kd.R_drew)); exact (Kd.R_mono (Kd.R_far (p := ⟨gb268, 2, none⟩) (Kd.R_far (p := ⟨gb268, 1, none⟩) (Kd.R_far (p := ⟨gb268, 0, none⟩) (Kd.R_types HO266.out BK268.out (by decide)) (fun _ hk => hk.2) (.int .i64 t262)) (fun _ hk => hk.2) (.int .i64 t263)) (fun _ hk => hk.2) (.slice Ao55 t264.length co55)) (fun _ h_ => h_.1))))) (below_size (by repeat (first | (with_reducible first | exact HB.out | apply below_alloc | apply pw_below_drewN | apply below_drew1 | refine below_set ?_ GE268.out) | exact HB.out)))); have n3_ := Aside0.mk (blk_below (g := gb268) (o := .cells #[.int .i64 t262, .int .i64 t263, .slice Ao55 t264.length co55] 57 (0, 0)) (by (with_reducible repeat (first | refine blk_drewN ?_ _ | refine blk_drew ?_ | refine blk_alloc ?_ _)); refine blk_put (cs := #[.int .i64 t262, .int .i64 t263, .slice none 0 0]) ?_ 2 _ rfl; (with_reducible repeat (first | refine blk_drewN ?_ _ | refine blk_drew ?_ | refine blk_alloc ?_ _)); refine blk_put (cs := #[.int .i64 t262, .int .i64 0, .slice none 0 0]) ?_ 1 _ rfl; (with_reducible repeat (first | refine blk_drewN ?_ _ | refine blk_drew ?_ | refine blk_alloc ?_ _)); refine blk_put (cs := #[.int .i64 0, .int .i64 0, .slice none 0 0]) ?_ 0 _ rfl; (with_reducible repeat (first | refine blk_drewN ?_ _ | refine blk_drew ?_ | refine blk_alloc ?_ _)); exact BK268.out) hb); have n4_ := Aside0.mk (below_step (by repeat (first | (with_reducible first | exact HB.out | apply below_alloc | apply pw_below_drewN | apply below_drew1 | refine below_set ?_ GE268.out) | exact HB.out)) hb); clear HO261; clear HO266; clear BK268; clear HB; have HO261 := n0_; have HO266 := n1_; have HO273 := n2_; have BK268 := n3_; have HB := n4_; clear n0_ n1_ n2_ n3_ n4_; (try clear hb); (try clear hb2); (try clear hk); (try clear hi); (try clear ho0)) | ((with_reducible refine gate_dst (N := 4) rfl ?_); (try (refine gate_guard (by rfl) ?_; dsimp only)); refine box_event ?hg (N := 4) ?hd (cs := #[.int .i64 0, .int .i64 0, .slice none 0 0]) (t := 57) ?hr ?_; (case hd => rfl); (case hg => rfl); (case hr => first | (go_simp; done) | (go_simp; rfl)); intro gb275 hg w57 hbox hb; have n0_ := Aside0.mk (Kd.R_below (by (with_reducible repeat (first | apply Kd.R_alloc | apply Kd.R_drewN | apply Kd.R_drew)); exact HO261.out) hb); have n1_ := Aside0.mk (Kd.R_below (by (with_reducible repeat (first | apply Kd.R_alloc | apply Kd.R_drewN | apply Kd.R_drew)); exact HO266.out) hb); have n2_ := Aside0.mk (Kd.R_below (by (with_reducible repeat (first | apply Kd.R_alloc | apply Kd.R_drewN | apply Kd.R_drew)); exact HO273.out) hb); have n3_ := Aside0.mk (blk_below (g := gb268) (o := .cells #[.int .i64 t262, .int .i64 t263, .slice Ao55 t264.length co55] 57 (0, 0)) (by (with_reducible repeat (first | refine blk_drewN ?_ _ | refine blk_drew ?_ | refine blk_alloc ?_ _)); exact BK268.out) hb); have n4_ := Aside0.mk (below_step (by repeat (first | (with_reducible first | exact HB.out | apply below_alloc | apply pw_below_drewN | apply below_drew1 | refine below_set ?_ GE268.out) | exact HB.out)) hb); have n5_ := Aside0.mk (hbox); have n6_ := Aside0.mk ((by rw [hg]; exact (below_size (by repeat (first | (with_reducible first | exact HB.out | apply below_alloc | apply pw_below_drewN | apply below_drew1 | refine below_set ?_ GE268.out) | exact HB.out))) : w.heap.size ≤ gb275)); have n7_ := Aside0.mk ((by rw [hg]; exact (below_size (by repeat (first | (with_reducible first | exact HB.out | apply below_alloc | apply pw_below_drewN | apply below_drew1 | refine below_set ?_ GE268.out) | exact HB.out))) : w.heap.size ≤ gb275)); have n8_ := Aside0.mk ((by rw [hg]; exact Nat.ne_of_lt (blk_lt (g := gb268) (o := .cells #[.int .i64 t262, .int .i64 t263, .slice Ao55 t264.length co55] 57 (0, 0)) (by (with_reducible repeat (first | refine blk_drewN ?_ _ | refine blk_drew ?_ | refine blk_alloc ?_ _)); exact BK268.out)) : gb268 ≠ gb275)); have n9_ := Aside0.mk ((by rw [hg]; exact Nat.ne_of_gt (blk_lt (g := gb268) (o := .cells #[.int .i64 t262, .int .i64 t263, .slice Ao55 t264.length co55] 57 (0, 0)) (by (with_reducible repeat (first | refine blk_drewN ?_ _ | refine blk_drew ?_ | refine blk_alloc ?_ _)); exact BK268.out)) : gb275 ≠ gb268)); clear HO261; clear HO266; clear HO273; clear BK268; clear HB; have HO261 := n0_; have HO266 := n1_; have HO273 := n2_; have BK268 := n3_; have HB := n4_; have BK275 := n5_; have GW275 := n6_; have GE275 := n7_; have NB268_275 := n8_; have NB275_268 := n9_; clear n0_ n1_ n2_ n3_ n4_ n5_ n6_ n7_ n8_ n9_; clear hb hbox hg; have hnb58 := NB275_268.out; have hnc58 := NB268_275.out; have hcz59_0 : w57.cell? ⟨gb275, 0, none⟩ = some (.int .i64 0) := (blk_cell BK275.out 0).trans rfl; have hcz59_1 : w57.cell? ⟨gb275, 1, none⟩ = some (.int .i64 0) := (blk_cell BK275.out 1).trans rfl; have hcz59_2 : w57.cell? ⟨gb275, 2, none⟩ = some (.slice none 0 0) := (blk_cell BK275.out 2).trans rfl; have hfz59_0 := blk_frozen BK275.out 0; have hfz59_1 := blk_frozen BK275.out 1; have hfz59_2 := blk_frozen BK275.out 2; obtain ⟨Ao60, co60, eo60⟩ := Kd.R_slice HO273.out; subst eo60; have hcz61_0 : w57.cell? ⟨gb268, 0, none⟩ = some (.int .i64 t262) := (blk_cell BK268.out 0).trans rfl; have hcz61_1 : w57.cell? ⟨gb268, 1, none⟩ = some (.int .i64 t263) := (blk_cell BK268.out 1).trans rfl; have hcz61_2 : w57.cell? ⟨gb268, 2, none⟩ = some (.slice Ao55 t264.length co55) := (blk_cell BK268.out 2).trans rfl; have hfz61_0 := blk_frozen BK268.out 0; have hfz61_1 := blk_frozen BK268.out 1; have hfz61_2 := blk_frozen BK268.out 2))
        go_ret
        exact ⟨by first | rfl | (simp [errW_none, errW_some] <;> rfl) | (simp [*, errW_none, errW_some] <;> rfl), by repeat (first | (with_reducible first | exact HB.out | apply below_alloc | apply pw_below_drewN | apply below_drew1 | refine below_set ?_ GE268.out | refine below_set ?_ GE275.out) | exact HB.out)⟩
    · rw [if_neg c4] at H
      have c4b0 : (t274 == 6) = false := beq_eq_false_iff_ne.mpr c4
      have c4b1 : (t274 != 6) = true := bne_iff_ne.mpr c4
      obtain rfl := Option.some.inj H
      go_enter Try.func34, Try.ntmps34
      go_wp2_with (first | ((with_reducible refine gate_dst (N := 15) rfl ?_); (try (refine gate_guard (by rfl) ?_; dsimp only)); refine Kd.R_lit k40 _ 40 ?hg (N := 15) ?hd (xs := ([(⟨(⟨0, 0⟩ : S32), (⟨320, 0⟩ : S32)⟩ : S40), (⟨(⟨320, 0⟩ : S32), (⟨0, 320⟩ : S32)⟩ : S40), (⟨(⟨0, 320⟩ : S32), (⟨0, 0⟩ : S32)⟩ : S40)] : List (S40))) (inner := [.int .i64 0, .int .i64 0, .int .i64 320, .int .i64 0, .int .i64 320, .int .i64 0, .int .i64 0, .int .i64 320, .int .i64 0, .int .i64 320, .int .i64 0, .int .i64 0]) (ok := fun _ => True) (okp := fun _ => True) ?hr ?hp (fun _ hk => hk) trivial (Below.refl _ _) (Nat.le_refl _) (by simp) ?_; (case hd => rfl); (case hg => rfl); (case hr => first | (go_simp; done) | (go_simp; rfl)); (case hp => exact (Reps.c4 (show Kd.M k40 _ _ _ (⟨(⟨0, 0⟩ : S32), (⟨320, 0⟩ : S32)⟩ : S40) [.int .i64 0, .int .i64 0, .int .i64 320, .int .i64 0] from (k40_mkM _ _ _ (⟨(⟨0, 0⟩ : S32), (⟨320, 0⟩ : S32)⟩ : S40) )) (Reps.c4 (show Kd.M k40 _ _ _ (⟨(⟨320, 0⟩ : S32), (⟨0, 320⟩ : S32)⟩ : S40) [.int .i64 320, .int .i64 0, .int .i64 0, .int .i64 320] from (k40_mkM _ _ _ (⟨(⟨320, 0⟩ : S32), (⟨0, 320⟩ : S32)⟩ : S40) )) (Reps.c4 (show Kd.M k40 _ _ _ (⟨(⟨0, 320⟩ : S32), (⟨0, 0⟩ : S32)⟩ : S40) [.int .i64 0, .int .i64 320, .int .i64 0, .int .i64 0] from (k40_mkM _ _ _ (⟨(⟨0, 320⟩ : S32), (⟨0, 0⟩ : S32)⟩ : S40) )) (Reps.none _ _))))); intro v260 w62 ho63 hb hg_ hnew_; clear hg_ hnew_; (first | rw [← Ny259.out] at ho63 | (simp only [Int.reduceToNat] at ho63; rw [← Ny259.out] at ho63)); have n0_ := Aside0.mk (Kd.R_lower ho63 (below_size (by repeat (first | (with_reducible first | exact HB.out | apply below_alloc | apply pw_below_drewN | apply below_drew1) | exact HB.out)))); have n1_ := Aside0.mk (below_step (by repeat (first | (with_reducible first | exact HB.out | apply below_alloc | apply pw_below_drewN | apply below_drew1) | exact HB.out)) hb); clear HB; have HO261 := n0_; have HB := n1_; clear n0_ n1_; clear hb ho63; obtain ⟨Ao64, co64, eo64⟩ := Kd.R_slice HO261.out; subst eo64) | ((with_reducible refine gate_callee (f := 32) rfl ?_); refine goesL_ (some 19) rfl rfl Try.func32 (by kernel_rfl) rfl #[.slice Ao64 y259.length co64, .agg #[.int .i64 (-2), .int .i64 (-2), .int .i64 2, .int .i64 4, .int .i64 4, .int .i64 8]] rfl (by (try simp only [List.map_toArray, List.map_cons, List.map_nil]); first | done | rfl | (simp only [List.length_drop, List.length_take]; rfl)) ?_; (with_reducible refine (sdf_Make.calls k _ _ y259 (-2) (-2) 2 4 4 8 t262 t263 t264 t267 _ ?side1 ?side2 A1.out).mono ?_); (case side1 => repeat (first | exact (Kd.R_reads' HO261.out).2.2 | (with_reducible refine Kd.C_alloc ?_ _) | (with_reducible refine Kd.C_drewN ?_ _) | (with_reducible refine Kd.C_drew ?_))); (case side2 => exact (Kd.R_reads' HO261.out).2.1); rintro e w65 ⟨v265, rfl, ho0, hb⟩; refine ⟨_, rfl, ?_⟩; have n0_ := Aside0.mk (Kd.R_below (by (with_reducible repeat (first | apply Kd.R_alloc | apply Kd.R_drewN | apply Kd.R_drew)); exact HO261.out) hb); have n1_ := Aside0.mk (Kd.R_lower ho0 (below_size (by repeat (first | (with_reducible first | exact HB.out | apply below_alloc | apply pw_below_drewN | apply below_drew1) | exact HB.out)))); have n2_ := Aside0.mk (below_step (by repeat (first | (with_reducible first | exact HB.out | apply below_alloc | apply pw_below_drewN | apply below_drew1) | exact HB.out)) hb); clear HO261; clear HB; have HO261 := n0_; have HO266 := n1_; have HB := n2_; clear n0_ n1_ n2_; (try clear hb); (try clear hb2); (try clear hk); (try clear hi); (try clear ho0)) | ((with_reducible refine gate_dst (N := 2) rfl ?_); (try (refine gate_guard (by rfl) ?_; dsimp only)); refine box_event ?hg (N := 2) ?hd (cs := #[.int .i64 0, .int .i64 0, .slice none 0 0]) (t := 57) ?hr ?_; (case hd => rfl); (case hg => rfl); (case hr => first | (go_simp; done) | (go_simp; rfl)); intro gb268 hg w66 hbox hb; have n0_ := Aside0.mk (Kd.R_below (by (with_reducible repeat (first | apply Kd.R_alloc | apply Kd.R_drewN | apply Kd.R_drew)); exact HO261.out) hb); have n1_ := Aside0.mk (Kd.R_below (by (with_reducible repeat (first | apply Kd.R_alloc | apply Kd.R_drewN | apply Kd.R_drew)); exact HO266.out) hb); have n2_ := Aside0.mk (below_step (by repeat (first | (with_reducible first | exact HB.out | apply below_alloc | apply pw_below_drewN | apply below_drew1) | exact HB.out)) hb); have n3_ := Aside0.mk (hbox); have n4_ := Aside0.mk ((by rw [hg]; exact (below_size (by repeat (first | (with_reducible first | exact HB.out | apply below_alloc | apply pw_below_drewN | apply below_drew1) | exact HB.out))) : w.heap.size ≤ gb268)); have n5_ := Aside0.mk ((by rw [hg]; exact (below_size (by repeat (first | (with_reducible first | exact HB.out | apply below_alloc | apply pw_below_drewN | apply below_drew1) | exact HB.out))) : w.heap.size ≤ gb268)); clear HO261; clear HO266; clear HB; have HO261 := n0_; have HO266 := n1_; have HB := n2_; have BK268 := n3_; have GW268 := n4_; have GE268 := n5_; clear n0_ n1_ n2_ n3_ n4_ n5_; clear hb hbox hg; have hcz67_0 : w66.cell? ⟨gb268, 0, none⟩ = some (.int .i64 0) := (blk_cell BK268.out 0).trans rfl; have hcz67_1 : w66.cell? ⟨gb268, 1, none⟩ = some (.int .i64 0) := (blk_cell BK268.out 1).trans rfl; have hcz67_2 : w66.cell? ⟨gb268, 2, none⟩ = some (.slice none 0 0) := (blk_cell BK268.out 2).trans rfl; have hfz67_0 := blk_frozen BK268.out 0; have hfz67_1 := blk_frozen BK268.out 1; have hfz67_2 := blk_frozen BK268.out 2; obtain ⟨Ao68, co68, eo68⟩ := Kd.R_slice HO266.out; subst eo68) | ((with_reducible refine gate_callee (f := 32) rfl ?_); refine goesL_ (some 25) rfl rfl Try.func32 (by kernel_rfl) rfl #[.slice Ao64 y259.length co64, .agg #[.int .i64 0, .int .i64 0, .int .i64 0, .int .i64 0, .int .i64 0, .int .i64 0]] rfl (by (try simp only [List.map_toArray, List.map_cons, List.map_nil]); first | done | rfl | (simp only [List.length_drop, List.length_take]; rfl)) ?_; (with_reducible refine (sdf_Make.calls k _ _ y259 0 0 0 0 0 0 t269 t270 t271 t274 _ ?side1 ?side2 A2.out).mono ?_); (case side1 => refine (Kd.R_reads' (e := 40) (base := w.heap.size) (ok := fun k_ => True) (n := y259.length) (c := co64) ?_).2.2; exact (by (with_reducible repeat (first | apply Kd.R_alloc | apply Kd.R_drewN | apply Kd.R_drew)); exact (Kd.R_mono (Kd.R_far (p := ⟨gb268, 2, none⟩) (Kd.R_far (p := ⟨gb268, 1, none⟩) (Kd.R_far (p := ⟨gb268, 0, none⟩) (Kd.R_types HO261.out BK268.out (by decide)) (fun _ hk => hk.2) (.int .i64 t262)) (fun _ hk => hk.2) (.int .i64 t263)) (fun _ hk => hk.2) (.slice Ao68 t264.length co68)) (fun _ h_ => h_.1)))); (case side2 => exact (Kd.R_reads' HO261.out).2.1); rintro e w69 ⟨v272, rfl, ho0, hb⟩; refine ⟨_, rfl, ?_⟩; have n0_ := Aside0.mk (Kd.R_below (by (with_reducible repeat (first | apply Kd.R_alloc | apply Kd.R_drewN | apply Kd.R_drew)); exact (Kd.R_mono (Kd.R_far (p := ⟨gb268, 2, none⟩) (Kd.R_far (p := ⟨gb268, 1, none⟩) (Kd.R_far (p := ⟨gb268, 0, none⟩) (Kd.R_types HO261.out BK268.out (by decide)) (fun _ hk => hk.2) (.int .i64 t262)) (fun _ hk => hk.2) (.int .i64 t263)) (fun _ hk => hk.2) (.slice Ao68 t264.length co68)) (fun _ h_ => h_.1))) hb); have n1_ := Aside0.mk (Kd.R_elder' (by (with_reducible repeat (first | apply Kd.R_alloc | apply Kd.R_drewN | apply Kd.R_drew)); exact (Kd.R_mono (Kd.R_far (p := ⟨gb268, 2, none⟩) (Kd.R_far (p := ⟨gb268, 1, none⟩) (Kd.R_far (p := ⟨gb268, 0, none⟩) (Kd.R_types HO266.out BK268.out (by decide)) (fun _ hk => hk.2) (.int .i64 t262)) (fun _ hk => hk.2) (.int .i64 t263)) (fun _ hk => hk.2) (.slice Ao68 t264.length co68)) (fun _ h_ => h_.1))) (Kd.R_base ho0) hb); have n2_ := Aside0.mk (Kd.R_lower (Kd.R_new' ho0 (Kd.R_lt (by (with_reducible repeat (first | apply Kd.R_alloc | apply Kd.R_drewN | apply Kd.R_drew)); exact (Kd.R_mono (Kd.R_far (p := ⟨gb268, 2, none⟩) (Kd.R_far (p := ⟨gb268, 1, none⟩) (Kd.R_far (p := ⟨gb268, 0, none⟩) (Kd.R_types HO266.out BK268.out (by decide)) (fun _ hk => hk.2) (.int .i64 t262)) (fun _ hk => hk.2) (.int .i64 t263)) (fun _ hk => hk.2) (.slice Ao68 t264.length co68)) (fun _ h_ => h_.1))))) (below_size (by repeat (first | (with_reducible first | exact HB.out | apply below_alloc | apply pw_below_drewN | apply below_drew1 | refine below_set ?_ GE268.out) | exact HB.out)))); have n3_ := Aside0.mk (blk_below (g := gb268) (o := .cells #[.int .i64 t262, .int .i64 t263, .slice Ao68 t264.length co68] 57 (0, 0)) (by (with_reducible repeat (first | refine blk_drewN ?_ _ | refine blk_drew ?_ | refine blk_alloc ?_ _)); refine blk_put (cs := #[.int .i64 t262, .int .i64 t263, .slice none 0 0]) ?_ 2 _ rfl; (with_reducible repeat (first | refine blk_drewN ?_ _ | refine blk_drew ?_ | refine blk_alloc ?_ _)); refine blk_put (cs := #[.int .i64 t262, .int .i64 0, .slice none 0 0]) ?_ 1 _ rfl; (with_reducible repeat (first | refine blk_drewN ?_ _ | refine blk_drew ?_ | refine blk_alloc ?_ _)); refine blk_put (cs := #[.int .i64 0, .int .i64 0, .slice none 0 0]) ?_ 0 _ rfl; (with_reducible repeat (first | refine blk_drewN ?_ _ | refine blk_drew ?_ | refine blk_alloc ?_ _)); exact BK268.out) hb); have n4_ := Aside0.mk (below_step (by repeat (first | (with_reducible first | exact HB.out | apply below_alloc | apply pw_below_drewN | apply below_drew1 | refine below_set ?_ GE268.out) | exact HB.out)) hb); clear HO261; clear HO266; clear BK268; clear HB; have HO261 := n0_; have HO266 := n1_; have HO273 := n2_; have BK268 := n3_; have HB := n4_; clear n0_ n1_ n2_ n3_ n4_; (try clear hb); (try clear hb2); (try clear hk); (try clear hi); (try clear ho0)) | ((with_reducible refine gate_dst (N := 4) rfl ?_); (try (refine gate_guard (by rfl) ?_; dsimp only)); refine box_event ?hg (N := 4) ?hd (cs := #[.int .i64 0, .int .i64 0, .slice none 0 0]) (t := 57) ?hr ?_; (case hd => rfl); (case hg => rfl); (case hr => first | (go_simp; done) | (go_simp; rfl)); intro gb275 hg w70 hbox hb; have n0_ := Aside0.mk (Kd.R_below (by (with_reducible repeat (first | apply Kd.R_alloc | apply Kd.R_drewN | apply Kd.R_drew)); exact HO261.out) hb); have n1_ := Aside0.mk (Kd.R_below (by (with_reducible repeat (first | apply Kd.R_alloc | apply Kd.R_drewN | apply Kd.R_drew)); exact HO266.out) hb); have n2_ := Aside0.mk (Kd.R_below (by (with_reducible repeat (first | apply Kd.R_alloc | apply Kd.R_drewN | apply Kd.R_drew)); exact HO273.out) hb); have n3_ := Aside0.mk (blk_below (g := gb268) (o := .cells #[.int .i64 t262, .int .i64 t263, .slice Ao68 t264.length co68] 57 (0, 0)) (by (with_reducible repeat (first | refine blk_drewN ?_ _ | refine blk_drew ?_ | refine blk_alloc ?_ _)); exact BK268.out) hb); have n4_ := Aside0.mk (below_step (by repeat (first | (with_reducible first | exact HB.out | apply below_alloc | apply pw_below_drewN | apply below_drew1 | refine below_set ?_ GE268.out) | exact HB.out)) hb); have n5_ := Aside0.mk (hbox); have n6_ := Aside0.mk ((by rw [hg]; exact (below_size (by repeat (first | (with_reducible first | exact HB.out | apply below_alloc | apply pw_below_drewN | apply below_drew1 | refine below_set ?_ GE268.out) | exact HB.out))) : w.heap.size ≤ gb275)); have n7_ := Aside0.mk ((by rw [hg]; exact (below_size (by repeat (first | (with_reducible first | exact HB.out | apply below_alloc | apply pw_below_drewN | apply below_drew1 | refine below_set ?_ GE268.out) | exact HB.out))) : w.heap.size ≤ gb275)); have n8_ := Aside0.mk ((by rw [hg]; exact Nat.ne_of_lt (blk_lt (g := gb268) (o := .cells #[.int .i64 t262, .int .i64 t263, .slice Ao68 t264.length co68] 57 (0, 0)) (by (with_reducible repeat (first | refine blk_drewN ?_ _ | refine blk_drew ?_ | refine blk_alloc ?_ _)); exact BK268.out)) : gb268 ≠ gb275)); have n9_ := Aside0.mk ((by rw [hg]; exact Nat.ne_of_gt (blk_lt (g := gb268) (o := .cells #[.int .i64 t262, .int .i64 t263, .slice Ao68 t264.length co68] 57 (0, 0)) (by (with_reducible repeat (first | refine blk_drewN ?_ _ | refine blk_drew ?_ | refine blk_alloc ?_ _)); exact BK268.out)) : gb275 ≠ gb268)); clear HO261; clear HO266; clear HO273; clear BK268; clear HB; have HO261 := n0_; have HO266 := n1_; have HO273 := n2_; have BK268 := n3_; have HB := n4_; have BK275 := n5_; have GW275 := n6_; have GE275 := n7_; have NB268_275 := n8_; have NB275_268 := n9_; clear n0_ n1_ n2_ n3_ n4_ n5_ n6_ n7_ n8_ n9_; clear hb hbox hg; have hnb71 := NB275_268.out; have hnc71 := NB268_275.out; have hcz72_0 : w70.cell? ⟨gb275, 0, none⟩ = some (.int .i64 0) := (blk_cell BK275.out 0).trans rfl; have hcz72_1 : w70.cell? ⟨gb275, 1, none⟩ = some (.int .i64 0) := (blk_cell BK275.out 1).trans rfl; have hcz72_2 : w70.cell? ⟨gb275, 2, none⟩ = some (.slice none 0 0) := (blk_cell BK275.out 2).trans rfl; have hfz72_0 := blk_frozen BK275.out 0; have hfz72_1 := blk_frozen BK275.out 1; have hfz72_2 := blk_frozen BK275.out 2; obtain ⟨Ao73, co73, eo73⟩ := Kd.R_slice HO273.out; subst eo73))
      go_ret
      exact ⟨by first | rfl | (simp [errW_none, errW_some] <;> rfl) | (simp [*, errW_none, errW_some] <;> rfl), by repeat (first | (with_reducible first | exact HB.out | apply below_alloc | apply pw_below_drewN | apply below_drew1 | refine below_set ?_ GE268.out | refine below_set ?_ GE275.out) | exact HB.out)⟩
  · rw [if_neg c3] at H
    have c3b0 : (t267 == 0) = false := beq_eq_false_iff_ne.mpr c3
    have c3b1 : (t267 != 0) = true := bne_iff_ne.mpr c3
    obtain rfl := Option.some.inj H
    go_enter Try.func34, Try.ntmps34
    go_wp2_with (first | ((with_reducible refine gate_dst (N := 15) rfl ?_); (try (refine gate_guard (by rfl) ?_; dsimp only)); refine Kd.R_lit k40 _ 40 ?hg (N := 15) ?hd (xs := ([(⟨(⟨0, 0⟩ : S32), (⟨320, 0⟩ : S32)⟩ : S40), (⟨(⟨320, 0⟩ : S32), (⟨0, 320⟩ : S32)⟩ : S40), (⟨(⟨0, 320⟩ : S32), (⟨0, 0⟩ : S32)⟩ : S40)] : List (S40))) (inner := [.int .i64 0, .int .i64 0, .int .i64 320, .int .i64 0, .int .i64 320, .int .i64 0, .int .i64 0, .int .i64 320, .int .i64 0, .int .i64 320, .int .i64 0, .int .i64 0]) (ok := fun _ => True) (okp := fun _ => True) ?hr ?hp (fun _ hk => hk) trivial (Below.refl _ _) (Nat.le_refl _) (by simp) ?_; (case hd => rfl); (case hg => rfl); (case hr => first | (go_simp; done) | (go_simp; rfl)); (case hp => exact (Reps.c4 (show Kd.M k40 _ _ _ (⟨(⟨0, 0⟩ : S32), (⟨320, 0⟩ : S32)⟩ : S40) [.int .i64 0, .int .i64 0, .int .i64 320, .int .i64 0] from (k40_mkM _ _ _ (⟨(⟨0, 0⟩ : S32), (⟨320, 0⟩ : S32)⟩ : S40) )) (Reps.c4 (show Kd.M k40 _ _ _ (⟨(⟨320, 0⟩ : S32), (⟨0, 320⟩ : S32)⟩ : S40) [.int .i64 320, .int .i64 0, .int .i64 0, .int .i64 320] from (k40_mkM _ _ _ (⟨(⟨320, 0⟩ : S32), (⟨0, 320⟩ : S32)⟩ : S40) )) (Reps.c4 (show Kd.M k40 _ _ _ (⟨(⟨0, 320⟩ : S32), (⟨0, 0⟩ : S32)⟩ : S40) [.int .i64 0, .int .i64 320, .int .i64 0, .int .i64 0] from (k40_mkM _ _ _ (⟨(⟨0, 320⟩ : S32), (⟨0, 0⟩ : S32)⟩ : S40) )) (Reps.none _ _))))); intro v260 w74 ho75 hb hg_ hnew_; clear hg_ hnew_; (first | rw [← Ny259.out] at ho75 | (simp only [Int.reduceToNat] at ho75; rw [← Ny259.out] at ho75)); have n0_ := Aside0.mk (Kd.R_lower ho75 (below_size (by repeat (first | (with_reducible first | exact HB.out | apply below_alloc | apply pw_below_drewN | apply below_drew1) | exact HB.out)))); have n1_ := Aside0.mk (below_step (by repeat (first | (with_reducible first | exact HB.out | apply below_alloc | apply pw_below_drewN | apply below_drew1) | exact HB.out)) hb); clear HB; have HO261 := n0_; have HB := n1_; clear n0_ n1_; clear hb ho75; obtain ⟨Ao76, co76, eo76⟩ := Kd.R_slice HO261.out; subst eo76) | ((with_reducible refine gate_callee (f := 32) rfl ?_); refine goesL_ (some 19) rfl rfl Try.func32 (by kernel_rfl) rfl #[.slice Ao76 y259.length co76, .agg #[.int .i64 (-2), .int .i64 (-2), .int .i64 2, .int .i64 4, .int .i64 4, .int .i64 8]] rfl (by (try simp only [List.map_toArray, List.map_cons, List.map_nil]); first | done | rfl | (simp only [List.length_drop, List.length_take]; rfl)) ?_; (with_reducible refine (sdf_Make.calls k _ _ y259 (-2) (-2) 2 4 4 8 t262 t263 t264 t267 _ ?side1 ?side2 A1.out).mono ?_); (case side1 => repeat (first | exact (Kd.R_reads' HO261.out).2.2 | (with_reducible refine Kd.C_alloc ?_ _) | (with_reducible refine Kd.C_drewN ?_ _) | (with_reducible refine Kd.C_drew ?_))); (case side2 => exact (Kd.R_reads' HO261.out).2.1); rintro e w77 ⟨v265, rfl, ho0, hb⟩; refine ⟨_, rfl, ?_⟩; have n0_ := Aside0.mk (Kd.R_below (by (with_reducible repeat (first | apply Kd.R_alloc | apply Kd.R_drewN | apply Kd.R_drew)); exact HO261.out) hb); have n1_ := Aside0.mk (Kd.R_lower ho0 (below_size (by repeat (first | (with_reducible first | exact HB.out | apply below_alloc | apply pw_below_drewN | apply below_drew1) | exact HB.out)))); have n2_ := Aside0.mk (below_step (by repeat (first | (with_reducible first | exact HB.out | apply below_alloc | apply pw_below_drewN | apply below_drew1) | exact HB.out)) hb); clear HO261; clear HB; have HO261 := n0_; have HO266 := n1_; have HB := n2_; clear n0_ n1_ n2_; (try clear hb); (try clear hb2); (try clear hk); (try clear hi); (try clear ho0)) | ((with_reducible refine gate_dst (N := 2) rfl ?_); (try (refine gate_guard (by rfl) ?_; dsimp only)); refine box_event ?hg (N := 2) ?hd (cs := #[.int .i64 0, .int .i64 0, .slice none 0 0]) (t := 57) ?hr ?_; (case hd => rfl); (case hg => rfl); (case hr => first | (go_simp; done) | (go_simp; rfl)); intro gb268 hg w78 hbox hb; have n0_ := Aside0.mk (Kd.R_below (by (with_reducible repeat (first | apply Kd.R_alloc | apply Kd.R_drewN | apply Kd.R_drew)); exact HO261.out) hb); have n1_ := Aside0.mk (Kd.R_below (by (with_reducible repeat (first | apply Kd.R_alloc | apply Kd.R_drewN | apply Kd.R_drew)); exact HO266.out) hb); have n2_ := Aside0.mk (below_step (by repeat (first | (with_reducible first | exact HB.out | apply below_alloc | apply pw_below_drewN | apply below_drew1) | exact HB.out)) hb); have n3_ := Aside0.mk (hbox); have n4_ := Aside0.mk ((by rw [hg]; exact (below_size (by repeat (first | (with_reducible first | exact HB.out | apply below_alloc | apply pw_below_drewN | apply below_drew1) | exact HB.out))) : w.heap.size ≤ gb268)); have n5_ := Aside0.mk ((by rw [hg]; exact (below_size (by repeat (first | (with_reducible first | exact HB.out | apply below_alloc | apply pw_below_drewN | apply below_drew1) | exact HB.out))) : w.heap.size ≤ gb268)); clear HO261; clear HO266; clear HB; have HO261 := n0_; have HO266 := n1_; have HB := n2_; have BK268 := n3_; have GW268 := n4_; have GE268 := n5_; clear n0_ n1_ n2_ n3_ n4_ n5_; clear hb hbox hg; have hcz79_0 : w78.cell? ⟨gb268, 0, none⟩ = some (.int .i64 0) := (blk_cell BK268.out 0).trans rfl; have hcz79_1 : w78.cell? ⟨gb268, 1, none⟩ = some (.int .i64 0) := (blk_cell BK268.out 1).trans rfl; have hcz79_2 : w78.cell? ⟨gb268, 2, none⟩ = some (.slice none 0 0) := (blk_cell BK268.out 2).trans rfl; have hfz79_0 := blk_frozen BK268.out 0; have hfz79_1 := blk_frozen BK268.out 1; have hfz79_2 := blk_frozen BK268.out 2; obtain ⟨Ao80, co80, eo80⟩ := Kd.R_slice HO266.out; subst eo80) | ((with_reducible refine gate_callee (f := 32) rfl ?_); refine goesL_ (some 25) rfl rfl Try.func32 (by kernel_rfl) rfl #[.slice Ao76 y259.length co76, .agg #[.int .i64 0, .int .i64 0, .int .i64 0, .int .i64 0, .int .i64 0, .int .i64 0]] rfl (by (try simp only [List.map_toArray, List.map_cons, List.map_nil]); first | done | rfl | (simp only [List.length_drop, List.length_take]; rfl)) ?_; (with_reducible refine (sdf_Make.calls k _ _ y259 0 0 0 0 0 0 t269 t270 t271 t274 _ ?side1 ?side2 A2.out).mono ?_); (case side1 => refine (Kd.R_reads' (e := 40) (base := w.heap.size) (ok := fun k_ => True) (n := y259.length) (c := co76) ?_).2.2; exact (by (with_reducible repeat (first | apply Kd.R_alloc | apply Kd.R_drewN | apply Kd.R_drew)); exact (Kd.R_mono (Kd.R_far (p := ⟨gb268, 2, none⟩) (Kd.R_far (p := ⟨gb268, 1, none⟩) (Kd.R_far (p := ⟨gb268, 0, none⟩) (Kd.R_types HO261.out BK268.out (by decide)) (fun _ hk => hk.2) (.int .i64 t262)) (fun _ hk => hk.2) (.int .i64 t263)) (fun _ hk => hk.2) (.slice Ao80 t264.length co80)) (fun _ h_ => h_.1)))); (case side2 => exact (Kd.R_reads' HO261.out).2.1); rintro e w81 ⟨v272, rfl, ho0, hb⟩; refine ⟨_, rfl, ?_⟩; have n0_ := Aside0.mk (Kd.R_below (by (with_reducible repeat (first | apply Kd.R_alloc | apply Kd.R_drewN | apply Kd.R_drew)); exact (Kd.R_mono (Kd.R_far (p := ⟨gb268, 2, none⟩) (Kd.R_far (p := ⟨gb268, 1, none⟩) (Kd.R_far (p := ⟨gb268, 0, none⟩) (Kd.R_types HO261.out BK268.out (by decide)) (fun _ hk => hk.2) (.int .i64 t262)) (fun _ hk => hk.2) (.int .i64 t263)) (fun _ hk => hk.2) (.slice Ao80 t264.length co80)) (fun _ h_ => h_.1))) hb); have n1_ := Aside0.mk (Kd.R_elder' (by (with_reducible repeat (first | apply Kd.R_alloc | apply Kd.R_drewN | apply Kd.R_drew)); exact (Kd.R_mono (Kd.R_far (p := ⟨gb268, 2, none⟩) (Kd.R_far (p := ⟨gb268, 1, none⟩) (Kd.R_far (p := ⟨gb268, 0, none⟩) (Kd.R_types HO266.out BK268.out (by decide)) (fun _ hk => hk.2) (.int .i64 t262)) (fun _ hk => hk.2) (.int .i64 t263)) (fun _ hk => hk.2) (.slice Ao80 t264.length co80)) (fun _ h_ => h_.1))) (Kd.R_base ho0) hb); have n2_ := Aside0.mk (Kd.R_lower (Kd.R_new' ho0 (Kd.R_lt (by (with_reducible repeat (first | apply Kd.R_alloc | apply Kd.R_drewN | apply Kd.R_drew)); exact (Kd.R_mono (Kd.R_far (p := ⟨gb268, 2, none⟩) (Kd.R_far (p := ⟨gb268, 1, none⟩) (Kd.R_far (p := ⟨gb268, 0, none⟩) (Kd.R_types HO266.out BK268.out (by decide)) (fun _ hk => hk.2) (.int .i64 t262)) (fun _ hk => hk.2) (.int .i64 t263)) (fun _ hk => hk.2) (.slice Ao80 t264.length co80)) (fun _ h_ => h_.1))))) (below_size (by repeat (first | (with_reducible first | exact HB.out | apply below_alloc | apply pw_below_drewN | apply below_drew1 | refine below_set ?_ GE268.out) | exact HB.out)))); have n3_ := Aside0.mk (blk_below (g := gb268) (o := .cells #[.int .i64 t262, .int .i64 t263, .slice Ao80 t264.length co80] 57 (0, 0)) (by (with_reducible repeat (first | refine blk_drewN ?_ _ | refine blk_drew ?_ | refine blk_alloc ?_ _)); refine blk_put (cs := #[.int .i64 t262, .int .i64 t263, .slice none 0 0]) ?_ 2 _ rfl; (with_reducible repeat (first | refine blk_drewN ?_ _ | refine blk_drew ?_ | refine blk_alloc ?_ _)); refine blk_put (cs := #[.int .i64 t262, .int .i64 0, .slice none 0 0]) ?_ 1 _ rfl; (with_reducible repeat (first | refine blk_drewN ?_ _ | refine blk_drew ?_ | refine blk_alloc ?_ _)); refine blk_put (cs := #[.int .i64 0, .int .i64 0, .slice none 0 0]) ?_ 0 _ rfl; (with_reducible repeat (first | refine blk_drewN ?_ _ | refine blk_drew ?_ | refine blk_alloc ?_ _)); exact BK268.out) hb); have n4_ := Aside0.mk (below_step (by repeat (first | (with_reducible first | exact HB.out | apply below_alloc | apply pw_below_drewN | apply below_drew1 | refine below_set ?_ GE268.out) | exact HB.out)) hb); clear HO261; clear HO266; clear BK268; clear HB; have HO261 := n0_; have HO266 := n1_; have HO273 := n2_; have BK268 := n3_; have HB := n4_; clear n0_ n1_ n2_ n3_ n4_; (try clear hb); (try clear hb2); (try clear hk); (try clear hi); (try clear ho0)) | ((with_reducible refine gate_dst (N := 4) rfl ?_); (try (refine gate_guard (by rfl) ?_; dsimp only)); refine box_event ?hg (N := 4) ?hd (cs := #[.int .i64 0, .int .i64 0, .slice none 0 0]) (t := 57) ?hr ?_; (case hd => rfl); (case hg => rfl); (case hr => first | (go_simp; done) | (go_simp; rfl)); intro gb275 hg w82 hbox hb; have n0_ := Aside0.mk (Kd.R_below (by (with_reducible repeat (first | apply Kd.R_alloc | apply Kd.R_drewN | apply Kd.R_drew)); exact HO261.out) hb); have n1_ := Aside0.mk (Kd.R_below (by (with_reducible repeat (first | apply Kd.R_alloc | apply Kd.R_drewN | apply Kd.R_drew)); exact HO266.out) hb); have n2_ := Aside0.mk (Kd.R_below (by (with_reducible repeat (first | apply Kd.R_alloc | apply Kd.R_drewN | apply Kd.R_drew)); exact HO273.out) hb); have n3_ := Aside0.mk (blk_below (g := gb268) (o := .cells #[.int .i64 t262, .int .i64 t263, .slice Ao80 t264.length co80] 57 (0, 0)) (by (with_reducible repeat (first | refine blk_drewN ?_ _ | refine blk_drew ?_ | refine blk_alloc ?_ _)); exact BK268.out) hb); have n4_ := Aside0.mk (below_step (by repeat (first | (with_reducible first | exact HB.out | apply below_alloc | apply pw_below_drewN | apply below_drew1 | refine below_set ?_ GE268.out) | exact HB.out)) hb); have n5_ := Aside0.mk (hbox); have n6_ := Aside0.mk ((by rw [hg]; exact (below_size (by repeat (first | (with_reducible first | exact HB.out | apply below_alloc | apply pw_below_drewN | apply below_drew1 | refine below_set ?_ GE268.out) | exact HB.out))) : w.heap.size ≤ gb275)); have n7_ := Aside0.mk ((by rw [hg]; exact (below_size (by repeat (first | (with_reducible first | exact HB.out | apply below_alloc | apply pw_below_drewN | apply below_drew1 | refine below_set ?_ GE268.out) | exact HB.out))) : w.heap.size ≤ gb275)); have n8_ := Aside0.mk ((by rw [hg]; exact Nat.ne_of_lt (blk_lt (g := gb268) (o := .cells #[.int .i64 t262, .int .i64 t263, .slice Ao80 t264.length co80] 57 (0, 0)) (by (with_reducible repeat (first | refine blk_drewN ?_ _ | refine blk_drew ?_ | refine blk_alloc ?_ _)); exact BK268.out)) : gb268 ≠ gb275)); have n9_ := Aside0.mk ((by rw [hg]; exact Nat.ne_of_gt (blk_lt (g := gb268) (o := .cells #[.int .i64 t262, .int .i64 t263, .slice Ao80 t264.length co80] 57 (0, 0)) (by (with_reducible repeat (first | refine blk_drewN ?_ _ | refine blk_drew ?_ | refine blk_alloc ?_ _)); exact BK268.out)) : gb275 ≠ gb268)); clear HO261; clear HO266; clear HO273; clear BK268; clear HB; have HO261 := n0_; have HO266 := n1_; have HO273 := n2_; have BK268 := n3_; have HB := n4_; have BK275 := n5_; have GW275 := n6_; have GE275 := n7_; have NB268_275 := n8_; have NB275_268 := n9_; clear n0_ n1_ n2_ n3_ n4_ n5_ n6_ n7_ n8_ n9_; clear hb hbox hg; have hnb83 := NB275_268.out; have hnc83 := NB268_275.out; have hcz84_0 : w82.cell? ⟨gb275, 0, none⟩ = some (.int .i64 0) := (blk_cell BK275.out 0).trans rfl; have hcz84_1 : w82.cell? ⟨gb275, 1, none⟩ = some (.int .i64 0) := (blk_cell BK275.out 1).trans rfl; have hcz84_2 : w82.cell? ⟨gb275, 2, none⟩ = some (.slice none 0 0) := (blk_cell BK275.out 2).trans rfl; have hfz84_0 := blk_frozen BK275.out 0; have hfz84_1 := blk_frozen BK275.out 1; have hfz84_2 := blk_frozen BK275.out 2; obtain ⟨Ao85, co85, eo85⟩ := Kd.R_slice HO273.out; subst eo85))
    go_ret
    exact ⟨by first | rfl | (simp [errW_none, errW_some] <;> rfl) | (simp [*, errW_none, errW_some] <;> rfl), by repeat (first | (with_reducible first | exact HB.out | apply below_alloc | apply pw_below_drewN | apply below_drew1 | refine below_set ?_ GE268.out | refine below_set ?_ GE275.out) | exact HB.out)⟩
end Go.Proofs.Ytlljpjbhndcaiaa.Q
end
section
namespace Go.Proofs.Ytlljpjbhndcaiaa.Q
open Go.RowKit Go.Proofs.YtlljpjbhndcaiaaW.PrintWords Go.Proofs.YtlljpjbhndcaiaaW.PrintLast Go.Proofs.YtlljpjbhndcaiaaW.PrintMore
attribute [local go_sem] max2_int min2_int max_two min_two max_three min_three max_four min_four
set_option linter.unusedVariables false
set_option linter.unusedSimpArgs false
mutual
def punchcutlaw10_Field.l0 : Nat → List (S40) → Int → Int → Int → Int → Int → Int → Int → Int → Int → List Int → Option (Int × Int × List Int)
  | 0, _, _, _, _, _, _, _, _, _, _, _ => none
  | k + 1, x0, x6, x319000, x319001, x319002, x319003, x319004, x319005, x321000, x321001, x321002 => if x6 < x319004 then (punchcutlaw10_Field.l1 k x0 x6 0 x319000 x319001 x319002 x319003 x319004 x319005 x321000 x321001 x321002) else (some (x321000, x321001, x321002))
def punchcutlaw10_Field.l1 : Nat → List (S40) → Int → Int → Int → Int → Int → Int → Int → Int → Int → Int → List Int → Option (Int × Int × List Int)
  | 0, _, _, _, _, _, _, _, _, _, _, _, _ => none
  | k + 1, x0, x6, x7, x319000, x319001, x319002, x319003, x319004, x319005, x321000, x321001, x321002 => if x7 < x319003 then ((grid_Centre.f x319000 x319001 x319002 x319003 x319004 x319005 x7 x6).bind fun bt321 => (if (x0.length : Int) > 0 then ((dist_Sign.f k x0 bt321.1 bt321.2).bind fun t324 => ((dist_Eight.f k x0 bt321.1 bt321.2).bind fun t325 => ((grid_Code.f x319000 x319001 x319002 x319003 x319004 x319005 t324 t325).bind fun t326 => (if x321002.length < 140737488355328 then (punchcutlaw10_Field.l1 k x0 x6 (wrap64 (x7 + 1)) x319000 x319001 x319002 x319003 x319004 x319005 x321000 x321001 (x321002 ++ [t326])) else (none))))) else (if x321002.length < 140737488355328 then (punchcutlaw10_Field.l1 k x0 x6 (wrap64 (x7 + 1)) x319000 x319001 x319002 x319003 x319004 x319005 x321000 x321001 (x321002 ++ [1])) else (none)))) else (punchcutlaw10_Field.l0 k x0 (wrap64 (x6 + 1)) x319000 x319001 x319002 x319003 x319004 x319005 x321000 x321001 x321002)
end
def punchcutlaw10_Field.f (k : Nat) (l0 : List (S40)) (a1_0 : Int) (a1_1 : Int) (a1_2 : Int) (a1_3 : Int) (a1_4 : Int) (a1_5 : Int) : Option (Int × Int × List Int) := punchcutlaw10_Field.l0 k l0 0 a1_0 a1_1 a1_2 a1_3 a1_4 a1_5 a1_3 a1_4 ([] : List Int)
theorem punchcutlaw10_Field.mono_l : ∀ k, (∀ y0 y1 y2 y3 y4 y5 y6 y7 y8 y9 y10, LeO (punchcutlaw10_Field.l0 k y0 y1 y2 y3 y4 y5 y6 y7 y8 y9 y10) (punchcutlaw10_Field.l0 (k + 1) y0 y1 y2 y3 y4 y5 y6 y7 y8 y9 y10)) ∧ (∀ y0 y1 y2 y3 y4 y5 y6 y7 y8 y9 y10 y11, LeO (punchcutlaw10_Field.l1 k y0 y1 y2 y3 y4 y5 y6 y7 y8 y9 y10 y11) (punchcutlaw10_Field.l1 (k + 1) y0 y1 y2 y3 y4 y5 y6 y7 y8 y9 y10 y11))
  | 0 => ⟨fun _ _ _ _ _ _ _ _ _ _ _ r h => by simp [punchcutlaw10_Field.l0] at h, fun _ _ _ _ _ _ _ _ _ _ _ _ r h => by simp [punchcutlaw10_Field.l1] at h⟩
  | k + 1 => by
    obtain ⟨ih0, ih1⟩ := punchcutlaw10_Field.mono_l k
    refine ⟨?_, ?_⟩
    · intro y0 y1 y2 y3 y4 y5 y6 y7 y8 y9 y10
      unfold punchcutlaw10_Field.l0
      repeat' first
      | (with_reducible exact ih0 _ _ _ _ _ _ _ _ _ _ _)
      | (with_reducible exact ih1 _ _ _ _ _ _ _ _ _ _ _ _)
      | (with_reducible exact dist_Eight.mono _ _ _ _)
      | (with_reducible exact dist_Sign.mono _ _ _ _)
      | (with_reducible exact LeO.refl _)
      | (with_reducible exact LeO.none _)
      | (with_reducible refine LeO.ite ?_ ?_)
      | (with_reducible refine LeO.bind ?_ (fun _ => ?_))
      | exact ih0 _ _ _ _ _ _ _ _ _ _ _
      | exact ih1 _ _ _ _ _ _ _ _ _ _ _ _
      | exact dist_Eight.mono _ _ _ _
      | exact dist_Sign.mono _ _ _ _
      | exact LeO.none _
      | refine LeO.ite ?_ ?_
      | refine LeO.bind ?_ (fun _ => ?_)
    · intro y0 y1 y2 y3 y4 y5 y6 y7 y8 y9 y10 y11
      unfold punchcutlaw10_Field.l1
      repeat' first
      | (with_reducible exact ih0 _ _ _ _ _ _ _ _ _ _ _)
      | (with_reducible exact ih1 _ _ _ _ _ _ _ _ _ _ _ _)
      | (with_reducible exact dist_Eight.mono _ _ _ _)
      | (with_reducible exact dist_Sign.mono _ _ _ _)
      | (with_reducible exact LeO.refl _)
      | (with_reducible exact LeO.none _)
      | (with_reducible refine LeO.ite ?_ ?_)
      | (with_reducible refine LeO.bind ?_ (fun _ => ?_))
      | exact ih0 _ _ _ _ _ _ _ _ _ _ _
      | exact ih1 _ _ _ _ _ _ _ _ _ _ _ _
      | exact dist_Eight.mono _ _ _ _
      | exact dist_Sign.mono _ _ _ _
      | exact LeO.none _
      | refine LeO.ite ?_ ?_
      | refine LeO.bind ?_ (fun _ => ?_)
theorem punchcutlaw10_Field.mono : ∀ a0 a1 a2 a3 a4 a5 a6 k, LeO (punchcutlaw10_Field.f k a0 a1 a2 a3 a4 a5 a6) (punchcutlaw10_Field.f (k + 1) a0 a1 a2 a3 a4 a5 a6) := by
  intro a0 a1 a2 a3 a4 a5 a6 k
  obtain ⟨ih0, ih1⟩ := punchcutlaw10_Field.mono_l k
  unfold punchcutlaw10_Field.f
  repeat' first
      | (with_reducible exact ih0 _ _ _ _ _ _ _ _ _ _ _)
      | (with_reducible exact ih1 _ _ _ _ _ _ _ _ _ _ _ _)
      | (with_reducible exact dist_Eight.mono _ _ _ _)
      | (with_reducible exact dist_Sign.mono _ _ _ _)
      | (with_reducible exact LeO.refl _)
      | (with_reducible exact LeO.none _)
      | (with_reducible refine LeO.ite ?_ ?_)
      | (with_reducible refine LeO.bind ?_ (fun _ => ?_))
      | exact ih0 _ _ _ _ _ _ _ _ _ _ _
      | exact ih1 _ _ _ _ _ _ _ _ _ _ _ _
      | exact dist_Eight.mono _ _ _ _
      | exact dist_Sign.mono _ _ _ _
      | exact LeO.none _
      | refine LeO.ite ?_ ?_
      | refine LeO.bind ?_ (fun _ => ?_)
def punchcutlaw10_Field.T11 : Bool × List (List Nat × List Nat) := (true, [([], []), ([], []), ([], []), ([1, 2], [1, 2]), ([], []), ([], []), ([4, 5, 3], [4, 5]), ([0, 3, 6, 6], [0, 3, 6]), ([7, 7, 0, 1, 2, 3, 4, 5, 6, 7], [7])])
def punchcutlaw10_Field.B11 : List Nat := [0, 0, 0, 6, 0, 0, 62, 127, 255]
theorem punchcutlaw10_Field.tab11 : rtab .any (opsOf Try.f35 11) = punchcutlaw10_Field.T11 := by kernel_rfl
theorem punchcutlaw10_Field.bits11 : waitsOk punchcutlaw10_Field.T11.2 punchcutlaw10_Field.B11 = true := by kernel_rfl
set_option maxHeartbeats 8000000 in
set_option maxRecDepth 100000 in
theorem punchcutlaw10_Field.calls (k : Nat) (A0 : Option Addr) (c0 : Nat) (l0 : List (S40)) (a1_0 : Int) (a1_1 : Int) (a1_2 : Int) (a1_3 : Int) (a1_4 : Int) (a1_5 : Int) (r1 : Int) (r2 : Int) (r3 : List Int) (w : World) (hr0 : Kd.C k40 w A0 l0.length l0) (hc0 : l0.length ≤ c0) (h : punchcutlaw10_Field.f k l0 a1_0 a1_1 a1_2 a1_3 a1_4 a1_5 = some (r1, r2, r3)) :
    Calls Try.prog 35 #[.slice A0 l0.length c0, .agg #[.int .i64 a1_0, .int .i64 a1_1, .int .i64 a1_2, .int .i64 a1_3, .int .i64 a1_4, .int .i64 a1_5]] w fun e w' => ∃ v2_ : Value, e = .returned (.agg #[.int .i64 r1, .int .i64 r2, v2_]) ∧ Kd.R (Kd.int .u8) 5 w' w.heap.size (fun _ => True) v2_ r3 ∧ Below w.heap.size w w' := by
  have hu53 := Try.underlying53
  have hu57 := Try.underlying57
  have hu32 := Try.underlying32
  have HR0 := Aside0.mk hr0
  have HC0 := Aside0.mk hc0
  clear hr0 hc0
  have HB := Aside0.mk (Below.refl w.heap.size w)
  have H : (punchcutlaw10_Field.l0 k l0 0 a1_0 a1_1 a1_2 a1_3 a1_4 a1_5 a1_3 a1_4 ([] : List Int)) = some (r1, r2, r3) := h
  clear h
  have H' := Aside0.mk H
  clear H
  go_enter Try.func35, Try.ntmps35
  go_wp2_with (first | ((with_reducible refine gate_dst (N := 3) rfl ?_); refine box_event ?hg (N := 3) ?hd (cs := #[.int .i64 a1_0, .int .i64 a1_1, .int .i64 a1_2, .int .i64 a1_3, .int .i64 a1_4, .int .i64 a1_5]) (t := 53) ?hr ?_; (case hd => rfl); (case hg => rfl); (case hr => first | (go_simp; done) | (go_simp; rfl)); intro gb318 hg w3 hbox hb; have n0_ := Aside0.mk (below_step (by repeat (first | (with_reducible first | exact HB.out | apply below_alloc | apply pw_below_drewN | apply below_drew1) | exact HB.out)) hb); have n1_ := Aside0.mk (hbox); have n2_ := Aside0.mk ((by rw [hg]; exact (below_size (by repeat (first | (with_reducible first | exact HB.out | apply below_alloc | apply pw_below_drewN | apply below_drew1) | exact HB.out))) : w.heap.size ≤ gb318)); have n3_ := Aside0.mk ((by rw [hg]; exact (below_size (by repeat (first | (with_reducible first | exact HB.out | apply below_alloc | apply pw_below_drewN | apply below_drew1) | exact HB.out))) : w.heap.size ≤ gb318)); clear HB; have HB := n0_; have BK318 := n1_; have GW318 := n2_; have GE318 := n3_; clear n0_ n1_ n2_ n3_; clear hb hbox hg) | ((with_reducible refine gate_dst (N := 4) rfl ?_); refine box_event ?hg (N := 4) ?hd (cs := #[.int .i64 0, .int .i64 0, .slice none 0 0]) (t := 57) ?hr ?_; (case hd => rfl); (case hg => rfl); (case hr => first | (go_simp; done) | (go_simp; rfl)); intro gb319 hg w4 hbox hb; have n0_ := Aside0.mk (blk_below (g := gb318) (o := .cells #[.int .i64 a1_0, .int .i64 a1_1, .int .i64 a1_2, .int .i64 a1_3, .int .i64 a1_4, .int .i64 a1_5] 53 (0, 0)) (by (with_reducible repeat (first | refine blk_drewN ?_ _ | refine blk_drew ?_ | refine blk_alloc ?_ _)); exact BK318.out) hb); have n1_ := Aside0.mk (below_step (by repeat (first | (with_reducible first | exact HB.out | apply below_alloc | apply pw_below_drewN | apply below_drew1 | refine below_set ?_ GE318.out) | exact HB.out)) hb); have n2_ := Aside0.mk (hbox); have n3_ := Aside0.mk ((by rw [hg]; exact (below_size (by repeat (first | (with_reducible first | exact HB.out | apply below_alloc | apply pw_below_drewN | apply below_drew1 | refine below_set ?_ GE318.out) | exact HB.out))) : w.heap.size ≤ gb319)); have n4_ := Aside0.mk ((by rw [hg]; exact (below_size (by repeat (first | (with_reducible first | exact HB.out | apply below_alloc | apply pw_below_drewN | apply below_drew1 | refine below_set ?_ GE318.out) | exact HB.out))) : w.heap.size ≤ gb319)); have n5_ := Aside0.mk ((by rw [hg]; exact Nat.ne_of_lt (blk_lt (g := gb318) (o := .cells #[.int .i64 a1_0, .int .i64 a1_1, .int .i64 a1_2, .int .i64 a1_3, .int .i64 a1_4, .int .i64 a1_5] 53 (0, 0)) (by (with_reducible repeat (first | refine blk_drewN ?_ _ | refine blk_drew ?_ | refine blk_alloc ?_ _)); exact BK318.out)) : gb318 ≠ gb319)); have n6_ := Aside0.mk ((by rw [hg]; exact Nat.ne_of_gt (blk_lt (g := gb318) (o := .cells #[.int .i64 a1_0, .int .i64 a1_1, .int .i64 a1_2, .int .i64 a1_3, .int .i64 a1_4, .int .i64 a1_5] 53 (0, 0)) (by (with_reducible repeat (first | refine blk_drewN ?_ _ | refine blk_drew ?_ | refine blk_alloc ?_ _)); exact BK318.out)) : gb319 ≠ gb318)); clear BK318; clear HB; have BK318 := n0_; have HB := n1_; have BK319 := n2_; have GW319 := n3_; have GE319 := n4_; have NB318_319 := n5_; have NB319_318 := n6_; clear n0_ n1_ n2_ n3_ n4_ n5_ n6_; clear hb hbox hg; have hnb5 := NB318_319.out; have hnc5 := NB319_318.out; have hcz6_0 : w4.cell? ⟨gb318, 0, none⟩ = some (.int .i64 a1_0) := (blk_cell BK318.out 0).trans rfl; have hcz6_1 : w4.cell? ⟨gb318, 1, none⟩ = some (.int .i64 a1_1) := (blk_cell BK318.out 1).trans rfl; have hcz6_2 : w4.cell? ⟨gb318, 2, none⟩ = some (.int .i64 a1_2) := (blk_cell BK318.out 2).trans rfl; have hcz6_3 : w4.cell? ⟨gb318, 3, none⟩ = some (.int .i64 a1_3) := (blk_cell BK318.out 3).trans rfl; have hcz6_4 : w4.cell? ⟨gb318, 4, none⟩ = some (.int .i64 a1_4) := (blk_cell BK318.out 4).trans rfl; have hcz6_5 : w4.cell? ⟨gb318, 5, none⟩ = some (.int .i64 a1_5) := (blk_cell BK318.out 5).trans rfl; have hfz6_0 := blk_frozen BK318.out 0; have hfz6_1 := blk_frozen BK318.out 1; have hfz6_2 := blk_frozen BK318.out 2; have hfz6_3 := blk_frozen BK318.out 3; have hfz6_4 := blk_frozen BK318.out 4; have hfz6_5 := blk_frozen BK318.out 5) | ((with_reducible refine gate_dst (N := 5) rfl ?_); refine box_event ?hg (N := 5) ?hd (cs := #[.int .i64 0, .int .i64 0, .slice none 0 0]) (t := 57) ?hr ?_; (case hd => rfl); (case hg => rfl); (case hr => first | (go_simp; done) | (go_simp; rfl)); intro gb320 hg w7 hbox hb; have n0_ := Aside0.mk (blk_below (g := gb318) (o := .cells #[.int .i64 a1_0, .int .i64 a1_1, .int .i64 a1_2, .int .i64 a1_3, .int .i64 a1_4, .int .i64 a1_5] 53 (0, 0)) (by (with_reducible repeat (first | refine blk_drewN ?_ _ | refine blk_drew ?_ | refine blk_alloc ?_ _)); exact BK318.out) hb); have n1_ := Aside0.mk (blk_below (g := gb319) (o := .cells #[.int .i64 0, .int .i64 0, .slice none 0 0] 57 (0, 0)) (by (with_reducible repeat (first | refine blk_drewN ?_ _ | refine blk_drew ?_ | refine blk_alloc ?_ _)); exact BK319.out) hb); have n2_ := Aside0.mk (below_step (by repeat (first | (with_reducible first | exact HB.out | apply below_alloc | apply pw_below_drewN | apply below_drew1 | refine below_set ?_ GE318.out | refine below_set ?_ GE319.out) | exact HB.out)) hb); have n3_ := Aside0.mk (hbox); have n4_ := Aside0.mk ((by rw [hg]; exact (below_size (by repeat (first | (with_reducible first | exact HB.out | apply below_alloc | apply pw_below_drewN | apply below_drew1 | refine below_set ?_ GE318.out | refine below_set ?_ GE319.out) | exact HB.out))) : w.heap.size ≤ gb320)); have n5_ := Aside0.mk ((by rw [hg]; exact (below_size (by repeat (first | (with_reducible first | exact HB.out | apply below_alloc | apply pw_below_drewN | apply below_drew1 | refine below_set ?_ GE318.out | refine below_set ?_ GE319.out) | exact HB.out))) : w.heap.size ≤ gb320)); have n6_ := Aside0.mk ((by rw [hg]; exact Nat.ne_of_lt (blk_lt (g := gb318) (o := .cells #[.int .i64 a1_0, .int .i64 a1_1, .int .i64 a1_2, .int .i64 a1_3, .int .i64 a1_4, .int .i64 a1_5] 53 (0, 0)) (by (with_reducible repeat (first | refine blk_drewN ?_ _ | refine blk_drew ?_ | refine blk_alloc ?_ _)); exact BK318.out)) : gb318 ≠ gb320)); have n7_ := Aside0.mk ((by rw [hg]; exact Nat.ne_of_gt (blk_lt (g := gb318) (o := .cells #[.int .i64 a1_0, .int .i64 a1_1, .int .i64 a1_2, .int .i64 a1_3, .int .i64 a1_4, .int .i64 a1_5] 53 (0, 0)) (by (with_reducible repeat (first | refine blk_drewN ?_ _ | refine blk_drew ?_ | refine blk_alloc ?_ _)); exact BK318.out)) : gb320 ≠ gb318)); have n8_ := Aside0.mk ((by rw [hg]; exact Nat.ne_of_lt (blk_lt (g := gb319) (o := .cells #[.int .i64 0, .int .i64 0, .slice none 0 0] 57 (0, 0)) (by (with_reducible repeat (first | refine blk_drewN ?_ _ | refine blk_drew ?_ | refine blk_alloc ?_ _)); exact BK319.out)) : gb319 ≠ gb320)); have n9_ := Aside0.mk ((by rw [hg]; exact Nat.ne_of_gt (blk_lt (g := gb319) (o := .cells #[.int .i64 0, .int .i64 0, .slice none 0 0] 57 (0, 0)) (by (with_reducible repeat (first | refine blk_drewN ?_ _ | refine blk_drew ?_ | refine blk_alloc ?_ _)); exact BK319.out)) : gb320 ≠ gb319)); clear BK318; clear BK319; clear HB; have BK318 := n0_; have BK319 := n1_; have HB := n2_; have BK320 := n3_; have GW320 := n4_; have GE320 := n5_; have NB318_320 := n6_; have NB320_318 := n7_; have NB319_320 := n8_; have NB320_319 := n9_; clear n0_ n1_ n2_ n3_ n4_ n5_ n6_ n7_ n8_ n9_; clear hb hbox hg; have hnb8 := NB320_318.out; have hnc8 := NB318_320.out; have hnb9 := NB320_319.out; have hnc9 := NB319_320.out; have hcz10_0 : w7.cell? ⟨gb320, 0, none⟩ = some (.int .i64 0) := (blk_cell BK320.out 0).trans rfl; have hcz10_1 : w7.cell? ⟨gb320, 1, none⟩ = some (.int .i64 0) := (blk_cell BK320.out 1).trans rfl; have hcz10_2 : w7.cell? ⟨gb320, 2, none⟩ = some (.slice none 0 0) := (blk_cell BK320.out 2).trans rfl; have hfz10_0 := blk_frozen BK320.out 0; have hfz10_1 := blk_frozen BK320.out 1; have hfz10_2 := blk_frozen BK320.out 2))
  go_loopg [6] k (fun kq v6 w' => ∃ (x6_1 : Int) (x321002_1 : List Int) (u321002 : Value), v6 = .int .i64 x6_1 ∧ Aside0 (punchcutlaw10_Field.l0 kq l0 x6_1 a1_0 a1_1 a1_2 a1_3 a1_4 a1_5 a1_3 a1_4 x321002_1 = some (r1, r2, r3)) ∧ Aside0 (kq ≤ k) ∧ Aside0 (Kd.R (Kd.int .u8) 5 w' w.heap.size (fun _ => True) u321002 x321002_1) ∧ Aside0 (w'.heap[gb318]? = some (.cells #[.int .i64 a1_0, .int .i64 a1_1, .int .i64 a1_2, .int .i64 a1_3, .int .i64 a1_4, .int .i64 a1_5] 53 (0, 0))) ∧ Aside0 (w'.heap[gb319]? = some (.cells #[.int .i64 0, .int .i64 0, (.slice none 0 0)] 57 (0, 0))) ∧ Aside0 (w'.heap[gb320]? = some (.cells #[.int .i64 a1_3, .int .i64 a1_4, u321002] 57 (0, 0))) ∧ Aside0 (Below w.heap.size w w'))
  case atStart => exact ⟨(0), (([] : List Int)), (.slice none 0 0), (by first | rfl | (simp; done) | (simp [*]; done)), H', ⟨Nat.le_refl _⟩, ⟨by first | exact Kd.R_nil _ _ _ _ _ | exact Kd.N_nil _ _ _ _ _ | exact Kd.V_nil _ _ _ _ _ | exact Kd.Q_nil _ _ _ _ _ | exact Kd.S_nil _ _ _ _ _⟩, ⟨by (with_reducible repeat (first | refine blk_drewN ?_ _ | refine blk_drew ?_ | refine blk_alloc ?_ _)); refine blk_far ?_ NB318_320.out _; (with_reducible repeat (first | refine blk_drewN ?_ _ | refine blk_drew ?_ | refine blk_alloc ?_ _)); refine blk_far ?_ NB318_320.out _; (with_reducible repeat (first | refine blk_drewN ?_ _ | refine blk_drew ?_ | refine blk_alloc ?_ _)); refine blk_far ?_ NB318_320.out _; (with_reducible repeat (first | refine blk_drewN ?_ _ | refine blk_drew ?_ | refine blk_alloc ?_ _)); exact BK318.out⟩, ⟨by (with_reducible repeat (first | refine blk_drewN ?_ _ | refine blk_drew ?_ | refine blk_alloc ?_ _)); refine blk_far ?_ NB319_320.out _; (with_reducible repeat (first | refine blk_drewN ?_ _ | refine blk_drew ?_ | refine blk_alloc ?_ _)); refine blk_far ?_ NB319_320.out _; (with_reducible repeat (first | refine blk_drewN ?_ _ | refine blk_drew ?_ | refine blk_alloc ?_ _)); refine blk_far ?_ NB319_320.out _; (with_reducible repeat (first | refine blk_drewN ?_ _ | refine blk_drew ?_ | refine blk_alloc ?_ _)); exact BK319.out⟩, ⟨by (with_reducible repeat (first | refine blk_drewN ?_ _ | refine blk_drew ?_ | refine blk_alloc ?_ _)); refine blk_put (cs := #[.int .i64 a1_3, .int .i64 a1_4, .slice none 0 0]) ?_ 2 _ rfl; (with_reducible repeat (first | refine blk_drewN ?_ _ | refine blk_drew ?_ | refine blk_alloc ?_ _)); refine blk_put (cs := #[.int .i64 a1_3, .int .i64 0, .slice none 0 0]) ?_ 1 _ rfl; (with_reducible repeat (first | refine blk_drewN ?_ _ | refine blk_drew ?_ | refine blk_alloc ?_ _)); refine blk_put (cs := #[.int .i64 0, .int .i64 0, .slice none 0 0]) ?_ 0 _ rfl; (with_reducible repeat (first | refine blk_drewN ?_ _ | refine blk_drew ?_ | refine blk_alloc ?_ _)); exact BK320.out⟩, ⟨by repeat (first | (with_reducible first | exact HB.out | apply below_alloc | apply pw_below_drewN | apply below_drew1 | refine below_set ?_ GE318.out | refine below_set ?_ GE319.out | refine below_set ?_ GE320.out) | exact HB.out)⟩⟩
  case round =>
    clear H'
    try clear p2
    try clear c3
    try clear c5
    try clear c8
    try clear c9
    try clear hcz10_0
    try clear hcz10_1
    try clear hcz10_2
    try clear hcz6_0
    try clear hcz6_1
    try clear hcz6_2
    try clear hcz6_3
    try clear hcz6_4
    try clear hcz6_5
    try clear hfz10_0
    try clear hfz10_1
    try clear hfz10_2
    try clear hfz6_0
    try clear hfz6_1
    try clear hfz6_2
    try clear hfz6_3
    try clear hfz6_4
    try clear hfz6_5
    obtain ⟨x6_1, x321002_1, u321002, rfl, HA, HK1, HO_321002, BK318, BK319, BK320, HB⟩ := hrel
    cases gk with
    | zero => exact absurd HA.out (by simp [punchcutlaw10_Field.l0])
    | succ k1 =>
      have H := HA.out
      clear HA
      simp only [punchcutlaw10_Field.l0] at H
      by_cases c11 : x6_1 < a1_4
      · rw [if_pos c11] at H
        have c11b0 : decide (x6_1 < a1_4) = true := decide_eq_true c11
        clear c11
        have H' := Aside0.mk H
        clear H
        have hnb12 := NB318_319.out
        have hnc12 := NB319_318.out
        have hnb13 := NB318_320.out
        have hnc13 := NB320_318.out
        have hcz14_0 : wr.cell? ⟨gb318, 0, none⟩ = some (.int .i64 a1_0) := (blk_cell BK318.out 0).trans rfl
        have hcz14_1 : wr.cell? ⟨gb318, 1, none⟩ = some (.int .i64 a1_1) := (blk_cell BK318.out 1).trans rfl
        have hcz14_2 : wr.cell? ⟨gb318, 2, none⟩ = some (.int .i64 a1_2) := (blk_cell BK318.out 2).trans rfl
        have hcz14_3 : wr.cell? ⟨gb318, 3, none⟩ = some (.int .i64 a1_3) := (blk_cell BK318.out 3).trans rfl
        have hcz14_4 : wr.cell? ⟨gb318, 4, none⟩ = some (.int .i64 a1_4) := (blk_cell BK318.out 4).trans rfl
        have hcz14_5 : wr.cell? ⟨gb318, 5, none⟩ = some (.int .i64 a1_5) := (blk_cell BK318.out 5).trans rfl
        have hfz14_0 := blk_frozen BK318.out 0
        have hfz14_1 := blk_frozen BK318.out 1
        have hfz14_2 := blk_frozen BK318.out 2
        have hfz14_3 := blk_frozen BK318.out 3
        have hfz14_4 := blk_frozen BK318.out 4
        have hfz14_5 := blk_frozen BK318.out 5
        go_wp2
        go_loopg [7] k1 (fun kq v7 w' => ∃ (x7_2 : Int) (x321002_2 : List Int) (u321002 : Value), v7 = .int .i64 x7_2 ∧ Aside0 (punchcutlaw10_Field.l1 kq l0 x6_1 x7_2 a1_0 a1_1 a1_2 a1_3 a1_4 a1_5 a1_3 a1_4 x321002_2 = some (r1, r2, r3)) ∧ Aside0 (kq ≤ k1) ∧ Aside0 (Kd.R (Kd.int .u8) 5 w' w.heap.size (fun _ => True) u321002 x321002_2) ∧ Aside0 (w'.heap[gb318]? = some (.cells #[.int .i64 a1_0, .int .i64 a1_1, .int .i64 a1_2, .int .i64 a1_3, .int .i64 a1_4, .int .i64 a1_5] 53 (0, 0))) ∧ Aside0 (w'.heap[gb319]? = some (.cells #[.int .i64 0, .int .i64 0, (.slice none 0 0)] 57 (0, 0))) ∧ Aside0 (w'.heap[gb320]? = some (.cells #[.int .i64 a1_3, .int .i64 a1_4, u321002] 57 (0, 0))) ∧ Aside0 (Below w.heap.size w w'))
        case atStart => exact ⟨(0), (x321002_1), (u321002), (by first | rfl | (simp; done) | (simp [*]; done)), H', ⟨Nat.le_refl _⟩, ⟨by (with_reducible repeat (first | apply Kd.R_alloc | apply Kd.R_drewN | apply Kd.R_drew)); exact HO_321002.out⟩, ⟨by (with_reducible repeat (first | refine blk_drewN ?_ _ | refine blk_drew ?_ | refine blk_alloc ?_ _)); exact BK318.out⟩, ⟨by (with_reducible repeat (first | refine blk_drewN ?_ _ | refine blk_drew ?_ | refine blk_alloc ?_ _)); exact BK319.out⟩, ⟨by (with_reducible repeat (first | refine blk_drewN ?_ _ | refine blk_drew ?_ | refine blk_alloc ?_ _)); exact BK320.out⟩, ⟨by repeat (first | (with_reducible first | exact HB.out | apply below_alloc | apply pw_below_drewN | apply below_drew1 | refine below_set ?_ GE318.out | refine below_set ?_ GE319.out | refine below_set ?_ GE320.out) | exact HB.out)⟩⟩
        case round =>
          clear H'
          try clear c1
          try clear p2
          try clear c3
          try clear c5
          try clear c8
          try clear c9
          try clear c11
          try clear c11b0
          try clear c12
          try clear c13
          try clear hcz10_0
          try clear hcz10_1
          try clear hcz10_2
          try clear hcz14_0
          try clear hcz14_1
          try clear hcz14_2
          try clear hcz14_3
          try clear hcz14_4
          try clear hcz14_5
          try clear hcz6_0
          try clear hcz6_1
          try clear hcz6_2
          try clear hcz6_3
          try clear hcz6_4
          try clear hcz6_5
          try clear hfz10_0
          try clear hfz10_1
          try clear hfz10_2
          try clear hfz14_0
          try clear hfz14_1
          try clear hfz14_2
          try clear hfz14_3
          try clear hfz14_4
          try clear hfz14_5
          try clear hfz6_0
          try clear hfz6_1
          try clear hfz6_2
          try clear hfz6_3
          try clear hfz6_4
          try clear hfz6_5
          try clear p2
          obtain ⟨x7_2, x321002_2, u321002, rfl, HA, HK2, HO_321002, BK318, BK319, BK320, HB⟩ := hrel
          cases gk with
          | zero => exact absurd HA.out (by simp [punchcutlaw10_Field.l1])
          | succ k2 =>
            have H := HA.out
            clear HA
            simp only [punchcutlaw10_Field.l1] at H
            by_cases c15 : x7_2 < a1_3
            · rw [if_pos c15] at H
              have c15b0 : decide (x7_2 < a1_3) = true := decide_eq_true c15
              clear c15
              replace H := Option.bind_eq_some_iff.mp H
              obtain ⟨⟨t321, t322⟩, A160, H⟩ := H
              replace H : (if (l0.length : Int) > 0 then ((dist_Sign.f k2 l0 t321 t322).bind fun t324 => ((dist_Eight.f k2 l0 t321 t322).bind fun t325 => ((grid_Code.f a1_0 a1_1 a1_2 a1_3 a1_4 a1_5 t324 t325).bind fun t326 => (if x321002_2.length < 140737488355328 then (punchcutlaw10_Field.l1 k2 l0 x6_1 (wrap64 (x7_2 + 1)) a1_0 a1_1 a1_2 a1_3 a1_4 a1_5 a1_3 a1_4 (x321002_2 ++ [t326])) else (none))))) else (if x321002_2.length < 140737488355328 then (punchcutlaw10_Field.l1 k2 l0 x6_1 (wrap64 (x7_2 + 1)) a1_0 a1_1 a1_2 a1_3 a1_4 a1_5 a1_3 a1_4 (x321002_2 ++ [1])) else (none))) = some (r1, r2, r3) := H
              have A16 := Aside0.mk A160
              clear A160
              by_cases c17 : (l0.length : Int) > 0
              · rw [if_pos c17] at H
                have c17b0 : decide (0 < (l0.length : Int)) = true := decide_eq_true c17
                have c17b1 : decide (0 < l0.length) = true := decide_eq_true (by omega)
                clear c17
                replace H := Option.bind_eq_some_iff.mp H
                obtain ⟨t324, A180, H⟩ := H
                replace H : ((dist_Eight.f k2 l0 t321 t322).bind fun t325 => ((grid_Code.f a1_0 a1_1 a1_2 a1_3 a1_4 a1_5 t324 t325).bind fun t326 => (if x321002_2.length < 140737488355328 then (punchcutlaw10_Field.l1 k2 l0 x6_1 (wrap64 (x7_2 + 1)) a1_0 a1_1 a1_2 a1_3 a1_4 a1_5 a1_3 a1_4 (x321002_2 ++ [t326])) else (none)))) = some (r1, r2, r3) := H
                have A18 := Aside0.mk A180
                clear A180
                replace H := Option.bind_eq_some_iff.mp H
                obtain ⟨t325, A190, H⟩ := H
                replace H : ((grid_Code.f a1_0 a1_1 a1_2 a1_3 a1_4 a1_5 t324 t325).bind fun t326 => (if x321002_2.length < 140737488355328 then (punchcutlaw10_Field.l1 k2 l0 x6_1 (wrap64 (x7_2 + 1)) a1_0 a1_1 a1_2 a1_3 a1_4 a1_5 a1_3 a1_4 (x321002_2 ++ [t326])) else (none))) = some (r1, r2, r3) := H
                have A19 := Aside0.mk A190
                clear A190
                replace H := Option.bind_eq_some_iff.mp H
                obtain ⟨t326, A200, H⟩ := H
                replace H : (if x321002_2.length < 140737488355328 then (punchcutlaw10_Field.l1 k2 l0 x6_1 (wrap64 (x7_2 + 1)) a1_0 a1_1 a1_2 a1_3 a1_4 a1_5 a1_3 a1_4 (x321002_2 ++ [t326])) else (none)) = some (r1, r2, r3) := H
                have A20 := Aside0.mk A200
                clear A200
                by_cases c21 : x321002_2.length < 140737488355328
                · rw [if_pos c21] at H
                  have LMc21 := Aside0.mk c21
                  clear c21
                  obtain ⟨y327, hy327⟩ : ∃ y_ : List Int, y_ = (x321002_2 ++ [t326]) := ⟨_, rfl⟩
                  replace H : (punchcutlaw10_Field.l1 k2 l0 x6_1 (wrap64 (x7_2 + 1)) a1_0 a1_1 a1_2 a1_3 a1_4 a1_5 a1_3 a1_4 y327) = some (r1, r2, r3) := by first | (rw [hy327]; with_reducible exact H) | (have H2_ := (Option.bind_some _ _).symm.trans H; rw [hy327]; with_reducible exact H2_) | (have H2_ := (Option.bind_some _ _).symm.trans H; with_reducible exact H2_) | with_reducible exact H | (rw [hy327]; exact H) | exact H
                  have Ny327 := Aside0.mk hy327
                  clear hy327
                  have H' := Aside0.mk H
                  clear H
                  have hnb22 := NB318_319.out
                  have hnc22 := NB319_318.out
                  have hnb23 := NB318_320.out
                  have hnc23 := NB320_318.out
                  have hcz24_0 : wr.cell? ⟨gb318, 0, none⟩ = some (.int .i64 a1_0) := (blk_cell BK318.out 0).trans rfl
                  have hcz24_1 : wr.cell? ⟨gb318, 1, none⟩ = some (.int .i64 a1_1) := (blk_cell BK318.out 1).trans rfl
                  have hcz24_2 : wr.cell? ⟨gb318, 2, none⟩ = some (.int .i64 a1_2) := (blk_cell BK318.out 2).trans rfl
                  have hcz24_3 : wr.cell? ⟨gb318, 3, none⟩ = some (.int .i64 a1_3) := (blk_cell BK318.out 3).trans rfl
                  have hcz24_4 : wr.cell? ⟨gb318, 4, none⟩ = some (.int .i64 a1_4) := (blk_cell BK318.out 4).trans rfl
                  have hcz24_5 : wr.cell? ⟨gb318, 5, none⟩ = some (.int .i64 a1_5) := (blk_cell BK318.out 5).trans rfl
                  have hfz24_0 := blk_frozen BK318.out 0
                  have hfz24_1 := blk_frozen BK318.out 1
                  have hfz24_2 := blk_frozen BK318.out 2
                  have hfz24_3 := blk_frozen BK318.out 3
                  have hfz24_4 := blk_frozen BK318.out 4
                  have hfz24_5 := blk_frozen BK318.out 5
                  try go_wp2_with (first | ((with_reducible refine gate_callee (f := 42) rfl ?_); refine goesL_ (some 30) rfl rfl Try.func42 (by kernel_rfl) rfl #[.agg #[.int .i64 a1_0, .int .i64 a1_1, .int .i64 a1_2, .int .i64 a1_3, .int .i64 a1_4, .int .i64 a1_5], .int .i64 x7_2, .int .i64 x6_1] rfl (by (try simp only [List.map_toArray, List.map_cons, List.map_nil]); first | done | rfl | (simp only [List.length_drop, List.length_take]; rfl)) ?_; (with_reducible refine (grid_Centre.calls a1_0 a1_1 a1_2 a1_3 a1_4 a1_5 x7_2 x6_1 t321 t322 _ A16.out).mono ?_); rintro e w25 ⟨rfl, hb⟩; refine ⟨_, rfl, ?_⟩; have n0_ := Aside0.mk (Kd.R_below (by (with_reducible repeat (first | apply Kd.R_alloc | apply Kd.R_drewN | apply Kd.R_drew)); exact HO_321002.out) hb); have n1_ := Aside0.mk (blk_below (g := gb318) (o := .cells #[.int .i64 a1_0, .int .i64 a1_1, .int .i64 a1_2, .int .i64 a1_3, .int .i64 a1_4, .int .i64 a1_5] 53 (0, 0)) (by (with_reducible repeat (first | refine blk_drewN ?_ _ | refine blk_drew ?_ | refine blk_alloc ?_ _)); exact BK318.out) hb); have n2_ := Aside0.mk (blk_below (g := gb319) (o := .cells #[.int .i64 0, .int .i64 0, .slice none 0 0] 57 (0, 0)) (by (with_reducible repeat (first | refine blk_drewN ?_ _ | refine blk_drew ?_ | refine blk_alloc ?_ _)); exact BK319.out) hb); have n3_ := Aside0.mk (blk_below (g := gb320) (o := .cells #[.int .i64 a1_3, .int .i64 a1_4, u321002] 57 (0, 0)) (by (with_reducible repeat (first | refine blk_drewN ?_ _ | refine blk_drew ?_ | refine blk_alloc ?_ _)); exact BK320.out) hb); have n4_ := Aside0.mk (below_step (by repeat (first | (with_reducible first | exact HB.out | apply below_alloc | apply pw_below_drewN | apply below_drew1 | refine below_set ?_ GE318.out | refine below_set ?_ GE319.out | refine below_set ?_ GE320.out) | exact HB.out)) hb); clear HO_321002; clear BK318; clear BK319; clear BK320; clear HB; have HO_321002 := n0_; have BK318 := n1_; have BK319 := n2_; have BK320 := n3_; have HB := n4_; clear n0_ n1_ n2_ n3_ n4_; (try clear hb); (try clear hb2); (try clear hk); (try clear hi)) | ((with_reducible refine gate_dst (N := 8) rfl ?_); refine box_event ?hg (N := 8) ?hd (cs := #[.int .i64 0, .int .i64 0]) (t := 32) ?hr ?_; (case hd => rfl); (case hg => rfl); (case hr => first | (go_simp; done) | (go_simp; rfl)); intro gb323 hg w26 hbox hb; have n0_ := Aside0.mk (Kd.R_below (by (with_reducible repeat (first | apply Kd.R_alloc | apply Kd.R_drewN | apply Kd.R_drew)); exact HO_321002.out) hb); have n1_ := Aside0.mk (blk_below (g := gb318) (o := .cells #[.int .i64 a1_0, .int .i64 a1_1, .int .i64 a1_2, .int .i64 a1_3, .int .i64 a1_4, .int .i64 a1_5] 53 (0, 0)) (by (with_reducible repeat (first | refine blk_drewN ?_ _ | refine blk_drew ?_ | refine blk_alloc ?_ _)); exact BK318.out) hb); have n2_ := Aside0.mk (blk_below (g := gb319) (o := .cells #[.int .i64 0, .int .i64 0, .slice none 0 0] 57 (0, 0)) (by (with_reducible repeat (first | refine blk_drewN ?_ _ | refine blk_drew ?_ | refine blk_alloc ?_ _)); exact BK319.out) hb); have n3_ := Aside0.mk (blk_below (g := gb320) (o := .cells #[.int .i64 a1_3, .int .i64 a1_4, u321002] 57 (0, 0)) (by (with_reducible repeat (first | refine blk_drewN ?_ _ | refine blk_drew ?_ | refine blk_alloc ?_ _)); exact BK320.out) hb); have n4_ := Aside0.mk (below_step (by repeat (first | (with_reducible first | exact HB.out | apply below_alloc | apply pw_below_drewN | apply below_drew1 | refine below_set ?_ GE318.out | refine below_set ?_ GE319.out | refine below_set ?_ GE320.out) | exact HB.out)) hb); have n5_ := Aside0.mk (hbox); have n6_ := Aside0.mk ((by rw [hg]; exact (below_size (by repeat (first | (with_reducible first | exact HB.out | apply below_alloc | apply pw_below_drewN | apply below_drew1 | refine below_set ?_ GE318.out | refine below_set ?_ GE319.out | refine below_set ?_ GE320.out) | exact HB.out))) : w.heap.size ≤ gb323)); have n7_ := Aside0.mk ((by rw [hg]; exact (below_size (by repeat (first | (with_reducible first | exact HB.out | apply below_alloc | apply pw_below_drewN | apply below_drew1 | refine below_set ?_ GE318.out | refine below_set ?_ GE319.out | refine below_set ?_ GE320.out) | exact HB.out))) : w.heap.size ≤ gb323)); have n8_ := Aside0.mk ((by rw [hg]; exact Nat.ne_of_lt (blk_lt (g := gb318) (o := .cells #[.int .i64 a1_0, .int .i64 a1_1, .int .i64 a1_2, .int .i64 a1_3, .int .i64 a1_4, .int .i64 a1_5] 53 (0, 0)) (by (with_reducible repeat (first | refine blk_drewN ?_ _ | refine blk_drew ?_ | refine blk_alloc ?_ _)); exact BK318.out)) : gb318 ≠ gb323)); have n9_ := Aside0.mk ((by rw [hg]; exact Nat.ne_of_gt (blk_lt (g := gb318) (o := .cells #[.int .i64 a1_0, .int .i64 a1_1, .int .i64 a1_2, .int .i64 a1_3, .int .i64 a1_4, .int .i64 a1_5] 53 (0, 0)) (by (with_reducible repeat (first | refine blk_drewN ?_ _ | refine blk_drew ?_ | refine blk_alloc ?_ _)); exact BK318.out)) : gb323 ≠ gb318)); have n10_ := Aside0.mk ((by rw [hg]; exact Nat.ne_of_lt (blk_lt (g := gb319) (o := .cells #[.int .i64 0, .int .i64 0, .slice none 0 0] 57 (0, 0)) (by (with_reducible repeat (first | refine blk_drewN ?_ _ | refine blk_drew ?_ | refine blk_alloc ?_ _)); exact BK319.out)) : gb319 ≠ gb323)); have n11_ := Aside0.mk ((by rw [hg]; exact Nat.ne_of_gt (blk_lt (g := gb319) (o := .cells #[.int .i64 0, .int .i64 0, .slice none 0 0] 57 (0, 0)) (by (with_reducible repeat (first | refine blk_drewN ?_ _ | refine blk_drew ?_ | refine blk_alloc ?_ _)); exact BK319.out)) : gb323 ≠ gb319)); have n12_ := Aside0.mk ((by rw [hg]; exact Nat.ne_of_lt (blk_lt (g := gb320) (o := .cells #[.int .i64 a1_3, .int .i64 a1_4, u321002] 57 (0, 0)) (by (with_reducible repeat (first | refine blk_drewN ?_ _ | refine blk_drew ?_ | refine blk_alloc ?_ _)); exact BK320.out)) : gb320 ≠ gb323)); have n13_ := Aside0.mk ((by rw [hg]; exact Nat.ne_of_gt (blk_lt (g := gb320) (o := .cells #[.int .i64 a1_3, .int .i64 a1_4, u321002] 57 (0, 0)) (by (with_reducible repeat (first | refine blk_drewN ?_ _ | refine blk_drew ?_ | refine blk_alloc ?_ _)); exact BK320.out)) : gb323 ≠ gb320)); clear HO_321002; clear BK318; clear BK319; clear BK320; clear HB; have HO_321002 := n0_; have BK318 := n1_; have BK319 := n2_; have BK320 := n3_; have HB := n4_; have BK323 := n5_; have GW323 := n6_; have GE323 := n7_; have NB318_323 := n8_; have NB323_318 := n9_; have NB319_323 := n10_; have NB323_319 := n11_; have NB320_323 := n12_; have NB323_320 := n13_; clear n0_ n1_ n2_ n3_ n4_ n5_ n6_ n7_ n8_ n9_ n10_ n11_ n12_ n13_; clear hb hbox hg; have hnb27 := NB323_318.out; have hnc27 := NB318_323.out; have hnb28 := NB323_319.out; have hnc28 := NB319_323.out; have hnb29 := NB323_320.out; have hnc29 := NB320_323.out; have hcz30_0 : w26.cell? ⟨gb323, 0, none⟩ = some (.int .i64 0) := (blk_cell BK323.out 0).trans rfl; have hcz30_1 : w26.cell? ⟨gb323, 1, none⟩ = some (.int .i64 0) := (blk_cell BK323.out 1).trans rfl; have hfz30_0 := blk_frozen BK323.out 0; have hfz30_1 := blk_frozen BK323.out 1))
                  have n0_ : Aside0 (Kd.R (Kd.int .u8) 5 ((w26.setCell ⟨gb323, 0, none⟩ (.int .i64 t321)).setCell ⟨gb323, 1, none⟩ (.int .i64 t322)) w.heap.size (fun _ => True) u321002 x321002_2) := ⟨by (with_reducible repeat (first | apply Kd.R_alloc | apply Kd.R_drewN | apply Kd.R_drew)); exact Kd.R_mono (Kd.R_far (p := ⟨gb323, 1, none⟩) (Kd.R_far (p := ⟨gb323, 0, none⟩) (Kd.R_types HO_321002.out BK323.out (by decide)) (fun _ hk => hk.2) (.int .i64 t321)) (fun _ hk => hk.2) (.int .i64 t322)) (fun _ hk => trivial)⟩
                  have n1_ : Aside0 (((w26.setCell ⟨gb323, 0, none⟩ (.int .i64 t321)).setCell ⟨gb323, 1, none⟩ (.int .i64 t322)).heap[gb318]? = some (.cells #[.int .i64 a1_0, .int .i64 a1_1, .int .i64 a1_2, .int .i64 a1_3, .int .i64 a1_4, .int .i64 a1_5] 53 (0, 0))) := ⟨by (with_reducible repeat (first | refine blk_drewN ?_ _ | refine blk_drew ?_ | refine blk_alloc ?_ _)); refine blk_far ?_ NB318_323.out _; (with_reducible repeat (first | refine blk_drewN ?_ _ | refine blk_drew ?_ | refine blk_alloc ?_ _)); refine blk_far ?_ NB318_323.out _; (with_reducible repeat (first | refine blk_drewN ?_ _ | refine blk_drew ?_ | refine blk_alloc ?_ _)); exact BK318.out⟩
                  have n2_ : Aside0 (((w26.setCell ⟨gb323, 0, none⟩ (.int .i64 t321)).setCell ⟨gb323, 1, none⟩ (.int .i64 t322)).heap[gb319]? = some (.cells #[.int .i64 0, .int .i64 0, .slice none 0 0] 57 (0, 0))) := ⟨by (with_reducible repeat (first | refine blk_drewN ?_ _ | refine blk_drew ?_ | refine blk_alloc ?_ _)); refine blk_far ?_ NB319_323.out _; (with_reducible repeat (first | refine blk_drewN ?_ _ | refine blk_drew ?_ | refine blk_alloc ?_ _)); refine blk_far ?_ NB319_323.out _; (with_reducible repeat (first | refine blk_drewN ?_ _ | refine blk_drew ?_ | refine blk_alloc ?_ _)); exact BK319.out⟩
                  have n3_ : Aside0 (((w26.setCell ⟨gb323, 0, none⟩ (.int .i64 t321)).setCell ⟨gb323, 1, none⟩ (.int .i64 t322)).heap[gb320]? = some (.cells #[.int .i64 a1_3, .int .i64 a1_4, u321002] 57 (0, 0))) := ⟨by (with_reducible repeat (first | refine blk_drewN ?_ _ | refine blk_drew ?_ | refine blk_alloc ?_ _)); refine blk_far ?_ NB320_323.out _; (with_reducible repeat (first | refine blk_drewN ?_ _ | refine blk_drew ?_ | refine blk_alloc ?_ _)); refine blk_far ?_ NB320_323.out _; (with_reducible repeat (first | refine blk_drewN ?_ _ | refine blk_drew ?_ | refine blk_alloc ?_ _)); exact BK320.out⟩
                  have n4_ : Aside0 (((w26.setCell ⟨gb323, 0, none⟩ (.int .i64 t321)).setCell ⟨gb323, 1, none⟩ (.int .i64 t322)).heap[gb323]? = some (.cells #[.int .i64 t321, .int .i64 t322] 32 (0, 0))) := ⟨by (with_reducible repeat (first | refine blk_drewN ?_ _ | refine blk_drew ?_ | refine blk_alloc ?_ _)); refine blk_put (cs := #[.int .i64 t321, .int .i64 0]) ?_ 1 _ rfl; (with_reducible repeat (first | refine blk_drewN ?_ _ | refine blk_drew ?_ | refine blk_alloc ?_ _)); refine blk_put (cs := #[.int .i64 0, .int .i64 0]) ?_ 0 _ rfl; (with_reducible repeat (first | refine blk_drewN ?_ _ | refine blk_drew ?_ | refine blk_alloc ?_ _)); exact BK323.out⟩
                  have n5_ : Aside0 (Below w.heap.size w ((w26.setCell ⟨gb323, 0, none⟩ (.int .i64 t321)).setCell ⟨gb323, 1, none⟩ (.int .i64 t322))) := ⟨by repeat (first | (with_reducible first | exact HB.out | apply below_alloc | apply pw_below_drewN | apply below_drew1 | refine below_set ?_ GE318.out | refine below_set ?_ GE319.out | refine below_set ?_ GE320.out | refine below_set ?_ GE323.out) | exact HB.out)⟩
                  (try clear HO_321002)
                  (try clear BK318)
                  (try clear BK319)
                  (try clear BK320)
                  (try clear BK323)
                  (try clear HB)
                  generalize ((w26.setCell ⟨gb323, 0, none⟩ (.int .i64 t321)).setCell ⟨gb323, 1, none⟩ (.int .i64 t322)) = w31 at n0_ n1_ n2_ n3_ n4_ n5_ ⊢
                  have HO_321002 := n0_
                  have BK318 := n1_
                  have BK319 := n2_
                  have BK320 := n3_
                  have BK323 := n4_
                  have HB := n5_
                  clear n0_ n1_ n2_ n3_ n4_ n5_
                  have n0_ := Aside0.mk (Kd.R_drew HO_321002.out)
                  have n1_ := Aside0.mk (blk_drew BK318.out)
                  have n2_ := Aside0.mk (blk_drew BK319.out)
                  have n3_ := Aside0.mk (blk_drew BK320.out)
                  have n4_ := Aside0.mk (blk_drew BK323.out)
                  have n5_ := Aside0.mk (below_drew1 HB.out)
                  clear HO_321002
                  clear BK318
                  clear BK319
                  clear BK320
                  clear BK323
                  clear HB
                  have HO_321002 := n0_
                  have BK318 := n1_
                  have BK319 := n2_
                  have BK320 := n3_
                  have BK323 := n4_
                  have HB := n5_
                  clear n0_ n1_ n2_ n3_ n4_ n5_
                  refine start_ (n := 9) (S := fun w' => w'.cell? ⟨gb318, 0, none⟩ = some (.int .i64 a1_0) ∧ w'.cell? ⟨gb318, 1, none⟩ = some (.int .i64 a1_1) ∧ w'.cell? ⟨gb318, 2, none⟩ = some (.int .i64 a1_2) ∧ w'.cell? ⟨gb318, 3, none⟩ = some (.int .i64 a1_3) ∧ w'.cell? ⟨gb318, 4, none⟩ = some (.int .i64 a1_4) ∧ w'.cell? ⟨gb318, 5, none⟩ = some (.int .i64 a1_5) ∧ w'.cell? ⟨gb323, 0, none⟩ = some (.int .i64 t321) ∧ w'.cell? ⟨gb323, 1, none⟩ = some (.int .i64 t322)) (ds := []) #[false, false, false, false, false, false, false, false, false] (by kernel_rfl) rfl rfl ⟨(blk_cell BK318.out 0).trans rfl, (blk_cell BK318.out 1).trans rfl, (blk_cell BK318.out 2).trans rfl, (blk_cell BK318.out 3).trans rfl, (blk_cell BK318.out 4).trans rfl, (blk_cell BK318.out 5).trans rfl, (blk_cell BK323.out 0).trans rfl, (blk_cell BK323.out 1).trans rfl⟩ (fun hHeld => ?_); refine with_tabW punchcutlaw10_Field.tab11 punchcutlaw10_Field.bits11 (fun HT_ HW_ => ?_)
                  generalize w31.drew = w32 at HO_321002 BK318 BK319 BK320 BK323 HB hHeld ⊢
                  refine pure_ (i := 1) (N := some 35) (v := ?_) (a' := ?_) #[false, true, false, false, false, false, false, false, false] rfl rfl (any_of HT_.out (by kernel_rfl)) (fun _ _ _ h => h) (Or.inl ⟨by rfl, ?_⟩) ?_ ?_
                  rotate_left
                  · intro w'
                    go_simp
                    with_reducible rfl
                  rotate_left
                  · simp only [Act.put, List.setIfInBounds_toArray, List.set_cons_zero, List.set_cons_succ, i64_w, i32_w]
                    rfl
                  refine pure_ (i := 4) (N := some 38) (v := ?_) (a' := ?_) #[false, true, false, false, true, false, false, false, false] rfl rfl (any_of HT_.out (by kernel_rfl)) (fun _ _ _ h => h) (Or.inl ⟨by rfl, ?_⟩) ?_ ?_
                  rotate_left
                  · intro w'
                    go_simp
                    with_reducible rfl
                  rotate_left
                  · simp only [Act.put, List.setIfInBounds_toArray, List.set_cons_zero, List.set_cons_succ, i64_w, i32_w]
                    rfl
                  refine take_ (i := 0) (N := some 34) (v := ?_) (a' := ?_) #[true, true, false, false, true, false, false, false, false] rfl rfl (take_ofW HT_.out HW_.out (by kernel_rfl)) (fun _ _ _ h => h) (Or.inl ⟨by rfl, ?_⟩) hHeld ?_ ?_
                  rotate_left
                  · rintro w' ⟨s0, s1, s2, s3, s4, s5, s6, s7⟩
                    go_simp
                    with_reducible rfl
                  rotate_left
                  · simp only [Act.put, List.setIfInBounds_toArray, List.set_cons_zero, List.set_cons_succ, i64_w, i32_w]
                    rfl
                  refine take_ (i := 2) (N := some 36) (v := ?_) (a' := ?_) #[true, true, true, false, true, false, false, false, false] rfl rfl (take_ofW HT_.out HW_.out (by kernel_rfl)) (fun _ _ _ h => h) (Or.inl ⟨by rfl, ?_⟩) hHeld ?_ ?_
                  rotate_left
                  · rintro w' ⟨s0, s1, s2, s3, s4, s5, s6, s7⟩
                    go_simp
                    with_reducible rfl
                  rotate_left
                  · simp only [Act.put, List.setIfInBounds_toArray, List.set_cons_zero, List.set_cons_succ, i64_w, i32_w]
                    rfl
                  refine take_ (i := 5) (N := some 39) (v := ?_) (a' := ?_) #[true, true, true, false, true, true, false, false, false] rfl rfl (take_ofW HT_.out HW_.out (by kernel_rfl)) (fun _ _ _ h => h) (Or.inl ⟨by rfl, ?_⟩) hHeld ?_ ?_
                  rotate_left
                  · rintro w' ⟨s0, s1, s2, s3, s4, s5, s6, s7⟩
                    go_simp
                    with_reducible rfl
                  rotate_left
                  · simp only [Act.put, List.setIfInBounds_toArray, List.set_cons_zero, List.set_cons_succ, i64_w, i32_w]
                    rfl
                  refine one_ (i := 3) (N := some 37) #[true, true, true, true, true, true, false, false, false] rfl rfl (one_of HT_.out (by kernel_rfl)) (by decide) (fun K hK => ?_)
                  refine goes_ Try.func51 (by kernel_rfl) rfl #[.slice A0 l0.length c0, .agg #[.int .i64 t321, .int .i64 t322]] (by rfl) rfl rfl (by (try simp only [List.map_toArray, List.map_cons, List.map_nil]); first | done | rfl | (simp only [List.length_drop, List.length_take]; rfl)) ?_
                  with_reducible refine (dist_Sign.calls k2 _ _ l0 t321 t322 t324 _ ?side1 ?side2 A18.out).mono ?_
                  (case side1 => repeat (first | exact (Kd.C_below HR0.out HB.out) | (with_reducible refine Kd.C_alloc ?_ _) | (with_reducible refine Kd.C_drewN ?_ _) | (with_reducible refine Kd.C_drew ?_)))
                  (case side2 => exact HC0.out)
                  rintro e w33 ⟨rfl, hb⟩
                  refine ⟨_, rfl, ?_⟩
                  have n0_ := Aside0.mk (Kd.R_below (by (with_reducible repeat (first | apply Kd.R_alloc | apply Kd.R_drewN | apply Kd.R_drew)); exact HO_321002.out) hb)
                  have n1_ := Aside0.mk (blk_below (g := gb318) (o := .cells #[.int .i64 a1_0, .int .i64 a1_1, .int .i64 a1_2, .int .i64 a1_3, .int .i64 a1_4, .int .i64 a1_5] 53 (0, 0)) (by (with_reducible repeat (first | refine blk_drewN ?_ _ | refine blk_drew ?_ | refine blk_alloc ?_ _)); exact BK318.out) hb)
                  have n2_ := Aside0.mk (blk_below (g := gb319) (o := .cells #[.int .i64 0, .int .i64 0, .slice none 0 0] 57 (0, 0)) (by (with_reducible repeat (first | refine blk_drewN ?_ _ | refine blk_drew ?_ | refine blk_alloc ?_ _)); exact BK319.out) hb)
                  have n3_ := Aside0.mk (blk_below (g := gb320) (o := .cells #[.int .i64 a1_3, .int .i64 a1_4, u321002] 57 (0, 0)) (by (with_reducible repeat (first | refine blk_drewN ?_ _ | refine blk_drew ?_ | refine blk_alloc ?_ _)); exact BK320.out) hb)
                  have n4_ := Aside0.mk (blk_below (g := gb323) (o := .cells #[.int .i64 t321, .int .i64 t322] 32 (0, 0)) (by (with_reducible repeat (first | refine blk_drewN ?_ _ | refine blk_drew ?_ | refine blk_alloc ?_ _)); exact BK323.out) hb)
                  have n5_ := Aside0.mk (below_step (by repeat (first | (with_reducible first | exact HB.out | apply below_alloc | apply pw_below_drewN | apply below_drew1 | refine below_set ?_ GE318.out | refine below_set ?_ GE319.out | refine below_set ?_ GE320.out | refine below_set ?_ GE323.out) | exact HB.out)) hb)
                  clear HO_321002
                  clear BK318
                  clear BK319
                  clear BK320
                  clear BK323
                  clear HB
                  have HO_321002 := n0_
                  have BK318 := n1_
                  have BK319 := n2_
                  have BK320 := n3_
                  have BK323 := n4_
                  have HB := n5_
                  clear n0_ n1_ n2_ n3_ n4_ n5_
                  (try clear hb)
                  (try clear hb2)
                  (try clear hk)
                  (try clear hi)
                  refine hK.out _ _ ⟨(blk_cell BK318.out 0).trans rfl, (blk_cell BK318.out 1).trans rfl, (blk_cell BK318.out 2).trans rfl, (blk_cell BK318.out 3).trans rfl, (blk_cell BK318.out 4).trans rfl, (blk_cell BK318.out 5).trans rfl, (blk_cell BK323.out 0).trans rfl, (blk_cell BK323.out 1).trans rfl⟩ (fun hHeld => ?_)
                  clear hK K
                  refine norm_ (a' := ?_) ?_ ?_
                  rotate_left
                  · show Act.put _ (some 37) _ = _
                    simp only [Act.put, List.setIfInBounds_toArray, List.set_cons_zero, List.set_cons_succ, i64_w, i32_w]
                    rfl
                  refine one_ (i := 6) (N := some 40) #[true, true, true, true, true, true, true, false, false] rfl rfl (one_of HT_.out (by kernel_rfl)) (by decide) (fun K hK => ?_)
                  refine goes_ Try.func26 (by kernel_rfl) rfl #[.slice A0 l0.length c0, .agg #[.int .i64 t321, .int .i64 t322]] (by rfl) rfl rfl (by (try simp only [List.map_toArray, List.map_cons, List.map_nil]); first | done | rfl | (simp only [List.length_drop, List.length_take]; rfl)) ?_
                  with_reducible refine (dist_Eight.calls k2 _ _ l0 t321 t322 t325 _ ?side1 ?side2 A19.out).mono ?_
                  (case side1 => repeat (first | exact (Kd.C_below HR0.out HB.out) | (with_reducible refine Kd.C_alloc ?_ _) | (with_reducible refine Kd.C_drewN ?_ _) | (with_reducible refine Kd.C_drew ?_)))
                  (case side2 => exact HC0.out)
                  rintro e w34 ⟨rfl, hb⟩
                  refine ⟨_, rfl, ?_⟩
                  have n0_ := Aside0.mk (Kd.R_below (by (with_reducible repeat (first | apply Kd.R_alloc | apply Kd.R_drewN | apply Kd.R_drew)); exact HO_321002.out) hb)
                  have n1_ := Aside0.mk (blk_below (g := gb318) (o := .cells #[.int .i64 a1_0, .int .i64 a1_1, .int .i64 a1_2, .int .i64 a1_3, .int .i64 a1_4, .int .i64 a1_5] 53 (0, 0)) (by (with_reducible repeat (first | refine blk_drewN ?_ _ | refine blk_drew ?_ | refine blk_alloc ?_ _)); exact BK318.out) hb)
                  have n2_ := Aside0.mk (blk_below (g := gb319) (o := .cells #[.int .i64 0, .int .i64 0, .slice none 0 0] 57 (0, 0)) (by (with_reducible repeat (first | refine blk_drewN ?_ _ | refine blk_drew ?_ | refine blk_alloc ?_ _)); exact BK319.out) hb)
                  have n3_ := Aside0.mk (blk_below (g := gb320) (o := .cells #[.int .i64 a1_3, .int .i64 a1_4, u321002] 57 (0, 0)) (by (with_reducible repeat (first | refine blk_drewN ?_ _ | refine blk_drew ?_ | refine blk_alloc ?_ _)); exact BK320.out) hb)
                  have n4_ := Aside0.mk (blk_below (g := gb323) (o := .cells #[.int .i64 t321, .int .i64 t322] 32 (0, 0)) (by (with_reducible repeat (first | refine blk_drewN ?_ _ | refine blk_drew ?_ | refine blk_alloc ?_ _)); exact BK323.out) hb)
                  have n5_ := Aside0.mk (below_step (by repeat (first | (with_reducible first | exact HB.out | apply below_alloc | apply pw_below_drewN | apply below_drew1 | refine below_set ?_ GE318.out | refine below_set ?_ GE319.out | refine below_set ?_ GE320.out | refine below_set ?_ GE323.out) | exact HB.out)) hb)
                  clear HO_321002
                  clear BK318
                  clear BK319
                  clear BK320
                  clear BK323
                  clear HB
                  have HO_321002 := n0_
                  have BK318 := n1_
                  have BK319 := n2_
                  have BK320 := n3_
                  have BK323 := n4_
                  have HB := n5_
                  clear n0_ n1_ n2_ n3_ n4_ n5_
                  (try clear hb)
                  (try clear hb2)
                  (try clear hk)
                  (try clear hi)
                  refine hK.out _ _ ⟨(blk_cell BK318.out 0).trans rfl, (blk_cell BK318.out 1).trans rfl, (blk_cell BK318.out 2).trans rfl, (blk_cell BK318.out 3).trans rfl, (blk_cell BK318.out 4).trans rfl, (blk_cell BK318.out 5).trans rfl, (blk_cell BK323.out 0).trans rfl, (blk_cell BK323.out 1).trans rfl⟩ (fun hHeld => ?_)
                  clear hK K
                  refine norm_ (a' := ?_) ?_ ?_
                  rotate_left
                  · show Act.put _ (some 40) _ = _
                    simp only [Act.put, List.setIfInBounds_toArray, List.set_cons_zero, List.set_cons_succ, i64_w, i32_w]
                    rfl
                  refine one_ (i := 7) (N := some 41) #[true, true, true, true, true, true, true, true, false] rfl rfl (one_of HT_.out (by kernel_rfl)) (by decide) (fun K hK => ?_)
                  refine goes_ Try.func50 (by kernel_rfl) rfl #[.agg #[.int .i64 a1_0, .int .i64 a1_1, .int .i64 a1_2, .int .i64 a1_3, .int .i64 a1_4, .int .i64 a1_5], .int .i64 t324, .int .i64 t325] (by rfl) rfl rfl (by (try simp only [List.map_toArray, List.map_cons, List.map_nil]); first | done | rfl | (simp only [List.length_drop, List.length_take]; rfl)) ?_
                  with_reducible refine (grid_Code.calls a1_0 a1_1 a1_2 a1_3 a1_4 a1_5 t324 t325 t326 _ A20.out).mono ?_
                  rintro e w35 ⟨rfl, hb⟩
                  refine ⟨_, rfl, ?_⟩
                  have n0_ := Aside0.mk (Kd.R_below (by (with_reducible repeat (first | apply Kd.R_alloc | apply Kd.R_drewN | apply Kd.R_drew)); exact HO_321002.out) hb)
                  have n1_ := Aside0.mk (blk_below (g := gb318) (o := .cells #[.int .i64 a1_0, .int .i64 a1_1, .int .i64 a1_2, .int .i64 a1_3, .int .i64 a1_4, .int .i64 a1_5] 53 (0, 0)) (by (with_reducible repeat (first | refine blk_drewN ?_ _ | refine blk_drew ?_ | refine blk_alloc ?_ _)); exact BK318.out) hb)
                  have n2_ := Aside0.mk (blk_below (g := gb319) (o := .cells #[.int .i64 0, .int .i64 0, .slice none 0 0] 57 (0, 0)) (by (with_reducible repeat (first | refine blk_drewN ?_ _ | refine blk_drew ?_ | refine blk_alloc ?_ _)); exact BK319.out) hb)
                  have n3_ := Aside0.mk (blk_below (g := gb320) (o := .cells #[.int .i64 a1_3, .int .i64 a1_4, u321002] 57 (0, 0)) (by (with_reducible repeat (first | refine blk_drewN ?_ _ | refine blk_drew ?_ | refine blk_alloc ?_ _)); exact BK320.out) hb)
                  have n4_ := Aside0.mk (blk_below (g := gb323) (o := .cells #[.int .i64 t321, .int .i64 t322] 32 (0, 0)) (by (with_reducible repeat (first | refine blk_drewN ?_ _ | refine blk_drew ?_ | refine blk_alloc ?_ _)); exact BK323.out) hb)
                  have n5_ := Aside0.mk (below_step (by repeat (first | (with_reducible first | exact HB.out | apply below_alloc | apply pw_below_drewN | apply below_drew1 | refine below_set ?_ GE318.out | refine below_set ?_ GE319.out | refine below_set ?_ GE320.out | refine below_set ?_ GE323.out) | exact HB.out)) hb)
                  clear HO_321002
                  clear BK318
                  clear BK319
                  clear BK320
                  clear BK323
                  clear HB
                  have HO_321002 := n0_
                  have BK318 := n1_
                  have BK319 := n2_
                  have BK320 := n3_
                  have BK323 := n4_
                  have HB := n5_
                  clear n0_ n1_ n2_ n3_ n4_ n5_
                  (try clear hb)
                  (try clear hb2)
                  (try clear hk)
                  (try clear hi)
                  refine hK.out _ _ ⟨(blk_cell BK318.out 0).trans rfl, (blk_cell BK318.out 1).trans rfl, (blk_cell BK318.out 2).trans rfl, (blk_cell BK318.out 3).trans rfl, (blk_cell BK318.out 4).trans rfl, (blk_cell BK318.out 5).trans rfl, (blk_cell BK323.out 0).trans rfl, (blk_cell BK323.out 1).trans rfl⟩ (fun hHeld => ?_)
                  clear hK K
                  refine norm_ (a' := ?_) ?_ ?_
                  rotate_left
                  · show Act.put _ (some 41) _ = _
                    simp only [Act.put, List.setIfInBounds_toArray, List.set_cons_zero, List.set_cons_succ, i64_w, i32_w]
                    rfl
                  refine pure_ (i := 8) (N := some 9) (v := ?_) (a' := ?_) #[true, true, true, true, true, true, true, true, true] rfl rfl (any_of HT_.out (by kernel_rfl)) (fun _ _ _ h => h) (Or.inl ⟨by rfl, ?_⟩) ?_ ?_
                  rotate_left
                  · intro w'
                    go_simp
                    with_reducible rfl
                  rotate_left
                  · simp only [Act.put, List.setIfInBounds_toArray, List.set_cons_zero, List.set_cons_succ, i64_w, i32_w]
                    rfl
                  refine done_ (done_of HT_.out (by kernel_rfl)) ?_
                  have hnb36 := NB320_319.out
                  have hnc36 := NB319_320.out
                  have hcz37_0 : w35.cell? ⟨gb320, 0, none⟩ = some (.int .i64 a1_3) := (blk_cell BK320.out 0).trans rfl
                  have hcz37_1 : w35.cell? ⟨gb320, 1, none⟩ = some (.int .i64 a1_4) := (blk_cell BK320.out 1).trans rfl
                  have hcz37_2 : w35.cell? ⟨gb320, 2, none⟩ = some (u321002) := (blk_cell BK320.out 2).trans rfl
                  have hfz37_0 := blk_frozen BK320.out 0
                  have hfz37_1 := blk_frozen BK320.out 1
                  have hfz37_2 := blk_frozen BK320.out 2
                  try go_wp2_with (first | ((with_reducible refine gate_builtin (b := .append) (xs := #[.tmp 43, .tmp 45]) rfl ?_); at_builtin; refine Kd.R_append (Kd.int .u8) (w0 := w) w.heap.size rfl (.tmp 43) (.tmp 45) 55 5 (.int .u8 0) 1 rfl Try.underlying55 info5 rfl (by decide) (by omega) u321002 x321002_2 t326 [.int .u8 t326] (fun _ => True) (fun _ => False) rfl rfl ?aP (fun _ hk => hk.elim) ?aF ?aO ?aB ?aS ?aL ?_; (case aP => exact rfl); (case aB => exact (by repeat (first | (with_reducible first | exact HB.out | apply below_alloc | apply pw_below_drewN | apply below_drew1 | refine below_set ?_ GE318.out | refine below_set ?_ GE319.out | refine below_set ?_ GE320.out | refine below_set ?_ GE323.out) | exact HB.out))); (case aF => exact (fun _ _ => trivial)); (case aO => exact (by (with_reducible repeat (first | apply Kd.R_alloc | apply Kd.R_drewN | apply Kd.R_drew)); exact HO_321002.out)); (case aS => exact (below_size (by repeat (first | (with_reducible first | exact HB.out | apply below_alloc | apply pw_below_drewN | apply below_drew1 | refine below_set ?_ GE318.out | refine below_set ?_ GE319.out | refine below_set ?_ GE320.out | refine below_set ?_ GE323.out) | exact HB.out)))); (case aL => have := LMc21.out; omega); intro v328 w38 ho hb hg hat; rw [← Ny327.out] at ho; have n0_ := Aside0.mk (blk_grown (g := gb318) (o := .cells #[.int .i64 a1_0, .int .i64 a1_1, .int .i64 a1_2, .int .i64 a1_3, .int .i64 a1_4, .int .i64 a1_5] 53 (0, 0)) (by (with_reducible repeat (first | refine blk_drewN ?_ _ | refine blk_drew ?_ | refine blk_alloc ?_ _)); exact BK318.out) hg (Kd.R_ne HO_321002.out BK318.out (by decide))); have n1_ := Aside0.mk (blk_grown (g := gb319) (o := .cells #[.int .i64 0, .int .i64 0, .slice none 0 0] 57 (0, 0)) (by (with_reducible repeat (first | refine blk_drewN ?_ _ | refine blk_drew ?_ | refine blk_alloc ?_ _)); exact BK319.out) hg (Kd.R_ne HO_321002.out BK319.out (by decide))); have n2_ := Aside0.mk (blk_grown (g := gb320) (o := .cells #[.int .i64 a1_3, .int .i64 a1_4, u321002] 57 (0, 0)) (by (with_reducible repeat (first | refine blk_drewN ?_ _ | refine blk_drew ?_ | refine blk_alloc ?_ _)); exact BK320.out) hg (Kd.R_ne HO_321002.out BK320.out (by decide))); have n3_ := Aside0.mk (blk_grown (g := gb323) (o := .cells #[.int .i64 t321, .int .i64 t322] 32 (0, 0)) (by (with_reducible repeat (first | refine blk_drewN ?_ _ | refine blk_drew ?_ | refine blk_alloc ?_ _)); exact BK323.out) hg (Kd.R_ne HO_321002.out BK323.out (by decide))); have n4_ := Aside0.mk (hb); have n5_ := Aside0.mk (ho); clear BK318; clear BK319; clear BK320; clear BK323; clear HB; clear HO_321002; have BK318 := n0_; have BK319 := n1_; have BK320 := n2_; have BK323 := n3_; have HB := n4_; have HO329 := n5_; clear n0_ n1_ n2_ n3_ n4_ n5_; clear ho hb hg hat; obtain ⟨Ao39, co39, eo39⟩ := Kd.R_slice HO329.out; subst eo39; have hcz40_0 : w38.cell? ⟨gb320, 0, none⟩ = some (.int .i64 a1_3) := (blk_cell BK320.out 0).trans rfl; have hcz40_1 : w38.cell? ⟨gb320, 1, none⟩ = some (.int .i64 a1_4) := (blk_cell BK320.out 1).trans rfl; have hcz40_2 : w38.cell? ⟨gb320, 2, none⟩ = some (u321002) := (blk_cell BK320.out 2).trans rfl; have hfz40_0 := blk_frozen BK320.out 0; have hfz40_1 := blk_frozen BK320.out 1; have hfz40_2 := blk_frozen BK320.out 2))
                  go_roundg k2
                  case measure => have := HK1.out; have := HK2.out; omega
                  case rel => exact ⟨(wrap64 (x7_2 + 1)), (y327), (.slice Ao39 y327.length co39), (by first | rfl | (simp; done) | (simp [*]; done)), H', ⟨by have := HK1.out; have := HK2.out; omega⟩, ⟨by (with_reducible repeat (first | apply Kd.R_alloc | apply Kd.R_drewN | apply Kd.R_drew)); exact Kd.R_mono (Kd.R_far (p := ⟨gb320, 2, none⟩) (Kd.R_types HO329.out BK320.out (by decide)) (fun _ hk => hk.2) (.slice Ao39 y327.length co39)) (fun _ hk => trivial)⟩, ⟨by (with_reducible repeat (first | refine blk_drewN ?_ _ | refine blk_drew ?_ | refine blk_alloc ?_ _)); refine blk_far ?_ NB318_320.out _; (with_reducible repeat (first | refine blk_drewN ?_ _ | refine blk_drew ?_ | refine blk_alloc ?_ _)); exact BK318.out⟩, ⟨by (with_reducible repeat (first | refine blk_drewN ?_ _ | refine blk_drew ?_ | refine blk_alloc ?_ _)); refine blk_far ?_ NB319_320.out _; (with_reducible repeat (first | refine blk_drewN ?_ _ | refine blk_drew ?_ | refine blk_alloc ?_ _)); exact BK319.out⟩, ⟨by (with_reducible repeat (first | refine blk_drewN ?_ _ | refine blk_drew ?_ | refine blk_alloc ?_ _)); refine blk_put (cs := #[.int .i64 a1_3, .int .i64 a1_4, u321002]) ?_ 2 _ rfl; (with_reducible repeat (first | refine blk_drewN ?_ _ | refine blk_drew ?_ | refine blk_alloc ?_ _)); exact BK320.out⟩, ⟨by repeat (first | (with_reducible first | exact HB.out | apply below_alloc | apply pw_below_drewN | apply below_drew1 | refine below_set ?_ GE318.out | refine below_set ?_ GE319.out | refine below_set ?_ GE320.out | refine below_set ?_ GE323.out) | exact HB.out)⟩⟩
                · rw [if_neg c21] at H
                  exact absurd H (by simp)
              · rw [if_neg c17] at H
                have c17b0 : decide (0 < (l0.length : Int)) = false := decide_eq_false c17
                have c17b1 : decide (0 < l0.length) = false := decide_eq_false (by omega)
                clear c17
                by_cases c41 : x321002_2.length < 140737488355328
                · rw [if_pos c41] at H
                  have LMc41 := Aside0.mk c41
                  clear c41
                  obtain ⟨y330, hy330⟩ : ∃ y_ : List Int, y_ = (x321002_2 ++ [1]) := ⟨_, rfl⟩
                  replace H : (punchcutlaw10_Field.l1 k2 l0 x6_1 (wrap64 (x7_2 + 1)) a1_0 a1_1 a1_2 a1_3 a1_4 a1_5 a1_3 a1_4 y330) = some (r1, r2, r3) := by first | (rw [hy330]; with_reducible exact H) | (have H2_ := (Option.bind_some _ _).symm.trans H; rw [hy330]; with_reducible exact H2_) | (have H2_ := (Option.bind_some _ _).symm.trans H; with_reducible exact H2_) | with_reducible exact H | (rw [hy330]; exact H) | exact H
                  have Ny330 := Aside0.mk hy330
                  clear hy330
                  have H' := Aside0.mk H
                  clear H
                  have hnb42 := NB318_319.out
                  have hnc42 := NB319_318.out
                  have hnb43 := NB318_320.out
                  have hnc43 := NB320_318.out
                  have hcz44_0 : wr.cell? ⟨gb318, 0, none⟩ = some (.int .i64 a1_0) := (blk_cell BK318.out 0).trans rfl
                  have hcz44_1 : wr.cell? ⟨gb318, 1, none⟩ = some (.int .i64 a1_1) := (blk_cell BK318.out 1).trans rfl
                  have hcz44_2 : wr.cell? ⟨gb318, 2, none⟩ = some (.int .i64 a1_2) := (blk_cell BK318.out 2).trans rfl
                  have hcz44_3 : wr.cell? ⟨gb318, 3, none⟩ = some (.int .i64 a1_3) := (blk_cell BK318.out 3).trans rfl
                  have hcz44_4 : wr.cell? ⟨gb318, 4, none⟩ = some (.int .i64 a1_4) := (blk_cell BK318.out 4).trans rfl
                  have hcz44_5 : wr.cell? ⟨gb318, 5, none⟩ = some (.int .i64 a1_5) := (blk_cell BK318.out 5).trans rfl
                  have hfz44_0 := blk_frozen BK318.out 0
                  have hfz44_1 := blk_frozen BK318.out 1
                  have hfz44_2 := blk_frozen BK318.out 2
                  have hfz44_3 := blk_frozen BK318.out 3
                  have hfz44_4 := blk_frozen BK318.out 4
                  have hfz44_5 := blk_frozen BK318.out 5
                  go_wp2_with (first | ((with_reducible refine gate_callee (f := 42) rfl ?_); refine goesL_ (some 30) rfl rfl Try.func42 (by kernel_rfl) rfl #[.agg #[.int .i64 a1_0, .int .i64 a1_1, .int .i64 a1_2, .int .i64 a1_3, .int .i64 a1_4, .int .i64 a1_5], .int .i64 x7_2, .int .i64 x6_1] rfl (by (try simp only [List.map_toArray, List.map_cons, List.map_nil]); first | done | rfl | (simp only [List.length_drop, List.length_take]; rfl)) ?_; (with_reducible refine (grid_Centre.calls a1_0 a1_1 a1_2 a1_3 a1_4 a1_5 x7_2 x6_1 t321 t322 _ A16.out).mono ?_); rintro e w45 ⟨rfl, hb⟩; refine ⟨_, rfl, ?_⟩; have n0_ := Aside0.mk (Kd.R_below (by (with_reducible repeat (first | apply Kd.R_alloc | apply Kd.R_drewN | apply Kd.R_drew)); exact HO_321002.out) hb); have n1_ := Aside0.mk (blk_below (g := gb318) (o := .cells #[.int .i64 a1_0, .int .i64 a1_1, .int .i64 a1_2, .int .i64 a1_3, .int .i64 a1_4, .int .i64 a1_5] 53 (0, 0)) (by (with_reducible repeat (first | refine blk_drewN ?_ _ | refine blk_drew ?_ | refine blk_alloc ?_ _)); exact BK318.out) hb); have n2_ := Aside0.mk (blk_below (g := gb319) (o := .cells #[.int .i64 0, .int .i64 0, .slice none 0 0] 57 (0, 0)) (by (with_reducible repeat (first | refine blk_drewN ?_ _ | refine blk_drew ?_ | refine blk_alloc ?_ _)); exact BK319.out) hb); have n3_ := Aside0.mk (blk_below (g := gb320) (o := .cells #[.int .i64 a1_3, .int .i64 a1_4, u321002] 57 (0, 0)) (by (with_reducible repeat (first | refine blk_drewN ?_ _ | refine blk_drew ?_ | refine blk_alloc ?_ _)); exact BK320.out) hb); have n4_ := Aside0.mk (below_step (by repeat (first | (with_reducible first | exact HB.out | apply below_alloc | apply pw_below_drewN | apply below_drew1 | refine below_set ?_ GE318.out | refine below_set ?_ GE319.out | refine below_set ?_ GE320.out) | exact HB.out)) hb); clear HO_321002; clear BK318; clear BK319; clear BK320; clear HB; have HO_321002 := n0_; have BK318 := n1_; have BK319 := n2_; have BK320 := n3_; have HB := n4_; clear n0_ n1_ n2_ n3_ n4_; (try clear hb); (try clear hb2); (try clear hk); (try clear hi)) | ((with_reducible refine gate_dst (N := 8) rfl ?_); refine box_event ?hg (N := 8) ?hd (cs := #[.int .i64 0, .int .i64 0]) (t := 32) ?hr ?_; (case hd => rfl); (case hg => rfl); (case hr => first | (go_simp; done) | (go_simp; rfl)); intro gb323 hg w46 hbox hb; have n0_ := Aside0.mk (Kd.R_below (by (with_reducible repeat (first | apply Kd.R_alloc | apply Kd.R_drewN | apply Kd.R_drew)); exact HO_321002.out) hb); have n1_ := Aside0.mk (blk_below (g := gb318) (o := .cells #[.int .i64 a1_0, .int .i64 a1_1, .int .i64 a1_2, .int .i64 a1_3, .int .i64 a1_4, .int .i64 a1_5] 53 (0, 0)) (by (with_reducible repeat (first | refine blk_drewN ?_ _ | refine blk_drew ?_ | refine blk_alloc ?_ _)); exact BK318.out) hb); have n2_ := Aside0.mk (blk_below (g := gb319) (o := .cells #[.int .i64 0, .int .i64 0, .slice none 0 0] 57 (0, 0)) (by (with_reducible repeat (first | refine blk_drewN ?_ _ | refine blk_drew ?_ | refine blk_alloc ?_ _)); exact BK319.out) hb); have n3_ := Aside0.mk (blk_below (g := gb320) (o := .cells #[.int .i64 a1_3, .int .i64 a1_4, u321002] 57 (0, 0)) (by (with_reducible repeat (first | refine blk_drewN ?_ _ | refine blk_drew ?_ | refine blk_alloc ?_ _)); exact BK320.out) hb); have n4_ := Aside0.mk (below_step (by repeat (first | (with_reducible first | exact HB.out | apply below_alloc | apply pw_below_drewN | apply below_drew1 | refine below_set ?_ GE318.out | refine below_set ?_ GE319.out | refine below_set ?_ GE320.out) | exact HB.out)) hb); have n5_ := Aside0.mk (hbox); have n6_ := Aside0.mk ((by rw [hg]; exact (below_size (by repeat (first | (with_reducible first | exact HB.out | apply below_alloc | apply pw_below_drewN | apply below_drew1 | refine below_set ?_ GE318.out | refine below_set ?_ GE319.out | refine below_set ?_ GE320.out) | exact HB.out))) : w.heap.size ≤ gb323)); have n7_ := Aside0.mk ((by rw [hg]; exact (below_size (by repeat (first | (with_reducible first | exact HB.out | apply below_alloc | apply pw_below_drewN | apply below_drew1 | refine below_set ?_ GE318.out | refine below_set ?_ GE319.out | refine below_set ?_ GE320.out) | exact HB.out))) : w.heap.size ≤ gb323)); have n8_ := Aside0.mk ((by rw [hg]; exact Nat.ne_of_lt (blk_lt (g := gb318) (o := .cells #[.int .i64 a1_0, .int .i64 a1_1, .int .i64 a1_2, .int .i64 a1_3, .int .i64 a1_4, .int .i64 a1_5] 53 (0, 0)) (by (with_reducible repeat (first | refine blk_drewN ?_ _ | refine blk_drew ?_ | refine blk_alloc ?_ _)); exact BK318.out)) : gb318 ≠ gb323)); have n9_ := Aside0.mk ((by rw [hg]; exact Nat.ne_of_gt (blk_lt (g := gb318) (o := .cells #[.int .i64 a1_0, .int .i64 a1_1, .int .i64 a1_2, .int .i64 a1_3, .int .i64 a1_4, .int .i64 a1_5] 53 (0, 0)) (by (with_reducible repeat (first | refine blk_drewN ?_ _ | refine blk_drew ?_ | refine blk_alloc ?_ _)); exact BK318.out)) : gb323 ≠ gb318)); have n10_ := Aside0.mk ((by rw [hg]; exact Nat.ne_of_lt (blk_lt (g := gb319) (o := .cells #[.int .i64 0, .int .i64 0, .slice none 0 0] 57 (0, 0)) (by (with_reducible repeat (first | refine blk_drewN ?_ _ | refine blk_drew ?_ | refine blk_alloc ?_ _)); exact BK319.out)) : gb319 ≠ gb323)); have n11_ := Aside0.mk ((by rw [hg]; exact Nat.ne_of_gt (blk_lt (g := gb319) (o := .cells #[.int .i64 0, .int .i64 0, .slice none 0 0] 57 (0, 0)) (by (with_reducible repeat (first | refine blk_drewN ?_ _ | refine blk_drew ?_ | refine blk_alloc ?_ _)); exact BK319.out)) : gb323 ≠ gb319)); have n12_ := Aside0.mk ((by rw [hg]; exact Nat.ne_of_lt (blk_lt (g := gb320) (o := .cells #[.int .i64 a1_3, .int .i64 a1_4, u321002] 57 (0, 0)) (by (with_reducible repeat (first | refine blk_drewN ?_ _ | refine blk_drew ?_ | refine blk_alloc ?_ _)); exact BK320.out)) : gb320 ≠ gb323)); have n13_ := Aside0.mk ((by rw [hg]; exact Nat.ne_of_gt (blk_lt (g := gb320) (o := .cells #[.int .i64 a1_3, .int .i64 a1_4, u321002] 57 (0, 0)) (by (with_reducible repeat (first | refine blk_drewN ?_ _ | refine blk_drew ?_ | refine blk_alloc ?_ _)); exact BK320.out)) : gb323 ≠ gb320)); clear HO_321002; clear BK318; clear BK319; clear BK320; clear HB; have HO_321002 := n0_; have BK318 := n1_; have BK319 := n2_; have BK320 := n3_; have HB := n4_; have BK323 := n5_; have GW323 := n6_; have GE323 := n7_; have NB318_323 := n8_; have NB323_318 := n9_; have NB319_323 := n10_; have NB323_319 := n11_; have NB320_323 := n12_; have NB323_320 := n13_; clear n0_ n1_ n2_ n3_ n4_ n5_ n6_ n7_ n8_ n9_ n10_ n11_ n12_ n13_; clear hb hbox hg; have hnb47 := NB323_318.out; have hnc47 := NB318_323.out; have hnb48 := NB323_319.out; have hnc48 := NB319_323.out; have hnb49 := NB323_320.out; have hnc49 := NB320_323.out; have hcz50_0 : w46.cell? ⟨gb323, 0, none⟩ = some (.int .i64 0) := (blk_cell BK323.out 0).trans rfl; have hcz50_1 : w46.cell? ⟨gb323, 1, none⟩ = some (.int .i64 0) := (blk_cell BK323.out 1).trans rfl; have hfz50_0 := blk_frozen BK323.out 0; have hfz50_1 := blk_frozen BK323.out 1; have hnb51 := NB320_319.out; have hnc51 := NB319_320.out; have hcz52_0 : w46.cell? ⟨gb320, 0, none⟩ = some (.int .i64 a1_3) := (blk_cell BK320.out 0).trans rfl; have hcz52_1 : w46.cell? ⟨gb320, 1, none⟩ = some (.int .i64 a1_4) := (blk_cell BK320.out 1).trans rfl; have hcz52_2 : w46.cell? ⟨gb320, 2, none⟩ = some (u321002) := (blk_cell BK320.out 2).trans rfl; have hfz52_0 := blk_frozen BK320.out 0; have hfz52_1 := blk_frozen BK320.out 1; have hfz52_2 := blk_frozen BK320.out 2) | ((with_reducible refine gate_builtin (b := .append) (xs := #[.tmp 43, .tmp 45]) rfl ?_); at_builtin; refine Kd.R_append (Kd.int .u8) (w0 := w) w.heap.size rfl (.tmp 43) (.tmp 45) 55 5 (.int .u8 0) 1 rfl Try.underlying55 info5 rfl (by decide) (by omega) u321002 x321002_2 1 [.int .u8 1] (fun _ => True) (fun _ => False) rfl (by first | (go_simp; done) | (go_simp; rfl)) ?aP (fun _ hk => hk.elim) ?aF ?aO ?aB ?aS ?aL ?_; (case aP => exact rfl); (case aB => exact (by repeat (first | (with_reducible first | exact HB.out | apply below_alloc | apply pw_below_drewN | apply below_drew1 | refine below_set ?_ GE318.out | refine below_set ?_ GE319.out | refine below_set ?_ GE320.out | refine below_set ?_ GE323.out) | exact HB.out))); (case aF => exact (fun _ _ => trivial)); (case aO => exact (by (with_reducible repeat (first | apply Kd.R_alloc | apply Kd.R_drewN | apply Kd.R_drew)); exact Kd.R_mono (Kd.R_far (p := ⟨gb323, 1, none⟩) (Kd.R_far (p := ⟨gb323, 0, none⟩) (Kd.R_types HO_321002.out BK323.out (by decide)) (fun _ hk => hk.2) (.int .i64 t321)) (fun _ hk => hk.2) (.int .i64 t322)) (fun _ hk => trivial))); (case aS => exact (below_size (by repeat (first | (with_reducible first | exact HB.out | apply below_alloc | apply pw_below_drewN | apply below_drew1 | refine below_set ?_ GE318.out | refine below_set ?_ GE319.out | refine below_set ?_ GE320.out | refine below_set ?_ GE323.out) | exact HB.out)))); (case aL => have := LMc41.out; omega); intro v331 w53 ho hb hg hat; rw [← Ny330.out] at ho; have n0_ := Aside0.mk (blk_grown (g := gb318) (o := .cells #[.int .i64 a1_0, .int .i64 a1_1, .int .i64 a1_2, .int .i64 a1_3, .int .i64 a1_4, .int .i64 a1_5] 53 (0, 0)) (by (with_reducible repeat (first | refine blk_drewN ?_ _ | refine blk_drew ?_ | refine blk_alloc ?_ _)); refine blk_far ?_ NB318_323.out _; (with_reducible repeat (first | refine blk_drewN ?_ _ | refine blk_drew ?_ | refine blk_alloc ?_ _)); refine blk_far ?_ NB318_323.out _; (with_reducible repeat (first | refine blk_drewN ?_ _ | refine blk_drew ?_ | refine blk_alloc ?_ _)); exact BK318.out) hg (Kd.R_ne HO_321002.out BK318.out (by decide))); have n1_ := Aside0.mk (blk_grown (g := gb319) (o := .cells #[.int .i64 0, .int .i64 0, .slice none 0 0] 57 (0, 0)) (by (with_reducible repeat (first | refine blk_drewN ?_ _ | refine blk_drew ?_ | refine blk_alloc ?_ _)); refine blk_far ?_ NB319_323.out _; (with_reducible repeat (first | refine blk_drewN ?_ _ | refine blk_drew ?_ | refine blk_alloc ?_ _)); refine blk_far ?_ NB319_323.out _; (with_reducible repeat (first | refine blk_drewN ?_ _ | refine blk_drew ?_ | refine blk_alloc ?_ _)); exact BK319.out) hg (Kd.R_ne HO_321002.out BK319.out (by decide))); have n2_ := Aside0.mk (blk_grown (g := gb320) (o := .cells #[.int .i64 a1_3, .int .i64 a1_4, u321002] 57 (0, 0)) (by (with_reducible repeat (first | refine blk_drewN ?_ _ | refine blk_drew ?_ | refine blk_alloc ?_ _)); refine blk_far ?_ NB320_323.out _; (with_reducible repeat (first | refine blk_drewN ?_ _ | refine blk_drew ?_ | refine blk_alloc ?_ _)); refine blk_far ?_ NB320_323.out _; (with_reducible repeat (first | refine blk_drewN ?_ _ | refine blk_drew ?_ | refine blk_alloc ?_ _)); exact BK320.out) hg (Kd.R_ne HO_321002.out BK320.out (by decide))); have n3_ := Aside0.mk (blk_grown (g := gb323) (o := .cells #[.int .i64 t321, .int .i64 t322] 32 (0, 0)) (by (with_reducible repeat (first | refine blk_drewN ?_ _ | refine blk_drew ?_ | refine blk_alloc ?_ _)); refine blk_put (cs := #[.int .i64 t321, .int .i64 0]) ?_ 1 _ rfl; (with_reducible repeat (first | refine blk_drewN ?_ _ | refine blk_drew ?_ | refine blk_alloc ?_ _)); refine blk_put (cs := #[.int .i64 0, .int .i64 0]) ?_ 0 _ rfl; (with_reducible repeat (first | refine blk_drewN ?_ _ | refine blk_drew ?_ | refine blk_alloc ?_ _)); exact BK323.out) hg (Kd.R_ne HO_321002.out BK323.out (by decide))); have n4_ := Aside0.mk (hb); have n5_ := Aside0.mk (ho); clear BK318; clear BK319; clear BK320; clear BK323; clear HB; clear HO_321002; have BK318 := n0_; have BK319 := n1_; have BK320 := n2_; have BK323 := n3_; have HB := n4_; have HO332 := n5_; clear n0_ n1_ n2_ n3_ n4_ n5_; clear ho hb hg hat; obtain ⟨Ao54, co54, eo54⟩ := Kd.R_slice HO332.out; subst eo54; have hcz55_0 : w53.cell? ⟨gb320, 0, none⟩ = some (.int .i64 a1_3) := (blk_cell BK320.out 0).trans rfl; have hcz55_1 : w53.cell? ⟨gb320, 1, none⟩ = some (.int .i64 a1_4) := (blk_cell BK320.out 1).trans rfl; have hcz55_2 : w53.cell? ⟨gb320, 2, none⟩ = some (u321002) := (blk_cell BK320.out 2).trans rfl; have hfz55_0 := blk_frozen BK320.out 0; have hfz55_1 := blk_frozen BK320.out 1; have hfz55_2 := blk_frozen BK320.out 2))
                  go_roundg k2
                  case measure => have := HK1.out; have := HK2.out; omega
                  case rel => exact ⟨(wrap64 (x7_2 + 1)), (y330), (.slice Ao54 y330.length co54), (by first | rfl | (simp; done) | (simp [*]; done)), H', ⟨by have := HK1.out; have := HK2.out; omega⟩, ⟨by (with_reducible repeat (first | apply Kd.R_alloc | apply Kd.R_drewN | apply Kd.R_drew)); exact Kd.R_mono (Kd.R_far (p := ⟨gb320, 2, none⟩) (Kd.R_types HO332.out BK320.out (by decide)) (fun _ hk => hk.2) (.slice Ao54 y330.length co54)) (fun _ hk => trivial)⟩, ⟨by (with_reducible repeat (first | refine blk_drewN ?_ _ | refine blk_drew ?_ | refine blk_alloc ?_ _)); refine blk_far ?_ NB318_320.out _; (with_reducible repeat (first | refine blk_drewN ?_ _ | refine blk_drew ?_ | refine blk_alloc ?_ _)); exact BK318.out⟩, ⟨by (with_reducible repeat (first | refine blk_drewN ?_ _ | refine blk_drew ?_ | refine blk_alloc ?_ _)); refine blk_far ?_ NB319_320.out _; (with_reducible repeat (first | refine blk_drewN ?_ _ | refine blk_drew ?_ | refine blk_alloc ?_ _)); exact BK319.out⟩, ⟨by (with_reducible repeat (first | refine blk_drewN ?_ _ | refine blk_drew ?_ | refine blk_alloc ?_ _)); refine blk_put (cs := #[.int .i64 a1_3, .int .i64 a1_4, u321002]) ?_ 2 _ rfl; (with_reducible repeat (first | refine blk_drewN ?_ _ | refine blk_drew ?_ | refine blk_alloc ?_ _)); exact BK320.out⟩, ⟨by repeat (first | (with_reducible first | exact HB.out | apply below_alloc | apply pw_below_drewN | apply below_drew1 | refine below_set ?_ GE318.out | refine below_set ?_ GE319.out | refine below_set ?_ GE320.out | refine below_set ?_ GE323.out) | exact HB.out)⟩⟩
                · rw [if_neg c41] at H
                  exact absurd H (by simp)
            · rw [if_neg c15] at H
              have c15b0 : decide (x7_2 < a1_3) = false := decide_eq_false c15
              clear c15
              have H' := Aside0.mk H
              clear H
              have hnb56 := NB318_319.out
              have hnc56 := NB319_318.out
              have hnb57 := NB318_320.out
              have hnc57 := NB320_318.out
              have hcz58_0 : wr.cell? ⟨gb318, 0, none⟩ = some (.int .i64 a1_0) := (blk_cell BK318.out 0).trans rfl
              have hcz58_1 : wr.cell? ⟨gb318, 1, none⟩ = some (.int .i64 a1_1) := (blk_cell BK318.out 1).trans rfl
              have hcz58_2 : wr.cell? ⟨gb318, 2, none⟩ = some (.int .i64 a1_2) := (blk_cell BK318.out 2).trans rfl
              have hcz58_3 : wr.cell? ⟨gb318, 3, none⟩ = some (.int .i64 a1_3) := (blk_cell BK318.out 3).trans rfl
              have hcz58_4 : wr.cell? ⟨gb318, 4, none⟩ = some (.int .i64 a1_4) := (blk_cell BK318.out 4).trans rfl
              have hcz58_5 : wr.cell? ⟨gb318, 5, none⟩ = some (.int .i64 a1_5) := (blk_cell BK318.out 5).trans rfl
              have hfz58_0 := blk_frozen BK318.out 0
              have hfz58_1 := blk_frozen BK318.out 1
              have hfz58_2 := blk_frozen BK318.out 2
              have hfz58_3 := blk_frozen BK318.out 3
              have hfz58_4 := blk_frozen BK318.out 4
              have hfz58_5 := blk_frozen BK318.out 5
              go_wp2
              go_roundg k2
              case measure => have := HK1.out; have := HK2.out; omega
              case rel => exact ⟨(wrap64 (x6_1 + 1)), (x321002_2), (u321002), (by first | rfl | (simp; done) | (simp [*]; done)), H', ⟨by have := HK1.out; have := HK2.out; omega⟩, ⟨by (with_reducible repeat (first | apply Kd.R_alloc | apply Kd.R_drewN | apply Kd.R_drew)); exact HO_321002.out⟩, ⟨by (with_reducible repeat (first | refine blk_drewN ?_ _ | refine blk_drew ?_ | refine blk_alloc ?_ _)); exact BK318.out⟩, ⟨by (with_reducible repeat (first | refine blk_drewN ?_ _ | refine blk_drew ?_ | refine blk_alloc ?_ _)); exact BK319.out⟩, ⟨by (with_reducible repeat (first | refine blk_drewN ?_ _ | refine blk_drew ?_ | refine blk_alloc ?_ _)); exact BK320.out⟩, ⟨by repeat (first | (with_reducible first | exact HB.out | apply below_alloc | apply pw_below_drewN | apply below_drew1 | refine below_set ?_ GE318.out | refine below_set ?_ GE319.out | refine below_set ?_ GE320.out) | exact HB.out)⟩⟩
      · rw [if_neg c11] at H
        have c11b0 : decide (x6_1 < a1_4) = false := decide_eq_false c11
        clear c11
        simp only [Option.some.injEq, Prod.mk.injEq] at H
        obtain ⟨rfl, rfl, rfl⟩ := H
        have hnb59 := NB318_319.out
        have hnc59 := NB319_318.out
        have hnb60 := NB318_320.out
        have hnc60 := NB320_318.out
        have hcz61_0 : wr.cell? ⟨gb318, 0, none⟩ = some (.int .i64 a1_0) := (blk_cell BK318.out 0).trans rfl
        have hcz61_1 : wr.cell? ⟨gb318, 1, none⟩ = some (.int .i64 a1_1) := (blk_cell BK318.out 1).trans rfl
        have hcz61_2 : wr.cell? ⟨gb318, 2, none⟩ = some (.int .i64 a1_2) := (blk_cell BK318.out 2).trans rfl
        have hcz61_3 : wr.cell? ⟨gb318, 3, none⟩ = some (.int .i64 a1_3) := (blk_cell BK318.out 3).trans rfl
        have hcz61_4 : wr.cell? ⟨gb318, 4, none⟩ = some (.int .i64 a1_4) := (blk_cell BK318.out 4).trans rfl
        have hcz61_5 : wr.cell? ⟨gb318, 5, none⟩ = some (.int .i64 a1_5) := (blk_cell BK318.out 5).trans rfl
        have hfz61_0 := blk_frozen BK318.out 0
        have hfz61_1 := blk_frozen BK318.out 1
        have hfz61_2 := blk_frozen BK318.out 2
        have hfz61_3 := blk_frozen BK318.out 3
        have hfz61_4 := blk_frozen BK318.out 4
        have hfz61_5 := blk_frozen BK318.out 5
        have hnb62 := NB320_319.out
        have hnc62 := NB319_320.out
        have hcz63_0 : wr.cell? ⟨gb320, 0, none⟩ = some (.int .i64 a1_3) := (blk_cell BK320.out 0).trans rfl
        have hcz63_1 : wr.cell? ⟨gb320, 1, none⟩ = some (.int .i64 a1_4) := (blk_cell BK320.out 1).trans rfl
        have hcz63_2 : wr.cell? ⟨gb320, 2, none⟩ = some (u321002) := (blk_cell BK320.out 2).trans rfl
        have hfz63_0 := blk_frozen BK320.out 0
        have hfz63_1 := blk_frozen BK320.out 1
        have hfz63_2 := blk_frozen BK320.out 2
        have hcz64_0 : wr.cell? ⟨gb319, 0, none⟩ = some (.int .i64 0) := (blk_cell BK319.out 0).trans rfl
        have hcz64_1 : wr.cell? ⟨gb319, 1, none⟩ = some (.int .i64 0) := (blk_cell BK319.out 1).trans rfl
        have hcz64_2 : wr.cell? ⟨gb319, 2, none⟩ = some (.slice none 0 0) := (blk_cell BK319.out 2).trans rfl
        have hfz64_0 := blk_frozen BK319.out 0
        have hfz64_1 := blk_frozen BK319.out 1
        have hfz64_2 := blk_frozen BK319.out 2
        obtain ⟨Ao65, co65, eo65⟩ := Kd.R_slice HO_321002.out
        subst eo65
        go_wp2
        refine bodyPost_ret (results_cell_row rfl _ _ gb319 57 #[.int .i64 a1_3, .int .i64 a1_4, .slice Ao65 x321002_1.length co65] (0, 0) _ rfl (by (with_reducible repeat (first | refine blk_drewN ?_ _ | refine blk_drew ?_ | refine blk_alloc ?_ _)); refine blk_put (cs := #[.int .i64 a1_3, .int .i64 a1_4, .slice none 0 0]) ?_ 2 _ rfl; (with_reducible repeat (first | refine blk_drewN ?_ _ | refine blk_drew ?_ | refine blk_alloc ?_ _)); refine blk_put (cs := #[.int .i64 a1_3, .int .i64 0, .slice none 0 0]) ?_ 1 _ rfl; (with_reducible repeat (first | refine blk_drewN ?_ _ | refine blk_drew ?_ | refine blk_alloc ?_ _)); refine blk_put (cs := #[.int .i64 0, .int .i64 0, .slice none 0 0]) ?_ 0 _ rfl; (with_reducible repeat (first | refine blk_drewN ?_ _ | refine blk_drew ?_ | refine blk_alloc ?_ _)); exact BK319.out) Try.underlying57 rfl (by kernel_rfl)) rfl ?_
        exact ⟨_, by first | rfl | (simp [errW_none, errW_some] <;> rfl) | (simp [*, errW_none, errW_some] <;> rfl), by (with_reducible repeat (first | apply Kd.R_alloc | apply Kd.R_drewN | apply Kd.R_drew)); exact Kd.R_mono (Kd.R_far (p := ⟨gb319, 2, none⟩) (Kd.R_far (p := ⟨gb319, 1, none⟩) (Kd.R_far (p := ⟨gb319, 0, none⟩) (Kd.R_types HO_321002.out BK319.out (by decide)) (fun _ hk => hk.2) (.int .i64 a1_3)) (fun _ hk => hk.2) (.int .i64 a1_4)) (fun _ hk => hk.2) (.slice Ao65 x321002_1.length co65)) (fun _ hk => trivial), by repeat (first | (with_reducible first | exact HB.out | apply below_alloc | apply pw_below_drewN | apply below_drew1 | refine below_set ?_ GE318.out | refine below_set ?_ GE319.out | refine below_set ?_ GE320.out) | exact HB.out)⟩
end Go.Proofs.Ytlljpjbhndcaiaa.Q
end
section
namespace Go.Proofs.Ytlljpjbhndcaiaa.Q
open Go.RowKit Go.Proofs.YtlljpjbhndcaiaaW.PrintWords Go.Proofs.YtlljpjbhndcaiaaW.PrintLast Go.Proofs.YtlljpjbhndcaiaaW.PrintMore
attribute [local go_sem] max2_int min2_int max_two min_two max_three min_three max_four min_four
set_option linter.unusedVariables false
set_option linter.unusedSimpArgs false
def punchcutlaw10_SdfMake.f (k : Nat) (l0 : List (List (S133))) (a1_0 : Int) (a1_1 : Int) (a1_2 : Int) (a1_3 : Int) (a1_4 : Int) (a1_5 : Int) : Option (Bool) := (punchcutlaw10_awake.f k).bind fun t334 => (if t334 = true then ((punchcutlaw06_Glyph.f k l0).bind fun t335 => ((punchcutlaw09_Spec_Grid.f a1_0 a1_1 a1_2 a1_3 a1_4 a1_5).bind fun bt338 => ((sdf_Make.f k t335 bt338.1 bt338.2.1 bt338.2.2.1 bt338.2.2.2.1 bt338.2.2.2.2.1 bt338.2.2.2.2.2).bind fun bt344 => (if bt344.2.2.2 = 0 then ((punchcutlaw09_Spec_Grid.f a1_0 a1_1 a1_2 a1_3 a1_4 a1_5).bind fun bt351 => ((punchcutlaw10_Field.f k t335 bt351.1 bt351.2.1 bt351.2.2.1 bt351.2.2.2.1 bt351.2.2.2.2.1 bt351.2.2.2.2.2).bind fun bt357 => ((punchcutlaw10_Same.f bt344.1 bt344.2.1 bt344.2.2.1 bt357.1 bt357.2.1 bt357.2.2).bind fun t362 => (some t362)))) else (some false))))) else (some false))
theorem punchcutlaw10_SdfMake.mono : ∀ a0 a1 a2 a3 a4 a5 a6 k, LeO (punchcutlaw10_SdfMake.f k a0 a1 a2 a3 a4 a5 a6) (punchcutlaw10_SdfMake.f (k + 1) a0 a1 a2 a3 a4 a5 a6) := by
  intro a0 a1 a2 a3 a4 a5 a6 k
  unfold punchcutlaw10_SdfMake.f
  repeat' first
      | (with_reducible exact punchcutlaw06_Glyph.mono _ _)
      | (with_reducible exact punchcutlaw10_Field.mono _ _ _ _ _ _ _ _)
      | (with_reducible exact punchcutlaw10_awake.mono _)
      | (with_reducible exact sdf_Make.mono _ _ _ _ _ _ _ _)
      | (with_reducible exact LeO.refl _)
      | (with_reducible exact LeO.none _)
      | (with_reducible refine LeO.ite ?_ ?_)
      | (with_reducible refine LeO.bind ?_ (fun _ => ?_))
      | exact punchcutlaw06_Glyph.mono _ _
      | exact punchcutlaw10_Field.mono _ _ _ _ _ _ _ _
      | exact punchcutlaw10_awake.mono _
      | exact sdf_Make.mono _ _ _ _ _ _ _ _
      | exact LeO.none _
      | refine LeO.ite ?_ ?_
      | refine LeO.bind ?_ (fun _ => ?_)
def punchcutlaw10_SdfMake.T5 : Bool × List (List Nat × List Nat) := (true, [([], []), ([0], [0]), ([1], [1]), ([2], [2]), ([2], [2]), ([2], [2]), ([5, 2, 2], [2, 5]), ([4, 6, 6, 2], [2, 4, 6]), ([3, 7, 7, 2], [2, 3, 7]), ([2, 8], [2, 8]), ([9, 8, 0, 1, 2, 3, 4, 5, 6, 7, 8, 9], [9])])
def punchcutlaw10_SdfMake.B5 : List Nat := [0, 1, 3, 7, 7, 7, 39, 119, 255, 511, 1023]
theorem punchcutlaw10_SdfMake.tab5 : rtab .any (opsOf Try.f7 5) = punchcutlaw10_SdfMake.T5 := by kernel_rfl
theorem punchcutlaw10_SdfMake.bits5 : waitsOk punchcutlaw10_SdfMake.T5.2 punchcutlaw10_SdfMake.B5 = true := by kernel_rfl
set_option maxHeartbeats 8000000 in
set_option maxRecDepth 100000 in
theorem punchcutlaw10_SdfMake.calls (k : Nat) (A0 : Option Addr) (c0 : Nat) (l0 : List (List (S133))) (a1_0 : Int) (a1_1 : Int) (a1_2 : Int) (a1_3 : Int) (a1_4 : Int) (a1_5 : Int) (r : Bool) (w : World) (hr0 : Kd.C (Kd.slice 133 k133) w A0 l0.length l0) (hc0 : l0.length ≤ c0) (h : punchcutlaw10_SdfMake.f k l0 a1_0 a1_1 a1_2 a1_3 a1_4 a1_5 = some r) :
    Calls Try.prog 7 #[.slice A0 l0.length c0, .agg #[.int .u8 a1_0, .int .u8 a1_1, .int .u8 a1_2, .int .u8 a1_3, .int .u8 a1_4, .int .u8 a1_5]] w fun e w' => e = .returned (.bool r) ∧ Below w.heap.size w w' := by
  have hu50 := Try.underlying50
  have hu57 := Try.underlying57
  have HR0 := Aside0.mk hr0
  have HC0 := Aside0.mk hc0
  clear hr0 hc0
  have HB := Aside0.mk (Below.refl w.heap.size w)
  have H : ((punchcutlaw10_awake.f k).bind fun t334 => (if t334 = true then ((punchcutlaw06_Glyph.f k l0).bind fun t335 => ((punchcutlaw09_Spec_Grid.f a1_0 a1_1 a1_2 a1_3 a1_4 a1_5).bind fun bt338 => ((sdf_Make.f k t335 bt338.1 bt338.2.1 bt338.2.2.1 bt338.2.2.2.1 bt338.2.2.2.2.1 bt338.2.2.2.2.2).bind fun bt344 => (if bt344.2.2.2 = 0 then ((punchcutlaw09_Spec_Grid.f a1_0 a1_1 a1_2 a1_3 a1_4 a1_5).bind fun bt351 => ((punchcutlaw10_Field.f k t335 bt351.1 bt351.2.1 bt351.2.2.1 bt351.2.2.2.1 bt351.2.2.2.2.1 bt351.2.2.2.2.2).bind fun bt357 => ((punchcutlaw10_Same.f bt344.1 bt344.2.1 bt344.2.2.1 bt357.1 bt357.2.1 bt357.2.2).bind fun t362 => (some t362)))) else (some false))))) else (some false))) = some r := h
  clear h
  replace H := Option.bind_eq_some_iff.mp H
  obtain ⟨t334, A30, H⟩ := H
  replace H : (if t334 = true then ((punchcutlaw06_Glyph.f k l0).bind fun t335 => ((punchcutlaw09_Spec_Grid.f a1_0 a1_1 a1_2 a1_3 a1_4 a1_5).bind fun bt338 => ((sdf_Make.f k t335 bt338.1 bt338.2.1 bt338.2.2.1 bt338.2.2.2.1 bt338.2.2.2.2.1 bt338.2.2.2.2.2).bind fun bt344 => (if bt344.2.2.2 = 0 then ((punchcutlaw09_Spec_Grid.f a1_0 a1_1 a1_2 a1_3 a1_4 a1_5).bind fun bt351 => ((punchcutlaw10_Field.f k t335 bt351.1 bt351.2.1 bt351.2.2.1 bt351.2.2.2.1 bt351.2.2.2.2.1 bt351.2.2.2.2.2).bind fun bt357 => ((punchcutlaw10_Same.f bt344.1 bt344.2.1 bt344.2.2.1 bt357.1 bt357.2.1 bt357.2.2).bind fun t362 => (some t362)))) else (some false))))) else (some false)) = some r := H
  have A3 := Aside0.mk A30
  clear A30
  by_cases c4 : t334 = true
  · subst c4
    have H1 : ((punchcutlaw06_Glyph.f k l0).bind fun t335 => ((punchcutlaw09_Spec_Grid.f a1_0 a1_1 a1_2 a1_3 a1_4 a1_5).bind fun bt338 => ((sdf_Make.f k t335 bt338.1 bt338.2.1 bt338.2.2.1 bt338.2.2.2.1 bt338.2.2.2.2.1 bt338.2.2.2.2.2).bind fun bt344 => (if bt344.2.2.2 = 0 then ((punchcutlaw09_Spec_Grid.f a1_0 a1_1 a1_2 a1_3 a1_4 a1_5).bind fun bt351 => ((punchcutlaw10_Field.f k t335 bt351.1 bt351.2.1 bt351.2.2.1 bt351.2.2.2.1 bt351.2.2.2.2.1 bt351.2.2.2.2.2).bind fun bt357 => ((punchcutlaw10_Same.f bt344.1 bt344.2.1 bt344.2.2.1 bt357.1 bt357.2.1 bt357.2.2).bind fun t362 => (some t362)))) else (some false))))) = some r := by rw [if_pos rfl] at H; exact H
    clear H
    have H := H1
    clear H1
    replace H := Option.bind_eq_some_iff.mp H
    obtain ⟨t335, A50, H⟩ := H
    replace H : ((punchcutlaw09_Spec_Grid.f a1_0 a1_1 a1_2 a1_3 a1_4 a1_5).bind fun bt338 => ((sdf_Make.f k t335 bt338.1 bt338.2.1 bt338.2.2.1 bt338.2.2.2.1 bt338.2.2.2.2.1 bt338.2.2.2.2.2).bind fun bt344 => (if bt344.2.2.2 = 0 then ((punchcutlaw09_Spec_Grid.f a1_0 a1_1 a1_2 a1_3 a1_4 a1_5).bind fun bt351 => ((punchcutlaw10_Field.f k t335 bt351.1 bt351.2.1 bt351.2.2.1 bt351.2.2.2.1 bt351.2.2.2.2.1 bt351.2.2.2.2.2).bind fun bt357 => ((punchcutlaw10_Same.f bt344.1 bt344.2.1 bt344.2.2.1 bt357.1 bt357.2.1 bt357.2.2).bind fun t362 => (some t362)))) else (some false)))) = some r := H
    have A5 := Aside0.mk A50
    clear A50
    replace H := Option.bind_eq_some_iff.mp H
    obtain ⟨⟨t338, t339, t340, t341, t342, t343⟩, A60, H⟩ := H
    replace H : ((sdf_Make.f k t335 t338 t339 t340 t341 t342 t343).bind fun bt344 => (if bt344.2.2.2 = 0 then ((punchcutlaw09_Spec_Grid.f a1_0 a1_1 a1_2 a1_3 a1_4 a1_5).bind fun bt351 => ((punchcutlaw10_Field.f k t335 bt351.1 bt351.2.1 bt351.2.2.1 bt351.2.2.2.1 bt351.2.2.2.2.1 bt351.2.2.2.2.2).bind fun bt357 => ((punchcutlaw10_Same.f bt344.1 bt344.2.1 bt344.2.2.1 bt357.1 bt357.2.1 bt357.2.2).bind fun t362 => (some t362)))) else (some false))) = some r := H
    have A6 := Aside0.mk A60
    clear A60
    replace H := Option.bind_eq_some_iff.mp H
    obtain ⟨⟨t344, t345, t346, t349⟩, A70, H⟩ := H
    replace H : (if t349 = 0 then ((punchcutlaw09_Spec_Grid.f a1_0 a1_1 a1_2 a1_3 a1_4 a1_5).bind fun bt351 => ((punchcutlaw10_Field.f k t335 bt351.1 bt351.2.1 bt351.2.2.1 bt351.2.2.2.1 bt351.2.2.2.2.1 bt351.2.2.2.2.2).bind fun bt357 => ((punchcutlaw10_Same.f t344 t345 t346 bt357.1 bt357.2.1 bt357.2.2).bind fun t362 => (some t362)))) else (some false)) = some r := H
    have A7 := Aside0.mk A70
    clear A70
    by_cases c8 : t349 = 0
    · rw [if_pos c8] at H
      have c8b0 : (t349 == 0) = true := beq_iff_eq.mpr c8
      have c8b1 : (t349 != 0) = false := bne_eq_false_iff_eq.mpr c8
      clear c8
      replace H := Option.bind_eq_some_iff.mp H
      obtain ⟨⟨t351, t352, t353, t354, t355, t356⟩, A90, H⟩ := H
      replace H : ((punchcutlaw10_Field.f k t335 t351 t352 t353 t354 t355 t356).bind fun bt357 => ((punchcutlaw10_Same.f t344 t345 t346 bt357.1 bt357.2.1 bt357.2.2).bind fun t362 => (some t362))) = some r := H
      have A9 := Aside0.mk A90
      clear A90
      replace H := Option.bind_eq_some_iff.mp H
      obtain ⟨⟨t357, t358, t359⟩, A100, H⟩ := H
      replace H : ((punchcutlaw10_Same.f t344 t345 t346 t357 t358 t359).bind fun t362 => (some t362)) = some r := H
      have A10 := Aside0.mk A100
      clear A100
      replace H := Option.bind_eq_some_iff.mp H
      obtain ⟨t362, A110, H⟩ := H
      replace H : (some t362) = some r := H
      have A11 := Aside0.mk A110
      clear A110
      obtain rfl := Option.some.inj H
      go_enter Try.func7, Try.ntmps7
      try go_wp2_with (first | ((with_reducible refine gate_dst (N := 3) rfl ?_); refine box_event ?hg (N := 3) ?hd (cs := #[.int .u8 a1_0, .int .u8 a1_1, .int .u8 a1_2, .int .u8 a1_3, .int .u8 a1_4, .int .u8 a1_5]) (t := 50) ?hr ?_; (case hd => rfl); (case hg => rfl); (case hr => first | (go_simp; done) | (go_simp; rfl)); intro gb333 hg w12 hbox hb; have n0_ := Aside0.mk (below_step (by repeat (first | (with_reducible first | exact HB.out | apply below_alloc | apply pw_below_drewN | apply below_drew1) | exact HB.out)) hb); have n1_ := Aside0.mk (hbox); have n2_ := Aside0.mk ((by rw [hg]; exact (below_size (by repeat (first | (with_reducible first | exact HB.out | apply below_alloc | apply pw_below_drewN | apply below_drew1) | exact HB.out))) : w.heap.size ≤ gb333)); have n3_ := Aside0.mk ((by rw [hg]; exact (below_size (by repeat (first | (with_reducible first | exact HB.out | apply below_alloc | apply pw_below_drewN | apply below_drew1) | exact HB.out))) : w.heap.size ≤ gb333)); clear HB; have HB := n0_; have BK333 := n1_; have GW333 := n2_; have GE333 := n3_; clear n0_ n1_ n2_ n3_; clear hb hbox hg) | ((with_reducible refine gate_callee (f := 34) rfl ?_); refine goesL_ (some 8) rfl rfl Try.func34 (by kernel_rfl) rfl #[] rfl (by (try simp only [List.map_toArray, List.map_cons, List.map_nil]); first | done | rfl | (simp only [List.length_drop, List.length_take]; rfl)) ?_; (with_reducible refine (punchcutlaw10_awake.calls k  true _ A3.out).mono ?_); rintro e w13 ⟨rfl, hb⟩; refine ⟨_, rfl, ?_⟩; have n0_ := Aside0.mk (blk_below (g := gb333) (o := .cells #[.int .u8 a1_0, .int .u8 a1_1, .int .u8 a1_2, .int .u8 a1_3, .int .u8 a1_4, .int .u8 a1_5] 50 (0, 0)) (by (with_reducible repeat (first | refine blk_drewN ?_ _ | refine blk_drew ?_ | refine blk_alloc ?_ _)); exact BK333.out) hb); have n1_ := Aside0.mk (below_step (by repeat (first | (with_reducible first | exact HB.out | apply below_alloc | apply pw_below_drewN | apply below_drew1 | refine below_set ?_ GE333.out) | exact HB.out)) hb); clear BK333; clear HB; have BK333 := n0_; have HB := n1_; clear n0_ n1_; (try clear hb); (try clear hb2); (try clear hk); (try clear hi)) | ((with_reducible refine gate_callee (f := 19) rfl ?_); refine goesL_ (some 11) rfl rfl Try.func19 (by kernel_rfl) rfl #[.slice A0 l0.length c0] rfl (by (try simp only [List.map_toArray, List.map_cons, List.map_nil]); first | done | rfl | (simp only [List.length_drop, List.length_take]; rfl)) ?_; (with_reducible refine (punchcutlaw06_Glyph.calls k (fun k_ => k_ < w.heap.size) _ _ l0 t335 _ ?side1 A5.out).mono ?_); (case side1 => exact Kd.V_mk HC0.out (Kd.F_below (Kd.C_F (Kd.heap_slice 133 k133_heap) HR0.out) (by repeat (first | (with_reducible first | exact HB.out | apply below_alloc | apply pw_below_drewN | apply below_drew1 | refine below_set ?_ GE333.out) | exact HB.out)))); rintro e w14 ⟨v336, rfl, ho0, hb⟩; refine ⟨_, rfl, ?_⟩; have n0_ := Aside0.mk (Kd.R_lower (Kd.R_mono (ok' := fun k_ => True) ho0 (fun _ hk_ => trivial)) (below_size (by repeat (first | (with_reducible first | exact HB.out | apply below_alloc | apply pw_below_drewN | apply below_drew1 | refine below_set ?_ GE333.out) | exact HB.out)))); have n1_ := Aside0.mk (blk_below (g := gb333) (o := .cells #[.int .u8 a1_0, .int .u8 a1_1, .int .u8 a1_2, .int .u8 a1_3, .int .u8 a1_4, .int .u8 a1_5] 50 (0, 0)) (by (with_reducible repeat (first | refine blk_drewN ?_ _ | refine blk_drew ?_ | refine blk_alloc ?_ _)); exact BK333.out) hb); have n2_ := Aside0.mk (below_step (by repeat (first | (with_reducible first | exact HB.out | apply below_alloc | apply pw_below_drewN | apply below_drew1 | refine below_set ?_ GE333.out) | exact HB.out)) hb); clear BK333; clear HB; have HO337 := n0_; have BK333 := n1_; have HB := n2_; clear n0_ n1_ n2_; (try clear hb); (try clear hb2); (try clear hk); (try clear hi); (try clear ho0); have hcz15_0 : w14.cell? ⟨gb333, 0, none⟩ = some (.int .u8 a1_0) := (blk_cell BK333.out 0).trans rfl; have hcz15_1 : w14.cell? ⟨gb333, 1, none⟩ = some (.int .u8 a1_1) := (blk_cell BK333.out 1).trans rfl; have hcz15_2 : w14.cell? ⟨gb333, 2, none⟩ = some (.int .u8 a1_2) := (blk_cell BK333.out 2).trans rfl; have hcz15_3 : w14.cell? ⟨gb333, 3, none⟩ = some (.int .u8 a1_3) := (blk_cell BK333.out 3).trans rfl; have hcz15_4 : w14.cell? ⟨gb333, 4, none⟩ = some (.int .u8 a1_4) := (blk_cell BK333.out 4).trans rfl; have hcz15_5 : w14.cell? ⟨gb333, 5, none⟩ = some (.int .u8 a1_5) := (blk_cell BK333.out 5).trans rfl; have hfz15_0 := blk_frozen BK333.out 0; have hfz15_1 := blk_frozen BK333.out 1; have hfz15_2 := blk_frozen BK333.out 2; have hfz15_3 := blk_frozen BK333.out 3; have hfz15_4 := blk_frozen BK333.out 4; have hfz15_5 := blk_frozen BK333.out 5) | ((with_reducible refine gate_callee (f := 30) rfl ?_); refine goesL_ (some 15) rfl rfl Try.func30 (by kernel_rfl) rfl #[.agg #[.int .u8 a1_0, .int .u8 a1_1, .int .u8 a1_2, .int .u8 a1_3, .int .u8 a1_4, .int .u8 a1_5]] rfl (by (try simp only [List.map_toArray, List.map_cons, List.map_nil]); first | done | rfl | (simp only [List.length_drop, List.length_take]; rfl)) ?_; (with_reducible refine (punchcutlaw09_Spec_Grid.calls a1_0 a1_1 a1_2 a1_3 a1_4 a1_5 t338 t339 t340 t341 t342 t343 _ A6.out).mono ?_); rintro e w16 ⟨rfl, hb⟩; refine ⟨_, rfl, ?_⟩; have n0_ := Aside0.mk (Kd.R_below (by (with_reducible repeat (first | apply Kd.R_alloc | apply Kd.R_drewN | apply Kd.R_drew)); exact HO337.out) hb); have n1_ := Aside0.mk (blk_below (g := gb333) (o := .cells #[.int .u8 a1_0, .int .u8 a1_1, .int .u8 a1_2, .int .u8 a1_3, .int .u8 a1_4, .int .u8 a1_5] 50 (0, 0)) (by (with_reducible repeat (first | refine blk_drewN ?_ _ | refine blk_drew ?_ | refine blk_alloc ?_ _)); exact BK333.out) hb); have n2_ := Aside0.mk (below_step (by repeat (first | (with_reducible first | exact HB.out | apply below_alloc | apply pw_below_drewN | apply below_drew1 | refine below_set ?_ GE333.out) | exact HB.out)) hb); clear HO337; clear BK333; clear HB; have HO337 := n0_; have BK333 := n1_; have HB := n2_; clear n0_ n1_ n2_; (try clear hb); (try clear hb2); (try clear hk); (try clear hi); obtain ⟨Ao17, co17, eo17⟩ := Kd.R_slice HO337.out; subst eo17) | ((with_reducible refine gate_callee (f := 32) rfl ?_); refine goesL_ (some 16) rfl rfl Try.func32 (by kernel_rfl) rfl #[.slice Ao17 t335.length co17, .agg #[.int .i64 t338, .int .i64 t339, .int .i64 t340, .int .i64 t341, .int .i64 t342, .int .i64 t343]] rfl (by (try simp only [List.map_toArray, List.map_cons, List.map_nil]); first | done | rfl | (simp only [List.length_drop, List.length_take]; rfl)) ?_; (with_reducible refine (sdf_Make.calls k _ _ t335 t338 t339 t340 t341 t342 t343 t344 t345 t346 t349 _ ?side1 ?side2 A7.out).mono ?_); (case side1 => repeat (first | exact (Kd.R_reads' HO337.out).2.2 | (with_reducible refine Kd.C_alloc ?_ _) | (with_reducible refine Kd.C_drewN ?_ _) | (with_reducible refine Kd.C_drew ?_))); (case side2 => exact (Kd.R_reads' HO337.out).2.1); rintro e w18 ⟨v347, rfl, ho0, hb⟩; refine ⟨_, rfl, ?_⟩; have n0_ := Aside0.mk (Kd.R_below (by (with_reducible repeat (first | apply Kd.R_alloc | apply Kd.R_drewN | apply Kd.R_drew)); exact HO337.out) hb); have n1_ := Aside0.mk (Kd.R_lower ho0 (below_size (by repeat (first | (with_reducible first | exact HB.out | apply below_alloc | apply pw_below_drewN | apply below_drew1 | refine below_set ?_ GE333.out) | exact HB.out)))); have n2_ := Aside0.mk (blk_below (g := gb333) (o := .cells #[.int .u8 a1_0, .int .u8 a1_1, .int .u8 a1_2, .int .u8 a1_3, .int .u8 a1_4, .int .u8 a1_5] 50 (0, 0)) (by (with_reducible repeat (first | refine blk_drewN ?_ _ | refine blk_drew ?_ | refine blk_alloc ?_ _)); exact BK333.out) hb); have n3_ := Aside0.mk (below_step (by repeat (first | (with_reducible first | exact HB.out | apply below_alloc | apply pw_below_drewN | apply below_drew1 | refine below_set ?_ GE333.out) | exact HB.out)) hb); clear HO337; clear BK333; clear HB; have HO337 := n0_; have HO348 := n1_; have BK333 := n2_; have HB := n3_; clear n0_ n1_ n2_ n3_; (try clear hb); (try clear hb2); (try clear hk); (try clear hi); (try clear ho0)) | ((with_reducible refine gate_dst (N := 6) rfl ?_); refine box_event ?hg (N := 6) ?hd (cs := #[.int .i64 0, .int .i64 0, .slice none 0 0]) (t := 57) ?hr ?_; (case hd => rfl); (case hg => rfl); (case hr => first | (go_simp; done) | (go_simp; rfl)); intro gb350 hg w19 hbox hb; have n0_ := Aside0.mk (Kd.R_below (by (with_reducible repeat (first | apply Kd.R_alloc | apply Kd.R_drewN | apply Kd.R_drew)); exact HO337.out) hb); have n1_ := Aside0.mk (Kd.R_below (by (with_reducible repeat (first | apply Kd.R_alloc | apply Kd.R_drewN | apply Kd.R_drew)); exact HO348.out) hb); have n2_ := Aside0.mk (blk_below (g := gb333) (o := .cells #[.int .u8 a1_0, .int .u8 a1_1, .int .u8 a1_2, .int .u8 a1_3, .int .u8 a1_4, .int .u8 a1_5] 50 (0, 0)) (by (with_reducible repeat (first | refine blk_drewN ?_ _ | refine blk_drew ?_ | refine blk_alloc ?_ _)); exact BK333.out) hb); have n3_ := Aside0.mk (below_step (by repeat (first | (with_reducible first | exact HB.out | apply below_alloc | apply pw_below_drewN | apply below_drew1 | refine below_set ?_ GE333.out) | exact HB.out)) hb); have n4_ := Aside0.mk (hbox); have n5_ := Aside0.mk ((by rw [hg]; exact (below_size (by repeat (first | (with_reducible first | exact HB.out | apply below_alloc | apply pw_below_drewN | apply below_drew1 | refine below_set ?_ GE333.out) | exact HB.out))) : w.heap.size ≤ gb350)); have n6_ := Aside0.mk ((by rw [hg]; exact (below_size (by repeat (first | (with_reducible first | exact HB.out | apply below_alloc | apply pw_below_drewN | apply below_drew1 | refine below_set ?_ GE333.out) | exact HB.out))) : w.heap.size ≤ gb350)); have n7_ := Aside0.mk ((by rw [hg]; exact Nat.ne_of_lt (blk_lt (g := gb333) (o := .cells #[.int .u8 a1_0, .int .u8 a1_1, .int .u8 a1_2, .int .u8 a1_3, .int .u8 a1_4, .int .u8 a1_5] 50 (0, 0)) (by (with_reducible repeat (first | refine blk_drewN ?_ _ | refine blk_drew ?_ | refine blk_alloc ?_ _)); exact BK333.out)) : gb333 ≠ gb350)); have n8_ := Aside0.mk ((by rw [hg]; exact Nat.ne_of_gt (blk_lt (g := gb333) (o := .cells #[.int .u8 a1_0, .int .u8 a1_1, .int .u8 a1_2, .int .u8 a1_3, .int .u8 a1_4, .int .u8 a1_5] 50 (0, 0)) (by (with_reducible repeat (first | refine blk_drewN ?_ _ | refine blk_drew ?_ | refine blk_alloc ?_ _)); exact BK333.out)) : gb350 ≠ gb333)); clear HO337; clear HO348; clear BK333; clear HB; have HO337 := n0_; have HO348 := n1_; have BK333 := n2_; have HB := n3_; have BK350 := n4_; have GW350 := n5_; have GE350 := n6_; have NB333_350 := n7_; have NB350_333 := n8_; clear n0_ n1_ n2_ n3_ n4_ n5_ n6_ n7_ n8_; clear hb hbox hg; have hnb20 := NB350_333.out; have hnc20 := NB333_350.out; have hcz21_0 : w19.cell? ⟨gb350, 0, none⟩ = some (.int .i64 0) := (blk_cell BK350.out 0).trans rfl; have hcz21_1 : w19.cell? ⟨gb350, 1, none⟩ = some (.int .i64 0) := (blk_cell BK350.out 1).trans rfl; have hcz21_2 : w19.cell? ⟨gb350, 2, none⟩ = some (.slice none 0 0) := (blk_cell BK350.out 2).trans rfl; have hfz21_0 := blk_frozen BK350.out 0; have hfz21_1 := blk_frozen BK350.out 1; have hfz21_2 := blk_frozen BK350.out 2; obtain ⟨Ao22, co22, eo22⟩ := Kd.R_slice HO348.out; subst eo22))
      have n0_ : Aside0 (Kd.R k40 40 (((w19.setCell ⟨gb350, 0, none⟩ (.int .i64 t344)).setCell ⟨gb350, 1, none⟩ (.int .i64 t345)).setCell ⟨gb350, 2, none⟩ (.slice Ao22 t346.length co22)) w.heap.size (fun _ => True) (.slice Ao17 t335.length co17) t335) := ⟨by (with_reducible repeat (first | apply Kd.R_alloc | apply Kd.R_drewN | apply Kd.R_drew)); exact Kd.R_mono (Kd.R_far (p := ⟨gb350, 2, none⟩) (Kd.R_far (p := ⟨gb350, 1, none⟩) (Kd.R_far (p := ⟨gb350, 0, none⟩) (Kd.R_types HO337.out BK350.out (by decide)) (fun _ hk => hk.2) (.int .i64 t344)) (fun _ hk => hk.2) (.int .i64 t345)) (fun _ hk => hk.2) (.slice Ao22 t346.length co22)) (fun _ hk => trivial)⟩
      have n1_ : Aside0 (Kd.R (Kd.int .u8) 5 (((w19.setCell ⟨gb350, 0, none⟩ (.int .i64 t344)).setCell ⟨gb350, 1, none⟩ (.int .i64 t345)).setCell ⟨gb350, 2, none⟩ (.slice Ao22 t346.length co22)) w.heap.size (fun _ => True) (.slice Ao22 t346.length co22) t346) := ⟨by (with_reducible repeat (first | apply Kd.R_alloc | apply Kd.R_drewN | apply Kd.R_drew)); exact Kd.R_mono (Kd.R_far (p := ⟨gb350, 2, none⟩) (Kd.R_far (p := ⟨gb350, 1, none⟩) (Kd.R_far (p := ⟨gb350, 0, none⟩) (Kd.R_types HO348.out BK350.out (by decide)) (fun _ hk => hk.2) (.int .i64 t344)) (fun _ hk => hk.2) (.int .i64 t345)) (fun _ hk => hk.2) (.slice Ao22 t346.length co22)) (fun _ hk => trivial)⟩
      have n2_ : Aside0 ((((w19.setCell ⟨gb350, 0, none⟩ (.int .i64 t344)).setCell ⟨gb350, 1, none⟩ (.int .i64 t345)).setCell ⟨gb350, 2, none⟩ (.slice Ao22 t346.length co22)).heap[gb333]? = some (.cells #[.int .u8 a1_0, .int .u8 a1_1, .int .u8 a1_2, .int .u8 a1_3, .int .u8 a1_4, .int .u8 a1_5] 50 (0, 0))) := ⟨by (with_reducible repeat (first | refine blk_drewN ?_ _ | refine blk_drew ?_ | refine blk_alloc ?_ _)); refine blk_far ?_ NB333_350.out _; (with_reducible repeat (first | refine blk_drewN ?_ _ | refine blk_drew ?_ | refine blk_alloc ?_ _)); refine blk_far ?_ NB333_350.out _; (with_reducible repeat (first | refine blk_drewN ?_ _ | refine blk_drew ?_ | refine blk_alloc ?_ _)); refine blk_far ?_ NB333_350.out _; (with_reducible repeat (first | refine blk_drewN ?_ _ | refine blk_drew ?_ | refine blk_alloc ?_ _)); exact BK333.out⟩
      have n3_ : Aside0 ((((w19.setCell ⟨gb350, 0, none⟩ (.int .i64 t344)).setCell ⟨gb350, 1, none⟩ (.int .i64 t345)).setCell ⟨gb350, 2, none⟩ (.slice Ao22 t346.length co22)).heap[gb350]? = some (.cells #[.int .i64 t344, .int .i64 t345, .slice Ao22 t346.length co22] 57 (0, 0))) := ⟨by (with_reducible repeat (first | refine blk_drewN ?_ _ | refine blk_drew ?_ | refine blk_alloc ?_ _)); refine blk_put (cs := #[.int .i64 t344, .int .i64 t345, .slice none 0 0]) ?_ 2 _ rfl; (with_reducible repeat (first | refine blk_drewN ?_ _ | refine blk_drew ?_ | refine blk_alloc ?_ _)); refine blk_put (cs := #[.int .i64 t344, .int .i64 0, .slice none 0 0]) ?_ 1 _ rfl; (with_reducible repeat (first | refine blk_drewN ?_ _ | refine blk_drew ?_ | refine blk_alloc ?_ _)); refine blk_put (cs := #[.int .i64 0, .int .i64 0, .slice none 0 0]) ?_ 0 _ rfl; (with_reducible repeat (first | refine blk_drewN ?_ _ | refine blk_drew ?_ | refine blk_alloc ?_ _)); exact BK350.out⟩
      have n4_ : Aside0 (Below w.heap.size w (((w19.setCell ⟨gb350, 0, none⟩ (.int .i64 t344)).setCell ⟨gb350, 1, none⟩ (.int .i64 t345)).setCell ⟨gb350, 2, none⟩ (.slice Ao22 t346.length co22))) := ⟨by repeat (first | (with_reducible first | exact HB.out | apply below_alloc | apply pw_below_drewN | apply below_drew1 | refine below_set ?_ GE333.out | refine below_set ?_ GE350.out) | exact HB.out)⟩
      (try clear HO337)
      (try clear HO348)
      (try clear BK333)
      (try clear BK350)
      (try clear HB)
      generalize (((w19.setCell ⟨gb350, 0, none⟩ (.int .i64 t344)).setCell ⟨gb350, 1, none⟩ (.int .i64 t345)).setCell ⟨gb350, 2, none⟩ (.slice Ao22 t346.length co22)) = w23 at n0_ n1_ n2_ n3_ n4_ ⊢
      have HO337 := n0_
      have HO348 := n1_
      have BK333 := n2_
      have BK350 := n3_
      have HB := n4_
      clear n0_ n1_ n2_ n3_ n4_
      have n0_ := Aside0.mk (Kd.R_drew HO337.out)
      have n1_ := Aside0.mk (Kd.R_drew HO348.out)
      have n2_ := Aside0.mk (blk_drew BK333.out)
      have n3_ := Aside0.mk (blk_drew BK350.out)
      have n4_ := Aside0.mk (below_drew1 HB.out)
      clear HO337
      clear HO348
      clear BK333
      clear BK350
      clear HB
      have HO337 := n0_
      have HO348 := n1_
      have BK333 := n2_
      have BK350 := n3_
      have HB := n4_
      clear n0_ n1_ n2_ n3_ n4_
      refine start_ (n := 11) (S := fun w' => w'.cell? ⟨gb350, 0, none⟩ = some (.int .i64 t344) ∧ w'.cell? ⟨gb350, 1, none⟩ = some (.int .i64 t345) ∧ w'.cell? ⟨gb350, 2, none⟩ = some (.slice Ao22 t346.length co22) ∧ w'.cell? ⟨gb333, 0, none⟩ = some (.int .u8 a1_0) ∧ w'.cell? ⟨gb333, 1, none⟩ = some (.int .u8 a1_1) ∧ w'.cell? ⟨gb333, 2, none⟩ = some (.int .u8 a1_2) ∧ w'.cell? ⟨gb333, 3, none⟩ = some (.int .u8 a1_3) ∧ w'.cell? ⟨gb333, 4, none⟩ = some (.int .u8 a1_4) ∧ w'.cell? ⟨gb333, 5, none⟩ = some (.int .u8 a1_5)) (ds := []) #[false, false, false, false, false, false, false, false, false, false, false] (by kernel_rfl) rfl rfl ⟨(blk_cell BK350.out 0).trans rfl, (blk_cell BK350.out 1).trans rfl, (blk_cell BK350.out 2).trans rfl, (blk_cell BK333.out 0).trans rfl, (blk_cell BK333.out 1).trans rfl, (blk_cell BK333.out 2).trans rfl, (blk_cell BK333.out 3).trans rfl, (blk_cell BK333.out 4).trans rfl, (blk_cell BK333.out 5).trans rfl⟩ (fun hHeld => ?_); refine with_tabW punchcutlaw10_SdfMake.tab5 punchcutlaw10_SdfMake.bits5 (fun HT_ HW_ => ?_)
      generalize w23.drew = w24 at HO337 HO348 BK333 BK350 HB hHeld ⊢
      refine pure_ (i := 0) (N := some 19) (v := ?_) (a' := ?_) #[true, false, false, false, false, false, false, false, false, false, false] rfl rfl (any_of HT_.out (by kernel_rfl)) (fun _ _ _ h => h) (Or.inl ⟨by rfl, ?_⟩) ?_ ?_
      rotate_left
      · intro w'
        go_simp
        with_reducible rfl
      rotate_left
      · simp only [Act.put, List.setIfInBounds_toArray, List.set_cons_zero, List.set_cons_succ, i64_w, i32_w]
        rfl
      refine pure_ (i := 1) (N := some 20) (v := ?_) (a' := ?_) #[true, true, false, false, false, false, false, false, false, false, false] rfl rfl (any_of HT_.out (by kernel_rfl)) (fun _ _ _ h => h) (Or.inl ⟨by rfl, ?_⟩) ?_ ?_
      rotate_left
      · intro w'
        go_simp
        with_reducible rfl
      rotate_left
      · simp only [Act.put, List.setIfInBounds_toArray, List.set_cons_zero, List.set_cons_succ, i64_w, i32_w]
        rfl
      refine pure_ (i := 2) (N := some 21) (v := ?_) (a' := ?_) #[true, true, true, false, false, false, false, false, false, false, false] rfl rfl (any_of HT_.out (by kernel_rfl)) (fun _ _ _ h => h) (Or.inl ⟨by rfl, ?_⟩) ?_ ?_
      rotate_left
      · intro w'
        go_simp
        with_reducible rfl
      rotate_left
      · simp only [Act.put, List.setIfInBounds_toArray, List.set_cons_zero, List.set_cons_succ, i64_w, i32_w]
        rfl
      refine pure_ (i := 4) (N := some 23) (v := ?_) (a' := ?_) #[true, true, true, false, true, false, false, false, false, false, false] rfl rfl (any_of HT_.out (by kernel_rfl)) (fun _ _ _ h => h) (Or.inl ⟨by rfl, ?_⟩) ?_ ?_
      rotate_left
      · intro w'
        go_simp
        with_reducible rfl
      rotate_left
      · simp only [Act.put, List.setIfInBounds_toArray, List.set_cons_zero, List.set_cons_succ, i64_w, i32_w]
        rfl
      refine take_ (i := 3) (N := some 22) (v := ?_) (a' := ?_) #[true, true, true, true, true, false, false, false, false, false, false] rfl rfl (take_ofW HT_.out HW_.out (by kernel_rfl)) (fun _ _ _ h => h) (Or.inl ⟨by rfl, ?_⟩) hHeld ?_ ?_
      rotate_left
      · rintro w' ⟨s0, s1, s2, s3, s4, s5, s6, s7, s8⟩
        go_simp
        with_reducible rfl
      rotate_left
      · simp only [Act.put, List.setIfInBounds_toArray, List.set_cons_zero, List.set_cons_succ, i64_w, i32_w]
        rfl
      refine take_ (i := 5) (N := some 24) (v := ?_) (a' := ?_) #[true, true, true, true, true, true, false, false, false, false, false] rfl rfl (take_ofW HT_.out HW_.out (by kernel_rfl)) (fun _ _ _ h => h) (Or.inl ⟨by rfl, ?_⟩) hHeld ?_ ?_
      rotate_left
      · rintro w' ⟨s0, s1, s2, s3, s4, s5, s6, s7, s8⟩
        go_simp
        with_reducible rfl
      rotate_left
      · simp only [Act.put, List.setIfInBounds_toArray, List.set_cons_zero, List.set_cons_succ, i64_w, i32_w]
        rfl
      refine one_ (i := 6) (N := some 25) #[true, true, true, true, true, true, true, false, false, false, false] rfl rfl (one_of HT_.out (by kernel_rfl)) (by decide) (fun K hK => ?_)
      refine goes_ Try.func30 (by kernel_rfl) rfl #[.agg #[.int .u8 a1_0, .int .u8 a1_1, .int .u8 a1_2, .int .u8 a1_3, .int .u8 a1_4, .int .u8 a1_5]] (by rfl) rfl rfl (by (try simp only [List.map_toArray, List.map_cons, List.map_nil]); first | done | rfl | (simp only [List.length_drop, List.length_take]; rfl)) ?_
      with_reducible refine (punchcutlaw09_Spec_Grid.calls a1_0 a1_1 a1_2 a1_3 a1_4 a1_5 t351 t352 t353 t354 t355 t356 _ A9.out).mono ?_
      rintro e w25 ⟨rfl, hb⟩
      refine ⟨_, rfl, ?_⟩
      have n0_ := Aside0.mk (Kd.R_below (by (with_reducible repeat (first | apply Kd.R_alloc | apply Kd.R_drewN | apply Kd.R_drew)); exact HO337.out) hb)
      have n1_ := Aside0.mk (Kd.R_below (by (with_reducible repeat (first | apply Kd.R_alloc | apply Kd.R_drewN | apply Kd.R_drew)); exact HO348.out) hb)
      have n2_ := Aside0.mk (blk_below (g := gb333) (o := .cells #[.int .u8 a1_0, .int .u8 a1_1, .int .u8 a1_2, .int .u8 a1_3, .int .u8 a1_4, .int .u8 a1_5] 50 (0, 0)) (by (with_reducible repeat (first | refine blk_drewN ?_ _ | refine blk_drew ?_ | refine blk_alloc ?_ _)); exact BK333.out) hb)
      have n3_ := Aside0.mk (blk_below (g := gb350) (o := .cells #[.int .i64 t344, .int .i64 t345, .slice Ao22 t346.length co22] 57 (0, 0)) (by (with_reducible repeat (first | refine blk_drewN ?_ _ | refine blk_drew ?_ | refine blk_alloc ?_ _)); exact BK350.out) hb)
      have n4_ := Aside0.mk (below_step (by repeat (first | (with_reducible first | exact HB.out | apply below_alloc | apply pw_below_drewN | apply below_drew1 | refine below_set ?_ GE333.out | refine below_set ?_ GE350.out) | exact HB.out)) hb)
      clear HO337
      clear HO348
      clear BK333
      clear BK350
      clear HB
      have HO337 := n0_
      have HO348 := n1_
      have BK333 := n2_
      have BK350 := n3_
      have HB := n4_
      clear n0_ n1_ n2_ n3_ n4_
      (try clear hb)
      (try clear hb2)
      (try clear hk)
      (try clear hi)
      refine hK.out _ _ ⟨(blk_cell BK350.out 0).trans rfl, (blk_cell BK350.out 1).trans rfl, (blk_cell BK350.out 2).trans rfl, (blk_cell BK333.out 0).trans rfl, (blk_cell BK333.out 1).trans rfl, (blk_cell BK333.out 2).trans rfl, (blk_cell BK333.out 3).trans rfl, (blk_cell BK333.out 4).trans rfl, (blk_cell BK333.out 5).trans rfl⟩ (fun hHeld => ?_)
      clear hK K
      refine norm_ (a' := ?_) ?_ ?_
      rotate_left
      · show Act.put _ (some 25) _ = _
        simp only [Act.put, List.setIfInBounds_toArray, List.set_cons_zero, List.set_cons_succ, i64_w, i32_w]
        rfl
      refine one_ (i := 7) (N := some 26) #[true, true, true, true, true, true, true, true, false, false, false] rfl rfl (one_of HT_.out (by kernel_rfl)) (by decide) (fun K hK => ?_)
      refine goes_ Try.func35 (by kernel_rfl) rfl #[.slice Ao17 t335.length co17, .agg #[.int .i64 t351, .int .i64 t352, .int .i64 t353, .int .i64 t354, .int .i64 t355, .int .i64 t356]] (by rfl) rfl rfl (by (try simp only [List.map_toArray, List.map_cons, List.map_nil]); first | done | rfl | (simp only [List.length_drop, List.length_take]; rfl)) ?_
      with_reducible refine (punchcutlaw10_Field.calls k _ _ t335 t351 t352 t353 t354 t355 t356 t357 t358 t359 _ ?side1 ?side2 A10.out).mono ?_
      (case side1 => repeat (first | exact (Kd.R_reads' HO337.out).2.2 | (with_reducible refine Kd.C_alloc ?_ _) | (with_reducible refine Kd.C_drewN ?_ _) | (with_reducible refine Kd.C_drew ?_)))
      (case side2 => exact (Kd.R_reads' HO337.out).2.1)
      rintro e w26 ⟨v360, rfl, ho0, hb⟩
      refine ⟨_, rfl, ?_⟩
      have n0_ := Aside0.mk (Kd.R_below (by (with_reducible repeat (first | apply Kd.R_alloc | apply Kd.R_drewN | apply Kd.R_drew)); exact HO337.out) hb)
      have n1_ := Aside0.mk (Kd.R_elder' (by (with_reducible repeat (first | apply Kd.R_alloc | apply Kd.R_drewN | apply Kd.R_drew)); exact HO348.out) (Kd.R_base ho0) hb)
      have n2_ := Aside0.mk (Kd.R_lower (Kd.R_new' ho0 (Kd.R_lt (by (with_reducible repeat (first | apply Kd.R_alloc | apply Kd.R_drewN | apply Kd.R_drew)); exact HO348.out))) (below_size (by repeat (first | (with_reducible first | exact HB.out | apply below_alloc | apply pw_below_drewN | apply below_drew1 | refine below_set ?_ GE333.out | refine below_set ?_ GE350.out) | exact HB.out))))
      have n3_ := Aside0.mk (blk_below (g := gb333) (o := .cells #[.int .u8 a1_0, .int .u8 a1_1, .int .u8 a1_2, .int .u8 a1_3, .int .u8 a1_4, .int .u8 a1_5] 50 (0, 0)) (by (with_reducible repeat (first | refine blk_drewN ?_ _ | refine blk_drew ?_ | refine blk_alloc ?_ _)); exact BK333.out) hb)
      have n4_ := Aside0.mk (blk_below (g := gb350) (o := .cells #[.int .i64 t344, .int .i64 t345, .slice Ao22 t346.length co22] 57 (0, 0)) (by (with_reducible repeat (first | refine blk_drewN ?_ _ | refine blk_drew ?_ | refine blk_alloc ?_ _)); exact BK350.out) hb)
      have n5_ := Aside0.mk (below_step (by repeat (first | (with_reducible first | exact HB.out | apply below_alloc | apply pw_below_drewN | apply below_drew1 | refine below_set ?_ GE333.out | refine below_set ?_ GE350.out) | exact HB.out)) hb)
      clear HO337
      clear HO348
      clear BK333
      clear BK350
      clear HB
      have HO337 := n0_
      have HO348 := n1_
      have HO361 := n2_
      have BK333 := n3_
      have BK350 := n4_
      have HB := n5_
      clear n0_ n1_ n2_ n3_ n4_ n5_
      (try clear hb)
      (try clear hb2)
      (try clear hk)
      (try clear hi)
      (try clear ho0)
      obtain ⟨Ao27, co27, eo27⟩ := Kd.R_slice HO361.out
      (first | subst eo27 | (injection eo27 with f1_ f2_ f3_; have f4_ := f1_.symm; have f5_ := f3_.symm; clear f1_ f2_ f3_; subst f4_; subst f5_))
      refine hK.out _ _ ⟨(blk_cell BK350.out 0).trans rfl, (blk_cell BK350.out 1).trans rfl, (blk_cell BK350.out 2).trans rfl, (blk_cell BK333.out 0).trans rfl, (blk_cell BK333.out 1).trans rfl, (blk_cell BK333.out 2).trans rfl, (blk_cell BK333.out 3).trans rfl, (blk_cell BK333.out 4).trans rfl, (blk_cell BK333.out 5).trans rfl⟩ (fun hHeld => ?_)
      clear hK K
      refine norm_ (a' := ?_) ?_ ?_
      rotate_left
      · show Act.put _ (some 26) _ = _
        simp only [Act.put, List.setIfInBounds_toArray, List.set_cons_zero, List.set_cons_succ, i64_w, i32_w]
        rfl
      refine one_ (i := 8) (N := some 27) #[true, true, true, true, true, true, true, true, true, false, false] rfl rfl (one_of HT_.out (by kernel_rfl)) (by decide) (fun K hK => ?_)
      refine goes_ Try.func33 (by kernel_rfl) rfl #[.agg #[.int .i64 t344, .int .i64 t345, .slice Ao22 t346.length co22], .agg #[.int .i64 t357, .int .i64 t358, .slice Ao27 t359.length co27]] (by rfl) rfl rfl (by (try simp only [List.map_toArray, List.map_cons, List.map_nil]); first | done | rfl | (simp only [List.length_drop, List.length_take]; rfl)) ?_
      with_reducible refine (punchcutlaw10_Same.calls t344 t345 _ _ t346 t357 t358 _ _ t359 t362 _ ?side1 ?side2 ?side3 ?side4 A11.out).mono ?_
      (case side1 => repeat (first | exact (Kd.R_reads' HO348.out).2.2 | (with_reducible refine Kd.C_alloc ?_ _) | (with_reducible refine Kd.C_drewN ?_ _) | (with_reducible refine Kd.C_drew ?_)))
      (case side2 => exact (Kd.R_reads' HO348.out).2.1)
      (case side3 => repeat (first | exact (Kd.R_reads' HO361.out).2.2 | (with_reducible refine Kd.C_alloc ?_ _) | (with_reducible refine Kd.C_drewN ?_ _) | (with_reducible refine Kd.C_drew ?_)))
      (case side4 => exact (Kd.R_reads' HO361.out).2.1)
      rintro e w28 ⟨rfl, hb⟩
      refine ⟨_, rfl, ?_⟩
      have n0_ := Aside0.mk (Kd.R_below (by (with_reducible repeat (first | apply Kd.R_alloc | apply Kd.R_drewN | apply Kd.R_drew)); exact HO337.out) hb)
      have n1_ := Aside0.mk (Kd.R_below (by (with_reducible repeat (first | apply Kd.R_alloc | apply Kd.R_drewN | apply Kd.R_drew)); exact HO348.out) hb)
      have n2_ := Aside0.mk (Kd.R_below (by (with_reducible repeat (first | apply Kd.R_alloc | apply Kd.R_drewN | apply Kd.R_drew)); exact HO361.out) hb)
      have n3_ := Aside0.mk (blk_below (g := gb333) (o := .cells #[.int .u8 a1_0, .int .u8 a1_1, .int .u8 a1_2, .int .u8 a1_3, .int .u8 a1_4, .int .u8 a1_5] 50 (0, 0)) (by (with_reducible repeat (first | refine blk_drewN ?_ _ | refine blk_drew ?_ | refine blk_alloc ?_ _)); exact BK333.out) hb)
      have n4_ := Aside0.mk (blk_below (g := gb350) (o := .cells #[.int .i64 t344, .int .i64 t345, .slice Ao22 t346.length co22] 57 (0, 0)) (by (with_reducible repeat (first | refine blk_drewN ?_ _ | refine blk_drew ?_ | refine blk_alloc ?_ _)); exact BK350.out) hb)
      have n5_ := Aside0.mk (below_step (by repeat (first | (with_reducible first | exact HB.out | apply below_alloc | apply pw_below_drewN | apply below_drew1 | refine below_set ?_ GE333.out | refine below_set ?_ GE350.out) | exact HB.out)) hb)
      clear HO337
      clear HO348
      clear HO361
      clear BK333
      clear BK350
      clear HB
      have HO337 := n0_
      have HO348 := n1_
      have HO361 := n2_
      have BK333 := n3_
      have BK350 := n4_
      have HB := n5_
      clear n0_ n1_ n2_ n3_ n4_ n5_
      (try clear hb)
      (try clear hb2)
      (try clear hk)
      (try clear hi)
      refine hK.out _ _ ⟨(blk_cell BK350.out 0).trans rfl, (blk_cell BK350.out 1).trans rfl, (blk_cell BK350.out 2).trans rfl, (blk_cell BK333.out 0).trans rfl, (blk_cell BK333.out 1).trans rfl, (blk_cell BK333.out 2).trans rfl, (blk_cell BK333.out 3).trans rfl, (blk_cell BK333.out 4).trans rfl, (blk_cell BK333.out 5).trans rfl⟩ (fun hHeld => ?_)
      clear hK K
      refine norm_ (a' := ?_) ?_ ?_
      rotate_left
      · show Act.put _ (some 27) _ = _
        simp only [Act.put, List.setIfInBounds_toArray, List.set_cons_zero, List.set_cons_succ, i64_w, i32_w]
        rfl
      refine pure_ (i := 9) (N := some 28) (v := ?_) (a' := ?_) #[true, true, true, true, true, true, true, true, true, true, false] rfl rfl (any_of HT_.out (by kernel_rfl)) (fun _ _ _ h => h) (Or.inl ⟨by rfl, ?_⟩) ?_ ?_
      rotate_left
      · intro w'
        go_simp
        with_reducible rfl
      rotate_left
      · simp only [Act.put, List.setIfInBounds_toArray, List.set_cons_zero, List.set_cons_succ, i64_w, i32_w]
        rfl
      refine pure_ (i := 10) (N := some 4) (v := ?_) (a' := ?_) #[true, true, true, true, true, true, true, true, true, true, true] rfl rfl (any_of HT_.out (by kernel_rfl)) (fun _ _ _ h => h) (Or.inl ⟨by rfl, ?_⟩) ?_ ?_
      rotate_left
      · intro w'
        go_simp
        with_reducible rfl
      rotate_left
      · simp only [Act.put, List.setIfInBounds_toArray, List.set_cons_zero, List.set_cons_succ, i64_w, i32_w]
        rfl
      refine done_ (done_of HT_.out (by kernel_rfl)) ?_
      try go_wp2
      go_ret
      exact ⟨by first | rfl | (simp [errW_none, errW_some] <;> rfl) | (simp [*, errW_none, errW_some] <;> rfl), by repeat (first | (with_reducible first | exact HB.out | apply below_alloc | apply pw_below_drewN | apply below_drew1 | refine below_set ?_ GE333.out | refine below_set ?_ GE350.out) | exact HB.out)⟩
    · rw [if_neg c8] at H
      have c8b0 : (t349 == 0) = false := beq_eq_false_iff_ne.mpr c8
      have c8b1 : (t349 != 0) = true := bne_iff_ne.mpr c8
      obtain rfl := Option.some.inj H
      go_enter Try.func7, Try.ntmps7
      try go_wp2_with (first | ((with_reducible refine gate_dst (N := 3) rfl ?_); refine box_event ?hg (N := 3) ?hd (cs := #[.int .u8 a1_0, .int .u8 a1_1, .int .u8 a1_2, .int .u8 a1_3, .int .u8 a1_4, .int .u8 a1_5]) (t := 50) ?hr ?_; (case hd => rfl); (case hg => rfl); (case hr => first | (go_simp; done) | (go_simp; rfl)); intro gb333 hg w29 hbox hb; have n0_ := Aside0.mk (below_step (by repeat (first | (with_reducible first | exact HB.out | apply below_alloc | apply pw_below_drewN | apply below_drew1) | exact HB.out)) hb); have n1_ := Aside0.mk (hbox); have n2_ := Aside0.mk ((by rw [hg]; exact (below_size (by repeat (first | (with_reducible first | exact HB.out | apply below_alloc | apply pw_below_drewN | apply below_drew1) | exact HB.out))) : w.heap.size ≤ gb333)); have n3_ := Aside0.mk ((by rw [hg]; exact (below_size (by repeat (first | (with_reducible first | exact HB.out | apply below_alloc | apply pw_below_drewN | apply below_drew1) | exact HB.out))) : w.heap.size ≤ gb333)); clear HB; have HB := n0_; have BK333 := n1_; have GW333 := n2_; have GE333 := n3_; clear n0_ n1_ n2_ n3_; clear hb hbox hg) | ((with_reducible refine gate_callee (f := 34) rfl ?_); refine goesL_ (some 8) rfl rfl Try.func34 (by kernel_rfl) rfl #[] rfl (by (try simp only [List.map_toArray, List.map_cons, List.map_nil]); first | done | rfl | (simp only [List.length_drop, List.length_take]; rfl)) ?_; (with_reducible refine (punchcutlaw10_awake.calls k  true _ A3.out).mono ?_); rintro e w30 ⟨rfl, hb⟩; refine ⟨_, rfl, ?_⟩; have n0_ := Aside0.mk (blk_below (g := gb333) (o := .cells #[.int .u8 a1_0, .int .u8 a1_1, .int .u8 a1_2, .int .u8 a1_3, .int .u8 a1_4, .int .u8 a1_5] 50 (0, 0)) (by (with_reducible repeat (first | refine blk_drewN ?_ _ | refine blk_drew ?_ | refine blk_alloc ?_ _)); exact BK333.out) hb); have n1_ := Aside0.mk (below_step (by repeat (first | (with_reducible first | exact HB.out | apply below_alloc | apply pw_below_drewN | apply below_drew1 | refine below_set ?_ GE333.out) | exact HB.out)) hb); clear BK333; clear HB; have BK333 := n0_; have HB := n1_; clear n0_ n1_; (try clear hb); (try clear hb2); (try clear hk); (try clear hi)) | ((with_reducible refine gate_callee (f := 19) rfl ?_); refine goesL_ (some 11) rfl rfl Try.func19 (by kernel_rfl) rfl #[.slice A0 l0.length c0] rfl (by (try simp only [List.map_toArray, List.map_cons, List.map_nil]); first | done | rfl | (simp only [List.length_drop, List.length_take]; rfl)) ?_; (with_reducible refine (punchcutlaw06_Glyph.calls k (fun k_ => k_ < w.heap.size) _ _ l0 t335 _ ?side1 A5.out).mono ?_); (case side1 => exact Kd.V_mk HC0.out (Kd.F_below (Kd.C_F (Kd.heap_slice 133 k133_heap) HR0.out) (by repeat (first | (with_reducible first | exact HB.out | apply below_alloc | apply pw_below_drewN | apply below_drew1 | refine below_set ?_ GE333.out) | exact HB.out)))); rintro e w31 ⟨v336, rfl, ho0, hb⟩; refine ⟨_, rfl, ?_⟩; have n0_ := Aside0.mk (Kd.R_lower (Kd.R_mono (ok' := fun k_ => True) ho0 (fun _ hk_ => trivial)) (below_size (by repeat (first | (with_reducible first | exact HB.out | apply below_alloc | apply pw_below_drewN | apply below_drew1 | refine below_set ?_ GE333.out) | exact HB.out)))); have n1_ := Aside0.mk (blk_below (g := gb333) (o := .cells #[.int .u8 a1_0, .int .u8 a1_1, .int .u8 a1_2, .int .u8 a1_3, .int .u8 a1_4, .int .u8 a1_5] 50 (0, 0)) (by (with_reducible repeat (first | refine blk_drewN ?_ _ | refine blk_drew ?_ | refine blk_alloc ?_ _)); exact BK333.out) hb); have n2_ := Aside0.mk (below_step (by repeat (first | (with_reducible first | exact HB.out | apply below_alloc | apply pw_below_drewN | apply below_drew1 | refine below_set ?_ GE333.out) | exact HB.out)) hb); clear BK333; clear HB; have HO337 := n0_; have BK333 := n1_; have HB := n2_; clear n0_ n1_ n2_; (try clear hb); (try clear hb2); (try clear hk); (try clear hi); (try clear ho0); have hcz32_0 : w31.cell? ⟨gb333, 0, none⟩ = some (.int .u8 a1_0) := (blk_cell BK333.out 0).trans rfl; have hcz32_1 : w31.cell? ⟨gb333, 1, none⟩ = some (.int .u8 a1_1) := (blk_cell BK333.out 1).trans rfl; have hcz32_2 : w31.cell? ⟨gb333, 2, none⟩ = some (.int .u8 a1_2) := (blk_cell BK333.out 2).trans rfl; have hcz32_3 : w31.cell? ⟨gb333, 3, none⟩ = some (.int .u8 a1_3) := (blk_cell BK333.out 3).trans rfl; have hcz32_4 : w31.cell? ⟨gb333, 4, none⟩ = some (.int .u8 a1_4) := (blk_cell BK333.out 4).trans rfl; have hcz32_5 : w31.cell? ⟨gb333, 5, none⟩ = some (.int .u8 a1_5) := (blk_cell BK333.out 5).trans rfl; have hfz32_0 := blk_frozen BK333.out 0; have hfz32_1 := blk_frozen BK333.out 1; have hfz32_2 := blk_frozen BK333.out 2; have hfz32_3 := blk_frozen BK333.out 3; have hfz32_4 := blk_frozen BK333.out 4; have hfz32_5 := blk_frozen BK333.out 5) | ((with_reducible refine gate_callee (f := 30) rfl ?_); refine goesL_ (some 15) rfl rfl Try.func30 (by kernel_rfl) rfl #[.agg #[.int .u8 a1_0, .int .u8 a1_1, .int .u8 a1_2, .int .u8 a1_3, .int .u8 a1_4, .int .u8 a1_5]] rfl (by (try simp only [List.map_toArray, List.map_cons, List.map_nil]); first | done | rfl | (simp only [List.length_drop, List.length_take]; rfl)) ?_; (with_reducible refine (punchcutlaw09_Spec_Grid.calls a1_0 a1_1 a1_2 a1_3 a1_4 a1_5 t338 t339 t340 t341 t342 t343 _ A6.out).mono ?_); rintro e w33 ⟨rfl, hb⟩; refine ⟨_, rfl, ?_⟩; have n0_ := Aside0.mk (Kd.R_below (by (with_reducible repeat (first | apply Kd.R_alloc | apply Kd.R_drewN | apply Kd.R_drew)); exact HO337.out) hb); have n1_ := Aside0.mk (blk_below (g := gb333) (o := .cells #[.int .u8 a1_0, .int .u8 a1_1, .int .u8 a1_2, .int .u8 a1_3, .int .u8 a1_4, .int .u8 a1_5] 50 (0, 0)) (by (with_reducible repeat (first | refine blk_drewN ?_ _ | refine blk_drew ?_ | refine blk_alloc ?_ _)); exact BK333.out) hb); have n2_ := Aside0.mk (below_step (by repeat (first | (with_reducible first | exact HB.out | apply below_alloc | apply pw_below_drewN | apply below_drew1 | refine below_set ?_ GE333.out) | exact HB.out)) hb); clear HO337; clear BK333; clear HB; have HO337 := n0_; have BK333 := n1_; have HB := n2_; clear n0_ n1_ n2_; (try clear hb); (try clear hb2); (try clear hk); (try clear hi); obtain ⟨Ao34, co34, eo34⟩ := Kd.R_slice HO337.out; subst eo34) | ((with_reducible refine gate_callee (f := 32) rfl ?_); refine goesL_ (some 16) rfl rfl Try.func32 (by kernel_rfl) rfl #[.slice Ao34 t335.length co34, .agg #[.int .i64 t338, .int .i64 t339, .int .i64 t340, .int .i64 t341, .int .i64 t342, .int .i64 t343]] rfl (by (try simp only [List.map_toArray, List.map_cons, List.map_nil]); first | done | rfl | (simp only [List.length_drop, List.length_take]; rfl)) ?_; (with_reducible refine (sdf_Make.calls k _ _ t335 t338 t339 t340 t341 t342 t343 t344 t345 t346 t349 _ ?side1 ?side2 A7.out).mono ?_); (case side1 => repeat (first | exact (Kd.R_reads' HO337.out).2.2 | (with_reducible refine Kd.C_alloc ?_ _) | (with_reducible refine Kd.C_drewN ?_ _) | (with_reducible refine Kd.C_drew ?_))); (case side2 => exact (Kd.R_reads' HO337.out).2.1); rintro e w35 ⟨v347, rfl, ho0, hb⟩; refine ⟨_, rfl, ?_⟩; have n0_ := Aside0.mk (Kd.R_below (by (with_reducible repeat (first | apply Kd.R_alloc | apply Kd.R_drewN | apply Kd.R_drew)); exact HO337.out) hb); have n1_ := Aside0.mk (Kd.R_lower ho0 (below_size (by repeat (first | (with_reducible first | exact HB.out | apply below_alloc | apply pw_below_drewN | apply below_drew1 | refine below_set ?_ GE333.out) | exact HB.out)))); have n2_ := Aside0.mk (blk_below (g := gb333) (o := .cells #[.int .u8 a1_0, .int .u8 a1_1, .int .u8 a1_2, .int .u8 a1_3, .int .u8 a1_4, .int .u8 a1_5] 50 (0, 0)) (by (with_reducible repeat (first | refine blk_drewN ?_ _ | refine blk_drew ?_ | refine blk_alloc ?_ _)); exact BK333.out) hb); have n3_ := Aside0.mk (below_step (by repeat (first | (with_reducible first | exact HB.out | apply below_alloc | apply pw_below_drewN | apply below_drew1 | refine below_set ?_ GE333.out) | exact HB.out)) hb); clear HO337; clear BK333; clear HB; have HO337 := n0_; have HO348 := n1_; have BK333 := n2_; have HB := n3_; clear n0_ n1_ n2_ n3_; (try clear hb); (try clear hb2); (try clear hk); (try clear hi); (try clear ho0)) | ((with_reducible refine gate_dst (N := 6) rfl ?_); refine box_event ?hg (N := 6) ?hd (cs := #[.int .i64 0, .int .i64 0, .slice none 0 0]) (t := 57) ?hr ?_; (case hd => rfl); (case hg => rfl); (case hr => first | (go_simp; done) | (go_simp; rfl)); intro gb350 hg w36 hbox hb; have n0_ := Aside0.mk (Kd.R_below (by (with_reducible repeat (first | apply Kd.R_alloc | apply Kd.R_drewN | apply Kd.R_drew)); exact HO337.out) hb); have n1_ := Aside0.mk (Kd.R_below (by (with_reducible repeat (first | apply Kd.R_alloc | apply Kd.R_drewN | apply Kd.R_drew)); exact HO348.out) hb); have n2_ := Aside0.mk (blk_below (g := gb333) (o := .cells #[.int .u8 a1_0, .int .u8 a1_1, .int .u8 a1_2, .int .u8 a1_3, .int .u8 a1_4, .int .u8 a1_5] 50 (0, 0)) (by (with_reducible repeat (first | refine blk_drewN ?_ _ | refine blk_drew ?_ | refine blk_alloc ?_ _)); exact BK333.out) hb); have n3_ := Aside0.mk (below_step (by repeat (first | (with_reducible first | exact HB.out | apply below_alloc | apply pw_below_drewN | apply below_drew1 | refine below_set ?_ GE333.out) | exact HB.out)) hb); have n4_ := Aside0.mk (hbox); have n5_ := Aside0.mk ((by rw [hg]; exact (below_size (by repeat (first | (with_reducible first | exact HB.out | apply below_alloc | apply pw_below_drewN | apply below_drew1 | refine below_set ?_ GE333.out) | exact HB.out))) : w.heap.size ≤ gb350)); have n6_ := Aside0.mk ((by rw [hg]; exact (below_size (by repeat (first | (with_reducible first | exact HB.out | apply below_alloc | apply pw_below_drewN | apply below_drew1 | refine below_set ?_ GE333.out) | exact HB.out))) : w.heap.size ≤ gb350)); have n7_ := Aside0.mk ((by rw [hg]; exact Nat.ne_of_lt (blk_lt (g := gb333) (o := .cells #[.int .u8 a1_0, .int .u8 a1_1, .int .u8 a1_2, .int .u8 a1_3, .int .u8 a1_4, .int .u8 a1_5] 50 (0, 0)) (by (with_reducible repeat (first | refine blk_drewN ?_ _ | refine blk_drew ?_ | refine blk_alloc ?_ _)); exact BK333.out)) : gb333 ≠ gb350)); have n8_ := Aside0.mk ((by rw [hg]; exact Nat.ne_of_gt (blk_lt (g := gb333) (o := .cells #[.int .u8 a1_0, .int .u8 a1_1, .int .u8 a1_2, .int .u8 a1_3, .int .u8 a1_4, .int .u8 a1_5] 50 (0, 0)) (by (with_reducible repeat (first | refine blk_drewN ?_ _ | refine blk_drew ?_ | refine blk_alloc ?_ _)); exact BK333.out)) : gb350 ≠ gb333)); clear HO337; clear HO348; clear BK333; clear HB; have HO337 := n0_; have HO348 := n1_; have BK333 := n2_; have HB := n3_; have BK350 := n4_; have GW350 := n5_; have GE350 := n6_; have NB333_350 := n7_; have NB350_333 := n8_; clear n0_ n1_ n2_ n3_ n4_ n5_ n6_ n7_ n8_; clear hb hbox hg; have hnb37 := NB350_333.out; have hnc37 := NB333_350.out; have hcz38_0 : w36.cell? ⟨gb350, 0, none⟩ = some (.int .i64 0) := (blk_cell BK350.out 0).trans rfl; have hcz38_1 : w36.cell? ⟨gb350, 1, none⟩ = some (.int .i64 0) := (blk_cell BK350.out 1).trans rfl; have hcz38_2 : w36.cell? ⟨gb350, 2, none⟩ = some (.slice none 0 0) := (blk_cell BK350.out 2).trans rfl; have hfz38_0 := blk_frozen BK350.out 0; have hfz38_1 := blk_frozen BK350.out 1; have hfz38_2 := blk_frozen BK350.out 2; obtain ⟨Ao39, co39, eo39⟩ := Kd.R_slice HO348.out; subst eo39))
      have n0_ : Aside0 (Kd.R k40 40 (((w36.setCell ⟨gb350, 0, none⟩ (.int .i64 t344)).setCell ⟨gb350, 1, none⟩ (.int .i64 t345)).setCell ⟨gb350, 2, none⟩ (.slice Ao39 t346.length co39)) w.heap.size (fun _ => True) (.slice Ao34 t335.length co34) t335) := ⟨by (with_reducible repeat (first | apply Kd.R_alloc | apply Kd.R_drewN | apply Kd.R_drew)); exact Kd.R_mono (Kd.R_far (p := ⟨gb350, 2, none⟩) (Kd.R_far (p := ⟨gb350, 1, none⟩) (Kd.R_far (p := ⟨gb350, 0, none⟩) (Kd.R_types HO337.out BK350.out (by decide)) (fun _ hk => hk.2) (.int .i64 t344)) (fun _ hk => hk.2) (.int .i64 t345)) (fun _ hk => hk.2) (.slice Ao39 t346.length co39)) (fun _ hk => trivial)⟩
      have n1_ : Aside0 (Kd.R (Kd.int .u8) 5 (((w36.setCell ⟨gb350, 0, none⟩ (.int .i64 t344)).setCell ⟨gb350, 1, none⟩ (.int .i64 t345)).setCell ⟨gb350, 2, none⟩ (.slice Ao39 t346.length co39)) w.heap.size (fun _ => True) (.slice Ao39 t346.length co39) t346) := ⟨by (with_reducible repeat (first | apply Kd.R_alloc | apply Kd.R_drewN | apply Kd.R_drew)); exact Kd.R_mono (Kd.R_far (p := ⟨gb350, 2, none⟩) (Kd.R_far (p := ⟨gb350, 1, none⟩) (Kd.R_far (p := ⟨gb350, 0, none⟩) (Kd.R_types HO348.out BK350.out (by decide)) (fun _ hk => hk.2) (.int .i64 t344)) (fun _ hk => hk.2) (.int .i64 t345)) (fun _ hk => hk.2) (.slice Ao39 t346.length co39)) (fun _ hk => trivial)⟩
      have n2_ : Aside0 ((((w36.setCell ⟨gb350, 0, none⟩ (.int .i64 t344)).setCell ⟨gb350, 1, none⟩ (.int .i64 t345)).setCell ⟨gb350, 2, none⟩ (.slice Ao39 t346.length co39)).heap[gb333]? = some (.cells #[.int .u8 a1_0, .int .u8 a1_1, .int .u8 a1_2, .int .u8 a1_3, .int .u8 a1_4, .int .u8 a1_5] 50 (0, 0))) := ⟨by (with_reducible repeat (first | refine blk_drewN ?_ _ | refine blk_drew ?_ | refine blk_alloc ?_ _)); refine blk_far ?_ NB333_350.out _; (with_reducible repeat (first | refine blk_drewN ?_ _ | refine blk_drew ?_ | refine blk_alloc ?_ _)); refine blk_far ?_ NB333_350.out _; (with_reducible repeat (first | refine blk_drewN ?_ _ | refine blk_drew ?_ | refine blk_alloc ?_ _)); refine blk_far ?_ NB333_350.out _; (with_reducible repeat (first | refine blk_drewN ?_ _ | refine blk_drew ?_ | refine blk_alloc ?_ _)); exact BK333.out⟩
      have n3_ : Aside0 ((((w36.setCell ⟨gb350, 0, none⟩ (.int .i64 t344)).setCell ⟨gb350, 1, none⟩ (.int .i64 t345)).setCell ⟨gb350, 2, none⟩ (.slice Ao39 t346.length co39)).heap[gb350]? = some (.cells #[.int .i64 t344, .int .i64 t345, .slice Ao39 t346.length co39] 57 (0, 0))) := ⟨by (with_reducible repeat (first | refine blk_drewN ?_ _ | refine blk_drew ?_ | refine blk_alloc ?_ _)); refine blk_put (cs := #[.int .i64 t344, .int .i64 t345, .slice none 0 0]) ?_ 2 _ rfl; (with_reducible repeat (first | refine blk_drewN ?_ _ | refine blk_drew ?_ | refine blk_alloc ?_ _)); refine blk_put (cs := #[.int .i64 t344, .int .i64 0, .slice none 0 0]) ?_ 1 _ rfl; (with_reducible repeat (first | refine blk_drewN ?_ _ | refine blk_drew ?_ | refine blk_alloc ?_ _)); refine blk_put (cs := #[.int .i64 0, .int .i64 0, .slice none 0 0]) ?_ 0 _ rfl; (with_reducible repeat (first | refine blk_drewN ?_ _ | refine blk_drew ?_ | refine blk_alloc ?_ _)); exact BK350.out⟩
      have n4_ : Aside0 (Below w.heap.size w (((w36.setCell ⟨gb350, 0, none⟩ (.int .i64 t344)).setCell ⟨gb350, 1, none⟩ (.int .i64 t345)).setCell ⟨gb350, 2, none⟩ (.slice Ao39 t346.length co39))) := ⟨by repeat (first | (with_reducible first | exact HB.out | apply below_alloc | apply pw_below_drewN | apply below_drew1 | refine below_set ?_ GE333.out | refine below_set ?_ GE350.out) | exact HB.out)⟩
      (try clear HO337)
      (try clear HO348)
      (try clear BK333)
      (try clear BK350)
      (try clear HB)
      generalize (((w36.setCell ⟨gb350, 0, none⟩ (.int .i64 t344)).setCell ⟨gb350, 1, none⟩ (.int .i64 t345)).setCell ⟨gb350, 2, none⟩ (.slice Ao39 t346.length co39)) = w40 at n0_ n1_ n2_ n3_ n4_ ⊢
      have HO337 := n0_
      have HO348 := n1_
      have BK333 := n2_
      have BK350 := n3_
      have HB := n4_
      clear n0_ n1_ n2_ n3_ n4_
      have n0_ := Aside0.mk (Kd.R_drew HO337.out)
      have n1_ := Aside0.mk (Kd.R_drew HO348.out)
      have n2_ := Aside0.mk (blk_drew BK333.out)
      have n3_ := Aside0.mk (blk_drew BK350.out)
      have n4_ := Aside0.mk (below_drew1 HB.out)
      clear HO337
      clear HO348
      clear BK333
      clear BK350
      clear HB
      have HO337 := n0_
      have HO348 := n1_
      have BK333 := n2_
      have BK350 := n3_
      have HB := n4_
      clear n0_ n1_ n2_ n3_ n4_
      refine start_ (n := 11) (S := fun w' => True) (ds := []) #[false, false, false, false, false, false, false, false, false, false, false] (by kernel_rfl) rfl rfl trivial (fun hHeld => ?_); refine with_tabW punchcutlaw10_SdfMake.tab5 punchcutlaw10_SdfMake.bits5 (fun HT_ HW_ => ?_)
      generalize w40.drew = w41 at HO337 HO348 BK333 BK350 HB hHeld ⊢
      refine pure_ (i := 0) (N := some 19) (v := ?_) (a' := ?_) #[true, false, false, false, false, false, false, false, false, false, false] rfl rfl (any_of HT_.out (by kernel_rfl)) (fun _ _ _ h => h) (Or.inl ⟨by rfl, ?_⟩) ?_ ?_
      rotate_left
      · intro w'
        go_simp
        with_reducible rfl
      rotate_left
      · simp only [Act.put, List.setIfInBounds_toArray, List.set_cons_zero, List.set_cons_succ, i64_w, i32_w]
        rfl
      refine pure_ (i := 1) (N := some 20) (v := ?_) (a' := ?_) #[true, true, false, false, false, false, false, false, false, false, false] rfl rfl (any_of HT_.out (by kernel_rfl)) (fun _ _ _ h => h) (Or.inl ⟨by rfl, ?_⟩) ?_ ?_
      rotate_left
      · intro w'
        go_simp
        with_reducible rfl
      rotate_left
      · simp only [Act.put, List.setIfInBounds_toArray, List.set_cons_zero, List.set_cons_succ, i64_w, i32_w]
        rfl
      refine pure_ (i := 2) (N := some 21) (v := ?_) (a' := ?_) #[true, true, true, false, false, false, false, false, false, false, false] rfl rfl (any_of HT_.out (by kernel_rfl)) (fun _ _ _ h => h) (Or.inl ⟨by rfl, ?_⟩) ?_ ?_
      rotate_left
      · intro w'
        go_simp
        with_reducible rfl
      rotate_left
      · simp only [Act.put, List.setIfInBounds_toArray, List.set_cons_zero, List.set_cons_succ, i64_w, i32_w]
        rfl
      refine pure_ (i := 3) (N := some 22) (v := undef) (a' := ?_) #[true, true, true, true, false, false, false, false, false, false, false] rfl rfl (any_of HT_.out (by kernel_rfl)) (fun _ _ _ h => h) (Or.inr ⟨by rfl, rfl⟩) ?_ ?_
      rotate_left
      · simp only [Act.put, List.setIfInBounds_toArray, List.set_cons_zero, List.set_cons_succ, i64_w, i32_w]
        rfl
      refine pure_ (i := 4) (N := some 23) (v := undef) (a' := ?_) #[true, true, true, true, true, false, false, false, false, false, false] rfl rfl (any_of HT_.out (by kernel_rfl)) (fun _ _ _ h => h) (Or.inr ⟨by rfl, rfl⟩) ?_ ?_
      rotate_left
      · simp only [Act.put, List.setIfInBounds_toArray, List.set_cons_zero, List.set_cons_succ, i64_w, i32_w]
        rfl
      refine pure_ (i := 5) (N := some 24) (v := undef) (a' := ?_) #[true, true, true, true, true, true, false, false, false, false, false] rfl rfl (any_of HT_.out (by kernel_rfl)) (fun _ _ _ h => h) (Or.inr ⟨by rfl, rfl⟩) ?_ ?_
      rotate_left
      · simp only [Act.put, List.setIfInBounds_toArray, List.set_cons_zero, List.set_cons_succ, i64_w, i32_w]
        rfl
      refine pure_ (i := 6) (N := some 25) (v := undef) (a' := ?_) #[true, true, true, true, true, true, true, false, false, false, false] rfl rfl (any_of HT_.out (by kernel_rfl)) (fun _ _ _ h => h) (Or.inr ⟨by rfl, rfl⟩) ?_ ?_
      rotate_left
      · simp only [Act.put, List.setIfInBounds_toArray, List.set_cons_zero, List.set_cons_succ, i64_w, i32_w]
        rfl
      refine pure_ (i := 7) (N := some 26) (v := undef) (a' := ?_) #[true, true, true, true, true, true, true, true, false, false, false] rfl rfl (any_of HT_.out (by kernel_rfl)) (fun _ _ _ h => h) (Or.inr ⟨by rfl, rfl⟩) ?_ ?_
      rotate_left
      · simp only [Act.put, List.setIfInBounds_toArray, List.set_cons_zero, List.set_cons_succ, i64_w, i32_w]
        rfl
      refine pure_ (i := 8) (N := some 27) (v := undef) (a' := ?_) #[true, true, true, true, true, true, true, true, true, false, false] rfl rfl (any_of HT_.out (by kernel_rfl)) (fun _ _ _ h => h) (Or.inr ⟨by rfl, rfl⟩) ?_ ?_
      rotate_left
      · simp only [Act.put, List.setIfInBounds_toArray, List.set_cons_zero, List.set_cons_succ, i64_w, i32_w]
        rfl
      refine pure_ (i := 9) (N := some 28) (v := ?_) (a' := ?_) #[true, true, true, true, true, true, true, true, true, true, false] rfl rfl (any_of HT_.out (by kernel_rfl)) (fun _ _ _ h => h) (Or.inl ⟨by rfl, ?_⟩) ?_ ?_
      rotate_left
      · intro w'
        go_simp
        with_reducible rfl
      rotate_left
      · simp only [Act.put, List.setIfInBounds_toArray, List.set_cons_zero, List.set_cons_succ, i64_w, i32_w]
        rfl
      refine pure_ (i := 10) (N := some 4) (v := ?_) (a' := ?_) #[true, true, true, true, true, true, true, true, true, true, true] rfl rfl (any_of HT_.out (by kernel_rfl)) (fun _ _ _ h => h) (Or.inl ⟨by rfl, ?_⟩) ?_ ?_
      rotate_left
      · intro w'
        go_simp
        with_reducible rfl
      rotate_left
      · simp only [Act.put, List.setIfInBounds_toArray, List.set_cons_zero, List.set_cons_succ, i64_w, i32_w]
        rfl
      refine done_ (done_of HT_.out (by kernel_rfl)) ?_
      try go_wp2
      go_ret
      exact ⟨by first | rfl | (simp [errW_none, errW_some] <;> rfl) | (simp [*, errW_none, errW_some] <;> rfl), by repeat (first | (with_reducible first | exact HB.out | apply below_alloc | apply pw_below_drewN | apply below_drew1 | refine below_set ?_ GE333.out | refine below_set ?_ GE350.out) | exact HB.out)⟩
  · replace c4 := Bool.eq_false_iff.mpr c4
    subst c4
    have H1 : (some false) = some r := by rw [if_neg (show ¬ (false = true) by decide)] at H; exact H
    clear H
    have H := H1
    clear H1
    obtain rfl := Option.some.inj H
    go_enter Try.func7, Try.ntmps7
    go_wp2_with (first | ((with_reducible refine gate_dst (N := 3) rfl ?_); refine box_event ?hg (N := 3) ?hd (cs := #[.int .u8 a1_0, .int .u8 a1_1, .int .u8 a1_2, .int .u8 a1_3, .int .u8 a1_4, .int .u8 a1_5]) (t := 50) ?hr ?_; (case hd => rfl); (case hg => rfl); (case hr => first | (go_simp; done) | (go_simp; rfl)); intro gb333 hg w42 hbox hb; have n0_ := Aside0.mk (below_step (by repeat (first | (with_reducible first | exact HB.out | apply below_alloc | apply pw_below_drewN | apply below_drew1) | exact HB.out)) hb); have n1_ := Aside0.mk (hbox); have n2_ := Aside0.mk ((by rw [hg]; exact (below_size (by repeat (first | (with_reducible first | exact HB.out | apply below_alloc | apply pw_below_drewN | apply below_drew1) | exact HB.out))) : w.heap.size ≤ gb333)); have n3_ := Aside0.mk ((by rw [hg]; exact (below_size (by repeat (first | (with_reducible first | exact HB.out | apply below_alloc | apply pw_below_drewN | apply below_drew1) | exact HB.out))) : w.heap.size ≤ gb333)); clear HB; have HB := n0_; have BK333 := n1_; have GW333 := n2_; have GE333 := n3_; clear n0_ n1_ n2_ n3_; clear hb hbox hg) | ((with_reducible refine gate_callee (f := 34) rfl ?_); refine goesL_ (some 8) rfl rfl Try.func34 (by kernel_rfl) rfl #[] rfl (by (try simp only [List.map_toArray, List.map_cons, List.map_nil]); first | done | rfl | (simp only [List.length_drop, List.length_take]; rfl)) ?_; (with_reducible refine (punchcutlaw10_awake.calls k  false _ A3.out).mono ?_); rintro e w43 ⟨rfl, hb⟩; refine ⟨_, rfl, ?_⟩; have n0_ := Aside0.mk (blk_below (g := gb333) (o := .cells #[.int .u8 a1_0, .int .u8 a1_1, .int .u8 a1_2, .int .u8 a1_3, .int .u8 a1_4, .int .u8 a1_5] 50 (0, 0)) (by (with_reducible repeat (first | refine blk_drewN ?_ _ | refine blk_drew ?_ | refine blk_alloc ?_ _)); exact BK333.out) hb); have n1_ := Aside0.mk (below_step (by repeat (first | (with_reducible first | exact HB.out | apply below_alloc | apply pw_below_drewN | apply below_drew1 | refine below_set ?_ GE333.out) | exact HB.out)) hb); clear BK333; clear HB; have BK333 := n0_; have HB := n1_; clear n0_ n1_; (try clear hb); (try clear hb2); (try clear hk); (try clear hi)))
    go_ret
    exact ⟨by first | rfl | (simp [errW_none, errW_some] <;> rfl) | (simp [*, errW_none, errW_some] <;> rfl), by repeat (first | (with_reducible first | exact HB.out | apply below_alloc | apply pw_below_drewN | apply below_drew1 | refine below_set ?_ GE333.out) | exact HB.out)⟩
end Go.Proofs.Ytlljpjbhndcaiaa.Q
end
section
set_option linter.unusedVariables false
set_option linter.unusedSimpArgs false
namespace Go.Proofs.Ytlljpjbhndcaiaa.M
open Go.RowKit Go.Proofs.Ytlljpjbhndcaiaa.Q Go.Proofs.YtlljpjbhndcaiaaW.PrintWords Go.Proofs.YtlljpjbhndcaiaaW.PrintLast Go.Proofs.YtlljpjbhndcaiaaW.PrintMore
def Ret {α : Type} (g : Nat → Option α) (r : α) : Prop := ∃ K, ∀ k, K ≤ k → g k = some r
theorem Ret.const {α : Type} {x : Option α} {r : α} (h : x = some r) : Ret (fun _ => x) r := ⟨0, fun _ _ => h⟩
theorem Ret.bind {α β : Type} {g : Nat → Option α} {h : Nat → α → Option β} {a : α} {r : β} (h1 : Ret g a) (h2 : Ret (fun k => h k a) r) : Ret (fun k => (g k).bind (h k)) r := by
  obtain ⟨K1, h1⟩ := h1
  obtain ⟨K2, h2⟩ := h2
  refine ⟨max K1 K2, fun k hk => ?_⟩
  show (g k).bind (h k) = some r
  rw [h1 k (by omega)]
  exact h2 k (by omega)
theorem Ret.succ {α : Type} {g : Nat → Option α} {r : α} (h : Ret (fun k => g (k + 1)) r) : Ret g r := by
  obtain ⟨K, h⟩ := h
  refine ⟨K + 1, fun k hk => ?_⟩
  have := h (k - 1) (by omega)
  simp only [show k - 1 + 1 = k by omega] at this
  exact this
theorem Ret.of {α : Type} {g : Nat → Option α} {r : α} (h : Ret g r) : ∃ k, g k = some r := by
  obtain ⟨K, h⟩ := h
  exact ⟨K, h K (Nat.le_refl _)⟩
theorem Ret.unique {α : Type} {g : Nat → Option α} {r s : α} (h : Ret g r) (h' : Ret g s) : r = s := by
  obtain ⟨K, h⟩ := h
  obtain ⟨K', h'⟩ := h'
  have a := h (max K K') (by omega)
  have b := h' (max K K') (by omega)
  rw [a] at b
  exact Option.some.inj b
theorem Ret.congr {α : Type} {g g' : Nat → Option α} {r : α} (h : Ret g r) (e : ∀ k, g' k = g k) : Ret g' r := by
  obtain ⟨K, h⟩ := h
  exact ⟨K, fun k hk => (e k).trans (h k hk)⟩
theorem w64 {n : Int} (h : -9223372036854775808 ≤ n) (h' : n ≤ 9223372036854775807) : wrap64 n = n := by unfold wrap64; omega
theorem wu64 (n : Int) : IntKind.u64.wrap n = n % 18446744073709551616 := by simp [IntKind.wrap, IntKind.bits, IntKind.signed]
theorem wu64_in (n : Int) (h0 : 0 ≤ n) (h1 : n < 2 ^ 64) : IntKind.u64.wrap n = n := by rw [wu64]; omega
theorem and_low (a : Int) (h0 : 0 ≤ a) (h1 : a < 18446744073709551616) : Go.bits .and .u64 a 4294967295 = a % 4294967296 :=
  bits_mask .u64 64 (by decide) wu64_in 32 (by decide) a h0 (by omega)
theorem and_one (a : Int) (h0 : 0 ≤ a) (h1 : a < 18446744073709551616) : Go.bits .and .u64 a 1 = a % 2 :=
  bits_mask .u64 64 (by decide) wu64_in 1 (by decide) a h0 (by omega)
theorem mul_bound {a b n m : Int} (ha0 : 0 ≤ a) (ha : a ≤ n) (hb0 : 0 ≤ b) (hb : b ≤ m) : 0 ≤ a * b ∧ a * b ≤ n * m :=
  ⟨Int.mul_nonneg ha0 hb0, Int.mul_le_mul ha hb hb0 (by omega)⟩
theorem mul_eq (a b : Int) (ha0 : 0 ≤ a) (ha : a < 18446744073709551616) (hb0 : 0 ≤ b) (hb : b < 18446744073709551616) :
    wide_Mul.f a b = some ((a * b) / 18446744073709551616, (a * b) % 18446744073709551616) := by
  unfold wide_Mul.f
  rw [and_low a ha0 ha, and_low b hb0 hb]
  obtain ⟨x, hx⟩ : ∃ x, a / 4294967296 = x := ⟨_, rfl⟩
  obtain ⟨y, hy⟩ : ∃ y, a % 4294967296 = y := ⟨_, rfl⟩
  obtain ⟨u, hu⟩ : ∃ u, b / 4294967296 = u := ⟨_, rfl⟩
  obtain ⟨v, hv⟩ : ∃ v, b % 4294967296 = v := ⟨_, rfl⟩
  rw [hx, hy, hu, hv]
  have ea : a = x * 4294967296 + y := by omega
  have eb : b = u * 4294967296 + v := by omega
  have e : a * b = x * u * 18446744073709551616 + (x * v + y * u) * 4294967296 + y * v := by rw [ea, eb]; grind
  have h1 := mul_bound (a := x) (b := u) (n := 4294967295) (m := 4294967295) (by omega) (by omega) (by omega) (by omega)
  have h2 := mul_bound (a := x) (b := v) (n := 4294967295) (m := 4294967295) (by omega) (by omega) (by omega) (by omega)
  have h3 := mul_bound (a := y) (b := u) (n := 4294967295) (m := 4294967295) (by omega) (by omega) (by omega) (by omega)
  have h4 := mul_bound (a := y) (b := v) (n := 4294967295) (m := 4294967295) (by omega) (by omega) (by omega) (by omega)
  rw [e]
  generalize x * u = p at *
  generalize x * v = q at *
  generalize y * u = r at *
  generalize y * v = s at *
  clear e ea eb hx hy hu hv ha hb ha0 hb0
  simp only [wu64]
  have m1 : Go.bits .and .u64 (q % 18446744073709551616) 4294967295 = (q % 18446744073709551616) % 4294967296 := and_low _ (by omega) (by omega)
  have m2 : Go.bits .and .u64 (r % 18446744073709551616) 4294967295 = (r % 18446744073709551616) % 4294967296 := and_low _ (by omega) (by omega)
  rw [m1, m2]
  congr 2 <;> omega
theorem pair_compare (a b c d : Int) : Ret (fun k => wide_Pair_Compare.f k a b c d) (if a < c ∨ (a = c ∧ b < d) then -1 else if a = c ∧ b = d then 0 else 1) := by
  refine ⟨1, fun k hk => ?_⟩
  obtain ⟨k, rfl⟩ : ∃ j, k = j + 1 := ⟨k - 1, by omega⟩
  unfold wide_Pair_Compare.f
  by_cases h1 : a < c
  · simp [h1, wide_Pair_Compare.j0]
  · by_cases h2 : a = c
    · subst h2
      by_cases h3 : b < d
      · simp [h3, wide_Pair_Compare.j0]
      · by_cases h4 : b = d
        · subst h4
          simp [wide_Pair_Compare.j0]
        · simp [h3, h4, wide_Pair_Compare.j0]
    · simp [h1, h2, wide_Pair_Compare.j0]
def cmp (x y : Int) : Int := if x < y then -1 else if x = y then 0 else 1
theorem less_eq (a b c d : Int) (ha0 : 0 ≤ a) (ha : a < 9223372036854775808) (hb0 : 0 ≤ b) (hb : b < 9223372036854775808) (hc0 : 0 ≤ c) (hc : c < 9223372036854775808) (hd0 : 0 ≤ d) (hd : d < 9223372036854775808) :
    Ret (fun k => root_Compare.f k a b c d) (cmp (a * d) (c * b)) := by
  unfold root_Compare.f wide_Less.f
  simp only [wu64]
  rw [Int.emod_eq_of_lt ha0 (by omega), Int.emod_eq_of_lt hb0 (by omega), Int.emod_eq_of_lt hc0 (by omega), Int.emod_eq_of_lt hd0 (by omega), mul_eq a d ha0 (by omega) hd0 (by omega), mul_eq c b hc0 (by omega) hb0 (by omega)]
  refine Ret.bind (a := cmp (a * d) (c * b)) ?_ (Ret.const rfl)
  refine Ret.bind (Ret.const rfl) ?_
  refine Ret.bind (Ret.const rfl) ?_
  refine Ret.bind (pair_compare _ _ _ _) (Ret.const ?_)
  congr 1
  unfold cmp
  generalize a * d = m
  generalize c * b = n
  repeat' split
  all_goals omega
theorem div_l0 (hi lo d : Int) (hd : d < 18446744073709551616) (hlo0 : 0 ≤ lo) (hlo : lo < 18446744073709551616) :
    ∀ (j : Nat) (V t q r : Int), j ≤ 64 → t = q * d + r → 0 ≤ r → r < d → 0 ≤ q → V = t * 2 ^ j + lo % 2 ^ j → q * 2 ^ j + 2 ^ j ≤ 18446744073709551616 →
    Ret (fun k => wide_Pair_Div.l0 k d (q * 2 ^ j) r ((j : Int) - 1) hi lo) (V / d, V % d, 0) := by
  intro j
  induction j with
  | zero =>
    intro V t q r _ ht hr0 hr hq hV _
    refine Ret.succ (Ret.const ?_)
    simp only [Int.pow_zero, Int.mul_one, Int.emod_one, Int.add_zero] at hV ⊢
    subst hV ht
    have e1 : (q * d + r) / d = q := by
      rw [Int.add_comm, Int.add_mul_ediv_right _ _ (by omega), Int.ediv_eq_zero_of_lt hr0 hr]; omega
    have e2 : (q * d + r) % d = r := by
      rw [Int.add_comm, Int.add_mul_emod_self_right, Int.emod_eq_of_lt hr0 hr]
    rw [e1, e2]
  | succ j ih =>
    intro V t q r hj ht hr0 hr hq hV hb
    have hP : (1 : Int) ≤ 2 ^ j := by
      have := Int.pow_pos (n := 2) (m := j) (by omega)
      omega
    have e2 : (2 : Int) ^ (j + 1) = 2 * 2 ^ j := by rw [Int.pow_succ]; omega
    have hP64 : (2 : Int) ^ j ≤ 9223372036854775808 := by
      have : (2 : Nat) ^ j ≤ 2 ^ 63 := Nat.pow_le_pow_right (by omega) (by omega)
      have h2 : ((2 ^ j : Nat) : Int) ≤ ((2 ^ 63 : Nat) : Int) := by exact_mod_cast this
      simpa using h2
    have hs : shr .u64 lo (((j + 1 : Nat) : Int) - 1) = lo / 2 ^ j := by
      unfold shr
      rw [show (((j + 1 : Nat) : Int) - 1).toNat = j by omega, Nat.min_eq_left (by show j ≤ 64; omega)]
    have hl : shl .u64 1 (((j + 1 : Nat) : Int) - 1) = 2 ^ j := by
      unfold shl
      rw [show (((j + 1 : Nat) : Int) - 1).toNat = j by omega, Nat.min_eq_left (by show j ≤ 64; omega), wu64, Int.one_mul]
      exact Int.emod_eq_of_lt (by omega) (by omega)
    have hd0 : 0 ≤ lo / 2 ^ j := Int.ediv_nonneg hlo0 (by omega)
    have hd1 : lo / 2 ^ j ≤ lo := Int.ediv_le_self _ hlo0
    have hbit : Go.bits .and .u64 (lo / 2 ^ j) 1 = (lo / 2 ^ j) % 2 := and_one _ hd0 (by omega)
    have hmod : lo % 2 ^ (j + 1) = (lo / 2 ^ j % 2) * 2 ^ j + lo % 2 ^ j := by
      have h1 := Int.mul_ediv_add_emod lo (2 ^ j)
      have h2 := Int.emod_nonneg lo (show (2 : Int) ^ j ≠ 0 by omega)
      have h3 := Int.emod_lt_of_pos lo (show (0 : Int) < 2 ^ j by omega)
      have h4 := Int.mul_ediv_add_emod (lo / 2 ^ j) 2
      generalize lo / 2 ^ j = m at *
      generalize lo % 2 ^ j = n at *
      have h5 : 0 ≤ m % 2 ∧ m % 2 ≤ 1 := by omega
      generalize m % 2 = b at *
      generalize m / 2 = c at *
      rw [e2, ← h1, ← h4]
      generalize (2 : Int) ^ j = P at *
      have e : P * (2 * c + b) + n = (b * P + n) + (2 * P) * c := by grind
      rw [e, Int.add_mul_emod_self_left]
      have h6 : 0 ≤ b * P ∧ b * P ≤ 1 * P := mul_bound h5.1 h5.2 (by omega) (Int.le_refl _)
      exact Int.emod_eq_of_lt (by omega) (by omega)
    obtain ⟨b, hbb⟩ : ∃ b, lo / 2 ^ j % 2 = b := ⟨_, rfl⟩
    have hb01 : 0 ≤ b ∧ b ≤ 1 := by omega
    have hor : Go.bits .or .u64 (IntKind.u64.wrap (r * 2)) b = (r * 2) % 18446744073709551616 + b := by
      rw [wu64]
      exact bits_join .u64 64 (by decide) wu64_in 1 _ _ (by omega) (by omega) (by omega) (by omega) (by omega) (by omega)
    have hqP : 0 ≤ q * 2 ^ j := Int.mul_nonneg hq (by omega)
    have hout : Go.bits .or .u64 (q * 2 ^ (j + 1)) (2 ^ j) = (2 * q + 1) * 2 ^ j := by
      have h := bits_join .u64 64 (by decide) wu64_in (j + 1) (q * 2 ^ (j + 1)) (2 ^ j) (by rw [e2]; grind) (by simp) (by omega) (by omega) (by rw [e2]; omega) (by omega)
      rw [h, e2]
      grind
    refine Ret.succ ?_
    refine Ret.congr (g := fun k => if d ≤ 2 * r + b then wide_Pair_Div.l0 k d ((2 * q + 1) * 2 ^ j) (2 * r + b - d) ((j : Int) - 1) hi lo else wide_Pair_Div.l0 k d ((2 * q) * 2 ^ j) (2 * r + b) ((j : Int) - 1) hi lo) ?_ ?_
    · by_cases hc : d ≤ 2 * r + b
      · simp only [if_pos hc]
        refine ih V (2 * t + b) (2 * q + 1) (2 * r + b - d) (by omega) (by rw [ht]; grind) (by omega) (by omega) (by omega) ?_ ?_
        · rw [hV, hmod, e2, hbb]; grind
        · have : (2 * q + 1) * 2 ^ j + 2 ^ j = q * 2 ^ (j + 1) + 2 ^ (j + 1) := by rw [e2]; grind
          omega
      · simp only [if_neg hc]
        refine ih V (2 * t + b) (2 * q) (2 * r + b) (by omega) (by rw [ht]; grind) (by omega) (by omega) (by omega) ?_ ?_
        · rw [hV, hmod, e2, hbb]; grind
        · have : 2 * q * 2 ^ j + 2 ^ j + 2 ^ j = q * 2 ^ (j + 1) + 2 ^ (j + 1) := by rw [e2]; grind
          omega
    · intro k
      show wide_Pair_Div.l0 (k + 1) d (q * 2 ^ (j + 1)) r (((j + 1 : Nat) : Int) - 1) hi lo = _
      rw [wide_Pair_Div.l0, if_pos (by omega), if_pos (by omega), hs, hl, hbit, hbb, hor, hout, wu64]
      have ej : wrap64 ((((j + 1 : Nat) : Int) - 1) - 1) = (j : Int) - 1 := by unfold wrap64; omega
      rw [ej]
      by_cases ht : r / 9223372036854775808 = 1
      · rw [if_pos ht, if_pos (by omega)]
        congr 1
        omega
      · rw [if_neg ht]
        have e3 : (r * 2) % 18446744073709551616 + b = 2 * r + b := by omega
        rw [e3]
        by_cases hc : d ≤ 2 * r + b
        · rw [if_pos hc, if_pos hc]
          congr 1
          omega
        · rw [if_neg hc, if_neg hc, e2]
          congr 1
          grind
theorem div_eq (hi lo d : Int) (hh0 : 0 ≤ hi) (hh : hi < d) (hd : d < 18446744073709551616) (hlo0 : 0 ≤ lo) (hlo : lo < 18446744073709551616) :
    Ret (fun k => wide_Pair_Div.f k hi lo d) ((hi * 18446744073709551616 + lo) / d, (hi * 18446744073709551616 + lo) % d, 0) := by
  have h := div_l0 hi lo d hd hlo0 hlo 64 (hi * 18446744073709551616 + lo) hi 0 hi (Nat.le_refl _) (by omega) hh0 hh (by omega) (by omega) (by omega)
  refine Ret.congr h fun k => ?_
  show wide_Pair_Div.f k hi lo d = _
  unfold wide_Pair_Div.f
  rw [if_neg (by omega)]
  simp
end Go.Proofs.Ytlljpjbhndcaiaa.M
end
section
set_option linter.unusedVariables false
set_option linter.unusedSimpArgs false
namespace Go.Proofs.Ytlljpjbhndcaiaa.M
open Go.RowKit Go.Proofs.Ytlljpjbhndcaiaa.Q Go.Proofs.YtlljpjbhndcaiaaW.PrintWords Go.Proofs.YtlljpjbhndcaiaaW.PrintLast Go.Proofs.YtlljpjbhndcaiaaW.PrintMore
theorem sqrt_l0 (n : Int) (hn0 : 0 ≤ n) (hn : n < 9223372036854775808) : ∀ (m : Nat) (lo hi : Int), (hi - lo).toNat ≤ m → 0 ≤ lo → lo < hi → hi ≤ 3037000500 → lo * lo ≤ n → n < hi * hi →
    ∃ s, 0 ≤ s ∧ s * s ≤ n ∧ n < (s + 1) * (s + 1) ∧ Ret (fun k => root_Sqrt.l0 k n lo hi) s := by
  intro m
  induction m with
  | zero => intro lo hi h1 h2 h3; omega
  | succ m ih =>
    intro lo hi h1 h2 h3 h4 h5 h6
    by_cases hz : n > 0 ∧ lo < hi - 1
    · obtain ⟨mid, hm⟩ : ∃ mid, Int.tdiv (lo + hi) 2 = mid := ⟨_, rfl⟩
      have hmid : mid = (lo + hi) / 2 := by rw [← hm, Int.tdiv_eq_ediv_of_nonneg (by omega)]
      have hsq : 0 ≤ mid * mid ∧ mid * mid ≤ 3037000499 * 3037000499 := mul_bound (by omega) (by omega) (by omega) (by omega)
      have step : ∀ k, root_Sqrt.l0 (k + 1 + 1) n lo hi = if mid * mid ≤ n then root_Sqrt.l0 k n mid hi else root_Sqrt.l0 k n lo mid := by
        intro k
        rw [root_Sqrt.l0, if_pos hz.1, w64 (n := hi - 1) (by omega) (by omega), root_Sqrt.j1, decide_eq_true hz.2, if_pos rfl, w64 (n := lo + hi) (by omega) (by omega), hm, w64 (n := mid) (by omega) (by omega), w64 (n := mid * mid) (by omega) (by omega)]
      by_cases hc : mid * mid ≤ n
      · obtain ⟨s, s0, s1, s2, hr⟩ := ih mid hi (by omega) (by omega) (by omega) h4 hc h6
        refine ⟨s, s0, s1, s2, Ret.succ (Ret.succ (Ret.congr hr fun k => ?_))⟩
        rw [step, if_pos hc]
      · obtain ⟨s, s0, s1, s2, hr⟩ := ih lo mid (by omega) (by omega) (by omega) (by omega) h5 (by omega)
        refine ⟨s, s0, s1, s2, Ret.succ (Ret.succ (Ret.congr hr fun k => ?_))⟩
        rw [step, if_neg hc]
    · have fin : ∀ k, root_Sqrt.l0 (k + 1 + 1) n lo hi = some lo := by
        intro k
        rw [root_Sqrt.l0]
        by_cases hn1 : n > 0
        · rw [if_pos hn1, w64 (by omega) (by omega), decide_eq_false (by omega), root_Sqrt.j1, if_neg (by simp)]
        · rw [if_neg hn1, root_Sqrt.j1, if_neg (by simp)]
      refine ⟨lo, h2, h5, ?_, Ret.succ (Ret.succ (Ret.congr (Ret.const rfl) fin))⟩
      · by_cases hn1 : n > 0
        · have : hi = lo + 1 := by omega
          rw [← this]; exact h6
        · have : n = 0 := by omega
          have := Int.mul_pos (a := lo + 1) (b := lo + 1) (by omega) (by omega)
          omega
theorem sqrt_eq (n : Int) (hn0 : 0 ≤ n) (hn : n < 9223372036854775808) : ∃ s, 0 ≤ s ∧ s * s ≤ n ∧ n < (s + 1) * (s + 1) ∧ Ret (fun k => root_Sqrt.f k n) s := by
  obtain ⟨s, h0, h1, h2, hr⟩ := sqrt_l0 n hn0 hn _ 0 3037000500 (Nat.le_refl _) (by omega) (by omega) (by omega) (by omega) (by omega)
  exact ⟨s, h0, h1, h2, hr⟩
theorem of_l0 (num den : Int) (hn0 : 0 ≤ num) (hn : num < 9223372036854775808) (hd0 : 1 ≤ den) (hd : den < 9223372036854775808) : ∀ (m : Nat) (a b : Int), b.toNat ≤ m → 0 ≤ a → 0 ≤ b → a + b ≥ 1 → a < 9223372036854775808 → b < 9223372036854775808 →
    (∀ g, g ∣ a → g ∣ b → g ∣ num ∧ g ∣ den) →
    ∃ g n' d', 1 ≤ g ∧ num = n' * g ∧ den = d' * g ∧ Ret (fun k => root_Of.l0 k num den a b) (n', d', 0) := by
  intro m
  induction m with
  | zero =>
    intro a b hm ha hb hab ha1 hb1 hg
    obtain rfl : b = 0 := by omega
    obtain ⟨⟨n', hn'⟩, ⟨d', hd'⟩⟩ := hg a (Int.dvd_refl _) (Int.dvd_zero _)
    refine ⟨a, n', d', by omega, by rw [hn']; grind, by rw [hd']; grind, Ret.succ (Ret.const (?_ : root_Of.l0 (0 + 1) num den a 0 = _))⟩
    have e1 : Int.tdiv num a = n' := by rw [hn', Int.mul_tdiv_cancel_left _ (by omega)]
    have e2 : Int.tdiv den a = d' := by rw [hd', Int.mul_tdiv_cancel_left _ (by omega)]
    have b1 : 0 ≤ n' := by rw [← e1]; exact Int.tdiv_nonneg hn0 ha
    have b2 : 0 ≤ d' := by rw [← e2]; exact Int.tdiv_nonneg (by omega) ha
    have b3 : n' ≤ num := by rw [← e1, Int.tdiv_eq_ediv_of_nonneg hn0]; exact Int.ediv_le_self _ hn0
    have b4 : d' ≤ den := by rw [← e2, Int.tdiv_eq_ediv_of_nonneg (by omega)]; exact Int.ediv_le_self _ (by omega)
    rw [root_Of.l0, if_pos rfl, if_neg (by omega), e1, e2, w64 (by omega) (by omega), w64 (by omega) (by omega)]
  | succ m ih =>
    intro a b hm ha hb hab ha1 hb1 hg
    by_cases hz : b = 0
    · exact (by
        subst hz
        obtain ⟨⟨n', hn'⟩, ⟨d', hd'⟩⟩ := hg a (Int.dvd_refl _) (Int.dvd_zero _)
        refine ⟨a, n', d', by omega, by rw [hn']; grind, by rw [hd']; grind, Ret.succ (Ret.const (?_ : root_Of.l0 (0 + 1) num den a 0 = _))⟩
        have e1 : Int.tdiv num a = n' := by rw [hn', Int.mul_tdiv_cancel_left _ (by omega)]
        have e2 : Int.tdiv den a = d' := by rw [hd', Int.mul_tdiv_cancel_left _ (by omega)]
        have b1 : 0 ≤ n' := by rw [← e1]; exact Int.tdiv_nonneg hn0 ha
        have b2 : 0 ≤ d' := by rw [← e2]; exact Int.tdiv_nonneg (by omega) ha
        have b3 : n' ≤ num := by rw [← e1, Int.tdiv_eq_ediv_of_nonneg hn0]; exact Int.ediv_le_self _ hn0
        have b4 : d' ≤ den := by rw [← e2, Int.tdiv_eq_ediv_of_nonneg (by omega)]; exact Int.ediv_le_self _ (by omega)
        rw [root_Of.l0, if_pos rfl, if_neg (by omega), e1, e2, w64 (by omega) (by omega), w64 (by omega) (by omega)])
    · have e : Int.tmod a b = a % b := Int.tmod_eq_emod_of_nonneg ha
      have r0 := Int.emod_nonneg a hz
      have r1 := Int.emod_lt_of_pos a (show 0 < b by omega)
      obtain ⟨g, n', d', h1, h2, h3, hr⟩ := ih b (a % b) (by omega) hb r0 (by omega) hb1 (by omega) (fun g h1 h2 => hg g (by
        have := Int.mul_ediv_add_emod a b
        rw [← this]
        exact Int.dvd_add (Int.dvd_trans h1 (Int.dvd_mul_right _ _)) h2) h1)
      refine ⟨g, n', d', h1, h2, h3, Ret.succ (Ret.congr hr fun k => ?_)⟩
      rw [root_Of.l0, if_neg hz, e]
theorem of_eq (num den : Int) (hn0 : 0 ≤ num) (hn : num < 9223372036854775808) (hd0 : 1 ≤ den) (hd : den < 9223372036854775808) :
    ∃ g n' d', 1 ≤ g ∧ num = n' * g ∧ den = d' * g ∧ Ret (fun k => root_Of.f k num den) (n', d', 0) := by
  obtain ⟨g, n', d', h1, h2, h3, hr⟩ := of_l0 num den hn0 hn hd0 hd _ num den (Nat.le_refl _) hn0 (by omega) (by omega) hn hd (fun _ a b => ⟨a, b⟩)
  refine ⟨g, n', d', h1, h2, h3, Ret.succ (Ret.congr hr fun k => ?_)⟩
  unfold root_Of.f
  rw [if_neg (by omega), decide_eq_false (by omega), root_Of.j0, if_neg (by simp)]
def Root8 (num den v : Int) : Prop := 0 ≤ v ∧ v * v * den ≤ 64 * num ∧ 64 * num < (v + 1) * (v + 1) * den
theorem Root8.unique {num den v u : Int} (hd : 1 ≤ den) (h : Root8 num den v) (h' : Root8 num den u) : v = u := by
  obtain ⟨a0, a1, a2⟩ := h
  obtain ⟨b0, b1, b2⟩ := h'
  have key : ∀ a b : Int, 0 ≤ a → 0 ≤ b → a < b → (a + 1) * (a + 1) * den ≤ b * b * den := fun a b h0 h1 h => Int.mul_le_mul (Int.mul_le_mul (by omega) (by omega) (by omega) (by omega)) (Int.le_refl _) (by omega) (Int.mul_nonneg h1 h1)
  rcases Int.lt_trichotomy v u with h | h | h
  · have := key v u a0 b0 h; omega
  · exact h
  · have := key u v b0 a0 h; omega
theorem Root8.of_equal {n d n' d' v : Int} (hd : 1 ≤ d) (hd' : 1 ≤ d') (e : n * d' = n' * d) (h : Root8 n d v) : Root8 n' d' v := by
  obtain ⟨h0, h1, h2⟩ := h
  refine ⟨h0, ?_, ?_⟩
  · have a := Int.mul_le_mul_of_nonneg_right h1 (show 0 ≤ d' by omega)
    have e1 : 64 * n * d' = 64 * n' * d := by grind
    rw [e1] at a
    have b : v * v * d' * d ≤ 64 * n' * d := by
      have : v * v * d' * d = v * v * d * d' := by grind
      omega
    exact Int.le_of_mul_le_mul_right b (by omega)
  · have a := Int.mul_lt_mul_of_pos_right h2 (show 0 < d' by omega)
    have e1 : 64 * n * d' = 64 * n' * d := by grind
    rw [e1] at a
    have b : 64 * n' * d < (v + 1) * (v + 1) * d' * d := by
      have : (v + 1) * (v + 1) * d' * d = (v + 1) * (v + 1) * d * d' := by grind
      omega
    exact Int.lt_of_mul_lt_mul_right b (by omega)
theorem scaled_eq (num den : Int) (hn0 : 0 ≤ num) (hn : num < 9223372036854775808) (hd0 : 1 ≤ den) (hd : den < 9223372036854775808) (hq : num * 64 ≤ 4611686018427387904 * den) :
    ∃ v, Root8 num den v ∧ Ret (fun k => root_Scaled.f k num den 8) v := by
  have hq0 : 0 ≤ num * 64 / den := Int.ediv_nonneg (by omega) (by omega)
  have hq1 : num * 64 / den ≤ 4611686018427387904 := Int.ediv_le_of_le_mul (by omega) hq
  obtain ⟨s, s0, s1, s2, hs⟩ := sqrt_eq (num * 64 / den) hq0 (by omega)
  have e1 := Int.mul_ediv_add_emod (num * 64) den
  have e2 := Int.emod_nonneg (num * 64) (show den ≠ 0 by omega)
  have e3 := Int.emod_lt_of_pos (num * 64) (show 0 < den by omega)
  refine ⟨s, ⟨s0, ?_, ?_⟩, Ret.succ (Ret.congr (g := fun k => ((wide_Mul.f num 64).bind fun bt122 => ((wide_Pair_Div.f k bt122.1 bt122.2 den).bind fun bt124 => (if bt124.2.2 = 0 then (if bt124.1 > 4611686018427387904 then (some (-1)) else ((root_Sqrt.f k (wrap64 (bt124.1))).bind fun t127 => (some t127))) else (some (-1)))))) ?_ fun k => ?_)⟩
  · have := Int.mul_le_mul_of_nonneg_right s1 (show 0 ≤ den by omega)
    have e4 : num * 64 / den * den = den * (num * 64 / den) := Int.mul_comm _ _
    omega
  · have := Int.mul_le_mul_of_nonneg_right (show num * 64 / den + 1 ≤ (s + 1) * (s + 1) by omega) (show 0 ≤ den by omega)
    have e4 : (num * 64 / den + 1) * den = den * (num * 64 / den) + den := by grind
    omega
  · rw [mul_eq num 64 hn0 (by omega) (by omega) (by omega)]
    have eV : (num * 64) / 18446744073709551616 * 18446744073709551616 + (num * 64) % 18446744073709551616 = num * 64 := by omega
    have hD := div_eq ((num * 64) / 18446744073709551616) ((num * 64) % 18446744073709551616) den (by omega) (by omega) (by omega) (by omega) (by omega)
    rw [eV] at hD
    refine Ret.bind (Ret.const rfl) (Ret.bind hD ?_)
    simp only [if_true, if_neg (show ¬ (num * 64 / den > 4611686018427387904) by omega), w64 (n := num * 64 / den) (by omega) (by omega)]
    exact Ret.bind hs (Ret.const rfl)
  · unfold root_Scaled.f
    rw [if_neg (by omega), if_neg (by omega), if_neg (by omega), decide_eq_false (by omega), root_Scaled.j0, if_neg (by simp)]
    simp only [wu64]
    rw [Int.emod_eq_of_lt hn0 (by omega), Int.emod_eq_of_lt (a := den) (by omega) (by omega), show wrap64 (8 * 8) % 18446744073709551616 = 64 by unfold wrap64; omega]
end Go.Proofs.Ytlljpjbhndcaiaa.M
end
section
set_option linter.unusedVariables false
set_option linter.unusedSimpArgs false
namespace Go.Proofs.Ytlljpjbhndcaiaa.Geo
theorem sq_nonneg (a : Int) : 0 ≤ a * a := by
  rcases Int.le_total 0 a with h | h
  · exact Int.mul_nonneg h h
  · exact Int.mul_nonneg_of_nonpos_of_nonpos h h
theorem lt_of_sq {a b : Int} (h : 0 ≤ b) (hb : a * a < b * b) : a < b := by
  by_cases h1 : a < b
  · exact h1
  · have h3 : b * b ≤ a * b := Int.mul_le_mul_of_nonneg_right (by omega) h
    have h4 : a * b ≤ a * a := Int.mul_le_mul_of_nonneg_left (by omega) (by omega)
    omega
theorem lagrange (a b c d : Int) : (a*a+b*b)*(c*c+d*d) = (a*c+b*d)*(a*c+b*d) + (a*d-b*c)*(a*d-b*c) := by grind
theorem cs_lt {x1 x2 y1 y2 s t : Int} (hs : 0 ≤ s) (ht : 0 ≤ t) (h1 : x1*x1+x2*x2 < s*s) (h2 : y1*y1+y2*y2 < t*t) : x1*y1+x2*y2 < s*t := by
  have hl := lagrange x1 x2 y1 y2
  have a0 := sq_nonneg (x1*y2-x2*y1)
  have b0 := sq_nonneg x1; have b1 := sq_nonneg x2; have b2 := sq_nonneg y1; have b3 := sq_nonneg y2
  have h3 : (x1*x1+x2*x2)*(y1*y1+y2*y2) ≤ (x1*x1+x2*x2)*(t*t) := Int.mul_le_mul_of_nonneg_left (by omega) (by omega)
  have h4 : (x1*x1+x2*x2)*(t*t) < (s*s)*(t*t) := Int.mul_lt_mul_of_pos_right h1 (by omega)
  have h5 : (s*s)*(t*t) = (s*t)*(s*t) := by grind
  exact lt_of_sq (Int.mul_nonneg hs ht) (by omega)
theorem tri_lt {x1 x2 y1 y2 s t : Int} (hs : 0 ≤ s) (ht : 0 ≤ t) (h1 : x1*x1+x2*x2 < s*s) (h2 : y1*y1+y2*y2 < t*t) :
    (x1+y1)*(x1+y1)+(x2+y2)*(x2+y2) < (s+t)*(s+t) := by
  have h := cs_lt hs ht h1 h2
  have e1 : (x1+y1)*(x1+y1)+(x2+y2)*(x2+y2) = (x1*x1+x2*x2) + (y1*y1+y2*y2) + 2*(x1*y1+x2*y2) := by grind
  have e2 : (s+t)*(s+t) = s*s + t*t + 2*(s*t) := by grind
  omega
structure Pt where
  x : Int
  y : Int
structure Ed where
  a : Pt
  b : Pt
def Ed.wx (e : Ed) : Int := e.b.x - e.a.x
def Ed.wy (e : Ed) : Int := e.b.y - e.a.y
def Ed.long (e : Ed) : Int := e.wx * e.wx + e.wy * e.wy
def Ed.along (e : Ed) (p : Pt) : Int := e.wx * (p.x - e.a.x) + e.wy * (p.y - e.a.y)
def Ed.cr (e : Ed) (p : Pt) : Int := e.wx * (p.y - e.a.y) - e.wy * (p.x - e.a.x)
def dist2 (p q : Pt) : Int := (p.x - q.x) * (p.x - q.x) + (p.y - q.y) * (p.y - q.y)
def Ed.num (e : Ed) (p : Pt) : Int := if e.along p ≤ 0 then dist2 p e.a else if e.long ≤ e.along p then dist2 p e.b else e.cr p * e.cr p
def Ed.den (e : Ed) (p : Pt) : Int := if e.along p ≤ 0 then 1 else if e.long ≤ e.along p then 1 else e.long
theorem Ed.den_pos (e : Ed) (p : Pt) : 1 ≤ e.den p := by
  unfold Ed.den
  split
  · omega
  · split <;> omega
theorem dist2_nonneg (p q : Pt) : 0 ≤ dist2 p q := by
  have := sq_nonneg (p.x - q.x); have := sq_nonneg (p.y - q.y); unfold dist2; omega
theorem Ed.num_nonneg (e : Ed) (p : Pt) : 0 ≤ e.num p := by
  unfold Ed.num
  split
  · exact dist2_nonneg _ _
  · split
    · exact dist2_nonneg _ _
    · exact sq_nonneg _
theorem Ed.long_nonneg (e : Ed) : 0 ≤ e.long := by
  have := sq_nonneg e.wx; have := sq_nonneg e.wy; unfold Ed.long; omega
def Ed.at2 (e : Ed) (p : Pt) (k n : Int) : Int :=
  (n * (p.x - e.a.x) - k * e.wx) * (n * (p.x - e.a.x) - k * e.wx) + (n * (p.y - e.a.y) - k * e.wy) * (n * (p.y - e.a.y) - k * e.wy)
theorem Ed.at2_eq (e : Ed) (p : Pt) (k n : Int) : e.at2 p k n = n * n * dist2 p e.a - 2 * (n * k) * e.along p + k * k * e.long := by
  unfold Ed.at2 dist2 Ed.along Ed.long; grind
theorem Ed.dist_b (e : Ed) (p : Pt) : dist2 p e.b = dist2 p e.a - 2 * e.along p + e.long := by
  unfold dist2 Ed.along Ed.long Ed.wx Ed.wy; grind
theorem Ed.cross_eq (e : Ed) (p : Pt) : e.long * dist2 p e.a = e.along p * e.along p + e.cr p * e.cr p := by
  unfold dist2 Ed.along Ed.long Ed.cr; grind
theorem Ed.least (e : Ed) (p : Pt) (k n : Int) (h0 : 0 ≤ k) (h1 : k ≤ n) : e.num p * (n * n) ≤ e.den p * e.at2 p k n := by
  have hL := e.long_nonneg
  rw [e.at2_eq]
  unfold Ed.num Ed.den
  split
  · rename_i h
    have a1 : 0 ≤ n * k := Int.mul_nonneg (by omega) h0
    have a2 : 0 ≤ (n * k) * (- e.along p) := Int.mul_nonneg a1 (by omega)
    have a3 : 0 ≤ k * k * e.long := Int.mul_nonneg (Int.mul_nonneg h0 h0) hL
    grind
  · split
    · rename_i h h2
      rw [e.dist_b]
      have a1 : 0 ≤ (n - k) * n := Int.mul_nonneg (by omega) (by omega)
      have a2 : 0 ≤ ((n - k) * n) * (e.along p - e.long) := Int.mul_nonneg a1 (by omega)
      have a3 : 0 ≤ (n - k) * (n - k) * e.long := Int.mul_nonneg (sq_nonneg _) hL
      grind
    · rename_i h h2
      have hc := e.cross_eq p
      have a1 := sq_nonneg (n * e.along p - k * e.long)
      have e1 : e.long * (n * n * dist2 p e.a - 2 * (n * k) * e.along p + k * k * e.long) = n * n * (e.long * dist2 p e.a) - 2 * (n * k) * e.along p * e.long + k * k * (e.long * e.long) := by grind
      rw [e1, hc]
      grind
theorem Ed.there (e : Ed) (p : Pt) : ∃ k n : Int, 0 ≤ k ∧ k ≤ n ∧ 1 ≤ n ∧ e.num p * (n * n) = e.den p * e.at2 p k n := by
  by_cases h : e.along p ≤ 0
  · refine ⟨0, 1, by omega, by omega, by omega, ?_⟩
    rw [e.at2_eq]; unfold Ed.num Ed.den; rw [if_pos h, if_pos h]; grind
  · by_cases h2 : e.long ≤ e.along p
    · refine ⟨1, 1, by omega, by omega, by omega, ?_⟩
      rw [e.at2_eq]; unfold Ed.num Ed.den; rw [if_neg h, if_neg h, if_pos h2, if_pos h2, e.dist_b]; grind
    · refine ⟨e.along p, e.long, by omega, by omega, by omega, ?_⟩
      rw [e.at2_eq]; unfold Ed.num Ed.den; rw [if_neg h, if_neg h, if_neg h2, if_neg h2]
      have hc := e.cross_eq p
      grind
def Ed.lt8 (e : Ed) (p : Pt) (v : Int) : Prop := 64 * e.num p < v * v * e.den p
theorem Ed.step (e : Ed) (p q : Pt) (s t : Int) (hs : 0 ≤ s) (ht : 0 ≤ t) (h : e.lt8 p s) (hw : 64 * dist2 p q < t * t) : e.lt8 q (s + t) := by
  obtain ⟨k, n, h0, h1, h2, he⟩ := e.there p
  have hl := e.least q k n h0 h1
  have hd := e.den_pos p
  have hd' := e.den_pos q
  unfold Ed.lt8 at *
  have hnn : 0 < n * n := Int.mul_pos (by omega) (by omega)
  have b1 : 64 * e.at2 p k n < (s * n) * (s * n) := by
    have c1 : (64 * e.num p) * (n * n) < (s * s * e.den p) * (n * n) := Int.mul_lt_mul_of_pos_right h hnn
    have c2 : (64 * e.num p) * (n * n) = 64 * (e.den p * e.at2 p k n) := by rw [← he]; grind
    have c3 : e.den p * (64 * e.at2 p k n) < e.den p * ((s * n) * (s * n)) := by grind
    exact Int.lt_of_mul_lt_mul_left c3 (by omega)
  have b2 : 64 * e.at2 q k n < ((s + t) * n) * ((s + t) * n) := by
    have t1 := tri_lt (x1 := 8 * (n * (p.x - e.a.x) - k * e.wx)) (x2 := 8 * (n * (p.y - e.a.y) - k * e.wy)) (y1 := 8 * (n * (q.x - p.x))) (y2 := 8 * (n * (q.y - p.y))) (s := s * n) (t := t * n) (Int.mul_nonneg hs (by omega)) (Int.mul_nonneg ht (by omega))
      (by unfold Ed.at2 at b1; grind) (by
        have d1 : (64 * dist2 p q) * (n * n) < (t * t) * (n * n) := Int.mul_lt_mul_of_pos_right hw hnn
        unfold dist2 at d1; grind)
    unfold Ed.at2
    grind
  have b3 : (64 * e.num q) * (n * n) < ((s + t) * (s + t) * e.den q) * (n * n) := by
    have c1 : e.den q * (64 * e.at2 q k n) < e.den q * (((s + t) * n) * ((s + t) * n)) := Int.mul_lt_mul_of_pos_left b2 (by omega)
    have c2 : 64 * (e.num q * (n * n)) ≤ 64 * (e.den q * e.at2 q k n) := by omega
    grind
  exact Int.lt_of_mul_lt_mul_right b3 (by omega)
end Go.Proofs.Ytlljpjbhndcaiaa.Geo
end
section
set_option linter.unusedVariables false
set_option linter.unusedSimpArgs false
namespace Go.Proofs.Ytlljpjbhndcaiaa.M
open Go.RowKit Go.Proofs.Ytlljpjbhndcaiaa.Q Go.Proofs.YtlljpjbhndcaiaaW.PrintWords Go.Proofs.YtlljpjbhndcaiaaW.PrintLast Go.Proofs.YtlljpjbhndcaiaaW.PrintMore Go.Proofs.Ytlljpjbhndcaiaa.Geo
def ed (e : S40) : Ed := ⟨⟨e.f0.f0, e.f0.f1⟩, ⟨e.f1.f0, e.f1.f1⟩⟩
def Small (x : Int) : Prop := -8200 ≤ x ∧ x ≤ 8200
def Mid (x : Int) : Prop := -33000 ≤ x ∧ x ≤ 33000
def EdIn (e : S40) : Prop := Small e.f0.f0 ∧ Small e.f0.f1 ∧ Small e.f1.f0 ∧ Small e.f1.f1
def PtIn (p : Pt) : Prop := Mid p.x ∧ Mid p.y
theorem mulb {a b A B : Int} (h1 : -A ≤ a) (h2 : a ≤ A) (h3 : -B ≤ b) (h4 : b ≤ B) : -(A * B) ≤ a * b ∧ a * b ≤ A * B := by
  have hA : 0 ≤ A := by omega
  have hB : 0 ≤ B := by omega
  rcases Int.le_total 0 a with ha | ha
  · rcases Int.le_total 0 b with hb | hb
    · have := mul_bound ha h2 hb h4
      omega
    · have := mul_bound (a := a) (b := -b) (n := A) (m := B) ha h2 (by omega) (by omega)
      rw [Int.mul_neg] at this
      omega
  · rcases Int.le_total 0 b with hb | hb
    · have := mul_bound (a := -a) (b := b) (n := A) (m := B) (by omega) (by omega) hb h4
      rw [Int.neg_mul] at this
      omega
    · have := mul_bound (a := -a) (b := -b) (n := A) (m := B) (by omega) (by omega) (by omega) (by omega)
      rw [Int.neg_mul_neg] at this
      omega
theorem sqb {a A : Int} (h1 : -A ≤ a) (h2 : a ≤ A) : 0 ≤ a * a ∧ a * a ≤ A * A := ⟨sq_nonneg a, (mulb h1 h2 h1 h2).2⟩
theorem le_cancel {n d g Q : Int} (hg : 1 ≤ g) (h : n * g * 64 ≤ Q * (d * g)) : n * 64 ≤ Q * d := by
  have : n * 64 * g ≤ Q * d * g := by
    have e1 : n * 64 * g = n * g * 64 := by grind
    have e2 : Q * d * g = Q * (d * g) := by grind
    omega
  exact Int.le_of_mul_le_mul_right this (by omega)
structure IsSq (e : S40) (p : Pt) (n d : Int) : Prop where
  g : ∃ g, 1 ≤ g ∧ (ed e).num p = n * g ∧ (ed e).den p = d * g
  n0 : 0 ≤ n
  n1 : n < 4000000000000000000
  d1 : 1 ≤ d
  d2 : d < 4000000000
  q : n * 64 ≤ 4611686018427387904 * d
theorem IsSq.of {e : S40} {p : Pt} {n d g : Int} (hg : 1 ≤ g) (h1 : (ed e).num p = n * g) (h2 : (ed e).den p = d * g) (b1 : (ed e).num p < 4000000000000000000) (b2 : (ed e).den p < 4000000000) (b3 : (ed e).num p * 64 ≤ 4611686018427387904 * (ed e).den p) : IsSq e p n d := by
  have a1 := Ed.num_nonneg (ed e) p
  have a2 := Ed.den_pos (ed e) p
  rw [h1] at a1 b1 b3
  rw [h2] at a2 b2 b3
  have n0 : 0 ≤ n := by
    by_cases h : 0 ≤ n
    · exact h
    · have := Int.mul_le_mul_of_nonneg_right (show n ≤ -1 by omega) (show 0 ≤ g by omega)
      omega
  have d1 : 1 ≤ d := by
    by_cases h : 1 ≤ d
    · exact h
    · have := Int.mul_le_mul_of_nonneg_right (show d ≤ 0 by omega) (show 0 ≤ g by omega)
      omega
  have n2 := Int.mul_le_mul_of_nonneg_left hg n0
  have d3 := Int.mul_le_mul_of_nonneg_left hg (show 0 ≤ d by omega)
  exact ⟨⟨g, hg, h1, h2⟩, n0, by omega, d1, by omega, le_cancel hg b3⟩
theorem square_eq (e : S40) (p : Pt) (he : EdIn e) (hp : PtIn p) :
    ∃ n d, IsSq e p n d ∧ Ret (fun k => plane_Square.f k e.f0.f0 e.f0.f1 e.f1.f0 e.f1.f1 p.x p.y) (n, d) := by
  obtain ⟨⟨a1, a2⟩, ⟨a3, a4⟩, ⟨a5, a6⟩, ⟨a7, a8⟩⟩ := he
  obtain ⟨⟨p1, p2⟩, ⟨p3, p4⟩⟩ := hp
  obtain ⟨⟨x1, y1⟩, ⟨x2, y2⟩⟩ := e
  obtain ⟨px, py⟩ := p
  simp only at a1 a2 a3 a4 a5 a6 a7 a8 p1 p2 p3 p4
  have ew : (ed ⟨⟨x1, y1⟩, ⟨x2, y2⟩⟩).wx = x2 - x1 := rfl
  have ev : (ed ⟨⟨x1, y1⟩, ⟨x2, y2⟩⟩).wy = y2 - y1 := rfl
  have m1 := mulb (a := x2 - x1) (b := px - x1) (A := 16400) (B := 41200) (by omega) (by omega) (by omega) (by omega)
  have m2 := mulb (a := y2 - y1) (b := py - y1) (A := 16400) (B := 41200) (by omega) (by omega) (by omega) (by omega)
  have m3 := mulb (a := x2 - x1) (b := py - y1) (A := 16400) (B := 41200) (by omega) (by omega) (by omega) (by omega)
  have m4 := mulb (a := y2 - y1) (b := px - x1) (A := 16400) (B := 41200) (by omega) (by omega) (by omega) (by omega)
  have s1 := sqb (a := x2 - x1) (A := 16400) (by omega) (by omega)
  have s2 := sqb (a := y2 - y1) (A := 16400) (by omega) (by omega)
  have s3 := sqb (a := px - x1) (A := 41200) (by omega) (by omega)
  have s4 := sqb (a := py - y1) (A := 41200) (by omega) (by omega)
  have s5 := sqb (a := px - x2) (A := 41200) (by omega) (by omega)
  have s6 := sqb (a := py - y2) (A := 41200) (by omega) (by omega)
  have sc := sqb (a := (x2 - x1) * (py - y1) - (y2 - y1) * (px - x1)) (A := 1351360000) (by omega) (by omega)
  have eal : (ed ⟨⟨x1, y1⟩, ⟨x2, y2⟩⟩).along ⟨px, py⟩ = (x2 - x1) * (px - x1) + (y2 - y1) * (py - y1) := rfl
  have elo : (ed ⟨⟨x1, y1⟩, ⟨x2, y2⟩⟩).long = (x2 - x1) * (x2 - x1) + (y2 - y1) * (y2 - y1) := rfl
  have ecr : (ed ⟨⟨x1, y1⟩, ⟨x2, y2⟩⟩).cr ⟨px, py⟩ = (x2 - x1) * (py - y1) - (y2 - y1) * (px - x1) := rfl
  have da : dist2 ⟨px, py⟩ (ed ⟨⟨x1, y1⟩, ⟨x2, y2⟩⟩).a = (px - x1) * (px - x1) + (py - y1) * (py - y1) := rfl
  have db : dist2 ⟨px, py⟩ (ed ⟨⟨x1, y1⟩, ⟨x2, y2⟩⟩).b = (px - x2) * (px - x2) + (py - y2) * (py - y2) := rfl
  have hc := Ed.cross_eq (ed ⟨⟨x1, y1⟩, ⟨x2, y2⟩⟩) ⟨px, py⟩
  rw [eal, elo, ecr, da] at hc
  have fn : (ed ⟨⟨x1, y1⟩, ⟨x2, y2⟩⟩).num ⟨px, py⟩ = if (x2 - x1) * (px - x1) + (y2 - y1) * (py - y1) ≤ 0 then (px - x1) * (px - x1) + (py - y1) * (py - y1) else if (x2 - x1) * (x2 - x1) + (y2 - y1) * (y2 - y1) ≤ (x2 - x1) * (px - x1) + (y2 - y1) * (py - y1) then (px - x2) * (px - x2) + (py - y2) * (py - y2) else ((x2 - x1) * (py - y1) - (y2 - y1) * (px - x1)) * ((x2 - x1) * (py - y1) - (y2 - y1) * (px - x1)) := rfl
  have fd : (ed ⟨⟨x1, y1⟩, ⟨x2, y2⟩⟩).den ⟨px, py⟩ = if (x2 - x1) * (px - x1) + (y2 - y1) * (py - y1) ≤ 0 then 1 else if (x2 - x1) * (x2 - x1) + (y2 - y1) * (y2 - y1) ≤ (x2 - x1) * (px - x1) + (y2 - y1) * (py - y1) then 1 else (x2 - x1) * (x2 - x1) + (y2 - y1) * (y2 - y1) := rfl
  simp only [plane_Square.f]
  rw [w64 (n := x2 - x1) (by omega) (by omega), w64 (n := y2 - y1) (by omega) (by omega), w64 (n := px - x1) (by omega) (by omega), w64 (n := py - y1) (by omega) (by omega), w64 (n := px - x2) (by omega) (by omega), w64 (n := py - y2) (by omega) (by omega),
    w64 (n := (x2 - x1) * (px - x1)) (by omega) (by omega), w64 (n := (y2 - y1) * (py - y1)) (by omega) (by omega), w64 (n := (x2 - x1) * (py - y1)) (by omega) (by omega), w64 (n := (y2 - y1) * (px - x1)) (by omega) (by omega),
    w64 (n := (x2 - x1) * (x2 - x1)) (by omega) (by omega), w64 (n := (y2 - y1) * (y2 - y1)) (by omega) (by omega), w64 (n := (px - x1) * (px - x1)) (by omega) (by omega), w64 (n := (py - y1) * (py - y1)) (by omega) (by omega), w64 (n := (px - x2) * (px - x2)) (by omega) (by omega), w64 (n := (py - y2) * (py - y2)) (by omega) (by omega)]
  rw [w64 (n := (x2 - x1) * (px - x1) + (y2 - y1) * (py - y1)) (by omega) (by omega), w64 (n := (x2 - x1) * (x2 - x1) + (y2 - y1) * (y2 - y1)) (by omega) (by omega), w64 (n := (px - x1) * (px - x1) + (py - y1) * (py - y1)) (by omega) (by omega), w64 (n := (px - x2) * (px - x2) + (py - y2) * (py - y2)) (by omega) (by omega),
    w64 (n := (x2 - x1) * (py - y1) - (y2 - y1) * (px - x1)) (by omega) (by omega), w64 (n := ((x2 - x1) * (py - y1) - (y2 - y1) * (px - x1)) * ((x2 - x1) * (py - y1) - (y2 - y1) * (px - x1))) (by omega) (by omega)]
  clear ew ev eal elo ecr da db
  have hal : 0 ≤ ((x2 - x1) * (px - x1) + (y2 - y1) * (py - y1)) * ((x2 - x1) * (px - x1) + (y2 - y1) * (py - y1)) := sq_nonneg _
  by_cases h1 : (x2 - x1) * (px - x1) + (y2 - y1) * (py - y1) ≤ 0
  · simp only [if_pos h1] at fn fd ⊢
    exact ⟨_, _, IsSq.of (g := 1) (by omega) (by rw [fn, Int.mul_one]) (by rw [fd]; rfl) (by rw [fn]; omega) (by rw [fd]; omega) (by rw [fn, fd]; omega), Ret.const rfl⟩
  · simp only [if_neg h1] at fn fd ⊢
    by_cases h2 : (x2 - x1) * (x2 - x1) + (y2 - y1) * (y2 - y1) ≤ (x2 - x1) * (px - x1) + (y2 - y1) * (py - y1)
    · simp only [if_pos h2] at fn fd ⊢
      exact ⟨_, _, IsSq.of (g := 1) (by omega) (by rw [fn, Int.mul_one]) (by rw [fd]; rfl) (by rw [fn]; omega) (by rw [fd]; omega) (by rw [fn, fd]; omega), Ret.const rfl⟩
    · simp only [if_neg h2] at fn fd ⊢
      have hlo : 0 ≤ (x2 - x1) * (x2 - x1) + (y2 - y1) * (y2 - y1) ∧ (x2 - x1) * (x2 - x1) + (y2 - y1) * (y2 - y1) ≤ 537920000 := by omega
      generalize (x2 - x1) * (x2 - x1) + (y2 - y1) * (y2 - y1) = lo at *
      generalize (x2 - x1) * (py - y1) - (y2 - y1) * (px - x1) = c at *
      obtain ⟨g, n', d', g1, g2, g3, hr⟩ := of_eq (c * c) lo (by omega) (by omega) (by omega) (by omega)
      refine ⟨n', d', IsSq.of (g := g) g1 (by rw [fn, g2]) (by rw [fd, g3]) (by rw [fn]; omega) (by rw [fd]; omega) ?_, Ret.bind hr (Ret.const rfl)⟩
      rw [fn, fd]
      have k1 : lo * ((px - x1) * (px - x1) + (py - y1) * (py - y1)) ≤ lo * 3394880000 := Int.mul_le_mul_of_nonneg_left (by omega) (by omega)
      omega
end Go.Proofs.Ytlljpjbhndcaiaa.M
end
