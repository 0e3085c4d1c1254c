/- What the proof of the law SdfSmooth leans on, part 4. -/
import Derived.Test.YtlljpjbhndcaiaaSdfSmoothC3
import Derived.RangeFuncNested
import Derived.RangeFuncBound
import Derived.RangeFuncCalls
import Derived.RangeFuncLeaves
import Derived.Shelf.Abstract
import Derived.OwnWalkIn
import Derived.TacticsInMore
import Derived.LoopNIn
import Derived.LoopIn
import Derived.OrdersIn
import Derived.Scope
import Derived.Laws.BitsLemmas
import Derived.IntWalk
import Init
set_option linter.unusedVariables false
set_option linter.unusedSimpArgs false
set_option linter.unusedSectionVars false
section
namespace Go.Proofs.Ytlljpjbhndcaiaa.Q
open Go.RowKit Go.Proofs.YtlljpjbhndcaiaaW.PrintWords Go.Proofs.YtlljpjbhndcaiaaW.PrintLast Go.Proofs.YtlljpjbhndcaiaaW.PrintMore
attribute [local go_sem] max2_int min2_int max_two min_two max_three min_three max_four min_four
set_option linter.unusedVariables false
set_option linter.unusedSimpArgs false
def grid_At.f (a0_0 : Int) (a0_1 : Int) (l0_2 : List Int) (a1 : Int) (a2 : Int) : Option (Int × Bool) := if a1 < 0 then (some (0, false)) else (if a2 < 0 then (some (0, false)) else (if a1 ≥ a0_0 then (some (0, false)) else (if a2 ≥ a0_1 then (some (0, false)) else (if (wrap64 ((wrap64 (a2 * a0_0)) + a1)) ≥ (l0_2.length : Int) then (some (0, false)) else (if 0 ≤ (wrap64 ((wrap64 (a2 * a0_0)) + a1)) then (if (wrap64 ((wrap64 (a2 * a0_0)) + a1)) < (l0_2.length : Int) then (some (rd l0_2 (wrap64 ((wrap64 (a2 * a0_0)) + a1)), true)) else (none)) else (none))))))
set_option maxHeartbeats 8000000 in
set_option maxRecDepth 100000 in
theorem grid_At.calls (a0_0 : Int) (a0_1 : Int) (A0_2 : Option Addr) (c0_2 : Nat) (l0_2 : List Int) (a1 : Int) (a2 : Int) (r1 : Int) (r2 : Bool) (w : World) (hr0_2 : Kd.C (Kd.int .u8) w A0_2 l0_2.length l0_2) (hc0_2 : l0_2.length ≤ c0_2) (h : grid_At.f a0_0 a0_1 l0_2 a1 a2 = some (r1, r2)) :
    Calls Try.prog 43 #[.agg #[.int .i64 a0_0, .int .i64 a0_1, .slice A0_2 l0_2.length c0_2], .int .i64 a1, .int .i64 a2] w fun e w' => e = .returned (.tuple #[.int .u8 r1, .bool r2]) ∧ Below w.heap.size w w' := by
  have hu57 := Try.underlying57
  have HR0_2 := Aside0.mk hr0_2
  have HC0_2 := Aside0.mk hc0_2
  clear hr0_2 hc0_2
  have HB := Aside0.mk (Below.refl w.heap.size w)
  have H : (if a1 < 0 then (some (0, false)) else (if a2 < 0 then (some (0, false)) else (if a1 ≥ a0_0 then (some (0, false)) else (if a2 ≥ a0_1 then (some (0, false)) else (if (wrap64 ((wrap64 (a2 * a0_0)) + a1)) ≥ (l0_2.length : Int) then (some (0, false)) else (if 0 ≤ (wrap64 ((wrap64 (a2 * a0_0)) + a1)) then (if (wrap64 ((wrap64 (a2 * a0_0)) + a1)) < (l0_2.length : Int) then (some (rd l0_2 (wrap64 ((wrap64 (a2 * a0_0)) + a1)), true)) else (none)) else (none))))))) = some (r1, r2) := h
  clear h
  by_cases c4 : a1 < 0
  · rw [if_pos c4] at H
    have c4b0 : decide (a1 < 0) = true := decide_eq_true c4
    clear c4
    simp only [Option.some.injEq, Prod.mk.injEq] at H
    obtain ⟨rfl, rfl⟩ := H
    go_enter Try.func43, Try.ntmps43
    go_wp2_with (first | ((with_reducible refine gate_dst (N := 3) rfl ?_); (try (refine gate_guard (by rfl) ?_; dsimp only)); refine box_event ?hg (N := 3) ?hd (cs := #[.int .i64 a0_0, .int .i64 a0_1, .slice A0_2 l0_2.length c0_2]) (t := 57) ?hr ?_; (case hd => rfl); (case hg => rfl); (case hr => first | (go_simp; done) | (go_simp; rfl)); intro gb379 hg w5 hbox hb; have n0_ := Aside0.mk (below_step (by repeat (first | (with_reducible first | exact HB.out | apply below_alloc | apply pw_below_drewN | apply below_drew1) | exact HB.out)) hb); have n1_ := Aside0.mk (hbox); have n2_ := Aside0.mk ((by rw [hg]; exact (below_size (by repeat (first | (with_reducible first | exact HB.out | apply below_alloc | apply pw_below_drewN | apply below_drew1) | exact HB.out))) : w.heap.size ≤ gb379)); have n3_ := Aside0.mk ((by rw [hg]; exact (below_size (by repeat (first | (with_reducible first | exact HB.out | apply below_alloc | apply pw_below_drewN | apply below_drew1) | exact HB.out))) : w.heap.size ≤ gb379)); clear HB; have HB := n0_; have BK379 := n1_; have GW379 := n2_; have GE379 := n3_; clear n0_ n1_ n2_ n3_; clear hb hbox hg))
    go_ret2
    exact ⟨by first | rfl | (simp [errW_none, errW_some] <;> rfl) | (simp [*, errW_none, errW_some] <;> rfl), by repeat (first | (with_reducible first | exact HB.out | apply below_alloc | apply pw_below_drewN | apply below_drew1 | refine below_set ?_ GE379.out) | exact HB.out)⟩
  · rw [if_neg c4] at H
    have c4b0 : decide (a1 < 0) = false := decide_eq_false c4
    clear c4
    by_cases c6 : a2 < 0
    · rw [if_pos c6] at H
      have c6b0 : decide (a2 < 0) = true := decide_eq_true c6
      clear c6
      simp only [Option.some.injEq, Prod.mk.injEq] at H
      obtain ⟨rfl, rfl⟩ := H
      go_enter Try.func43, Try.ntmps43
      go_wp2_with (first | ((with_reducible refine gate_dst (N := 3) rfl ?_); (try (refine gate_guard (by rfl) ?_; dsimp only)); refine box_event ?hg (N := 3) ?hd (cs := #[.int .i64 a0_0, .int .i64 a0_1, .slice A0_2 l0_2.length c0_2]) (t := 57) ?hr ?_; (case hd => rfl); (case hg => rfl); (case hr => first | (go_simp; done) | (go_simp; rfl)); intro gb379 hg w7 hbox hb; have n0_ := Aside0.mk (below_step (by repeat (first | (with_reducible first | exact HB.out | apply below_alloc | apply pw_below_drewN | apply below_drew1) | exact HB.out)) hb); have n1_ := Aside0.mk (hbox); have n2_ := Aside0.mk ((by rw [hg]; exact (below_size (by repeat (first | (with_reducible first | exact HB.out | apply below_alloc | apply pw_below_drewN | apply below_drew1) | exact HB.out))) : w.heap.size ≤ gb379)); have n3_ := Aside0.mk ((by rw [hg]; exact (below_size (by repeat (first | (with_reducible first | exact HB.out | apply below_alloc | apply pw_below_drewN | apply below_drew1) | exact HB.out))) : w.heap.size ≤ gb379)); clear HB; have HB := n0_; have BK379 := n1_; have GW379 := n2_; have GE379 := n3_; clear n0_ n1_ n2_ n3_; clear hb hbox hg))
      go_ret2
      exact ⟨by first | rfl | (simp [errW_none, errW_some] <;> rfl) | (simp [*, errW_none, errW_some] <;> rfl), by repeat (first | (with_reducible first | exact HB.out | apply below_alloc | apply pw_below_drewN | apply below_drew1 | refine below_set ?_ GE379.out) | exact HB.out)⟩
    · rw [if_neg c6] at H
      have c6b0 : decide (a2 < 0) = false := decide_eq_false c6
      clear c6
      by_cases c8 : a1 ≥ a0_0
      · rw [if_pos c8] at H
        have c8b0 : decide (a0_0 ≤ a1) = true := decide_eq_true c8
        clear c8
        simp only [Option.some.injEq, Prod.mk.injEq] at H
        obtain ⟨rfl, rfl⟩ := H
        go_enter Try.func43, Try.ntmps43
        go_wp2_with (first | ((with_reducible refine gate_dst (N := 3) rfl ?_); (try (refine gate_guard (by rfl) ?_; dsimp only)); refine box_event ?hg (N := 3) ?hd (cs := #[.int .i64 a0_0, .int .i64 a0_1, .slice A0_2 l0_2.length c0_2]) (t := 57) ?hr ?_; (case hd => rfl); (case hg => rfl); (case hr => first | (go_simp; done) | (go_simp; rfl)); intro gb379 hg w9 hbox hb; have n0_ := Aside0.mk (below_step (by repeat (first | (with_reducible first | exact HB.out | apply below_alloc | apply pw_below_drewN | apply below_drew1) | exact HB.out)) hb); have n1_ := Aside0.mk (hbox); have n2_ := Aside0.mk ((by rw [hg]; exact (below_size (by repeat (first | (with_reducible first | exact HB.out | apply below_alloc | apply pw_below_drewN | apply below_drew1) | exact HB.out))) : w.heap.size ≤ gb379)); have n3_ := Aside0.mk ((by rw [hg]; exact (below_size (by repeat (first | (with_reducible first | exact HB.out | apply below_alloc | apply pw_below_drewN | apply below_drew1) | exact HB.out))) : w.heap.size ≤ gb379)); clear HB; have HB := n0_; have BK379 := n1_; have GW379 := n2_; have GE379 := n3_; clear n0_ n1_ n2_ n3_; clear hb hbox hg; have hcz10_0 : w9.cell? ⟨gb379, 0, none⟩ = some (.int .i64 a0_0) := (blk_cell BK379.out 0).trans rfl; have hcz10_1 : w9.cell? ⟨gb379, 1, none⟩ = some (.int .i64 a0_1) := (blk_cell BK379.out 1).trans rfl; have hcz10_2 : w9.cell? ⟨gb379, 2, none⟩ = some (.slice A0_2 l0_2.length c0_2) := (blk_cell BK379.out 2).trans rfl; have hfz10_0 := blk_frozen BK379.out 0; have hfz10_1 := blk_frozen BK379.out 1; have hfz10_2 := blk_frozen BK379.out 2))
        go_ret2
        exact ⟨by first | rfl | (simp [errW_none, errW_some] <;> rfl) | (simp [*, errW_none, errW_some] <;> rfl), by repeat (first | (with_reducible first | exact HB.out | apply below_alloc | apply pw_below_drewN | apply below_drew1 | refine below_set ?_ GE379.out) | exact HB.out)⟩
      · rw [if_neg c8] at H
        have c8b0 : decide (a0_0 ≤ a1) = false := decide_eq_false c8
        clear c8
        by_cases c11 : a2 ≥ a0_1
        · rw [if_pos c11] at H
          have c11b0 : decide (a0_1 ≤ a2) = true := decide_eq_true c11
          clear c11
          simp only [Option.some.injEq, Prod.mk.injEq] at H
          obtain ⟨rfl, rfl⟩ := H
          go_enter Try.func43, Try.ntmps43
          go_wp2_with (first | ((with_reducible refine gate_dst (N := 3) rfl ?_); (try (refine gate_guard (by rfl) ?_; dsimp only)); refine box_event ?hg (N := 3) ?hd (cs := #[.int .i64 a0_0, .int .i64 a0_1, .slice A0_2 l0_2.length c0_2]) (t := 57) ?hr ?_; (case hd => rfl); (case hg => rfl); (case hr => first | (go_simp; done) | (go_simp; rfl)); intro gb379 hg w12 hbox hb; have n0_ := Aside0.mk (below_step (by repeat (first | (with_reducible first | exact HB.out | apply below_alloc | apply pw_below_drewN | apply below_drew1) | exact HB.out)) hb); have n1_ := Aside0.mk (hbox); have n2_ := Aside0.mk ((by rw [hg]; exact (below_size (by repeat (first | (with_reducible first | exact HB.out | apply below_alloc | apply pw_below_drewN | apply below_drew1) | exact HB.out))) : w.heap.size ≤ gb379)); have n3_ := Aside0.mk ((by rw [hg]; exact (below_size (by repeat (first | (with_reducible first | exact HB.out | apply below_alloc | apply pw_below_drewN | apply below_drew1) | exact HB.out))) : w.heap.size ≤ gb379)); clear HB; have HB := n0_; have BK379 := n1_; have GW379 := n2_; have GE379 := n3_; clear n0_ n1_ n2_ n3_; clear hb hbox hg; have hcz13_0 : w12.cell? ⟨gb379, 0, none⟩ = some (.int .i64 a0_0) := (blk_cell BK379.out 0).trans rfl; have hcz13_1 : w12.cell? ⟨gb379, 1, none⟩ = some (.int .i64 a0_1) := (blk_cell BK379.out 1).trans rfl; have hcz13_2 : w12.cell? ⟨gb379, 2, none⟩ = some (.slice A0_2 l0_2.length c0_2) := (blk_cell BK379.out 2).trans rfl; have hfz13_0 := blk_frozen BK379.out 0; have hfz13_1 := blk_frozen BK379.out 1; have hfz13_2 := blk_frozen BK379.out 2))
          go_ret2
          exact ⟨by first | rfl | (simp [errW_none, errW_some] <;> rfl) | (simp [*, errW_none, errW_some] <;> rfl), by repeat (first | (with_reducible first | exact HB.out | apply below_alloc | apply pw_below_drewN | apply below_drew1 | refine below_set ?_ GE379.out) | exact HB.out)⟩
        · rw [if_neg c11] at H
          have c11b0 : decide (a0_1 ≤ a2) = false := decide_eq_false c11
          clear c11
          by_cases c14 : (wrap64 ((wrap64 (a2 * a0_0)) + a1)) ≥ (l0_2.length : Int)
          · rw [if_pos c14] at H
            have c14b0 : decide ((l0_2.length : Int) ≤ (wrap64 ((wrap64 (a2 * a0_0)) + a1))) = true := decide_eq_true c14
            clear c14
            simp only [Option.some.injEq, Prod.mk.injEq] at H
            obtain ⟨rfl, rfl⟩ := H
            go_enter Try.func43, Try.ntmps43
            go_wp2_with (first | ((with_reducible refine gate_dst (N := 3) rfl ?_); (try (refine gate_guard (by rfl) ?_; dsimp only)); refine box_event ?hg (N := 3) ?hd (cs := #[.int .i64 a0_0, .int .i64 a0_1, .slice A0_2 l0_2.length c0_2]) (t := 57) ?hr ?_; (case hd => rfl); (case hg => rfl); (case hr => first | (go_simp; done) | (go_simp; rfl)); intro gb379 hg w15 hbox hb; have n0_ := Aside0.mk (below_step (by repeat (first | (with_reducible first | exact HB.out | apply below_alloc | apply pw_below_drewN | apply below_drew1) | exact HB.out)) hb); have n1_ := Aside0.mk (hbox); have n2_ := Aside0.mk ((by rw [hg]; exact (below_size (by repeat (first | (with_reducible first | exact HB.out | apply below_alloc | apply pw_below_drewN | apply below_drew1) | exact HB.out))) : w.heap.size ≤ gb379)); have n3_ := Aside0.mk ((by rw [hg]; exact (below_size (by repeat (first | (with_reducible first | exact HB.out | apply below_alloc | apply pw_below_drewN | apply below_drew1) | exact HB.out))) : w.heap.size ≤ gb379)); clear HB; have HB := n0_; have BK379 := n1_; have GW379 := n2_; have GE379 := n3_; clear n0_ n1_ n2_ n3_; clear hb hbox hg; have hcz16_0 : w15.cell? ⟨gb379, 0, none⟩ = some (.int .i64 a0_0) := (blk_cell BK379.out 0).trans rfl; have hcz16_1 : w15.cell? ⟨gb379, 1, none⟩ = some (.int .i64 a0_1) := (blk_cell BK379.out 1).trans rfl; have hcz16_2 : w15.cell? ⟨gb379, 2, none⟩ = some (.slice A0_2 l0_2.length c0_2) := (blk_cell BK379.out 2).trans rfl; have hfz16_0 := blk_frozen BK379.out 0; have hfz16_1 := blk_frozen BK379.out 1; have hfz16_2 := blk_frozen BK379.out 2))
            go_ret2
            exact ⟨by first | rfl | (simp [errW_none, errW_some] <;> rfl) | (simp [*, errW_none, errW_some] <;> rfl), by repeat (first | (with_reducible first | exact HB.out | apply below_alloc | apply pw_below_drewN | apply below_drew1 | refine below_set ?_ GE379.out) | exact HB.out)⟩
          · rw [if_neg c14] at H
            have c14b0 : decide ((l0_2.length : Int) ≤ (wrap64 ((wrap64 (a2 * a0_0)) + a1))) = false := decide_eq_false c14
            clear c14
            obtain ⟨ji17, hji17⟩ : ∃ j_ : Int, (wrap64 ((wrap64 (a2 * a0_0)) + a1)) = j_ := ⟨_, rfl⟩
            replace H : (if 0 ≤ (ji17) then (if (ji17) < (l0_2.length : Int) then (some (rd l0_2 (ji17), true)) else (none)) else (none)) = some (r1, r2) := by first | (rw [hji17] at H; exact H) | (simp only [hji17] at H ⊢; exact H)
            (try rw [hji17] at c14b0)
            have hji17w : (IntKind.i64.wrap ((wrap64 (a2 * a0_0)) + a1)) = ji17 := (i64_w _).trans hji17
            by_cases c18 : 0 ≤ (ji17)
            · rw [if_pos c18] at H
              have c18b0 : decide (0 ≤ (ji17)) = true := decide_eq_true c18
              clear c18
              by_cases c19 : (ji17) < (l0_2.length : Int)
              · rw [if_pos c19] at H
                have c19b0 : decide ((ji17) < (l0_2.length : Int)) = true := decide_eq_true c19
                clear c19
                simp only [Option.some.injEq, Prod.mk.injEq] at H
                obtain ⟨rfl, rfl⟩ := H
                go_enter Try.func43, Try.ntmps43
                go_wp2_with (first | ((with_reducible refine gate_dst (N := 3) rfl ?_); (try (refine gate_guard (by rfl) ?_; dsimp only)); refine box_event ?hg (N := 3) ?hd (cs := #[.int .i64 a0_0, .int .i64 a0_1, .slice A0_2 l0_2.length c0_2]) (t := 57) ?hr ?_; (case hd => rfl); (case hg => rfl); (case hr => first | (go_simp; done) | (go_simp; rfl)); intro gb379 hg w20 hbox hb; have n0_ := Aside0.mk (below_step (by repeat (first | (with_reducible first | exact HB.out | apply below_alloc | apply pw_below_drewN | apply below_drew1) | exact HB.out)) hb); have n1_ := Aside0.mk (hbox); have n2_ := Aside0.mk ((by rw [hg]; exact (below_size (by repeat (first | (with_reducible first | exact HB.out | apply below_alloc | apply pw_below_drewN | apply below_drew1) | exact HB.out))) : w.heap.size ≤ gb379)); have n3_ := Aside0.mk ((by rw [hg]; exact (below_size (by repeat (first | (with_reducible first | exact HB.out | apply below_alloc | apply pw_below_drewN | apply below_drew1) | exact HB.out))) : w.heap.size ≤ gb379)); clear HB; have HB := n0_; have BK379 := n1_; have GW379 := n2_; have GE379 := n3_; clear n0_ n1_ n2_ n3_; clear hb hbox hg; have hcz21_0 : w20.cell? ⟨gb379, 0, none⟩ = some (.int .i64 a0_0) := (blk_cell BK379.out 0).trans rfl; have hcz21_1 : w20.cell? ⟨gb379, 1, none⟩ = some (.int .i64 a0_1) := (blk_cell BK379.out 1).trans rfl; have hcz21_2 : w20.cell? ⟨gb379, 2, none⟩ = some (.slice A0_2 l0_2.length c0_2) := (blk_cell BK379.out 2).trans rfl; have hfz21_0 := blk_frozen BK379.out 0; have hfz21_1 := blk_frozen BK379.out 1; have hfz21_2 := blk_frozen BK379.out 2; have p380 : 0 ≤ ((ji17) : Int) := of_decide_eq_true (by first | (with_reducible assumption) | assumption); have q380 : (ji17) < (l0_2.length : Int) := of_decide_eq_true (by first | (with_reducible assumption) | assumption); obtain ⟨ad380, e380, hx380_0⟩ := Kd.at_int HR0_2.out (ji17) p380 q380; cases e380; replace hx380_0 := (HB.out.cell (World.block_lt_of_cell? w _ hx380_0)).trans hx380_0; replace p380 := eq_true p380; replace q380 := eq_true q380))
                go_ret2
                exact ⟨by first | rfl | (simp [errW_none, errW_some] <;> rfl) | (simp only [← hji17]; first | rfl | (simp [errW_none, errW_some] <;> rfl)) | (simp [*, errW_none, errW_some] <;> rfl), by repeat (first | (with_reducible first | exact HB.out | apply below_alloc | apply pw_below_drewN | apply below_drew1 | refine below_set ?_ GE379.out) | exact HB.out)⟩
              · rw [if_neg c19] at H
                exact absurd H (by simp)
            · rw [if_neg c18] at H
              exact absurd H (by simp)
end Go.Proofs.Ytlljpjbhndcaiaa.Q
end
section
namespace Go.Proofs.Ytlljpjbhndcaiaa.Q
open Go.RowKit Go.Proofs.YtlljpjbhndcaiaaW.PrintWords Go.Proofs.YtlljpjbhndcaiaaW.PrintLast Go.Proofs.YtlljpjbhndcaiaaW.PrintMore
attribute [local go_sem] max2_int min2_int max_two min_two max_three min_three max_four min_four
set_option linter.unusedVariables false
set_option linter.unusedSimpArgs false
theorem cells6 {W : World} {g t : Nat} {a b c d e f : Value} (h : W.heap[g]? = some (.cells #[a, b, c, d, e, f] t (0, 0))) : W.cell? ⟨g, 0, none⟩ = some a ∧ W.cell? ⟨g, 1, none⟩ = some b ∧ W.cell? ⟨g, 2, none⟩ = some c ∧ W.cell? ⟨g, 3, none⟩ = some d ∧ W.cell? ⟨g, 4, none⟩ = some e ∧ W.cell? ⟨g, 5, none⟩ = some f := by
  refine ⟨?_, ?_, ?_, ?_, ?_, ?_⟩ <;> simp [World.cell?, h]
end Go.Proofs.Ytlljpjbhndcaiaa.Q
end
section
namespace Go.Proofs.Ytlljpjbhndcaiaa.Q
open Go.RowKit Go.Proofs.YtlljpjbhndcaiaaW.PrintWords Go.Proofs.YtlljpjbhndcaiaaW.PrintLast Go.Proofs.YtlljpjbhndcaiaaW.PrintMore
attribute [local go_sem] max2_int min2_int max_two min_two max_three min_three max_four min_four
set_option linter.unusedVariables false
set_option linter.unusedSimpArgs false
theorem cells4 {W : World} {g t : Nat} {a b c d : Value} (h : W.heap[g]? = some (.cells #[a, b, c, d] t (0, 0))) : W.cell? ⟨g, 0, none⟩ = some a ∧ W.cell? ⟨g, 1, none⟩ = some b ∧ W.cell? ⟨g, 2, none⟩ = some c ∧ W.cell? ⟨g, 3, none⟩ = some d := by
  refine ⟨?_, ?_, ?_, ?_⟩ <;> simp [World.cell?, h]
end Go.Proofs.Ytlljpjbhndcaiaa.Q
end
section
namespace Go.Proofs.Ytlljpjbhndcaiaa.Q
open Go.RowKit Go.Proofs.YtlljpjbhndcaiaaW.PrintWords Go.Proofs.YtlljpjbhndcaiaaW.PrintLast Go.Proofs.YtlljpjbhndcaiaaW.PrintMore
attribute [local go_sem] max2_int min2_int max_two min_two max_three min_three max_four min_four
set_option linter.unusedVariables false
set_option linter.unusedSimpArgs false
section
variable {F : Fence} {n : Nat} {P : Program} {Q : Exit → Act → World → Prop} {a : Act} {w : World}
theorem stepR_scope_ {b : Frame} {k : List Item} {cs : List Frame} {c : Code} : step P (lone (b.atR a (.code (.scope c) :: k)) cs w) = .next (lone (b.atR a (.code c :: .inScope c :: k)) cs w) :=
  step_lone_go (by simp [stepG, stepG.exec, Frame.atR])
theorem stepR_inScope_ {b : Frame} {k : List Item} {cs : List Frame} {c : Code} : step P (lone (b.atR a (.inScope c :: k)) cs w) = .next (lone (b.atR a k) cs w) :=
  step_lone_go (by simp [stepG, stepG.exec, Frame.atR])
theorem wpIn_scope_ {c : Code} (h : c.wpIn F n P (Exit.noGoto Q) a w) : (Code.scope c).wpIn F n P Q a w := by
  intro b k cs hro hb hr
  have h0 : (lone (b.atR a (.code (.scope c) :: k)) cs w).fenced P F := fenced_calm hb hr rfl
  obtain ⟨e, a₁, w₁, hq, harr⟩ := h b (.inScope c :: k) cs hro hb hr
  cases e with
  | normal => exact ⟨.normal, a₁, w₁, hq, .head h0 stepR_scope_ (StepsIn.trans harr (.one (fenced_calm hb hr rfl) stepR_inScope_))⟩
  | exit id =>
    have hx : exitTo id (.inScope c :: k) = exitTo id k := by simp [exitTo]
    exact ⟨.exit id, a₁, w₁, hq, fun k' hk => .head h0 stepR_scope_ (harr.1 k' (by rw [hx]; exact hk)),
      fun hr' hk => let ⟨k₁, h1, h2⟩ := harr.2 hr' (by rw [hx]; exact hk); ⟨k₁, h1, .head h0 stepR_scope_ h2⟩⟩
  | goto l => exact hq.elim
  | ret => exact ⟨_, a₁, w₁, hq, .of_steps (.one h0 stepR_scope_) harr⟩
  | panic ch => exact ⟨_, a₁, w₁, hq, .of_steps (.one h0 stepR_scope_) harr⟩
  | outgrown => exact ⟨_, a₁, w₁, hq, .of_steps (.one h0 stepR_scope_) harr⟩
end
section
variable {P : Program} {ops : Array Oper} {Q : Exit → Act → World → Prop}
end
end Go.Proofs.Ytlljpjbhndcaiaa.Q
end
section
namespace Go.Proofs.Ytlljpjbhndcaiaa.Q
open Go.RowKit Go.Proofs.YtlljpjbhndcaiaaW.PrintWords Go.Proofs.YtlljpjbhndcaiaaW.PrintLast Go.Proofs.YtlljpjbhndcaiaaW.PrintMore
attribute [local go_sem] max2_int min2_int max_two min_two max_three min_three max_four min_four
set_option linter.unusedVariables false
set_option linter.unusedSimpArgs false
open Go.Shelf
attribute [local go_sem] Oper.semAt_some
def upto (N k : Nat) : List (Fin N) := (List.finRange N).take k
theorem upto_succ (N k : Nat) (h : k < N) : upto N (k + 1) = upto N k ++ [⟨k, h⟩] := by
  unfold upto
  rw [List.take_add_one]
  simp [h]
theorem upto_length (N k : Nat) (h : k ≤ N) : (upto N k).length = k := by simp [upto]; omega
theorem upto_all (N : Nat) : upto N N = List.finRange N := by unfold upto; rw [List.take_of_length_le (by simp)]
theorem cell_at (Wd i k : Nat) (h : i < Wd) : (k * Wd + i) % Wd = i ∧ (k * Wd + i) / Wd = k := by
  have h1 : (k * Wd + i) % Wd = i := by rw [Nat.add_comm, Nat.add_mul_mod_self_right, Nat.mod_eq_of_lt h]
  have h2 : (k * Wd + i) / Wd = k := by rw [Nat.add_comm, Nat.add_mul_div_right _ _ (by omega), Nat.div_eq_of_lt h, Nat.zero_add]
  exact ⟨h1, h2⟩
def encs (Wd : Nat) {N : Nat} (x : Fin N) : Array Value := #[.int .i64 ((x.1 % Wd : Nat) : Int), .int .i64 ((x.1 / Wd : Nat) : Int)]
theorem encs_at (Wd i k : Nat) {N : Nat} (h : i < Wd) (hN : k * Wd + i < N) : encs Wd (⟨k * Wd + i, hN⟩ : Fin N) = #[.int .i64 (i : Int), .int .i64 (k : Int)] := by
  unfold encs
  simp only
  rw [(cell_at Wd i k h).1, (cell_at Wd i k h).2]
def GridAt (Bg : Nat) (X Y P : Int) (Wd Hd : Nat) (S : Int) (W : World) : Prop := W.heap[Bg]? = some (.cells #[.int .i64 X, .int .i64 Y, .int .i64 P, .int .i64 Wd, .int .i64 Hd, .int .i64 S] 53 (0, 0))
def KeepsAt (Bg : Nat) (W W' : World) : Prop := W'.heap[Bg]? = W.heap[Bg]?
set_option maxRecDepth 100000 in
set_option maxHeartbeats 4000000 in
theorem each_in (F : Fence) (n : Nat) (h66 : F.fn 66) (hro : F.round = none) (hn : 1 ≤ n) (l Bg : Nat) (X Y P S : Int) (Wd Hd : Nat) (hWd : Wd ≤ 1000) (hHd : Hd ≤ 1000) (J Jx : List (Fin (Wd * Hd)) → World → Prop)
    (hY : ∀ pre x W, J pre W → pre.length < Wd * Hd → YieldAt F (n - 1) Try.prog l (encs Wd x) W fun e W' =>
      (e = .returned (.bool true) ∧ J (pre ++ [x]) W' ∧ KeepsAt Bg W W') ∨ (e = .returned (.bool false) ∧ Jx (pre ++ [x]) W'))
    (W : World) (hBg : GridAt Bg X Y P Wd Hd S W) (h0 : J [] W) :
    CallsIn F n Try.prog 66 #[.func (.yield l) #[] #[], .pointer (some ⟨Bg, 0, none⟩)] W fun e W' => (∃ v, e = .returned v) ∧
      ((∃ ys, ys = upto (Wd * Hd) (Wd * Hd) ∧ J ys W') ∨ (∃ pre, (∃ k, k ≤ Wd * Hd ∧ pre = upto (Wd * Hd) k) ∧ Jx pre W')) := by
  refine callsIn_of_wp Try.func66 rfl h66 ?_ hro
  simp only [Try.ntmps66, List.size_toArray, List.length_cons, List.length_nil, Nat.reduceAdd, Nat.reduceSub, Array.replicate_succ, Array.replicate_zero, List.push_toArray, List.append_toArray, List.nil_append, List.cons_append]
  gi_wp2
  refine wpIn_scope_ ?_
  gi_wp2
  refine wpIn_label ?_
  gi_wp2
  gi_loopw [3] (fun s3 wr => ∃ k : Nat, k ≤ Hd ∧ s3 = .int .i64 k ∧ Aside0 (J (upto (Wd * Hd) (k * Wd)) wr ∧ GridAt Bg X Y P Wd Hd S wr)) (fun s3 _ => Hd - (intOf s3).toNat)
  case atStart => exact ⟨0, Nat.zero_le _, rfl, ⟨by rw [Nat.zero_mul]; exact h0, hBg⟩⟩
  case round =>
    obtain ⟨k, hk, rfl, HR⟩ := hrel
    obtain ⟨c0, c1, c2, c3, c4, c5⟩ := cells6 HR.out.2
    by_cases hlt : k < Hd
    · have hlt' : (k : Int) < (Hd : Int) := by omega
      gi_wp2
      have hB0 := HR.out.2
      gi_loopw [4] (fun s4 wi => ∃ i : Nat, i ≤ Wd ∧ s4 = .int .i64 i ∧ Aside0 (J (upto (Wd * Hd) (k * Wd + i)) wi ∧ GridAt Bg X Y P Wd Hd S wi)) (fun s4 _ => Wd - (intOf s4).toNat)
      case atStart => exact ⟨0, Nat.zero_le _, rfl, ⟨HR.out.1, HR.out.2⟩⟩
      case round =>
        obtain ⟨i, hi, rfl, HI⟩ := hrel
        clear c0 c1 c2 c3 c4 c5
        obtain ⟨c0, c1, c2, c3, c4, c5⟩ := cells6 HI.out.2
        by_cases hil : i < Wd
        · have hil' : (i : Int) < (Wd : Int) := by omega
          have hN : k * Wd + i < Wd * Hd := by
            have h1 : (k + 1) * Wd ≤ Hd * Wd := Nat.mul_le_mul_right _ hlt
            rw [Nat.add_mul, Nat.one_mul, Nat.mul_comm Hd Wd] at h1
            omega
          have hlen : (upto (Wd * Hd) (k * Wd + i)).length < Wd * Hd := by rw [upto_length _ _ (by omega)]; exact hN
          obtain ⟨fn, tmps, assign, body, hy, hR⟩ := hY _ ⟨k * Wd + i, hN⟩ _ HI.out.1 hlen
          rw [encs_at Wd i k hil hN] at hy
          gi_wp2
          refine hR.mono ?_
          rintro e W3 (⟨rfl, hJ3, hk3⟩ | ⟨rfl, hJx3⟩)
          · have HJ3 := Aside0.mk hJ3
            clear hJ3
            gi_wp2
            go_roundw
            case rel => exact ⟨i + 1, by omega, by go_num, ⟨by rw [← Nat.add_assoc, upto_succ _ _ hN]; exact HJ3.out, Eq.trans hk3 HI.out.2⟩⟩
            case measure => simp [intOf]; omega
          · gi_wp2
            simp only [Exit.noGoto]
            go_end0
            refine ⟨⟨_, rfl⟩, .inr ⟨_, ⟨k * Wd + i + 1, ?_, ?_⟩, hJx3⟩⟩
            · omega
            · rw [upto_succ _ _ hN]
        · obtain rfl : i = Wd := by omega
          gi_wp2
          go_roundw
          case rel => exact ⟨k + 1, by omega, by go_num, ⟨by rw [Nat.add_mul, Nat.one_mul]; exact HI.out.1, HI.out.2⟩⟩
          case measure => simp [intOf]; omega
    · have hlt' : ¬ (k : Int) < (Hd : Int) := by omega
      obtain rfl : k = Hd := by omega
      gi_wp2
      go_end0
      exact ⟨⟨_, rfl⟩, .inl ⟨_, rfl, by have h := HR.out.1; rw [Nat.mul_comm k Wd] at h; exact h⟩⟩
theorem each_calls (X Y P Wd Hd S : Int) (w : World) :
    Calls Try.prog 40 #[.agg #[.int .i64 X, .int .i64 Y, .int .i64 P, .int .i64 Wd, .int .i64 Hd, .int .i64 S]] w fun e w' => e = .returned (.func (.func 66) #[] #[.pointer (some ⟨w.heap.size, 0, none⟩)]) ∧ w' = w.alloc (.cells #[.int .i64 X, .int .i64 Y, .int .i64 P, .int .i64 Wd, .int .i64 Hd, .int .i64 S] 53) := by
  go_enter Try.func40, Try.ntmps40
  go_wp2_with fail
  go_ret
  exact ⟨rfl, rfl⟩
theorem each_stops (F : Fence) (n : Nat) (h66 : F.fn 66) (hro : F.round = none) (hn : 1 ≤ n) (Bg : Nat) (X Y P S : Int) (Wd Hd : Nat) (hWd : Wd ≤ 1000) (hHd : Hd ≤ 1000) (w : World) (hb : Bg < w.heap.size) (hBg : GridAt Bg X Y P Wd Hd S w) :
    SeqStopsK F n Try.prog 66 #[.pointer (some ⟨Bg, 0, none⟩)] (encs Wd) (KeepsAt Bg) (fun ys => ys = upto (Wd * Hd) (Wd * Hd)) (fun pre => ∃ k, k ≤ Wd * Hd ∧ pre = upto (Wd * Hd) k) (Wd * Hd) w := fun l J Jx W hW _ _ hY h0 =>
  each_in F n h66 hro hn l Bg X Y P S Wd Hd hWd hHd J Jx hY W ((hW.block _ hb).trans hBg) h0
def eachAct (a : Act) (ps : Array Tmp) (s s' : Nat) (Wd : Nat) {N : Nat} (x : Fin N) : Act :=
  { tmps := (((ps.zip (encs Wd x)).foldl (fun t (p, v) => t.setIfInBounds p v) a.tmps).setIfInBounds s (.int .i64 ((x.1 % Wd : Nat) : Int))).setIfInBounds s' (.int .i64 ((x.1 / Wd : Nat) : Int)), defers := [] }
theorem each_loop {g : Operand} {ps : Array Tmp} {assign body : Code} {Q : Exit → Act → World → Prop} {a : Act} {w : World} {Bg : Nat} {X Y P S : Int} {Wd Hd : Nat}
    (hg : a.eval g = .func (.func 66) #[] #[.pointer (some ⟨Bg, 0, none⟩)]) (hps : ps.size = 2) (hb : Bg < w.heap.size) (hBg : GridAt Bg X Y P Wd Hd S w) (hWd : Wd ≤ 1000) (hHd : Hd ≤ 1000)
    (I : List (Fin (Wd * Hd)) → World → Prop) (hI : OwnFrom w.heap.size I) (h0 : I [] w) (s s' : Nat)
    (hassign : ∀ (l : Nat) (x : Fin (Wd * Hd)) (W : World) (K : Act → World → Prop), K (eachAct a ps s s' Wd x) W →
      assign.wpIn (Fence.wide.inRound l) (3 - 1 - 1) Try.prog (Exit.then K (fun _ _ _ => False)) { tmps := (ps.zip (encs Wd x)).foldl (fun t (p, v) => t.setIfInBounds p v) a.tmps, defers := [] } W)
    (hbody : ∀ (l : Nat) (pre : List (Fin (Wd * Hd))) (x : Fin (Wd * Hd)) (W : World), I pre W → pre.length < Wd * Hd → body.wpIn (Fence.wide.inRound l) (3 - 1 - 1) Try.prog (ownPostG w.heap.size (KeepsAt Bg) I (fun _ _ _ => False) (pre ++ [x]) W) (eachAct a ps s s' Wd x) W)
    (hdone : ∀ (D : Nat) (W : World), w.heap.size ≤ D → I (List.finRange (Wd * Hd)) W → W.heap[D]? = some (.deferred (some [])) → Q .normal { a with defers := { target := .collected D, args := #[] } :: a.defers } W) :
    (Code.rangeFunc g ps assign body).wp Try.prog Q a w := by
  refine (wpIn_wide (n := 3)).1 ?_
  refine wpIn_rangeFunc_ownG (F := Fence.wide) (n := 3) rfl (by omega) hg trivial (enters_of Try.func66 (by kernel_rfl) rfl) (each_stops Fence.wide (3 - 1) trivial rfl (by omega) Bg X Y P S Wd Hd hWd hHd w hb hBg)
    (fun h k => Eq.trans k h) (fun W l o o' hl h _ _ => World.putObj_heap_other (by omega)) (Below.refl _ _) (fun x => by rw [hps]; rfl) I (fun _ _ _ => False) hI (fun _ _ _ _ _ hs _ _ => hs) h0 (eachAct a ps s s' Wd) hassign hbody ?_ ?_
  · rintro D xs W hD rfl hi hK
    rw [upto_all] at hi
    exact hdone D W hD hi hK
  · rintro D c pre W _ _ h _
    exact h.elim
end Go.Proofs.Ytlljpjbhndcaiaa.Q
end
section
namespace Go.Proofs.Ytlljpjbhndcaiaa.Q
open Go.RowKit Go.Proofs.YtlljpjbhndcaiaaW.PrintWords Go.Proofs.YtlljpjbhndcaiaaW.PrintLast Go.Proofs.YtlljpjbhndcaiaaW.PrintMore
attribute [local go_sem] max2_int min2_int max_two min_two max_three min_three max_four min_four
set_option linter.unusedVariables false
set_option linter.unusedSimpArgs false
theorem glyph_at (k : Nat) (A0 : Option Addr) (c0 : Nat) (l0 : List (List S133)) (es : List S40) (w W : World) (hr0 : Kd.C (Kd.slice 133 k133) w A0 l0.length l0) (hc0 : l0.length ≤ c0) (hB : Below w.heap.size w W) (h : punchcutlaw06_Glyph.f k l0 = some es) :
    Calls Try.prog 19 #[.slice A0 l0.length c0] W fun e w' => ∃ A c, e = .returned (.slice A es.length c) ∧ Kd.R k40 40 w' w.heap.size (fun _ => True) (.slice A es.length c) es ∧ Below W.heap.size W w' := by
  refine (punchcutlaw06_Glyph.calls k (fun q => q < w.heap.size) _ _ l0 es _ (Kd.V_mk hc0 (Kd.F_below (Kd.C_F (Kd.heap_slice 133 k133_heap) hr0) hB)) h).mono ?_
  rintro e w' ⟨v, rfl, ho, hb⟩
  obtain ⟨A, c, rfl⟩ := Kd.R_slice ho
  exact ⟨A, c, rfl, Kd.R_lower (Kd.R_mono ho (fun _ _ => trivial)) hB.size, hb⟩
theorem rC {w : World} {b n c : Nat} {A : Option Addr} {ok : Nat → Prop} {es : List S40} (h : Kd.R k40 40 w b ok (.slice A n c) es) : Kd.C k40 w A es.length es ∧ es.length ≤ c := by
  obtain ⟨h1, h2, h3⟩ := Kd.R_reads' h
  exact ⟨h3, h1 ▸ h2⟩
end Go.Proofs.Ytlljpjbhndcaiaa.Q
end
section
namespace Go.Proofs.Ytlljpjbhndcaiaa.Q
open Go.RowKit Go.Proofs.YtlljpjbhndcaiaaW.PrintWords Go.Proofs.YtlljpjbhndcaiaaW.PrintLast Go.Proofs.YtlljpjbhndcaiaaW.PrintMore
attribute [local go_sem] max2_int min2_int max_two min_two max_three min_three max_four min_four
set_option linter.unusedVariables false
set_option linter.unusedSimpArgs false
open Go.Shelf
attribute [local go_sem] Oper.semAt_some
def smooth_most (P S : Int) : Int := wrap64 (wrap64 (Int.tdiv (wrap64 (127 * P)) S) + 4)
def smooth_one (F1 F2 : Int) (F : List Int) (cd p q : Int) (most : Int) : Bool :=
  match grid_At.f F1 F2 F p q with
  | some (c, ok) => !ok || decide ((if wrap64 (wrap64 c - wrap64 cd) < wrap64 (-(wrap64 (wrap64 c - wrap64 cd))) then wrap64 (-(wrap64 (wrap64 c - wrap64 cd))) else wrap64 (wrap64 c - wrap64 cd)) ≤ most)
  | none => false
theorem smooth_one_eq {F1 F2 : Int} {F : List Int} {cd p q most : Int} (h : smooth_one F1 F2 F cd p q most = true) :
    ∃ c ok, grid_At.f F1 F2 F p q = some (c, ok) ∧ (ok = true → (if wrap64 (wrap64 c - wrap64 cd) < wrap64 (-(wrap64 (wrap64 c - wrap64 cd))) then wrap64 (-(wrap64 (wrap64 c - wrap64 cd))) else wrap64 (wrap64 c - wrap64 cd)) ≤ most) := by
  unfold smooth_one at h
  split at h
  · rename_i c ok he
    refine ⟨c, ok, he, fun hok => ?_⟩
    subst hok
    simpa using h
  · cases h
def smooth_ok (F1 F2 : Int) (F : List Int) (Wd : Nat) (most : Int) (n : Nat) : Bool :=
  smooth_one F1 F2 F (rd F n) (((n % Wd : Nat) : Int) + 1) ((n / Wd : Nat) : Int) most && smooth_one F1 F2 F (rd F n) ((n % Wd : Nat) : Int) (((n / Wd : Nat) : Int) + 1) most
def punchcutlaw10_SdfSmooth.f (k : Nat) (l0 : List (List S133)) (a1_0 a1_1 a1_2 a1_3 a1_4 a1_5 : Int) : Option Bool :=
  (punchcutlaw10_awake.f k).bind fun aw => if aw = true then (punchcutlaw06_Glyph.f k l0).bind fun es => (punchcutlaw09_Spec_Grid.f a1_0 a1_1 a1_2 a1_3 a1_4 a1_5).bind fun g =>
    (sdf_Make.f k es g.1 g.2.1 g.2.2.1 g.2.2.2.1 g.2.2.2.2.1 g.2.2.2.2.2).bind fun m =>
    if ((1 ≤ g.2.2.2.1 ∧ g.2.2.2.1 ≤ 24) ∧ (1 ≤ g.2.2.2.2.1 ∧ g.2.2.2.2.1 ≤ 24) ∧ 1 ≤ g.2.2.2.2.2) ∧ m.2.2.2 = 0 ∧ (m.2.2.1.length : Int) = g.2.2.2.1 * g.2.2.2.2.1
      ∧ ((List.range (g.2.2.2.1.toNat * g.2.2.2.2.1.toNat)).all (smooth_ok m.1 m.2.1 m.2.2.1 g.2.2.2.1.toNat (smooth_most g.2.2.1 g.2.2.2.2.2))) = true then some true else none
  else none
set_option maxHeartbeats 4000000 in
set_option maxRecDepth 100000 in
theorem punchcutlaw10_SdfSmooth.calls (k : Nat) (A0 : Option Addr) (c0 : Nat) (l0 : List (List S133)) (a1_0 a1_1 a1_2 a1_3 a1_4 a1_5 : Int) (r : Bool) (w : World) (hr0 : Kd.C (Kd.slice 133 k133) w A0 l0.length l0) (hc0 : l0.length ≤ c0) (h : punchcutlaw10_SdfSmooth.f k l0 a1_0 a1_1 a1_2 a1_3 a1_4 a1_5 = some r) :
    Calls Try.prog 13 #[.slice A0 l0.length c0, .agg #[.int .u8 a1_0, .int .u8 a1_1, .int .u8 a1_2, .int .u8 a1_3, .int .u8 a1_4, .int .u8 a1_5]] w fun e w' => e = .returned (.bool r) ∧ Below w.heap.size w w' := by
  unfold punchcutlaw10_SdfSmooth.f at h
  obtain ⟨aw, haw, h1⟩ := Option.bind_eq_some_iff.mp h
  clear h
  split at h1
  case isFalse => cases h1
  rename_i hT
  subst hT
  obtain ⟨es, hes, h2⟩ := Option.bind_eq_some_iff.mp h1
  obtain ⟨⟨X, Y, P, W, H, S⟩, hg, h3⟩ := Option.bind_eq_some_iff.mp h2
  obtain ⟨⟨F1, F2, F, E⟩, hF, h4⟩ := Option.bind_eq_some_iff.mp h3
  clear h1 h2 h3
  simp only at hF h4
  split at h4
  case isFalse => cases h4
  rename_i hall
  obtain rfl := Option.some.inj h4
  obtain ⟨⟨bW, bH, bS⟩, rfl, hlen, hok⟩ := hall
  obtain ⟨Wd, rfl⟩ : ∃ n : Nat, W = n := ⟨W.toNat, by omega⟩
  obtain ⟨Hd, rfl⟩ : ∃ n : Nat, H = n := ⟨H.toNat, by omega⟩
  simp only [Int.toNat_natCast] at hok
  have hlen' : F.length = Wd * Hd := by
    have : ((F.length : Nat) : Int) = ((Wd * Hd : Nat) : Int) := by rw [hlen, Int.natCast_mul]
    omega
  have m1 : wrap64 ((Wd : Int) * Hd) = (F.length : Int) := by rw [← hlen]; unfold wrap64; have := (show Wd * Hd ≤ 24 * 24 from Nat.mul_le_mul (by omega) (by omega)); omega
  have m2 : IntKind.i64.wrap ((Wd : Int) * Hd) = (F.length : Int) := by rw [← hlen]; have := (show Wd * Hd ≤ 24 * 24 from Nat.mul_le_mul (by omega) (by omega)); exact IntWalk.i64_in _ (by omega)
  have hmul : Wd * Hd ≤ 24 * 24 := Nat.mul_le_mul (by omega) (by omega)
  have HLEN := Aside0.mk hlen'
  clear hlen hlen'
  have HAW := Aside0.mk haw; have HES := Aside0.mk hes; have HG := Aside0.mk hg; have HF := Aside0.mk hF; have HOK := Aside0.mk hok; have HR0 := Aside0.mk hr0
  clear haw hes hg hF h4 hr0 hok
  refine (callsIn_wide (n := 3)).1 ?_
  refine callsIn_of_wp_marks Try.func13 rfl trivial ?_
  simp only [Try.ntmps13, List.size_toArray, List.length_cons, List.length_nil, Nat.reduceAdd, Nat.reduceSub, Array.replicate_succ, Array.replicate_zero, List.push_toArray, List.append_toArray, List.nil_append, List.cons_append]
  refine wpIn_wide.2 ?_
  go_wp2_with fail
  refine (punchcutlaw10_awake.calls k _ _ HAW.out).mono ?_
  rintro e w1 ⟨rfl, hb⟩
  have HB1 := Aside0.mk (bstep (balloc (balloc (Below.refl w.heap.size w) (.cells #[.int .u8 a1_0, .int .u8 a1_1, .int .u8 a1_2, .int .u8 a1_3, .int .u8 a1_4, .int .u8 a1_5] 50)) (.cells #[.bool false] 4)) hb)
  have P1 := Aside0.mk ((hb.block _ (by simp; omega)).trans (halloc (hnew w (.cells #[.int .u8 a1_0, .int .u8 a1_1, .int .u8 a1_2, .int .u8 a1_3, .int .u8 a1_4, .int .u8 a1_5] 50) rfl) (.cells #[.bool false] 4)))
  have R1 := Aside0.mk ((hb.block _ (by simp)).trans (hnew (w.alloc (.cells #[.int .u8 a1_0, .int .u8 a1_1, .int .u8 a1_2, .int .u8 a1_3, .int .u8 a1_4, .int .u8 a1_5] 50)) (.cells #[.bool false] 4) rfl))
  simp only [World.size_alloc] at R1
  have hz1 := hb.size
  simp only [World.size_alloc] at hz1
  clear hb
  go_wp2_with fail
  refine (glyph_at k _ _ l0 es w w1 HR0.out hc0 HB1.out HES.out).mono ?_
  rintro e w2 ⟨A, c, rfl, ho, hb⟩
  have hz2 := hb.size
  have HO2 := Aside0.mk ho
  have HB2 := Aside0.mk (bstep HB1.out hb)
  have P2 := Aside0.mk ((hb.block _ (Array.getElem?_eq_some_iff.1 P1.out).1).trans P1.out)
  have R2 := Aside0.mk ((hb.block _ (Array.getElem?_eq_some_iff.1 R1.out).1).trans R1.out)
  clear hb ho P1 HB1 R1
  obtain ⟨p0, p1, p2, p3, p4, p5⟩ := cells6 P2.out
  go_wp2_with fail
  refine (punchcutlaw09_Spec_Grid.calls _ _ _ _ _ _ _ _ _ _ _ _ _ HG.out).mono ?_
  rintro e w3 ⟨rfl, hb⟩
  have hz3 := hb.size
  obtain ⟨O3, hO3⟩ : ∃ o, o = (.cells #[.int .i64 X, .int .i64 Y, .int .i64 P, .int .i64 Wd, .int .i64 Hd, .int .i64 S] 53 : Obj) := ⟨_, rfl⟩
  have HO3 := Aside0.mk (Kd.R_below (Kd.R_below HO2.out hb) (balloc (Below.refl _ _) O3))
  have HB3 := Aside0.mk (balloc (bstep HB2.out hb) O3)
  have R3 := Aside0.mk (halloc ((hb.block _ (Array.getElem?_eq_some_iff.1 R2.out).1).trans R2.out) O3)
  have G3 := Aside0.mk (hnew w3 O3 rfl)
  rw [hO3] at HO3 HB3 R3 G3
  clear hb p0 p1 p2 p3 p4 p5 P2 HO2 HB2 R2 hO3
  obtain ⟨W3, hW3⟩ : ∃ W3 : World, W3 = w3.alloc (.cells #[.int .i64 X, .int .i64 Y, .int .i64 P, .int .i64 Wd, .int .i64 Hd, .int .i64 S] 53) := ⟨_, rfl⟩
  go_upto_region 5 with fail
  rw [← hW3] at HO3 HB3 R3 G3 ⊢
  have hs3 : w3.heap.size < W3.heap.size := by rw [hW3]; simp
  clear hW3
  obtain ⟨q0, q1, q2, q3, q4, q5⟩ := cells6 G3.out
  go_wp2_with fail
  refine (sdf_Make.calls k _ _ es _ _ _ _ _ _ _ _ _ _ _ (rC HO3.out).1 (rC HO3.out).2 HF.out).mono ?_
  rintro e w4 ⟨v, rfl, ho, hb⟩
  obtain ⟨AF, cF, rfl⟩ := Kd.R_slice ho
  have hz4 := hb.size
  obtain ⟨O4, hO4⟩ : ∃ o, o = (.cells #[.int .i64 F1, .int .i64 F2, .slice AF F.length cF] 57 : Obj) := ⟨_, rfl⟩
  have HF4 := Aside0.mk (Kd.R_below ho (balloc (Below.refl _ _) O4))
  have HB4 := Aside0.mk (balloc (bstep HB3.out hb) O4)
  have R4 := Aside0.mk (halloc ((hb.block _ (Array.getElem?_eq_some_iff.1 R3.out).1).trans R3.out) O4)
  have G4 := Aside0.mk (halloc ((hb.block _ (Array.getElem?_eq_some_iff.1 G3.out).1).trans G3.out) O4)
  have F4 := Aside0.mk (hnew w4 O4 rfl)
  rw [hO4] at HF4 HB4 R4 G4 F4
  clear hb ho q0 q1 q2 q3 q4 q5 G3 HO3 HB3 R3 hO4
  obtain ⟨W4, hW4⟩ : ∃ W4 : World, W4 = w4.alloc (.cells #[.int .i64 F1, .int .i64 F2, .slice AF F.length cF] 57) := ⟨_, rfl⟩
  go_upto_region 6 with fail
  rw [← hW4] at HF4 HB4 R4 G4 F4 ⊢
  have hs4 : w4.heap.size < W4.heap.size := by rw [hW4]; simp
  clear hW4
  obtain ⟨q0, q1, q2, q3, q4, q5⟩ := cells6 G4.out
  obtain ⟨f0, f1, f2⟩ := path_cells3 F4.out
  have hS0 : (S == 0) = false := by simpa using (show S ≠ 0 by omega)
  have hS1 : ¬ S = 0 := by omega
  obtain ⟨most, hmost⟩ : ∃ x, x = smooth_most P S := ⟨_, rfl⟩
  have HMOST := Aside0.mk hmost
  have hm1 : wrap64 (wrap64 (Int.tdiv (wrap64 (127 * P)) S) + 4) = most := hmost.symm
  clear hmost
  obtain ⟨O5, hO5⟩ : ∃ o, o = (.cells #[.int .i64 most] 3 : Obj) := ⟨_, rfl⟩
  obtain ⟨W5, hW5⟩ : ∃ W5 : World, W5 = W4.alloc O5 := ⟨_, rfl⟩
  have hs5 : W4.heap.size < W5.heap.size := by rw [hW5]; simp
  have HF5 : Aside0 (Kd.R (Kd.int .u8) 5 W5 W3.heap.size (fun _ => True) (.slice AF F.length cF) F) := ⟨by rw [hW5]; exact Kd.R_below HF4.out (balloc (Below.refl _ _) O5)⟩
  have HB5 : Aside0 (Below w.heap.size w W5) := ⟨by rw [hW5]; exact balloc HB4.out O5⟩
  have R5 : Aside0 (W5.heap[w.heap.size + 1]? = some (.cells #[.bool false] 4 (0, 0))) := ⟨by rw [hW5]; exact halloc R4.out O5⟩
  have G5 : Aside0 (W5.heap[w3.heap.size]? = some (.cells #[.int .i64 X, .int .i64 Y, .int .i64 P, .int .i64 Wd, .int .i64 Hd, .int .i64 S] 53 (0, 0))) := ⟨by rw [hW5]; exact halloc G4.out O5⟩
  have F5 : Aside0 (W5.heap[w4.heap.size]? = some (.cells #[.int .i64 F1, .int .i64 F2, .slice AF F.length cF] 57 (0, 0))) := ⟨by rw [hW5]; exact halloc F4.out O5⟩
  have M5 : Aside0 (W5.heap[W4.heap.size]? = some (.cells #[.int .i64 most] 3 (0, 0))) := ⟨by rw [hW5, hO5]; exact hnew _ _ rfl⟩
  go_upto_region 9 with fail
  rw [hm1, ← hO5, ← hW5]
  clear hW5 hO5 hm1 q0 q1 q2 q3 q4 q5 f0 f1 f2 HF4 HB4 R4 G4 F4
  obtain ⟨q0, q1, q2, q3, q4, q5⟩ := cells6 G5.out
  go_wp2_with fail
  refine (each_calls _ _ _ _ _ _ _).mono ?_
  rintro e w6 ⟨rfl, hw6⟩
  obtain ⟨O6, hO6⟩ : ∃ o, o = (.cells #[.int .i64 X, .int .i64 Y, .int .i64 P, .int .i64 Wd, .int .i64 Hd, .int .i64 S] 53 : Obj) := ⟨_, rfl⟩
  rw [← hO6] at hw6
  have hz6 : W5.heap.size < w6.heap.size := by rw [hw6]; simp
  have HF6 : Aside0 (Kd.R (Kd.int .u8) 5 w6 W3.heap.size (fun _ => True) (.slice AF F.length cF) F) := ⟨by rw [hw6]; exact Kd.R_below HF5.out (balloc (Below.refl _ _) O6)⟩
  have HB6 : Aside0 (Below w.heap.size w w6) := ⟨by rw [hw6]; exact balloc HB5.out O6⟩
  have R6 : Aside0 (w6.heap[w.heap.size + 1]? = some (.cells #[.bool false] 4 (0, 0))) := ⟨by rw [hw6]; exact halloc R5.out O6⟩
  have G6 : Aside0 (w6.heap[w3.heap.size]? = some (.cells #[.int .i64 X, .int .i64 Y, .int .i64 P, .int .i64 Wd, .int .i64 Hd, .int .i64 S] 53 (0, 0))) := ⟨by rw [hw6]; exact halloc G5.out O6⟩
  have F6 : Aside0 (w6.heap[w4.heap.size]? = some (.cells #[.int .i64 F1, .int .i64 F2, .slice AF F.length cF] 57 (0, 0))) := ⟨by rw [hw6]; exact halloc F5.out O6⟩
  have M6 : Aside0 (w6.heap[W4.heap.size]? = some (.cells #[.int .i64 most] 3 (0, 0))) := ⟨by rw [hw6]; exact halloc M5.out O6⟩
  have B6 : Aside0 (GridAt W5.heap.size X Y P Wd Hd S w6) := ⟨by rw [hw6]; unfold GridAt; rw [hO6]; exact hnew _ _ rfl⟩
  clear hw6 hO6 q0 q1 q2 q3 q4 q5 m1 m2 HF5 HB5 R5 G5 F5 M5
  go_wp2_with fail
  refine each_loop rfl rfl (by omega) B6.out (by omega) (by omega) (fun _ W => Below w6.heap.size w6 W) (ownFrom_below (Nat.le_refl _) (Nat.le_refl _)) (Below.refl _ _) 10 11 ?assign ?body ?done
  case assign =>
    intro l x W K hK
    simp only [eachAct, encs] at hK ⊢
    gi_wp2
    simpa using hK
  case body =>
    rintro l pre x Wb hI hlen
    have hxl : x.1 < Wd * Hd := x.2
    have hoki : smooth_ok F1 F2 F Wd most x.1 = true := by have := List.all_eq_true.1 HOK.out x.1 (List.mem_range.2 hxl); rw [HMOST.out]; exact this
    have hdm : Wd * (x.1 / Wd) + x.1 % Wd = x.1 := Nat.div_add_mod _ _
    have hiW : x.1 % Wd < Wd := Nat.mod_lt _ (by omega)
    have hjH : x.1 / Wd < Hd := Nat.div_lt_of_lt_mul hxl
    unfold smooth_ok at hoki
    simp only [eachAct, encs]
    generalize x.1 % Wd = i at *
    generalize x.1 / Wd = j at *
    rw [Bool.and_eq_true] at hoki
    have hz : w6.heap.size ≤ Wb.heap.size := hI.size
    have hg6 := (Array.getElem?_eq_some_iff.1 G6.out).1
    have hf6 := (Array.getElem?_eq_some_iff.1 F6.out).1
    have hm6 := (Array.getElem?_eq_some_iff.1 M6.out).1
    have hL := HLEN.out
    have hixe : ((x.1 : Nat) : Int) = (j : Int) * Wd + i := by rw [← hdm, Int.natCast_add, Int.natCast_mul, Int.mul_comm]
    obtain ⟨hFl, hFc, hFC⟩ := Kd.R_reads' (Kd.R_below HF6.out hI)
    obtain ⟨ad, rfl, hx⟩ := Kd.at_int hFC (x.1 : Int) (by omega) (by omega)
    obtain ⟨m, hm⟩ : ∃ m : Int, (j : Int) * Wd = m := ⟨_, rfl⟩
    have hj2 : 0 ≤ (j : Int) * Wd := Int.mul_nonneg (by omega) (by omega)
    have e1 : IntKind.i64.wrap ((j : Int) * Wd) = m := by rw [← hm]; exact IntWalk.i64_in _ (by omega)
    obtain ⟨ix, hix⟩ : ∃ ix : Int, ix = (x.1 : Int) := ⟨_, rfl⟩
    have e2 : IntKind.i64.wrap (m + (i : Int)) = ix := by rw [← hm, hix, hixe]; exact IntWalk.i64_in _ (by omega)
    have i0 : 0 ≤ ix := by omega
    have i1 : ix < (F.length : Int) := by omega
    obtain ⟨cd, hcd⟩ : ∃ cd, cd = rd F x.1 := ⟨_, rfl⟩
    rw [← hix] at hx
    rw [show rd F ix = cd by rw [hix, hcd]] at hx
    rw [← hcd] at hoki
    have HOKI := Aside0.mk hoki; have HI := Aside0.mk hI
    clear hoki hI hdm hixe hL hcd hix hm hj2 hFl
    gi_wp2
    gi_loopw [57] (fun s57 V => ∃ q : Nat, q ≤ 2 ∧ s57 = .int .i64 q ∧ Aside0 (Below Wb.heap.size Wb V ∧ V.heap[Wb.heap.size]? = some (.cells #[.int .i64 1, .int .i64 0, .int .i64 0, .int .i64 1] 76 (0, 0)))) (fun s57 _ => 2 - (intOf s57).toNat)
    case atStart => exact ⟨0, by omega, rfl, ⟨balloc (Below.refl _ _) _, hnew _ _ rfl⟩⟩
    case round =>
      obtain ⟨q, hq, rfl, HR⟩ := hrel
      obtain ⟨hBV, hS⟩ := HR.out
      obtain ⟨s0, s1, s2, s3⟩ := cells4 hS
      obtain ⟨q0, q1, q2, q3, q4, q5⟩ := cells6 ((hBV.block _ (by omega)).trans ((HI.out.block _ hg6).trans G6.out))
      obtain ⟨f0, f1, f2⟩ := path_cells3 ((hBV.block _ (by omega)).trans ((HI.out.block _ hf6).trans F6.out))
      obtain ⟨m0, _⟩ := cells1 ((hBV.block _ (by omega)).trans ((HI.out.block _ hm6).trans M6.out))
      have hxV := (hBV.cell (World.block_lt_of_cell? _ _ hx)).trans hx
      have hFCV := Aside0.mk (Kd.C_below hFC hBV)
      have hsV := hBV.size
      have hslt := (Array.getElem?_eq_some_iff.1 hS).1
      have HBV := Aside0.mk hBV; have HS := Aside0.mk hS
      clear hBV hS HR
      obtain ⟨V, rfl⟩ : ∃ V : World, V = wr := ⟨_, rfl⟩
      by_cases hq0 : q = 0
      · subst hq0
        obtain ⟨c', ok, hat, hmx⟩ := smooth_one_eq HOKI.out.1
        have HAT := Aside0.mk hat; have HMX := Aside0.mk hmx
        clear hat hmx
        have f0a := calloc f0 (.cells #[.int .i64 1, .int .i64 0] 76); have f1a := calloc f1 (.cells #[.int .i64 1, .int .i64 0] 76); have f2a := calloc f2 (.cells #[.int .i64 1, .int .i64 0] 76)
        gi_wp2
        refine ⟨trivial, (CallsIn.inRound l (callsIn_wide.2 (grid_At.calls F1 F2 (some ad) cF F ((i : Int) + 1) j c' ok _ (Kd.C_below hFCV.out (balloc (Below.refl _ _) _)) hFc HAT.out))).mono ?_⟩
        rintro e V3 ⟨rfl, hb3⟩
        have HB3 := Aside0.mk (bstep (balloc HBV.out (.cells #[.int .i64 1, .int .i64 0] 76)) hb3)
        have S3 := Aside0.mk ((hb3.block _ (by simp; omega)).trans (halloc HS.out (.cells #[.int .i64 1, .int .i64 0] 76)))
        have hz3 := hb3.size
        clear hb3 s0 s1 s2 s3 q0 q1 q2 q3 q4 q5 f0 f1 f2 f0a f1a f2a m0 hxV
        obtain ⟨q0, q1, q2, q3, q4, q5⟩ := cells6 ((HB3.out.block _ (by omega)).trans ((HI.out.block _ hg6).trans G6.out))
        obtain ⟨f0, f1, f2⟩ := path_cells3 ((HB3.out.block _ (by omega)).trans ((HI.out.block _ hf6).trans F6.out))
        obtain ⟨m0, _⟩ := cells1 ((HB3.out.block _ (by omega)).trans ((HI.out.block _ hm6).trans M6.out))
        have hxV := (HB3.out.cell (World.block_lt_of_cell? _ _ hx)).trans hx
        cases ok with
        | false =>
          gi_wp2
          go_roundw
          case rel => exact ⟨0 + 1, by omega, by go_num, ⟨HB3.out, S3.out⟩⟩
          case measure => simp [intOf]
        | true =>
          have hmx := HMX.out rfl
          gi_wp2
          go_roundw
          case rel => exact ⟨0 + 1, by omega, by go_num, ⟨HB3.out, S3.out⟩⟩
          case measure => simp [intOf]
      · by_cases hq1 : q = 1
        · subst hq1
          obtain ⟨c', ok, hat, hmx⟩ := smooth_one_eq HOKI.out.2
          have HAT := Aside0.mk hat; have HMX := Aside0.mk hmx
          clear hat hmx
          have f0a := calloc f0 (.cells #[.int .i64 0, .int .i64 1] 76); have f1a := calloc f1 (.cells #[.int .i64 0, .int .i64 1] 76); have f2a := calloc f2 (.cells #[.int .i64 0, .int .i64 1] 76)
          gi_wp2
          refine ⟨trivial, (CallsIn.inRound l (callsIn_wide.2 (grid_At.calls F1 F2 (some ad) cF F i ((j : Int) + 1) c' ok _ (Kd.C_below hFCV.out (balloc (Below.refl _ _) _)) hFc HAT.out))).mono ?_⟩
          rintro e V3 ⟨rfl, hb3⟩
          have HB3 := Aside0.mk (bstep (balloc HBV.out (.cells #[.int .i64 0, .int .i64 1] 76)) hb3)
          have S3 := Aside0.mk ((hb3.block _ (by simp; omega)).trans (halloc HS.out (.cells #[.int .i64 0, .int .i64 1] 76)))
          have hz3 := hb3.size
          clear hb3 s0 s1 s2 s3 q0 q1 q2 q3 q4 q5 f0 f1 f2 f0a f1a f2a m0 hxV
          obtain ⟨q0, q1, q2, q3, q4, q5⟩ := cells6 ((HB3.out.block _ (by omega)).trans ((HI.out.block _ hg6).trans G6.out))
          obtain ⟨f0, f1, f2⟩ := path_cells3 ((HB3.out.block _ (by omega)).trans ((HI.out.block _ hf6).trans F6.out))
          obtain ⟨m0, _⟩ := cells1 ((HB3.out.block _ (by omega)).trans ((HI.out.block _ hm6).trans M6.out))
          have hxV := (HB3.out.cell (World.block_lt_of_cell? _ _ hx)).trans hx
          cases ok with
          | false =>
            gi_wp2
            go_roundw
            case rel => exact ⟨1 + 1, by omega, by go_num, ⟨HB3.out, S3.out⟩⟩
            case measure => simp [intOf]
          | true =>
            have hmx := HMX.out rfl
            gi_wp2
            go_roundw
            case rel => exact ⟨1 + 1, by omega, by go_num, ⟨HB3.out, S3.out⟩⟩
            case measure => simp [intOf]
        · obtain rfl : q = 2 := by omega
          have fin : KeepsFrom w6.heap.size Wb V ∧ KeepsAt W5.heap.size Wb V ∧ Below w6.heap.size w6 V :=
            ⟨⟨HBV.out.size, fun b o _ hb _ => (HBV.out.block b (Array.getElem?_eq_some_iff.1 hb).1).trans hb⟩, HBV.out.block _ (by omega), bstep HI.out HBV.out⟩
          have FIN := Aside0.mk fin
          clear fin
          gi_wp2
          exact FIN.out
  case done =>
    rintro D W hD hI hK
    have hrow := (hI.block _ (by omega)).trans R6.out
    obtain ⟨r0, rz⟩ := cells1 hrow
    have HI := Aside0.mk hI
    have HROW := Aside0.mk hrow
    clear hI hrow
    go_wp2_with fail
    have hK' : (W.setCell ⟨w.heap.size + 1, 0, none⟩ (.bool true)).heap[D]? = some (.deferred (some [])) := hset hK (by omega) _
    refine ⟨by simp, .inl ⟨_, _, rfl, run_takeDeferred hK', ?_⟩⟩
    have hbw := HB6.out.size
    have hr1 := (Array.getElem?_eq_some_iff.1 R6.out).1
    have hc1 : ((W.setCell ⟨w.heap.size + 1, 0, none⟩ (.bool true)).putObj D (.deferred none)).cell? ⟨w.heap.size + 1, 0, none⟩ = some (.bool true) := (cells1 ((World.putObj_heap_other (by omega)).trans (hset1 HROW.out))).1
    exact ⟨.bool true, by simp [results, Try.results13, go_sem, hc1], rfl, (bset (bstep HB6.out HI.out) (by omega) _).trans (belowK_b (w := w) (Nat.le_refl _) _ D _ _ (by omega) hK' rfl rfl)⟩
end Go.Proofs.Ytlljpjbhndcaiaa.Q
end
section
set_option linter.unusedVariables false
set_option linter.unusedSimpArgs false
namespace Go.Proofs.Ytlljpjbhndcaiaa.M
open Go.RowKit Go.Proofs.Ytlljpjbhndcaiaa.Q Go.Proofs.YtlljpjbhndcaiaaW.PrintWords Go.Proofs.YtlljpjbhndcaiaaW.PrintLast Go.Proofs.YtlljpjbhndcaiaaW.PrintMore
def Ret {α : Type} (g : Nat → Option α) (r : α) : Prop := ∃ K, ∀ k, K ≤ k → g k = some r
theorem Ret.const {α : Type} {x : Option α} {r : α} (h : x = some r) : Ret (fun _ => x) r := ⟨0, fun _ _ => h⟩
theorem Ret.bind {α β : Type} {g : Nat → Option α} {h : Nat → α → Option β} {a : α} {r : β} (h1 : Ret g a) (h2 : Ret (fun k => h k a) r) : Ret (fun k => (g k).bind (h k)) r := by
  obtain ⟨K1, h1⟩ := h1
  obtain ⟨K2, h2⟩ := h2
  refine ⟨max K1 K2, fun k hk => ?_⟩
  show (g k).bind (h k) = some r
  rw [h1 k (by omega)]
  exact h2 k (by omega)
theorem Ret.succ {α : Type} {g : Nat → Option α} {r : α} (h : Ret (fun k => g (k + 1)) r) : Ret g r := by
  obtain ⟨K, h⟩ := h
  refine ⟨K + 1, fun k hk => ?_⟩
  have := h (k - 1) (by omega)
  simp only [show k - 1 + 1 = k by omega] at this
  exact this
theorem Ret.of {α : Type} {g : Nat → Option α} {r : α} (h : Ret g r) : ∃ k, g k = some r := by
  obtain ⟨K, h⟩ := h
  exact ⟨K, h K (Nat.le_refl _)⟩
theorem Ret.unique {α : Type} {g : Nat → Option α} {r s : α} (h : Ret g r) (h' : Ret g s) : r = s := by
  obtain ⟨K, h⟩ := h
  obtain ⟨K', h'⟩ := h'
  have a := h (max K K') (by omega)
  have b := h' (max K K') (by omega)
  rw [a] at b
  exact Option.some.inj b
theorem Ret.congr {α : Type} {g g' : Nat → Option α} {r : α} (h : Ret g r) (e : ∀ k, g' k = g k) : Ret g' r := by
  obtain ⟨K, h⟩ := h
  exact ⟨K, fun k hk => (e k).trans (h k hk)⟩
theorem w64 {n : Int} (h : -9223372036854775808 ≤ n) (h' : n ≤ 9223372036854775807) : wrap64 n = n := by unfold wrap64; omega
theorem wu64 (n : Int) : IntKind.u64.wrap n = n % 18446744073709551616 := by simp [IntKind.wrap, IntKind.bits, IntKind.signed]
theorem wu64_in (n : Int) (h0 : 0 ≤ n) (h1 : n < 2 ^ 64) : IntKind.u64.wrap n = n := by rw [wu64]; omega
theorem and_low (a : Int) (h0 : 0 ≤ a) (h1 : a < 18446744073709551616) : Go.bits .and .u64 a 4294967295 = a % 4294967296 :=
  bits_mask .u64 64 (by decide) wu64_in 32 (by decide) a h0 (by omega)
theorem and_one (a : Int) (h0 : 0 ≤ a) (h1 : a < 18446744073709551616) : Go.bits .and .u64 a 1 = a % 2 :=
  bits_mask .u64 64 (by decide) wu64_in 1 (by decide) a h0 (by omega)
theorem mul_bound {a b n m : Int} (ha0 : 0 ≤ a) (ha : a ≤ n) (hb0 : 0 ≤ b) (hb : b ≤ m) : 0 ≤ a * b ∧ a * b ≤ n * m :=
  ⟨Int.mul_nonneg ha0 hb0, Int.mul_le_mul ha hb hb0 (by omega)⟩
theorem mul_eq (a b : Int) (ha0 : 0 ≤ a) (ha : a < 18446744073709551616) (hb0 : 0 ≤ b) (hb : b < 18446744073709551616) :
    wide_Mul.f a b = some ((a * b) / 18446744073709551616, (a * b) % 18446744073709551616) := by
  unfold wide_Mul.f
  rw [and_low a ha0 ha, and_low b hb0 hb]
  obtain ⟨x, hx⟩ : ∃ x, a / 4294967296 = x := ⟨_, rfl⟩
  obtain ⟨y, hy⟩ : ∃ y, a % 4294967296 = y := ⟨_, rfl⟩
  obtain ⟨u, hu⟩ : ∃ u, b / 4294967296 = u := ⟨_, rfl⟩
  obtain ⟨v, hv⟩ : ∃ v, b % 4294967296 = v := ⟨_, rfl⟩
  rw [hx, hy, hu, hv]
  have ea : a = x * 4294967296 + y := by omega
  have eb : b = u * 4294967296 + v := by omega
  have e : a * b = x * u * 18446744073709551616 + (x * v + y * u) * 4294967296 + y * v := by rw [ea, eb]; grind
  have h1 := mul_bound (a := x) (b := u) (n := 4294967295) (m := 4294967295) (by omega) (by omega) (by omega) (by omega)
  have h2 := mul_bound (a := x) (b := v) (n := 4294967295) (m := 4294967295) (by omega) (by omega) (by omega) (by omega)
  have h3 := mul_bound (a := y) (b := u) (n := 4294967295) (m := 4294967295) (by omega) (by omega) (by omega) (by omega)
  have h4 := mul_bound (a := y) (b := v) (n := 4294967295) (m := 4294967295) (by omega) (by omega) (by omega) (by omega)
  rw [e]
  generalize x * u = p at *
  generalize x * v = q at *
  generalize y * u = r at *
  generalize y * v = s at *
  clear e ea eb hx hy hu hv ha hb ha0 hb0
  simp only [wu64]
  have m1 : Go.bits .and .u64 (q % 18446744073709551616) 4294967295 = (q % 18446744073709551616) % 4294967296 := and_low _ (by omega) (by omega)
  have m2 : Go.bits .and .u64 (r % 18446744073709551616) 4294967295 = (r % 18446744073709551616) % 4294967296 := and_low _ (by omega) (by omega)
  rw [m1, m2]
  congr 2 <;> omega
theorem pair_compare (a b c d : Int) : Ret (fun k => wide_Pair_Compare.f k a b c d) (if a < c ∨ (a = c ∧ b < d) then -1 else if a = c ∧ b = d then 0 else 1) := by
  refine ⟨1, fun k hk => ?_⟩
  obtain ⟨k, rfl⟩ : ∃ j, k = j + 1 := ⟨k - 1, by omega⟩
  unfold wide_Pair_Compare.f
  by_cases h1 : a < c
  · simp [h1, wide_Pair_Compare.j0]
  · by_cases h2 : a = c
    · subst h2
      by_cases h3 : b < d
      · simp [h3, wide_Pair_Compare.j0]
      · by_cases h4 : b = d
        · subst h4
          simp [wide_Pair_Compare.j0]
        · simp [h3, h4, wide_Pair_Compare.j0]
    · simp [h1, h2, wide_Pair_Compare.j0]
def cmp (x y : Int) : Int := if x < y then -1 else if x = y then 0 else 1
theorem less_eq (a b c d : Int) (ha0 : 0 ≤ a) (ha : a < 9223372036854775808) (hb0 : 0 ≤ b) (hb : b < 9223372036854775808) (hc0 : 0 ≤ c) (hc : c < 9223372036854775808) (hd0 : 0 ≤ d) (hd : d < 9223372036854775808) :
    Ret (fun k => root_Compare.f k a b c d) (cmp (a * d) (c * b)) := by
  unfold root_Compare.f wide_Less.f
  simp only [wu64]
  rw [Int.emod_eq_of_lt ha0 (by omega), Int.emod_eq_of_lt hb0 (by omega), Int.emod_eq_of_lt hc0 (by omega), Int.emod_eq_of_lt hd0 (by omega), mul_eq a d ha0 (by omega) hd0 (by omega), mul_eq c b hc0 (by omega) hb0 (by omega)]
  refine Ret.bind (a := cmp (a * d) (c * b)) ?_ (Ret.const rfl)
  refine Ret.bind (Ret.const rfl) ?_
  refine Ret.bind (Ret.const rfl) ?_
  refine Ret.bind (pair_compare _ _ _ _) (Ret.const ?_)
  congr 1
  unfold cmp
  generalize a * d = m
  generalize c * b = n
  repeat' split
  all_goals omega
theorem div_l0 (hi lo d : Int) (hd : d < 18446744073709551616) (hlo0 : 0 ≤ lo) (hlo : lo < 18446744073709551616) :
    ∀ (j : Nat) (V t q r : Int), j ≤ 64 → t = q * d + r → 0 ≤ r → r < d → 0 ≤ q → V = t * 2 ^ j + lo % 2 ^ j → q * 2 ^ j + 2 ^ j ≤ 18446744073709551616 →
    Ret (fun k => wide_Pair_Div.l0 k d (q * 2 ^ j) r ((j : Int) - 1) hi lo) (V / d, V % d, 0) := by
  intro j
  induction j with
  | zero =>
    intro V t q r _ ht hr0 hr hq hV _
    refine Ret.succ (Ret.const ?_)
    simp only [Int.pow_zero, Int.mul_one, Int.emod_one, Int.add_zero] at hV ⊢
    subst hV ht
    have e1 : (q * d + r) / d = q := by
      rw [Int.add_comm, Int.add_mul_ediv_right _ _ (by omega), Int.ediv_eq_zero_of_lt hr0 hr]; omega
    have e2 : (q * d + r) % d = r := by
      rw [Int.add_comm, Int.add_mul_emod_self_right, Int.emod_eq_of_lt hr0 hr]
    rw [e1, e2]
  | succ j ih =>
    intro V t q r hj ht hr0 hr hq hV hb
    have hP : (1 : Int) ≤ 2 ^ j := by
      have := Int.pow_pos (n := 2) (m := j) (by omega)
      omega
    have e2 : (2 : Int) ^ (j + 1) = 2 * 2 ^ j := by rw [Int.pow_succ]; omega
    have hP64 : (2 : Int) ^ j ≤ 9223372036854775808 := by
      have : (2 : Nat) ^ j ≤ 2 ^ 63 := Nat.pow_le_pow_right (by omega) (by omega)
      have h2 : ((2 ^ j : Nat) : Int) ≤ ((2 ^ 63 : Nat) : Int) := by exact_mod_cast this
      simpa using h2
    have hs : shr .u64 lo (((j + 1 : Nat) : Int) - 1) = lo / 2 ^ j := by
      unfold shr
      rw [show (((j + 1 : Nat) : Int) - 1).toNat = j by omega, Nat.min_eq_left (by show j ≤ 64; omega)]
    have hl : shl .u64 1 (((j + 1 : Nat) : Int) - 1) = 2 ^ j := by
      unfold shl
      rw [show (((j + 1 : Nat) : Int) - 1).toNat = j by omega, Nat.min_eq_left (by show j ≤ 64; omega), wu64, Int.one_mul]
      exact Int.emod_eq_of_lt (by omega) (by omega)
    have hd0 : 0 ≤ lo / 2 ^ j := Int.ediv_nonneg hlo0 (by omega)
    have hd1 : lo / 2 ^ j ≤ lo := Int.ediv_le_self _ hlo0
    have hbit : Go.bits .and .u64 (lo / 2 ^ j) 1 = (lo / 2 ^ j) % 2 := and_one _ hd0 (by omega)
    have hmod : lo % 2 ^ (j + 1) = (lo / 2 ^ j % 2) * 2 ^ j + lo % 2 ^ j := by
      have h1 := Int.mul_ediv_add_emod lo (2 ^ j)
      have h2 := Int.emod_nonneg lo (show (2 : Int) ^ j ≠ 0 by omega)
      have h3 := Int.emod_lt_of_pos lo (show (0 : Int) < 2 ^ j by omega)
      have h4 := Int.mul_ediv_add_emod (lo / 2 ^ j) 2
      generalize lo / 2 ^ j = m at *
      generalize lo % 2 ^ j = n at *
      have h5 : 0 ≤ m % 2 ∧ m % 2 ≤ 1 := by omega
      generalize m % 2 = b at *
      generalize m / 2 = c at *
      rw [e2, ← h1, ← h4]
      generalize (2 : Int) ^ j = P at *
      have e : P * (2 * c + b) + n = (b * P + n) + (2 * P) * c := by grind
      rw [e, Int.add_mul_emod_self_left]
      have h6 : 0 ≤ b * P ∧ b * P ≤ 1 * P := mul_bound h5.1 h5.2 (by omega) (Int.le_refl _)
      exact Int.emod_eq_of_lt (by omega) (by omega)
    obtain ⟨b, hbb⟩ : ∃ b, lo / 2 ^ j % 2 = b := ⟨_, rfl⟩
    have hb01 : 0 ≤ b ∧ b ≤ 1 := by omega
    have hor : Go.bits .or .u64 (IntKind.u64.wrap (r * 2)) b = (r * 2) % 18446744073709551616 + b := by
      rw [wu64]
      exact bits_join .u64 64 (by decide) wu64_in 1 _ _ (by omega) (by omega) (by omega) (by omega) (by omega) (by omega)
    have hqP : 0 ≤ q * 2 ^ j := Int.mul_nonneg hq (by omega)
    have hout : Go.bits .or .u64 (q * 2 ^ (j + 1)) (2 ^ j) = (2 * q + 1) * 2 ^ j := by
      have h := bits_join .u64 64 (by decide) wu64_in (j + 1) (q * 2 ^ (j + 1)) (2 ^ j) (by rw [e2]; grind) (by simp) (by omega) (by omega) (by rw [e2]; omega) (by omega)
      rw [h, e2]
      grind
    refine Ret.succ ?_
    refine Ret.congr (g := fun k => if d ≤ 2 * r + b then wide_Pair_Div.l0 k d ((2 * q + 1) * 2 ^ j) (2 * r + b - d) ((j : Int) - 1) hi lo else wide_Pair_Div.l0 k d ((2 * q) * 2 ^ j) (2 * r + b) ((j : Int) - 1) hi lo) ?_ ?_
    · by_cases hc : d ≤ 2 * r + b
      · simp only [if_pos hc]
        refine ih V (2 * t + b) (2 * q + 1) (2 * r + b - d) (by omega) (by rw [ht]; grind) (by omega) (by omega) (by omega) ?_ ?_
        · rw [hV, hmod, e2, hbb]; grind
        · have : (2 * q + 1) * 2 ^ j + 2 ^ j = q * 2 ^ (j + 1) + 2 ^ (j + 1) := by rw [e2]; grind
          omega
      · simp only [if_neg hc]
        refine ih V (2 * t + b) (2 * q) (2 * r + b) (by omega) (by rw [ht]; grind) (by omega) (by omega) (by omega) ?_ ?_
        · rw [hV, hmod, e2, hbb]; grind
        · have : 2 * q * 2 ^ j + 2 ^ j + 2 ^ j = q * 2 ^ (j + 1) + 2 ^ (j + 1) := by rw [e2]; grind
          omega
    · intro k
      show wide_Pair_Div.l0 (k + 1) d (q * 2 ^ (j + 1)) r (((j + 1 : Nat) : Int) - 1) hi lo = _
      rw [wide_Pair_Div.l0, if_pos (by omega), if_pos (by omega), hs, hl, hbit, hbb, hor, hout, wu64]
      have ej : wrap64 ((((j + 1 : Nat) : Int) - 1) - 1) = (j : Int) - 1 := by unfold wrap64; omega
      rw [ej]
      by_cases ht : r / 9223372036854775808 = 1
      · rw [if_pos ht, if_pos (by omega)]
        congr 1
        omega
      · rw [if_neg ht]
        have e3 : (r * 2) % 18446744073709551616 + b = 2 * r + b := by omega
        rw [e3]
        by_cases hc : d ≤ 2 * r + b
        · rw [if_pos hc, if_pos hc]
          congr 1
          omega
        · rw [if_neg hc, if_neg hc, e2]
          congr 1
          grind
theorem div_eq (hi lo d : Int) (hh0 : 0 ≤ hi) (hh : hi < d) (hd : d < 18446744073709551616) (hlo0 : 0 ≤ lo) (hlo : lo < 18446744073709551616) :
    Ret (fun k => wide_Pair_Div.f k hi lo d) ((hi * 18446744073709551616 + lo) / d, (hi * 18446744073709551616 + lo) % d, 0) := by
  have h := div_l0 hi lo d hd hlo0 hlo 64 (hi * 18446744073709551616 + lo) hi 0 hi (Nat.le_refl _) (by omega) hh0 hh (by omega) (by omega) (by omega)
  refine Ret.congr h fun k => ?_
  show wide_Pair_Div.f k hi lo d = _
  unfold wide_Pair_Div.f
  rw [if_neg (by omega)]
  simp
end Go.Proofs.Ytlljpjbhndcaiaa.M
end
section
set_option linter.unusedVariables false
set_option linter.unusedSimpArgs false
namespace Go.Proofs.Ytlljpjbhndcaiaa.M
open Go.RowKit Go.Proofs.Ytlljpjbhndcaiaa.Q Go.Proofs.YtlljpjbhndcaiaaW.PrintWords Go.Proofs.YtlljpjbhndcaiaaW.PrintLast Go.Proofs.YtlljpjbhndcaiaaW.PrintMore
theorem sqrt_l0 (n : Int) (hn0 : 0 ≤ n) (hn : n < 9223372036854775808) : ∀ (m : Nat) (lo hi : Int), (hi - lo).toNat ≤ m → 0 ≤ lo → lo < hi → hi ≤ 3037000500 → lo * lo ≤ n → n < hi * hi →
    ∃ s, 0 ≤ s ∧ s * s ≤ n ∧ n < (s + 1) * (s + 1) ∧ Ret (fun k => root_Sqrt.l0 k n lo hi) s := by
  intro m
  induction m with
  | zero => intro lo hi h1 h2 h3; omega
  | succ m ih =>
    intro lo hi h1 h2 h3 h4 h5 h6
    by_cases hz : n > 0 ∧ lo < hi - 1
    · obtain ⟨mid, hm⟩ : ∃ mid, Int.tdiv (lo + hi) 2 = mid := ⟨_, rfl⟩
      have hmid : mid = (lo + hi) / 2 := by rw [← hm, Int.tdiv_eq_ediv_of_nonneg (by omega)]
      have hsq : 0 ≤ mid * mid ∧ mid * mid ≤ 3037000499 * 3037000499 := mul_bound (by omega) (by omega) (by omega) (by omega)
      have step : ∀ k, root_Sqrt.l0 (k + 1 + 1) n lo hi = if mid * mid ≤ n then root_Sqrt.l0 k n mid hi else root_Sqrt.l0 k n lo mid := by
        intro k
        rw [root_Sqrt.l0, if_pos hz.1, w64 (n := hi - 1) (by omega) (by omega), root_Sqrt.j1, decide_eq_true hz.2, if_pos rfl, w64 (n := lo + hi) (by omega) (by omega), hm, w64 (n := mid) (by omega) (by omega), w64 (n := mid * mid) (by omega) (by omega)]
      by_cases hc : mid * mid ≤ n
      · obtain ⟨s, s0, s1, s2, hr⟩ := ih mid hi (by omega) (by omega) (by omega) h4 hc h6
        refine ⟨s, s0, s1, s2, Ret.succ (Ret.succ (Ret.congr hr fun k => ?_))⟩
        rw [step, if_pos hc]
      · obtain ⟨s, s0, s1, s2, hr⟩ := ih lo mid (by omega) (by omega) (by omega) (by omega) h5 (by omega)
        refine ⟨s, s0, s1, s2, Ret.succ (Ret.succ (Ret.congr hr fun k => ?_))⟩
        rw [step, if_neg hc]
    · have fin : ∀ k, root_Sqrt.l0 (k + 1 + 1) n lo hi = some lo := by
        intro k
        rw [root_Sqrt.l0]
        by_cases hn1 : n > 0
        · rw [if_pos hn1, w64 (by omega) (by omega), decide_eq_false (by omega), root_Sqrt.j1, if_neg (by simp)]
        · rw [if_neg hn1, root_Sqrt.j1, if_neg (by simp)]
      refine ⟨lo, h2, h5, ?_, Ret.succ (Ret.succ (Ret.congr (Ret.const rfl) fin))⟩
      · by_cases hn1 : n > 0
        · have : hi = lo + 1 := by omega
          rw [← this]; exact h6
        · have : n = 0 := by omega
          have := Int.mul_pos (a := lo + 1) (b := lo + 1) (by omega) (by omega)
          omega
theorem sqrt_eq (n : Int) (hn0 : 0 ≤ n) (hn : n < 9223372036854775808) : ∃ s, 0 ≤ s ∧ s * s ≤ n ∧ n < (s + 1) * (s + 1) ∧ Ret (fun k => root_Sqrt.f k n) s := by
  obtain ⟨s, h0, h1, h2, hr⟩ := sqrt_l0 n hn0 hn _ 0 3037000500 (Nat.le_refl _) (by omega) (by omega) (by omega) (by omega) (by omega)
  exact ⟨s, h0, h1, h2, hr⟩
theorem of_l0 (num den : Int) (hn0 : 0 ≤ num) (hn : num < 9223372036854775808) (hd0 : 1 ≤ den) (hd : den < 9223372036854775808) : ∀ (m : Nat) (a b : Int), b.toNat ≤ m → 0 ≤ a → 0 ≤ b → a + b ≥ 1 → a < 9223372036854775808 → b < 9223372036854775808 →
    (∀ g, g ∣ a → g ∣ b → g ∣ num ∧ g ∣ den) →
    ∃ g n' d', 1 ≤ g ∧ num = n' * g ∧ den = d' * g ∧ Ret (fun k => root_Of.l0 k num den a b) (n', d', 0) := by
  intro m
  induction m with
  | zero =>
    intro a b hm ha hb hab ha1 hb1 hg
    obtain rfl : b = 0 := by omega
    obtain ⟨⟨n', hn'⟩, ⟨d', hd'⟩⟩ := hg a (Int.dvd_refl _) (Int.dvd_zero _)
    refine ⟨a, n', d', by omega, by rw [hn']; grind, by rw [hd']; grind, Ret.succ (Ret.const (?_ : root_Of.l0 (0 + 1) num den a 0 = _))⟩
    have e1 : Int.tdiv num a = n' := by rw [hn', Int.mul_tdiv_cancel_left _ (by omega)]
    have e2 : Int.tdiv den a = d' := by rw [hd', Int.mul_tdiv_cancel_left _ (by omega)]
    have b1 : 0 ≤ n' := by rw [← e1]; exact Int.tdiv_nonneg hn0 ha
    have b2 : 0 ≤ d' := by rw [← e2]; exact Int.tdiv_nonneg (by omega) ha
    have b3 : n' ≤ num := by rw [← e1, Int.tdiv_eq_ediv_of_nonneg hn0]; exact Int.ediv_le_self _ hn0
    have b4 : d' ≤ den := by rw [← e2, Int.tdiv_eq_ediv_of_nonneg (by omega)]; exact Int.ediv_le_self _ (by omega)
    rw [root_Of.l0, if_pos rfl, if_neg (by omega), e1, e2, w64 (by omega) (by omega), w64 (by omega) (by omega)]
  | succ m ih =>
    intro a b hm ha hb hab ha1 hb1 hg
    by_cases hz : b = 0
    · exact (by
        subst hz
        obtain ⟨⟨n', hn'⟩, ⟨d', hd'⟩⟩ := hg a (Int.dvd_refl _) (Int.dvd_zero _)
        refine ⟨a, n', d', by omega, by rw [hn']; grind, by rw [hd']; grind, Ret.succ (Ret.const (?_ : root_Of.l0 (0 + 1) num den a 0 = _))⟩
        have e1 : Int.tdiv num a = n' := by rw [hn', Int.mul_tdiv_cancel_left _ (by omega)]
        have e2 : Int.tdiv den a = d' := by rw [hd', Int.mul_tdiv_cancel_left _ (by omega)]
        have b1 : 0 ≤ n' := by rw [← e1]; exact Int.tdiv_nonneg hn0 ha
        have b2 : 0 ≤ d' := by rw [← e2]; exact Int.tdiv_nonneg (by omega) ha
        have b3 : n' ≤ num := by rw [← e1, Int.tdiv_eq_ediv_of_nonneg hn0]; exact Int.ediv_le_self _ hn0
        have b4 : d' ≤ den := by rw [← e2, Int.tdiv_eq_ediv_of_nonneg (by omega)]; exact Int.ediv_le_self _ (by omega)
        rw [root_Of.l0, if_pos rfl, if_neg (by omega), e1, e2, w64 (by omega) (by omega), w64 (by omega) (by omega)])
    · have e : Int.tmod a b = a % b := Int.tmod_eq_emod_of_nonneg ha
      have r0 := Int.emod_nonneg a hz
      have r1 := Int.emod_lt_of_pos a (show 0 < b by omega)
      obtain ⟨g, n', d', h1, h2, h3, hr⟩ := ih b (a % b) (by omega) hb r0 (by omega) hb1 (by omega) (fun g h1 h2 => hg g (by
        have := Int.mul_ediv_add_emod a b
        rw [← this]
        exact Int.dvd_add (Int.dvd_trans h1 (Int.dvd_mul_right _ _)) h2) h1)
      refine ⟨g, n', d', h1, h2, h3, Ret.succ (Ret.congr hr fun k => ?_)⟩
      rw [root_Of.l0, if_neg hz, e]
theorem of_eq (num den : Int) (hn0 : 0 ≤ num) (hn : num < 9223372036854775808) (hd0 : 1 ≤ den) (hd : den < 9223372036854775808) :
    ∃ g n' d', 1 ≤ g ∧ num = n' * g ∧ den = d' * g ∧ Ret (fun k => root_Of.f k num den) (n', d', 0) := by
  obtain ⟨g, n', d', h1, h2, h3, hr⟩ := of_l0 num den hn0 hn hd0 hd _ num den (Nat.le_refl _) hn0 (by omega) (by omega) hn hd (fun _ a b => ⟨a, b⟩)
  refine ⟨g, n', d', h1, h2, h3, Ret.succ (Ret.congr hr fun k => ?_)⟩
  unfold root_Of.f
  rw [if_neg (by omega), decide_eq_false (by omega), root_Of.j0, if_neg (by simp)]
def Root8 (num den v : Int) : Prop := 0 ≤ v ∧ v * v * den ≤ 64 * num ∧ 64 * num < (v + 1) * (v + 1) * den
theorem Root8.unique {num den v u : Int} (hd : 1 ≤ den) (h : Root8 num den v) (h' : Root8 num den u) : v = u := by
  obtain ⟨a0, a1, a2⟩ := h
  obtain ⟨b0, b1, b2⟩ := h'
  have key : ∀ a b : Int, 0 ≤ a → 0 ≤ b → a < b → (a + 1) * (a + 1) * den ≤ b * b * den := fun a b h0 h1 h => Int.mul_le_mul (Int.mul_le_mul (by omega) (by omega) (by omega) (by omega)) (Int.le_refl _) (by omega) (Int.mul_nonneg h1 h1)
  rcases Int.lt_trichotomy v u with h | h | h
  · have := key v u a0 b0 h; omega
  · exact h
  · have := key u v b0 a0 h; omega
theorem Root8.of_equal {n d n' d' v : Int} (hd : 1 ≤ d) (hd' : 1 ≤ d') (e : n * d' = n' * d) (h : Root8 n d v) : Root8 n' d' v := by
  obtain ⟨h0, h1, h2⟩ := h
  refine ⟨h0, ?_, ?_⟩
  · have a := Int.mul_le_mul_of_nonneg_right h1 (show 0 ≤ d' by omega)
    have e1 : 64 * n * d' = 64 * n' * d := by grind
    rw [e1] at a
    have b : v * v * d' * d ≤ 64 * n' * d := by
      have : v * v * d' * d = v * v * d * d' := by grind
      omega
    exact Int.le_of_mul_le_mul_right b (by omega)
  · have a := Int.mul_lt_mul_of_pos_right h2 (show 0 < d' by omega)
    have e1 : 64 * n * d' = 64 * n' * d := by grind
    rw [e1] at a
    have b : 64 * n' * d < (v + 1) * (v + 1) * d' * d := by
      have : (v + 1) * (v + 1) * d' * d = (v + 1) * (v + 1) * d * d' := by grind
      omega
    exact Int.lt_of_mul_lt_mul_right b (by omega)
theorem scaled_eq (num den : Int) (hn0 : 0 ≤ num) (hn : num < 9223372036854775808) (hd0 : 1 ≤ den) (hd : den < 9223372036854775808) (hq : num * 64 ≤ 4611686018427387904 * den) :
    ∃ v, Root8 num den v ∧ Ret (fun k => root_Scaled.f k num den 8) v := by
  have hq0 : 0 ≤ num * 64 / den := Int.ediv_nonneg (by omega) (by omega)
  have hq1 : num * 64 / den ≤ 4611686018427387904 := Int.ediv_le_of_le_mul (by omega) hq
  obtain ⟨s, s0, s1, s2, hs⟩ := sqrt_eq (num * 64 / den) hq0 (by omega)
  have e1 := Int.mul_ediv_add_emod (num * 64) den
  have e2 := Int.emod_nonneg (num * 64) (show den ≠ 0 by omega)
  have e3 := Int.emod_lt_of_pos (num * 64) (show 0 < den by omega)
  refine ⟨s, ⟨s0, ?_, ?_⟩, Ret.succ (Ret.congr (g := fun k => ((wide_Mul.f num 64).bind fun bt122 => ((wide_Pair_Div.f k bt122.1 bt122.2 den).bind fun bt124 => (if bt124.2.2 = 0 then (if bt124.1 > 4611686018427387904 then (some (-1)) else ((root_Sqrt.f k (wrap64 (bt124.1))).bind fun t127 => (some t127))) else (some (-1)))))) ?_ fun k => ?_)⟩
  · have := Int.mul_le_mul_of_nonneg_right s1 (show 0 ≤ den by omega)
    have e4 : num * 64 / den * den = den * (num * 64 / den) := Int.mul_comm _ _
    omega
  · have := Int.mul_le_mul_of_nonneg_right (show num * 64 / den + 1 ≤ (s + 1) * (s + 1) by omega) (show 0 ≤ den by omega)
    have e4 : (num * 64 / den + 1) * den = den * (num * 64 / den) + den := by grind
    omega
  · rw [mul_eq num 64 hn0 (by omega) (by omega) (by omega)]
    have eV : (num * 64) / 18446744073709551616 * 18446744073709551616 + (num * 64) % 18446744073709551616 = num * 64 := by omega
    have hD := div_eq ((num * 64) / 18446744073709551616) ((num * 64) % 18446744073709551616) den (by omega) (by omega) (by omega) (by omega) (by omega)
    rw [eV] at hD
    refine Ret.bind (Ret.const rfl) (Ret.bind hD ?_)
    simp only [if_true, if_neg (show ¬ (num * 64 / den > 4611686018427387904) by omega), w64 (n := num * 64 / den) (by omega) (by omega)]
    exact Ret.bind hs (Ret.const rfl)
  · unfold root_Scaled.f
    rw [if_neg (by omega), if_neg (by omega), if_neg (by omega), decide_eq_false (by omega), root_Scaled.j0, if_neg (by simp)]
    simp only [wu64]
    rw [Int.emod_eq_of_lt hn0 (by omega), Int.emod_eq_of_lt (a := den) (by omega) (by omega), show wrap64 (8 * 8) % 18446744073709551616 = 64 by unfold wrap64; omega]
end Go.Proofs.Ytlljpjbhndcaiaa.M
end
section
set_option linter.unusedVariables false
set_option linter.unusedSimpArgs false
namespace Go.Proofs.Ytlljpjbhndcaiaa.Geo
theorem sq_nonneg (a : Int) : 0 ≤ a * a := by
  rcases Int.le_total 0 a with h | h
  · exact Int.mul_nonneg h h
  · exact Int.mul_nonneg_of_nonpos_of_nonpos h h
theorem le_of_sq {a b : Int} (h : 0 ≤ b) (hb : a * a ≤ b * b) : a ≤ b := by
  by_cases h1 : a ≤ b
  · exact h1
  · have h2 : b < a := by omega
    have h3 : b * b ≤ a * b := Int.mul_le_mul_of_nonneg_right (by omega) h
    have h4 : a * b < a * a := Int.mul_lt_mul_of_pos_left h2 (by omega)
    omega
theorem lt_of_sq {a b : Int} (h : 0 ≤ b) (hb : a * a < b * b) : a < b := by
  by_cases h1 : a < b
  · exact h1
  · have h3 : b * b ≤ a * b := Int.mul_le_mul_of_nonneg_right (by omega) h
    have h4 : a * b ≤ a * a := Int.mul_le_mul_of_nonneg_left (by omega) (by omega)
    omega
theorem lagrange (a b c d : Int) : (a*a+b*b)*(c*c+d*d) = (a*c+b*d)*(a*c+b*d) + (a*d-b*c)*(a*d-b*c) := by grind
theorem cs_lt {x1 x2 y1 y2 s t : Int} (hs : 0 ≤ s) (ht : 0 ≤ t) (h1 : x1*x1+x2*x2 < s*s) (h2 : y1*y1+y2*y2 < t*t) : x1*y1+x2*y2 < s*t := by
  have hl := lagrange x1 x2 y1 y2
  have a0 := sq_nonneg (x1*y2-x2*y1)
  have b0 := sq_nonneg x1; have b1 := sq_nonneg x2; have b2 := sq_nonneg y1; have b3 := sq_nonneg y2
  have h3 : (x1*x1+x2*x2)*(y1*y1+y2*y2) ≤ (x1*x1+x2*x2)*(t*t) := Int.mul_le_mul_of_nonneg_left (by omega) (by omega)
  have h4 : (x1*x1+x2*x2)*(t*t) < (s*s)*(t*t) := Int.mul_lt_mul_of_pos_right h1 (by omega)
  have h5 : (s*s)*(t*t) = (s*t)*(s*t) := by grind
  exact lt_of_sq (Int.mul_nonneg hs ht) (by omega)
theorem tri_lt {x1 x2 y1 y2 s t : Int} (hs : 0 ≤ s) (ht : 0 ≤ t) (h1 : x1*x1+x2*x2 < s*s) (h2 : y1*y1+y2*y2 < t*t) :
    (x1+y1)*(x1+y1)+(x2+y2)*(x2+y2) < (s+t)*(s+t) := by
  have h := cs_lt hs ht h1 h2
  have e1 : (x1+y1)*(x1+y1)+(x2+y2)*(x2+y2) = (x1*x1+x2*x2) + (y1*y1+y2*y2) + 2*(x1*y1+x2*y2) := by grind
  have e2 : (s+t)*(s+t) = s*s + t*t + 2*(s*t) := by grind
  omega
structure Pt where
  x : Int
  y : Int
structure Ed where
  a : Pt
  b : Pt
def Ed.wx (e : Ed) : Int := e.b.x - e.a.x
def Ed.wy (e : Ed) : Int := e.b.y - e.a.y
def Ed.long (e : Ed) : Int := e.wx * e.wx + e.wy * e.wy
def Ed.along (e : Ed) (p : Pt) : Int := e.wx * (p.x - e.a.x) + e.wy * (p.y - e.a.y)
def Ed.cr (e : Ed) (p : Pt) : Int := e.wx * (p.y - e.a.y) - e.wy * (p.x - e.a.x)
def dist2 (p q : Pt) : Int := (p.x - q.x) * (p.x - q.x) + (p.y - q.y) * (p.y - q.y)
def Ed.num (e : Ed) (p : Pt) : Int := if e.along p ≤ 0 then dist2 p e.a else if e.long ≤ e.along p then dist2 p e.b else e.cr p * e.cr p
def Ed.den (e : Ed) (p : Pt) : Int := if e.along p ≤ 0 then 1 else if e.long ≤ e.along p then 1 else e.long
theorem Ed.den_pos (e : Ed) (p : Pt) : 1 ≤ e.den p := by
  unfold Ed.den
  split
  · omega
  · split <;> omega
theorem dist2_nonneg (p q : Pt) : 0 ≤ dist2 p q := by
  have := sq_nonneg (p.x - q.x); have := sq_nonneg (p.y - q.y); unfold dist2; omega
theorem Ed.num_nonneg (e : Ed) (p : Pt) : 0 ≤ e.num p := by
  unfold Ed.num
  split
  · exact dist2_nonneg _ _
  · split
    · exact dist2_nonneg _ _
    · exact sq_nonneg _
theorem Ed.long_nonneg (e : Ed) : 0 ≤ e.long := by
  have := sq_nonneg e.wx; have := sq_nonneg e.wy; unfold Ed.long; omega
def Ed.at2 (e : Ed) (p : Pt) (k n : Int) : Int :=
  (n * (p.x - e.a.x) - k * e.wx) * (n * (p.x - e.a.x) - k * e.wx) + (n * (p.y - e.a.y) - k * e.wy) * (n * (p.y - e.a.y) - k * e.wy)
theorem Ed.at2_eq (e : Ed) (p : Pt) (k n : Int) : e.at2 p k n = n * n * dist2 p e.a - 2 * (n * k) * e.along p + k * k * e.long := by
  unfold Ed.at2 dist2 Ed.along Ed.long; grind
theorem Ed.dist_b (e : Ed) (p : Pt) : dist2 p e.b = dist2 p e.a - 2 * e.along p + e.long := by
  unfold dist2 Ed.along Ed.long Ed.wx Ed.wy; grind
theorem Ed.cross_eq (e : Ed) (p : Pt) : e.long * dist2 p e.a = e.along p * e.along p + e.cr p * e.cr p := by
  unfold dist2 Ed.along Ed.long Ed.cr; grind
theorem Ed.least (e : Ed) (p : Pt) (k n : Int) (h0 : 0 ≤ k) (h1 : k ≤ n) : e.num p * (n * n) ≤ e.den p * e.at2 p k n := by
  have hL := e.long_nonneg
  rw [e.at2_eq]
  unfold Ed.num Ed.den
  split
  · rename_i h
    have a1 : 0 ≤ n * k := Int.mul_nonneg (by omega) h0
    have a2 : 0 ≤ (n * k) * (- e.along p) := Int.mul_nonneg a1 (by omega)
    have a3 : 0 ≤ k * k * e.long := Int.mul_nonneg (Int.mul_nonneg h0 h0) hL
    grind
  · split
    · rename_i h h2
      rw [e.dist_b]
      have a1 : 0 ≤ (n - k) * n := Int.mul_nonneg (by omega) (by omega)
      have a2 : 0 ≤ ((n - k) * n) * (e.along p - e.long) := Int.mul_nonneg a1 (by omega)
      have a3 : 0 ≤ (n - k) * (n - k) * e.long := Int.mul_nonneg (sq_nonneg _) hL
      grind
    · rename_i h h2
      have hc := e.cross_eq p
      have a1 := sq_nonneg (n * e.along p - k * e.long)
      have e1 : e.long * (n * n * dist2 p e.a - 2 * (n * k) * e.along p + k * k * e.long) = n * n * (e.long * dist2 p e.a) - 2 * (n * k) * e.along p * e.long + k * k * (e.long * e.long) := by grind
      rw [e1, hc]
      grind
theorem Ed.there (e : Ed) (p : Pt) : ∃ k n : Int, 0 ≤ k ∧ k ≤ n ∧ 1 ≤ n ∧ e.num p * (n * n) = e.den p * e.at2 p k n := by
  by_cases h : e.along p ≤ 0
  · refine ⟨0, 1, by omega, by omega, by omega, ?_⟩
    rw [e.at2_eq]; unfold Ed.num Ed.den; rw [if_pos h, if_pos h]; grind
  · by_cases h2 : e.long ≤ e.along p
    · refine ⟨1, 1, by omega, by omega, by omega, ?_⟩
      rw [e.at2_eq]; unfold Ed.num Ed.den; rw [if_neg h, if_neg h, if_pos h2, if_pos h2, e.dist_b]; grind
    · refine ⟨e.along p, e.long, by omega, by omega, by omega, ?_⟩
      rw [e.at2_eq]; unfold Ed.num Ed.den; rw [if_neg h, if_neg h, if_neg h2, if_neg h2]
      have hc := e.cross_eq p
      grind
def Ed.lt8 (e : Ed) (p : Pt) (v : Int) : Prop := 64 * e.num p < v * v * e.den p
theorem Ed.step (e : Ed) (p q : Pt) (s t : Int) (hs : 0 ≤ s) (ht : 0 ≤ t) (h : e.lt8 p s) (hw : 64 * dist2 p q < t * t) : e.lt8 q (s + t) := by
  obtain ⟨k, n, h0, h1, h2, he⟩ := e.there p
  have hl := e.least q k n h0 h1
  have hd := e.den_pos p
  have hd' := e.den_pos q
  unfold Ed.lt8 at *
  have hnn : 0 < n * n := Int.mul_pos (by omega) (by omega)
  have b1 : 64 * e.at2 p k n < (s * n) * (s * n) := by
    have c1 : (64 * e.num p) * (n * n) < (s * s * e.den p) * (n * n) := Int.mul_lt_mul_of_pos_right h hnn
    have c2 : (64 * e.num p) * (n * n) = 64 * (e.den p * e.at2 p k n) := by rw [← he]; grind
    have c3 : e.den p * (64 * e.at2 p k n) < e.den p * ((s * n) * (s * n)) := by grind
    exact Int.lt_of_mul_lt_mul_left c3 (by omega)
  have b2 : 64 * e.at2 q k n < ((s + t) * n) * ((s + t) * n) := by
    have t1 := tri_lt (x1 := 8 * (n * (p.x - e.a.x) - k * e.wx)) (x2 := 8 * (n * (p.y - e.a.y) - k * e.wy)) (y1 := 8 * (n * (q.x - p.x))) (y2 := 8 * (n * (q.y - p.y))) (s := s * n) (t := t * n) (Int.mul_nonneg hs (by omega)) (Int.mul_nonneg ht (by omega))
      (by unfold Ed.at2 at b1; grind) (by
        have d1 : (64 * dist2 p q) * (n * n) < (t * t) * (n * n) := Int.mul_lt_mul_of_pos_right hw hnn
        unfold dist2 at d1; grind)
    unfold Ed.at2
    grind
  have b3 : (64 * e.num q) * (n * n) < ((s + t) * (s + t) * e.den q) * (n * n) := by
    have c1 : e.den q * (64 * e.at2 q k n) < e.den q * (((s + t) * n) * ((s + t) * n)) := Int.mul_lt_mul_of_pos_left b2 (by omega)
    have c2 : 64 * (e.num q * (n * n)) ≤ 64 * (e.den q * e.at2 q k n) := by omega
    grind
  exact Int.lt_of_mul_lt_mul_right b3 (by omega)
end Go.Proofs.Ytlljpjbhndcaiaa.Geo
end
section
set_option linter.unusedVariables false
set_option linter.unusedSimpArgs false
namespace Go.Proofs.Ytlljpjbhndcaiaa.M
open Go.RowKit Go.Proofs.Ytlljpjbhndcaiaa.Q Go.Proofs.YtlljpjbhndcaiaaW.PrintWords Go.Proofs.YtlljpjbhndcaiaaW.PrintLast Go.Proofs.YtlljpjbhndcaiaaW.PrintMore Go.Proofs.Ytlljpjbhndcaiaa.Geo
def ed (e : S40) : Ed := ⟨⟨e.f0.f0, e.f0.f1⟩, ⟨e.f1.f0, e.f1.f1⟩⟩
def Small (x : Int) : Prop := -8200 ≤ x ∧ x ≤ 8200
def Mid (x : Int) : Prop := -33000 ≤ x ∧ x ≤ 33000
def EdIn (e : S40) : Prop := Small e.f0.f0 ∧ Small e.f0.f1 ∧ Small e.f1.f0 ∧ Small e.f1.f1
def PtIn (p : Pt) : Prop := Mid p.x ∧ Mid p.y
theorem mulb {a b A B : Int} (h1 : -A ≤ a) (h2 : a ≤ A) (h3 : -B ≤ b) (h4 : b ≤ B) : -(A * B) ≤ a * b ∧ a * b ≤ A * B := by
  have hA : 0 ≤ A := by omega
  have hB : 0 ≤ B := by omega
  rcases Int.le_total 0 a with ha | ha
  · rcases Int.le_total 0 b with hb | hb
    · have := mul_bound ha h2 hb h4
      omega
    · have := mul_bound (a := a) (b := -b) (n := A) (m := B) ha h2 (by omega) (by omega)
      rw [Int.mul_neg] at this
      omega
  · rcases Int.le_total 0 b with hb | hb
    · have := mul_bound (a := -a) (b := b) (n := A) (m := B) (by omega) (by omega) hb h4
      rw [Int.neg_mul] at this
      omega
    · have := mul_bound (a := -a) (b := -b) (n := A) (m := B) (by omega) (by omega) (by omega) (by omega)
      rw [Int.neg_mul_neg] at this
      omega
theorem sqb {a A : Int} (h1 : -A ≤ a) (h2 : a ≤ A) : 0 ≤ a * a ∧ a * a ≤ A * A := ⟨sq_nonneg a, (mulb h1 h2 h1 h2).2⟩
theorem le_cancel {n d g Q : Int} (hg : 1 ≤ g) (h : n * g * 64 ≤ Q * (d * g)) : n * 64 ≤ Q * d := by
  have : n * 64 * g ≤ Q * d * g := by
    have e1 : n * 64 * g = n * g * 64 := by grind
    have e2 : Q * d * g = Q * (d * g) := by grind
    omega
  exact Int.le_of_mul_le_mul_right this (by omega)
structure IsSq (e : S40) (p : Pt) (n d : Int) : Prop where
  g : ∃ g, 1 ≤ g ∧ (ed e).num p = n * g ∧ (ed e).den p = d * g
  n0 : 0 ≤ n
  n1 : n < 4000000000000000000
  d1 : 1 ≤ d
  d2 : d < 4000000000
  q : n * 64 ≤ 4611686018427387904 * d
theorem IsSq.of {e : S40} {p : Pt} {n d g : Int} (hg : 1 ≤ g) (h1 : (ed e).num p = n * g) (h2 : (ed e).den p = d * g) (b1 : (ed e).num p < 4000000000000000000) (b2 : (ed e).den p < 4000000000) (b3 : (ed e).num p * 64 ≤ 4611686018427387904 * (ed e).den p) : IsSq e p n d := by
  have a1 := Ed.num_nonneg (ed e) p
  have a2 := Ed.den_pos (ed e) p
  rw [h1] at a1 b1 b3
  rw [h2] at a2 b2 b3
  have n0 : 0 ≤ n := by
    by_cases h : 0 ≤ n
    · exact h
    · have := Int.mul_le_mul_of_nonneg_right (show n ≤ -1 by omega) (show 0 ≤ g by omega)
      omega
  have d1 : 1 ≤ d := by
    by_cases h : 1 ≤ d
    · exact h
    · have := Int.mul_le_mul_of_nonneg_right (show d ≤ 0 by omega) (show 0 ≤ g by omega)
      omega
  have n2 := Int.mul_le_mul_of_nonneg_left hg n0
  have d3 := Int.mul_le_mul_of_nonneg_left hg (show 0 ≤ d by omega)
  exact ⟨⟨g, hg, h1, h2⟩, n0, by omega, d1, by omega, le_cancel hg b3⟩
theorem square_eq (e : S40) (p : Pt) (he : EdIn e) (hp : PtIn p) :
    ∃ n d, IsSq e p n d ∧ Ret (fun k => plane_Square.f k e.f0.f0 e.f0.f1 e.f1.f0 e.f1.f1 p.x p.y) (n, d) := by
  obtain ⟨⟨a1, a2⟩, ⟨a3, a4⟩, ⟨a5, a6⟩, ⟨a7, a8⟩⟩ := he
  obtain ⟨⟨p1, p2⟩, ⟨p3, p4⟩⟩ := hp
  obtain ⟨⟨x1, y1⟩, ⟨x2, y2⟩⟩ := e
  obtain ⟨px, py⟩ := p
  simp only at a1 a2 a3 a4 a5 a6 a7 a8 p1 p2 p3 p4
  have ew : (ed ⟨⟨x1, y1⟩, ⟨x2, y2⟩⟩).wx = x2 - x1 := rfl
  have ev : (ed ⟨⟨x1, y1⟩, ⟨x2, y2⟩⟩).wy = y2 - y1 := rfl
  have m1 := mulb (a := x2 - x1) (b := px - x1) (A := 16400) (B := 41200) (by omega) (by omega) (by omega) (by omega)
  have m2 := mulb (a := y2 - y1) (b := py - y1) (A := 16400) (B := 41200) (by omega) (by omega) (by omega) (by omega)
  have m3 := mulb (a := x2 - x1) (b := py - y1) (A := 16400) (B := 41200) (by omega) (by omega) (by omega) (by omega)
  have m4 := mulb (a := y2 - y1) (b := px - x1) (A := 16400) (B := 41200) (by omega) (by omega) (by omega) (by omega)
  have s1 := sqb (a := x2 - x1) (A := 16400) (by omega) (by omega)
  have s2 := sqb (a := y2 - y1) (A := 16400) (by omega) (by omega)
  have s3 := sqb (a := px - x1) (A := 41200) (by omega) (by omega)
  have s4 := sqb (a := py - y1) (A := 41200) (by omega) (by omega)
  have s5 := sqb (a := px - x2) (A := 41200) (by omega) (by omega)
  have s6 := sqb (a := py - y2) (A := 41200) (by omega) (by omega)
  have sc := sqb (a := (x2 - x1) * (py - y1) - (y2 - y1) * (px - x1)) (A := 1351360000) (by omega) (by omega)
  have eal : (ed ⟨⟨x1, y1⟩, ⟨x2, y2⟩⟩).along ⟨px, py⟩ = (x2 - x1) * (px - x1) + (y2 - y1) * (py - y1) := rfl
  have elo : (ed ⟨⟨x1, y1⟩, ⟨x2, y2⟩⟩).long = (x2 - x1) * (x2 - x1) + (y2 - y1) * (y2 - y1) := rfl
  have ecr : (ed ⟨⟨x1, y1⟩, ⟨x2, y2⟩⟩).cr ⟨px, py⟩ = (x2 - x1) * (py - y1) - (y2 - y1) * (px - x1) := rfl
  have da : dist2 ⟨px, py⟩ (ed ⟨⟨x1, y1⟩, ⟨x2, y2⟩⟩).a = (px - x1) * (px - x1) + (py - y1) * (py - y1) := rfl
  have db : dist2 ⟨px, py⟩ (ed ⟨⟨x1, y1⟩, ⟨x2, y2⟩⟩).b = (px - x2) * (px - x2) + (py - y2) * (py - y2) := rfl
  have hc := Ed.cross_eq (ed ⟨⟨x1, y1⟩, ⟨x2, y2⟩⟩) ⟨px, py⟩
  rw [eal, elo, ecr, da] at hc
  have fn : (ed ⟨⟨x1, y1⟩, ⟨x2, y2⟩⟩).num ⟨px, py⟩ = if (x2 - x1) * (px - x1) + (y2 - y1) * (py - y1) ≤ 0 then (px - x1) * (px - x1) + (py - y1) * (py - y1) else if (x2 - x1) * (x2 - x1) + (y2 - y1) * (y2 - y1) ≤ (x2 - x1) * (px - x1) + (y2 - y1) * (py - y1) then (px - x2) * (px - x2) + (py - y2) * (py - y2) else ((x2 - x1) * (py - y1) - (y2 - y1) * (px - x1)) * ((x2 - x1) * (py - y1) - (y2 - y1) * (px - x1)) := rfl
  have fd : (ed ⟨⟨x1, y1⟩, ⟨x2, y2⟩⟩).den ⟨px, py⟩ = if (x2 - x1) * (px - x1) + (y2 - y1) * (py - y1) ≤ 0 then 1 else if (x2 - x1) * (x2 - x1) + (y2 - y1) * (y2 - y1) ≤ (x2 - x1) * (px - x1) + (y2 - y1) * (py - y1) then 1 else (x2 - x1) * (x2 - x1) + (y2 - y1) * (y2 - y1) := rfl
  simp only [plane_Square.f]
  rw [w64 (n := x2 - x1) (by omega) (by omega), w64 (n := y2 - y1) (by omega) (by omega), w64 (n := px - x1) (by omega) (by omega), w64 (n := py - y1) (by omega) (by omega), w64 (n := px - x2) (by omega) (by omega), w64 (n := py - y2) (by omega) (by omega),
    w64 (n := (x2 - x1) * (px - x1)) (by omega) (by omega), w64 (n := (y2 - y1) * (py - y1)) (by omega) (by omega), w64 (n := (x2 - x1) * (py - y1)) (by omega) (by omega), w64 (n := (y2 - y1) * (px - x1)) (by omega) (by omega),
    w64 (n := (x2 - x1) * (x2 - x1)) (by omega) (by omega), w64 (n := (y2 - y1) * (y2 - y1)) (by omega) (by omega), w64 (n := (px - x1) * (px - x1)) (by omega) (by omega), w64 (n := (py - y1) * (py - y1)) (by omega) (by omega), w64 (n := (px - x2) * (px - x2)) (by omega) (by omega), w64 (n := (py - y2) * (py - y2)) (by omega) (by omega)]
  rw [w64 (n := (x2 - x1) * (px - x1) + (y2 - y1) * (py - y1)) (by omega) (by omega), w64 (n := (x2 - x1) * (x2 - x1) + (y2 - y1) * (y2 - y1)) (by omega) (by omega), w64 (n := (px - x1) * (px - x1) + (py - y1) * (py - y1)) (by omega) (by omega), w64 (n := (px - x2) * (px - x2) + (py - y2) * (py - y2)) (by omega) (by omega),
    w64 (n := (x2 - x1) * (py - y1) - (y2 - y1) * (px - x1)) (by omega) (by omega), w64 (n := ((x2 - x1) * (py - y1) - (y2 - y1) * (px - x1)) * ((x2 - x1) * (py - y1) - (y2 - y1) * (px - x1))) (by omega) (by omega)]
  clear ew ev eal elo ecr da db
  have hal : 0 ≤ ((x2 - x1) * (px - x1) + (y2 - y1) * (py - y1)) * ((x2 - x1) * (px - x1) + (y2 - y1) * (py - y1)) := sq_nonneg _
  by_cases h1 : (x2 - x1) * (px - x1) + (y2 - y1) * (py - y1) ≤ 0
  · simp only [if_pos h1] at fn fd ⊢
    exact ⟨_, _, IsSq.of (g := 1) (by omega) (by rw [fn, Int.mul_one]) (by rw [fd]; rfl) (by rw [fn]; omega) (by rw [fd]; omega) (by rw [fn, fd]; omega), Ret.const rfl⟩
  · simp only [if_neg h1] at fn fd ⊢
    by_cases h2 : (x2 - x1) * (x2 - x1) + (y2 - y1) * (y2 - y1) ≤ (x2 - x1) * (px - x1) + (y2 - y1) * (py - y1)
    · simp only [if_pos h2] at fn fd ⊢
      exact ⟨_, _, IsSq.of (g := 1) (by omega) (by rw [fn, Int.mul_one]) (by rw [fd]; rfl) (by rw [fn]; omega) (by rw [fd]; omega) (by rw [fn, fd]; omega), Ret.const rfl⟩
    · simp only [if_neg h2] at fn fd ⊢
      have hlo : 0 ≤ (x2 - x1) * (x2 - x1) + (y2 - y1) * (y2 - y1) ∧ (x2 - x1) * (x2 - x1) + (y2 - y1) * (y2 - y1) ≤ 537920000 := by omega
      generalize (x2 - x1) * (x2 - x1) + (y2 - y1) * (y2 - y1) = lo at *
      generalize (x2 - x1) * (py - y1) - (y2 - y1) * (px - x1) = c at *
      obtain ⟨g, n', d', g1, g2, g3, hr⟩ := of_eq (c * c) lo (by omega) (by omega) (by omega) (by omega)
      refine ⟨n', d', IsSq.of (g := g) g1 (by rw [fn, g2]) (by rw [fd, g3]) (by rw [fn]; omega) (by rw [fd]; omega) ?_, Ret.bind hr (Ret.const rfl)⟩
      rw [fn, fd]
      have k1 : lo * ((px - x1) * (px - x1) + (py - y1) * (py - y1)) ≤ lo * 3394880000 := Int.mul_le_mul_of_nonneg_left (by omega) (by omega)
      omega
end Go.Proofs.Ytlljpjbhndcaiaa.M
end
section
set_option linter.unusedVariables false
set_option linter.unusedSimpArgs false
namespace Go.Proofs.Ytlljpjbhndcaiaa.M
open Go.RowKit Go.Proofs.Ytlljpjbhndcaiaa.Q Go.Proofs.YtlljpjbhndcaiaaW.PrintWords Go.Proofs.YtlljpjbhndcaiaaW.PrintLast Go.Proofs.YtlljpjbhndcaiaaW.PrintMore Go.Proofs.Ytlljpjbhndcaiaa.Geo
theorem frac_trans {a b c d e f : Int} (hb : 1 ≤ b) (hd : 1 ≤ d) (hf : 1 ≤ f) (h1 : a * d ≤ c * b) (h2 : c * f ≤ e * d) : a * f ≤ e * b := by
  have k1 := Int.mul_le_mul_of_nonneg_right h1 (show 0 ≤ f by omega)
  have k2 := Int.mul_le_mul_of_nonneg_right h2 (show 0 ≤ b by omega)
  have : a * f * d ≤ e * b * d := by
    have e1 : a * f * d = a * d * f := by grind
    have e2 : e * b * d = e * d * b := by grind
    have e3 : c * b * f = c * f * b := by grind
    omega
  exact Int.le_of_mul_le_mul_right this (by omega)
def NoFar (p : Pt) (e e' : S40) : Prop := (ed e).num p * (ed e').den p ≤ (ed e').num p * (ed e).den p
theorem NoFar.trans {p : Pt} {a b c : S40} (h1 : NoFar p a b) (h2 : NoFar p b c) : NoFar p a c := frac_trans (Ed.den_pos _ _) (Ed.den_pos _ _) (Ed.den_pos _ _) h1 h2
theorem NoFar.refl (p : Pt) (a : S40) : NoFar p a a := Int.le_refl _
theorem IsSq.lt_iff {e e' : S40} {p : Pt} {n d n' d' : Int} (h : IsSq e p n d) (h' : IsSq e' p n' d') : n * d' < n' * d ↔ (ed e).num p * (ed e').den p < (ed e').num p * (ed e).den p := by
  obtain ⟨g, g1, g2, g3⟩ := h.g
  obtain ⟨f, f1, f2, f3⟩ := h'.g
  rw [g2, g3, f2, f3]
  have hp : 0 < g * f := Int.mul_pos (by omega) (by omega)
  have e1 : n * g * (d' * f) = n * d' * (g * f) := by grind
  have e2 : n' * f * (d * g) = n' * d * (g * f) := by grind
  rw [e1, e2]
  exact ⟨fun h => Int.mul_lt_mul_of_pos_right h hp, fun h => Int.lt_of_mul_lt_mul_right h (by omega)⟩
theorem compare_eq {e e' : S40} {p : Pt} {n d n' d' : Int} (h : IsSq e p n d) (h' : IsSq e' p n' d') : Ret (fun k => root_Compare.f k n d n' d') (cmp (n * d') (n' * d)) :=
  less_eq n d n' d' h.n0 (by have := h.n1; omega) (by have := h.d1; omega) (by have := h.d2; omega) h'.n0 (by have := h'.n1; omega) (by have := h'.d1; omega) (by have := h'.d2; omega)
theorem cmp_neg (x y : Int) : cmp x y < 0 ↔ x < y := by
  unfold cmp
  split
  · omega
  · split <;> omega
def AllIn (es : List S40) : Prop := ∀ e ∈ es, EdIn e
theorem rd_mem (es : List S40) (i : Int) (h0 : 0 ≤ i) (h1 : i < (es.length : Int)) : rd_T40 es i ∈ es := by
  unfold rd_T40
  rw [List.getD_eq_getElem?_getD, List.getElem?_eq_getElem (by omega)]
  exact List.getElem_mem _
theorem mem_rd {es : List S40} {e : S40} (h : e ∈ es) : ∃ i : Int, 0 ≤ i ∧ i < (es.length : Int) ∧ e = rd_T40 es i := by
  obtain ⟨n, hn, rfl⟩ := List.getElem_of_mem h
  refine ⟨n, by omega, by omega, ?_⟩
  unfold rd_T40
  rw [List.getD_eq_getElem?_getD, Int.toNat_natCast, List.getElem?_eq_getElem hn]
  rfl
theorem near_l0 (es : List S40) (p : Pt) (hes : AllIn es) (hp : PtIn p) (hl : es.length < 9000000000000000000) : ∀ (m : Nat) (b i n d : Int), es.length - i.toNat ≤ m → 0 ≤ b → b < i → i ≤ es.length → IsSq (rd_T40 es b) p n d → (∀ j, 0 ≤ j → j < i → NoFar p (rd_T40 es b) (rd_T40 es j)) →
    ∃ b' n' d' : Int, 0 ≤ b' ∧ b' < (es.length : Int) ∧ IsSq (rd_T40 es b') p n' d' ∧ (∀ j : Int, 0 ≤ j → j < (es.length : Int) → NoFar p (rd_T40 es b') (rd_T40 es j)) ∧ Ret (fun k => dist_Near.l0 k b es es.length i p.x p.y n d) (n', d', b') := by
  intro m
  induction m with
  | zero =>
    intro b i n d hm hb hbi hi hsq hall
    refine ⟨b, n, d, hb, by omega, hsq, fun j h0 h1 => hall j h0 (by omega), Ret.succ (Ret.congr (Ret.const rfl) fun k => ?_)⟩
    show dist_Near.l0 (k + 1) b es es.length i p.x p.y n d = _
    rw [dist_Near.l0, if_neg (by omega)]
  | succ m ih =>
    intro b i n d hm hb hbi hi hsq hall
    by_cases hz : i < es.length
    · obtain ⟨n2, d2, hsq2, hr2⟩ := square_eq (rd_T40 es i) p (hes _ (rd_mem es i (by omega) hz)) hp
      have hcmp := compare_eq hsq2 hsq
      by_cases hc : n2 * d < n * d2
      · have hlt := (IsSq.lt_iff hsq2 hsq).1 hc
        have hno : NoFar p (rd_T40 es i) (rd_T40 es b) := Int.le_of_lt hlt
        obtain ⟨b', n', d', h1, h2, h3, h4, hr⟩ := ih i (i + 1) n2 d2 (by omega) (by omega) (by omega) (by omega) hsq2 (fun j h0 h1 => by
          by_cases hj : j = i
          · subst hj; exact NoFar.refl _ _
          · exact hno.trans (hall j h0 (by omega)))
        refine ⟨b', n', d', h1, h2, h3, h4, Ret.succ ?_⟩
        refine Ret.congr (Ret.bind hr2 (Ret.bind hcmp (h := fun k t136 => if t136 < 0 then dist_Near.l0 k i es es.length (wrap64 (i + 1)) p.x p.y n2 d2 else dist_Near.l0 k b es es.length (wrap64 (i + 1)) p.x p.y n d) ?_) (h := fun k bt133 => (root_Compare.f k bt133.1 bt133.2 n d).bind fun t136 => if t136 < 0 then dist_Near.l0 k i es es.length (wrap64 (i + 1)) p.x p.y bt133.1 bt133.2 else dist_Near.l0 k b es es.length (wrap64 (i + 1)) p.x p.y n d)) fun k => ?_
        · simp only [if_pos ((cmp_neg _ _).2 hc)]
          rw [w64 (by omega) (by omega)]
          exact hr
        · show dist_Near.l0 (k + 1) b es es.length i p.x p.y n d = _
          rw [dist_Near.l0, if_pos (by omega), if_pos (by omega), if_pos (by omega)]
          simp only [if_neg (show ¬ b < 0 by omega)]
      · have hlt := fun h => hc ((IsSq.lt_iff hsq2 hsq).2 h)
        have hno : NoFar p (rd_T40 es b) (rd_T40 es i) := Int.not_lt.1 hlt
        obtain ⟨b', n', d', h1, h2, h3, h4, hr⟩ := ih b (i + 1) n d (by omega) (by omega) (by omega) (by omega) hsq (fun j h0 h1 => by
          by_cases hj : j = i
          · subst hj; exact hno
          · exact hall j h0 (by omega))
        refine ⟨b', n', d', h1, h2, h3, h4, Ret.succ ?_⟩
        refine Ret.congr (Ret.bind hr2 (Ret.bind hcmp (h := fun k t136 => if t136 < 0 then dist_Near.l0 k i es es.length (wrap64 (i + 1)) p.x p.y n2 d2 else dist_Near.l0 k b es es.length (wrap64 (i + 1)) p.x p.y n d) ?_) (h := fun k bt133 => (root_Compare.f k bt133.1 bt133.2 n d).bind fun t136 => if t136 < 0 then dist_Near.l0 k i es es.length (wrap64 (i + 1)) p.x p.y bt133.1 bt133.2 else dist_Near.l0 k b es es.length (wrap64 (i + 1)) p.x p.y n d)) fun k => ?_
        · simp only [if_neg (fun h => hc ((cmp_neg _ _).1 h))]
          rw [w64 (by omega) (by omega)]
          exact hr
        · show dist_Near.l0 (k + 1) b es es.length i p.x p.y n d = _
          rw [dist_Near.l0, if_pos (by omega), if_pos (by omega), if_pos (by omega)]
          simp only [if_neg (show ¬ b < 0 by omega)]
    · refine ⟨b, n, d, hb, by omega, hsq, fun j h0 h1 => hall j h0 (by omega), Ret.succ (Ret.congr (Ret.const rfl) fun k => ?_)⟩
      show dist_Near.l0 (k + 1) b es es.length i p.x p.y n d = _
      rw [dist_Near.l0, if_neg hz]
theorem near_nil (p : Pt) : Ret (fun k => dist_Near.f k [] p.x p.y) (0, 0, -1) := by
  refine Ret.succ (Ret.congr (Ret.const rfl) fun k => ?_)
  show dist_Near.l0 (k + 1) (-1) [] (([] : List S40).length : Int) 0 p.x p.y 0 0 = _
  rw [dist_Near.l0]
  simp
theorem near_eq (es : List S40) (p : Pt) (hes : AllIn es) (hp : PtIn p) (hl : es.length < 9000000000000000000) (hne : es ≠ []) :
    ∃ b n d, 0 ≤ b ∧ b < (es.length : Int) ∧ IsSq (rd_T40 es b) p n d ∧ (∀ j, 0 ≤ j → j < (es.length : Int) → NoFar p (rd_T40 es b) (rd_T40 es j)) ∧ Ret (fun k => dist_Near.f k es p.x p.y) (n, d, b) := by
  have hpos : 0 < es.length := List.length_pos_iff.2 hne
  obtain ⟨n2, d2, hsq2, hr2⟩ := square_eq (rd_T40 es 0) p (hes _ (rd_mem es 0 (by omega) (by omega))) hp
  obtain ⟨b', n', d', h1, h2, h3, h4, hr⟩ := near_l0 es p hes hp hl _ 0 1 n2 d2 (Nat.le_refl _) (by omega) (by omega) (by omega) hsq2 (fun j h0 h1 => by
    obtain rfl : j = 0 := by omega
    exact NoFar.refl _ _)
  refine ⟨b', n', d', h1, h2, h3, h4, Ret.succ ?_⟩
  refine Ret.congr (Ret.bind hr2 (h := fun k bt133 => dist_Near.l0 k 0 es es.length 1 p.x p.y bt133.1 bt133.2) hr) fun k => ?_
  show dist_Near.l0 (k + 1) (-1) es (es.length : Int) 0 p.x p.y 0 0 = _
  rw [dist_Near.l0, if_pos (by omega), if_pos (by omega), if_pos (by omega)]
  simp only [if_pos (show (-1 : Int) < 0 by omega), w64 (n := 0 + 1) (by omega) (by omega)]
  rfl
def Is8 (es : List S40) (p : Pt) (v : Int) : Prop := 0 ≤ v ∧ (∃ e ∈ es, 64 * (ed e).num p < (v + 1) * (v + 1) * (ed e).den p) ∧ ∀ e ∈ es, v * v * (ed e).den p ≤ 64 * (ed e).num p
theorem Is8.unique {es : List S40} {p : Pt} {v u : Int} (h : Is8 es p v) (h' : Is8 es p u) : v = u := by
  have key : ∀ a b : Int, Is8 es p a → Is8 es p b → ¬ a < b := by
    intro a b ha hb hlt
    obtain ⟨a0, ⟨e, he, a1⟩, _⟩ := ha
    have b1 := hb.2.2 e he
    have := Int.mul_le_mul_of_nonneg_right (Int.mul_le_mul (show a + 1 ≤ b by omega) (show a + 1 ≤ b by omega) (by omega) hb.1) (show 0 ≤ (ed e).den p by have := Ed.den_pos (ed e) p; omega)
    omega
  have := key v u h h'
  have := key u v h' h
  omega
theorem eight_eq (es : List S40) (p : Pt) (hes : AllIn es) (hp : PtIn p) (hl : es.length < 9000000000000000000) (hne : es ≠ []) : ∃ v, Is8 es p v ∧ Ret (fun k => dist_Eight.f k es p.x p.y) v := by
  obtain ⟨b, n, d, h1, h2, h3, h4, hr⟩ := near_eq es p hes hp hl hne
  obtain ⟨v, hv, hs⟩ := scaled_eq n d h3.n0 (by have := h3.n1; omega) h3.d1 (by have := h3.d2; omega) h3.q
  obtain ⟨g, g1, g2, g3⟩ := h3.g
  have hv2 : Root8 ((ed (rd_T40 es b)).num p) ((ed (rd_T40 es b)).den p) v := Root8.of_equal h3.d1 (Ed.den_pos _ _) (by rw [g2, g3]; grind) hv
  refine ⟨v, ⟨hv.1, ⟨_, rd_mem es b h1 h2, hv2.2.2⟩, fun e he => ?_⟩, ?_⟩
  · obtain ⟨j, j0, j1, rfl⟩ := mem_rd he
    have h5 := h4 j j0 j1
    have a := hv2.2.1
    have d0 := Ed.den_pos (ed (rd_T40 es b)) p
    have d1 := Ed.den_pos (ed (rd_T40 es j)) p
    have := frac_trans (a := v * v) (b := 1) (c := 64 * (ed (rd_T40 es b)).num p) (d := (ed (rd_T40 es b)).den p) (e := 64 * (ed (rd_T40 es j)).num p) (f := (ed (rd_T40 es j)).den p) (by omega) d0 d1 (by omega) (by unfold NoFar at h5; grind)
    omega
  · refine Ret.congr (Ret.bind hr (h := fun k bt138 => if bt138.2.2 < 0 then some (-1) else (root_Scaled.f k bt138.1 bt138.2.1 8).bind fun t142 => some t142) ?_) fun k => rfl
    simp only [if_neg (show ¬ b < 0 by omega)]
    exact Ret.bind hs (Ret.const rfl)
theorem eight_nil (p : Pt) : Ret (fun k => dist_Eight.f k [] p.x p.y) (-1) := by
  obtain ⟨K, hK⟩ := near_nil p
  refine ⟨K, fun k hk => ?_⟩
  have h := hK k hk
  simp only at h
  show (dist_Near.f k [] p.x p.y).bind _ = _
  rw [h]
  simp
end Go.Proofs.Ytlljpjbhndcaiaa.M
end
section
set_option linter.unusedVariables false
set_option linter.unusedSimpArgs false
namespace Go.Proofs.Ytlljpjbhndcaiaa.M
open Go.RowKit Go.Proofs.Ytlljpjbhndcaiaa.Q Go.Proofs.YtlljpjbhndcaiaaW.PrintWords Go.Proofs.YtlljpjbhndcaiaaW.PrintLast Go.Proofs.YtlljpjbhndcaiaaW.PrintMore Go.Proofs.Ytlljpjbhndcaiaa.Geo
theorem IsSq.zero_iff {e : S40} {p : Pt} {n d : Int} (h : IsSq e p n d) : n = 0 ↔ (ed e).num p = 0 := by
  obtain ⟨g, g1, g2, _⟩ := h.g
  rw [g2]
  constructor
  · rintro rfl; simp
  · intro h
    rcases Int.mul_eq_zero.1 h with h | h
    · exact h
    · omega
def onAny (es : List S40) (p : Pt) : Bool := es.any fun e => decide ((ed e).num p = 0)
theorem on_go (p : Pt) (hp : PtIn p) : ∀ (es : List S40), AllIn es → Ret (fun k => wind_On.go k p.x p.y es) (onAny es p) := by
  intro es
  induction es with
  | nil => intro _; exact Ret.const rfl
  | cons e r ih =>
    intro h
    obtain ⟨n, d, hsq, hr⟩ := square_eq e p (h e (by simp)) hp
    have ihr := ih (fun x hx => h x (by simp [hx]))
    refine Ret.congr (Ret.bind hr (h := fun k d => if d.1 = 0 then some true else wind_On.go k p.x p.y r) ?_) fun k => rfl
    by_cases hz : n = 0
    · simp only [if_pos hz]
      refine Ret.const ?_
      simp [onAny, hsq.zero_iff.1 hz]
    · simp only [if_neg hz]
      have hn : (ed e).num p ≠ 0 := fun h => hz (hsq.zero_iff.2 h)
      have : onAny (e :: r) p = onAny r p := by simp [onAny, hn]
      rw [this]
      exact ihr
theorem on_eq (es : List S40) (p : Pt) (hp : PtIn p) (h : AllIn es) : Ret (fun k => wind_On.f k es p.x p.y) (onAny es p) := on_go p hp es h
def side (e : S40) (p : Pt) : Int := if (ed e).cr p > 0 then 1 else if (ed e).cr p < 0 then -1 else 0
theorem side_eq (e : S40) (p : Pt) (he : EdIn e) (hp : PtIn p) : plane_Side.f e.f0.f0 e.f0.f1 e.f1.f0 e.f1.f1 p.x p.y = some (side e p) := by
  have hc : (ed e).cr p = (e.f1.f0 - e.f0.f0) * (p.y - e.f0.f1) - (e.f1.f1 - e.f0.f1) * (p.x - e.f0.f0) := rfl
  obtain ⟨⟨a1, a2⟩, ⟨a3, a4⟩, ⟨a5, a6⟩, ⟨a7, a8⟩⟩ := he
  obtain ⟨⟨p1, p2⟩, ⟨p3, p4⟩⟩ := hp
  have m3 := mulb (a := e.f1.f0 - e.f0.f0) (b := p.y - e.f0.f1) (A := 16400) (B := 41200) (by omega) (by omega) (by omega) (by omega)
  have m4 := mulb (a := e.f1.f1 - e.f0.f1) (b := p.x - e.f0.f0) (A := 16400) (B := 41200) (by omega) (by omega) (by omega) (by omega)
  simp only [plane_Side.f]
  rw [w64 (n := e.f1.f0 - e.f0.f0) (by omega) (by omega), w64 (n := e.f1.f1 - e.f0.f1) (by omega) (by omega), w64 (n := p.x - e.f0.f0) (by omega) (by omega), w64 (n := p.y - e.f0.f1) (by omega) (by omega), w64 (n := (e.f1.f0 - e.f0.f0) * (p.y - e.f0.f1)) (by omega) (by omega), w64 (n := (e.f1.f1 - e.f0.f1) * (p.x - e.f0.f0)) (by omega) (by omega),
    w64 (n := (e.f1.f0 - e.f0.f0) * (p.y - e.f0.f1) - (e.f1.f1 - e.f0.f1) * (p.x - e.f0.f0)) (by omega) (by omega), ← hc]
  unfold side
  repeat' split
  all_goals rfl
def wn (p : Pt) (e : S40) : Int :=
  if e.f0.f1 ≤ p.y ∧ e.f1.f1 > p.y ∧ side e p > 0 then 1 else if e.f1.f1 ≤ p.y ∧ e.f0.f1 > p.y ∧ side e p < 0 then -1 else 0
def winding (es : List S40) (p : Pt) : Int := (es.map (wn p)).sum
theorem wn_bound (p : Pt) (e : S40) : -1 ≤ wn p e ∧ wn p e ≤ 1 := by
  unfold wn
  repeat' split
  all_goals omega
theorem winding_bound (p : Pt) : ∀ es : List S40, -(es.length : Int) ≤ winding es p ∧ winding es p ≤ es.length := by
  intro es
  induction es with
  | nil => simp [winding]
  | cons e r ih =>
    have := wn_bound p e
    simp only [winding, List.map_cons, List.sum_cons, List.length_cons] at ih ⊢
    omega
theorem winding_append (p : Pt) (a b : List S40) : winding (a ++ b) p = winding a p + winding b p := by
  simp [winding, List.sum_append]
theorem take_rd (es : List S40) (i : Int) (h0 : 0 ≤ i) (h1 : i < (es.length : Int)) : es.take (i + 1).toNat = es.take i.toNat ++ [rd_T40 es i] := by
  have e : (i + 1).toNat = i.toNat + 1 := by omega
  have hl : i.toNat < es.length := by omega
  rw [e, List.take_add_one, List.getElem?_eq_getElem hl]
  unfold rd_T40
  rw [List.getD_eq_getElem?_getD, List.getElem?_eq_getElem hl]
  rfl
theorem number_l0 (es : List S40) (p : Pt) (hp : PtIn p) (h : AllIn es) (hl : es.length < 9000000000000000000) : ∀ (m : Nat) (i : Int), es.length - i.toNat ≤ m → 0 ≤ i → i ≤ es.length →
    Ret (fun k => wind_Number.l0 k (winding (es.take i.toNat) p) es es.length i p.x p.y) (winding es p) := by
  intro m
  induction m with
  | zero =>
    intro i hm h0 h1
    refine Ret.succ (Ret.congr (Ret.const rfl) fun k => ?_)
    show wind_Number.l0 (k + 1) _ es es.length i p.x p.y = _
    rw [wind_Number.l0, if_neg (by omega), List.take_of_length_le (by omega)]
  | succ m ih =>
    intro i hm h0 h1
    by_cases hz : i < es.length
    · have hI := ih (i + 1) (by omega) (by omega) (by omega)
      have hb := winding_bound p (es.take i.toNat)
      have hle : ((es.take i.toNat).length : Int) = i := by rw [List.length_take]; omega
      rw [take_rd es i h0 hz, winding_append, show winding [rd_T40 es i] p = wn p (rd_T40 es i) by simp [winding]] at hI
      have hs := side_eq (rd_T40 es i) p (h _ (rd_mem es i h0 hz)) hp
      refine Ret.succ (Ret.succ (Ret.congr hI fun k => ?_))
      show wind_Number.l0 (k + 1 + 1) _ es es.length i p.x p.y = _
      rw [wind_Number.l0, if_pos hz, if_pos h0, if_pos hz, hs]
      generalize winding (es.take i.toNat) p = s at *
      have wi : wrap64 (i + 1) = i + 1 := w64 (by omega) (by omega)
      have ws : wrap64 (s + 1) = s + 1 := w64 (by omega) (by omega)
      have wt : wrap64 (s - 1) = s - 1 := w64 (by omega) (by omega)
      simp only [Option.bind_some, wind_Number.j1, hs, wi, ws, wt]
      unfold wn
      generalize side (rd_T40 es i) p = sd
      have hsub : s - 1 = s + -1 := by omega
      rw [hsub]
      by_cases c1 : (rd_T40 es i).f0.f1 ≤ p.y
      · by_cases c2 : (rd_T40 es i).f1.f1 > p.y
        · by_cases c3 : sd > 0
          · simp [c1, c2, c3]
          · have c4 : ¬ (rd_T40 es i).f1.f1 ≤ p.y := by omega
            simp [c1, c2, c3, c4]
        · have c4 : ¬ (rd_T40 es i).f0.f1 > p.y := by omega
          simp [c1, c2, c4]
      · by_cases c2 : (rd_T40 es i).f1.f1 ≤ p.y
        · have c4 : (rd_T40 es i).f0.f1 > p.y := by omega
          by_cases c3 : sd < 0
          · simp [c1, c2, c3, c4]
          · simp [c1, c2, c3, c4]
        · simp [c1, c2]
    · refine Ret.succ (Ret.congr (Ret.const rfl) fun k => ?_)
      show wind_Number.l0 (k + 1) _ es es.length i p.x p.y = _
      rw [wind_Number.l0, if_neg hz, List.take_of_length_le (by omega)]
theorem number_eq (es : List S40) (p : Pt) (hp : PtIn p) (h : AllIn es) (hl : es.length < 9000000000000000000) : Ret (fun k => wind_Number.f k es p.x p.y) (winding es p) := by
  have := number_l0 es p hp h hl _ 0 (Nat.le_refl _) (by omega) (by omega)
  exact this
def sign (es : List S40) (p : Pt) : Int := if onAny es p = true then 0 else if winding es p = 0 then -1 else 1
theorem sign_eq (es : List S40) (p : Pt) (hp : PtIn p) (h : AllIn es) (hl : es.length < 9000000000000000000) : Ret (fun k => dist_Sign.f k es p.x p.y) (sign es p) := by
  unfold dist_Sign.f sign
  refine Ret.bind (on_eq es p hp h) ?_
  by_cases c : onAny es p = true
  · simp only [if_pos c]; exact Ret.const rfl
  · simp only [if_neg c]
    refine Ret.bind (number_eq es p hp h hl) ?_
    by_cases c2 : winding es p = 0
    · simp only [if_pos c2]; exact Ret.const rfl
    · simp only [if_neg c2]; exact Ret.const rfl
end Go.Proofs.Ytlljpjbhndcaiaa.M
end
section
set_option linter.unusedVariables false
set_option linter.unusedSimpArgs false
namespace Go.Proofs.Ytlljpjbhndcaiaa.M
open Go.RowKit Go.Proofs.Ytlljpjbhndcaiaa.Q Go.Proofs.YtlljpjbhndcaiaaW.PrintWords Go.Proofs.YtlljpjbhndcaiaaW.PrintLast Go.Proofs.YtlljpjbhndcaiaaW.PrintMore Go.Proofs.Ytlljpjbhndcaiaa.Geo
theorem getD_take_succ {α : Type} (l : List α) (d : α) (i : Int) (h0 : 0 ≤ i) (h1 : i < (l.length : Int)) : l.take (i + 1).toNat = l.take i.toNat ++ [l.getD i.toNat d] := by
  have e : (i + 1).toNat = i.toNat + 1 := by omega
  have hl : i.toNat < l.length := by omega
  rw [e, List.take_add_one, List.getElem?_eq_getElem hl, List.getD_eq_getElem?_getD, List.getElem?_eq_getElem hl]
  rfl
def vert (d : S133) : S135 := ⟨Int.tmod (wrap64 d.f0) 256, Int.tmod (wrap64 d.f1) 256, d.f2⟩
theorem tmod_bound (x : Int) : -255 ≤ Int.tmod x 256 ∧ Int.tmod x 256 ≤ 255 := by
  rw [Int.tmod_eq_emod]
  split <;> omega
def VertIn (v : S135) : Prop := (-255 ≤ v.f0 ∧ v.f0 ≤ 255) ∧ (-255 ≤ v.f1 ∧ v.f1 ≤ 255)
theorem vert_in (d : S133) : VertIn (vert d) := ⟨tmod_bound _, tmod_bound _⟩
def ContIn (c : List S135) : Prop := 0 < c.length ∧ c.length ≤ 12 ∧ ∀ v ∈ c, VertIn v
theorem outline_l1 (x4 : Int) (x14 : List (List S133)) (x15 x16 : Int) (x25 : List S133) (acc : List (List S135)) (hl : x25.length ≤ 12) (r : List (List S135))
    (hr : Ret (fun k => if ((x25.map vert).length : Int) > 0 then (if acc.length < 5864062014805 then (punchcutlaw04_Outline.l0 k (wrap64 (x4 - ((x25.map vert).length : Int))) x14 x15 (wrap64 (x16 + 1)) (acc ++ [x25.map vert])) else (none)) else (punchcutlaw04_Outline.l0 k (wrap64 (x4 - ((x25.map vert).length : Int))) x14 x15 (wrap64 (x16 + 1)) acc)) r) :
    ∀ (m : Nat) (i : Int), x25.length - i.toNat ≤ m → 0 ≤ i → i ≤ x25.length → Ret (fun k => punchcutlaw04_Outline.l1 k x4 ((x25.take i.toNat).map vert) x14 x15 x16 x25 x25.length i acc) r := by
  intro m
  induction m with
  | zero =>
    intro i hm h0 h1
    refine Ret.succ (Ret.congr hr fun k => ?_)
    show punchcutlaw04_Outline.l1 (k + 1) x4 _ x14 x15 x16 x25 x25.length i acc = _
    rw [punchcutlaw04_Outline.l1, if_neg (by omega), List.take_of_length_le (by omega)]
  | succ m ih =>
    intro i hm h0 h1
    by_cases hz : i < x25.length
    · have hI := ih (i + 1) (by omega) (by omega) (by omega)
      rw [getD_take_succ x25 z133 i h0 hz, List.map_append] at hI
      refine Ret.succ (Ret.congr hI fun k => ?_)
      show punchcutlaw04_Outline.l1 (k + 1) x4 _ x14 x15 x16 x25 x25.length i acc = _
      rw [punchcutlaw04_Outline.l1, if_pos hz, if_pos h0, if_pos hz, if_pos (by rw [List.length_map, List.length_take]; omega), w64 (n := i + 1) (by omega) (by omega)]
      rfl
    · refine Ret.succ (Ret.congr hr fun k => ?_)
      show punchcutlaw04_Outline.l1 (k + 1) x4 _ x14 x15 x16 x25 x25.length i acc = _
      rw [punchcutlaw04_Outline.l1, if_neg hz, List.take_of_length_le (by omega)]
theorem mn_le (a b : Int) : mn a b ≤ a ∧ mn a b ≤ b := by unfold mn; split <;> omega
theorem mn_ge {a b c : Int} (h1 : c ≤ a) (h2 : c ≤ b) : c ≤ mn a b := by unfold mn; split <;> omega
theorem outline_l0 (x14 : List (List S133)) (hl : x14.length ≤ 8) : ∀ (m : Nat) (i x4 : Int) (acc : List (List S135)), x14.length - i.toNat ≤ m → 0 ≤ i → i ≤ x14.length → 0 ≤ x4 → x4 ≤ 64 → acc.length ≤ i.toNat → (∀ c ∈ acc, ContIn c) →
    ∃ r, r.length ≤ 8 ∧ (∀ c ∈ r, ContIn c) ∧ Ret (fun k => punchcutlaw04_Outline.l0 k x4 x14 x14.length i acc) r := by
  intro m
  induction m with
  | zero =>
    intro i x4 acc hm h0 h1 h2 h3 h4 h5
    refine ⟨acc, by omega, h5, Ret.succ (Ret.congr (Ret.const rfl) fun k => ?_)⟩
    show punchcutlaw04_Outline.l0 (k + 1) x4 x14 x14.length i acc = _
    rw [punchcutlaw04_Outline.l0, if_neg (by omega)]
  | succ m ih =>
    intro i x4 acc hm h0 h1 h2 h3 h4 h5
    by_cases hz : i < x14.length
    · obtain ⟨row, hrow⟩ : ∃ row, rd_L12 x14 i = row := ⟨_, rfl⟩
      obtain ⟨t, ht⟩ : ∃ t, mn (mn (row.length : Int) 12) x4 = t := ⟨_, rfl⟩
      have t0 : 0 ≤ t := by rw [← ht]; exact mn_ge (mn_ge (by omega) (by omega)) h2
      have t1 : t ≤ row.length ∧ t ≤ 12 ∧ t ≤ x4 := by
        have a := mn_le (mn (row.length : Int) 12) x4
        have b := mn_le (row.length : Int) 12
        omega
      have hlen : (row.take t.toNat).length = t.toNat := by rw [List.length_take]; omega
      have hvl : ((row.take t.toNat).map vert).length = t.toNat := by rw [List.length_map, hlen]
      have wi : wrap64 (i + 1) = i + 1 := w64 (by omega) (by omega)
      have wx : wrap64 (x4 - (t.toNat : Int)) = x4 - t := by rw [w64 (by omega) (by omega)]; omega
      have hc : ∃ r, r.length ≤ 8 ∧ (∀ c ∈ r, ContIn c) ∧ Ret (fun k => if (((row.take t.toNat).map vert).length : Int) > 0 then (if acc.length < 5864062014805 then (punchcutlaw04_Outline.l0 k (wrap64 (x4 - (((row.take t.toNat).map vert).length : Int))) x14 x14.length (wrap64 (i + 1)) (acc ++ [(row.take t.toNat).map vert])) else (none)) else (punchcutlaw04_Outline.l0 k (wrap64 (x4 - (((row.take t.toNat).map vert).length : Int))) x14 x14.length (wrap64 (i + 1)) acc)) r := by
        rw [hvl, wi, wx]
        by_cases hp : (t.toNat : Int) > 0
        · simp only [if_pos hp, if_pos (show acc.length < 5864062014805 by omega)]
          refine ih (i + 1) (x4 - t) _ (by omega) (by omega) (by omega) (by omega) (by omega) (by rw [List.length_append]; simp; omega) ?_
          intro c hc
          rcases List.mem_append.1 hc with hc | hc
          · exact h5 c hc
          · rw [List.mem_singleton.1 hc]
            refine ⟨by omega, by omega, fun v hv => ?_⟩
            obtain ⟨d, _, rfl⟩ := List.mem_map.1 hv
            exact vert_in d
        · simp only [if_neg hp]
          exact ih (i + 1) (x4 - t) acc (by omega) (by omega) (by omega) (by omega) (by omega) (by omega) h5
      obtain ⟨r, r1, r2, hr⟩ := hc
      have h1 := outline_l1 x4 x14 x14.length i (row.take t.toNat) acc (by omega) r hr _ 0 (Nat.le_refl _) (by omega) (by omega)
      refine ⟨r, r1, r2, Ret.succ (Ret.congr h1 fun k => ?_)⟩
      show punchcutlaw04_Outline.l0 (k + 1) x4 x14 x14.length i acc = _
      rw [punchcutlaw04_Outline.l0, if_pos hz, if_pos h0, if_pos hz, hrow, ht, if_pos t0, if_pos t1.1]
      rfl
    · refine ⟨acc, by omega, h5, Ret.succ (Ret.congr (Ret.const rfl) fun k => ?_)⟩
      show punchcutlaw04_Outline.l0 (k + 1) x4 x14 x14.length i acc = _
      rw [punchcutlaw04_Outline.l0, if_neg hz]
theorem outline_eq (l : List (List S133)) : ∃ r, r.length ≤ 8 ∧ (∀ c ∈ r, ContIn c) ∧ Ret (fun k => punchcutlaw04_Outline.f k l) r := by
  obtain ⟨t, ht⟩ : ∃ t, mn (l.length : Int) 8 = t := ⟨_, rfl⟩
  have t0 : 0 ≤ t := by rw [← ht]; exact mn_ge (by omega) (by omega)
  have t1 := mn_le (l.length : Int) 8
  rw [ht] at t1
  have hlen : (l.take t.toNat).length = t.toNat := by rw [List.length_take]; omega
  obtain ⟨r, r1, r2, hr⟩ := outline_l0 (l.take t.toNat) (by omega) _ 0 64 [] (Nat.le_refl _) (by omega) (by omega) (by omega) (by omega) (by simp) (by simp)
  refine ⟨r, r1, r2, Ret.congr hr fun k => ?_⟩
  unfold punchcutlaw04_Outline.f
  rw [ht, if_pos t0, if_pos t1.1]
  rfl
end Go.Proofs.Ytlljpjbhndcaiaa.M
end
section
set_option linter.unusedVariables false
set_option linter.unusedSimpArgs false
namespace Go.Proofs.Ytlljpjbhndcaiaa.M
open Go.RowKit Go.Proofs.Ytlljpjbhndcaiaa.Q Go.Proofs.YtlljpjbhndcaiaaW.PrintWords Go.Proofs.YtlljpjbhndcaiaaW.PrintLast Go.Proofs.YtlljpjbhndcaiaaW.PrintMore Go.Proofs.Ytlljpjbhndcaiaa.Geo
def P510 (p : S32) : Prop := (-510 ≤ p.f0 ∧ p.f0 ≤ 510) ∧ (-510 ≤ p.f1 ∧ p.f1 ≤ 510)
def SegIn (s : S143) : Prop := P510 s.f0 ∧ P510 s.f1 ∧ P510 s.f2
theorem pt_in (v : S135) (h : VertIn v) : P510 (path_pt v) := by
  obtain ⟨⟨h1, h2⟩, ⟨h3, h4⟩⟩ := h
  unfold path_pt P510
  simp only
  rw [w64 (by omega) (by omega), w64 (by omega) (by omega)]
  omega
theorem hf_in (a b : S135) (ha : VertIn a) (hb : VertIn b) : P510 (path_hf a b) := by
  obtain ⟨⟨h1, h2⟩, ⟨h3, h4⟩⟩ := ha
  obtain ⟨⟨h5, h6⟩, ⟨h7, h8⟩⟩ := hb
  unfold path_hf P510
  simp only
  rw [w64 (by omega) (by omega), w64 (by omega) (by omega)]
  omega
theorem seg_in (here p : S32) (pull : Option S135) (h1 : P510 here) (h2 : P510 p) (h3 : ∀ v, pull = some v → VertIn v) : SegIn (path_seg here pull p) := by
  cases pull with
  | none => exact ⟨h1, h1, h2⟩
  | some v => exact ⟨h1, pt_in v (h3 v rfl), h2⟩
theorem rd135_in (l : List S135) (h : ∀ v ∈ l, VertIn v) (i : Int) : VertIn (rd_T135 l i) := by
  unfold rd_T135
  rw [List.getD_eq_getElem?_getD]
  by_cases hi : i.toNat < l.length
  · rw [List.getElem?_eq_getElem hi]
    exact h _ (List.getElem_mem _)
  · rw [List.getElem?_eq_none (by omega)]
    unfold VertIn z135
    simp
theorem begin_in (l : List S135) (h : ∀ v ∈ l, VertIn v) : P510 (path_begin l) := by
  unfold path_begin
  split
  · exact pt_in _ (rd135_in l h _)
  · exact hf_in _ _ (rd135_in l h _) (rd135_in l h _)
def tele (φ : S32 → Int) (es : List S40) : Int := (es.map fun e => φ e.f1 - φ e.f0).sum
theorem tele_append (φ : S32 → Int) (a b : List S40) : tele φ (a ++ b) = tele φ a + tele φ b := by simp [tele]
theorem S32.eq {a b : S32} (h : a.f0 = b.f0 ∧ a.f1 = b.f1) : a = b := by
  cases a; cases b; simp_all
theorem tele_edge (φ : S32 → Int) (a b : S32) : tele φ (flat_edge a b) = φ b - φ a := by
  unfold flat_edge
  split
  · rename_i h; rw [S32.eq h]; simp [tele]
  · simp [tele]
theorem tele_chords (φ : S32 → Int) (s : S143) : ∀ k, tele φ (flat_chords s k) = φ (flat_pt s k) - φ (flat_pt s 0) := by
  intro k
  induction k with
  | zero => simp [flat_chords, tele]
  | succ k ih => rw [flat_chords, tele_append, ih, tele_edge]; omega
theorem on_c {a b c x y z : Int} (ha : 0 ≤ a ∧ a ≤ 16) (hb : 0 ≤ b ∧ b ≤ 16) (hc : 0 ≤ c ∧ c ≤ 16) (hx : -510 ≤ x ∧ x ≤ 510) (hy : -510 ≤ y ∧ y ≤ 510) (hz : -510 ≤ z ∧ z ≤ 510) : flat_On.c a b c x y z = a * x + b * y + c * z := by
  have h1 := mulb (a := a) (b := x) (A := 16) (B := 510) (by omega) (by omega) (by omega) (by omega)
  have h2 := mulb (a := b) (b := y) (A := 16) (B := 510) (by omega) (by omega) (by omega) (by omega)
  have h3 := mulb (a := c) (b := z) (A := 16) (B := 510) (by omega) (by omega) (by omega) (by omega)
  unfold flat_On.c
  rw [w64 (n := a * x) (by omega) (by omega), w64 (n := b * y) (by omega) (by omega), w64 (n := c * z) (by omega) (by omega), w64 (n := a * x + b * y) (by omega) (by omega), w64 (n := a * x + b * y + c * z) (by omega) (by omega),
    w64 (n := (a * x + b * y + c * z) * 16) (by omega) (by omega), Int.mul_tdiv_cancel _ (by omega), w64 (by omega) (by omega)]
theorem cv_eq (s : S143) (hs : SegIn s) (k : Int) (h0 : 0 ≤ k) (h4 : k ≤ 4) :
    flat_cv s k = ⟨(4 - k) * (4 - k) * s.f0.f0 + 2 * k * (4 - k) * s.f1.f0 + k * k * s.f2.f0, (4 - k) * (4 - k) * s.f0.f1 + 2 * k * (4 - k) * s.f1.f1 + k * k * s.f2.f1⟩ := by
  obtain ⟨⟨a, b⟩, ⟨c, d⟩, ⟨e, f⟩⟩ := hs
  have m1 : 0 ≤ (4 - k) * (4 - k) ∧ (4 - k) * (4 - k) ≤ 4 * 4 := mul_bound (by omega) (by omega) (by omega) (by omega)
  have m2 : 0 ≤ k * (4 - k) ∧ k * (4 - k) ≤ 4 := by
    obtain rfl | rfl | rfl | rfl | rfl : k = 0 ∨ k = 1 ∨ k = 2 ∨ k = 3 ∨ k = 4 := by omega
    all_goals omega
  have m3 : 0 ≤ k * k ∧ k * k ≤ 4 * 4 := mul_bound (by omega) (by omega) (by omega) (by omega)
  have e2 : 2 * k * (4 - k) = 2 * (k * (4 - k)) := by grind
  unfold flat_cv
  rw [w64 (n := 4 - k) (by omega) (by omega), w64 (n := 2 * k) (by omega) (by omega), w64 (n := (4 - k) * (4 - k)) (by omega) (by omega), w64 (n := 2 * k * (4 - k)) (by omega) (by omega), w64 (n := k * k) (by omega) (by omega)]
  rw [on_c (by omega) (by omega) (by omega) a c e, on_c (by omega) (by omega) (by omega) b d f]
def P8160 (p : S32) : Prop := Small p.f0 ∧ Small p.f1
theorem sm_eq (p : S32) (h : P510 p) : flat_sm p = ⟨16 * p.f0, 16 * p.f1⟩ := by
  obtain ⟨⟨h1, h2⟩, ⟨h3, h4⟩⟩ := h
  unfold flat_sm
  rw [w64 (by omega) (by omega), w64 (by omega) (by omega)]
theorem sm_in (p : S32) (h : P510 p) : P8160 (flat_sm p) := by
  rw [sm_eq p h]
  obtain ⟨⟨h1, h2⟩, ⟨h3, h4⟩⟩ := h
  unfold P8160 Small
  simp only
  omega
theorem fpt_in (s : S143) (hs : SegIn s) : ∀ k : Nat, k ≤ 4 → P8160 (flat_pt s k) := by
  intro k hk
  cases k with
  | zero => exact sm_in _ hs.1
  | succ k =>
    show P8160 (flat_cv s ((k : Int) + 1))
    rw [cv_eq s hs _ (by omega) (by omega)]
    obtain ⟨⟨a, b⟩, ⟨c, d⟩, ⟨e, f⟩⟩ := hs
    unfold P8160 Small
    simp only
    obtain rfl | rfl | rfl | rfl : k = 0 ∨ k = 1 ∨ k = 2 ∨ k = 3 := by omega
    all_goals (simp; omega)
theorem fpt_four (s : S143) (hs : SegIn s) : flat_pt s 4 = flat_sm s.f2 := by
  show flat_cv s (((3 : Nat) : Int) + 1) = _
  rw [cv_eq s hs _ (by omega) (by omega), sm_eq _ hs.2.2]
  simp
theorem edge_in (a b : S32) (ha : P8160 a) (hb : P8160 b) : AllIn (flat_edge a b) := by
  unfold flat_edge
  split
  · intro e he; simp at he
  · intro e he
    rw [List.mem_singleton.1 he]
    exact ⟨ha.1, ha.2, hb.1, hb.2⟩
theorem edge_len (a b : S32) : (flat_edge a b).length ≤ 1 := by unfold flat_edge; split <;> simp
theorem chords_in (s : S143) (hs : SegIn s) : ∀ k : Nat, k ≤ 4 → AllIn (flat_chords s k) ∧ (flat_chords s k).length ≤ k := by
  intro k
  induction k with
  | zero => intro _; exact ⟨fun e he => by simp [flat_chords] at he, by simp [flat_chords]⟩
  | succ k ih =>
    intro hk
    obtain ⟨i1, i2⟩ := ih (by omega)
    rw [flat_chords]
    refine ⟨fun e he => ?_, ?_⟩
    · rcases List.mem_append.1 he with he | he
      · exact i1 e he
      · exact edge_in _ _ (fpt_in s hs k (by omega)) (fpt_in s hs (k + 1) (by omega)) e he
    · have := edge_len (flat_pt s k) (flat_pt s (k + 1))
      rw [List.length_append]; omega
theorem fseg_in (s : S143) (hs : SegIn s) : AllIn (flat_seg s) ∧ (flat_seg s).length ≤ 4 ∧ ∀ φ, tele φ (flat_seg s) = φ (flat_sm s.f2) - φ (flat_sm s.f0) := by
  unfold flat_seg
  split
  · obtain ⟨a, b⟩ := chords_in s hs 4 (by omega)
    refine ⟨a, b, fun φ => ?_⟩
    rw [tele_chords, fpt_four s hs]
    rfl
  · refine ⟨edge_in _ _ (sm_in _ hs.1) (sm_in _ hs.2.2), by have := edge_len (flat_sm s.f0) (flat_sm s.f2); omega, fun φ => tele_edge φ _ _⟩
structure RunIn (b : S32) (s : path_S) : Prop where
  here : P510 s.here
  pull : ∀ v, s.pull = some v → VertIn v
  out : ∀ x ∈ s.out, SegIn x
  tel : ∀ φ, tele φ (s.out.flatMap flat_seg) = φ (flat_sm s.here) - φ (flat_sm b)
theorem seg_ends (here p : S32) (pull : Option S135) : (path_seg here pull p).f0 = here ∧ (path_seg here pull p).f2 = p := by
  cases pull <;> exact ⟨rfl, rfl⟩
theorem run_put (b : S32) (s : path_S) (h : RunIn b s) (p : S32) (hp : P510 p) : (∀ x ∈ s.out ++ [path_seg s.here s.pull p], SegIn x) ∧ ∀ φ, tele φ ((s.out ++ [path_seg s.here s.pull p]).flatMap flat_seg) = φ (flat_sm p) - φ (flat_sm b) := by
  have hs := seg_in s.here p s.pull h.here hp h.pull
  refine ⟨fun x hx => ?_, fun φ => ?_⟩
  · rcases List.mem_append.1 hx with hx | hx
    · exact h.out x hx
    · rw [List.mem_singleton.1 hx]; exact hs
  · rw [List.flatMap_append, tele_append, h.tel]
    simp only [List.flatMap_cons, List.flatMap_nil, List.append_nil]
    rw [(fseg_in _ hs).2.2, (seg_ends _ _ _).1, (seg_ends _ _ _).2]
    omega
theorem step_in (b : S32) (s : path_S) (v : S135) (h : RunIn b s) (hv : VertIn v) : RunIn b (path_step s v) := by
  unfold path_step
  split
  · have := run_put b s h (path_pt v) (pt_in v hv)
    exact ⟨pt_in v hv, fun _ h => (by cases h), this.1, this.2⟩
  · split
    · rename_i q hq
      have hqv := h.pull q hq
      have := run_put b s h (path_hf q v) (hf_in q v hqv hv)
      exact ⟨hf_in q v hqv hv, fun _ h => (by cases h; exact hv), this.1, this.2⟩
    · exact ⟨h.here, fun _ h => (by cases h; exact hv), h.out, h.tel⟩
theorem runs_in (l : List S135) (h : ∀ v ∈ l, VertIn v) : ∀ k, RunIn (path_begin l) (path_run l k) := by
  intro k
  induction k with
  | zero => exact ⟨begin_in l h, fun _ h => (by cases h), fun _ h => (by simp [path_run] at h), fun φ => by simp [path_run, tele]⟩
  | succ k ih => exact step_in _ _ _ ih (rd135_in l h _)
theorem all_in (l : List S135) (h : ∀ v ∈ l, VertIn v) : (∀ x ∈ path_all l, SegIn x) ∧ ∀ φ, tele φ ((path_all l).flatMap flat_seg) = 0 := by
  have := run_put _ _ (runs_in l h (path_count l)) (path_begin l) (begin_in l h)
  refine ⟨this.1, fun φ => ?_⟩
  rw [path_all, this.2]
  omega
theorem all_len (l : List S135) (h : l.length ≤ 12) : (path_all l).length ≤ 13 := by
  have := path_run_len l (path_count l)
  have hc : path_count l ≤ l.length := by unfold path_count; split <;> omega
  rw [path_all, List.length_append, List.length_singleton]
  omega
end Go.Proofs.Ytlljpjbhndcaiaa.M
end
section
set_option linter.unusedVariables false
set_option linter.unusedSimpArgs false
namespace Go.Proofs.Ytlljpjbhndcaiaa.M
open Go.RowKit Go.Proofs.Ytlljpjbhndcaiaa.Q Go.Proofs.YtlljpjbhndcaiaaW.PrintWords Go.Proofs.YtlljpjbhndcaiaaW.PrintLast Go.Proofs.YtlljpjbhndcaiaaW.PrintMore Go.Proofs.Ytlljpjbhndcaiaa.Geo
def SegsIn (c : List S143) : Prop := (∀ x ∈ c, SegIn x) ∧ c.length ≤ 13 ∧ ∀ φ, tele φ (c.flatMap flat_seg) = 0
theorem segs_eq (c : List S135) (h : ContIn c) : ∃ s, SegsIn s ∧ path_Segs.f c = some s := by
  obtain ⟨h0, h1, h2⟩ := h
  refine ⟨path_all c, ⟨(all_in c h2).1, all_len c h1, (all_in c h2).2⟩, ?_⟩
  unfold path_Segs.f
  rw [if_pos (by omega), if_neg (by omega)]
theorem pathall_l0 (x7 : List (List S135)) (hl : x7.length ≤ 8) (hx : ∀ c ∈ x7, ContIn c) : ∀ (m : Nat) (i : Int) (acc : List (List S143)), x7.length - i.toNat ≤ m → 0 ≤ i → i ≤ x7.length → acc.length ≤ i.toNat → (∀ c ∈ acc, SegsIn c) →
    ∃ r, r.length ≤ 8 ∧ (∀ c ∈ r, SegsIn c) ∧ Ret (fun k => path_All.l0 k acc x7 x7.length i) r := by
  intro m
  induction m with
  | zero =>
    intro i acc hm h0 h1 h4 h5
    refine ⟨acc, by omega, h5, Ret.succ (Ret.congr (Ret.const rfl) fun k => ?_)⟩
    show path_All.l0 (k + 1) acc x7 x7.length i = _
    rw [path_All.l0, if_neg (by omega)]
  | succ m ih =>
    intro i acc hm h0 h1 h4 h5
    by_cases hz : i < x7.length
    · have hmem : rd_L9 x7 i ∈ x7 := by
        unfold rd_L9
        rw [List.getD_eq_getElem?_getD, List.getElem?_eq_getElem (by omega)]
        exact List.getElem_mem _
      obtain ⟨s, hs, he⟩ := segs_eq _ (hx _ hmem)
      obtain ⟨r, r1, r2, hr⟩ := ih (i + 1) (acc ++ [s]) (by omega) (by omega) (by omega) (by rw [List.length_append]; simp; omega) (fun c hc => by
        rcases List.mem_append.1 hc with hc | hc
        · exact h5 c hc
        · rw [List.mem_singleton.1 hc]; exact hs)
      refine ⟨r, r1, r2, Ret.succ (Ret.congr hr fun k => ?_)⟩
      show path_All.l0 (k + 1) acc x7 x7.length i = _
      rw [path_All.l0, if_pos hz, if_pos h0, if_pos hz, he, w64 (n := i + 1) (by omega) (by omega)]
      simp only [Option.bind_some]
      rw [if_pos (by omega)]
    · refine ⟨acc, by omega, h5, Ret.succ (Ret.congr (Ret.const rfl) fun k => ?_)⟩
      show path_All.l0 (k + 1) acc x7 x7.length i = _
      rw [path_All.l0, if_neg hz]
theorem pathall_eq (l : List (List S135)) (hl : l.length ≤ 8) (hx : ∀ c ∈ l, ContIn c) : ∃ r, r.length ≤ 8 ∧ (∀ c ∈ r, SegsIn c) ∧ Ret (fun k => path_All.f k l) r :=
  pathall_l0 l hl hx _ 0 [] (Nat.le_refl _) (by omega) (by omega) (by simp) (by simp)
structure Glyph (es : List S40) (n : Nat) : Prop where
  small : AllIn es
  few : es.length ≤ n
  closed : ∀ φ, tele φ es = 0
theorem edges_eq (c : List S143) (h : SegsIn c) : ∃ es, Glyph es 52 ∧ flat_Edges.f c = some es := by
  obtain ⟨h0, h1, h2⟩ := h
  refine ⟨c.flatMap flat_seg, ⟨?_, ?_, h2⟩, ?_⟩
  · intro e he
    obtain ⟨s, hs, he⟩ := List.mem_flatMap.1 he
    exact (fseg_in s (h0 s hs)).1 e he
  · have key : ∀ c : List S143, (∀ x ∈ c, SegIn x) → (c.flatMap flat_seg).length ≤ 4 * c.length := by
      intro c
      induction c with
      | nil => simp
      | cons x r ih =>
        intro h
        have a := ih (fun y hy => h y (by simp [hy]))
        have b := (fseg_in x (h x (by simp))).2.1
        rw [List.flatMap_cons, List.length_append, List.length_cons]
        omega
    have := key c h0
    omega
  · unfold flat_Edges.f
    rw [if_pos (by omega)]
theorem flatall_l0 (x6 : List (List S143)) (hl : x6.length ≤ 8) (hx : ∀ c ∈ x6, SegsIn c) : ∀ (m : Nat) (i : Int) (acc : List S40), x6.length - i.toNat ≤ m → 0 ≤ i → i ≤ x6.length → Glyph acc (52 * i.toNat) →
    ∃ r, Glyph r 416 ∧ Ret (fun k => flat_All.l0 k acc x6 x6.length i) r := by
  intro m
  induction m with
  | zero =>
    intro i acc hm h0 h1 h5
    refine ⟨acc, ⟨h5.small, by have := h5.few; omega, h5.closed⟩, Ret.succ (Ret.congr (Ret.const rfl) fun k => ?_)⟩
    show flat_All.l0 (k + 1) acc x6 x6.length i = _
    rw [flat_All.l0, if_neg (by omega)]
  | succ m ih =>
    intro i acc hm h0 h1 h5
    by_cases hz : i < x6.length
    · have hmem : rd_L7 x6 i ∈ x6 := by
        unfold rd_L7
        rw [List.getD_eq_getElem?_getD, List.getElem?_eq_getElem (by omega)]
        exact List.getElem_mem _
      obtain ⟨s, hs, he⟩ := edges_eq _ (hx _ hmem)
      have f1 := h5.few
      have f2 := hs.few
      obtain ⟨r, r1, hr⟩ := ih (i + 1) (acc ++ s) (by omega) (by omega) (by omega) ⟨fun e he => (by
        rcases List.mem_append.1 he with he | he
        · exact h5.small e he
        · exact hs.small e he), by rw [List.length_append]; omega, fun φ => by rw [tele_append, h5.closed, hs.closed]; omega⟩
      refine ⟨r, r1, Ret.succ (Ret.congr hr fun k => ?_)⟩
      show flat_All.l0 (k + 1) acc x6 x6.length i = _
      rw [flat_All.l0, if_pos hz, if_pos h0, if_pos hz, he, w64 (n := i + 1) (by omega) (by omega)]
      simp only [Option.bind_some]
      rw [if_pos (by omega)]
    · refine ⟨acc, ⟨h5.small, by have := h5.few; omega, h5.closed⟩, Ret.succ (Ret.congr (Ret.const rfl) fun k => ?_)⟩
      show flat_All.l0 (k + 1) acc x6 x6.length i = _
      rw [flat_All.l0, if_neg hz]
theorem flatall_eq (l : List (List S143)) (hl : l.length ≤ 8) (hx : ∀ c ∈ l, SegsIn c) : ∃ r, Glyph r 416 ∧ Ret (fun k => flat_All.f k l) r :=
  flatall_l0 l hl hx _ 0 [] (Nat.le_refl _) (by omega) (by omega) ⟨by intro e he; simp at he, by simp, fun φ => by simp [tele]⟩
theorem glyph_l0 (x10 : List (List S133)) (hl : x10.length ≤ 3) : ∀ (m : Nat) (i : Int) (acc : List (List S133)), x10.length - i.toNat ≤ m → 0 ≤ i → i ≤ x10.length → acc.length ≤ i.toNat →
    ∃ r, Glyph r 416 ∧ Ret (fun k => punchcutlaw06_Glyph.l0 k acc x10 x10.length i) r := by
  have fin : ∀ (i : Int) (acc : List (List S133)), ¬ i < x10.length → ∃ r, Glyph r 416 ∧ Ret (fun k => punchcutlaw06_Glyph.l0 k acc x10 x10.length i) r := by
    intro i acc hi
    obtain ⟨o, o1, o2, ho⟩ := outline_eq acc
    obtain ⟨s, s1, s2, hs⟩ := pathall_eq o o1 o2
    obtain ⟨r, r1, hr⟩ := flatall_eq s s1 s2
    refine ⟨r, r1, Ret.succ (Ret.congr (Ret.bind ho (h := fun k t217 => (path_All.f k t217).bind fun t220 => (flat_All.f k t220).bind fun t223 => some t223) (Ret.bind hs (h := fun k t220 => (flat_All.f k t220).bind fun t223 => some t223) (Ret.bind hr (h := fun _ t223 => some t223) (Ret.const rfl)))) fun k => ?_)⟩
    show punchcutlaw06_Glyph.l0 (k + 1) acc x10 x10.length i = _
    rw [punchcutlaw06_Glyph.l0, if_neg hi]
  intro m
  induction m with
  | zero =>
    intro i acc hm h0 h1 h4
    exact fin i acc (by omega)
  | succ m ih =>
    intro i acc hm h0 h1 h4
    by_cases hz : i < x10.length
    · have a1 := mn_le ((rd_L12 x10 i).length : Int) 6
      have a2 : 0 ≤ mn ((rd_L12 x10 i).length : Int) 6 := mn_ge (by omega) (by omega)
      obtain ⟨r, r1, hr⟩ := ih (i + 1) (acc ++ [((rd_L12 x10 i).take ((mn ((rd_L12 x10 i).length : Int) 6) : Int).toNat)]) (by omega) (by omega) (by omega) (by rw [List.length_append]; simp; omega)
      refine ⟨r, r1, Ret.succ (Ret.congr hr fun k => ?_)⟩
      show punchcutlaw06_Glyph.l0 (k + 1) acc x10 x10.length i = _
      rw [punchcutlaw06_Glyph.l0, if_pos hz, if_pos h0, if_pos hz, if_pos a2, if_pos a1.1, if_pos (by omega), w64 (n := i + 1) (by omega) (by omega)]
    · exact fin i acc hz
theorem glyph_eq (l : List (List S133)) : ∃ es, Glyph es 416 ∧ Ret (fun k => punchcutlaw06_Glyph.f k l) es := by
  obtain ⟨t, ht⟩ : ∃ t, mn (l.length : Int) 3 = t := ⟨_, rfl⟩
  have t0 : 0 ≤ t := by rw [← ht]; exact mn_ge (by omega) (by omega)
  have t1 := mn_le (l.length : Int) 3
  rw [ht] at t1
  have hlen : (l.take t.toNat).length = t.toNat := by rw [List.length_take]; omega
  obtain ⟨r, r1, hr⟩ := glyph_l0 (l.take t.toNat) (by omega) _ 0 [] (Nat.le_refl _) (by omega) (by omega) (by simp)
  refine ⟨r, r1, Ret.congr hr fun k => ?_⟩
  unfold punchcutlaw06_Glyph.f
  rw [ht, if_pos t0, if_pos t1.1]
  rfl
end Go.Proofs.Ytlljpjbhndcaiaa.M
end
section
set_option linter.unusedVariables false
set_option linter.unusedSimpArgs false
namespace Go.Proofs.Ytlljpjbhndcaiaa.M
open Go.RowKit Go.Proofs.Ytlljpjbhndcaiaa.Q Go.Proofs.YtlljpjbhndcaiaaW.PrintWords Go.Proofs.YtlljpjbhndcaiaaW.PrintLast Go.Proofs.YtlljpjbhndcaiaaW.PrintMore Go.Proofs.Ytlljpjbhndcaiaa.Geo
structure GridIn (X Y P W H S : Int) : Prop where
  x : -255 ≤ X ∧ X ≤ 255
  y : -255 ≤ Y ∧ Y ≤ 255
  p : 1 ≤ P ∧ P ≤ 16
  w : 1 ≤ W ∧ W ≤ 24
  h : 1 ≤ H ∧ H ≤ 24
  s : 1 ≤ S ∧ S ≤ 64
theorem check_in {X Y P W H S : Int} (g : GridIn X Y P W H S) : grid_Check.f X Y P W H S = some 0 := by
  obtain ⟨x, y, p, w, h, s⟩ := g
  unfold grid_Check.f
  rw [if_pos ⟨w, h⟩, if_pos ⟨x, y, p, s⟩]
def at1 (P F n : Int) : Int := F * 32 + n * P * 32 + P * 16
def centre (X Y P i k : Int) : Pt := ⟨at1 P X i, at1 P Y k⟩
theorem c_eq {P F n : Int} (hP : 1 ≤ P ∧ P ≤ 16) (hF : -255 ≤ F ∧ F ≤ 255) (hn : 0 ≤ n ∧ n ≤ 24) : grid_Centre.c P F n = at1 P F n ∧ Mid (at1 P F n) := by
  have m := mul_bound (a := n) (b := P) (n := 24) (m := 16) hn.1 hn.2 (by omega) hP.2
  unfold grid_Centre.c at1 Mid
  have e : Int.tdiv (P * 32) 2 = P * 16 := by
    rw [show P * 32 = P * 16 * 2 by omega, Int.mul_tdiv_cancel _ (by omega)]
  rw [w64 (n := P * 32) (by omega) (by omega), e, w64 (n := P * 16) (by omega) (by omega), w64 (n := n * P) (by omega) (by omega), w64 (n := n * P * 32) (by omega) (by omega), w64 (n := F * 32) (by omega) (by omega), w64 (n := F * 32 + n * P * 32) (by omega) (by omega), w64 (n := F * 32 + n * P * 32 + P * 16) (by omega) (by omega)]
  exact ⟨rfl, by omega⟩
theorem centre_eq {X Y P W H S i k : Int} (g : GridIn X Y P W H S) (hi : 0 ≤ i ∧ i ≤ 24) (hk : 0 ≤ k ∧ k ≤ 24) : grid_Centre.f X Y P W H S i k = some ((centre X Y P i k).x, (centre X Y P i k).y) ∧ PtIn (centre X Y P i k) := by
  obtain ⟨a, b⟩ := c_eq g.p g.x hi
  obtain ⟨c, d⟩ := c_eq g.p g.y hk
  unfold grid_Centre.f
  rw [a, c]
  exact ⟨rfl, b, d⟩
def code (S s a : Int) : Int := if a < 256 * S then 128 + s * (a * 127 / (256 * S)) else 128 + s * 127
theorem code_part {S a : Int} (hS : 1 ≤ S ∧ S ≤ 64) (ha : 0 ≤ a) (h : a < 256 * S) : 0 ≤ a * 127 / (256 * S) ∧ a * 127 / (256 * S) ≤ 126 := by
  refine ⟨Int.ediv_nonneg (by omega) (by omega), ?_⟩
  have := Int.ediv_lt_of_lt_mul (a := a * 127) (b := 127) (c := 256 * S) (by omega) (by omega)
  omega
theorem code_bound {S s a : Int} (hS : 1 ≤ S ∧ S ≤ 64) (hs : s = -1 ∨ s = 0 ∨ s = 1) (ha : 0 ≤ a) : 1 ≤ code S s a ∧ code S s a ≤ 255 := by
  unfold code
  split
  · rename_i h
    have := code_part hS ha h
    rcases hs with rfl | rfl | rfl <;> omega
  · rcases hs with rfl | rfl | rfl <;> omega
theorem code_eq {X Y P W H S : Int} (g : GridIn X Y P W H S) {s a : Int} (hs : s = -1 ∨ s = 0 ∨ s = 1) (ha : 0 ≤ a) : grid_Code.f X Y P W H S s a = some (code S s a) := by
  have hS := g.s
  have hb := code_bound hS hs ha
  unfold grid_Code.f code at *
  rw [w64 (n := 256 * S) (by omega) (by omega)]
  by_cases h : a < 256 * S
  · have hp := code_part hS ha h
    rw [if_pos h, if_neg (by omega), if_pos h]
    rw [if_pos h] at hb
    rw [w64 (n := a * 127) (by omega) (by omega), Int.tdiv_eq_ediv_of_nonneg (by omega)]
    generalize a * 127 / (256 * S) = q at *
    have hq : -126 ≤ s * q ∧ s * q ≤ 126 := by rcases hs with rfl | rfl | rfl <;> omega
    rw [w64 (n := q) (by omega) (by omega), w64 (n := s * q) (by omega) (by omega), w64 (n := 128 + s * q) (by omega) (by omega)]
    congr 1
    omega
  · rw [if_neg h, if_neg h]
    rw [if_neg h] at hb
    have hq : -127 ≤ s * 127 ∧ s * 127 ≤ 127 := by rcases hs with rfl | rfl | rfl <;> omega
    rw [w64 (n := s * 127) (by omega) (by omega), w64 (n := 128 + s * 127) (by omega) (by omega)]
    congr 1
    omega
theorem sign_cases (es : List S40) (p : Pt) : sign es p = -1 ∨ sign es p = 0 ∨ sign es p = 1 := by
  unfold sign
  repeat' split
  all_goals simp
noncomputable def eight (es : List S40) (p : Pt) : Int := Classical.epsilon (Is8 es p)
theorem eight_is {es : List S40} {p : Pt} {v : Int} (h : Is8 es p v) : eight es p = v := Is8.unique (Classical.epsilon_spec (p := Is8 es p) ⟨v, h⟩) h
theorem eight_ret (es : List S40) (p : Pt) (hes : AllIn es) (hp : PtIn p) (hl : es.length < 9000000000000000000) (hne : es ≠ []) : Is8 es p (eight es p) ∧ Ret (fun k => dist_Eight.f k es p.x p.y) (eight es p) := by
  obtain ⟨v, h1, h2⟩ := eight_eq es p hes hp hl hne
  rw [eight_is h1]
  exact ⟨h1, h2⟩
open Classical in
noncomputable def tx (es : List S40) (X Y P S i k : Int) : Int := if es = [] then 1 else code S (sign es (centre X Y P i k)) (eight es (centre X Y P i k))
theorem texel_eq (es : List S40) (hes : AllIn es) (hl : es.length < 9000000000000000000) {X Y P W H S i k : Int} (g : GridIn X Y P W H S) (hi : 0 ≤ i ∧ i ≤ 24) (hk : 0 ≤ k ∧ k ≤ 24) :
    Ret (fun f => sdf_Texel.f f es X Y P W H S i k) (tx es X Y P S i k) := by
  obtain ⟨ec, hp⟩ := centre_eq (X := X) (Y := Y) (P := P) (W := W) (H := H) (S := S) g hi hk
  have hS := g.s
  unfold sdf_Texel.f tx
  rw [ec]
  refine Ret.bind (Ret.const rfl) ?_
  by_cases h : es = []
  · subst h
    refine Ret.bind (eight_nil _) ?_
    simp only [if_pos (show (-1 : Int) < 0 by omega)]
    rw [w64 (n := 256 * S) (by omega) (by omega), code_eq g (.inl rfl) (by omega)]
    refine Ret.const ?_
    simp [code]
  · obtain ⟨h8, hr⟩ := eight_ret es _ hes hp hl h
    refine Ret.bind hr ?_
    simp only [if_neg h, if_neg (show ¬ eight es (centre X Y P i k) < 0 by have := h8.1; omega)]
    refine Ret.bind (sign_eq es _ hp hes hl) ?_
    rw [code_eq g (sign_cases _ _) h8.1]
    exact Ret.const rfl
noncomputable def rowOf (es : List S40) (X Y P S k : Int) (n : Nat) : List Int := (List.range n).map fun i : Nat => tx es X Y P S (i : Int) k
theorem rowOf_succ (es : List S40) (X Y P S k : Int) (i : Int) (h0 : 0 ≤ i) : rowOf es X Y P S k (i + 1).toNat = rowOf es X Y P S k i.toNat ++ [tx es X Y P S i k] := by
  have e : (i + 1).toNat = i.toNat + 1 := by omega
  unfold rowOf
  rw [e, List.range_succ, List.map_append]
  simp only [List.map_cons, List.map_nil]
  rw [show ((i.toNat : Nat) : Int) = i by omega]
theorem rowOf_len (es : List S40) (X Y P S k : Int) (n : Nat) : (rowOf es X Y P S k n).length = n := by simp [rowOf]
theorem row_l0 (es : List S40) (hes : AllIn es) (hl : es.length < 9000000000000000000) {X Y P W H S k : Int} (g : GridIn X Y P W H S) (hk : 0 ≤ k ∧ k ≤ 24) : ∀ (m : Nat) (i : Int), W.toNat - i.toNat ≤ m → 0 ≤ i → i ≤ W →
    Ret (fun f => sdf_Row.l0 f es k (rowOf es X Y P S k i.toNat) i X Y P W H S) (rowOf es X Y P S k W.toNat) := by
  have hW := g.w
  intro m
  induction m with
  | zero =>
    intro i hm h0 h1
    obtain rfl : i = W := by omega
    refine Ret.succ (Ret.congr (Ret.const rfl) fun f => ?_)
    show sdf_Row.l0 (f + 1) _ _ _ _ _ _ _ _ _ _ = _
    rw [sdf_Row.l0, if_neg (by omega)]
  | succ m ih =>
    intro i hm h0 h1
    by_cases hz : i < W
    · have hI := ih (i + 1) (by omega) (by omega) (by omega)
      rw [rowOf_succ _ _ _ _ _ _ _ h0] at hI
      have ht := texel_eq es hes hl (i := i) (k := k) g (by omega) hk
      refine Ret.succ (Ret.congr (Ret.bind ht (h := fun f t243 => if (rowOf es X Y P S k i.toNat).length < 140737488355328 then sdf_Row.l0 f es k (rowOf es X Y P S k i.toNat ++ [t243]) (wrap64 (i + 1)) X Y P W H S else none) ?_) fun f => ?_)
      · simp only [rowOf_len, if_pos (show i.toNat < 140737488355328 by omega), w64 (n := i + 1) (by omega) (by omega)]
        exact hI
      · show sdf_Row.l0 (f + 1) _ _ _ _ _ _ _ _ _ _ = _
        rw [sdf_Row.l0, if_pos hz]
    · obtain rfl : i = W := by omega
      refine Ret.succ (Ret.congr (Ret.const rfl) fun f => ?_)
      show sdf_Row.l0 (f + 1) _ _ _ _ _ _ _ _ _ _ = _
      rw [sdf_Row.l0, if_neg hz]
theorem row_eq (es : List S40) (hes : AllIn es) (hl : es.length < 9000000000000000000) {X Y P W H S k : Int} (g : GridIn X Y P W H S) (hk : 0 ≤ k ∧ k ≤ 24) : Ret (fun f => sdf_Row.f f es X Y P W H S k) (rowOf es X Y P S k W.toNat) :=
  row_l0 es hes hl g hk _ 0 (Nat.le_refl _) (by omega) (by have := g.w; omega)
noncomputable def fieldOf (es : List S40) (X Y P W S : Int) (n : Nat) : List Int := (List.range n).flatMap fun k : Nat => rowOf es X Y P S (k : Int) W.toNat
theorem fieldOf_succ (es : List S40) (X Y P W S : Int) (k : Int) (h0 : 0 ≤ k) : fieldOf es X Y P W S (k + 1).toNat = fieldOf es X Y P W S k.toNat ++ rowOf es X Y P S k W.toNat := by
  have e : (k + 1).toNat = k.toNat + 1 := by omega
  unfold fieldOf
  rw [e, List.range_succ, List.flatMap_append]
  simp only [List.flatMap_cons, List.flatMap_nil, List.append_nil]
  rw [show ((k.toNat : Nat) : Int) = k by omega]
theorem fieldOf_len (es : List S40) (X Y P W S : Int) (n : Nat) : (fieldOf es X Y P W S n).length = n * W.toNat := by
  induction n with
  | zero => simp [fieldOf]
  | succ n ih =>
    have := fieldOf_succ es X Y P W S n (by omega)
    rw [show ((n : Int) + 1).toNat = n + 1 by omega, show ((n : Int)).toNat = n by omega] at this
    rw [this, List.length_append, ih, rowOf_len, Nat.succ_mul]
theorem make_l0 (es : List S40) (hes : AllIn es) (hl : es.length < 9000000000000000000) {X Y P W H S : Int} (g : GridIn X Y P W H S) : ∀ (m : Nat) (k : Int), H.toNat - k.toNat ≤ m → 0 ≤ k → k ≤ H →
    Ret (fun f => sdf_Make.l0 f es k X Y P W H S W H (fieldOf es X Y P W S k.toNat)) (W, H, fieldOf es X Y P W S H.toNat, 0) := by
  have hW := g.w
  have hH := g.h
  intro m
  induction m with
  | zero =>
    intro k hm h0 h1
    obtain rfl : k = H := by omega
    refine Ret.succ (Ret.congr (Ret.const rfl) fun f => ?_)
    show sdf_Make.l0 (f + 1) _ _ _ _ _ _ _ _ _ _ _ = _
    rw [sdf_Make.l0, if_neg (by omega)]
  | succ m ih =>
    intro k hm h0 h1
    by_cases hz : k < H
    · have hI := ih (k + 1) (by omega) (by omega) (by omega)
      rw [fieldOf_succ _ _ _ _ _ _ _ h0] at hI
      have ht := row_eq es hes hl (k := k) g (by omega)
      have hlen : (fieldOf es X Y P W S k.toNat).length + (rowOf es X Y P S k W.toNat).length < 140737488355328 := by
        rw [fieldOf_len, rowOf_len]
        have : k.toNat * W.toNat ≤ 24 * 24 := Nat.mul_le_mul (by omega) (by omega)
        omega
      refine Ret.succ (Ret.congr (Ret.bind ht (h := fun f t251 => if (fieldOf es X Y P W S k.toNat).length + t251.length < 140737488355328 then sdf_Make.l0 f es (wrap64 (k + 1)) X Y P W H S W H (fieldOf es X Y P W S k.toNat ++ t251) else none) ?_) fun f => ?_)
      · simp only [if_pos hlen, w64 (n := k + 1) (by omega) (by omega)]
        exact hI
      · show sdf_Make.l0 (f + 1) _ _ _ _ _ _ _ _ _ _ _ = _
        rw [sdf_Make.l0, if_pos hz]
    · obtain rfl : k = H := by omega
      refine Ret.succ (Ret.congr (Ret.const rfl) fun f => ?_)
      show sdf_Make.l0 (f + 1) _ _ _ _ _ _ _ _ _ _ _ = _
      rw [sdf_Make.l0, if_neg hz]
theorem make_eq (es : List S40) (hes : AllIn es) (hl : es.length < 9000000000000000000) {X Y P W H S : Int} (g : GridIn X Y P W H S) : Ret (fun f => sdf_Make.f f es X Y P W H S) (W, H, fieldOf es X Y P W S H.toNat, 0) := by
  have h := make_l0 es hes hl g _ 0 (Nat.le_refl _) (by omega) (by have := g.h; omega)
  refine Ret.congr h fun f => ?_
  unfold sdf_Make.f
  rw [check_in g]
  rfl
theorem make_bad (es : List S40) {X Y P W H S e : Int} (he : e ≠ 0) (h : grid_Check.f X Y P W H S = some e) : Ret (fun f => sdf_Make.f f es X Y P W H S) (0, 0, [], e) := by
  refine Ret.congr (Ret.const rfl) fun f => ?_
  unfold sdf_Make.f
  rw [h]
  simp [he]
end Go.Proofs.Ytlljpjbhndcaiaa.M
end
section
set_option linter.unusedVariables false
set_option linter.unusedSimpArgs false
namespace Go.Proofs.Ytlljpjbhndcaiaa.M
open Go.RowKit Go.Proofs.Ytlljpjbhndcaiaa.Q Go.Proofs.YtlljpjbhndcaiaaW.PrintWords Go.Proofs.YtlljpjbhndcaiaaW.PrintLast Go.Proofs.YtlljpjbhndcaiaaW.PrintMore Go.Proofs.Ytlljpjbhndcaiaa.Geo
def tri : List S40 := [(⟨(⟨0, 0⟩ : S32), (⟨320, 0⟩ : S32)⟩ : S40), (⟨(⟨320, 0⟩ : S32), (⟨0, 320⟩ : S32)⟩ : S40), (⟨(⟨0, 320⟩ : S32), (⟨0, 0⟩ : S32)⟩ : S40)]
theorem tri_in : AllIn tri := by
  intro e he
  simp only [tri, List.mem_cons, List.mem_nil_iff, or_false] at he
  rcases he with rfl | rfl | rfl <;> (unfold EdIn Small; simp)
theorem tri_grid : GridIn (-2) (-2) 2 4 4 8 := ⟨by omega, by omega, by omega, by omega, by omega, by omega⟩
theorem tri_8a : Is8 tri (centre (-2) (-2) 2 0 0) 362 := by
  refine ⟨by omega, ⟨_, List.mem_cons_self, by decide +kernel⟩, fun e he => ?_⟩
  simp only [tri, List.mem_cons, List.mem_nil_iff, or_false] at he
  rcases he with rfl | rfl | rfl <;> decide +kernel
theorem tri_8b : Is8 tri (centre (-2) (-2) 2 1 1) 256 := by
  refine ⟨by omega, ⟨_, List.mem_cons_self, by decide +kernel⟩, fun e he => ?_⟩
  simp only [tri, List.mem_cons, List.mem_nil_iff, or_false] at he
  rcases he with rfl | rfl | rfl <;> decide +kernel
theorem tri_sa : sign tri (centre (-2) (-2) 2 0 0) = -1 := by decide +kernel
theorem tri_sb : sign tri (centre (-2) (-2) 2 1 1) = 1 := by decide +kernel
theorem tri_a : tx tri (-2) (-2) 2 8 0 0 = 106 := by
  unfold tx
  rw [if_neg (by simp [tri]), tri_sa, eight_is tri_8a]
  decide
theorem tri_b : tx tri (-2) (-2) 2 8 1 1 = 143 := by
  unfold tx
  rw [if_neg (by simp [tri]), tri_sb, eight_is tri_8b]
  decide
theorem fieldOf_get (es : List S40) (X Y P W S : Int) (hW : 0 ≤ W) : ∀ (n : Nat) (i k : Int), 0 ≤ i → i < W → 0 ≤ k → k < n → (fieldOf es X Y P W S n).getD (k * W + i).toNat 0 = tx es X Y P S i k := by
  intro n
  induction n with
  | zero => intro i k h0 h1 h2 h3; omega
  | succ n ih =>
    intro i k h0 h1 h2 h3
    have hs := fieldOf_succ es X Y P W S n (by omega)
    rw [show ((n : Int) + 1).toNat = n + 1 by omega, show ((n : Int)).toNat = n by omega] at hs
    rw [hs]
    have hl := fieldOf_len es X Y P W S n
    have hkW : 0 ≤ k * W := Int.mul_nonneg h2 hW
    by_cases hk : k < n
    · have hlt : (k + 1) * W ≤ n * W := Int.mul_le_mul_of_nonneg_right (by omega) hW
      have e : (k + 1) * W = k * W + W := by grind
      have hlN : ((n * W.toNat : Nat) : Int) = n * W := by rw [Int.natCast_mul, Int.toNat_of_nonneg hW]
      rw [List.getD_eq_getElem?_getD, List.getElem?_append_left (by rw [hl]; omega), ← List.getD_eq_getElem?_getD]
      exact ih i k h0 h1 h2 hk
    · obtain rfl : k = n := by omega
      have hlN : ((n * W.toNat : Nat) : Int) = n * W := by rw [Int.natCast_mul, Int.toNat_of_nonneg hW]
      rw [List.getD_eq_getElem?_getD, List.getElem?_append_right (by rw [hl]; omega), hl, show (n * W + i).toNat - n * W.toNat = i.toNat by omega]
      unfold rowOf
      rw [List.getElem?_map, List.getElem?_range (by omega)]
      simp only [Option.map_some, Option.getD_some]
      rw [show ((i.toNat : Nat) : Int) = i by omega]
theorem awake10_eq : Ret (fun k => punchcutlaw10_awake.f k) true := by
  have h1 := make_eq tri tri_in (by simp [tri]) tri_grid
  have h2 := make_bad tri (X := 0) (Y := 0) (P := 0) (W := 0) (H := 0) (S := 0) (e := 6) (by omega) (by decide)
  have hl := fieldOf_len tri (-2) (-2) 2 4 8 4
  have g0 := fieldOf_get tri (-2) (-2) 2 4 8 (by omega) 4 0 0 (by omega) (by omega) (by omega) (by omega)
  have g5 := fieldOf_get tri (-2) (-2) 2 4 8 (by omega) 4 1 1 (by omega) (by omega) (by omega) (by omega)
  rw [tri_a] at g0
  rw [tri_b] at g5
  have e0 : rd (fieldOf tri (-2) (-2) 2 4 8 (Int.toNat 4)) 0 = 106 := g0
  have e5 : rd (fieldOf tri (-2) (-2) 2 4 8 (Int.toNat 4)) 5 = 143 := g5
  unfold punchcutlaw10_awake.f
  refine Ret.bind (a := tri) (Ret.const rfl) (Ret.bind h1 (Ret.bind h2 (Ret.const ?_)))
  have hl2 : ((fieldOf tri (-2) (-2) 2 4 8 (Int.toNat 4)).length : Int) = 16 := by rw [show Int.toNat 4 = 4 from rfl, hl]; rfl
  simp only [e0, e5, hl2]
  simp
end Go.Proofs.Ytlljpjbhndcaiaa.M
end
section
set_option linter.unusedVariables false
set_option linter.unusedSimpArgs false
namespace Go.Proofs.Ytlljpjbhndcaiaa.M
open Go.RowKit Go.Proofs.Ytlljpjbhndcaiaa.Q Go.Proofs.YtlljpjbhndcaiaaW.PrintWords Go.Proofs.YtlljpjbhndcaiaaW.PrintLast Go.Proofs.YtlljpjbhndcaiaaW.PrintMore Go.Proofs.Ytlljpjbhndcaiaa.Geo
theorem wf_u8 {a : Int} (h : (Lit.int .u8 a).wf = true) : 0 ≤ a ∧ a ≤ 255 := by
  simpa [Lit.wf, IntKind.min, IntKind.max, IntKind.signed, IntKind.bits, Bool.and_eq_true, decide_eq_true_eq] using h
theorem spec_eq {a b c d e f : Int} (ha : (Lit.int .u8 a).wf = true) (hb : (Lit.int .u8 b).wf = true) (hc : (Lit.int .u8 c).wf = true) (hd : (Lit.int .u8 d).wf = true) (he : (Lit.int .u8 e).wf = true) (hf : (Lit.int .u8 f).wf = true) :
    ∃ X Y P W H S, punchcutlaw09_Spec_Grid.f a b c d e f = some (X, Y, P, W, H, S) ∧ GridIn X Y P W H S ∧ (-128 ≤ X ∧ X ≤ 127) ∧ (-128 ≤ Y ∧ Y ≤ 127) ∧ W ≤ 10 ∧ H ≤ 10 := by
  have a1 := wf_u8 ha
  have b1 := wf_u8 hb
  have c1 := wf_u8 hc
  have d1 := wf_u8 hd
  have e1 := wf_u8 he
  have f1 := wf_u8 hf
  refine ⟨_, _, _, _, _, _, rfl, ?_⟩
  rw [Int.tmod_eq_emod_of_nonneg (a := c) c1.1, Int.tmod_eq_emod_of_nonneg (a := d) d1.1, Int.tmod_eq_emod_of_nonneg (a := e) e1.1, Int.tmod_eq_emod_of_nonneg (a := f) f1.1]
  rw [w64 (n := a) (by omega) (by omega), w64 (n := b) (by omega) (by omega), w64 (n := a - 128) (by omega) (by omega), w64 (n := b - 128) (by omega) (by omega), w64 (n := c % 16) (by omega) (by omega), w64 (n := d % 10) (by omega) (by omega), w64 (n := e % 10) (by omega) (by omega), w64 (n := f % 64) (by omega) (by omega)]
  rw [w64 (n := 1 + c % 16) (by omega) (by omega), w64 (n := 1 + d % 10) (by omega) (by omega), w64 (n := 1 + e % 10) (by omega) (by omega), w64 (n := 1 + f % 64) (by omega) (by omega)]
  exact ⟨⟨by omega, by omega, by omega, by omega, by omega, by omega⟩, by omega, by omega, by omega, by omega⟩
theorem few {es : List S40} {n : Nat} (h : Glyph es n) (hn : n ≤ 1000000) : es.length < 9000000000000000000 := by have := h.few; omega
end Go.Proofs.Ytlljpjbhndcaiaa.M
end
section
set_option linter.unusedVariables false
set_option linter.unusedSimpArgs false
namespace Go.Proofs.Ytlljpjbhndcaiaa.M
open Go.RowKit Go.Proofs.Ytlljpjbhndcaiaa.Q Go.Proofs.YtlljpjbhndcaiaaW.PrintWords Go.Proofs.YtlljpjbhndcaiaaW.PrintLast Go.Proofs.YtlljpjbhndcaiaaW.PrintMore Go.Proofs.Ytlljpjbhndcaiaa.Geo
theorem eight_step {es : List S40} {a b : Pt} {x y t : Int} (hx : Is8 es a x) (hy : Is8 es b y) (ht : 0 ≤ t) (h : 64 * dist2 b a < t * t) : x ≤ y + t := by
  obtain ⟨y0, ⟨e, he, h1⟩, _⟩ := hy
  have h2 : (ed e).lt8 b (y + 1) := h1
  have h3 := Ed.step (ed e) b a (y + 1) t (by omega) ht h2 h
  have h4 := hx.2.2 e he
  have d := Ed.den_pos (ed e) a
  have h5 : x * x * (ed e).den a < (y + 1 + t) * (y + 1 + t) * (ed e).den a := Int.lt_of_le_of_lt h4 h3
  have h6 : x * x < (y + 1 + t) * (y + 1 + t) := Int.lt_of_mul_lt_mul_right h5 (by omega)
  have := lt_of_sq (b := y + 1 + t) (by omega) h6
  omega
theorem Is8.append {a b : List S40} {p : Pt} {i j : Int} (h1 : Is8 a p i) (h2 : Is8 b p j) : Is8 (a ++ b) p (if j < i then j else i) := by
  obtain ⟨i0, ⟨e, he, h3⟩, h4⟩ := h1
  obtain ⟨j0, ⟨f, hf, h5⟩, h6⟩ := h2
  have mono : ∀ (u v : Int) (x : S40), 0 ≤ u → u ≤ v → v * v * (ed x).den p ≤ 64 * (ed x).num p → u * u * (ed x).den p ≤ 64 * (ed x).num p := by
    intro u v x hu huv h
    have := Int.mul_le_mul_of_nonneg_right (Int.mul_le_mul huv huv hu (by omega)) (show 0 ≤ (ed x).den p by have := Ed.den_pos (ed x) p; omega)
    omega
  split
  · rename_i hc
    refine ⟨j0, ⟨f, List.mem_append.2 (.inr hf), h5⟩, fun x hx => ?_⟩
    rcases List.mem_append.1 hx with hx | hx
    · exact mono j i x j0 (by omega) (h4 x hx)
    · exact h6 x hx
  · rename_i hc
    refine ⟨i0, ⟨e, List.mem_append.2 (.inl he), h3⟩, fun x hx => ?_⟩
    rcases List.mem_append.1 hx with hx | hx
    · exact h4 x hx
    · exact mono i j x i0 (by omega) (h6 x hx)
end Go.Proofs.Ytlljpjbhndcaiaa.M
end
section
set_option linter.unusedVariables false
set_option linter.unusedSimpArgs false
namespace Go.Proofs.Ytlljpjbhndcaiaa.M
open Go.RowKit Go.Proofs.Ytlljpjbhndcaiaa.Q Go.Proofs.YtlljpjbhndcaiaaW.PrintWords Go.Proofs.YtlljpjbhndcaiaaW.PrintLast Go.Proofs.YtlljpjbhndcaiaaW.PrintMore Go.Proofs.Ytlljpjbhndcaiaa.Geo
theorem sgn_mul (a b : Int) : ((a < 0 ∧ b < 0) → 0 < a * b) ∧ ((a < 0 ∧ 0 < b) → a * b < 0) ∧ ((0 < a ∧ b < 0) → a * b < 0) ∧ ((0 < a ∧ 0 < b) → 0 < a * b) ∧ (a = 0 → a * b = 0) ∧ (b = 0 → a * b = 0) := by
  refine ⟨fun h => Int.mul_pos_of_neg_of_neg h.1 h.2, fun h => Int.mul_neg_of_neg_of_pos h.1 h.2, fun h => Int.mul_neg_of_pos_of_neg h.1 h.2, fun h => Int.mul_pos h.1 h.2, ?_, ?_⟩
  · rintro rfl; exact Int.zero_mul _
  · rintro rfl; exact Int.mul_zero _
theorem reach {es : List S40} {p : Pt} {a k n c : Int} {e : S40} (h : Is8 es p a) (he : e ∈ es) (hk : 0 ≤ k) (hkn : k ≤ n) (hc : 0 ≤ c) (hat : (ed e).at2 p k n = c * c) : a * n ≤ 8 * c := by
  have h1 := h.2.2 e he
  have h2 := Ed.least (ed e) p k n hk hkn
  rw [hat] at h2
  have hd := Ed.den_pos (ed e) p
  have hn : 0 ≤ n * n := sq_nonneg n
  have h3 := Int.mul_le_mul_of_nonneg_right h1 hn
  have h4 : a * n * (a * n) * (ed e).den p ≤ 8 * c * (8 * c) * (ed e).den p := by
    have e1 : a * n * (a * n) * (ed e).den p = a * a * (ed e).den p * (n * n) := by grind
    have e2 : 8 * c * (8 * c) * (ed e).den p = 64 * ((ed e).den p * (c * c)) := by grind
    have e3 : 64 * (ed e).num p * (n * n) = 64 * ((ed e).num p * (n * n)) := by grind
    omega
  exact le_of_sq (by omega) (Int.le_of_mul_le_mul_right h4 (by omega))
def wv (v v' c : Int) : Int := if v ≥ 0 ∧ v' < 0 ∧ c > 0 then 1 else if v' ≥ 0 ∧ v < 0 ∧ c < 0 then -1 else 0
theorem wn_wv (p : Pt) (e : S40) : wn p e = wv (p.y - e.f0.f1) (p.y - e.f1.f1) ((p.x - e.f0.f0) * (p.y - e.f1.f1) - (p.x - e.f1.f0) * (p.y - e.f0.f1)) := by
  have hc : (ed e).cr p = (p.x - e.f0.f0) * (p.y - e.f1.f1) - (p.x - e.f1.f0) * (p.y - e.f0.f1) := by
    show (e.f1.f0 - e.f0.f0) * (p.y - e.f0.f1) - (e.f1.f1 - e.f0.f1) * (p.x - e.f0.f0) = _
    grind
  unfold wn wv side
  rw [hc]
  generalize (p.x - e.f0.f0) * (p.y - e.f1.f1) - (p.x - e.f1.f0) * (p.y - e.f0.f1) = c
  by_cases c1 : c > 0
  · rw [if_pos c1]
    repeat' split
    all_goals omega
  · rw [if_neg c1]
    by_cases c2 : c < 0
    · rw [if_pos c2]
      repeat' split
      all_goals omega
    · rw [if_neg c2]
      repeat' split
      all_goals omega
theorem ex_ne {α : Type} (f g : α → Int) : ∀ l : List α, (l.map f).sum ≠ (l.map g).sum → ∃ x ∈ l, f x ≠ g x := by
  intro l
  induction l with
  | nil => intro h; exact absurd rfl h
  | cons x r ih =>
    intro h
    by_cases hx : f x = g x
    · obtain ⟨y, hy, hne⟩ := ih (by intro he; apply h; simp only [List.map_cons, List.sum_cons, hx, he])
      exact ⟨y, by simp [hy], hne⟩
    · exact ⟨x, by simp, hx⟩
theorem apart_h {es : List S40} {p : Pt} {a b h : Int} (hh : 0 ≤ h) (hw : winding es p ≠ winding es ⟨p.x + h, p.y⟩) (ha : Is8 es p a) (hb : Is8 es ⟨p.x + h, p.y⟩ b) : a + b ≤ 8 * h := by
  obtain ⟨e, he, hne⟩ := ex_ne _ _ es hw
  rw [wn_wv, wn_wv] at hne
  simp only at hne
  have at_p : ∀ k n : Int, (ed e).at2 p k n = (n * (p.x - e.f0.f0) - k * (e.f1.f0 - e.f0.f0)) * (n * (p.x - e.f0.f0) - k * (e.f1.f0 - e.f0.f0)) + (n * (p.y - e.f0.f1) - k * (e.f1.f1 - e.f0.f1)) * (n * (p.y - e.f0.f1) - k * (e.f1.f1 - e.f0.f1)) := fun k n => rfl
  have at_q : ∀ k n : Int, (ed e).at2 ⟨p.x + h, p.y⟩ k n = (n * (p.x + h - e.f0.f0) - k * (e.f1.f0 - e.f0.f0)) * (n * (p.x + h - e.f0.f0) - k * (e.f1.f0 - e.f0.f0)) + (n * (p.y - e.f0.f1) - k * (e.f1.f1 - e.f0.f1)) * (n * (p.y - e.f0.f1) - k * (e.f1.f1 - e.f0.f1)) := fun k n => rfl
  have e1 : e.f1.f0 - e.f0.f0 = (p.x - e.f0.f0) - (p.x - e.f1.f0) := by omega
  have e2 : e.f1.f1 - e.f0.f1 = (p.y - e.f0.f1) - (p.y - e.f1.f1) := by omega
  have e3 : p.x + h - e.f0.f0 = (p.x - e.f0.f0) + h := by omega
  have e4 : p.x + h - e.f1.f0 = (p.x - e.f1.f0) + h := by omega
  rw [e3] at at_q
  rw [e3, e4] at hne
  rw [e1, e2] at at_p at_q
  generalize p.x - e.f0.f0 = u at *
  generalize p.x - e.f1.f0 = u' at *
  generalize p.y - e.f0.f1 = v at *
  generalize p.y - e.f1.f1 = v' at *
  have hd : (u + h) * v' - (u' + h) * v = (u * v' - u' * v) + h * (v' - v) := by grind
  obtain ⟨c, hc⟩ : ∃ c, c = u * v' - u' * v := ⟨_, rfl⟩
  rw [hd, ← hc] at hne
  have hs := sgn_mul h (v' - v)
  obtain ⟨m, hm⟩ : ∃ m, m = h * (v' - v) := ⟨_, rfl⟩
  rw [← hm] at hne hs
  have key : (v ≥ 0 ∧ v' < 0 ∧ c > 0 ∧ c + m ≤ 0) ∨ (v' ≥ 0 ∧ v < 0 ∧ c < 0 ∧ c + m ≥ 0) := by
    unfold wv at hne
    by_cases a1 : v ≥ 0 ∧ v' < 0
    · left
      have : c > 0 ∧ ¬ c + m > 0 := by
        by_cases c1 : c > 0 <;> by_cases c2 : c + m > 0 <;> simp [a1, c1, c2] at hne ⊢ <;> omega
      omega
    · by_cases a2 : v' ≥ 0 ∧ v < 0
      · right
        have : c < 0 ∧ ¬ c + m < 0 := by
          by_cases c1 : c < 0 <;> by_cases c2 : c + m < 0 <;> simp [a1, a2, c1, c2] at hne ⊢ <;> omega
        omega
      · exfalso
        apply hne
        rw [if_neg (by omega), if_neg (by omega), if_neg (by omega), if_neg (by omega)]
  rcases key with ⟨v0, v1, c0, d0⟩ | ⟨v0, v1, c0, d0⟩
  · have r1 := reach (k := v) (n := v - v') (c := c) ha he (by omega) (by omega) (by omega) (by rw [at_p, hc]; grind)
    have r2 := reach (k := v) (n := v - v') (c := -(c + m)) hb he (by omega) (by omega) (by omega) (by rw [at_q, hc, hm]; grind)
    have e5 : (a + b) * (v - v') ≤ 8 * h * (v - v') := by
      have f1 : (a + b) * (v - v') = a * (v - v') + b * (v - v') := by grind
      have f2 : 8 * h * (v - v') = -(8 * m) := by rw [hm]; grind
      omega
    exact Int.le_of_mul_le_mul_right e5 (by omega)
  · have r1 := reach (k := -v) (n := v' - v) (c := -c) ha he (by omega) (by omega) (by omega) (by rw [at_p, hc]; grind)
    have r2 := reach (k := -v) (n := v' - v) (c := c + m) hb he (by omega) (by omega) (by omega) (by rw [at_q, hc, hm]; grind)
    have e5 : (a + b) * (v' - v) ≤ 8 * h * (v' - v) := by
      have f1 : (a + b) * (v' - v) = a * (v' - v) + b * (v' - v) := by grind
      have f2 : 8 * h * (v' - v) = 8 * m := by rw [hm]; grind
      omega
    exact Int.le_of_mul_le_mul_right e5 (by omega)
def fi (u v h : Int) : Int := if u < 0 ∧ v < 0 ∧ v + h ≥ 0 then 1 else 0
theorem nn {a b : Int} (ha : a < 0) (hb : b < 0) : 0 < a * b := Int.mul_pos_of_neg_of_neg ha hb
theorem np {a b : Int} (ha : a ≤ 0) (hb : 0 ≤ b) : a * b ≤ 0 := Int.mul_nonpos_of_nonpos_of_nonneg ha hb
theorem pn {a b : Int} (ha : 0 ≤ a) (hb : b ≤ 0) : a * b ≤ 0 := Int.mul_nonpos_of_nonneg_of_nonpos ha hb
theorem pp {a b : Int} (ha : 0 ≤ a) (hb : 0 ≤ b) : 0 ≤ a * b := Int.mul_nonneg ha hb
def bv (v v' : Int) : Int := if v ≥ 0 ∧ v' < 0 then 1 else if v' ≥ 0 ∧ v < 0 then -1 else 0
theorem wv_right {u u' v v' : Int} (hu : u < 0) (hu' : u' < 0) : wv v v' (u * v' - u' * v) = bv v v' := by
  unfold wv bv
  by_cases a : v ≥ 0 ∧ v' < 0
  · have h1 := nn hu a.2
    have h2 := np (show u' ≤ 0 by omega) a.1
    rw [if_pos ⟨a.1, a.2, by omega⟩, if_pos a]
  · rw [if_neg (by omega), if_neg a]
    by_cases b : v' ≥ 0 ∧ v < 0
    · have h1 := np (show u ≤ 0 by omega) b.1
      have h2 := nn hu' b.2
      rw [if_pos ⟨b.1, b.2, by omega⟩, if_pos b]
    · rw [if_neg (by omega), if_neg b]
theorem wv_left {u u' v v' : Int} (hu : 0 ≤ u) (hu' : 0 ≤ u') : wv v v' (u * v' - u' * v) = 0 := by
  unfold wv
  by_cases a : v ≥ 0 ∧ v' < 0
  · have h1 := pn hu (show v' ≤ 0 by omega)
    have h2 := pp hu' a.1
    rw [if_neg (by omega), if_neg (by omega)]
  · by_cases b : v' ≥ 0 ∧ v < 0
    · have h1 := pp hu b.1
      have h2 := pn hu' (show v ≤ 0 by omega)
      rw [if_neg (by omega), if_neg (by omega)]
    · rw [if_neg (by omega), if_neg (by omega)]
theorem wv_m1 {u u' v v' : Int} (hu : u < 0) (hu' : 0 ≤ u') (hc : u * v' - u' * v < 0) : wv v v' (u * v' - u' * v) = if v < 0 then -1 else 0 := by
  unfold wv
  rw [if_neg (by omega)]
  by_cases a : v < 0
  · have h1 := pn hu' (show v ≤ 0 by omega)
    have : v' ≥ 0 := by
      by_cases b : v' < 0
      · have := nn hu b; omega
      · omega
    rw [if_pos ⟨this, a, hc⟩, if_pos a]
  · rw [if_neg (by omega), if_neg a]
theorem wv_m2 {u u' v v' : Int} (hu : u < 0) (hu' : 0 ≤ u') (hc : 0 < u * v' - u' * v) : wv v v' (u * v' - u' * v) = if v < 0 then 0 else 1 := by
  unfold wv
  by_cases a : v < 0
  · rw [if_neg (by omega), if_neg (by omega), if_pos a]
  · have h1 := pp hu' (show 0 ≤ v by omega)
    have : v' < 0 := by
      by_cases b : v' < 0
      · exact b
      · have := np (show u ≤ 0 by omega) (show 0 ≤ v' by omega); omega
    rw [if_pos ⟨by omega, this, hc⟩, if_neg a]
theorem wv_m3 {u u' v v' : Int} (hu : 0 ≤ u) (hu' : u' < 0) (hc : 0 < u * v' - u' * v) : wv v v' (u * v' - u' * v) = if v' < 0 then 1 else 0 := by
  unfold wv
  by_cases a : v' < 0
  · have h1 := pn hu (show v' ≤ 0 by omega)
    have : v ≥ 0 := by
      by_cases b : v < 0
      · have := nn hu' b; omega
      · omega
    rw [if_pos ⟨this, a, hc⟩, if_pos a]
  · rw [if_neg (by omega), if_neg (by omega), if_neg a]
theorem wv_m4 {u u' v v' : Int} (hu : 0 ≤ u) (hu' : u' < 0) (hc : u * v' - u' * v < 0) : wv v v' (u * v' - u' * v) = if v' < 0 then 0 else -1 := by
  unfold wv
  rw [if_neg (by omega)]
  by_cases a : v' < 0
  · rw [if_neg (by omega), if_pos a]
  · have h1 := pp hu (show 0 ≤ v' by omega)
    have : v < 0 := by
      by_cases b : v < 0
      · exact b
      · have := np (show u' ≤ 0 by omega) (show 0 ≤ v by omega); omega
    rw [if_pos ⟨by omega, this, hc⟩, if_neg a]
theorem one_edge (u u' v v' h : Int) (hh : 0 ≤ h) :
    (wv (v + h) (v' + h) (u * (v' + h) - u' * (v + h)) = wv v v' (u * v' - u' * v) + fi u v h - fi u' v' h) ∨
    ((u ≥ 0 ∧ u' ≤ 0 ∧ u - u' > 0 ∧ u * v' - u' * v ≤ 0 ∧ 0 ≤ u * (v' + h) - u' * (v + h)) ∨ (u ≤ 0 ∧ u' ≥ 0 ∧ u' - u > 0 ∧ u * v' - u' * v ≥ 0 ∧ 0 ≥ u * (v' + h) - u' * (v + h))) := by
  have hd : u * (v' + h) - u' * (v + h) = (u * v' - u' * v) + h * (u - u') := by grind
  by_cases a1 : u < 0
  · by_cases a2 : u' < 0
    · left
      rw [wv_right a1 a2, wv_right a1 a2]
      unfold bv fi
      repeat' split
      all_goals omega
    · have hm := pn hh (show u - u' ≤ 0 by omega)
      by_cases c1 : u * v' - u' * v < 0
      · left
        rw [wv_m1 a1 (by omega) c1, wv_m1 a1 (by omega) (by omega)]
        unfold fi
        repeat' split
        all_goals omega
      · by_cases c2 : 0 < u * (v' + h) - u' * (v + h)
        · left
          rw [wv_m2 a1 (by omega) c2, wv_m2 a1 (by omega) (by omega)]
          unfold fi
          repeat' split
          all_goals omega
        · right; right; exact ⟨by omega, by omega, by omega, by omega, by omega⟩
  · by_cases a2 : u' < 0
    · have hm := pp hh (show 0 ≤ u - u' by omega)
      by_cases c1 : 0 < u * v' - u' * v
      · left
        rw [wv_m3 (by omega) a2 c1, wv_m3 (by omega) a2 (by omega)]
        unfold fi
        repeat' split
        all_goals omega
      · by_cases c2 : u * (v' + h) - u' * (v + h) < 0
        · left
          rw [wv_m4 (by omega) a2 c2, wv_m4 (by omega) a2 (by omega)]
          unfold fi
          repeat' split
          all_goals omega
        · right; left; exact ⟨by omega, by omega, by omega, by omega, by omega⟩
    · left
      rw [wv_left (by omega) (by omega), wv_left (by omega) (by omega)]
      unfold fi
      repeat' split
      all_goals omega
theorem sum_tele (φ : S32 → Int) (f g : S40 → Int) : ∀ l : List S40, (∀ e ∈ l, g e = f e - (φ e.f1 - φ e.f0)) → (l.map g).sum = (l.map f).sum - tele φ l := by
  intro l
  induction l with
  | nil => intro _; rfl
  | cons x r ih =>
    intro h
    have h1 := h x (by simp)
    have h2 := ih (fun e he => h e (by simp [he]))
    simp only [tele, List.map_cons, List.sum_cons] at h2 ⊢
    omega
theorem apart_v {es : List S40} {p : Pt} {a b h : Int} (hcl : ∀ φ, tele φ es = 0) (hh : 0 ≤ h) (hw : winding es p ≠ winding es ⟨p.x, p.y + h⟩) (ha : Is8 es p a) (hb : Is8 es ⟨p.x, p.y + h⟩ b) : a + b ≤ 8 * h := by
  by_cases hex : ∃ e ∈ es, ¬ (wn ⟨p.x, p.y + h⟩ e = wn p e - (fi (p.x - e.f1.f0) (p.y - e.f1.f1) h - fi (p.x - e.f0.f0) (p.y - e.f0.f1) h))
  · obtain ⟨e, he, hne⟩ := hex
    have h1 := one_edge (p.x - e.f0.f0) (p.x - e.f1.f0) (p.y - e.f0.f1) (p.y - e.f1.f1) h hh
    rw [wn_wv, wn_wv] at hne
    simp only at hne
    have at_p : ∀ k n : Int, (ed e).at2 p k n = (n * (p.x - e.f0.f0) - k * (e.f1.f0 - e.f0.f0)) * (n * (p.x - e.f0.f0) - k * (e.f1.f0 - e.f0.f0)) + (n * (p.y - e.f0.f1) - k * (e.f1.f1 - e.f0.f1)) * (n * (p.y - e.f0.f1) - k * (e.f1.f1 - e.f0.f1)) := fun k n => rfl
    have at_q : ∀ k n : Int, (ed e).at2 ⟨p.x, p.y + h⟩ k n = (n * (p.x - e.f0.f0) - k * (e.f1.f0 - e.f0.f0)) * (n * (p.x - e.f0.f0) - k * (e.f1.f0 - e.f0.f0)) + (n * (p.y + h - e.f0.f1) - k * (e.f1.f1 - e.f0.f1)) * (n * (p.y + h - e.f0.f1) - k * (e.f1.f1 - e.f0.f1)) := fun k n => rfl
    have e1 : e.f1.f0 - e.f0.f0 = (p.x - e.f0.f0) - (p.x - e.f1.f0) := by omega
    have e2 : e.f1.f1 - e.f0.f1 = (p.y - e.f0.f1) - (p.y - e.f1.f1) := by omega
    have e3 : p.y + h - e.f0.f1 = (p.y - e.f0.f1) + h := by omega
    have e4 : p.y + h - e.f1.f1 = (p.y - e.f1.f1) + h := by omega
    rw [e3] at at_q
    rw [e3, e4] at hne
    rw [e1, e2] at at_p at_q
    generalize p.x - e.f0.f0 = u at *
    generalize p.x - e.f1.f0 = u' at *
    generalize p.y - e.f0.f1 = v at *
    generalize p.y - e.f1.f1 = v' at *
    have hd : u * (v' + h) - u' * (v + h) = (u * v' - u' * v) + h * (u - u') := by grind
    rcases h1 with h1 | h1
    · exfalso; apply hne; omega
    · rw [hd] at h1
      obtain ⟨c, hc⟩ : ∃ c, c = u * v' - u' * v := ⟨_, rfl⟩
      rw [← hc] at h1
      obtain ⟨m, hm⟩ : ∃ m, m = h * (u - u') := ⟨_, rfl⟩
      rw [← hm] at h1
      rcases h1 with ⟨u0, u1, hn, c0, d0⟩ | ⟨u0, u1, hn, c0, d0⟩
      · have r1 := reach (k := u) (n := u - u') (c := -c) ha he (by omega) (by omega) (by omega) (by rw [at_p, hc]; grind)
        have r2 := reach (k := u) (n := u - u') (c := c + m) hb he (by omega) (by omega) (by omega) (by rw [at_q, hc, hm]; grind)
        have e5 : (a + b) * (u - u') ≤ 8 * h * (u - u') := by
          have f1 : (a + b) * (u - u') = a * (u - u') + b * (u - u') := by grind
          have f2 : 8 * h * (u - u') = 8 * m := by rw [hm]; grind
          omega
        exact Int.le_of_mul_le_mul_right e5 (by omega)
      · have r1 := reach (k := -u) (n := u' - u) (c := c) ha he (by omega) (by omega) (by omega) (by rw [at_p, hc]; grind)
        have r2 := reach (k := -u) (n := u' - u) (c := -(c + m)) hb he (by omega) (by omega) (by omega) (by rw [at_q, hc, hm]; grind)
        have e5 : (a + b) * (u' - u) ≤ 8 * h * (u' - u) := by
          have f1 : (a + b) * (u' - u) = a * (u' - u) + b * (u' - u) := by grind
          have f2 : 8 * h * (u' - u) = -(8 * m) := by rw [hm]; grind
          omega
        exact Int.le_of_mul_le_mul_right e5 (by omega)
  · exfalso
    apply hw
    have h2 := sum_tele (fun V => fi (p.x - V.f0) (p.y - V.f1) h) (wn p) (wn ⟨p.x, p.y + h⟩) es (fun e he => by
      by_cases hc : wn ⟨p.x, p.y + h⟩ e = wn p e - (fi (p.x - e.f1.f0) (p.y - e.f1.f1) h - fi (p.x - e.f0.f0) (p.y - e.f0.f1) h)
      · exact hc
      · exact absurd ⟨e, he, hc⟩ hex)
    rw [hcl] at h2
    unfold winding
    omega
end Go.Proofs.Ytlljpjbhndcaiaa.M
end
section
namespace Go.Proofs.Ytlljpjbhndcaiaa.Q
open Go.RowKit Go.Proofs.YtlljpjbhndcaiaaW.PrintWords Go.Proofs.YtlljpjbhndcaiaaW.PrintLast Go.Proofs.YtlljpjbhndcaiaaW.PrintMore
attribute [local go_sem] max2_int min2_int max_two min_two max_three min_three max_four min_four
set_option linter.unusedVariables false
set_option linter.unusedSimpArgs false
theorem texel_at {H W a b : Int} (hW : 1 ≤ W ∧ W ≤ 24) (hH : 1 ≤ H ∧ H ≤ 24) (ha : 0 ≤ a ∧ a < W) (hb : 0 ≤ b ∧ b < H) : (0 ≤ b * W ∧ b * W + W ≤ H * W) ∧ (b + 1) * W = b * W + W ∧ H * W ≤ 576 := by
  have h1 : 0 ≤ b * W := Int.mul_nonneg hb.1 (by omega)
  have h2 : (b + 1) * W = b * W + W := by rw [Int.add_mul, Int.one_mul]
  have h3 : (b + 1) * W ≤ H * W := Int.mul_le_mul_of_nonneg_right (by omega) (by omega)
  have h4 : H * W ≤ 24 * 24 := Int.mul_le_mul hH.2 hW.2 (by omega) (by omega)
  exact ⟨⟨h1, by omega⟩, h2, by omega⟩
end Go.Proofs.Ytlljpjbhndcaiaa.Q
end
section
set_option linter.unusedVariables false
set_option linter.unusedSimpArgs false
namespace Go.Proofs.Ytlljpjbhndcaiaa.M
open Go.RowKit Go.Proofs.Ytlljpjbhndcaiaa.Q Go.Proofs.YtlljpjbhndcaiaaW.PrintWords Go.Proofs.YtlljpjbhndcaiaaW.PrintLast Go.Proofs.YtlljpjbhndcaiaaW.PrintMore Go.Proofs.Ytlljpjbhndcaiaa.Geo
def far (S a : Int) : Int := if a < 256 * S then a * 127 / (256 * S) else 127
theorem code_far (S s a : Int) : code S s a = 128 + s * far S a := by unfold code far; split <;> rfl
theorem far_facts {S a : Int} (hS : 1 ≤ S) (ha : 0 ≤ a) : 0 ≤ far S a ∧ far S a ≤ 127 ∧ 256 * S * far S a ≤ a * 127 ∧ (far S a < 127 → a * 127 < 256 * S * (far S a + 1)) := by
  unfold far
  by_cases h : a < 256 * S
  · rw [if_pos h]
    have h1 := Int.mul_ediv_add_emod (a * 127) (256 * S)
    have h2 := Int.emod_nonneg (a * 127) (show 256 * S ≠ 0 by omega)
    have h3 := Int.emod_lt_of_pos (a * 127) (show 0 < 256 * S by omega)
    have h4 : 0 ≤ a * 127 / (256 * S) := Int.ediv_nonneg (by omega) (by omega)
    have h5 := Int.ediv_lt_of_lt_mul (a := a * 127) (b := 127) (c := 256 * S) (by omega) (by omega)
    have h6 : 256 * S * (a * 127 / (256 * S) + 1) = 256 * S * (a * 127 / (256 * S)) + 256 * S := by rw [Int.mul_add, Int.mul_one]
    exact ⟨h4, by omega, by omega, fun _ => by omega⟩
  · rw [if_neg h]
    exact ⟨by omega, by omega, by omega, fun h => by omega⟩
theorem way_facts {P S : Int} (hP : 1 ≤ P) (hS : 1 ≤ S) : 0 ≤ 127 * P / S ∧ 256 * (127 * P) ≤ 256 * S * (127 * P / S + 1) - 256 := by
  have h1 := Int.mul_ediv_add_emod (127 * P) S
  have h2 := Int.emod_nonneg (127 * P) (show S ≠ 0 by omega)
  have h3 := Int.emod_lt_of_pos (127 * P) (show 0 < S by omega)
  have h4 : 0 ≤ 127 * P / S := Int.ediv_nonneg (by omega) (by omega)
  have h6 : 256 * S * (127 * P / S + 1) = 256 * (S * (127 * P / S)) + 256 * S := by grind
  exact ⟨h4, by omega⟩
theorem far_step {P S a b : Int} (hP : 1 ≤ P) (hS : 1 ≤ S) (ha : 0 ≤ a) (hb : 0 ≤ b) (h : a ≤ b + (256 * P + 1)) : far S a ≤ far S b + 127 * P / S + 1 := by
  obtain ⟨a0, a1, a2, a3⟩ := far_facts hS ha
  obtain ⟨b0, b1, b2, b3⟩ := far_facts hS hb
  obtain ⟨r0, r1⟩ := way_facts hP hS
  by_cases hb7 : far S b < 127
  · have b4 := b3 hb7
    have hM : 0 < 256 * S := by omega
    have key : 256 * S * far S a < 256 * S * (far S b + 127 * P / S + 2) := by
      have e : 256 * S * (far S b + 127 * P / S + 2) = 256 * S * (far S b + 1) + 256 * S * (127 * P / S + 1) := by grind
      omega
    have := Int.lt_of_mul_lt_mul_left key (by omega)
    omega
  · omega
theorem far_both {P S a b : Int} (hP : 1 ≤ P) (hS : 1 ≤ S) (ha : 0 ≤ a) (hb : 0 ≤ b) (h : a + b ≤ 256 * P) : far S a + far S b ≤ 127 * P / S + 1 := by
  obtain ⟨a0, a1, a2, a3⟩ := far_facts hS ha
  obtain ⟨b0, b1, b2, b3⟩ := far_facts hS hb
  obtain ⟨r0, r1⟩ := way_facts hP hS
  have hM : 0 < 256 * S := by omega
  have key : 256 * S * (far S a + far S b) < 256 * S * (127 * P / S + 1) := by
    rw [Int.mul_add]
    omega
  have := Int.lt_of_mul_lt_mul_left key (by omega)
  omega
theorem on_zero {es : List S40} {p : Pt} {a : Int} (h : Is8 es p a) (ho : onAny es p = true) : a = 0 := by
  unfold onAny at ho
  rw [List.any_eq_true] at ho
  obtain ⟨e, he, hz⟩ := ho
  simp only [decide_eq_true_eq] at hz
  have h1 := h.2.2 e he
  rw [hz] at h1
  have hd := Ed.den_pos (ed e) p
  by_cases h0 : a = 0
  · exact h0
  · have h2 := Int.mul_pos (Int.mul_pos (show 0 < a by have := h.1; omega) (show 0 < a by have := h.1; omega)) (show 0 < (ed e).den p by omega)
    omega
theorem near_codes {es : List S40} {p q : Pt} {a b P S : Int} (hP : 1 ≤ P) (hS : 1 ≤ S) (ha : Is8 es p a) (hb : Is8 es q b) (hd : dist2 p q = 32 * P * (32 * P)) (hd' : dist2 q p = 32 * P * (32 * P))
    (hx : winding es p ≠ winding es q → a + b ≤ 256 * P) : code S (sign es p) a - code S (sign es q) b ≤ 127 * P / S + 4 ∧ code S (sign es q) b - code S (sign es p) a ≤ 127 * P / S + 4 := by
  have ht : 64 * (32 * P * (32 * P)) < (256 * P + 1) * (256 * P + 1) := by
    have e : (256 * P + 1) * (256 * P + 1) = 64 * (32 * P * (32 * P)) + 512 * P + 1 := by grind
    omega
  have s1 := eight_step ha hb (t := 256 * P + 1) (by omega) (by rw [hd']; exact ht)
  have s2 := eight_step hb ha (t := 256 * P + 1) (by omega) (by rw [hd]; exact ht)
  have f1 := far_step hP hS ha.1 hb.1 s1
  have f2 := far_step hP hS hb.1 ha.1 s2
  obtain ⟨a0, a1, _, _⟩ := far_facts hS ha.1
  obtain ⟨b0, b1, _, _⟩ := far_facts hS hb.1
  obtain ⟨r0, _⟩ := way_facts hP hS
  have z0 : far S 0 = 0 := by unfold far; rw [if_pos (by omega)]; simp
  rw [code_far, code_far]
  unfold sign
  by_cases op : onAny es p = true
  · have := on_zero ha op
    subst this
    rw [z0] at f1 f2 ⊢
    rw [if_pos op]
    repeat' split
    all_goals omega
  · by_cases oq : onAny es q = true
    · have := on_zero hb oq
      subst this
      rw [z0] at f1 f2 ⊢
      rw [if_neg op, if_pos oq]
      repeat' split
      all_goals omega
    · rw [if_neg op, if_neg oq]
      by_cases wp : winding es p = 0
      · by_cases wq : winding es q = 0
        · rw [if_pos wp, if_pos wq]; omega
        · have := far_both hP hS ha.1 hb.1 (hx (by omega))
          rw [if_pos wp, if_neg wq]; omega
      · by_cases wq : winding es q = 0
        · have := far_both hP hS ha.1 hb.1 (hx (by omega))
          rw [if_neg wp, if_pos wq]; omega
        · rw [if_neg wp, if_neg wq]; omega
theorem tx_right {es : List S40} {n : Nat} (he : Glyph es n) (hl : es.length < 9000000000000000000) {X Y P W H S i k : Int} (g : GridIn X Y P W H S) (hi : 0 ≤ i ∧ i + 1 ≤ 24) (hk : 0 ≤ k ∧ k ≤ 24) :
    tx es X Y P S (i + 1) k - tx es X Y P S i k ≤ 127 * P / S + 4 ∧ tx es X Y P S i k - tx es X Y P S (i + 1) k ≤ 127 * P / S + 4 := by
  have gp := g.p
  have gs := g.s
  obtain ⟨r0, _⟩ := way_facts gp.1 gs.1
  unfold tx
  by_cases h : es = []
  · rw [if_pos h, if_pos h]; omega
  · rw [if_neg h, if_neg h]
    obtain ⟨_, hp⟩ := centre_eq (X := X) (Y := Y) (P := P) (W := W) (H := H) (S := S) (i := i) (k := k) g (by omega) hk
    obtain ⟨_, hq⟩ := centre_eq (X := X) (Y := Y) (P := P) (W := W) (H := H) (S := S) (i := i + 1) (k := k) g (by omega) hk
    have e : centre X Y P (i + 1) k = ⟨(centre X Y P i k).x + 32 * P, (centre X Y P i k).y⟩ := by
      unfold centre at1; simp only; congr 1; grind
    have h8 := (eight_ret es _ he.small hp hl h).1
    have h8' := (eight_ret es _ he.small hq hl h).1
    rw [e] at h8' ⊢
    have h2 := near_codes gp.1 gs.1 h8 h8' (by unfold dist2; grind) (by unfold dist2; grind) (fun hw => by have := apart_h (by omega) hw h8 h8'; omega)
    exact ⟨h2.2, h2.1⟩
theorem tx_up {es : List S40} {n : Nat} (he : Glyph es n) (hl : es.length < 9000000000000000000) {X Y P W H S i k : Int} (g : GridIn X Y P W H S) (hi : 0 ≤ i ∧ i ≤ 24) (hk : 0 ≤ k ∧ k + 1 ≤ 24) :
    tx es X Y P S i (k + 1) - tx es X Y P S i k ≤ 127 * P / S + 4 ∧ tx es X Y P S i k - tx es X Y P S i (k + 1) ≤ 127 * P / S + 4 := by
  have gp := g.p
  have gs := g.s
  obtain ⟨r0, _⟩ := way_facts gp.1 gs.1
  unfold tx
  by_cases h : es = []
  · rw [if_pos h, if_pos h]; omega
  · rw [if_neg h, if_neg h]
    obtain ⟨_, hp⟩ := centre_eq (X := X) (Y := Y) (P := P) (W := W) (H := H) (S := S) (i := i) (k := k) g hi (by omega)
    obtain ⟨_, hq⟩ := centre_eq (X := X) (Y := Y) (P := P) (W := W) (H := H) (S := S) (i := i) (k := k + 1) g hi (by omega)
    have e : centre X Y P i (k + 1) = ⟨(centre X Y P i k).x, (centre X Y P i k).y + 32 * P⟩ := by
      unfold centre at1; simp only; congr 1; grind
    have h8 := (eight_ret es _ he.small hp hl h).1
    have h8' := (eight_ret es _ he.small hq hl h).1
    rw [e] at h8' ⊢
    have h2 := near_codes gp.1 gs.1 h8 h8' (by unfold dist2; grind) (by unfold dist2; grind) (fun hw => by have := apart_v he.closed (by omega) hw h8 h8'; omega)
    exact ⟨h2.2, h2.1⟩
theorem most_eq {P S : Int} (hP : 1 ≤ P ∧ P ≤ 16) (hS : 1 ≤ S) : smooth_most P S = 127 * P / S + 4 := by
  obtain ⟨r0, _⟩ := way_facts hP.1 hS
  have h1 : 127 * P / S ≤ 127 * P := Int.ediv_le_self _ (by omega)
  unfold smooth_most
  rw [w64 (n := 127 * P) (by omega) (by omega), Int.tdiv_eq_ediv_of_nonneg (by omega), w64 (n := 127 * P / S) (by omega) (by omega), w64 (by omega) (by omega)]
theorem tx_byte {es : List S40} {n : Nat} (he : Glyph es n) (hl : es.length < 9000000000000000000) {X Y P W H S i k : Int} (g : GridIn X Y P W H S) (hi : 0 ≤ i ∧ i ≤ 24) (hk : 0 ≤ k ∧ k ≤ 24) : 1 ≤ tx es X Y P S i k ∧ tx es X Y P S i k ≤ 255 := by
  unfold tx
  by_cases h : es = []
  · rw [if_pos h]; omega
  · rw [if_neg h]
    obtain ⟨_, hp⟩ := centre_eq (X := X) (Y := Y) (P := P) (W := W) (H := H) (S := S) (i := i) (k := k) g hi hk
    exact code_bound g.s (sign_cases _ _) (eight_ret es _ he.small hp hl h).1.1
theorem at_one {es : List S40} {n : Nat} (he : Glyph es n) (hl : es.length < 9000000000000000000) {X Y P W H S i k p q : Int} (g : GridIn X Y P W H S) (hp : 0 ≤ p ∧ p ≤ W) (hq : 0 ≤ q ∧ q ≤ H) (hi : 0 ≤ i ∧ i < W) (hk : 0 ≤ k ∧ k < H)
    (hn : p < W → q < H → tx es X Y P S p q - tx es X Y P S i k ≤ 127 * P / S + 4 ∧ tx es X Y P S i k - tx es X Y P S p q ≤ 127 * P / S + 4) :
    smooth_one W H (fieldOf es X Y P W S H.toNat) (tx es X Y P S i k) p q (smooth_most P S) = true := by
  have gw := g.w
  have gh := g.h
  have hlen : ((fieldOf es X Y P W S H.toNat).length : Int) = H * W := by
    rw [fieldOf_len, Int.natCast_mul, Int.toNat_of_nonneg (by omega), Int.toNat_of_nonneg (by omega)]
  unfold smooth_one grid_At.f
  rw [if_neg (by omega), if_neg (by omega)]
  by_cases c1 : p ≥ W
  · rw [if_pos c1]; rfl
  · rw [if_neg c1]
    by_cases c2 : q ≥ H
    · rw [if_pos c2]; rfl
    · rw [if_neg c2]
      obtain ⟨⟨t1, t2⟩, t3, t4⟩ := texel_at (H := H) (W := W) (a := p) (b := q) gw gh (by omega) (by omega)
      rw [w64 (n := q * W) (by omega) (by omega), w64 (n := q * W + p) (by omega) (by omega), if_neg (by rw [hlen]; omega), if_pos (by omega), if_pos (by rw [hlen]; omega)]
      have e : rd (fieldOf es X Y P W S H.toNat) (q * W + p) = tx es X Y P S p q := fieldOf_get es X Y P W S (by omega) H.toNat p q hp.1 (by omega) hq.1 (by omega)
      rw [e, most_eq g.p g.s.1]
      have b1 := tx_byte he hl (i := p) (k := q) g (by omega) (by omega)
      have b2 := tx_byte he hl (i := i) (k := k) g (by omega) (by omega)
      have h2 := hn (by omega) (by omega)
      generalize tx es X Y P S p q = c at *
      generalize tx es X Y P S i k = d at *
      simp only [Bool.not_true, Bool.false_or, decide_eq_true_eq]
      rw [w64 (n := c) (by omega) (by omega), w64 (n := d) (by omega) (by omega), w64 (n := c - d) (by omega) (by omega), w64 (n := -(c - d)) (by omega) (by omega)]
      split <;> omega
theorem SdfSmooth (l0 : List (List S133)) (a1_0 a1_1 a1_2 a1_3 a1_4 a1_5 : Int) (h0 : (Lit.int .u8 a1_0).wf = true) (h1 : (Lit.int .u8 a1_1).wf = true) (h2 : (Lit.int .u8 a1_2).wf = true) (h3 : (Lit.int .u8 a1_3).wf = true) (h4 : (Lit.int .u8 a1_4).wf = true) (h5 : (Lit.int .u8 a1_5).wf = true) :
    ∃ k, punchcutlaw10_SdfSmooth.f k l0 a1_0 a1_1 a1_2 a1_3 a1_4 a1_5 = some true := by
  refine Ret.of ?_
  obtain ⟨es, he, hg⟩ := glyph_eq l0
  obtain ⟨X, Y, P, W, H, S, hs, g, _, _, hW, hH⟩ := spec_eq h0 h1 h2 h3 h4 h5
  have gw := g.w
  have gh := g.h
  have gs := g.s
  have hl := few he (by omega)
  unfold punchcutlaw10_SdfSmooth.f
  refine Ret.bind awake10_eq ?_
  simp only [if_true]
  refine Ret.bind hg ?_
  rw [hs]
  refine Ret.bind (Ret.const rfl) ?_
  refine Ret.bind (make_eq es he.small hl g) (Ret.const ?_)
  have e1 : ((fieldOf es X Y P W S H.toNat).length : Int) = W * H := by
    rw [fieldOf_len, Int.natCast_mul, Int.toNat_of_nonneg (by omega), Int.toNat_of_nonneg (by omega), Int.mul_comm]
  simp only
  rw [if_pos]
  refine ⟨⟨by omega, by omega, by omega⟩, trivial, e1, List.all_eq_true.2 fun n hn => ?_⟩
  have hn := List.mem_range.1 hn
  have hdm : W.toNat * (n / W.toNat) + n % W.toNat = n := Nat.div_add_mod _ _
  have hiW : n % W.toNat < W.toNat := Nat.mod_lt _ (by omega)
  have hjH : n / W.toNat < H.toNat := Nat.div_lt_of_lt_mul hn
  unfold smooth_ok
  generalize n % W.toNat = i at *
  generalize n / W.toNat = j at *
  have e2 : rd (fieldOf es X Y P W S H.toNat) (n : Int) = tx es X Y P S i j := by
    have := fieldOf_get es X Y P W S (by omega) H.toNat (i : Int) (j : Int) (by omega) (by omega) (by omega) (by omega)
    rw [show ((j : Int) * W + i).toNat = n by
      have hw : ((W.toNat * j : Nat) : Int) = (j : Int) * W := by rw [Int.natCast_mul, Int.toNat_of_nonneg (by omega), Int.mul_comm]
      omega] at this
    exact this
  rw [e2, Bool.and_eq_true]
  exact ⟨at_one he hl g (by omega) (by omega) (by omega) (by omega) (fun c1 c2 => tx_right he hl g (by omega) (by omega)),
    at_one he hl g (by omega) (by omega) (by omega) (by omega) (fun c1 c2 => tx_up he hl g (by omega) (by omega))⟩
end Go.Proofs.Ytlljpjbhndcaiaa.M
end
