/- What the proof of the law SdfTexel leans on, part 4. -/
import Derived.Test.YtlljpjbhndcaiaaSdfTexelC3
import Derived.OrdersIn
import Derived.RangeFuncCalls
import Derived.Laws.BitsLemmas
import Derived.IntWalk
import Init
set_option linter.unusedVariables false
set_option linter.unusedSimpArgs false
set_option linter.unusedSectionVars false
section
namespace Go.Proofs.Ytlljpjbhndcaiaa.Q
open Go.RowKit Go.Proofs.YtlljpjbhndcaiaaW.PrintWords Go.Proofs.YtlljpjbhndcaiaaW.PrintLast Go.Proofs.YtlljpjbhndcaiaaW.PrintMore
attribute [local go_sem] max2_int min2_int max_two min_two max_three min_three max_four min_four
set_option linter.unusedVariables false
set_option linter.unusedSimpArgs false
mutual
def punchcutlaw10_Field.l0 : Nat → List (S40) → Int → Int → Int → Int → Int → Int → Int → Int → Int → List Int → Option (Int × Int × List Int)
  | 0, _, _, _, _, _, _, _, _, _, _, _ => none
  | k + 1, x0, x6, x319000, x319001, x319002, x319003, x319004, x319005, x321000, x321001, x321002 => if x6 < x319004 then (punchcutlaw10_Field.l1 k x0 x6 0 x319000 x319001 x319002 x319003 x319004 x319005 x321000 x321001 x321002) else (some (x321000, x321001, x321002))
def punchcutlaw10_Field.l1 : Nat → List (S40) → Int → Int → Int → Int → Int → Int → Int → Int → Int → Int → List Int → Option (Int × Int × List Int)
  | 0, _, _, _, _, _, _, _, _, _, _, _, _ => none
  | k + 1, x0, x6, x7, x319000, x319001, x319002, x319003, x319004, x319005, x321000, x321001, x321002 => if x7 < x319003 then ((grid_Centre.f x319000 x319001 x319002 x319003 x319004 x319005 x7 x6).bind fun bt321 => (if (x0.length : Int) > 0 then ((dist_Sign.f k x0 bt321.1 bt321.2).bind fun t324 => ((dist_Eight.f k x0 bt321.1 bt321.2).bind fun t325 => ((grid_Code.f x319000 x319001 x319002 x319003 x319004 x319005 t324 t325).bind fun t326 => (if x321002.length < 140737488355328 then (punchcutlaw10_Field.l1 k x0 x6 (wrap64 (x7 + 1)) x319000 x319001 x319002 x319003 x319004 x319005 x321000 x321001 (x321002 ++ [t326])) else (none))))) else (if x321002.length < 140737488355328 then (punchcutlaw10_Field.l1 k x0 x6 (wrap64 (x7 + 1)) x319000 x319001 x319002 x319003 x319004 x319005 x321000 x321001 (x321002 ++ [1])) else (none)))) else (punchcutlaw10_Field.l0 k x0 (wrap64 (x6 + 1)) x319000 x319001 x319002 x319003 x319004 x319005 x321000 x321001 x321002)
end
def punchcutlaw10_Field.f (k : Nat) (l0 : List (S40)) (a1_0 : Int) (a1_1 : Int) (a1_2 : Int) (a1_3 : Int) (a1_4 : Int) (a1_5 : Int) : Option (Int × Int × List Int) := punchcutlaw10_Field.l0 k l0 0 a1_0 a1_1 a1_2 a1_3 a1_4 a1_5 a1_3 a1_4 ([] : List Int)
theorem punchcutlaw10_Field.mono_l : ∀ k, (∀ y0 y1 y2 y3 y4 y5 y6 y7 y8 y9 y10, LeO (punchcutlaw10_Field.l0 k y0 y1 y2 y3 y4 y5 y6 y7 y8 y9 y10) (punchcutlaw10_Field.l0 (k + 1) y0 y1 y2 y3 y4 y5 y6 y7 y8 y9 y10)) ∧ (∀ y0 y1 y2 y3 y4 y5 y6 y7 y8 y9 y10 y11, LeO (punchcutlaw10_Field.l1 k y0 y1 y2 y3 y4 y5 y6 y7 y8 y9 y10 y11) (punchcutlaw10_Field.l1 (k + 1) y0 y1 y2 y3 y4 y5 y6 y7 y8 y9 y10 y11))
  | 0 => ⟨fun _ _ _ _ _ _ _ _ _ _ _ r h => by simp [punchcutlaw10_Field.l0] at h, fun _ _ _ _ _ _ _ _ _ _ _ _ r h => by simp [punchcutlaw10_Field.l1] at h⟩
  | k + 1 => by
    obtain ⟨ih0, ih1⟩ := punchcutlaw10_Field.mono_l k
    refine ⟨?_, ?_⟩
    · intro y0 y1 y2 y3 y4 y5 y6 y7 y8 y9 y10
      unfold punchcutlaw10_Field.l0
      repeat' first
      | (with_reducible exact ih0 _ _ _ _ _ _ _ _ _ _ _)
      | (with_reducible exact ih1 _ _ _ _ _ _ _ _ _ _ _ _)
      | (with_reducible exact dist_Eight.mono _ _ _ _)
      | (with_reducible exact dist_Sign.mono _ _ _ _)
      | (with_reducible exact LeO.refl _)
      | (with_reducible exact LeO.none _)
      | (with_reducible refine LeO.ite ?_ ?_)
      | (with_reducible refine LeO.bind ?_ (fun _ => ?_))
      | exact ih0 _ _ _ _ _ _ _ _ _ _ _
      | exact ih1 _ _ _ _ _ _ _ _ _ _ _ _
      | exact dist_Eight.mono _ _ _ _
      | exact dist_Sign.mono _ _ _ _
      | exact LeO.none _
      | refine LeO.ite ?_ ?_
      | refine LeO.bind ?_ (fun _ => ?_)
    · intro y0 y1 y2 y3 y4 y5 y6 y7 y8 y9 y10 y11
      unfold punchcutlaw10_Field.l1
      repeat' first
      | (with_reducible exact ih0 _ _ _ _ _ _ _ _ _ _ _)
      | (with_reducible exact ih1 _ _ _ _ _ _ _ _ _ _ _ _)
      | (with_reducible exact dist_Eight.mono _ _ _ _)
      | (with_reducible exact dist_Sign.mono _ _ _ _)
      | (with_reducible exact LeO.refl _)
      | (with_reducible exact LeO.none _)
      | (with_reducible refine LeO.ite ?_ ?_)
      | (with_reducible refine LeO.bind ?_ (fun _ => ?_))
      | exact ih0 _ _ _ _ _ _ _ _ _ _ _
      | exact ih1 _ _ _ _ _ _ _ _ _ _ _ _
      | exact dist_Eight.mono _ _ _ _
      | exact dist_Sign.mono _ _ _ _
      | exact LeO.none _
      | refine LeO.ite ?_ ?_
      | refine LeO.bind ?_ (fun _ => ?_)
theorem punchcutlaw10_Field.mono : ∀ a0 a1 a2 a3 a4 a5 a6 k, LeO (punchcutlaw10_Field.f k a0 a1 a2 a3 a4 a5 a6) (punchcutlaw10_Field.f (k + 1) a0 a1 a2 a3 a4 a5 a6) := by
  intro a0 a1 a2 a3 a4 a5 a6 k
  obtain ⟨ih0, ih1⟩ := punchcutlaw10_Field.mono_l k
  unfold punchcutlaw10_Field.f
  repeat' first
      | (with_reducible exact ih0 _ _ _ _ _ _ _ _ _ _ _)
      | (with_reducible exact ih1 _ _ _ _ _ _ _ _ _ _ _ _)
      | (with_reducible exact dist_Eight.mono _ _ _ _)
      | (with_reducible exact dist_Sign.mono _ _ _ _)
      | (with_reducible exact LeO.refl _)
      | (with_reducible exact LeO.none _)
      | (with_reducible refine LeO.ite ?_ ?_)
      | (with_reducible refine LeO.bind ?_ (fun _ => ?_))
      | exact ih0 _ _ _ _ _ _ _ _ _ _ _
      | exact ih1 _ _ _ _ _ _ _ _ _ _ _ _
      | exact dist_Eight.mono _ _ _ _
      | exact dist_Sign.mono _ _ _ _
      | exact LeO.none _
      | refine LeO.ite ?_ ?_
      | refine LeO.bind ?_ (fun _ => ?_)
def punchcutlaw10_Field.T11 : Bool × List (List Nat × List Nat) := (true, [([], []), ([], []), ([], []), ([1, 2], [1, 2]), ([], []), ([], []), ([4, 5, 3], [4, 5]), ([0, 3, 6, 6], [0, 3, 6]), ([7, 7, 0, 1, 2, 3, 4, 5, 6, 7], [7])])
def punchcutlaw10_Field.B11 : List Nat := [0, 0, 0, 6, 0, 0, 62, 127, 255]
theorem punchcutlaw10_Field.tab11 : rtab .any (opsOf Try.f35 11) = punchcutlaw10_Field.T11 := by kernel_rfl
theorem punchcutlaw10_Field.bits11 : waitsOk punchcutlaw10_Field.T11.2 punchcutlaw10_Field.B11 = true := by kernel_rfl
set_option maxHeartbeats 8000000 in
set_option maxRecDepth 100000 in
theorem punchcutlaw10_Field.calls (k : Nat) (A0 : Option Addr) (c0 : Nat) (l0 : List (S40)) (a1_0 : Int) (a1_1 : Int) (a1_2 : Int) (a1_3 : Int) (a1_4 : Int) (a1_5 : Int) (r1 : Int) (r2 : Int) (r3 : List Int) (w : World) (hr0 : Kd.C k40 w A0 l0.length l0) (hc0 : l0.length ≤ c0) (h : punchcutlaw10_Field.f k l0 a1_0 a1_1 a1_2 a1_3 a1_4 a1_5 = some (r1, r2, r3)) :
    Calls Try.prog 35 #[.slice A0 l0.length c0, .agg #[.int .i64 a1_0, .int .i64 a1_1, .int .i64 a1_2, .int .i64 a1_3, .int .i64 a1_4, .int .i64 a1_5]] w fun e w' => ∃ v2_ : Value, e = .returned (.agg #[.int .i64 r1, .int .i64 r2, v2_]) ∧ Kd.R (Kd.int .u8) 5 w' w.heap.size (fun _ => True) v2_ r3 ∧ Below w.heap.size w w' := by
  have hu53 := Try.underlying53
  have hu57 := Try.underlying57
  have hu32 := Try.underlying32
  have HR0 := Aside0.mk hr0
  have HC0 := Aside0.mk hc0
  clear hr0 hc0
  have HB := Aside0.mk (Below.refl w.heap.size w)
  have H : (punchcutlaw10_Field.l0 k l0 0 a1_0 a1_1 a1_2 a1_3 a1_4 a1_5 a1_3 a1_4 ([] : List Int)) = some (r1, r2, r3) := h
  clear h
  have H' := Aside0.mk H
  clear H
  go_enter Try.func35, Try.ntmps35
  go_wp2_with (first | ((with_reducible refine gate_dst (N := 3) rfl ?_); refine box_event ?hg (N := 3) ?hd (cs := #[.int .i64 a1_0, .int .i64 a1_1, .int .i64 a1_2, .int .i64 a1_3, .int .i64 a1_4, .int .i64 a1_5]) (t := 53) ?hr ?_; (case hd => rfl); (case hg => rfl); (case hr => first | (go_simp; done) | (go_simp; rfl)); intro gb318 hg w3 hbox hb; have n0_ := Aside0.mk (below_step (by repeat (first | (with_reducible first | exact HB.out | apply below_alloc | apply pw_below_drewN | apply below_drew1) | exact HB.out)) hb); have n1_ := Aside0.mk (hbox); have n2_ := Aside0.mk ((by rw [hg]; exact (below_size (by repeat (first | (with_reducible first | exact HB.out | apply below_alloc | apply pw_below_drewN | apply below_drew1) | exact HB.out))) : w.heap.size ≤ gb318)); have n3_ := Aside0.mk ((by rw [hg]; exact (below_size (by repeat (first | (with_reducible first | exact HB.out | apply below_alloc | apply pw_below_drewN | apply below_drew1) | exact HB.out))) : w.heap.size ≤ gb318)); clear HB; have HB := n0_; have BK318 := n1_; have GW318 := n2_; have GE318 := n3_; clear n0_ n1_ n2_ n3_; clear hb hbox hg) | ((with_reducible refine gate_dst (N := 4) rfl ?_); refine box_event ?hg (N := 4) ?hd (cs := #[.int .i64 0, .int .i64 0, .slice none 0 0]) (t := 57) ?hr ?_; (case hd => rfl); (case hg => rfl); (case hr => first | (go_simp; done) | (go_simp; rfl)); intro gb319 hg w4 hbox hb; have n0_ := Aside0.mk (blk_below (g := gb318) (o := .cells #[.int .i64 a1_0, .int .i64 a1_1, .int .i64 a1_2, .int .i64 a1_3, .int .i64 a1_4, .int .i64 a1_5] 53 (0, 0)) (by (with_reducible repeat (first | refine blk_drewN ?_ _ | refine blk_drew ?_ | refine blk_alloc ?_ _)); exact BK318.out) hb); have n1_ := Aside0.mk (below_step (by repeat (first | (with_reducible first | exact HB.out | apply below_alloc | apply pw_below_drewN | apply below_drew1 | refine below_set ?_ GE318.out) | exact HB.out)) hb); have n2_ := Aside0.mk (hbox); have n3_ := Aside0.mk ((by rw [hg]; exact (below_size (by repeat (first | (with_reducible first | exact HB.out | apply below_alloc | apply pw_below_drewN | apply below_drew1 | refine below_set ?_ GE318.out) | exact HB.out))) : w.heap.size ≤ gb319)); have n4_ := Aside0.mk ((by rw [hg]; exact (below_size (by repeat (first | (with_reducible first | exact HB.out | apply below_alloc | apply pw_below_drewN | apply below_drew1 | refine below_set ?_ GE318.out) | exact HB.out))) : w.heap.size ≤ gb319)); have n5_ := Aside0.mk ((by rw [hg]; exact Nat.ne_of_lt (blk_lt (g := gb318) (o := .cells #[.int .i64 a1_0, .int .i64 a1_1, .int .i64 a1_2, .int .i64 a1_3, .int .i64 a1_4, .int .i64 a1_5] 53 (0, 0)) (by (with_reducible repeat (first | refine blk_drewN ?_ _ | refine blk_drew ?_ | refine blk_alloc ?_ _)); exact BK318.out)) : gb318 ≠ gb319)); have n6_ := Aside0.mk ((by rw [hg]; exact Nat.ne_of_gt (blk_lt (g := gb318) (o := .cells #[.int .i64 a1_0, .int .i64 a1_1, .int .i64 a1_2, .int .i64 a1_3, .int .i64 a1_4, .int .i64 a1_5] 53 (0, 0)) (by (with_reducible repeat (first | refine blk_drewN ?_ _ | refine blk_drew ?_ | refine blk_alloc ?_ _)); exact BK318.out)) : gb319 ≠ gb318)); clear BK318; clear HB; have BK318 := n0_; have HB := n1_; have BK319 := n2_; have GW319 := n3_; have GE319 := n4_; have NB318_319 := n5_; have NB319_318 := n6_; clear n0_ n1_ n2_ n3_ n4_ n5_ n6_; clear hb hbox hg; have hnb5 := NB318_319.out; have hnc5 := NB319_318.out; have hcz6_0 : w4.cell? ⟨gb318, 0, none⟩ = some (.int .i64 a1_0) := (blk_cell BK318.out 0).trans rfl; have hcz6_1 : w4.cell? ⟨gb318, 1, none⟩ = some (.int .i64 a1_1) := (blk_cell BK318.out 1).trans rfl; have hcz6_2 : w4.cell? ⟨gb318, 2, none⟩ = some (.int .i64 a1_2) := (blk_cell BK318.out 2).trans rfl; have hcz6_3 : w4.cell? ⟨gb318, 3, none⟩ = some (.int .i64 a1_3) := (blk_cell BK318.out 3).trans rfl; have hcz6_4 : w4.cell? ⟨gb318, 4, none⟩ = some (.int .i64 a1_4) := (blk_cell BK318.out 4).trans rfl; have hcz6_5 : w4.cell? ⟨gb318, 5, none⟩ = some (.int .i64 a1_5) := (blk_cell BK318.out 5).trans rfl; have hfz6_0 := blk_frozen BK318.out 0; have hfz6_1 := blk_frozen BK318.out 1; have hfz6_2 := blk_frozen BK318.out 2; have hfz6_3 := blk_frozen BK318.out 3; have hfz6_4 := blk_frozen BK318.out 4; have hfz6_5 := blk_frozen BK318.out 5) | ((with_reducible refine gate_dst (N := 5) rfl ?_); refine box_event ?hg (N := 5) ?hd (cs := #[.int .i64 0, .int .i64 0, .slice none 0 0]) (t := 57) ?hr ?_; (case hd => rfl); (case hg => rfl); (case hr => first | (go_simp; done) | (go_simp; rfl)); intro gb320 hg w7 hbox hb; have n0_ := Aside0.mk (blk_below (g := gb318) (o := .cells #[.int .i64 a1_0, .int .i64 a1_1, .int .i64 a1_2, .int .i64 a1_3, .int .i64 a1_4, .int .i64 a1_5] 53 (0, 0)) (by (with_reducible repeat (first | refine blk_drewN ?_ _ | refine blk_drew ?_ | refine blk_alloc ?_ _)); exact BK318.out) hb); have n1_ := Aside0.mk (blk_below (g := gb319) (o := .cells #[.int .i64 0, .int .i64 0, .slice none 0 0] 57 (0, 0)) (by (with_reducible repeat (first | refine blk_drewN ?_ _ | refine blk_drew ?_ | refine blk_alloc ?_ _)); exact BK319.out) hb); have n2_ := Aside0.mk (below_step (by repeat (first | (with_reducible first | exact HB.out | apply below_alloc | apply pw_below_drewN | apply below_drew1 | refine below_set ?_ GE318.out | refine below_set ?_ GE319.out) | exact HB.out)) hb); have n3_ := Aside0.mk (hbox); have n4_ := Aside0.mk ((by rw [hg]; exact (below_size (by repeat (first | (with_reducible first | exact HB.out | apply below_alloc | apply pw_below_drewN | apply below_drew1 | refine below_set ?_ GE318.out | refine below_set ?_ GE319.out) | exact HB.out))) : w.heap.size ≤ gb320)); have n5_ := Aside0.mk ((by rw [hg]; exact (below_size (by repeat (first | (with_reducible first | exact HB.out | apply below_alloc | apply pw_below_drewN | apply below_drew1 | refine below_set ?_ GE318.out | refine below_set ?_ GE319.out) | exact HB.out))) : w.heap.size ≤ gb320)); have n6_ := Aside0.mk ((by rw [hg]; exact Nat.ne_of_lt (blk_lt (g := gb318) (o := .cells #[.int .i64 a1_0, .int .i64 a1_1, .int .i64 a1_2, .int .i64 a1_3, .int .i64 a1_4, .int .i64 a1_5] 53 (0, 0)) (by (with_reducible repeat (first | refine blk_drewN ?_ _ | refine blk_drew ?_ | refine blk_alloc ?_ _)); exact BK318.out)) : gb318 ≠ gb320)); have n7_ := Aside0.mk ((by rw [hg]; exact Nat.ne_of_gt (blk_lt (g := gb318) (o := .cells #[.int .i64 a1_0, .int .i64 a1_1, .int .i64 a1_2, .int .i64 a1_3, .int .i64 a1_4, .int .i64 a1_5] 53 (0, 0)) (by (with_reducible repeat (first | refine blk_drewN ?_ _ | refine blk_drew ?_ | refine blk_alloc ?_ _)); exact BK318.out)) : gb320 ≠ gb318)); have n8_ := Aside0.mk ((by rw [hg]; exact Nat.ne_of_lt (blk_lt (g := gb319) (o := .cells #[.int .i64 0, .int .i64 0, .slice none 0 0] 57 (0, 0)) (by (with_reducible repeat (first | refine blk_drewN ?_ _ | refine blk_drew ?_ | refine blk_alloc ?_ _)); exact BK319.out)) : gb319 ≠ gb320)); have n9_ := Aside0.mk ((by rw [hg]; exact Nat.ne_of_gt (blk_lt (g := gb319) (o := .cells #[.int .i64 0, .int .i64 0, .slice none 0 0] 57 (0, 0)) (by (with_reducible repeat (first | refine blk_drewN ?_ _ | refine blk_drew ?_ | refine blk_alloc ?_ _)); exact BK319.out)) : gb320 ≠ gb319)); clear BK318; clear BK319; clear HB; have BK318 := n0_; have BK319 := n1_; have HB := n2_; have BK320 := n3_; have GW320 := n4_; have GE320 := n5_; have NB318_320 := n6_; have NB320_318 := n7_; have NB319_320 := n8_; have NB320_319 := n9_; clear n0_ n1_ n2_ n3_ n4_ n5_ n6_ n7_ n8_ n9_; clear hb hbox hg; have hnb8 := NB320_318.out; have hnc8 := NB318_320.out; have hnb9 := NB320_319.out; have hnc9 := NB319_320.out; have hcz10_0 : w7.cell? ⟨gb320, 0, none⟩ = some (.int .i64 0) := (blk_cell BK320.out 0).trans rfl; have hcz10_1 : w7.cell? ⟨gb320, 1, none⟩ = some (.int .i64 0) := (blk_cell BK320.out 1).trans rfl; have hcz10_2 : w7.cell? ⟨gb320, 2, none⟩ = some (.slice none 0 0) := (blk_cell BK320.out 2).trans rfl; have hfz10_0 := blk_frozen BK320.out 0; have hfz10_1 := blk_frozen BK320.out 1; have hfz10_2 := blk_frozen BK320.out 2))
  go_loopg [6] k (fun kq v6 w' => ∃ (x6_1 : Int) (x321002_1 : List Int) (u321002 : Value), v6 = .int .i64 x6_1 ∧ Aside0 (punchcutlaw10_Field.l0 kq l0 x6_1 a1_0 a1_1 a1_2 a1_3 a1_4 a1_5 a1_3 a1_4 x321002_1 = some (r1, r2, r3)) ∧ Aside0 (kq ≤ k) ∧ Aside0 (Kd.R (Kd.int .u8) 5 w' w.heap.size (fun _ => True) u321002 x321002_1) ∧ Aside0 (w'.heap[gb318]? = some (.cells #[.int .i64 a1_0, .int .i64 a1_1, .int .i64 a1_2, .int .i64 a1_3, .int .i64 a1_4, .int .i64 a1_5] 53 (0, 0))) ∧ Aside0 (w'.heap[gb319]? = some (.cells #[.int .i64 0, .int .i64 0, (.slice none 0 0)] 57 (0, 0))) ∧ Aside0 (w'.heap[gb320]? = some (.cells #[.int .i64 a1_3, .int .i64 a1_4, u321002] 57 (0, 0))) ∧ Aside0 (Below w.heap.size w w'))
  case atStart => exact ⟨(0), (([] : List Int)), (.slice none 0 0), (by first | rfl | (simp; done) | (simp [*]; done)), H', ⟨Nat.le_refl _⟩, ⟨by first | exact Kd.R_nil _ _ _ _ _ | exact Kd.N_nil _ _ _ _ _ | exact Kd.V_nil _ _ _ _ _ | exact Kd.Q_nil _ _ _ _ _ | exact Kd.S_nil _ _ _ _ _⟩, ⟨by (with_reducible repeat (first | refine blk_drewN ?_ _ | refine blk_drew ?_ | refine blk_alloc ?_ _)); refine blk_far ?_ NB318_320.out _; (with_reducible repeat (first | refine blk_drewN ?_ _ | refine blk_drew ?_ | refine blk_alloc ?_ _)); refine blk_far ?_ NB318_320.out _; (with_reducible repeat (first | refine blk_drewN ?_ _ | refine blk_drew ?_ | refine blk_alloc ?_ _)); refine blk_far ?_ NB318_320.out _; (with_reducible repeat (first | refine blk_drewN ?_ _ | refine blk_drew ?_ | refine blk_alloc ?_ _)); exact BK318.out⟩, ⟨by (with_reducible repeat (first | refine blk_drewN ?_ _ | refine blk_drew ?_ | refine blk_alloc ?_ _)); refine blk_far ?_ NB319_320.out _; (with_reducible repeat (first | refine blk_drewN ?_ _ | refine blk_drew ?_ | refine blk_alloc ?_ _)); refine blk_far ?_ NB319_320.out _; (with_reducible repeat (first | refine blk_drewN ?_ _ | refine blk_drew ?_ | refine blk_alloc ?_ _)); refine blk_far ?_ NB319_320.out _; (with_reducible repeat (first | refine blk_drewN ?_ _ | refine blk_drew ?_ | refine blk_alloc ?_ _)); exact BK319.out⟩, ⟨by (with_reducible repeat (first | refine blk_drewN ?_ _ | refine blk_drew ?_ | refine blk_alloc ?_ _)); refine blk_put (cs := #[.int .i64 a1_3, .int .i64 a1_4, .slice none 0 0]) ?_ 2 _ rfl; (with_reducible repeat (first | refine blk_drewN ?_ _ | refine blk_drew ?_ | refine blk_alloc ?_ _)); refine blk_put (cs := #[.int .i64 a1_3, .int .i64 0, .slice none 0 0]) ?_ 1 _ rfl; (with_reducible repeat (first | refine blk_drewN ?_ _ | refine blk_drew ?_ | refine blk_alloc ?_ _)); refine blk_put (cs := #[.int .i64 0, .int .i64 0, .slice none 0 0]) ?_ 0 _ rfl; (with_reducible repeat (first | refine blk_drewN ?_ _ | refine blk_drew ?_ | refine blk_alloc ?_ _)); exact BK320.out⟩, ⟨by repeat (first | (with_reducible first | exact HB.out | apply below_alloc | apply pw_below_drewN | apply below_drew1 | refine below_set ?_ GE318.out | refine below_set ?_ GE319.out | refine below_set ?_ GE320.out) | exact HB.out)⟩⟩
  case round =>
    clear H'
    try clear p2
    try clear c3
    try clear c5
    try clear c8
    try clear c9
    try clear hcz10_0
    try clear hcz10_1
    try clear hcz10_2
    try clear hcz6_0
    try clear hcz6_1
    try clear hcz6_2
    try clear hcz6_3
    try clear hcz6_4
    try clear hcz6_5
    try clear hfz10_0
    try clear hfz10_1
    try clear hfz10_2
    try clear hfz6_0
    try clear hfz6_1
    try clear hfz6_2
    try clear hfz6_3
    try clear hfz6_4
    try clear hfz6_5
    obtain ⟨x6_1, x321002_1, u321002, rfl, HA, HK1, HO_321002, BK318, BK319, BK320, HB⟩ := hrel
    cases gk with
    | zero => exact absurd HA.out (by simp [punchcutlaw10_Field.l0])
    | succ k1 =>
      have H := HA.out
      clear HA
      simp only [punchcutlaw10_Field.l0] at H
      by_cases c11 : x6_1 < a1_4
      · rw [if_pos c11] at H
        have c11b0 : decide (x6_1 < a1_4) = true := decide_eq_true c11
        clear c11
        have H' := Aside0.mk H
        clear H
        have hnb12 := NB318_319.out
        have hnc12 := NB319_318.out
        have hnb13 := NB318_320.out
        have hnc13 := NB320_318.out
        have hcz14_0 : wr.cell? ⟨gb318, 0, none⟩ = some (.int .i64 a1_0) := (blk_cell BK318.out 0).trans rfl
        have hcz14_1 : wr.cell? ⟨gb318, 1, none⟩ = some (.int .i64 a1_1) := (blk_cell BK318.out 1).trans rfl
        have hcz14_2 : wr.cell? ⟨gb318, 2, none⟩ = some (.int .i64 a1_2) := (blk_cell BK318.out 2).trans rfl
        have hcz14_3 : wr.cell? ⟨gb318, 3, none⟩ = some (.int .i64 a1_3) := (blk_cell BK318.out 3).trans rfl
        have hcz14_4 : wr.cell? ⟨gb318, 4, none⟩ = some (.int .i64 a1_4) := (blk_cell BK318.out 4).trans rfl
        have hcz14_5 : wr.cell? ⟨gb318, 5, none⟩ = some (.int .i64 a1_5) := (blk_cell BK318.out 5).trans rfl
        have hfz14_0 := blk_frozen BK318.out 0
        have hfz14_1 := blk_frozen BK318.out 1
        have hfz14_2 := blk_frozen BK318.out 2
        have hfz14_3 := blk_frozen BK318.out 3
        have hfz14_4 := blk_frozen BK318.out 4
        have hfz14_5 := blk_frozen BK318.out 5
        go_wp2
        go_loopg [7] k1 (fun kq v7 w' => ∃ (x7_2 : Int) (x321002_2 : List Int) (u321002 : Value), v7 = .int .i64 x7_2 ∧ Aside0 (punchcutlaw10_Field.l1 kq l0 x6_1 x7_2 a1_0 a1_1 a1_2 a1_3 a1_4 a1_5 a1_3 a1_4 x321002_2 = some (r1, r2, r3)) ∧ Aside0 (kq ≤ k1) ∧ Aside0 (Kd.R (Kd.int .u8) 5 w' w.heap.size (fun _ => True) u321002 x321002_2) ∧ Aside0 (w'.heap[gb318]? = some (.cells #[.int .i64 a1_0, .int .i64 a1_1, .int .i64 a1_2, .int .i64 a1_3, .int .i64 a1_4, .int .i64 a1_5] 53 (0, 0))) ∧ Aside0 (w'.heap[gb319]? = some (.cells #[.int .i64 0, .int .i64 0, (.slice none 0 0)] 57 (0, 0))) ∧ Aside0 (w'.heap[gb320]? = some (.cells #[.int .i64 a1_3, .int .i64 a1_4, u321002] 57 (0, 0))) ∧ Aside0 (Below w.heap.size w w'))
        case atStart => exact ⟨(0), (x321002_1), (u321002), (by first | rfl | (simp; done) | (simp [*]; done)), H', ⟨Nat.le_refl _⟩, ⟨by (with_reducible repeat (first | apply Kd.R_alloc | apply Kd.R_drewN | apply Kd.R_drew)); exact HO_321002.out⟩, ⟨by (with_reducible repeat (first | refine blk_drewN ?_ _ | refine blk_drew ?_ | refine blk_alloc ?_ _)); exact BK318.out⟩, ⟨by (with_reducible repeat (first | refine blk_drewN ?_ _ | refine blk_drew ?_ | refine blk_alloc ?_ _)); exact BK319.out⟩, ⟨by (with_reducible repeat (first | refine blk_drewN ?_ _ | refine blk_drew ?_ | refine blk_alloc ?_ _)); exact BK320.out⟩, ⟨by repeat (first | (with_reducible first | exact HB.out | apply below_alloc | apply pw_below_drewN | apply below_drew1 | refine below_set ?_ GE318.out | refine below_set ?_ GE319.out | refine below_set ?_ GE320.out) | exact HB.out)⟩⟩
        case round =>
          clear H'
          try clear c1
          try clear p2
          try clear c3
          try clear c5
          try clear c8
          try clear c9
          try clear c11
          try clear c11b0
          try clear c12
          try clear c13
          try clear hcz10_0
          try clear hcz10_1
          try clear hcz10_2
          try clear hcz14_0
          try clear hcz14_1
          try clear hcz14_2
          try clear hcz14_3
          try clear hcz14_4
          try clear hcz14_5
          try clear hcz6_0
          try clear hcz6_1
          try clear hcz6_2
          try clear hcz6_3
          try clear hcz6_4
          try clear hcz6_5
          try clear hfz10_0
          try clear hfz10_1
          try clear hfz10_2
          try clear hfz14_0
          try clear hfz14_1
          try clear hfz14_2
          try clear hfz14_3
          try clear hfz14_4
          try clear hfz14_5
          try clear hfz6_0
          try clear hfz6_1
          try clear hfz6_2
          try clear hfz6_3
          try clear hfz6_4
          try clear hfz6_5
          try clear p2
          obtain ⟨x7_2, x321002_2, u321002, rfl, HA, HK2, HO_321002, BK318, BK319, BK320, HB⟩ := hrel
          cases gk with
          | zero => exact absurd HA.out (by simp [punchcutlaw10_Field.l1])
          | succ k2 =>
            have H := HA.out
            clear HA
            simp only [punchcutlaw10_Field.l1] at H
            by_cases c15 : x7_2 < a1_3
            · rw [if_pos c15] at H
              have c15b0 : decide (x7_2 < a1_3) = true := decide_eq_true c15
              clear c15
              replace H := Option.bind_eq_some_iff.mp H
              obtain ⟨⟨t321, t322⟩, A160, H⟩ := H
              replace H : (if (l0.length : Int) > 0 then ((dist_Sign.f k2 l0 t321 t322).bind fun t324 => ((dist_Eight.f k2 l0 t321 t322).bind fun t325 => ((grid_Code.f a1_0 a1_1 a1_2 a1_3 a1_4 a1_5 t324 t325).bind fun t326 => (if x321002_2.length < 140737488355328 then (punchcutlaw10_Field.l1 k2 l0 x6_1 (wrap64 (x7_2 + 1)) a1_0 a1_1 a1_2 a1_3 a1_4 a1_5 a1_3 a1_4 (x321002_2 ++ [t326])) else (none))))) else (if x321002_2.length < 140737488355328 then (punchcutlaw10_Field.l1 k2 l0 x6_1 (wrap64 (x7_2 + 1)) a1_0 a1_1 a1_2 a1_3 a1_4 a1_5 a1_3 a1_4 (x321002_2 ++ [1])) else (none))) = some (r1, r2, r3) := H
              have A16 := Aside0.mk A160
              clear A160
              by_cases c17 : (l0.length : Int) > 0
              · rw [if_pos c17] at H
                have c17b0 : decide (0 < (l0.length : Int)) = true := decide_eq_true c17
                have c17b1 : decide (0 < l0.length) = true := decide_eq_true (by omega)
                clear c17
                replace H := Option.bind_eq_some_iff.mp H
                obtain ⟨t324, A180, H⟩ := H
                replace H : ((dist_Eight.f k2 l0 t321 t322).bind fun t325 => ((grid_Code.f a1_0 a1_1 a1_2 a1_3 a1_4 a1_5 t324 t325).bind fun t326 => (if x321002_2.length < 140737488355328 then (punchcutlaw10_Field.l1 k2 l0 x6_1 (wrap64 (x7_2 + 1)) a1_0 a1_1 a1_2 a1_3 a1_4 a1_5 a1_3 a1_4 (x321002_2 ++ [t326])) else (none)))) = some (r1, r2, r3) := H
                have A18 := Aside0.mk A180
                clear A180
                replace H := Option.bind_eq_some_iff.mp H
                obtain ⟨t325, A190, H⟩ := H
                replace H : ((grid_Code.f a1_0 a1_1 a1_2 a1_3 a1_4 a1_5 t324 t325).bind fun t326 => (if x321002_2.length < 140737488355328 then (punchcutlaw10_Field.l1 k2 l0 x6_1 (wrap64 (x7_2 + 1)) a1_0 a1_1 a1_2 a1_3 a1_4 a1_5 a1_3 a1_4 (x321002_2 ++ [t326])) else (none))) = some (r1, r2, r3) := H
                have A19 := Aside0.mk A190
                clear A190
                replace H := Option.bind_eq_some_iff.mp H
                obtain ⟨t326, A200, H⟩ := H
                replace H : (if x321002_2.length < 140737488355328 then (punchcutlaw10_Field.l1 k2 l0 x6_1 (wrap64 (x7_2 + 1)) a1_0 a1_1 a1_2 a1_3 a1_4 a1_5 a1_3 a1_4 (x321002_2 ++ [t326])) else (none)) = some (r1, r2, r3) := H
                have A20 := Aside0.mk A200
                clear A200
                by_cases c21 : x321002_2.length < 140737488355328
                · rw [if_pos c21] at H
                  have LMc21 := Aside0.mk c21
                  clear c21
                  obtain ⟨y327, hy327⟩ : ∃ y_ : List Int, y_ = (x321002_2 ++ [t326]) := ⟨_, rfl⟩
                  replace H : (punchcutlaw10_Field.l1 k2 l0 x6_1 (wrap64 (x7_2 + 1)) a1_0 a1_1 a1_2 a1_3 a1_4 a1_5 a1_3 a1_4 y327) = some (r1, r2, r3) := by first | (rw [hy327]; with_reducible exact H) | (have H2_ := (Option.bind_some _ _).symm.trans H; rw [hy327]; with_reducible exact H2_) | (have H2_ := (Option.bind_some _ _).symm.trans H; with_reducible exact H2_) | with_reducible exact H | (rw [hy327]; exact H) | exact H
                  have Ny327 := Aside0.mk hy327
                  clear hy327
                  have H' := Aside0.mk H
                  clear H
                  have hnb22 := NB318_319.out
                  have hnc22 := NB319_318.out
                  have hnb23 := NB318_320.out
                  have hnc23 := NB320_318.out
                  have hcz24_0 : wr.cell? ⟨gb318, 0, none⟩ = some (.int .i64 a1_0) := (blk_cell BK318.out 0).trans rfl
                  have hcz24_1 : wr.cell? ⟨gb318, 1, none⟩ = some (.int .i64 a1_1) := (blk_cell BK318.out 1).trans rfl
                  have hcz24_2 : wr.cell? ⟨gb318, 2, none⟩ = some (.int .i64 a1_2) := (blk_cell BK318.out 2).trans rfl
                  have hcz24_3 : wr.cell? ⟨gb318, 3, none⟩ = some (.int .i64 a1_3) := (blk_cell BK318.out 3).trans rfl
                  have hcz24_4 : wr.cell? ⟨gb318, 4, none⟩ = some (.int .i64 a1_4) := (blk_cell BK318.out 4).trans rfl
                  have hcz24_5 : wr.cell? ⟨gb318, 5, none⟩ = some (.int .i64 a1_5) := (blk_cell BK318.out 5).trans rfl
                  have hfz24_0 := blk_frozen BK318.out 0
                  have hfz24_1 := blk_frozen BK318.out 1
                  have hfz24_2 := blk_frozen BK318.out 2
                  have hfz24_3 := blk_frozen BK318.out 3
                  have hfz24_4 := blk_frozen BK318.out 4
                  have hfz24_5 := blk_frozen BK318.out 5
                  try go_wp2_with (first | ((with_reducible refine gate_callee (f := 42) rfl ?_); refine goesL_ (some 30) rfl rfl Try.func42 (by kernel_rfl) rfl #[.agg #[.int .i64 a1_0, .int .i64 a1_1, .int .i64 a1_2, .int .i64 a1_3, .int .i64 a1_4, .int .i64 a1_5], .int .i64 x7_2, .int .i64 x6_1] rfl (by (try simp only [List.map_toArray, List.map_cons, List.map_nil]); first | done | rfl | (simp only [List.length_drop, List.length_take]; rfl)) ?_; (with_reducible refine (grid_Centre.calls a1_0 a1_1 a1_2 a1_3 a1_4 a1_5 x7_2 x6_1 t321 t322 _ A16.out).mono ?_); rintro e w25 ⟨rfl, hb⟩; refine ⟨_, rfl, ?_⟩; have n0_ := Aside0.mk (Kd.R_below (by (with_reducible repeat (first | apply Kd.R_alloc | apply Kd.R_drewN | apply Kd.R_drew)); exact HO_321002.out) hb); have n1_ := Aside0.mk (blk_below (g := gb318) (o := .cells #[.int .i64 a1_0, .int .i64 a1_1, .int .i64 a1_2, .int .i64 a1_3, .int .i64 a1_4, .int .i64 a1_5] 53 (0, 0)) (by (with_reducible repeat (first | refine blk_drewN ?_ _ | refine blk_drew ?_ | refine blk_alloc ?_ _)); exact BK318.out) hb); have n2_ := Aside0.mk (blk_below (g := gb319) (o := .cells #[.int .i64 0, .int .i64 0, .slice none 0 0] 57 (0, 0)) (by (with_reducible repeat (first | refine blk_drewN ?_ _ | refine blk_drew ?_ | refine blk_alloc ?_ _)); exact BK319.out) hb); have n3_ := Aside0.mk (blk_below (g := gb320) (o := .cells #[.int .i64 a1_3, .int .i64 a1_4, u321002] 57 (0, 0)) (by (with_reducible repeat (first | refine blk_drewN ?_ _ | refine blk_drew ?_ | refine blk_alloc ?_ _)); exact BK320.out) hb); have n4_ := Aside0.mk (below_step (by repeat (first | (with_reducible first | exact HB.out | apply below_alloc | apply pw_below_drewN | apply below_drew1 | refine below_set ?_ GE318.out | refine below_set ?_ GE319.out | refine below_set ?_ GE320.out) | exact HB.out)) hb); clear HO_321002; clear BK318; clear BK319; clear BK320; clear HB; have HO_321002 := n0_; have BK318 := n1_; have BK319 := n2_; have BK320 := n3_; have HB := n4_; clear n0_ n1_ n2_ n3_ n4_; (try clear hb); (try clear hb2); (try clear hk); (try clear hi)) | ((with_reducible refine gate_dst (N := 8) rfl ?_); refine box_event ?hg (N := 8) ?hd (cs := #[.int .i64 0, .int .i64 0]) (t := 32) ?hr ?_; (case hd => rfl); (case hg => rfl); (case hr => first | (go_simp; done) | (go_simp; rfl)); intro gb323 hg w26 hbox hb; have n0_ := Aside0.mk (Kd.R_below (by (with_reducible repeat (first | apply Kd.R_alloc | apply Kd.R_drewN | apply Kd.R_drew)); exact HO_321002.out) hb); have n1_ := Aside0.mk (blk_below (g := gb318) (o := .cells #[.int .i64 a1_0, .int .i64 a1_1, .int .i64 a1_2, .int .i64 a1_3, .int .i64 a1_4, .int .i64 a1_5] 53 (0, 0)) (by (with_reducible repeat (first | refine blk_drewN ?_ _ | refine blk_drew ?_ | refine blk_alloc ?_ _)); exact BK318.out) hb); have n2_ := Aside0.mk (blk_below (g := gb319) (o := .cells #[.int .i64 0, .int .i64 0, .slice none 0 0] 57 (0, 0)) (by (with_reducible repeat (first | refine blk_drewN ?_ _ | refine blk_drew ?_ | refine blk_alloc ?_ _)); exact BK319.out) hb); have n3_ := Aside0.mk (blk_below (g := gb320) (o := .cells #[.int .i64 a1_3, .int .i64 a1_4, u321002] 57 (0, 0)) (by (with_reducible repeat (first | refine blk_drewN ?_ _ | refine blk_drew ?_ | refine blk_alloc ?_ _)); exact BK320.out) hb); have n4_ := Aside0.mk (below_step (by repeat (first | (with_reducible first | exact HB.out | apply below_alloc | apply pw_below_drewN | apply below_drew1 | refine below_set ?_ GE318.out | refine below_set ?_ GE319.out | refine below_set ?_ GE320.out) | exact HB.out)) hb); have n5_ := Aside0.mk (hbox); have n6_ := Aside0.mk ((by rw [hg]; exact (below_size (by repeat (first | (with_reducible first | exact HB.out | apply below_alloc | apply pw_below_drewN | apply below_drew1 | refine below_set ?_ GE318.out | refine below_set ?_ GE319.out | refine below_set ?_ GE320.out) | exact HB.out))) : w.heap.size ≤ gb323)); have n7_ := Aside0.mk ((by rw [hg]; exact (below_size (by repeat (first | (with_reducible first | exact HB.out | apply below_alloc | apply pw_below_drewN | apply below_drew1 | refine below_set ?_ GE318.out | refine below_set ?_ GE319.out | refine below_set ?_ GE320.out) | exact HB.out))) : w.heap.size ≤ gb323)); have n8_ := Aside0.mk ((by rw [hg]; exact Nat.ne_of_lt (blk_lt (g := gb318) (o := .cells #[.int .i64 a1_0, .int .i64 a1_1, .int .i64 a1_2, .int .i64 a1_3, .int .i64 a1_4, .int .i64 a1_5] 53 (0, 0)) (by (with_reducible repeat (first | refine blk_drewN ?_ _ | refine blk_drew ?_ | refine blk_alloc ?_ _)); exact BK318.out)) : gb318 ≠ gb323)); have n9_ := Aside0.mk ((by rw [hg]; exact Nat.ne_of_gt (blk_lt (g := gb318) (o := .cells #[.int .i64 a1_0, .int .i64 a1_1, .int .i64 a1_2, .int .i64 a1_3, .int .i64 a1_4, .int .i64 a1_5] 53 (0, 0)) (by (with_reducible repeat (first | refine blk_drewN ?_ _ | refine blk_drew ?_ | refine blk_alloc ?_ _)); exact BK318.out)) : gb323 ≠ gb318)); have n10_ := Aside0.mk ((by rw [hg]; exact Nat.ne_of_lt (blk_lt (g := gb319) (o := .cells #[.int .i64 0, .int .i64 0, .slice none 0 0] 57 (0, 0)) (by (with_reducible repeat (first | refine blk_drewN ?_ _ | refine blk_drew ?_ | refine blk_alloc ?_ _)); exact BK319.out)) : gb319 ≠ gb323)); have n11_ := Aside0.mk ((by rw [hg]; exact Nat.ne_of_gt (blk_lt (g := gb319) (o := .cells #[.int .i64 0, .int .i64 0, .slice none 0 0] 57 (0, 0)) (by (with_reducible repeat (first | refine blk_drewN ?_ _ | refine blk_drew ?_ | refine blk_alloc ?_ _)); exact BK319.out)) : gb323 ≠ gb319)); have n12_ := Aside0.mk ((by rw [hg]; exact Nat.ne_of_lt (blk_lt (g := gb320) (o := .cells #[.int .i64 a1_3, .int .i64 a1_4, u321002] 57 (0, 0)) (by (with_reducible repeat (first | refine blk_drewN ?_ _ | refine blk_drew ?_ | refine blk_alloc ?_ _)); exact BK320.out)) : gb320 ≠ gb323)); have n13_ := Aside0.mk ((by rw [hg]; exact Nat.ne_of_gt (blk_lt (g := gb320) (o := .cells #[.int .i64 a1_3, .int .i64 a1_4, u321002] 57 (0, 0)) (by (with_reducible repeat (first | refine blk_drewN ?_ _ | refine blk_drew ?_ | refine blk_alloc ?_ _)); exact BK320.out)) : gb323 ≠ gb320)); clear HO_321002; clear BK318; clear BK319; clear BK320; clear HB; have HO_321002 := n0_; have BK318 := n1_; have BK319 := n2_; have BK320 := n3_; have HB := n4_; have BK323 := n5_; have GW323 := n6_; have GE323 := n7_; have NB318_323 := n8_; have NB323_318 := n9_; have NB319_323 := n10_; have NB323_319 := n11_; have NB320_323 := n12_; have NB323_320 := n13_; clear n0_ n1_ n2_ n3_ n4_ n5_ n6_ n7_ n8_ n9_ n10_ n11_ n12_ n13_; clear hb hbox hg; have hnb27 := NB323_318.out; have hnc27 := NB318_323.out; have hnb28 := NB323_319.out; have hnc28 := NB319_323.out; have hnb29 := NB323_320.out; have hnc29 := NB320_323.out; have hcz30_0 : w26.cell? ⟨gb323, 0, none⟩ = some (.int .i64 0) := (blk_cell BK323.out 0).trans rfl; have hcz30_1 : w26.cell? ⟨gb323, 1, none⟩ = some (.int .i64 0) := (blk_cell BK323.out 1).trans rfl; have hfz30_0 := blk_frozen BK323.out 0; have hfz30_1 := blk_frozen BK323.out 1))
                  have n0_ : Aside0 (Kd.R (Kd.int .u8) 5 ((w26.setCell ⟨gb323, 0, none⟩ (.int .i64 t321)).setCell ⟨gb323, 1, none⟩ (.int .i64 t322)) w.heap.size (fun _ => True) u321002 x321002_2) := ⟨by (with_reducible repeat (first | apply Kd.R_alloc | apply Kd.R_drewN | apply Kd.R_drew)); exact Kd.R_mono (Kd.R_far (p := ⟨gb323, 1, none⟩) (Kd.R_far (p := ⟨gb323, 0, none⟩) (Kd.R_types HO_321002.out BK323.out (by decide)) (fun _ hk => hk.2) (.int .i64 t321)) (fun _ hk => hk.2) (.int .i64 t322)) (fun _ hk => trivial)⟩
                  have n1_ : Aside0 (((w26.setCell ⟨gb323, 0, none⟩ (.int .i64 t321)).setCell ⟨gb323, 1, none⟩ (.int .i64 t322)).heap[gb318]? = some (.cells #[.int .i64 a1_0, .int .i64 a1_1, .int .i64 a1_2, .int .i64 a1_3, .int .i64 a1_4, .int .i64 a1_5] 53 (0, 0))) := ⟨by (with_reducible repeat (first | refine blk_drewN ?_ _ | refine blk_drew ?_ | refine blk_alloc ?_ _)); refine blk_far ?_ NB318_323.out _; (with_reducible repeat (first | refine blk_drewN ?_ _ | refine blk_drew ?_ | refine blk_alloc ?_ _)); refine blk_far ?_ NB318_323.out _; (with_reducible repeat (first | refine blk_drewN ?_ _ | refine blk_drew ?_ | refine blk_alloc ?_ _)); exact BK318.out⟩
                  have n2_ : Aside0 (((w26.setCell ⟨gb323, 0, none⟩ (.int .i64 t321)).setCell ⟨gb323, 1, none⟩ (.int .i64 t322)).heap[gb319]? = some (.cells #[.int .i64 0, .int .i64 0, .slice none 0 0] 57 (0, 0))) := ⟨by (with_reducible repeat (first | refine blk_drewN ?_ _ | refine blk_drew ?_ | refine blk_alloc ?_ _)); refine blk_far ?_ NB319_323.out _; (with_reducible repeat (first | refine blk_drewN ?_ _ | refine blk_drew ?_ | refine blk_alloc ?_ _)); refine blk_far ?_ NB319_323.out _; (with_reducible repeat (first | refine blk_drewN ?_ _ | refine blk_drew ?_ | refine blk_alloc ?_ _)); exact BK319.out⟩
                  have n3_ : Aside0 (((w26.setCell ⟨gb323, 0, none⟩ (.int .i64 t321)).setCell ⟨gb323, 1, none⟩ (.int .i64 t322)).heap[gb320]? = some (.cells #[.int .i64 a1_3, .int .i64 a1_4, u321002] 57 (0, 0))) := ⟨by (with_reducible repeat (first | refine blk_drewN ?_ _ | refine blk_drew ?_ | refine blk_alloc ?_ _)); refine blk_far ?_ NB320_323.out _; (with_reducible repeat (first | refine blk_drewN ?_ _ | refine blk_drew ?_ | refine blk_alloc ?_ _)); refine blk_far ?_ NB320_323.out _; (with_reducible repeat (first | refine blk_drewN ?_ _ | refine blk_drew ?_ | refine blk_alloc ?_ _)); exact BK320.out⟩
                  have n4_ : Aside0 (((w26.setCell ⟨gb323, 0, none⟩ (.int .i64 t321)).setCell ⟨gb323, 1, none⟩ (.int .i64 t322)).heap[gb323]? = some (.cells #[.int .i64 t321, .int .i64 t322] 32 (0, 0))) := ⟨by (with_reducible repeat (first | refine blk_drewN ?_ _ | refine blk_drew ?_ | refine blk_alloc ?_ _)); refine blk_put (cs := #[.int .i64 t321, .int .i64 0]) ?_ 1 _ rfl; (with_reducible repeat (first | refine blk_drewN ?_ _ | refine blk_drew ?_ | refine blk_alloc ?_ _)); refine blk_put (cs := #[.int .i64 0, .int .i64 0]) ?_ 0 _ rfl; (with_reducible repeat (first | refine blk_drewN ?_ _ | refine blk_drew ?_ | refine blk_alloc ?_ _)); exact BK323.out⟩
                  have n5_ : Aside0 (Below w.heap.size w ((w26.setCell ⟨gb323, 0, none⟩ (.int .i64 t321)).setCell ⟨gb323, 1, none⟩ (.int .i64 t322))) := ⟨by repeat (first | (with_reducible first | exact HB.out | apply below_alloc | apply pw_below_drewN | apply below_drew1 | refine below_set ?_ GE318.out | refine below_set ?_ GE319.out | refine below_set ?_ GE320.out | refine below_set ?_ GE323.out) | exact HB.out)⟩
                  (try clear HO_321002)
                  (try clear BK318)
                  (try clear BK319)
                  (try clear BK320)
                  (try clear BK323)
                  (try clear HB)
                  generalize ((w26.setCell ⟨gb323, 0, none⟩ (.int .i64 t321)).setCell ⟨gb323, 1, none⟩ (.int .i64 t322)) = w31 at n0_ n1_ n2_ n3_ n4_ n5_ ⊢
                  have HO_321002 := n0_
                  have BK318 := n1_
                  have BK319 := n2_
                  have BK320 := n3_
                  have BK323 := n4_
                  have HB := n5_
                  clear n0_ n1_ n2_ n3_ n4_ n5_
                  have n0_ := Aside0.mk (Kd.R_drew HO_321002.out)
                  have n1_ := Aside0.mk (blk_drew BK318.out)
                  have n2_ := Aside0.mk (blk_drew BK319.out)
                  have n3_ := Aside0.mk (blk_drew BK320.out)
                  have n4_ := Aside0.mk (blk_drew BK323.out)
                  have n5_ := Aside0.mk (below_drew1 HB.out)
                  clear HO_321002
                  clear BK318
                  clear BK319
                  clear BK320
                  clear BK323
                  clear HB
                  have HO_321002 := n0_
                  have BK318 := n1_
                  have BK319 := n2_
                  have BK320 := n3_
                  have BK323 := n4_
                  have HB := n5_
                  clear n0_ n1_ n2_ n3_ n4_ n5_
                  refine start_ (n := 9) (S := fun w' => w'.cell? ⟨gb318, 0, none⟩ = some (.int .i64 a1_0) ∧ w'.cell? ⟨gb318, 1, none⟩ = some (.int .i64 a1_1) ∧ w'.cell? ⟨gb318, 2, none⟩ = some (.int .i64 a1_2) ∧ w'.cell? ⟨gb318, 3, none⟩ = some (.int .i64 a1_3) ∧ w'.cell? ⟨gb318, 4, none⟩ = some (.int .i64 a1_4) ∧ w'.cell? ⟨gb318, 5, none⟩ = some (.int .i64 a1_5) ∧ w'.cell? ⟨gb323, 0, none⟩ = some (.int .i64 t321) ∧ w'.cell? ⟨gb323, 1, none⟩ = some (.int .i64 t322)) (ds := []) #[false, false, false, false, false, false, false, false, false] (by kernel_rfl) rfl rfl ⟨(blk_cell BK318.out 0).trans rfl, (blk_cell BK318.out 1).trans rfl, (blk_cell BK318.out 2).trans rfl, (blk_cell BK318.out 3).trans rfl, (blk_cell BK318.out 4).trans rfl, (blk_cell BK318.out 5).trans rfl, (blk_cell BK323.out 0).trans rfl, (blk_cell BK323.out 1).trans rfl⟩ (fun hHeld => ?_); refine with_tabW punchcutlaw10_Field.tab11 punchcutlaw10_Field.bits11 (fun HT_ HW_ => ?_)
                  generalize w31.drew = w32 at HO_321002 BK318 BK319 BK320 BK323 HB hHeld ⊢
                  refine pure_ (i := 1) (N := some 35) (v := ?_) (a' := ?_) #[false, true, false, false, false, false, false, false, false] rfl rfl (any_of HT_.out (by kernel_rfl)) (fun _ _ _ h => h) (Or.inl ⟨by rfl, ?_⟩) ?_ ?_
                  rotate_left
                  · intro w'
                    go_simp
                    with_reducible rfl
                  rotate_left
                  · simp only [Act.put, List.setIfInBounds_toArray, List.set_cons_zero, List.set_cons_succ, i64_w, i32_w]
                    rfl
                  refine pure_ (i := 4) (N := some 38) (v := ?_) (a' := ?_) #[false, true, false, false, true, false, false, false, false] rfl rfl (any_of HT_.out (by kernel_rfl)) (fun _ _ _ h => h) (Or.inl ⟨by rfl, ?_⟩) ?_ ?_
                  rotate_left
                  · intro w'
                    go_simp
                    with_reducible rfl
                  rotate_left
                  · simp only [Act.put, List.setIfInBounds_toArray, List.set_cons_zero, List.set_cons_succ, i64_w, i32_w]
                    rfl
                  refine take_ (i := 0) (N := some 34) (v := ?_) (a' := ?_) #[true, true, false, false, true, false, false, false, false] rfl rfl (take_ofW HT_.out HW_.out (by kernel_rfl)) (fun _ _ _ h => h) (Or.inl ⟨by rfl, ?_⟩) hHeld ?_ ?_
                  rotate_left
                  · rintro w' ⟨s0, s1, s2, s3, s4, s5, s6, s7⟩
                    go_simp
                    with_reducible rfl
                  rotate_left
                  · simp only [Act.put, List.setIfInBounds_toArray, List.set_cons_zero, List.set_cons_succ, i64_w, i32_w]
                    rfl
                  refine take_ (i := 2) (N := some 36) (v := ?_) (a' := ?_) #[true, true, true, false, true, false, false, false, false] rfl rfl (take_ofW HT_.out HW_.out (by kernel_rfl)) (fun _ _ _ h => h) (Or.inl ⟨by rfl, ?_⟩) hHeld ?_ ?_
                  rotate_left
                  · rintro w' ⟨s0, s1, s2, s3, s4, s5, s6, s7⟩
                    go_simp
                    with_reducible rfl
                  rotate_left
                  · simp only [Act.put, List.setIfInBounds_toArray, List.set_cons_zero, List.set_cons_succ, i64_w, i32_w]
                    rfl
                  refine take_ (i := 5) (N := some 39) (v := ?_) (a' := ?_) #[true, true, true, false, true, true, false, false, false] rfl rfl (take_ofW HT_.out HW_.out (by kernel_rfl)) (fun _ _ _ h => h) (Or.inl ⟨by rfl, ?_⟩) hHeld ?_ ?_
                  rotate_left
                  · rintro w' ⟨s0, s1, s2, s3, s4, s5, s6, s7⟩
                    go_simp
                    with_reducible rfl
                  rotate_left
                  · simp only [Act.put, List.setIfInBounds_toArray, List.set_cons_zero, List.set_cons_succ, i64_w, i32_w]
                    rfl
                  refine one_ (i := 3) (N := some 37) #[true, true, true, true, true, true, false, false, false] rfl rfl (one_of HT_.out (by kernel_rfl)) (by decide) (fun K hK => ?_)
                  refine goes_ Try.func51 (by kernel_rfl) rfl #[.slice A0 l0.length c0, .agg #[.int .i64 t321, .int .i64 t322]] (by rfl) rfl rfl (by (try simp only [List.map_toArray, List.map_cons, List.map_nil]); first | done | rfl | (simp only [List.length_drop, List.length_take]; rfl)) ?_
                  with_reducible refine (dist_Sign.calls k2 _ _ l0 t321 t322 t324 _ ?side1 ?side2 A18.out).mono ?_
                  (case side1 => repeat (first | exact (Kd.C_below HR0.out HB.out) | (with_reducible refine Kd.C_alloc ?_ _) | (with_reducible refine Kd.C_drewN ?_ _) | (with_reducible refine Kd.C_drew ?_)))
                  (case side2 => exact HC0.out)
                  rintro e w33 ⟨rfl, hb⟩
                  refine ⟨_, rfl, ?_⟩
                  have n0_ := Aside0.mk (Kd.R_below (by (with_reducible repeat (first | apply Kd.R_alloc | apply Kd.R_drewN | apply Kd.R_drew)); exact HO_321002.out) hb)
                  have n1_ := Aside0.mk (blk_below (g := gb318) (o := .cells #[.int .i64 a1_0, .int .i64 a1_1, .int .i64 a1_2, .int .i64 a1_3, .int .i64 a1_4, .int .i64 a1_5] 53 (0, 0)) (by (with_reducible repeat (first | refine blk_drewN ?_ _ | refine blk_drew ?_ | refine blk_alloc ?_ _)); exact BK318.out) hb)
                  have n2_ := Aside0.mk (blk_below (g := gb319) (o := .cells #[.int .i64 0, .int .i64 0, .slice none 0 0] 57 (0, 0)) (by (with_reducible repeat (first | refine blk_drewN ?_ _ | refine blk_drew ?_ | refine blk_alloc ?_ _)); exact BK319.out) hb)
                  have n3_ := Aside0.mk (blk_below (g := gb320) (o := .cells #[.int .i64 a1_3, .int .i64 a1_4, u321002] 57 (0, 0)) (by (with_reducible repeat (first | refine blk_drewN ?_ _ | refine blk_drew ?_ | refine blk_alloc ?_ _)); exact BK320.out) hb)
                  have n4_ := Aside0.mk (blk_below (g := gb323) (o := .cells #[.int .i64 t321, .int .i64 t322] 32 (0, 0)) (by (with_reducible repeat (first | refine blk_drewN ?_ _ | refine blk_drew ?_ | refine blk_alloc ?_ _)); exact BK323.out) hb)
                  have n5_ := Aside0.mk (below_step (by repeat (first | (with_reducible first | exact HB.out | apply below_alloc | apply pw_below_drewN | apply below_drew1 | refine below_set ?_ GE318.out | refine below_set ?_ GE319.out | refine below_set ?_ GE320.out | refine below_set ?_ GE323.out) | exact HB.out)) hb)
                  clear HO_321002
                  clear BK318
                  clear BK319
                  clear BK320
                  clear BK323
                  clear HB
                  have HO_321002 := n0_
                  have BK318 := n1_
                  have BK319 := n2_
                  have BK320 := n3_
                  have BK323 := n4_
                  have HB := n5_
                  clear n0_ n1_ n2_ n3_ n4_ n5_
                  (try clear hb)
                  (try clear hb2)
                  (try clear hk)
                  (try clear hi)
                  refine hK.out _ _ ⟨(blk_cell BK318.out 0).trans rfl, (blk_cell BK318.out 1).trans rfl, (blk_cell BK318.out 2).trans rfl, (blk_cell BK318.out 3).trans rfl, (blk_cell BK318.out 4).trans rfl, (blk_cell BK318.out 5).trans rfl, (blk_cell BK323.out 0).trans rfl, (blk_cell BK323.out 1).trans rfl⟩ (fun hHeld => ?_)
                  clear hK K
                  refine norm_ (a' := ?_) ?_ ?_
                  rotate_left
                  · show Act.put _ (some 37) _ = _
                    simp only [Act.put, List.setIfInBounds_toArray, List.set_cons_zero, List.set_cons_succ, i64_w, i32_w]
                    rfl
                  refine one_ (i := 6) (N := some 40) #[true, true, true, true, true, true, true, false, false] rfl rfl (one_of HT_.out (by kernel_rfl)) (by decide) (fun K hK => ?_)
                  refine goes_ Try.func26 (by kernel_rfl) rfl #[.slice A0 l0.length c0, .agg #[.int .i64 t321, .int .i64 t322]] (by rfl) rfl rfl (by (try simp only [List.map_toArray, List.map_cons, List.map_nil]); first | done | rfl | (simp only [List.length_drop, List.length_take]; rfl)) ?_
                  with_reducible refine (dist_Eight.calls k2 _ _ l0 t321 t322 t325 _ ?side1 ?side2 A19.out).mono ?_
                  (case side1 => repeat (first | exact (Kd.C_below HR0.out HB.out) | (with_reducible refine Kd.C_alloc ?_ _) | (with_reducible refine Kd.C_drewN ?_ _) | (with_reducible refine Kd.C_drew ?_)))
                  (case side2 => exact HC0.out)
                  rintro e w34 ⟨rfl, hb⟩
                  refine ⟨_, rfl, ?_⟩
                  have n0_ := Aside0.mk (Kd.R_below (by (with_reducible repeat (first | apply Kd.R_alloc | apply Kd.R_drewN | apply Kd.R_drew)); exact HO_321002.out) hb)
                  have n1_ := Aside0.mk (blk_below (g := gb318) (o := .cells #[.int .i64 a1_0, .int .i64 a1_1, .int .i64 a1_2, .int .i64 a1_3, .int .i64 a1_4, .int .i64 a1_5] 53 (0, 0)) (by (with_reducible repeat (first | refine blk_drewN ?_ _ | refine blk_drew ?_ | refine blk_alloc ?_ _)); exact BK318.out) hb)
                  have n2_ := Aside0.mk (blk_below (g := gb319) (o := .cells #[.int .i64 0, .int .i64 0, .slice none 0 0] 57 (0, 0)) (by (with_reducible repeat (first | refine blk_drewN ?_ _ | refine blk_drew ?_ | refine blk_alloc ?_ _)); exact BK319.out) hb)
                  have n3_ := Aside0.mk (blk_below (g := gb320) (o := .cells #[.int .i64 a1_3, .int .i64 a1_4, u321002] 57 (0, 0)) (by (with_reducible repeat (first | refine blk_drewN ?_ _ | refine blk_drew ?_ | refine blk_alloc ?_ _)); exact BK320.out) hb)
                  have n4_ := Aside0.mk (blk_below (g := gb323) (o := .cells #[.int .i64 t321, .int .i64 t322] 32 (0, 0)) (by (with_reducible repeat (first | refine blk_drewN ?_ _ | refine blk_drew ?_ | refine blk_alloc ?_ _)); exact BK323.out) hb)
                  have n5_ := Aside0.mk (below_step (by repeat (first | (with_reducible first | exact HB.out | apply below_alloc | apply pw_below_drewN | apply below_drew1 | refine below_set ?_ GE318.out | refine below_set ?_ GE319.out | refine below_set ?_ GE320.out | refine below_set ?_ GE323.out) | exact HB.out)) hb)
                  clear HO_321002
                  clear BK318
                  clear BK319
                  clear BK320
                  clear BK323
                  clear HB
                  have HO_321002 := n0_
                  have BK318 := n1_
                  have BK319 := n2_
                  have BK320 := n3_
                  have BK323 := n4_
                  have HB := n5_
                  clear n0_ n1_ n2_ n3_ n4_ n5_
                  (try clear hb)
                  (try clear hb2)
                  (try clear hk)
                  (try clear hi)
                  refine hK.out _ _ ⟨(blk_cell BK318.out 0).trans rfl, (blk_cell BK318.out 1).trans rfl, (blk_cell BK318.out 2).trans rfl, (blk_cell BK318.out 3).trans rfl, (blk_cell BK318.out 4).trans rfl, (blk_cell BK318.out 5).trans rfl, (blk_cell BK323.out 0).trans rfl, (blk_cell BK323.out 1).trans rfl⟩ (fun hHeld => ?_)
                  clear hK K
                  refine norm_ (a' := ?_) ?_ ?_
                  rotate_left
                  · show Act.put _ (some 40) _ = _
                    simp only [Act.put, List.setIfInBounds_toArray, List.set_cons_zero, List.set_cons_succ, i64_w, i32_w]
                    rfl
                  refine one_ (i := 7) (N := some 41) #[true, true, true, true, true, true, true, true, false] rfl rfl (one_of HT_.out (by kernel_rfl)) (by decide) (fun K hK => ?_)
                  refine goes_ Try.func50 (by kernel_rfl) rfl #[.agg #[.int .i64 a1_0, .int .i64 a1_1, .int .i64 a1_2, .int .i64 a1_3, .int .i64 a1_4, .int .i64 a1_5], .int .i64 t324, .int .i64 t325] (by rfl) rfl rfl (by (try simp only [List.map_toArray, List.map_cons, List.map_nil]); first | done | rfl | (simp only [List.length_drop, List.length_take]; rfl)) ?_
                  with_reducible refine (grid_Code.calls a1_0 a1_1 a1_2 a1_3 a1_4 a1_5 t324 t325 t326 _ A20.out).mono ?_
                  rintro e w35 ⟨rfl, hb⟩
                  refine ⟨_, rfl, ?_⟩
                  have n0_ := Aside0.mk (Kd.R_below (by (with_reducible repeat (first | apply Kd.R_alloc | apply Kd.R_drewN | apply Kd.R_drew)); exact HO_321002.out) hb)
                  have n1_ := Aside0.mk (blk_below (g := gb318) (o := .cells #[.int .i64 a1_0, .int .i64 a1_1, .int .i64 a1_2, .int .i64 a1_3, .int .i64 a1_4, .int .i64 a1_5] 53 (0, 0)) (by (with_reducible repeat (first | refine blk_drewN ?_ _ | refine blk_drew ?_ | refine blk_alloc ?_ _)); exact BK318.out) hb)
                  have n2_ := Aside0.mk (blk_below (g := gb319) (o := .cells #[.int .i64 0, .int .i64 0, .slice none 0 0] 57 (0, 0)) (by (with_reducible repeat (first | refine blk_drewN ?_ _ | refine blk_drew ?_ | refine blk_alloc ?_ _)); exact BK319.out) hb)
                  have n3_ := Aside0.mk (blk_below (g := gb320) (o := .cells #[.int .i64 a1_3, .int .i64 a1_4, u321002] 57 (0, 0)) (by (with_reducible repeat (first | refine blk_drewN ?_ _ | refine blk_drew ?_ | refine blk_alloc ?_ _)); exact BK320.out) hb)
                  have n4_ := Aside0.mk (blk_below (g := gb323) (o := .cells #[.int .i64 t321, .int .i64 t322] 32 (0, 0)) (by (with_reducible repeat (first | refine blk_drewN ?_ _ | refine blk_drew ?_ | refine blk_alloc ?_ _)); exact BK323.out) hb)
                  have n5_ := Aside0.mk (below_step (by repeat (first | (with_reducible first | exact HB.out | apply below_alloc | apply pw_below_drewN | apply below_drew1 | refine below_set ?_ GE318.out | refine below_set ?_ GE319.out | refine below_set ?_ GE320.out | refine below_set ?_ GE323.out) | exact HB.out)) hb)
                  clear HO_321002
                  clear BK318
                  clear BK319
                  clear BK320
                  clear BK323
                  clear HB
                  have HO_321002 := n0_
                  have BK318 := n1_
                  have BK319 := n2_
                  have BK320 := n3_
                  have BK323 := n4_
                  have HB := n5_
                  clear n0_ n1_ n2_ n3_ n4_ n5_
                  (try clear hb)
                  (try clear hb2)
                  (try clear hk)
                  (try clear hi)
                  refine hK.out _ _ ⟨(blk_cell BK318.out 0).trans rfl, (blk_cell BK318.out 1).trans rfl, (blk_cell BK318.out 2).trans rfl, (blk_cell BK318.out 3).trans rfl, (blk_cell BK318.out 4).trans rfl, (blk_cell BK318.out 5).trans rfl, (blk_cell BK323.out 0).trans rfl, (blk_cell BK323.out 1).trans rfl⟩ (fun hHeld => ?_)
                  clear hK K
                  refine norm_ (a' := ?_) ?_ ?_
                  rotate_left
                  · show Act.put _ (some 41) _ = _
                    simp only [Act.put, List.setIfInBounds_toArray, List.set_cons_zero, List.set_cons_succ, i64_w, i32_w]
                    rfl
                  refine pure_ (i := 8) (N := some 9) (v := ?_) (a' := ?_) #[true, true, true, true, true, true, true, true, true] rfl rfl (any_of HT_.out (by kernel_rfl)) (fun _ _ _ h => h) (Or.inl ⟨by rfl, ?_⟩) ?_ ?_
                  rotate_left
                  · intro w'
                    go_simp
                    with_reducible rfl
                  rotate_left
                  · simp only [Act.put, List.setIfInBounds_toArray, List.set_cons_zero, List.set_cons_succ, i64_w, i32_w]
                    rfl
                  refine done_ (done_of HT_.out (by kernel_rfl)) ?_
                  have hnb36 := NB320_319.out
                  have hnc36 := NB319_320.out
                  have hcz37_0 : w35.cell? ⟨gb320, 0, none⟩ = some (.int .i64 a1_3) := (blk_cell BK320.out 0).trans rfl
                  have hcz37_1 : w35.cell? ⟨gb320, 1, none⟩ = some (.int .i64 a1_4) := (blk_cell BK320.out 1).trans rfl
                  have hcz37_2 : w35.cell? ⟨gb320, 2, none⟩ = some (u321002) := (blk_cell BK320.out 2).trans rfl
                  have hfz37_0 := blk_frozen BK320.out 0
                  have hfz37_1 := blk_frozen BK320.out 1
                  have hfz37_2 := blk_frozen BK320.out 2
                  try go_wp2_with (first | ((with_reducible refine gate_builtin (b := .append) (xs := #[.tmp 43, .tmp 45]) rfl ?_); at_builtin; refine Kd.R_append (Kd.int .u8) (w0 := w) w.heap.size rfl (.tmp 43) (.tmp 45) 55 5 (.int .u8 0) 1 rfl Try.underlying55 info5 rfl (by decide) (by omega) u321002 x321002_2 t326 [.int .u8 t326] (fun _ => True) (fun _ => False) rfl rfl ?aP (fun _ hk => hk.elim) ?aF ?aO ?aB ?aS ?aL ?_; (case aP => exact rfl); (case aB => exact (by repeat (first | (with_reducible first | exact HB.out | apply below_alloc | apply pw_below_drewN | apply below_drew1 | refine below_set ?_ GE318.out | refine below_set ?_ GE319.out | refine below_set ?_ GE320.out | refine below_set ?_ GE323.out) | exact HB.out))); (case aF => exact (fun _ _ => trivial)); (case aO => exact (by (with_reducible repeat (first | apply Kd.R_alloc | apply Kd.R_drewN | apply Kd.R_drew)); exact HO_321002.out)); (case aS => exact (below_size (by repeat (first | (with_reducible first | exact HB.out | apply below_alloc | apply pw_below_drewN | apply below_drew1 | refine below_set ?_ GE318.out | refine below_set ?_ GE319.out | refine below_set ?_ GE320.out | refine below_set ?_ GE323.out) | exact HB.out)))); (case aL => have := LMc21.out; omega); intro v328 w38 ho hb hg hat; rw [← Ny327.out] at ho; have n0_ := Aside0.mk (blk_grown (g := gb318) (o := .cells #[.int .i64 a1_0, .int .i64 a1_1, .int .i64 a1_2, .int .i64 a1_3, .int .i64 a1_4, .int .i64 a1_5] 53 (0, 0)) (by (with_reducible repeat (first | refine blk_drewN ?_ _ | refine blk_drew ?_ | refine blk_alloc ?_ _)); exact BK318.out) hg (Kd.R_ne HO_321002.out BK318.out (by decide))); have n1_ := Aside0.mk (blk_grown (g := gb319) (o := .cells #[.int .i64 0, .int .i64 0, .slice none 0 0] 57 (0, 0)) (by (with_reducible repeat (first | refine blk_drewN ?_ _ | refine blk_drew ?_ | refine blk_alloc ?_ _)); exact BK319.out) hg (Kd.R_ne HO_321002.out BK319.out (by decide))); have n2_ := Aside0.mk (blk_grown (g := gb320) (o := .cells #[.int .i64 a1_3, .int .i64 a1_4, u321002] 57 (0, 0)) (by (with_reducible repeat (first | refine blk_drewN ?_ _ | refine blk_drew ?_ | refine blk_alloc ?_ _)); exact BK320.out) hg (Kd.R_ne HO_321002.out BK320.out (by decide))); have n3_ := Aside0.mk (blk_grown (g := gb323) (o := .cells #[.int .i64 t321, .int .i64 t322] 32 (0, 0)) (by (with_reducible repeat (first | refine blk_drewN ?_ _ | refine blk_drew ?_ | refine blk_alloc ?_ _)); exact BK323.out) hg (Kd.R_ne HO_321002.out BK323.out (by decide))); have n4_ := Aside0.mk (hb); have n5_ := Aside0.mk (ho); clear BK318; clear BK319; clear BK320; clear BK323; clear HB; clear HO_321002; have BK318 := n0_; have BK319 := n1_; have BK320 := n2_; have BK323 := n3_; have HB := n4_; have HO329 := n5_; clear n0_ n1_ n2_ n3_ n4_ n5_; clear ho hb hg hat; obtain ⟨Ao39, co39, eo39⟩ := Kd.R_slice HO329.out; subst eo39; have hcz40_0 : w38.cell? ⟨gb320, 0, none⟩ = some (.int .i64 a1_3) := (blk_cell BK320.out 0).trans rfl; have hcz40_1 : w38.cell? ⟨gb320, 1, none⟩ = some (.int .i64 a1_4) := (blk_cell BK320.out 1).trans rfl; have hcz40_2 : w38.cell? ⟨gb320, 2, none⟩ = some (u321002) := (blk_cell BK320.out 2).trans rfl; have hfz40_0 := blk_frozen BK320.out 0; have hfz40_1 := blk_frozen BK320.out 1; have hfz40_2 := blk_frozen BK320.out 2))
                  go_roundg k2
                  case measure => have := HK1.out; have := HK2.out; omega
                  case rel => exact ⟨(wrap64 (x7_2 + 1)), (y327), (.slice Ao39 y327.length co39), (by first | rfl | (simp; done) | (simp [*]; done)), H', ⟨by have := HK1.out; have := HK2.out; omega⟩, ⟨by (with_reducible repeat (first | apply Kd.R_alloc | apply Kd.R_drewN | apply Kd.R_drew)); exact Kd.R_mono (Kd.R_far (p := ⟨gb320, 2, none⟩) (Kd.R_types HO329.out BK320.out (by decide)) (fun _ hk => hk.2) (.slice Ao39 y327.length co39)) (fun _ hk => trivial)⟩, ⟨by (with_reducible repeat (first | refine blk_drewN ?_ _ | refine blk_drew ?_ | refine blk_alloc ?_ _)); refine blk_far ?_ NB318_320.out _; (with_reducible repeat (first | refine blk_drewN ?_ _ | refine blk_drew ?_ | refine blk_alloc ?_ _)); exact BK318.out⟩, ⟨by (with_reducible repeat (first | refine blk_drewN ?_ _ | refine blk_drew ?_ | refine blk_alloc ?_ _)); refine blk_far ?_ NB319_320.out _; (with_reducible repeat (first | refine blk_drewN ?_ _ | refine blk_drew ?_ | refine blk_alloc ?_ _)); exact BK319.out⟩, ⟨by (with_reducible repeat (first | refine blk_drewN ?_ _ | refine blk_drew ?_ | refine blk_alloc ?_ _)); refine blk_put (cs := #[.int .i64 a1_3, .int .i64 a1_4, u321002]) ?_ 2 _ rfl; (with_reducible repeat (first | refine blk_drewN ?_ _ | refine blk_drew ?_ | refine blk_alloc ?_ _)); exact BK320.out⟩, ⟨by repeat (first | (with_reducible first | exact HB.out | apply below_alloc | apply pw_below_drewN | apply below_drew1 | refine below_set ?_ GE318.out | refine below_set ?_ GE319.out | refine below_set ?_ GE320.out | refine below_set ?_ GE323.out) | exact HB.out)⟩⟩
                · rw [if_neg c21] at H
                  exact absurd H (by simp)
              · rw [if_neg c17] at H
                have c17b0 : decide (0 < (l0.length : Int)) = false := decide_eq_false c17
                have c17b1 : decide (0 < l0.length) = false := decide_eq_false (by omega)
                clear c17
                by_cases c41 : x321002_2.length < 140737488355328
                · rw [if_pos c41] at H
                  have LMc41 := Aside0.mk c41
                  clear c41
                  obtain ⟨y330, hy330⟩ : ∃ y_ : List Int, y_ = (x321002_2 ++ [1]) := ⟨_, rfl⟩
                  replace H : (punchcutlaw10_Field.l1 k2 l0 x6_1 (wrap64 (x7_2 + 1)) a1_0 a1_1 a1_2 a1_3 a1_4 a1_5 a1_3 a1_4 y330) = some (r1, r2, r3) := by first | (rw [hy330]; with_reducible exact H) | (have H2_ := (Option.bind_some _ _).symm.trans H; rw [hy330]; with_reducible exact H2_) | (have H2_ := (Option.bind_some _ _).symm.trans H; with_reducible exact H2_) | with_reducible exact H | (rw [hy330]; exact H) | exact H
                  have Ny330 := Aside0.mk hy330
                  clear hy330
                  have H' := Aside0.mk H
                  clear H
                  have hnb42 := NB318_319.out
                  have hnc42 := NB319_318.out
                  have hnb43 := NB318_320.out
                  have hnc43 := NB320_318.out
                  have hcz44_0 : wr.cell? ⟨gb318, 0, none⟩ = some (.int .i64 a1_0) := (blk_cell BK318.out 0).trans rfl
                  have hcz44_1 : wr.cell? ⟨gb318, 1, none⟩ = some (.int .i64 a1_1) := (blk_cell BK318.out 1).trans rfl
                  have hcz44_2 : wr.cell? ⟨gb318, 2, none⟩ = some (.int .i64 a1_2) := (blk_cell BK318.out 2).trans rfl
                  have hcz44_3 : wr.cell? ⟨gb318, 3, none⟩ = some (.int .i64 a1_3) := (blk_cell BK318.out 3).trans rfl
                  have hcz44_4 : wr.cell? ⟨gb318, 4, none⟩ = some (.int .i64 a1_4) := (blk_cell BK318.out 4).trans rfl
                  have hcz44_5 : wr.cell? ⟨gb318, 5, none⟩ = some (.int .i64 a1_5) := (blk_cell BK318.out 5).trans rfl
                  have hfz44_0 := blk_frozen BK318.out 0
                  have hfz44_1 := blk_frozen BK318.out 1
                  have hfz44_2 := blk_frozen BK318.out 2
                  have hfz44_3 := blk_frozen BK318.out 3
                  have hfz44_4 := blk_frozen BK318.out 4
                  have hfz44_5 := blk_frozen BK318.out 5
                  go_wp2_with (first | ((with_reducible refine gate_callee (f := 42) rfl ?_); refine goesL_ (some 30) rfl rfl Try.func42 (by kernel_rfl) rfl #[.agg #[.int .i64 a1_0, .int .i64 a1_1, .int .i64 a1_2, .int .i64 a1_3, .int .i64 a1_4, .int .i64 a1_5], .int .i64 x7_2, .int .i64 x6_1] rfl (by (try simp only [List.map_toArray, List.map_cons, List.map_nil]); first | done | rfl | (simp only [List.length_drop, List.length_take]; rfl)) ?_; (with_reducible refine (grid_Centre.calls a1_0 a1_1 a1_2 a1_3 a1_4 a1_5 x7_2 x6_1 t321 t322 _ A16.out).mono ?_); rintro e w45 ⟨rfl, hb⟩; refine ⟨_, rfl, ?_⟩; have n0_ := Aside0.mk (Kd.R_below (by (with_reducible repeat (first | apply Kd.R_alloc | apply Kd.R_drewN | apply Kd.R_drew)); exact HO_321002.out) hb); have n1_ := Aside0.mk (blk_below (g := gb318) (o := .cells #[.int .i64 a1_0, .int .i64 a1_1, .int .i64 a1_2, .int .i64 a1_3, .int .i64 a1_4, .int .i64 a1_5] 53 (0, 0)) (by (with_reducible repeat (first | refine blk_drewN ?_ _ | refine blk_drew ?_ | refine blk_alloc ?_ _)); exact BK318.out) hb); have n2_ := Aside0.mk (blk_below (g := gb319) (o := .cells #[.int .i64 0, .int .i64 0, .slice none 0 0] 57 (0, 0)) (by (with_reducible repeat (first | refine blk_drewN ?_ _ | refine blk_drew ?_ | refine blk_alloc ?_ _)); exact BK319.out) hb); have n3_ := Aside0.mk (blk_below (g := gb320) (o := .cells #[.int .i64 a1_3, .int .i64 a1_4, u321002] 57 (0, 0)) (by (with_reducible repeat (first | refine blk_drewN ?_ _ | refine blk_drew ?_ | refine blk_alloc ?_ _)); exact BK320.out) hb); have n4_ := Aside0.mk (below_step (by repeat (first | (with_reducible first | exact HB.out | apply below_alloc | apply pw_below_drewN | apply below_drew1 | refine below_set ?_ GE318.out | refine below_set ?_ GE319.out | refine below_set ?_ GE320.out) | exact HB.out)) hb); clear HO_321002; clear BK318; clear BK319; clear BK320; clear HB; have HO_321002 := n0_; have BK318 := n1_; have BK319 := n2_; have BK320 := n3_; have HB := n4_; clear n0_ n1_ n2_ n3_ n4_; (try clear hb); (try clear hb2); (try clear hk); (try clear hi)) | ((with_reducible refine gate_dst (N := 8) rfl ?_); refine box_event ?hg (N := 8) ?hd (cs := #[.int .i64 0, .int .i64 0]) (t := 32) ?hr ?_; (case hd => rfl); (case hg => rfl); (case hr => first | (go_simp; done) | (go_simp; rfl)); intro gb323 hg w46 hbox hb; have n0_ := Aside0.mk (Kd.R_below (by (with_reducible repeat (first | apply Kd.R_alloc | apply Kd.R_drewN | apply Kd.R_drew)); exact HO_321002.out) hb); have n1_ := Aside0.mk (blk_below (g := gb318) (o := .cells #[.int .i64 a1_0, .int .i64 a1_1, .int .i64 a1_2, .int .i64 a1_3, .int .i64 a1_4, .int .i64 a1_5] 53 (0, 0)) (by (with_reducible repeat (first | refine blk_drewN ?_ _ | refine blk_drew ?_ | refine blk_alloc ?_ _)); exact BK318.out) hb); have n2_ := Aside0.mk (blk_below (g := gb319) (o := .cells #[.int .i64 0, .int .i64 0, .slice none 0 0] 57 (0, 0)) (by (with_reducible repeat (first | refine blk_drewN ?_ _ | refine blk_drew ?_ | refine blk_alloc ?_ _)); exact BK319.out) hb); have n3_ := Aside0.mk (blk_below (g := gb320) (o := .cells #[.int .i64 a1_3, .int .i64 a1_4, u321002] 57 (0, 0)) (by (with_reducible repeat (first | refine blk_drewN ?_ _ | refine blk_drew ?_ | refine blk_alloc ?_ _)); exact BK320.out) hb); have n4_ := Aside0.mk (below_step (by repeat (first | (with_reducible first | exact HB.out | apply below_alloc | apply pw_below_drewN | apply below_drew1 | refine below_set ?_ GE318.out | refine below_set ?_ GE319.out | refine below_set ?_ GE320.out) | exact HB.out)) hb); have n5_ := Aside0.mk (hbox); have n6_ := Aside0.mk ((by rw [hg]; exact (below_size (by repeat (first | (with_reducible first | exact HB.out | apply below_alloc | apply pw_below_drewN | apply below_drew1 | refine below_set ?_ GE318.out | refine below_set ?_ GE319.out | refine below_set ?_ GE320.out) | exact HB.out))) : w.heap.size ≤ gb323)); have n7_ := Aside0.mk ((by rw [hg]; exact (below_size (by repeat (first | (with_reducible first | exact HB.out | apply below_alloc | apply pw_below_drewN | apply below_drew1 | refine below_set ?_ GE318.out | refine below_set ?_ GE319.out | refine below_set ?_ GE320.out) | exact HB.out))) : w.heap.size ≤ gb323)); have n8_ := Aside0.mk ((by rw [hg]; exact Nat.ne_of_lt (blk_lt (g := gb318) (o := .cells #[.int .i64 a1_0, .int .i64 a1_1, .int .i64 a1_2, .int .i64 a1_3, .int .i64 a1_4, .int .i64 a1_5] 53 (0, 0)) (by (with_reducible repeat (first | refine blk_drewN ?_ _ | refine blk_drew ?_ | refine blk_alloc ?_ _)); exact BK318.out)) : gb318 ≠ gb323)); have n9_ := Aside0.mk ((by rw [hg]; exact Nat.ne_of_gt (blk_lt (g := gb318) (o := .cells #[.int .i64 a1_0, .int .i64 a1_1, .int .i64 a1_2, .int .i64 a1_3, .int .i64 a1_4, .int .i64 a1_5] 53 (0, 0)) (by (with_reducible repeat (first | refine blk_drewN ?_ _ | refine blk_drew ?_ | refine blk_alloc ?_ _)); exact BK318.out)) : gb323 ≠ gb318)); have n10_ := Aside0.mk ((by rw [hg]; exact Nat.ne_of_lt (blk_lt (g := gb319) (o := .cells #[.int .i64 0, .int .i64 0, .slice none 0 0] 57 (0, 0)) (by (with_reducible repeat (first | refine blk_drewN ?_ _ | refine blk_drew ?_ | refine blk_alloc ?_ _)); exact BK319.out)) : gb319 ≠ gb323)); have n11_ := Aside0.mk ((by rw [hg]; exact Nat.ne_of_gt (blk_lt (g := gb319) (o := .cells #[.int .i64 0, .int .i64 0, .slice none 0 0] 57 (0, 0)) (by (with_reducible repeat (first | refine blk_drewN ?_ _ | refine blk_drew ?_ | refine blk_alloc ?_ _)); exact BK319.out)) : gb323 ≠ gb319)); have n12_ := Aside0.mk ((by rw [hg]; exact Nat.ne_of_lt (blk_lt (g := gb320) (o := .cells #[.int .i64 a1_3, .int .i64 a1_4, u321002] 57 (0, 0)) (by (with_reducible repeat (first | refine blk_drewN ?_ _ | refine blk_drew ?_ | refine blk_alloc ?_ _)); exact BK320.out)) : gb320 ≠ gb323)); have n13_ := Aside0.mk ((by rw [hg]; exact Nat.ne_of_gt (blk_lt (g := gb320) (o := .cells #[.int .i64 a1_3, .int .i64 a1_4, u321002] 57 (0, 0)) (by (with_reducible repeat (first | refine blk_drewN ?_ _ | refine blk_drew ?_ | refine blk_alloc ?_ _)); exact BK320.out)) : gb323 ≠ gb320)); clear HO_321002; clear BK318; clear BK319; clear BK320; clear HB; have HO_321002 := n0_; have BK318 := n1_; have BK319 := n2_; have BK320 := n3_; have HB := n4_; have BK323 := n5_; have GW323 := n6_; have GE323 := n7_; have NB318_323 := n8_; have NB323_318 := n9_; have NB319_323 := n10_; have NB323_319 := n11_; have NB320_323 := n12_; have NB323_320 := n13_; clear n0_ n1_ n2_ n3_ n4_ n5_ n6_ n7_ n8_ n9_ n10_ n11_ n12_ n13_; clear hb hbox hg; have hnb47 := NB323_318.out; have hnc47 := NB318_323.out; have hnb48 := NB323_319.out; have hnc48 := NB319_323.out; have hnb49 := NB323_320.out; have hnc49 := NB320_323.out; have hcz50_0 : w46.cell? ⟨gb323, 0, none⟩ = some (.int .i64 0) := (blk_cell BK323.out 0).trans rfl; have hcz50_1 : w46.cell? ⟨gb323, 1, none⟩ = some (.int .i64 0) := (blk_cell BK323.out 1).trans rfl; have hfz50_0 := blk_frozen BK323.out 0; have hfz50_1 := blk_frozen BK323.out 1; have hnb51 := NB320_319.out; have hnc51 := NB319_320.out; have hcz52_0 : w46.cell? ⟨gb320, 0, none⟩ = some (.int .i64 a1_3) := (blk_cell BK320.out 0).trans rfl; have hcz52_1 : w46.cell? ⟨gb320, 1, none⟩ = some (.int .i64 a1_4) := (blk_cell BK320.out 1).trans rfl; have hcz52_2 : w46.cell? ⟨gb320, 2, none⟩ = some (u321002) := (blk_cell BK320.out 2).trans rfl; have hfz52_0 := blk_frozen BK320.out 0; have hfz52_1 := blk_frozen BK320.out 1; have hfz52_2 := blk_frozen BK320.out 2) | ((with_reducible refine gate_builtin (b := .append) (xs := #[.tmp 43, .tmp 45]) rfl ?_); at_builtin; refine Kd.R_append (Kd.int .u8) (w0 := w) w.heap.size rfl (.tmp 43) (.tmp 45) 55 5 (.int .u8 0) 1 rfl Try.underlying55 info5 rfl (by decide) (by omega) u321002 x321002_2 1 [.int .u8 1] (fun _ => True) (fun _ => False) rfl (by first | (go_simp; done) | (go_simp; rfl)) ?aP (fun _ hk => hk.elim) ?aF ?aO ?aB ?aS ?aL ?_; (case aP => exact rfl); (case aB => exact (by repeat (first | (with_reducible first | exact HB.out | apply below_alloc | apply pw_below_drewN | apply below_drew1 | refine below_set ?_ GE318.out | refine below_set ?_ GE319.out | refine below_set ?_ GE320.out | refine below_set ?_ GE323.out) | exact HB.out))); (case aF => exact (fun _ _ => trivial)); (case aO => exact (by (with_reducible repeat (first | apply Kd.R_alloc | apply Kd.R_drewN | apply Kd.R_drew)); exact Kd.R_mono (Kd.R_far (p := ⟨gb323, 1, none⟩) (Kd.R_far (p := ⟨gb323, 0, none⟩) (Kd.R_types HO_321002.out BK323.out (by decide)) (fun _ hk => hk.2) (.int .i64 t321)) (fun _ hk => hk.2) (.int .i64 t322)) (fun _ hk => trivial))); (case aS => exact (below_size (by repeat (first | (with_reducible first | exact HB.out | apply below_alloc | apply pw_below_drewN | apply below_drew1 | refine below_set ?_ GE318.out | refine below_set ?_ GE319.out | refine below_set ?_ GE320.out | refine below_set ?_ GE323.out) | exact HB.out)))); (case aL => have := LMc41.out; omega); intro v331 w53 ho hb hg hat; rw [← Ny330.out] at ho; have n0_ := Aside0.mk (blk_grown (g := gb318) (o := .cells #[.int .i64 a1_0, .int .i64 a1_1, .int .i64 a1_2, .int .i64 a1_3, .int .i64 a1_4, .int .i64 a1_5] 53 (0, 0)) (by (with_reducible repeat (first | refine blk_drewN ?_ _ | refine blk_drew ?_ | refine blk_alloc ?_ _)); refine blk_far ?_ NB318_323.out _; (with_reducible repeat (first | refine blk_drewN ?_ _ | refine blk_drew ?_ | refine blk_alloc ?_ _)); refine blk_far ?_ NB318_323.out _; (with_reducible repeat (first | refine blk_drewN ?_ _ | refine blk_drew ?_ | refine blk_alloc ?_ _)); exact BK318.out) hg (Kd.R_ne HO_321002.out BK318.out (by decide))); have n1_ := Aside0.mk (blk_grown (g := gb319) (o := .cells #[.int .i64 0, .int .i64 0, .slice none 0 0] 57 (0, 0)) (by (with_reducible repeat (first | refine blk_drewN ?_ _ | refine blk_drew ?_ | refine blk_alloc ?_ _)); refine blk_far ?_ NB319_323.out _; (with_reducible repeat (first | refine blk_drewN ?_ _ | refine blk_drew ?_ | refine blk_alloc ?_ _)); refine blk_far ?_ NB319_323.out _; (with_reducible repeat (first | refine blk_drewN ?_ _ | refine blk_drew ?_ | refine blk_alloc ?_ _)); exact BK319.out) hg (Kd.R_ne HO_321002.out BK319.out (by decide))); have n2_ := Aside0.mk (blk_grown (g := gb320) (o := .cells #[.int .i64 a1_3, .int .i64 a1_4, u321002] 57 (0, 0)) (by (with_reducible repeat (first | refine blk_drewN ?_ _ | refine blk_drew ?_ | refine blk_alloc ?_ _)); refine blk_far ?_ NB320_323.out _; (with_reducible repeat (first | refine blk_drewN ?_ _ | refine blk_drew ?_ | refine blk_alloc ?_ _)); refine blk_far ?_ NB320_323.out _; (with_reducible repeat (first | refine blk_drewN ?_ _ | refine blk_drew ?_ | refine blk_alloc ?_ _)); exact BK320.out) hg (Kd.R_ne HO_321002.out BK320.out (by decide))); have n3_ := Aside0.mk (blk_grown (g := gb323) (o := .cells #[.int .i64 t321, .int .i64 t322] 32 (0, 0)) (by (with_reducible repeat (first | refine blk_drewN ?_ _ | refine blk_drew ?_ | refine blk_alloc ?_ _)); refine blk_put (cs := #[.int .i64 t321, .int .i64 0]) ?_ 1 _ rfl; (with_reducible repeat (first | refine blk_drewN ?_ _ | refine blk_drew ?_ | refine blk_alloc ?_ _)); refine blk_put (cs := #[.int .i64 0, .int .i64 0]) ?_ 0 _ rfl; (with_reducible repeat (first | refine blk_drewN ?_ _ | refine blk_drew ?_ | refine blk_alloc ?_ _)); exact BK323.out) hg (Kd.R_ne HO_321002.out BK323.out (by decide))); have n4_ := Aside0.mk (hb); have n5_ := Aside0.mk (ho); clear BK318; clear BK319; clear BK320; clear BK323; clear HB; clear HO_321002; have BK318 := n0_; have BK319 := n1_; have BK320 := n2_; have BK323 := n3_; have HB := n4_; have HO332 := n5_; clear n0_ n1_ n2_ n3_ n4_ n5_; clear ho hb hg hat; obtain ⟨Ao54, co54, eo54⟩ := Kd.R_slice HO332.out; subst eo54; have hcz55_0 : w53.cell? ⟨gb320, 0, none⟩ = some (.int .i64 a1_3) := (blk_cell BK320.out 0).trans rfl; have hcz55_1 : w53.cell? ⟨gb320, 1, none⟩ = some (.int .i64 a1_4) := (blk_cell BK320.out 1).trans rfl; have hcz55_2 : w53.cell? ⟨gb320, 2, none⟩ = some (u321002) := (blk_cell BK320.out 2).trans rfl; have hfz55_0 := blk_frozen BK320.out 0; have hfz55_1 := blk_frozen BK320.out 1; have hfz55_2 := blk_frozen BK320.out 2))
                  go_roundg k2
                  case measure => have := HK1.out; have := HK2.out; omega
                  case rel => exact ⟨(wrap64 (x7_2 + 1)), (y330), (.slice Ao54 y330.length co54), (by first | rfl | (simp; done) | (simp [*]; done)), H', ⟨by have := HK1.out; have := HK2.out; omega⟩, ⟨by (with_reducible repeat (first | apply Kd.R_alloc | apply Kd.R_drewN | apply Kd.R_drew)); exact Kd.R_mono (Kd.R_far (p := ⟨gb320, 2, none⟩) (Kd.R_types HO332.out BK320.out (by decide)) (fun _ hk => hk.2) (.slice Ao54 y330.length co54)) (fun _ hk => trivial)⟩, ⟨by (with_reducible repeat (first | refine blk_drewN ?_ _ | refine blk_drew ?_ | refine blk_alloc ?_ _)); refine blk_far ?_ NB318_320.out _; (with_reducible repeat (first | refine blk_drewN ?_ _ | refine blk_drew ?_ | refine blk_alloc ?_ _)); exact BK318.out⟩, ⟨by (with_reducible repeat (first | refine blk_drewN ?_ _ | refine blk_drew ?_ | refine blk_alloc ?_ _)); refine blk_far ?_ NB319_320.out _; (with_reducible repeat (first | refine blk_drewN ?_ _ | refine blk_drew ?_ | refine blk_alloc ?_ _)); exact BK319.out⟩, ⟨by (with_reducible repeat (first | refine blk_drewN ?_ _ | refine blk_drew ?_ | refine blk_alloc ?_ _)); refine blk_put (cs := #[.int .i64 a1_3, .int .i64 a1_4, u321002]) ?_ 2 _ rfl; (with_reducible repeat (first | refine blk_drewN ?_ _ | refine blk_drew ?_ | refine blk_alloc ?_ _)); exact BK320.out⟩, ⟨by repeat (first | (with_reducible first | exact HB.out | apply below_alloc | apply pw_below_drewN | apply below_drew1 | refine below_set ?_ GE318.out | refine below_set ?_ GE319.out | refine below_set ?_ GE320.out | refine below_set ?_ GE323.out) | exact HB.out)⟩⟩
                · rw [if_neg c41] at H
                  exact absurd H (by simp)
            · rw [if_neg c15] at H
              have c15b0 : decide (x7_2 < a1_3) = false := decide_eq_false c15
              clear c15
              have H' := Aside0.mk H
              clear H
              have hnb56 := NB318_319.out
              have hnc56 := NB319_318.out
              have hnb57 := NB318_320.out
              have hnc57 := NB320_318.out
              have hcz58_0 : wr.cell? ⟨gb318, 0, none⟩ = some (.int .i64 a1_0) := (blk_cell BK318.out 0).trans rfl
              have hcz58_1 : wr.cell? ⟨gb318, 1, none⟩ = some (.int .i64 a1_1) := (blk_cell BK318.out 1).trans rfl
              have hcz58_2 : wr.cell? ⟨gb318, 2, none⟩ = some (.int .i64 a1_2) := (blk_cell BK318.out 2).trans rfl
              have hcz58_3 : wr.cell? ⟨gb318, 3, none⟩ = some (.int .i64 a1_3) := (blk_cell BK318.out 3).trans rfl
              have hcz58_4 : wr.cell? ⟨gb318, 4, none⟩ = some (.int .i64 a1_4) := (blk_cell BK318.out 4).trans rfl
              have hcz58_5 : wr.cell? ⟨gb318, 5, none⟩ = some (.int .i64 a1_5) := (blk_cell BK318.out 5).trans rfl
              have hfz58_0 := blk_frozen BK318.out 0
              have hfz58_1 := blk_frozen BK318.out 1
              have hfz58_2 := blk_frozen BK318.out 2
              have hfz58_3 := blk_frozen BK318.out 3
              have hfz58_4 := blk_frozen BK318.out 4
              have hfz58_5 := blk_frozen BK318.out 5
              go_wp2
              go_roundg k2
              case measure => have := HK1.out; have := HK2.out; omega
              case rel => exact ⟨(wrap64 (x6_1 + 1)), (x321002_2), (u321002), (by first | rfl | (simp; done) | (simp [*]; done)), H', ⟨by have := HK1.out; have := HK2.out; omega⟩, ⟨by (with_reducible repeat (first | apply Kd.R_alloc | apply Kd.R_drewN | apply Kd.R_drew)); exact HO_321002.out⟩, ⟨by (with_reducible repeat (first | refine blk_drewN ?_ _ | refine blk_drew ?_ | refine blk_alloc ?_ _)); exact BK318.out⟩, ⟨by (with_reducible repeat (first | refine blk_drewN ?_ _ | refine blk_drew ?_ | refine blk_alloc ?_ _)); exact BK319.out⟩, ⟨by (with_reducible repeat (first | refine blk_drewN ?_ _ | refine blk_drew ?_ | refine blk_alloc ?_ _)); exact BK320.out⟩, ⟨by repeat (first | (with_reducible first | exact HB.out | apply below_alloc | apply pw_below_drewN | apply below_drew1 | refine below_set ?_ GE318.out | refine below_set ?_ GE319.out | refine below_set ?_ GE320.out) | exact HB.out)⟩⟩
      · rw [if_neg c11] at H
        have c11b0 : decide (x6_1 < a1_4) = false := decide_eq_false c11
        clear c11
        simp only [Option.some.injEq, Prod.mk.injEq] at H
        obtain ⟨rfl, rfl, rfl⟩ := H
        have hnb59 := NB318_319.out
        have hnc59 := NB319_318.out
        have hnb60 := NB318_320.out
        have hnc60 := NB320_318.out
        have hcz61_0 : wr.cell? ⟨gb318, 0, none⟩ = some (.int .i64 a1_0) := (blk_cell BK318.out 0).trans rfl
        have hcz61_1 : wr.cell? ⟨gb318, 1, none⟩ = some (.int .i64 a1_1) := (blk_cell BK318.out 1).trans rfl
        have hcz61_2 : wr.cell? ⟨gb318, 2, none⟩ = some (.int .i64 a1_2) := (blk_cell BK318.out 2).trans rfl
        have hcz61_3 : wr.cell? ⟨gb318, 3, none⟩ = some (.int .i64 a1_3) := (blk_cell BK318.out 3).trans rfl
        have hcz61_4 : wr.cell? ⟨gb318, 4, none⟩ = some (.int .i64 a1_4) := (blk_cell BK318.out 4).trans rfl
        have hcz61_5 : wr.cell? ⟨gb318, 5, none⟩ = some (.int .i64 a1_5) := (blk_cell BK318.out 5).trans rfl
        have hfz61_0 := blk_frozen BK318.out 0
        have hfz61_1 := blk_frozen BK318.out 1
        have hfz61_2 := blk_frozen BK318.out 2
        have hfz61_3 := blk_frozen BK318.out 3
        have hfz61_4 := blk_frozen BK318.out 4
        have hfz61_5 := blk_frozen BK318.out 5
        have hnb62 := NB320_319.out
        have hnc62 := NB319_320.out
        have hcz63_0 : wr.cell? ⟨gb320, 0, none⟩ = some (.int .i64 a1_3) := (blk_cell BK320.out 0).trans rfl
        have hcz63_1 : wr.cell? ⟨gb320, 1, none⟩ = some (.int .i64 a1_4) := (blk_cell BK320.out 1).trans rfl
        have hcz63_2 : wr.cell? ⟨gb320, 2, none⟩ = some (u321002) := (blk_cell BK320.out 2).trans rfl
        have hfz63_0 := blk_frozen BK320.out 0
        have hfz63_1 := blk_frozen BK320.out 1
        have hfz63_2 := blk_frozen BK320.out 2
        have hcz64_0 : wr.cell? ⟨gb319, 0, none⟩ = some (.int .i64 0) := (blk_cell BK319.out 0).trans rfl
        have hcz64_1 : wr.cell? ⟨gb319, 1, none⟩ = some (.int .i64 0) := (blk_cell BK319.out 1).trans rfl
        have hcz64_2 : wr.cell? ⟨gb319, 2, none⟩ = some (.slice none 0 0) := (blk_cell BK319.out 2).trans rfl
        have hfz64_0 := blk_frozen BK319.out 0
        have hfz64_1 := blk_frozen BK319.out 1
        have hfz64_2 := blk_frozen BK319.out 2
        obtain ⟨Ao65, co65, eo65⟩ := Kd.R_slice HO_321002.out
        subst eo65
        go_wp2
        refine bodyPost_ret (results_cell_row rfl _ _ gb319 57 #[.int .i64 a1_3, .int .i64 a1_4, .slice Ao65 x321002_1.length co65] (0, 0) _ rfl (by (with_reducible repeat (first | refine blk_drewN ?_ _ | refine blk_drew ?_ | refine blk_alloc ?_ _)); refine blk_put (cs := #[.int .i64 a1_3, .int .i64 a1_4, .slice none 0 0]) ?_ 2 _ rfl; (with_reducible repeat (first | refine blk_drewN ?_ _ | refine blk_drew ?_ | refine blk_alloc ?_ _)); refine blk_put (cs := #[.int .i64 a1_3, .int .i64 0, .slice none 0 0]) ?_ 1 _ rfl; (with_reducible repeat (first | refine blk_drewN ?_ _ | refine blk_drew ?_ | refine blk_alloc ?_ _)); refine blk_put (cs := #[.int .i64 0, .int .i64 0, .slice none 0 0]) ?_ 0 _ rfl; (with_reducible repeat (first | refine blk_drewN ?_ _ | refine blk_drew ?_ | refine blk_alloc ?_ _)); exact BK319.out) Try.underlying57 rfl (by kernel_rfl)) rfl ?_
        exact ⟨_, by first | rfl | (simp [errW_none, errW_some] <;> rfl) | (simp [*, errW_none, errW_some] <;> rfl), by (with_reducible repeat (first | apply Kd.R_alloc | apply Kd.R_drewN | apply Kd.R_drew)); exact Kd.R_mono (Kd.R_far (p := ⟨gb319, 2, none⟩) (Kd.R_far (p := ⟨gb319, 1, none⟩) (Kd.R_far (p := ⟨gb319, 0, none⟩) (Kd.R_types HO_321002.out BK319.out (by decide)) (fun _ hk => hk.2) (.int .i64 a1_3)) (fun _ hk => hk.2) (.int .i64 a1_4)) (fun _ hk => hk.2) (.slice Ao65 x321002_1.length co65)) (fun _ hk => trivial), by repeat (first | (with_reducible first | exact HB.out | apply below_alloc | apply pw_below_drewN | apply below_drew1 | refine below_set ?_ GE318.out | refine below_set ?_ GE319.out | refine below_set ?_ GE320.out) | exact HB.out)⟩
end Go.Proofs.Ytlljpjbhndcaiaa.Q
end
section
namespace Go.Proofs.Ytlljpjbhndcaiaa.Q
open Go.RowKit Go.Proofs.YtlljpjbhndcaiaaW.PrintWords Go.Proofs.YtlljpjbhndcaiaaW.PrintLast Go.Proofs.YtlljpjbhndcaiaaW.PrintMore
attribute [local go_sem] max2_int min2_int max_two min_two max_three min_three max_four min_four
set_option linter.unusedVariables false
set_option linter.unusedSimpArgs false
theorem cells6 {W : World} {g t : Nat} {a b c d e f : Value} (h : W.heap[g]? = some (.cells #[a, b, c, d, e, f] t (0, 0))) : W.cell? ⟨g, 0, none⟩ = some a ∧ W.cell? ⟨g, 1, none⟩ = some b ∧ W.cell? ⟨g, 2, none⟩ = some c ∧ W.cell? ⟨g, 3, none⟩ = some d ∧ W.cell? ⟨g, 4, none⟩ = some e ∧ W.cell? ⟨g, 5, none⟩ = some f := by
  refine ⟨?_, ?_, ?_, ?_, ?_, ?_⟩ <;> simp [World.cell?, h]
end Go.Proofs.Ytlljpjbhndcaiaa.Q
end
section
namespace Go.Proofs.Ytlljpjbhndcaiaa.Q
open Go.RowKit Go.Proofs.YtlljpjbhndcaiaaW.PrintWords Go.Proofs.YtlljpjbhndcaiaaW.PrintLast Go.Proofs.YtlljpjbhndcaiaaW.PrintMore
attribute [local go_sem] max2_int min2_int max_two min_two max_three min_three max_four min_four
set_option linter.unusedVariables false
set_option linter.unusedSimpArgs false
theorem glyph_at (k : Nat) (A0 : Option Addr) (c0 : Nat) (l0 : List (List S133)) (es : List S40) (w W : World) (hr0 : Kd.C (Kd.slice 133 k133) w A0 l0.length l0) (hc0 : l0.length ≤ c0) (hB : Below w.heap.size w W) (h : punchcutlaw06_Glyph.f k l0 = some es) :
    Calls Try.prog 19 #[.slice A0 l0.length c0] W fun e w' => ∃ A c, e = .returned (.slice A es.length c) ∧ Kd.R k40 40 w' w.heap.size (fun _ => True) (.slice A es.length c) es ∧ Below W.heap.size W w' := by
  refine (punchcutlaw06_Glyph.calls k (fun q => q < w.heap.size) _ _ l0 es _ (Kd.V_mk hc0 (Kd.F_below (Kd.C_F (Kd.heap_slice 133 k133_heap) hr0) hB)) h).mono ?_
  rintro e w' ⟨v, rfl, ho, hb⟩
  obtain ⟨A, c, rfl⟩ := Kd.R_slice ho
  exact ⟨A, c, rfl, Kd.R_lower (Kd.R_mono ho (fun _ _ => trivial)) hB.size, hb⟩
theorem rC {w : World} {b n c : Nat} {A : Option Addr} {ok : Nat → Prop} {es : List S40} (h : Kd.R k40 40 w b ok (.slice A n c) es) : Kd.C k40 w A es.length es ∧ es.length ≤ c := by
  obtain ⟨h1, h2, h3⟩ := Kd.R_reads' h
  exact ⟨h3, h1 ▸ h2⟩
end Go.Proofs.Ytlljpjbhndcaiaa.Q
end
section
namespace Go.Proofs.Ytlljpjbhndcaiaa.Q
open Go.RowKit Go.Proofs.YtlljpjbhndcaiaaW.PrintWords Go.Proofs.YtlljpjbhndcaiaaW.PrintLast Go.Proofs.YtlljpjbhndcaiaaW.PrintMore
attribute [local go_sem] max2_int min2_int max_two min_two max_three min_three max_four min_four
set_option linter.unusedVariables false
set_option linter.unusedSimpArgs false
section
variable {P : Program} {ops : Array Oper} {Q : Exit → Act → World → Prop}
def upd (f : Nat → Bool) (i : Nat) : Nat → Bool := fun j => if j = i then true else f j
def InvStepF (P : Program) (ops : Array Oper) (Q : Exit → Act → World → Prop) (T : List Nat) (J : (Nat → Bool) → Act → World → Prop) (i : Nat) (o : Oper) : Prop :=
  ∀ (f : Nat → Bool) (a : Act) (w : World), J f a w → f i = false → (∀ d, d ∈ T → f d = true) →
    ∀ K : Act → World → Prop, (∀ a' w', J (upd f i) a' w' → K a' w') → if Region.wanted o (yielded ops a.tmps) = true then Oper.wp P o a w K Q else K (a.put o.dst undef) w
def InvStepsF (P : Program) (ops : Array Oper) (Q : Exit → Act → World → Prop) (J : (Nat → Bool) → Act → World → Prop) : Nat → List Oper → List (List Nat) → Prop
  | _, [], _ => True
  | i, o :: r, T => InvStepF P ops Q (T.headD []) J i o ∧ InvStepsF P ops Q J (i + 1) r T.tail
theorem set_upd (l : List Bool) (i : Nat) (hi : i < l.length) : (fun j => (l.set i true).getD j false) = upd (fun j => l.getD j false) i := by
  funext j
  unfold upd
  simp only [List.getD_eq_getElem?_getD, List.getElem?_set]
  by_cases h : i = j
  · subst h; simp [hi]
  · rw [if_neg h, if_neg (fun e => h e.symm)]
theorem InvStepsF.to {n : Nat} {J : (Nat → Bool) → Act → World → Prop} : ∀ (r : List Oper) (i : Nat) (T : List (List Nat)), i + r.length ≤ n → InvStepsF P ops Q J i r T → InvSteps P ops Q n (fun l => J (fun j => l.getD j false)) i r T
  | [], _, _, _, _ => trivial
  | o :: r, i, T, hl, h => by
    refine ⟨?_, InvStepsF.to r (i + 1) T.tail (by simp at hl; omega) h.2⟩
    intro l a w hln hJ hi hT K hK
    have hil : i < l.length := by simp at hl; omega
    have hi' : l.getD i false = false := by
      rw [List.getD_eq_getElem?_getD, List.getElem?_eq_getElem hil] at hi ⊢
      exact hi
    refine h.1 _ a w hJ hi' hT K (fun a' w' hJ' => hK a' w' ?_)
    show J (fun j => (l.set i true).getD j false) a' w'
    rw [set_upd l i hil]
    exact hJ'
theorem region_invF {id n : Nat} {a : Act} {w : World} (hm : P.follows .mixedOrders = true) (T : List (List Nat)) (J : (Nat → Bool) → Act → World → Prop) (hn : ops.size = n) (hT : invB ops T = true)
    (h0 : J (fun _ => false) a w.drew) (hs : InvStepsF P ops Q J 0 ops.toList T) (hend : ∀ f a w, (∀ j, j < n → f j = true) → J f a w → Q .normal a w) : (Code.region id ops true).wp P Q a w := by
  refine region_inv hm T (fun l => J (fun j => l.getD j false)) hn hT ?_ (InvStepsF.to _ 0 T (by simp [hn]) hs) (fun a w h => hend _ a w (fun j hj => ?_) h)
  · have : (fun j => (List.replicate n false).getD j false) = fun _ => false := by
      funext j
      simp [List.getD_eq_getElem?_getD, List.getElem?_replicate]
      split <;> rfl
    show J (fun j => (List.replicate n false).getD j false) a w.drew
    rw [this]; exact h0
  · simp [List.getD_eq_getElem?_getD, List.getElem?_replicate, hj]
end
end Go.Proofs.Ytlljpjbhndcaiaa.Q
end
section
namespace Go.Proofs.Ytlljpjbhndcaiaa.Q
open Go.RowKit Go.Proofs.YtlljpjbhndcaiaaW.PrintWords Go.Proofs.YtlljpjbhndcaiaaW.PrintLast Go.Proofs.YtlljpjbhndcaiaaW.PrintMore
attribute [local go_sem] max2_int min2_int max_two min_two max_three min_three max_four min_four
set_option linter.unusedVariables false
set_option linter.unusedSimpArgs false
def punchcutlaw10_SdfTexel_.f (k : Nat) (l0 : List (List S133)) (a1_0 a1_1 a1_2 a1_3 a1_4 a1_5 a2 a3 : Int) : Option Bool :=
  (punchcutlaw10_awake.f k).bind fun aw => if aw = true then (punchcutlaw06_Glyph.f k l0).bind fun es => (punchcutlaw09_Spec_Grid.f a1_0 a1_1 a1_2 a1_3 a1_4 a1_5).bind fun g =>
    (punchcutlaw10_Field.f k es g.1 g.2.1 g.2.2.1 g.2.2.2.1 g.2.2.2.2.1 g.2.2.2.2.2).bind fun F =>
    (sdf_Texel.f k es g.1 g.2.1 g.2.2.1 g.2.2.2.1 g.2.2.2.2.1 g.2.2.2.2.2 (Int.tmod a2 g.2.2.2.1) (Int.tmod a3 g.2.2.2.2.1)).bind fun t =>
    (sdf_Row.f k es g.1 g.2.1 g.2.2.1 g.2.2.2.1 g.2.2.2.2.1 g.2.2.2.2.2 (Int.tmod a3 g.2.2.2.2.1)).bind fun r =>
    if ((0 ≤ a2 ∧ a2 ≤ 255) ∧ (0 ≤ a3 ∧ a3 ≤ 255) ∧ (1 ≤ g.2.2.2.1 ∧ g.2.2.2.1 ≤ 24) ∧ (1 ≤ g.2.2.2.2.1 ∧ g.2.2.2.2.1 ≤ 24)) ∧ (F.2.2.length : Int) = g.2.2.2.2.1 * g.2.2.2.1 ∧ rd F.2.2 (Int.tmod a3 g.2.2.2.2.1 * g.2.2.2.1 + Int.tmod a2 g.2.2.2.1) = t
      ∧ r = (F.2.2.drop (Int.tmod a3 g.2.2.2.2.1 * g.2.2.2.1).toNat).take g.2.2.2.1.toNat then some true else none
  else none
theorem texel_at {H W a b : Int} (hW : 1 ≤ W ∧ W ≤ 24) (hH : 1 ≤ H ∧ H ≤ 24) (ha : 0 ≤ a ∧ a < W) (hb : 0 ≤ b ∧ b < H) : (0 ≤ b * W ∧ b * W + W ≤ H * W) ∧ (b + 1) * W = b * W + W ∧ H * W ≤ 576 := by
  have h1 : 0 ≤ b * W := Int.mul_nonneg hb.1 (by omega)
  have h2 : (b + 1) * W = b * W + W := by rw [Int.add_mul, Int.one_mul]
  have h3 : (b + 1) * W ≤ H * W := Int.mul_le_mul_of_nonneg_right (by omega) (by omega)
  have h4 : H * W ≤ 24 * 24 := Int.mul_le_mul hH.2 hW.2 (by omega) (by omega)
  exact ⟨⟨h1, by omega⟩, h2, by omega⟩
theorem tmod_in {x m : Int} (hx : 0 ≤ x) (hm : 1 ≤ m) : 0 ≤ Int.tmod x m ∧ Int.tmod x m < m := by
  rw [Int.tmod_eq_emod_of_nonneg hx]
  exact ⟨Int.emod_nonneg _ (by omega), Int.emod_lt_of_pos _ (by omega)⟩
set_option maxHeartbeats 8000000 in
set_option maxRecDepth 100000 in
theorem punchcutlaw10_SdfTexel_.calls (k : Nat) (A0 : Option Addr) (c0 : Nat) (l0 : List (List S133)) (a1_0 a1_1 a1_2 a1_3 a1_4 a1_5 a2 a3 : Int) (r : Bool) (w : World) (hr0 : Kd.C (Kd.slice 133 k133) w A0 l0.length l0) (hc0 : l0.length ≤ c0) (h : punchcutlaw10_SdfTexel_.f k l0 a1_0 a1_1 a1_2 a1_3 a1_4 a1_5 a2 a3 = some r) :
    Calls Try.prog 8 #[.slice A0 l0.length c0, .agg #[.int .u8 a1_0, .int .u8 a1_1, .int .u8 a1_2, .int .u8 a1_3, .int .u8 a1_4, .int .u8 a1_5], .int .u8 a2, .int .u8 a3] w fun e w' => e = .returned (.bool r) ∧ Below w.heap.size w w' := by
  unfold punchcutlaw10_SdfTexel_.f at h
  obtain ⟨aw, haw, h1⟩ := Option.bind_eq_some_iff.mp h
  clear h
  split at h1
  case isFalse => cases h1
  rename_i hT
  subst hT
  obtain ⟨es, hes, h2⟩ := Option.bind_eq_some_iff.mp h1
  obtain ⟨⟨X, Y, P, W, H, S⟩, hg, h3⟩ := Option.bind_eq_some_iff.mp h2
  obtain ⟨⟨F1, F2, F⟩, hF, h4⟩ := Option.bind_eq_some_iff.mp h3
  obtain ⟨t, ht, h5⟩ := Option.bind_eq_some_iff.mp h4
  obtain ⟨row, hrow, h6⟩ := Option.bind_eq_some_iff.mp h5
  clear h1 h2 h3 h4 h5
  simp only at hF ht hrow h6
  split at h6
  case isFalse => cases h6
  rename_i hall
  obtain rfl := Option.some.inj h6
  obtain ⟨⟨ba2, ba3, bW, bH⟩, hlen, hrd, hsl⟩ := hall
  obtain ⟨a, ha⟩ : ∃ a, a = Int.tmod a2 W := ⟨_, rfl⟩
  obtain ⟨b, hb⟩ : ∃ b, b = Int.tmod a3 H := ⟨_, rfl⟩
  have ma := tmod_in ba2.1 bW.1
  have mb := tmod_in ba3.1 bH.1
  rw [← ha] at ht hrd ma
  rw [← hb] at ht hrd hrow hsl mb
  obtain ⟨⟨n1, n2⟩, n3, n4⟩ := texel_at bW bH ma mb
  have HAW := Aside0.mk haw; have HES := Aside0.mk hes; have HG := Aside0.mk hg; have HF := Aside0.mk hF; have HT := Aside0.mk ht; have HROW := Aside0.mk hrow; have HR0 := Aside0.mk hr0; have HRD := Aside0.mk hrd; have HSL := Aside0.mk hsl; have HA := Aside0.mk (show a = (IntKind.i64.wrap a2).tmod W by rw [ha, show IntKind.i64.wrap a2 = a2 from IntWalk.i64_in _ (by omega)]); have HB := Aside0.mk (show b = (IntKind.i64.wrap a3).tmod H by rw [hb, show IntKind.i64.wrap a3 = a3 from IntWalk.i64_in _ (by omega)])
  clear haw hes hg hF ht hrow h6 hr0 hrd hsl ha hb
  go_enter Try.func8, Try.ntmps8
  go_wp2_with fail
  refine (punchcutlaw10_awake.calls k _ _ HAW.out).mono ?_
  rintro e w1 ⟨rfl, hb⟩
  have HB1 := Aside0.mk (bstep (balloc (Below.refl w.heap.size w) (.cells #[.int .u8 a1_0, .int .u8 a1_1, .int .u8 a1_2, .int .u8 a1_3, .int .u8 a1_4, .int .u8 a1_5] 50)) hb)
  have P1 := Aside0.mk ((hb.block _ (by simp)).trans (hnew w (.cells #[.int .u8 a1_0, .int .u8 a1_1, .int .u8 a1_2, .int .u8 a1_3, .int .u8 a1_4, .int .u8 a1_5] 50) rfl))
  clear hb
  go_wp2_with fail
  refine (glyph_at k _ _ l0 es w w1 HR0.out hc0 HB1.out HES.out).mono ?_
  rintro e w2 ⟨A, c, rfl, ho, hb⟩
  have HO2 := Aside0.mk ho
  have HB2 := Aside0.mk (bstep HB1.out hb)
  have P2 := Aside0.mk ((hb.block _ (Array.getElem?_eq_some_iff.1 P1.out).1).trans P1.out)
  clear hb ho P1 HB1
  obtain ⟨p0, p1, p2, p3, p4, p5⟩ := cells6 P2.out
  go_wp2_with fail
  refine (punchcutlaw09_Spec_Grid.calls _ _ _ _ _ _ _ _ _ _ _ _ _ HG.out).mono ?_
  rintro e w3 ⟨rfl, hb⟩
  have HO3 := Aside0.mk (Kd.R_below (Kd.R_below HO2.out hb) (balloc (Below.refl _ _) (.cells #[.int .i64 X, .int .i64 Y, .int .i64 P, .int .i64 W, .int .i64 H, .int .i64 S] 53)))
  have HB3 := Aside0.mk (balloc (bstep HB2.out hb) (.cells #[.int .i64 X, .int .i64 Y, .int .i64 P, .int .i64 W, .int .i64 H, .int .i64 S] 53))
  have G3 := Aside0.mk (hnew w3 (.cells #[.int .i64 X, .int .i64 Y, .int .i64 P, .int .i64 W, .int .i64 H, .int .i64 S] 53) rfl)
  have hz3 := hb.size
  clear hb p0 p1 p2 p3 p4 p5 P2 HO2 HB2
  obtain ⟨W3, hW3⟩ : ∃ W3 : World, W3 = w3.alloc (.cells #[.int .i64 X, .int .i64 Y, .int .i64 P, .int .i64 W, .int .i64 H, .int .i64 S] 53) := ⟨_, rfl⟩
  go_upto_region 5 with fail
  rw [← hW3] at HO3 HB3 G3 ⊢
  have hs3 : w3.heap.size < W3.heap.size := by rw [hW3]; simp
  clear hW3
  obtain ⟨q0, q1, q2, q3, q4, q5⟩ := cells6 G3.out
  go_wp2_with fail
  refine (punchcutlaw10_Field.calls k _ _ es _ _ _ _ _ _ _ _ _ _ (rC HO3.out).1 (rC HO3.out).2 HF.out).mono ?_
  rintro e w4 ⟨v, rfl, ho, hb⟩
  obtain ⟨AF, cF, rfl⟩ := Kd.R_slice ho
  obtain ⟨W4, hW4⟩ : ∃ W4 : World, W4 = w4.alloc (.cells #[.int .i64 F1, .int .i64 F2, .slice AF F.length cF] 57) := ⟨_, rfl⟩
  have hs4 := hb.size
  have hs5 : w4.heap.size < W4.heap.size := by rw [hW4]; simp
  have HO4 : Aside0 (Kd.R k40 40 W4 w.heap.size (fun _ => True) (.slice A es.length c) es) := ⟨by rw [hW4]; exact Kd.R_below (Kd.R_below HO3.out hb) (balloc (Below.refl _ _) _)⟩
  have HF4 : Aside0 (Kd.R (Kd.int .u8) 5 W4 W3.heap.size (fun _ => True) (.slice AF F.length cF) F) := ⟨by rw [hW4]; exact Kd.R_below ho (balloc (Below.refl _ _) _)⟩
  have HB4 : Aside0 (Below w.heap.size w W4) := ⟨by rw [hW4]; exact balloc (bstep HB3.out hb) _⟩
  have G4 : Aside0 (W4.heap[w3.heap.size]? = some (.cells #[.int .i64 X, .int .i64 Y, .int .i64 P, .int .i64 W, .int .i64 H, .int .i64 S] 53 (0, 0))) := ⟨by rw [hW4]; exact halloc ((hb.block _ hs3).trans G3.out) _⟩
  have F4 : Aside0 (W4.heap[w4.heap.size]? = some (.cells #[.int .i64 F1, .int .i64 F2, .slice AF F.length cF] 57 (0, 0))) := ⟨by rw [hW4]; exact hnew _ _ rfl⟩
  clear hb ho q0 q1 q2 q3 q4 q5 G3 HO3 HB3
  go_upto_region 6 with fail
  rw [← hW4]
  clear hW4
  go_cut [12, 13] (fun s12 s13 W => s12 = .int .i64 a ∧ s13 = .int .i64 b ∧ Below W4.heap.size W4 W)
  case first =>
    obtain ⟨q0, q1, q2, q3, q4, q5⟩ := cells6 G4.out
    have hg4 := (Array.getElem?_eq_some_iff.1 G4.out).1
    have hW0 : (W == 0) = false := by simpa using (show W ≠ 0 by omega)
    have hH0 : (H == 0) = false := by simpa using (show H ≠ 0 by omega)
    have hW1 : ¬ W = 0 := by omega
    have hH1 : ¬ H = 0 := by omega
    have KS := Aside0.mk (show ∀ V : World, Below W4.heap.size W4 V → (V.cell? ⟨w3.heap.size, 3, none⟩ = some (.int .i64 W) ∧ V.cell? ⟨w3.heap.size, 4, none⟩ = some (.int .i64 H)) ∧ Below W4.heap.size W4 V from fun V h =>
      ⟨⟨((bcell h).1 _ _ hg4).trans q3, ((bcell h).1 _ _ hg4).trans q4⟩, h⟩)
    go_region_held3 (fun V => (V.cell? ⟨w3.heap.size, 3, none⟩ = some (.int .i64 W) ∧ V.cell? ⟨w3.heap.size, 4, none⟩ = some (.int .i64 H)) ∧ Below W4.heap.size W4 V)
      (first
        | exact KS.out _ (bdrew (Below.refl _ _))
        | (go_split_ands; refine KS.out _ ?_; (repeat (first | assumption | exact Below.refl _ _ | with_reducible refine bdrew ?_ | refine bstep ?_ (by assumption))); done))
      (fail)
    all_goals
      go_wp2_with fail
      go_meet
      go_split_ands
      exact ⟨by rw [HA.out], by rw [HB.out], by first | assumption | exact bdrew (Below.refl _ _)⟩
  case rest =>
    obtain ⟨rfl, rfl, HB5⟩ := hcut
    obtain ⟨W5, rfl⟩ : ∃ W5 : World, W5 = wc := ⟨_, rfl⟩
    have HB6 := Aside0.mk (bstep HB4.out HB5)
    have HO5 := Aside0.mk (Kd.R_below HO4.out HB5)
    have HF5 := Aside0.mk (Kd.R_below HF4.out HB5)
    have G5 := Aside0.mk ((HB5.block _ (Array.getElem?_eq_some_iff.1 G4.out).1).trans G4.out)
    have F5 := Aside0.mk ((HB5.block _ (Array.getElem?_eq_some_iff.1 F4.out).1).trans F4.out)
    clear HB5 HO4 HF4 G4 F4 HB4
    have hg5 := (Array.getElem?_eq_some_iff.1 G5.out).1
    have hf5 := (Array.getElem?_eq_some_iff.1 F5.out).1
    go_upto_region 7 with fail
    obtain ⟨q0, q1, q2, q3, q4, q5⟩ := cells6 G5.out
    obtain ⟨f0, f1, f2⟩ := path_cells3 F5.out
    obtain ⟨hFl, hFc, hFC⟩ := Kd.R_reads' HF5.out
    obtain ⟨ad, rfl, hx⟩   := Kd.at_int hFC (b * W + a) (by omega) (by omega)
    rw [HRD.out] at hx
    obtain ⟨m, hm⟩ : ∃ m, m = b * W := ⟨_, rfl⟩
    obtain ⟨ix, hix⟩ : ∃ ix, ix = b * W + a := ⟨_, rfl⟩
    obtain ⟨m2, hm2⟩ : ∃ m2, m2 = (b + 1) * W := ⟨_, rfl⟩
    have i0 : 0 ≤ ix := by omega
    have i1 : ix < (F.length : Int) := by omega
    have s0 : 0 ≤ m := by omega
    have s1 : m ≤ m2 := by omega
    have s3 : m2 ≤ (F.length : Int) := by omega
    have s2 : m2 ≤ (cF : Int) := by omega
    have s4 : W.toNat = m2.toNat - m.toNat := by omega
    have e1 : IntKind.i64.wrap (b * W) = m := by rw [hm]; exact IntWalk.i64_in _ (by omega)
    have e2 : IntKind.i64.wrap (m + a) = ix := by rw [hm, hix]; exact IntWalk.i64_in _ (by omega)
    have e3 : IntKind.i64.wrap ((b + 1) * W) = m2 := by rw [hm2]; exact IntWalk.i64_in _ (by omega)
    have e4 : IntKind.i64.wrap (b + 1) = b + 1 := IntWalk.i64_in _ (by omega)
    have hcm : ¬ cF = m.toNat := by omega
    have hmW : m2 - m = W := by omega
    have HM := Aside0.mk hm; have HM2 := Aside0.mk hmW
    rw [← hix] at hx
    have hxl := World.block_lt_of_cell? _ _ hx
    clear n1 n2 n3 n4 hm hix hm2 hlen hmW
    have hrl : row = (F.drop m.toNat).take (m2.toNat - m.toNat) := by rw [HSL.out, ← HM.out, s4]
    have HCV := Aside0.mk (show ∀ V : World, Below W5.heap.size W5 V → Sem.run Try.prog (convert 55 9 (.slice (some (ad.add m.toNat)) (m2.toNat - m.toNat) (cF - m.toNat))) V = Result.ok (.string (strOfNums row)) V from fun V h => by
      have c1 := Kd.C_below hFC h
      have c2 := Kd.C_drop (m := m.toNat) (c := cF) c1 (by omega) (by omega)
      rw [if_neg hcm] at c2
      have c3 := Kd.C_take (m := m2.toNat - m.toNat) c2 (by rw [List.length_drop]; omega)
      rw [← hrl] at c3
      have hl3 : row.length = m2.toNat - m.toNat := by rw [hrl, List.length_take, List.length_drop]; omega
      rw [hl3] at c3
      have e : (some ad : Option Addr).map (·.add (m.toNat * (Kd.int .u8).sz)) = some (ad.add m.toNat) := by
        show some (ad.add (m.toNat * 1)) = _
        rw [Nat.mul_one]
      rw [e] at c3
      exact Kd.C_string Try.underlying55 Try.underlying5 Try.underlying9 c3)
    clear hrl
    clear f0 f1 f2 q0 q1 q2 q3 q4 q5
    refine region_invF (n := 38) (by kernel_rfl) [[], [], [], [], [0, 1, 2, 3], [], [5], [], [], [8], [7, 9], [], [10, 11], [6, 12], [13], [4, 14], [15], [16], [16], [16], [16, 17, 18, 19], [16, 20], [16], [16, 22], [16], [16], [16, 25], [16, 24, 26], [16], [16, 28], [16], [16, 30], [16, 29, 31], [16, 23, 27, 32], [16, 33], [16, 21, 34], [16, 35], [36]] (fun f act V => ∃ v : Nat → Value, act = ({ tmps := #[.slice A0 l0.length c0, .agg #[.int .u8 a1_0, .int .u8 a1_1, .int .u8 a1_2, .int .u8 a1_3, .int .u8 a1_4, .int .u8 a1_5], .int .u8 a2, .int .u8 a3, undef, .pointer (some ⟨w.heap.size, 0, none⟩), undef, undef, v 37, .slice A es.length c, .pointer (some ⟨w3.heap.size, 0, none⟩), .pointer (some ⟨w4.heap.size, 0, none⟩), .int .i64 a, .int .i64 b, u14, u15, u16, u17, u18, u19, u20, u21, u22, u23, u24, u25, u26, u27, u28, u29, u30, u31, u32, v 0, v 1, v 2, v 3, v 4, v 5, v 6, v 7, v 8, v 9, v 10, v 11, v 12, v 13, v 14, v 15, v 16, v 17, v 18, v 19, v 20, v 21, v 22, v 23, v 24, v 25, v 26, v 27, v 28, v 29, v 30, v 31, v 32, v 33, v 34, v 35, v 36], defers := [] } : Act) ∧ Below W5.heap.size W5 V ∧ ((f 0 = true → v 0 = .slice A es.length c) ∧ (f 1 = true → v 1 = .agg #[.int .i64 X, .int .i64 Y, .int .i64 P, .int .i64 W, .int .i64 H, .int .i64 S]) ∧ (f 2 = true → v 2 = .int .i64 a) ∧ (f 3 = true → v 3 = .int .i64 b) ∧ (f 4 = true → v 4 = .int .u8 t) ∧ (f 5 = true → v 5 = .pointer (some ⟨w4.heap.size, 2, none⟩)) ∧ (f 6 = true → v 6 = .slice (some ad) F.length cF) ∧ (f 7 = true → v 7 = .int .i64 b) ∧ (f 8 = true → v 8 = .pointer (some ⟨w3.heap.size, 3, none⟩)) ∧ (f 9 = true → v 9 = .int .i64 W) ∧ (f 10 = true → v 10 = .int .i64 m) ∧ (f 11 = true → v 11 = .int .i64 a) ∧ (f 12 = true → v 12 = .int .i64 ix) ∧ (f 13 = true → v 13 = .pointer (some (ad.add ix.toNat))) ∧ (f 14 = true → v 14 = .int .u8 t) ∧ (f 15 = true → v 15 = .bool true) ∧ (f 16 = true → v 16 = .bool true) ∧ (f 17 = true → v 17 = .slice A es.length c) ∧ (f 18 = true → v 18 = .agg #[.int .i64 X, .int .i64 Y, .int .i64 P, .int .i64 W, .int .i64 H, .int .i64 S]) ∧ (f 19 = true → v 19 = .int .i64 b) ∧ (f 20 = true → ∃ AR cR, v 20 = .slice AR row.length cR ∧ Kd.R (Kd.int .u8) 5 V W5.heap.size (fun _ => True) (v 20) row) ∧ (f 21 = true → v 21 = .string (strOfNums row)) ∧ (f 22 = true → v 22 = .pointer (some ⟨w4.heap.size, 2, none⟩)) ∧ (f 23 = true → v 23 = .slice (some ad) F.length cF) ∧ (f 24 = true → v 24 = .int .i64 b) ∧ (f 25 = true → v 25 = .pointer (some ⟨w3.heap.size, 3, none⟩)) ∧ (f 26 = true → v 26 = .int .i64 W) ∧ (f 27 = true → v 27 = .int .i64 m) ∧ (f 28 = true → v 28 = .int .i64 b) ∧ (f 29 = true → v 29 = .int .i64 (b + 1)) ∧ (f 30 = true → v 30 = .pointer (some ⟨w3.heap.size, 3, none⟩)) ∧ (f 31 = true → v 31 = .int .i64 W) ∧ (f 32 = true → v 32 = .int .i64 m2) ∧ (f 33 = true → v 33 = .slice (some (ad.add m.toNat)) (m2.toNat - m.toNat) (cF - m.toNat)) ∧ (f 34 = true → v 34 = .string (strOfNums row)) ∧ (f 35 = true → v 35 = .bool true) ∧ (f 36 = true → v 36 = .bool true) ∧ (f 37 = true → v 37 = .bool true))) rfl (by kernel_rfl) ?_ ⟨?_, ?_, ?_, ?_, ?_, ?_, ?_, ?_, ?_, ?_, ?_, ?_, ?_, ?_, ?_, ?_, ?_, ?_, ?_, ?_, ?_, ?_, ?_, ?_, ?_, ?_, ?_, ?_, ?_, ?_, ?_, ?_, ?_, ?_, ?_, ?_, ?_, ?_, trivial⟩ ?_
    · exact ⟨fun j => ([u33, u34, u35, u36, u37, u38, u39, u40, u41, u42, u43, u44, u45, u46, u47, u48, u49, u50, u51, u52, u53, u54, u55, u56, u57, u58, u59, u60, u61, u62, u63, u64, u65, u66, u67, u68, u69, .bool false] : List Value).getD j undef, rfl, bdrew (Below.refl _ _), fun h => (by cases h), fun h => (by cases h), fun h => (by cases h), fun h => (by cases h), fun h => (by cases h), fun h => (by cases h), fun h => (by cases h), fun h => (by cases h), fun h => (by cases h), fun h => (by cases h), fun h => (by cases h), fun h => (by cases h), fun h => (by cases h), fun h => (by cases h), fun h => (by cases h), fun h => (by cases h), fun h => (by cases h), fun h => (by cases h), fun h => (by cases h), fun h => (by cases h), fun h => (by cases h), fun h => (by cases h), fun h => (by cases h), fun h => (by cases h), fun h => (by cases h), fun h => (by cases h), fun h => (by cases h), fun h => (by cases h), fun h => (by cases h), fun h => (by cases h), fun h => (by cases h), fun h => (by cases h), fun h => (by cases h), fun h => (by cases h), fun h => (by cases h), fun h => (by cases h), fun h => (by cases h), fun h => (by cases h)⟩
    · rintro f act V ⟨v, rfl, HB, H⟩ hi hT K hK
      have HKK := Aside0.mk hK
      clear hK
      have HH := Aside0.mk H; have HBA := Aside0.mk HB
      clear H HB
      go_wp2_with fail
      exact HKK.out _ _ ⟨fun j => if j = 0 then .slice A es.length c else v j, by simp, HBA.out, fun _ => rfl, HH.out.2.1, HH.out.2.2.1, HH.out.2.2.2.1, HH.out.2.2.2.2.1, HH.out.2.2.2.2.2.1, HH.out.2.2.2.2.2.2.1, HH.out.2.2.2.2.2.2.2.1, HH.out.2.2.2.2.2.2.2.2.1, HH.out.2.2.2.2.2.2.2.2.2.1, HH.out.2.2.2.2.2.2.2.2.2.2.1, HH.out.2.2.2.2.2.2.2.2.2.2.2.1, HH.out.2.2.2.2.2.2.2.2.2.2.2.2.1, HH.out.2.2.2.2.2.2.2.2.2.2.2.2.2.1, HH.out.2.2.2.2.2.2.2.2.2.2.2.2.2.2.1, HH.out.2.2.2.2.2.2.2.2.2.2.2.2.2.2.2.1, HH.out.2.2.2.2.2.2.2.2.2.2.2.2.2.2.2.2.1, HH.out.2.2.2.2.2.2.2.2.2.2.2.2.2.2.2.2.2.1, HH.out.2.2.2.2.2.2.2.2.2.2.2.2.2.2.2.2.2.2.1, HH.out.2.2.2.2.2.2.2.2.2.2.2.2.2.2.2.2.2.2.2.1, HH.out.2.2.2.2.2.2.2.2.2.2.2.2.2.2.2.2.2.2.2.2.1, HH.out.2.2.2.2.2.2.2.2.2.2.2.2.2.2.2.2.2.2.2.2.2.1, HH.out.2.2.2.2.2.2.2.2.2.2.2.2.2.2.2.2.2.2.2.2.2.2.1, HH.out.2.2.2.2.2.2.2.2.2.2.2.2.2.2.2.2.2.2.2.2.2.2.2.1, HH.out.2.2.2.2.2.2.2.2.2.2.2.2.2.2.2.2.2.2.2.2.2.2.2.2.1, HH.out.2.2.2.2.2.2.2.2.2.2.2.2.2.2.2.2.2.2.2.2.2.2.2.2.2.1, HH.out.2.2.2.2.2.2.2.2.2.2.2.2.2.2.2.2.2.2.2.2.2.2.2.2.2.2.1, HH.out.2.2.2.2.2.2.2.2.2.2.2.2.2.2.2.2.2.2.2.2.2.2.2.2.2.2.2.1, HH.out.2.2.2.2.2.2.2.2.2.2.2.2.2.2.2.2.2.2.2.2.2.2.2.2.2.2.2.2.1, HH.out.2.2.2.2.2.2.2.2.2.2.2.2.2.2.2.2.2.2.2.2.2.2.2.2.2.2.2.2.2.1, HH.out.2.2.2.2.2.2.2.2.2.2.2.2.2.2.2.2.2.2.2.2.2.2.2.2.2.2.2.2.2.2.1, HH.out.2.2.2.2.2.2.2.2.2.2.2.2.2.2.2.2.2.2.2.2.2.2.2.2.2.2.2.2.2.2.2.1, HH.out.2.2.2.2.2.2.2.2.2.2.2.2.2.2.2.2.2.2.2.2.2.2.2.2.2.2.2.2.2.2.2.2.1, HH.out.2.2.2.2.2.2.2.2.2.2.2.2.2.2.2.2.2.2.2.2.2.2.2.2.2.2.2.2.2.2.2.2.2.1, HH.out.2.2.2.2.2.2.2.2.2.2.2.2.2.2.2.2.2.2.2.2.2.2.2.2.2.2.2.2.2.2.2.2.2.2.1, HH.out.2.2.2.2.2.2.2.2.2.2.2.2.2.2.2.2.2.2.2.2.2.2.2.2.2.2.2.2.2.2.2.2.2.2.2.1, HH.out.2.2.2.2.2.2.2.2.2.2.2.2.2.2.2.2.2.2.2.2.2.2.2.2.2.2.2.2.2.2.2.2.2.2.2.2.1, HH.out.2.2.2.2.2.2.2.2.2.2.2.2.2.2.2.2.2.2.2.2.2.2.2.2.2.2.2.2.2.2.2.2.2.2.2.2.2⟩
    · rintro f act V ⟨v, rfl, HB, H⟩ hi hT K hK
      have HKK := Aside0.mk hK
      clear hK
      obtain ⟨q0, q1, q2, q3, q4, q5⟩ := cells6 ((HB.block _ (by omega)).trans G5.out)
      have HH := Aside0.mk H; have HBA := Aside0.mk HB
      clear H HB
      go_wp2_with fail
      exact HKK.out _ _ ⟨fun j => if j = 1 then .agg #[.int .i64 X, .int .i64 Y, .int .i64 P, .int .i64 W, .int .i64 H, .int .i64 S] else v j, by simp, HBA.out, HH.out.1, fun _ => rfl, HH.out.2.2.1, HH.out.2.2.2.1, HH.out.2.2.2.2.1, HH.out.2.2.2.2.2.1, HH.out.2.2.2.2.2.2.1, HH.out.2.2.2.2.2.2.2.1, HH.out.2.2.2.2.2.2.2.2.1, HH.out.2.2.2.2.2.2.2.2.2.1, HH.out.2.2.2.2.2.2.2.2.2.2.1, HH.out.2.2.2.2.2.2.2.2.2.2.2.1, HH.out.2.2.2.2.2.2.2.2.2.2.2.2.1, HH.out.2.2.2.2.2.2.2.2.2.2.2.2.2.1, HH.out.2.2.2.2.2.2.2.2.2.2.2.2.2.2.1, HH.out.2.2.2.2.2.2.2.2.2.2.2.2.2.2.2.1, HH.out.2.2.2.2.2.2.2.2.2.2.2.2.2.2.2.2.1, HH.out.2.2.2.2.2.2.2.2.2.2.2.2.2.2.2.2.2.1, HH.out.2.2.2.2.2.2.2.2.2.2.2.2.2.2.2.2.2.2.1, HH.out.2.2.2.2.2.2.2.2.2.2.2.2.2.2.2.2.2.2.2.1, HH.out.2.2.2.2.2.2.2.2.2.2.2.2.2.2.2.2.2.2.2.2.1, HH.out.2.2.2.2.2.2.2.2.2.2.2.2.2.2.2.2.2.2.2.2.2.1, HH.out.2.2.2.2.2.2.2.2.2.2.2.2.2.2.2.2.2.2.2.2.2.2.1, HH.out.2.2.2.2.2.2.2.2.2.2.2.2.2.2.2.2.2.2.2.2.2.2.2.1, HH.out.2.2.2.2.2.2.2.2.2.2.2.2.2.2.2.2.2.2.2.2.2.2.2.2.1, HH.out.2.2.2.2.2.2.2.2.2.2.2.2.2.2.2.2.2.2.2.2.2.2.2.2.2.1, HH.out.2.2.2.2.2.2.2.2.2.2.2.2.2.2.2.2.2.2.2.2.2.2.2.2.2.2.1, HH.out.2.2.2.2.2.2.2.2.2.2.2.2.2.2.2.2.2.2.2.2.2.2.2.2.2.2.2.1, HH.out.2.2.2.2.2.2.2.2.2.2.2.2.2.2.2.2.2.2.2.2.2.2.2.2.2.2.2.2.1, HH.out.2.2.2.2.2.2.2.2.2.2.2.2.2.2.2.2.2.2.2.2.2.2.2.2.2.2.2.2.2.1, HH.out.2.2.2.2.2.2.2.2.2.2.2.2.2.2.2.2.2.2.2.2.2.2.2.2.2.2.2.2.2.2.1, HH.out.2.2.2.2.2.2.2.2.2.2.2.2.2.2.2.2.2.2.2.2.2.2.2.2.2.2.2.2.2.2.2.1, HH.out.2.2.2.2.2.2.2.2.2.2.2.2.2.2.2.2.2.2.2.2.2.2.2.2.2.2.2.2.2.2.2.2.1, HH.out.2.2.2.2.2.2.2.2.2.2.2.2.2.2.2.2.2.2.2.2.2.2.2.2.2.2.2.2.2.2.2.2.2.1, HH.out.2.2.2.2.2.2.2.2.2.2.2.2.2.2.2.2.2.2.2.2.2.2.2.2.2.2.2.2.2.2.2.2.2.2.1, HH.out.2.2.2.2.2.2.2.2.2.2.2.2.2.2.2.2.2.2.2.2.2.2.2.2.2.2.2.2.2.2.2.2.2.2.2.1, HH.out.2.2.2.2.2.2.2.2.2.2.2.2.2.2.2.2.2.2.2.2.2.2.2.2.2.2.2.2.2.2.2.2.2.2.2.2.1, HH.out.2.2.2.2.2.2.2.2.2.2.2.2.2.2.2.2.2.2.2.2.2.2.2.2.2.2.2.2.2.2.2.2.2.2.2.2.2⟩
    · rintro f act V ⟨v, rfl, HB, H⟩ hi hT K hK
      have HKK := Aside0.mk hK
      clear hK
      have HH := Aside0.mk H; have HBA := Aside0.mk HB
      clear H HB
      go_wp2_with fail
      exact HKK.out _ _ ⟨fun j => if j = 2 then .int .i64 a else v j, by simp, HBA.out, HH.out.1, HH.out.2.1, fun _ => rfl, HH.out.2.2.2.1, HH.out.2.2.2.2.1, HH.out.2.2.2.2.2.1, HH.out.2.2.2.2.2.2.1, HH.out.2.2.2.2.2.2.2.1, HH.out.2.2.2.2.2.2.2.2.1, HH.out.2.2.2.2.2.2.2.2.2.1, HH.out.2.2.2.2.2.2.2.2.2.2.1, HH.out.2.2.2.2.2.2.2.2.2.2.2.1, HH.out.2.2.2.2.2.2.2.2.2.2.2.2.1, HH.out.2.2.2.2.2.2.2.2.2.2.2.2.2.1, HH.out.2.2.2.2.2.2.2.2.2.2.2.2.2.2.1, HH.out.2.2.2.2.2.2.2.2.2.2.2.2.2.2.2.1, HH.out.2.2.2.2.2.2.2.2.2.2.2.2.2.2.2.2.1, HH.out.2.2.2.2.2.2.2.2.2.2.2.2.2.2.2.2.2.1, HH.out.2.2.2.2.2.2.2.2.2.2.2.2.2.2.2.2.2.2.1, HH.out.2.2.2.2.2.2.2.2.2.2.2.2.2.2.2.2.2.2.2.1, HH.out.2.2.2.2.2.2.2.2.2.2.2.2.2.2.2.2.2.2.2.2.1, HH.out.2.2.2.2.2.2.2.2.2.2.2.2.2.2.2.2.2.2.2.2.2.1, HH.out.2.2.2.2.2.2.2.2.2.2.2.2.2.2.2.2.2.2.2.2.2.2.1, HH.out.2.2.2.2.2.2.2.2.2.2.2.2.2.2.2.2.2.2.2.2.2.2.2.1, HH.out.2.2.2.2.2.2.2.2.2.2.2.2.2.2.2.2.2.2.2.2.2.2.2.2.1, HH.out.2.2.2.2.2.2.2.2.2.2.2.2.2.2.2.2.2.2.2.2.2.2.2.2.2.1, HH.out.2.2.2.2.2.2.2.2.2.2.2.2.2.2.2.2.2.2.2.2.2.2.2.2.2.2.1, HH.out.2.2.2.2.2.2.2.2.2.2.2.2.2.2.2.2.2.2.2.2.2.2.2.2.2.2.2.1, HH.out.2.2.2.2.2.2.2.2.2.2.2.2.2.2.2.2.2.2.2.2.2.2.2.2.2.2.2.2.1, HH.out.2.2.2.2.2.2.2.2.2.2.2.2.2.2.2.2.2.2.2.2.2.2.2.2.2.2.2.2.2.1, HH.out.2.2.2.2.2.2.2.2.2.2.2.2.2.2.2.2.2.2.2.2.2.2.2.2.2.2.2.2.2.2.1, HH.out.2.2.2.2.2.2.2.2.2.2.2.2.2.2.2.2.2.2.2.2.2.2.2.2.2.2.2.2.2.2.2.1, HH.out.2.2.2.2.2.2.2.2.2.2.2.2.2.2.2.2.2.2.2.2.2.2.2.2.2.2.2.2.2.2.2.2.1, HH.out.2.2.2.2.2.2.2.2.2.2.2.2.2.2.2.2.2.2.2.2.2.2.2.2.2.2.2.2.2.2.2.2.2.1, HH.out.2.2.2.2.2.2.2.2.2.2.2.2.2.2.2.2.2.2.2.2.2.2.2.2.2.2.2.2.2.2.2.2.2.2.1, HH.out.2.2.2.2.2.2.2.2.2.2.2.2.2.2.2.2.2.2.2.2.2.2.2.2.2.2.2.2.2.2.2.2.2.2.2.1, HH.out.2.2.2.2.2.2.2.2.2.2.2.2.2.2.2.2.2.2.2.2.2.2.2.2.2.2.2.2.2.2.2.2.2.2.2.2.1, HH.out.2.2.2.2.2.2.2.2.2.2.2.2.2.2.2.2.2.2.2.2.2.2.2.2.2.2.2.2.2.2.2.2.2.2.2.2.2⟩
    · rintro f act V ⟨v, rfl, HB, H⟩ hi hT K hK
      have HKK := Aside0.mk hK
      clear hK
      have HH := Aside0.mk H; have HBA := Aside0.mk HB
      clear H HB
      go_wp2_with fail
      exact HKK.out _ _ ⟨fun j => if j = 3 then .int .i64 b else v j, by simp, HBA.out, HH.out.1, HH.out.2.1, HH.out.2.2.1, fun _ => rfl, HH.out.2.2.2.2.1, HH.out.2.2.2.2.2.1, HH.out.2.2.2.2.2.2.1, HH.out.2.2.2.2.2.2.2.1, HH.out.2.2.2.2.2.2.2.2.1, HH.out.2.2.2.2.2.2.2.2.2.1, HH.out.2.2.2.2.2.2.2.2.2.2.1, HH.out.2.2.2.2.2.2.2.2.2.2.2.1, HH.out.2.2.2.2.2.2.2.2.2.2.2.2.1, HH.out.2.2.2.2.2.2.2.2.2.2.2.2.2.1, HH.out.2.2.2.2.2.2.2.2.2.2.2.2.2.2.1, HH.out.2.2.2.2.2.2.2.2.2.2.2.2.2.2.2.1, HH.out.2.2.2.2.2.2.2.2.2.2.2.2.2.2.2.2.1, HH.out.2.2.2.2.2.2.2.2.2.2.2.2.2.2.2.2.2.1, HH.out.2.2.2.2.2.2.2.2.2.2.2.2.2.2.2.2.2.2.1, HH.out.2.2.2.2.2.2.2.2.2.2.2.2.2.2.2.2.2.2.2.1, HH.out.2.2.2.2.2.2.2.2.2.2.2.2.2.2.2.2.2.2.2.2.1, HH.out.2.2.2.2.2.2.2.2.2.2.2.2.2.2.2.2.2.2.2.2.2.1, HH.out.2.2.2.2.2.2.2.2.2.2.2.2.2.2.2.2.2.2.2.2.2.2.1, HH.out.2.2.2.2.2.2.2.2.2.2.2.2.2.2.2.2.2.2.2.2.2.2.2.1, HH.out.2.2.2.2.2.2.2.2.2.2.2.2.2.2.2.2.2.2.2.2.2.2.2.2.1, HH.out.2.2.2.2.2.2.2.2.2.2.2.2.2.2.2.2.2.2.2.2.2.2.2.2.2.1, HH.out.2.2.2.2.2.2.2.2.2.2.2.2.2.2.2.2.2.2.2.2.2.2.2.2.2.2.1, HH.out.2.2.2.2.2.2.2.2.2.2.2.2.2.2.2.2.2.2.2.2.2.2.2.2.2.2.2.1, HH.out.2.2.2.2.2.2.2.2.2.2.2.2.2.2.2.2.2.2.2.2.2.2.2.2.2.2.2.2.1, HH.out.2.2.2.2.2.2.2.2.2.2.2.2.2.2.2.2.2.2.2.2.2.2.2.2.2.2.2.2.2.1, HH.out.2.2.2.2.2.2.2.2.2.2.2.2.2.2.2.2.2.2.2.2.2.2.2.2.2.2.2.2.2.2.1, HH.out.2.2.2.2.2.2.2.2.2.2.2.2.2.2.2.2.2.2.2.2.2.2.2.2.2.2.2.2.2.2.2.1, HH.out.2.2.2.2.2.2.2.2.2.2.2.2.2.2.2.2.2.2.2.2.2.2.2.2.2.2.2.2.2.2.2.2.1, HH.out.2.2.2.2.2.2.2.2.2.2.2.2.2.2.2.2.2.2.2.2.2.2.2.2.2.2.2.2.2.2.2.2.2.1, HH.out.2.2.2.2.2.2.2.2.2.2.2.2.2.2.2.2.2.2.2.2.2.2.2.2.2.2.2.2.2.2.2.2.2.2.1, HH.out.2.2.2.2.2.2.2.2.2.2.2.2.2.2.2.2.2.2.2.2.2.2.2.2.2.2.2.2.2.2.2.2.2.2.2.1, HH.out.2.2.2.2.2.2.2.2.2.2.2.2.2.2.2.2.2.2.2.2.2.2.2.2.2.2.2.2.2.2.2.2.2.2.2.2.1, HH.out.2.2.2.2.2.2.2.2.2.2.2.2.2.2.2.2.2.2.2.2.2.2.2.2.2.2.2.2.2.2.2.2.2.2.2.2.2⟩
    · rintro f act V ⟨v, rfl, HB, H⟩ hi hT K hK
      have HKK := Aside0.mk hK
      clear hK
      have e0 := H.1 (hT 0 (by decide))
      have e1 := H.2.1 (hT 1 (by decide))
      have e2 := H.2.2.1 (hT 2 (by decide))
      have e3 := H.2.2.2.1 (hT 3 (by decide))
      simp only [e0, e1, e2, e3]
      have HH := Aside0.mk H; have HBA := Aside0.mk HB
      clear H HB
      go_wp2_with fail
      refine (sdf_Texel.calls k A c es X Y P W H S a b t _ (Kd.C_below (rC HO5.out).1 HBA.out) (rC HO5.out).2 HT.out).mono ?_
      rintro e w' ⟨rfl, hb⟩
      exact HKK.out _ _ ⟨fun j => if j = 4 then .int .u8 t else v j, by simp [e0, e1, e2, e3], bstep HBA.out hb, HH.out.1, HH.out.2.1, HH.out.2.2.1, HH.out.2.2.2.1, fun _ => rfl, HH.out.2.2.2.2.2.1, HH.out.2.2.2.2.2.2.1, HH.out.2.2.2.2.2.2.2.1, HH.out.2.2.2.2.2.2.2.2.1, HH.out.2.2.2.2.2.2.2.2.2.1, HH.out.2.2.2.2.2.2.2.2.2.2.1, HH.out.2.2.2.2.2.2.2.2.2.2.2.1, HH.out.2.2.2.2.2.2.2.2.2.2.2.2.1, HH.out.2.2.2.2.2.2.2.2.2.2.2.2.2.1, HH.out.2.2.2.2.2.2.2.2.2.2.2.2.2.2.1, HH.out.2.2.2.2.2.2.2.2.2.2.2.2.2.2.2.1, HH.out.2.2.2.2.2.2.2.2.2.2.2.2.2.2.2.2.1, HH.out.2.2.2.2.2.2.2.2.2.2.2.2.2.2.2.2.2.1, HH.out.2.2.2.2.2.2.2.2.2.2.2.2.2.2.2.2.2.2.1, HH.out.2.2.2.2.2.2.2.2.2.2.2.2.2.2.2.2.2.2.2.1, fun h => (let ⟨x, y, e, r⟩ := HH.out.2.2.2.2.2.2.2.2.2.2.2.2.2.2.2.2.2.2.2.2.1 h; ⟨x, y, e, Kd.R_below r hb⟩), HH.out.2.2.2.2.2.2.2.2.2.2.2.2.2.2.2.2.2.2.2.2.2.1, HH.out.2.2.2.2.2.2.2.2.2.2.2.2.2.2.2.2.2.2.2.2.2.2.1, HH.out.2.2.2.2.2.2.2.2.2.2.2.2.2.2.2.2.2.2.2.2.2.2.2.1, HH.out.2.2.2.2.2.2.2.2.2.2.2.2.2.2.2.2.2.2.2.2.2.2.2.2.1, HH.out.2.2.2.2.2.2.2.2.2.2.2.2.2.2.2.2.2.2.2.2.2.2.2.2.2.1, HH.out.2.2.2.2.2.2.2.2.2.2.2.2.2.2.2.2.2.2.2.2.2.2.2.2.2.2.1, HH.out.2.2.2.2.2.2.2.2.2.2.2.2.2.2.2.2.2.2.2.2.2.2.2.2.2.2.2.1, HH.out.2.2.2.2.2.2.2.2.2.2.2.2.2.2.2.2.2.2.2.2.2.2.2.2.2.2.2.2.1, HH.out.2.2.2.2.2.2.2.2.2.2.2.2.2.2.2.2.2.2.2.2.2.2.2.2.2.2.2.2.2.1, HH.out.2.2.2.2.2.2.2.2.2.2.2.2.2.2.2.2.2.2.2.2.2.2.2.2.2.2.2.2.2.2.1, HH.out.2.2.2.2.2.2.2.2.2.2.2.2.2.2.2.2.2.2.2.2.2.2.2.2.2.2.2.2.2.2.2.1, HH.out.2.2.2.2.2.2.2.2.2.2.2.2.2.2.2.2.2.2.2.2.2.2.2.2.2.2.2.2.2.2.2.2.1, HH.out.2.2.2.2.2.2.2.2.2.2.2.2.2.2.2.2.2.2.2.2.2.2.2.2.2.2.2.2.2.2.2.2.2.1, HH.out.2.2.2.2.2.2.2.2.2.2.2.2.2.2.2.2.2.2.2.2.2.2.2.2.2.2.2.2.2.2.2.2.2.2.1, HH.out.2.2.2.2.2.2.2.2.2.2.2.2.2.2.2.2.2.2.2.2.2.2.2.2.2.2.2.2.2.2.2.2.2.2.2.1, HH.out.2.2.2.2.2.2.2.2.2.2.2.2.2.2.2.2.2.2.2.2.2.2.2.2.2.2.2.2.2.2.2.2.2.2.2.2.1, HH.out.2.2.2.2.2.2.2.2.2.2.2.2.2.2.2.2.2.2.2.2.2.2.2.2.2.2.2.2.2.2.2.2.2.2.2.2.2⟩
    · rintro f act V ⟨v, rfl, HB, H⟩ hi hT K hK
      have HKK := Aside0.mk hK
      clear hK
      have HH := Aside0.mk H; have HBA := Aside0.mk HB
      clear H HB
      go_wp2_with fail
      exact HKK.out _ _ ⟨fun j => if j = 5 then .pointer (some ⟨w4.heap.size, 2, none⟩) else v j, by simp, HBA.out, HH.out.1, HH.out.2.1, HH.out.2.2.1, HH.out.2.2.2.1, HH.out.2.2.2.2.1, fun _ => rfl, HH.out.2.2.2.2.2.2.1, HH.out.2.2.2.2.2.2.2.1, HH.out.2.2.2.2.2.2.2.2.1, HH.out.2.2.2.2.2.2.2.2.2.1, HH.out.2.2.2.2.2.2.2.2.2.2.1, HH.out.2.2.2.2.2.2.2.2.2.2.2.1, HH.out.2.2.2.2.2.2.2.2.2.2.2.2.1, HH.out.2.2.2.2.2.2.2.2.2.2.2.2.2.1, HH.out.2.2.2.2.2.2.2.2.2.2.2.2.2.2.1, HH.out.2.2.2.2.2.2.2.2.2.2.2.2.2.2.2.1, HH.out.2.2.2.2.2.2.2.2.2.2.2.2.2.2.2.2.1, HH.out.2.2.2.2.2.2.2.2.2.2.2.2.2.2.2.2.2.1, HH.out.2.2.2.2.2.2.2.2.2.2.2.2.2.2.2.2.2.2.1, HH.out.2.2.2.2.2.2.2.2.2.2.2.2.2.2.2.2.2.2.2.1, HH.out.2.2.2.2.2.2.2.2.2.2.2.2.2.2.2.2.2.2.2.2.1, HH.out.2.2.2.2.2.2.2.2.2.2.2.2.2.2.2.2.2.2.2.2.2.1, HH.out.2.2.2.2.2.2.2.2.2.2.2.2.2.2.2.2.2.2.2.2.2.2.1, HH.out.2.2.2.2.2.2.2.2.2.2.2.2.2.2.2.2.2.2.2.2.2.2.2.1, HH.out.2.2.2.2.2.2.2.2.2.2.2.2.2.2.2.2.2.2.2.2.2.2.2.2.1, HH.out.2.2.2.2.2.2.2.2.2.2.2.2.2.2.2.2.2.2.2.2.2.2.2.2.2.1, HH.out.2.2.2.2.2.2.2.2.2.2.2.2.2.2.2.2.2.2.2.2.2.2.2.2.2.2.1, HH.out.2.2.2.2.2.2.2.2.2.2.2.2.2.2.2.2.2.2.2.2.2.2.2.2.2.2.2.1, HH.out.2.2.2.2.2.2.2.2.2.2.2.2.2.2.2.2.2.2.2.2.2.2.2.2.2.2.2.2.1, HH.out.2.2.2.2.2.2.2.2.2.2.2.2.2.2.2.2.2.2.2.2.2.2.2.2.2.2.2.2.2.1, HH.out.2.2.2.2.2.2.2.2.2.2.2.2.2.2.2.2.2.2.2.2.2.2.2.2.2.2.2.2.2.2.1, HH.out.2.2.2.2.2.2.2.2.2.2.2.2.2.2.2.2.2.2.2.2.2.2.2.2.2.2.2.2.2.2.2.1, HH.out.2.2.2.2.2.2.2.2.2.2.2.2.2.2.2.2.2.2.2.2.2.2.2.2.2.2.2.2.2.2.2.2.1, HH.out.2.2.2.2.2.2.2.2.2.2.2.2.2.2.2.2.2.2.2.2.2.2.2.2.2.2.2.2.2.2.2.2.2.1, HH.out.2.2.2.2.2.2.2.2.2.2.2.2.2.2.2.2.2.2.2.2.2.2.2.2.2.2.2.2.2.2.2.2.2.2.1, HH.out.2.2.2.2.2.2.2.2.2.2.2.2.2.2.2.2.2.2.2.2.2.2.2.2.2.2.2.2.2.2.2.2.2.2.2.1, HH.out.2.2.2.2.2.2.2.2.2.2.2.2.2.2.2.2.2.2.2.2.2.2.2.2.2.2.2.2.2.2.2.2.2.2.2.2.1, HH.out.2.2.2.2.2.2.2.2.2.2.2.2.2.2.2.2.2.2.2.2.2.2.2.2.2.2.2.2.2.2.2.2.2.2.2.2.2⟩
    · rintro f act V ⟨v, rfl, HB, H⟩ hi hT K hK
      have HKK := Aside0.mk hK
      clear hK
      have e5 := H.2.2.2.2.2.1 (hT 5 (by decide))
      simp only [e5]
      obtain ⟨f0, f1, f2⟩ := path_cells3 ((HB.block _ (by omega)).trans F5.out)
      have HH := Aside0.mk H; have HBA := Aside0.mk HB
      clear H HB
      go_wp2_with fail
      exact HKK.out _ _ ⟨fun j => if j = 6 then .slice (some ad) F.length cF else v j, by simp [e5], HBA.out, HH.out.1, HH.out.2.1, HH.out.2.2.1, HH.out.2.2.2.1, HH.out.2.2.2.2.1, HH.out.2.2.2.2.2.1, fun _ => rfl, HH.out.2.2.2.2.2.2.2.1, HH.out.2.2.2.2.2.2.2.2.1, HH.out.2.2.2.2.2.2.2.2.2.1, HH.out.2.2.2.2.2.2.2.2.2.2.1, HH.out.2.2.2.2.2.2.2.2.2.2.2.1, HH.out.2.2.2.2.2.2.2.2.2.2.2.2.1, HH.out.2.2.2.2.2.2.2.2.2.2.2.2.2.1, HH.out.2.2.2.2.2.2.2.2.2.2.2.2.2.2.1, HH.out.2.2.2.2.2.2.2.2.2.2.2.2.2.2.2.1, HH.out.2.2.2.2.2.2.2.2.2.2.2.2.2.2.2.2.1, HH.out.2.2.2.2.2.2.2.2.2.2.2.2.2.2.2.2.2.1, HH.out.2.2.2.2.2.2.2.2.2.2.2.2.2.2.2.2.2.2.1, HH.out.2.2.2.2.2.2.2.2.2.2.2.2.2.2.2.2.2.2.2.1, HH.out.2.2.2.2.2.2.2.2.2.2.2.2.2.2.2.2.2.2.2.2.1, HH.out.2.2.2.2.2.2.2.2.2.2.2.2.2.2.2.2.2.2.2.2.2.1, HH.out.2.2.2.2.2.2.2.2.2.2.2.2.2.2.2.2.2.2.2.2.2.2.1, HH.out.2.2.2.2.2.2.2.2.2.2.2.2.2.2.2.2.2.2.2.2.2.2.2.1, HH.out.2.2.2.2.2.2.2.2.2.2.2.2.2.2.2.2.2.2.2.2.2.2.2.2.1, HH.out.2.2.2.2.2.2.2.2.2.2.2.2.2.2.2.2.2.2.2.2.2.2.2.2.2.1, HH.out.2.2.2.2.2.2.2.2.2.2.2.2.2.2.2.2.2.2.2.2.2.2.2.2.2.2.1, HH.out.2.2.2.2.2.2.2.2.2.2.2.2.2.2.2.2.2.2.2.2.2.2.2.2.2.2.2.1, HH.out.2.2.2.2.2.2.2.2.2.2.2.2.2.2.2.2.2.2.2.2.2.2.2.2.2.2.2.2.1, HH.out.2.2.2.2.2.2.2.2.2.2.2.2.2.2.2.2.2.2.2.2.2.2.2.2.2.2.2.2.2.1, HH.out.2.2.2.2.2.2.2.2.2.2.2.2.2.2.2.2.2.2.2.2.2.2.2.2.2.2.2.2.2.2.1, HH.out.2.2.2.2.2.2.2.2.2.2.2.2.2.2.2.2.2.2.2.2.2.2.2.2.2.2.2.2.2.2.2.1, HH.out.2.2.2.2.2.2.2.2.2.2.2.2.2.2.2.2.2.2.2.2.2.2.2.2.2.2.2.2.2.2.2.2.1, HH.out.2.2.2.2.2.2.2.2.2.2.2.2.2.2.2.2.2.2.2.2.2.2.2.2.2.2.2.2.2.2.2.2.2.1, HH.out.2.2.2.2.2.2.2.2.2.2.2.2.2.2.2.2.2.2.2.2.2.2.2.2.2.2.2.2.2.2.2.2.2.2.1, HH.out.2.2.2.2.2.2.2.2.2.2.2.2.2.2.2.2.2.2.2.2.2.2.2.2.2.2.2.2.2.2.2.2.2.2.2.1, HH.out.2.2.2.2.2.2.2.2.2.2.2.2.2.2.2.2.2.2.2.2.2.2.2.2.2.2.2.2.2.2.2.2.2.2.2.2.1, HH.out.2.2.2.2.2.2.2.2.2.2.2.2.2.2.2.2.2.2.2.2.2.2.2.2.2.2.2.2.2.2.2.2.2.2.2.2.2⟩
    · rintro f act V ⟨v, rfl, HB, H⟩ hi hT K hK
      have HKK := Aside0.mk hK
      clear hK
      have HH := Aside0.mk H; have HBA := Aside0.mk HB
      clear H HB
      go_wp2_with fail
      exact HKK.out _ _ ⟨fun j => if j = 7 then .int .i64 b else v j, by simp, HBA.out, HH.out.1, HH.out.2.1, HH.out.2.2.1, HH.out.2.2.2.1, HH.out.2.2.2.2.1, HH.out.2.2.2.2.2.1, HH.out.2.2.2.2.2.2.1, fun _ => rfl, HH.out.2.2.2.2.2.2.2.2.1, HH.out.2.2.2.2.2.2.2.2.2.1, HH.out.2.2.2.2.2.2.2.2.2.2.1, HH.out.2.2.2.2.2.2.2.2.2.2.2.1, HH.out.2.2.2.2.2.2.2.2.2.2.2.2.1, HH.out.2.2.2.2.2.2.2.2.2.2.2.2.2.1, HH.out.2.2.2.2.2.2.2.2.2.2.2.2.2.2.1, HH.out.2.2.2.2.2.2.2.2.2.2.2.2.2.2.2.1, HH.out.2.2.2.2.2.2.2.2.2.2.2.2.2.2.2.2.1, HH.out.2.2.2.2.2.2.2.2.2.2.2.2.2.2.2.2.2.1, HH.out.2.2.2.2.2.2.2.2.2.2.2.2.2.2.2.2.2.2.1, HH.out.2.2.2.2.2.2.2.2.2.2.2.2.2.2.2.2.2.2.2.1, HH.out.2.2.2.2.2.2.2.2.2.2.2.2.2.2.2.2.2.2.2.2.1, HH.out.2.2.2.2.2.2.2.2.2.2.2.2.2.2.2.2.2.2.2.2.2.1, HH.out.2.2.2.2.2.2.2.2.2.2.2.2.2.2.2.2.2.2.2.2.2.2.1, HH.out.2.2.2.2.2.2.2.2.2.2.2.2.2.2.2.2.2.2.2.2.2.2.2.1, HH.out.2.2.2.2.2.2.2.2.2.2.2.2.2.2.2.2.2.2.2.2.2.2.2.2.1, HH.out.2.2.2.2.2.2.2.2.2.2.2.2.2.2.2.2.2.2.2.2.2.2.2.2.2.1, HH.out.2.2.2.2.2.2.2.2.2.2.2.2.2.2.2.2.2.2.2.2.2.2.2.2.2.2.1, HH.out.2.2.2.2.2.2.2.2.2.2.2.2.2.2.2.2.2.2.2.2.2.2.2.2.2.2.2.1, HH.out.2.2.2.2.2.2.2.2.2.2.2.2.2.2.2.2.2.2.2.2.2.2.2.2.2.2.2.2.1, HH.out.2.2.2.2.2.2.2.2.2.2.2.2.2.2.2.2.2.2.2.2.2.2.2.2.2.2.2.2.2.1, HH.out.2.2.2.2.2.2.2.2.2.2.2.2.2.2.2.2.2.2.2.2.2.2.2.2.2.2.2.2.2.2.1, HH.out.2.2.2.2.2.2.2.2.2.2.2.2.2.2.2.2.2.2.2.2.2.2.2.2.2.2.2.2.2.2.2.1, HH.out.2.2.2.2.2.2.2.2.2.2.2.2.2.2.2.2.2.2.2.2.2.2.2.2.2.2.2.2.2.2.2.2.1, HH.out.2.2.2.2.2.2.2.2.2.2.2.2.2.2.2.2.2.2.2.2.2.2.2.2.2.2.2.2.2.2.2.2.2.1, HH.out.2.2.2.2.2.2.2.2.2.2.2.2.2.2.2.2.2.2.2.2.2.2.2.2.2.2.2.2.2.2.2.2.2.2.1, HH.out.2.2.2.2.2.2.2.2.2.2.2.2.2.2.2.2.2.2.2.2.2.2.2.2.2.2.2.2.2.2.2.2.2.2.2.1, HH.out.2.2.2.2.2.2.2.2.2.2.2.2.2.2.2.2.2.2.2.2.2.2.2.2.2.2.2.2.2.2.2.2.2.2.2.2.1, HH.out.2.2.2.2.2.2.2.2.2.2.2.2.2.2.2.2.2.2.2.2.2.2.2.2.2.2.2.2.2.2.2.2.2.2.2.2.2⟩
    · rintro f act V ⟨v, rfl, HB, H⟩ hi hT K hK
      have HKK := Aside0.mk hK
      clear hK
      have HH := Aside0.mk H; have HBA := Aside0.mk HB
      clear H HB
      go_wp2_with fail
      exact HKK.out _ _ ⟨fun j => if j = 8 then .pointer (some ⟨w3.heap.size, 3, none⟩) else v j, by simp, HBA.out, HH.out.1, HH.out.2.1, HH.out.2.2.1, HH.out.2.2.2.1, HH.out.2.2.2.2.1, HH.out.2.2.2.2.2.1, HH.out.2.2.2.2.2.2.1, HH.out.2.2.2.2.2.2.2.1, fun _ => rfl, HH.out.2.2.2.2.2.2.2.2.2.1, HH.out.2.2.2.2.2.2.2.2.2.2.1, HH.out.2.2.2.2.2.2.2.2.2.2.2.1, HH.out.2.2.2.2.2.2.2.2.2.2.2.2.1, HH.out.2.2.2.2.2.2.2.2.2.2.2.2.2.1, HH.out.2.2.2.2.2.2.2.2.2.2.2.2.2.2.1, HH.out.2.2.2.2.2.2.2.2.2.2.2.2.2.2.2.1, HH.out.2.2.2.2.2.2.2.2.2.2.2.2.2.2.2.2.1, HH.out.2.2.2.2.2.2.2.2.2.2.2.2.2.2.2.2.2.1, HH.out.2.2.2.2.2.2.2.2.2.2.2.2.2.2.2.2.2.2.1, HH.out.2.2.2.2.2.2.2.2.2.2.2.2.2.2.2.2.2.2.2.1, HH.out.2.2.2.2.2.2.2.2.2.2.2.2.2.2.2.2.2.2.2.2.1, HH.out.2.2.2.2.2.2.2.2.2.2.2.2.2.2.2.2.2.2.2.2.2.1, HH.out.2.2.2.2.2.2.2.2.2.2.2.2.2.2.2.2.2.2.2.2.2.2.1, HH.out.2.2.2.2.2.2.2.2.2.2.2.2.2.2.2.2.2.2.2.2.2.2.2.1, HH.out.2.2.2.2.2.2.2.2.2.2.2.2.2.2.2.2.2.2.2.2.2.2.2.2.1, HH.out.2.2.2.2.2.2.2.2.2.2.2.2.2.2.2.2.2.2.2.2.2.2.2.2.2.1, HH.out.2.2.2.2.2.2.2.2.2.2.2.2.2.2.2.2.2.2.2.2.2.2.2.2.2.2.1, HH.out.2.2.2.2.2.2.2.2.2.2.2.2.2.2.2.2.2.2.2.2.2.2.2.2.2.2.2.1, HH.out.2.2.2.2.2.2.2.2.2.2.2.2.2.2.2.2.2.2.2.2.2.2.2.2.2.2.2.2.1, HH.out.2.2.2.2.2.2.2.2.2.2.2.2.2.2.2.2.2.2.2.2.2.2.2.2.2.2.2.2.2.1, HH.out.2.2.2.2.2.2.2.2.2.2.2.2.2.2.2.2.2.2.2.2.2.2.2.2.2.2.2.2.2.2.1, HH.out.2.2.2.2.2.2.2.2.2.2.2.2.2.2.2.2.2.2.2.2.2.2.2.2.2.2.2.2.2.2.2.1, HH.out.2.2.2.2.2.2.2.2.2.2.2.2.2.2.2.2.2.2.2.2.2.2.2.2.2.2.2.2.2.2.2.2.1, HH.out.2.2.2.2.2.2.2.2.2.2.2.2.2.2.2.2.2.2.2.2.2.2.2.2.2.2.2.2.2.2.2.2.2.1, HH.out.2.2.2.2.2.2.2.2.2.2.2.2.2.2.2.2.2.2.2.2.2.2.2.2.2.2.2.2.2.2.2.2.2.2.1, HH.out.2.2.2.2.2.2.2.2.2.2.2.2.2.2.2.2.2.2.2.2.2.2.2.2.2.2.2.2.2.2.2.2.2.2.2.1, HH.out.2.2.2.2.2.2.2.2.2.2.2.2.2.2.2.2.2.2.2.2.2.2.2.2.2.2.2.2.2.2.2.2.2.2.2.2.1, HH.out.2.2.2.2.2.2.2.2.2.2.2.2.2.2.2.2.2.2.2.2.2.2.2.2.2.2.2.2.2.2.2.2.2.2.2.2.2⟩
    · rintro f act V ⟨v, rfl, HB, H⟩ hi hT K hK
      have HKK := Aside0.mk hK
      clear hK
      have e8 := H.2.2.2.2.2.2.2.2.1 (hT 8 (by decide))
      simp only [e8]
      obtain ⟨q0, q1, q2, q3, q4, q5⟩ := cells6 ((HB.block _ (by omega)).trans G5.out)
      have HH := Aside0.mk H; have HBA := Aside0.mk HB
      clear H HB
      go_wp2_with fail
      exact HKK.out _ _ ⟨fun j => if j = 9 then .int .i64 W else v j, by simp [e8], HBA.out, HH.out.1, HH.out.2.1, HH.out.2.2.1, HH.out.2.2.2.1, HH.out.2.2.2.2.1, HH.out.2.2.2.2.2.1, HH.out.2.2.2.2.2.2.1, HH.out.2.2.2.2.2.2.2.1, HH.out.2.2.2.2.2.2.2.2.1, fun _ => rfl, HH.out.2.2.2.2.2.2.2.2.2.2.1, HH.out.2.2.2.2.2.2.2.2.2.2.2.1, HH.out.2.2.2.2.2.2.2.2.2.2.2.2.1, HH.out.2.2.2.2.2.2.2.2.2.2.2.2.2.1, HH.out.2.2.2.2.2.2.2.2.2.2.2.2.2.2.1, HH.out.2.2.2.2.2.2.2.2.2.2.2.2.2.2.2.1, HH.out.2.2.2.2.2.2.2.2.2.2.2.2.2.2.2.2.1, HH.out.2.2.2.2.2.2.2.2.2.2.2.2.2.2.2.2.2.1, HH.out.2.2.2.2.2.2.2.2.2.2.2.2.2.2.2.2.2.2.1, HH.out.2.2.2.2.2.2.2.2.2.2.2.2.2.2.2.2.2.2.2.1, HH.out.2.2.2.2.2.2.2.2.2.2.2.2.2.2.2.2.2.2.2.2.1, HH.out.2.2.2.2.2.2.2.2.2.2.2.2.2.2.2.2.2.2.2.2.2.1, HH.out.2.2.2.2.2.2.2.2.2.2.2.2.2.2.2.2.2.2.2.2.2.2.1, HH.out.2.2.2.2.2.2.2.2.2.2.2.2.2.2.2.2.2.2.2.2.2.2.2.1, HH.out.2.2.2.2.2.2.2.2.2.2.2.2.2.2.2.2.2.2.2.2.2.2.2.2.1, HH.out.2.2.2.2.2.2.2.2.2.2.2.2.2.2.2.2.2.2.2.2.2.2.2.2.2.1, HH.out.2.2.2.2.2.2.2.2.2.2.2.2.2.2.2.2.2.2.2.2.2.2.2.2.2.2.1, HH.out.2.2.2.2.2.2.2.2.2.2.2.2.2.2.2.2.2.2.2.2.2.2.2.2.2.2.2.1, HH.out.2.2.2.2.2.2.2.2.2.2.2.2.2.2.2.2.2.2.2.2.2.2.2.2.2.2.2.2.1, HH.out.2.2.2.2.2.2.2.2.2.2.2.2.2.2.2.2.2.2.2.2.2.2.2.2.2.2.2.2.2.1, HH.out.2.2.2.2.2.2.2.2.2.2.2.2.2.2.2.2.2.2.2.2.2.2.2.2.2.2.2.2.2.2.1, HH.out.2.2.2.2.2.2.2.2.2.2.2.2.2.2.2.2.2.2.2.2.2.2.2.2.2.2.2.2.2.2.2.1, HH.out.2.2.2.2.2.2.2.2.2.2.2.2.2.2.2.2.2.2.2.2.2.2.2.2.2.2.2.2.2.2.2.2.1, HH.out.2.2.2.2.2.2.2.2.2.2.2.2.2.2.2.2.2.2.2.2.2.2.2.2.2.2.2.2.2.2.2.2.2.1, HH.out.2.2.2.2.2.2.2.2.2.2.2.2.2.2.2.2.2.2.2.2.2.2.2.2.2.2.2.2.2.2.2.2.2.2.1, HH.out.2.2.2.2.2.2.2.2.2.2.2.2.2.2.2.2.2.2.2.2.2.2.2.2.2.2.2.2.2.2.2.2.2.2.2.1, HH.out.2.2.2.2.2.2.2.2.2.2.2.2.2.2.2.2.2.2.2.2.2.2.2.2.2.2.2.2.2.2.2.2.2.2.2.2.1, HH.out.2.2.2.2.2.2.2.2.2.2.2.2.2.2.2.2.2.2.2.2.2.2.2.2.2.2.2.2.2.2.2.2.2.2.2.2.2⟩
    · rintro f act V ⟨v, rfl, HB, H⟩ hi hT K hK
      have HKK := Aside0.mk hK
      clear hK
      have e7 := H.2.2.2.2.2.2.2.1 (hT 7 (by decide))
      have e9 := H.2.2.2.2.2.2.2.2.2.1 (hT 9 (by decide))
      simp only [e7, e9]
      have HH := Aside0.mk H; have HBA := Aside0.mk HB
      clear H HB
      go_wp2_with fail
      exact HKK.out _ _ ⟨fun j => if j = 10 then .int .i64 m else v j, by simp [e7, e9], HBA.out, HH.out.1, HH.out.2.1, HH.out.2.2.1, HH.out.2.2.2.1, HH.out.2.2.2.2.1, HH.out.2.2.2.2.2.1, HH.out.2.2.2.2.2.2.1, HH.out.2.2.2.2.2.2.2.1, HH.out.2.2.2.2.2.2.2.2.1, HH.out.2.2.2.2.2.2.2.2.2.1, fun _ => rfl, HH.out.2.2.2.2.2.2.2.2.2.2.2.1, HH.out.2.2.2.2.2.2.2.2.2.2.2.2.1, HH.out.2.2.2.2.2.2.2.2.2.2.2.2.2.1, HH.out.2.2.2.2.2.2.2.2.2.2.2.2.2.2.1, HH.out.2.2.2.2.2.2.2.2.2.2.2.2.2.2.2.1, HH.out.2.2.2.2.2.2.2.2.2.2.2.2.2.2.2.2.1, HH.out.2.2.2.2.2.2.2.2.2.2.2.2.2.2.2.2.2.1, HH.out.2.2.2.2.2.2.2.2.2.2.2.2.2.2.2.2.2.2.1, HH.out.2.2.2.2.2.2.2.2.2.2.2.2.2.2.2.2.2.2.2.1, HH.out.2.2.2.2.2.2.2.2.2.2.2.2.2.2.2.2.2.2.2.2.1, HH.out.2.2.2.2.2.2.2.2.2.2.2.2.2.2.2.2.2.2.2.2.2.1, HH.out.2.2.2.2.2.2.2.2.2.2.2.2.2.2.2.2.2.2.2.2.2.2.1, HH.out.2.2.2.2.2.2.2.2.2.2.2.2.2.2.2.2.2.2.2.2.2.2.2.1, HH.out.2.2.2.2.2.2.2.2.2.2.2.2.2.2.2.2.2.2.2.2.2.2.2.2.1, HH.out.2.2.2.2.2.2.2.2.2.2.2.2.2.2.2.2.2.2.2.2.2.2.2.2.2.1, HH.out.2.2.2.2.2.2.2.2.2.2.2.2.2.2.2.2.2.2.2.2.2.2.2.2.2.2.1, HH.out.2.2.2.2.2.2.2.2.2.2.2.2.2.2.2.2.2.2.2.2.2.2.2.2.2.2.2.1, HH.out.2.2.2.2.2.2.2.2.2.2.2.2.2.2.2.2.2.2.2.2.2.2.2.2.2.2.2.2.1, HH.out.2.2.2.2.2.2.2.2.2.2.2.2.2.2.2.2.2.2.2.2.2.2.2.2.2.2.2.2.2.1, HH.out.2.2.2.2.2.2.2.2.2.2.2.2.2.2.2.2.2.2.2.2.2.2.2.2.2.2.2.2.2.2.1, HH.out.2.2.2.2.2.2.2.2.2.2.2.2.2.2.2.2.2.2.2.2.2.2.2.2.2.2.2.2.2.2.2.1, HH.out.2.2.2.2.2.2.2.2.2.2.2.2.2.2.2.2.2.2.2.2.2.2.2.2.2.2.2.2.2.2.2.2.1, HH.out.2.2.2.2.2.2.2.2.2.2.2.2.2.2.2.2.2.2.2.2.2.2.2.2.2.2.2.2.2.2.2.2.2.1, HH.out.2.2.2.2.2.2.2.2.2.2.2.2.2.2.2.2.2.2.2.2.2.2.2.2.2.2.2.2.2.2.2.2.2.2.1, HH.out.2.2.2.2.2.2.2.2.2.2.2.2.2.2.2.2.2.2.2.2.2.2.2.2.2.2.2.2.2.2.2.2.2.2.2.1, HH.out.2.2.2.2.2.2.2.2.2.2.2.2.2.2.2.2.2.2.2.2.2.2.2.2.2.2.2.2.2.2.2.2.2.2.2.2.1, HH.out.2.2.2.2.2.2.2.2.2.2.2.2.2.2.2.2.2.2.2.2.2.2.2.2.2.2.2.2.2.2.2.2.2.2.2.2.2⟩
    · rintro f act V ⟨v, rfl, HB, H⟩ hi hT K hK
      have HKK := Aside0.mk hK
      clear hK
      have HH := Aside0.mk H; have HBA := Aside0.mk HB
      clear H HB
      go_wp2_with fail
      exact HKK.out _ _ ⟨fun j => if j = 11 then .int .i64 a else v j, by simp, HBA.out, HH.out.1, HH.out.2.1, HH.out.2.2.1, HH.out.2.2.2.1, HH.out.2.2.2.2.1, HH.out.2.2.2.2.2.1, HH.out.2.2.2.2.2.2.1, HH.out.2.2.2.2.2.2.2.1, HH.out.2.2.2.2.2.2.2.2.1, HH.out.2.2.2.2.2.2.2.2.2.1, HH.out.2.2.2.2.2.2.2.2.2.2.1, fun _ => rfl, HH.out.2.2.2.2.2.2.2.2.2.2.2.2.1, HH.out.2.2.2.2.2.2.2.2.2.2.2.2.2.1, HH.out.2.2.2.2.2.2.2.2.2.2.2.2.2.2.1, HH.out.2.2.2.2.2.2.2.2.2.2.2.2.2.2.2.1, HH.out.2.2.2.2.2.2.2.2.2.2.2.2.2.2.2.2.1, HH.out.2.2.2.2.2.2.2.2.2.2.2.2.2.2.2.2.2.1, HH.out.2.2.2.2.2.2.2.2.2.2.2.2.2.2.2.2.2.2.1, HH.out.2.2.2.2.2.2.2.2.2.2.2.2.2.2.2.2.2.2.2.1, HH.out.2.2.2.2.2.2.2.2.2.2.2.2.2.2.2.2.2.2.2.2.1, HH.out.2.2.2.2.2.2.2.2.2.2.2.2.2.2.2.2.2.2.2.2.2.1, HH.out.2.2.2.2.2.2.2.2.2.2.2.2.2.2.2.2.2.2.2.2.2.2.1, HH.out.2.2.2.2.2.2.2.2.2.2.2.2.2.2.2.2.2.2.2.2.2.2.2.1, HH.out.2.2.2.2.2.2.2.2.2.2.2.2.2.2.2.2.2.2.2.2.2.2.2.2.1, HH.out.2.2.2.2.2.2.2.2.2.2.2.2.2.2.2.2.2.2.2.2.2.2.2.2.2.1, HH.out.2.2.2.2.2.2.2.2.2.2.2.2.2.2.2.2.2.2.2.2.2.2.2.2.2.2.1, HH.out.2.2.2.2.2.2.2.2.2.2.2.2.2.2.2.2.2.2.2.2.2.2.2.2.2.2.2.1, HH.out.2.2.2.2.2.2.2.2.2.2.2.2.2.2.2.2.2.2.2.2.2.2.2.2.2.2.2.2.1, HH.out.2.2.2.2.2.2.2.2.2.2.2.2.2.2.2.2.2.2.2.2.2.2.2.2.2.2.2.2.2.1, HH.out.2.2.2.2.2.2.2.2.2.2.2.2.2.2.2.2.2.2.2.2.2.2.2.2.2.2.2.2.2.2.1, HH.out.2.2.2.2.2.2.2.2.2.2.2.2.2.2.2.2.2.2.2.2.2.2.2.2.2.2.2.2.2.2.2.1, HH.out.2.2.2.2.2.2.2.2.2.2.2.2.2.2.2.2.2.2.2.2.2.2.2.2.2.2.2.2.2.2.2.2.1, HH.out.2.2.2.2.2.2.2.2.2.2.2.2.2.2.2.2.2.2.2.2.2.2.2.2.2.2.2.2.2.2.2.2.2.1, HH.out.2.2.2.2.2.2.2.2.2.2.2.2.2.2.2.2.2.2.2.2.2.2.2.2.2.2.2.2.2.2.2.2.2.2.1, HH.out.2.2.2.2.2.2.2.2.2.2.2.2.2.2.2.2.2.2.2.2.2.2.2.2.2.2.2.2.2.2.2.2.2.2.2.1, HH.out.2.2.2.2.2.2.2.2.2.2.2.2.2.2.2.2.2.2.2.2.2.2.2.2.2.2.2.2.2.2.2.2.2.2.2.2.1, HH.out.2.2.2.2.2.2.2.2.2.2.2.2.2.2.2.2.2.2.2.2.2.2.2.2.2.2.2.2.2.2.2.2.2.2.2.2.2⟩
    · rintro f act V ⟨v, rfl, HB, H⟩ hi hT K hK
      have HKK := Aside0.mk hK
      clear hK
      have e10 := H.2.2.2.2.2.2.2.2.2.2.1 (hT 10 (by decide))
      have e11 := H.2.2.2.2.2.2.2.2.2.2.2.1 (hT 11 (by decide))
      simp only [e10, e11]
      have HH := Aside0.mk H; have HBA := Aside0.mk HB
      clear H HB
      go_wp2_with fail
      exact HKK.out _ _ ⟨fun j => if j = 12 then .int .i64 ix else v j, by simp [e10, e11], HBA.out, HH.out.1, HH.out.2.1, HH.out.2.2.1, HH.out.2.2.2.1, HH.out.2.2.2.2.1, HH.out.2.2.2.2.2.1, HH.out.2.2.2.2.2.2.1, HH.out.2.2.2.2.2.2.2.1, HH.out.2.2.2.2.2.2.2.2.1, HH.out.2.2.2.2.2.2.2.2.2.1, HH.out.2.2.2.2.2.2.2.2.2.2.1, HH.out.2.2.2.2.2.2.2.2.2.2.2.1, fun _ => rfl, HH.out.2.2.2.2.2.2.2.2.2.2.2.2.2.1, HH.out.2.2.2.2.2.2.2.2.2.2.2.2.2.2.1, HH.out.2.2.2.2.2.2.2.2.2.2.2.2.2.2.2.1, HH.out.2.2.2.2.2.2.2.2.2.2.2.2.2.2.2.2.1, HH.out.2.2.2.2.2.2.2.2.2.2.2.2.2.2.2.2.2.1, HH.out.2.2.2.2.2.2.2.2.2.2.2.2.2.2.2.2.2.2.1, HH.out.2.2.2.2.2.2.2.2.2.2.2.2.2.2.2.2.2.2.2.1, HH.out.2.2.2.2.2.2.2.2.2.2.2.2.2.2.2.2.2.2.2.2.1, HH.out.2.2.2.2.2.2.2.2.2.2.2.2.2.2.2.2.2.2.2.2.2.1, HH.out.2.2.2.2.2.2.2.2.2.2.2.2.2.2.2.2.2.2.2.2.2.2.1, HH.out.2.2.2.2.2.2.2.2.2.2.2.2.2.2.2.2.2.2.2.2.2.2.2.1, HH.out.2.2.2.2.2.2.2.2.2.2.2.2.2.2.2.2.2.2.2.2.2.2.2.2.1, HH.out.2.2.2.2.2.2.2.2.2.2.2.2.2.2.2.2.2.2.2.2.2.2.2.2.2.1, HH.out.2.2.2.2.2.2.2.2.2.2.2.2.2.2.2.2.2.2.2.2.2.2.2.2.2.2.1, HH.out.2.2.2.2.2.2.2.2.2.2.2.2.2.2.2.2.2.2.2.2.2.2.2.2.2.2.2.1, HH.out.2.2.2.2.2.2.2.2.2.2.2.2.2.2.2.2.2.2.2.2.2.2.2.2.2.2.2.2.1, HH.out.2.2.2.2.2.2.2.2.2.2.2.2.2.2.2.2.2.2.2.2.2.2.2.2.2.2.2.2.2.1, HH.out.2.2.2.2.2.2.2.2.2.2.2.2.2.2.2.2.2.2.2.2.2.2.2.2.2.2.2.2.2.2.1, HH.out.2.2.2.2.2.2.2.2.2.2.2.2.2.2.2.2.2.2.2.2.2.2.2.2.2.2.2.2.2.2.2.1, HH.out.2.2.2.2.2.2.2.2.2.2.2.2.2.2.2.2.2.2.2.2.2.2.2.2.2.2.2.2.2.2.2.2.1, HH.out.2.2.2.2.2.2.2.2.2.2.2.2.2.2.2.2.2.2.2.2.2.2.2.2.2.2.2.2.2.2.2.2.2.1, HH.out.2.2.2.2.2.2.2.2.2.2.2.2.2.2.2.2.2.2.2.2.2.2.2.2.2.2.2.2.2.2.2.2.2.2.1, HH.out.2.2.2.2.2.2.2.2.2.2.2.2.2.2.2.2.2.2.2.2.2.2.2.2.2.2.2.2.2.2.2.2.2.2.2.1, HH.out.2.2.2.2.2.2.2.2.2.2.2.2.2.2.2.2.2.2.2.2.2.2.2.2.2.2.2.2.2.2.2.2.2.2.2.2.1, HH.out.2.2.2.2.2.2.2.2.2.2.2.2.2.2.2.2.2.2.2.2.2.2.2.2.2.2.2.2.2.2.2.2.2.2.2.2.2⟩
    · rintro f act V ⟨v, rfl, HB, H⟩ hi hT K hK
      have HKK := Aside0.mk hK
      clear hK
      have e6 := H.2.2.2.2.2.2.1 (hT 6 (by decide))
      have e12 := H.2.2.2.2.2.2.2.2.2.2.2.2.1 (hT 12 (by decide))
      simp only [e6, e12]
      have HH := Aside0.mk H; have HBA := Aside0.mk HB
      clear H HB
      go_wp2_with fail
      exact HKK.out _ _ ⟨fun j => if j = 13 then .pointer (some (ad.add ix.toNat)) else v j, by simp [e6, e12], HBA.out, HH.out.1, HH.out.2.1, HH.out.2.2.1, HH.out.2.2.2.1, HH.out.2.2.2.2.1, HH.out.2.2.2.2.2.1, HH.out.2.2.2.2.2.2.1, HH.out.2.2.2.2.2.2.2.1, HH.out.2.2.2.2.2.2.2.2.1, HH.out.2.2.2.2.2.2.2.2.2.1, HH.out.2.2.2.2.2.2.2.2.2.2.1, HH.out.2.2.2.2.2.2.2.2.2.2.2.1, HH.out.2.2.2.2.2.2.2.2.2.2.2.2.1, fun _ => rfl, HH.out.2.2.2.2.2.2.2.2.2.2.2.2.2.2.1, HH.out.2.2.2.2.2.2.2.2.2.2.2.2.2.2.2.1, HH.out.2.2.2.2.2.2.2.2.2.2.2.2.2.2.2.2.1, HH.out.2.2.2.2.2.2.2.2.2.2.2.2.2.2.2.2.2.1, HH.out.2.2.2.2.2.2.2.2.2.2.2.2.2.2.2.2.2.2.1, HH.out.2.2.2.2.2.2.2.2.2.2.2.2.2.2.2.2.2.2.2.1, HH.out.2.2.2.2.2.2.2.2.2.2.2.2.2.2.2.2.2.2.2.2.1, HH.out.2.2.2.2.2.2.2.2.2.2.2.2.2.2.2.2.2.2.2.2.2.1, HH.out.2.2.2.2.2.2.2.2.2.2.2.2.2.2.2.2.2.2.2.2.2.2.1, HH.out.2.2.2.2.2.2.2.2.2.2.2.2.2.2.2.2.2.2.2.2.2.2.2.1, HH.out.2.2.2.2.2.2.2.2.2.2.2.2.2.2.2.2.2.2.2.2.2.2.2.2.1, HH.out.2.2.2.2.2.2.2.2.2.2.2.2.2.2.2.2.2.2.2.2.2.2.2.2.2.1, HH.out.2.2.2.2.2.2.2.2.2.2.2.2.2.2.2.2.2.2.2.2.2.2.2.2.2.2.1, HH.out.2.2.2.2.2.2.2.2.2.2.2.2.2.2.2.2.2.2.2.2.2.2.2.2.2.2.2.1, HH.out.2.2.2.2.2.2.2.2.2.2.2.2.2.2.2.2.2.2.2.2.2.2.2.2.2.2.2.2.1, HH.out.2.2.2.2.2.2.2.2.2.2.2.2.2.2.2.2.2.2.2.2.2.2.2.2.2.2.2.2.2.1, HH.out.2.2.2.2.2.2.2.2.2.2.2.2.2.2.2.2.2.2.2.2.2.2.2.2.2.2.2.2.2.2.1, HH.out.2.2.2.2.2.2.2.2.2.2.2.2.2.2.2.2.2.2.2.2.2.2.2.2.2.2.2.2.2.2.2.1, HH.out.2.2.2.2.2.2.2.2.2.2.2.2.2.2.2.2.2.2.2.2.2.2.2.2.2.2.2.2.2.2.2.2.1, HH.out.2.2.2.2.2.2.2.2.2.2.2.2.2.2.2.2.2.2.2.2.2.2.2.2.2.2.2.2.2.2.2.2.2.1, HH.out.2.2.2.2.2.2.2.2.2.2.2.2.2.2.2.2.2.2.2.2.2.2.2.2.2.2.2.2.2.2.2.2.2.2.1, HH.out.2.2.2.2.2.2.2.2.2.2.2.2.2.2.2.2.2.2.2.2.2.2.2.2.2.2.2.2.2.2.2.2.2.2.2.1, HH.out.2.2.2.2.2.2.2.2.2.2.2.2.2.2.2.2.2.2.2.2.2.2.2.2.2.2.2.2.2.2.2.2.2.2.2.2.1, HH.out.2.2.2.2.2.2.2.2.2.2.2.2.2.2.2.2.2.2.2.2.2.2.2.2.2.2.2.2.2.2.2.2.2.2.2.2.2⟩
    · rintro f act V ⟨v, rfl, HB, H⟩ hi hT K hK
      have HKK := Aside0.mk hK
      clear hK
      have e13 := H.2.2.2.2.2.2.2.2.2.2.2.2.2.1 (hT 13 (by decide))
      simp only [e13]
      have hx1 := (HB.cell hxl).trans hx
      have HH := Aside0.mk H; have HBA := Aside0.mk HB
      clear H HB
      go_wp2_with fail
      exact HKK.out _ _ ⟨fun j => if j = 14 then .int .u8 t else v j, by simp [e13], HBA.out, HH.out.1, HH.out.2.1, HH.out.2.2.1, HH.out.2.2.2.1, HH.out.2.2.2.2.1, HH.out.2.2.2.2.2.1, HH.out.2.2.2.2.2.2.1, HH.out.2.2.2.2.2.2.2.1, HH.out.2.2.2.2.2.2.2.2.1, HH.out.2.2.2.2.2.2.2.2.2.1, HH.out.2.2.2.2.2.2.2.2.2.2.1, HH.out.2.2.2.2.2.2.2.2.2.2.2.1, HH.out.2.2.2.2.2.2.2.2.2.2.2.2.1, HH.out.2.2.2.2.2.2.2.2.2.2.2.2.2.1, fun _ => rfl, HH.out.2.2.2.2.2.2.2.2.2.2.2.2.2.2.2.1, HH.out.2.2.2.2.2.2.2.2.2.2.2.2.2.2.2.2.1, HH.out.2.2.2.2.2.2.2.2.2.2.2.2.2.2.2.2.2.1, HH.out.2.2.2.2.2.2.2.2.2.2.2.2.2.2.2.2.2.2.1, HH.out.2.2.2.2.2.2.2.2.2.2.2.2.2.2.2.2.2.2.2.1, HH.out.2.2.2.2.2.2.2.2.2.2.2.2.2.2.2.2.2.2.2.2.1, HH.out.2.2.2.2.2.2.2.2.2.2.2.2.2.2.2.2.2.2.2.2.2.1, HH.out.2.2.2.2.2.2.2.2.2.2.2.2.2.2.2.2.2.2.2.2.2.2.1, HH.out.2.2.2.2.2.2.2.2.2.2.2.2.2.2.2.2.2.2.2.2.2.2.2.1, HH.out.2.2.2.2.2.2.2.2.2.2.2.2.2.2.2.2.2.2.2.2.2.2.2.2.1, HH.out.2.2.2.2.2.2.2.2.2.2.2.2.2.2.2.2.2.2.2.2.2.2.2.2.2.1, HH.out.2.2.2.2.2.2.2.2.2.2.2.2.2.2.2.2.2.2.2.2.2.2.2.2.2.2.1, HH.out.2.2.2.2.2.2.2.2.2.2.2.2.2.2.2.2.2.2.2.2.2.2.2.2.2.2.2.1, HH.out.2.2.2.2.2.2.2.2.2.2.2.2.2.2.2.2.2.2.2.2.2.2.2.2.2.2.2.2.1, HH.out.2.2.2.2.2.2.2.2.2.2.2.2.2.2.2.2.2.2.2.2.2.2.2.2.2.2.2.2.2.1, HH.out.2.2.2.2.2.2.2.2.2.2.2.2.2.2.2.2.2.2.2.2.2.2.2.2.2.2.2.2.2.2.1, HH.out.2.2.2.2.2.2.2.2.2.2.2.2.2.2.2.2.2.2.2.2.2.2.2.2.2.2.2.2.2.2.2.1, HH.out.2.2.2.2.2.2.2.2.2.2.2.2.2.2.2.2.2.2.2.2.2.2.2.2.2.2.2.2.2.2.2.2.1, HH.out.2.2.2.2.2.2.2.2.2.2.2.2.2.2.2.2.2.2.2.2.2.2.2.2.2.2.2.2.2.2.2.2.2.1, HH.out.2.2.2.2.2.2.2.2.2.2.2.2.2.2.2.2.2.2.2.2.2.2.2.2.2.2.2.2.2.2.2.2.2.2.1, HH.out.2.2.2.2.2.2.2.2.2.2.2.2.2.2.2.2.2.2.2.2.2.2.2.2.2.2.2.2.2.2.2.2.2.2.2.1, HH.out.2.2.2.2.2.2.2.2.2.2.2.2.2.2.2.2.2.2.2.2.2.2.2.2.2.2.2.2.2.2.2.2.2.2.2.2.1, HH.out.2.2.2.2.2.2.2.2.2.2.2.2.2.2.2.2.2.2.2.2.2.2.2.2.2.2.2.2.2.2.2.2.2.2.2.2.2⟩
    · rintro f act V ⟨v, rfl, HB, H⟩ hi hT K hK
      have HKK := Aside0.mk hK
      clear hK
      have e4 := H.2.2.2.2.1 (hT 4 (by decide))
      have e14 := H.2.2.2.2.2.2.2.2.2.2.2.2.2.2.1 (hT 14 (by decide))
      simp only [e4, e14]
      have HH := Aside0.mk H; have HBA := Aside0.mk HB
      clear H HB
      go_wp2_with fail
      exact HKK.out _ _ ⟨fun j => if j = 15 then .bool true else v j, by simp [e4, e14], HBA.out, HH.out.1, HH.out.2.1, HH.out.2.2.1, HH.out.2.2.2.1, HH.out.2.2.2.2.1, HH.out.2.2.2.2.2.1, HH.out.2.2.2.2.2.2.1, HH.out.2.2.2.2.2.2.2.1, HH.out.2.2.2.2.2.2.2.2.1, HH.out.2.2.2.2.2.2.2.2.2.1, HH.out.2.2.2.2.2.2.2.2.2.2.1, HH.out.2.2.2.2.2.2.2.2.2.2.2.1, HH.out.2.2.2.2.2.2.2.2.2.2.2.2.1, HH.out.2.2.2.2.2.2.2.2.2.2.2.2.2.1, HH.out.2.2.2.2.2.2.2.2.2.2.2.2.2.2.1, fun _ => rfl, HH.out.2.2.2.2.2.2.2.2.2.2.2.2.2.2.2.2.1, HH.out.2.2.2.2.2.2.2.2.2.2.2.2.2.2.2.2.2.1, HH.out.2.2.2.2.2.2.2.2.2.2.2.2.2.2.2.2.2.2.1, HH.out.2.2.2.2.2.2.2.2.2.2.2.2.2.2.2.2.2.2.2.1, HH.out.2.2.2.2.2.2.2.2.2.2.2.2.2.2.2.2.2.2.2.2.1, HH.out.2.2.2.2.2.2.2.2.2.2.2.2.2.2.2.2.2.2.2.2.2.1, HH.out.2.2.2.2.2.2.2.2.2.2.2.2.2.2.2.2.2.2.2.2.2.2.1, HH.out.2.2.2.2.2.2.2.2.2.2.2.2.2.2.2.2.2.2.2.2.2.2.2.1, HH.out.2.2.2.2.2.2.2.2.2.2.2.2.2.2.2.2.2.2.2.2.2.2.2.2.1, HH.out.2.2.2.2.2.2.2.2.2.2.2.2.2.2.2.2.2.2.2.2.2.2.2.2.2.1, HH.out.2.2.2.2.2.2.2.2.2.2.2.2.2.2.2.2.2.2.2.2.2.2.2.2.2.2.1, HH.out.2.2.2.2.2.2.2.2.2.2.2.2.2.2.2.2.2.2.2.2.2.2.2.2.2.2.2.1, HH.out.2.2.2.2.2.2.2.2.2.2.2.2.2.2.2.2.2.2.2.2.2.2.2.2.2.2.2.2.1, HH.out.2.2.2.2.2.2.2.2.2.2.2.2.2.2.2.2.2.2.2.2.2.2.2.2.2.2.2.2.2.1, HH.out.2.2.2.2.2.2.2.2.2.2.2.2.2.2.2.2.2.2.2.2.2.2.2.2.2.2.2.2.2.2.1, HH.out.2.2.2.2.2.2.2.2.2.2.2.2.2.2.2.2.2.2.2.2.2.2.2.2.2.2.2.2.2.2.2.1, HH.out.2.2.2.2.2.2.2.2.2.2.2.2.2.2.2.2.2.2.2.2.2.2.2.2.2.2.2.2.2.2.2.2.1, HH.out.2.2.2.2.2.2.2.2.2.2.2.2.2.2.2.2.2.2.2.2.2.2.2.2.2.2.2.2.2.2.2.2.2.1, HH.out.2.2.2.2.2.2.2.2.2.2.2.2.2.2.2.2.2.2.2.2.2.2.2.2.2.2.2.2.2.2.2.2.2.2.1, HH.out.2.2.2.2.2.2.2.2.2.2.2.2.2.2.2.2.2.2.2.2.2.2.2.2.2.2.2.2.2.2.2.2.2.2.2.1, HH.out.2.2.2.2.2.2.2.2.2.2.2.2.2.2.2.2.2.2.2.2.2.2.2.2.2.2.2.2.2.2.2.2.2.2.2.2.1, HH.out.2.2.2.2.2.2.2.2.2.2.2.2.2.2.2.2.2.2.2.2.2.2.2.2.2.2.2.2.2.2.2.2.2.2.2.2.2⟩
    · rintro f act V ⟨v, rfl, HB, H⟩ hi hT K hK
      have HKK := Aside0.mk hK
      clear hK
      have e15 := H.2.2.2.2.2.2.2.2.2.2.2.2.2.2.2.1 (hT 15 (by decide))
      simp only [e15]
      have HH := Aside0.mk H; have HBA := Aside0.mk HB
      clear H HB
      go_wp2_with fail
      exact HKK.out _ _ ⟨fun j => if j = 16 then .bool true else v j, by simp [e15], HBA.out, HH.out.1, HH.out.2.1, HH.out.2.2.1, HH.out.2.2.2.1, HH.out.2.2.2.2.1, HH.out.2.2.2.2.2.1, HH.out.2.2.2.2.2.2.1, HH.out.2.2.2.2.2.2.2.1, HH.out.2.2.2.2.2.2.2.2.1, HH.out.2.2.2.2.2.2.2.2.2.1, HH.out.2.2.2.2.2.2.2.2.2.2.1, HH.out.2.2.2.2.2.2.2.2.2.2.2.1, HH.out.2.2.2.2.2.2.2.2.2.2.2.2.1, HH.out.2.2.2.2.2.2.2.2.2.2.2.2.2.1, HH.out.2.2.2.2.2.2.2.2.2.2.2.2.2.2.1, HH.out.2.2.2.2.2.2.2.2.2.2.2.2.2.2.2.1, fun _ => rfl, HH.out.2.2.2.2.2.2.2.2.2.2.2.2.2.2.2.2.2.1, HH.out.2.2.2.2.2.2.2.2.2.2.2.2.2.2.2.2.2.2.1, HH.out.2.2.2.2.2.2.2.2.2.2.2.2.2.2.2.2.2.2.2.1, HH.out.2.2.2.2.2.2.2.2.2.2.2.2.2.2.2.2.2.2.2.2.1, HH.out.2.2.2.2.2.2.2.2.2.2.2.2.2.2.2.2.2.2.2.2.2.1, HH.out.2.2.2.2.2.2.2.2.2.2.2.2.2.2.2.2.2.2.2.2.2.2.1, HH.out.2.2.2.2.2.2.2.2.2.2.2.2.2.2.2.2.2.2.2.2.2.2.2.1, HH.out.2.2.2.2.2.2.2.2.2.2.2.2.2.2.2.2.2.2.2.2.2.2.2.2.1, HH.out.2.2.2.2.2.2.2.2.2.2.2.2.2.2.2.2.2.2.2.2.2.2.2.2.2.1, HH.out.2.2.2.2.2.2.2.2.2.2.2.2.2.2.2.2.2.2.2.2.2.2.2.2.2.2.1, HH.out.2.2.2.2.2.2.2.2.2.2.2.2.2.2.2.2.2.2.2.2.2.2.2.2.2.2.2.1, HH.out.2.2.2.2.2.2.2.2.2.2.2.2.2.2.2.2.2.2.2.2.2.2.2.2.2.2.2.2.1, HH.out.2.2.2.2.2.2.2.2.2.2.2.2.2.2.2.2.2.2.2.2.2.2.2.2.2.2.2.2.2.1, HH.out.2.2.2.2.2.2.2.2.2.2.2.2.2.2.2.2.2.2.2.2.2.2.2.2.2.2.2.2.2.2.1, HH.out.2.2.2.2.2.2.2.2.2.2.2.2.2.2.2.2.2.2.2.2.2.2.2.2.2.2.2.2.2.2.2.1, HH.out.2.2.2.2.2.2.2.2.2.2.2.2.2.2.2.2.2.2.2.2.2.2.2.2.2.2.2.2.2.2.2.2.1, HH.out.2.2.2.2.2.2.2.2.2.2.2.2.2.2.2.2.2.2.2.2.2.2.2.2.2.2.2.2.2.2.2.2.2.1, HH.out.2.2.2.2.2.2.2.2.2.2.2.2.2.2.2.2.2.2.2.2.2.2.2.2.2.2.2.2.2.2.2.2.2.2.1, HH.out.2.2.2.2.2.2.2.2.2.2.2.2.2.2.2.2.2.2.2.2.2.2.2.2.2.2.2.2.2.2.2.2.2.2.2.1, HH.out.2.2.2.2.2.2.2.2.2.2.2.2.2.2.2.2.2.2.2.2.2.2.2.2.2.2.2.2.2.2.2.2.2.2.2.2.1, HH.out.2.2.2.2.2.2.2.2.2.2.2.2.2.2.2.2.2.2.2.2.2.2.2.2.2.2.2.2.2.2.2.2.2.2.2.2.2⟩
    · rintro f act V ⟨v, rfl, HB, H⟩ hi hT K hK
      have HKK := Aside0.mk hK
      clear hK
      have e16 := H.2.2.2.2.2.2.2.2.2.2.2.2.2.2.2.2.1 (hT 16 (by decide))
      simp only [e16]
      have HH := Aside0.mk H; have HBA := Aside0.mk HB
      clear H HB
      go_wp2_with fail
      exact HKK.out _ _ ⟨fun j => if j = 17 then .slice A es.length c else v j, by simp [e16], HBA.out, HH.out.1, HH.out.2.1, HH.out.2.2.1, HH.out.2.2.2.1, HH.out.2.2.2.2.1, HH.out.2.2.2.2.2.1, HH.out.2.2.2.2.2.2.1, HH.out.2.2.2.2.2.2.2.1, HH.out.2.2.2.2.2.2.2.2.1, HH.out.2.2.2.2.2.2.2.2.2.1, HH.out.2.2.2.2.2.2.2.2.2.2.1, HH.out.2.2.2.2.2.2.2.2.2.2.2.1, HH.out.2.2.2.2.2.2.2.2.2.2.2.2.1, HH.out.2.2.2.2.2.2.2.2.2.2.2.2.2.1, HH.out.2.2.2.2.2.2.2.2.2.2.2.2.2.2.1, HH.out.2.2.2.2.2.2.2.2.2.2.2.2.2.2.2.1, HH.out.2.2.2.2.2.2.2.2.2.2.2.2.2.2.2.2.1, fun _ => rfl, HH.out.2.2.2.2.2.2.2.2.2.2.2.2.2.2.2.2.2.2.1, HH.out.2.2.2.2.2.2.2.2.2.2.2.2.2.2.2.2.2.2.2.1, HH.out.2.2.2.2.2.2.2.2.2.2.2.2.2.2.2.2.2.2.2.2.1, HH.out.2.2.2.2.2.2.2.2.2.2.2.2.2.2.2.2.2.2.2.2.2.1, HH.out.2.2.2.2.2.2.2.2.2.2.2.2.2.2.2.2.2.2.2.2.2.2.1, HH.out.2.2.2.2.2.2.2.2.2.2.2.2.2.2.2.2.2.2.2.2.2.2.2.1, HH.out.2.2.2.2.2.2.2.2.2.2.2.2.2.2.2.2.2.2.2.2.2.2.2.2.1, HH.out.2.2.2.2.2.2.2.2.2.2.2.2.2.2.2.2.2.2.2.2.2.2.2.2.2.1, HH.out.2.2.2.2.2.2.2.2.2.2.2.2.2.2.2.2.2.2.2.2.2.2.2.2.2.2.1, HH.out.2.2.2.2.2.2.2.2.2.2.2.2.2.2.2.2.2.2.2.2.2.2.2.2.2.2.2.1, HH.out.2.2.2.2.2.2.2.2.2.2.2.2.2.2.2.2.2.2.2.2.2.2.2.2.2.2.2.2.1, HH.out.2.2.2.2.2.2.2.2.2.2.2.2.2.2.2.2.2.2.2.2.2.2.2.2.2.2.2.2.2.1, HH.out.2.2.2.2.2.2.2.2.2.2.2.2.2.2.2.2.2.2.2.2.2.2.2.2.2.2.2.2.2.2.1, HH.out.2.2.2.2.2.2.2.2.2.2.2.2.2.2.2.2.2.2.2.2.2.2.2.2.2.2.2.2.2.2.2.1, HH.out.2.2.2.2.2.2.2.2.2.2.2.2.2.2.2.2.2.2.2.2.2.2.2.2.2.2.2.2.2.2.2.2.1, HH.out.2.2.2.2.2.2.2.2.2.2.2.2.2.2.2.2.2.2.2.2.2.2.2.2.2.2.2.2.2.2.2.2.2.1, HH.out.2.2.2.2.2.2.2.2.2.2.2.2.2.2.2.2.2.2.2.2.2.2.2.2.2.2.2.2.2.2.2.2.2.2.1, HH.out.2.2.2.2.2.2.2.2.2.2.2.2.2.2.2.2.2.2.2.2.2.2.2.2.2.2.2.2.2.2.2.2.2.2.2.1, HH.out.2.2.2.2.2.2.2.2.2.2.2.2.2.2.2.2.2.2.2.2.2.2.2.2.2.2.2.2.2.2.2.2.2.2.2.2.1, HH.out.2.2.2.2.2.2.2.2.2.2.2.2.2.2.2.2.2.2.2.2.2.2.2.2.2.2.2.2.2.2.2.2.2.2.2.2.2⟩
    · rintro f act V ⟨v, rfl, HB, H⟩ hi hT K hK
      have HKK := Aside0.mk hK
      clear hK
      have e16 := H.2.2.2.2.2.2.2.2.2.2.2.2.2.2.2.2.1 (hT 16 (by decide))
      simp only [e16]
      obtain ⟨q0, q1, q2, q3, q4, q5⟩ := cells6 ((HB.block _ (by omega)).trans G5.out)
      have HH := Aside0.mk H; have HBA := Aside0.mk HB
      clear H HB
      go_wp2_with fail
      exact HKK.out _ _ ⟨fun j => if j = 18 then .agg #[.int .i64 X, .int .i64 Y, .int .i64 P, .int .i64 W, .int .i64 H, .int .i64 S] else v j, by simp [e16], HBA.out, HH.out.1, HH.out.2.1, HH.out.2.2.1, HH.out.2.2.2.1, HH.out.2.2.2.2.1, HH.out.2.2.2.2.2.1, HH.out.2.2.2.2.2.2.1, HH.out.2.2.2.2.2.2.2.1, HH.out.2.2.2.2.2.2.2.2.1, HH.out.2.2.2.2.2.2.2.2.2.1, HH.out.2.2.2.2.2.2.2.2.2.2.1, HH.out.2.2.2.2.2.2.2.2.2.2.2.1, HH.out.2.2.2.2.2.2.2.2.2.2.2.2.1, HH.out.2.2.2.2.2.2.2.2.2.2.2.2.2.1, HH.out.2.2.2.2.2.2.2.2.2.2.2.2.2.2.1, HH.out.2.2.2.2.2.2.2.2.2.2.2.2.2.2.2.1, HH.out.2.2.2.2.2.2.2.2.2.2.2.2.2.2.2.2.1, HH.out.2.2.2.2.2.2.2.2.2.2.2.2.2.2.2.2.2.1, fun _ => rfl, HH.out.2.2.2.2.2.2.2.2.2.2.2.2.2.2.2.2.2.2.2.1, HH.out.2.2.2.2.2.2.2.2.2.2.2.2.2.2.2.2.2.2.2.2.1, HH.out.2.2.2.2.2.2.2.2.2.2.2.2.2.2.2.2.2.2.2.2.2.1, HH.out.2.2.2.2.2.2.2.2.2.2.2.2.2.2.2.2.2.2.2.2.2.2.1, HH.out.2.2.2.2.2.2.2.2.2.2.2.2.2.2.2.2.2.2.2.2.2.2.2.1, HH.out.2.2.2.2.2.2.2.2.2.2.2.2.2.2.2.2.2.2.2.2.2.2.2.2.1, HH.out.2.2.2.2.2.2.2.2.2.2.2.2.2.2.2.2.2.2.2.2.2.2.2.2.2.1, HH.out.2.2.2.2.2.2.2.2.2.2.2.2.2.2.2.2.2.2.2.2.2.2.2.2.2.2.1, HH.out.2.2.2.2.2.2.2.2.2.2.2.2.2.2.2.2.2.2.2.2.2.2.2.2.2.2.2.1, HH.out.2.2.2.2.2.2.2.2.2.2.2.2.2.2.2.2.2.2.2.2.2.2.2.2.2.2.2.2.1, HH.out.2.2.2.2.2.2.2.2.2.2.2.2.2.2.2.2.2.2.2.2.2.2.2.2.2.2.2.2.2.1, HH.out.2.2.2.2.2.2.2.2.2.2.2.2.2.2.2.2.2.2.2.2.2.2.2.2.2.2.2.2.2.2.1, HH.out.2.2.2.2.2.2.2.2.2.2.2.2.2.2.2.2.2.2.2.2.2.2.2.2.2.2.2.2.2.2.2.1, HH.out.2.2.2.2.2.2.2.2.2.2.2.2.2.2.2.2.2.2.2.2.2.2.2.2.2.2.2.2.2.2.2.2.1, HH.out.2.2.2.2.2.2.2.2.2.2.2.2.2.2.2.2.2.2.2.2.2.2.2.2.2.2.2.2.2.2.2.2.2.1, HH.out.2.2.2.2.2.2.2.2.2.2.2.2.2.2.2.2.2.2.2.2.2.2.2.2.2.2.2.2.2.2.2.2.2.2.1, HH.out.2.2.2.2.2.2.2.2.2.2.2.2.2.2.2.2.2.2.2.2.2.2.2.2.2.2.2.2.2.2.2.2.2.2.2.1, HH.out.2.2.2.2.2.2.2.2.2.2.2.2.2.2.2.2.2.2.2.2.2.2.2.2.2.2.2.2.2.2.2.2.2.2.2.2.1, HH.out.2.2.2.2.2.2.2.2.2.2.2.2.2.2.2.2.2.2.2.2.2.2.2.2.2.2.2.2.2.2.2.2.2.2.2.2.2⟩
    · rintro f act V ⟨v, rfl, HB, H⟩ hi hT K hK
      have HKK := Aside0.mk hK
      clear hK
      have e16 := H.2.2.2.2.2.2.2.2.2.2.2.2.2.2.2.2.1 (hT 16 (by decide))
      simp only [e16]
      have HH := Aside0.mk H; have HBA := Aside0.mk HB
      clear H HB
      go_wp2_with fail
      exact HKK.out _ _ ⟨fun j => if j = 19 then .int .i64 b else v j, by simp [e16], HBA.out, HH.out.1, HH.out.2.1, HH.out.2.2.1, HH.out.2.2.2.1, HH.out.2.2.2.2.1, HH.out.2.2.2.2.2.1, HH.out.2.2.2.2.2.2.1, HH.out.2.2.2.2.2.2.2.1, HH.out.2.2.2.2.2.2.2.2.1, HH.out.2.2.2.2.2.2.2.2.2.1, HH.out.2.2.2.2.2.2.2.2.2.2.1, HH.out.2.2.2.2.2.2.2.2.2.2.2.1, HH.out.2.2.2.2.2.2.2.2.2.2.2.2.1, HH.out.2.2.2.2.2.2.2.2.2.2.2.2.2.1, HH.out.2.2.2.2.2.2.2.2.2.2.2.2.2.2.1, HH.out.2.2.2.2.2.2.2.2.2.2.2.2.2.2.2.1, HH.out.2.2.2.2.2.2.2.2.2.2.2.2.2.2.2.2.1, HH.out.2.2.2.2.2.2.2.2.2.2.2.2.2.2.2.2.2.1, HH.out.2.2.2.2.2.2.2.2.2.2.2.2.2.2.2.2.2.2.1, fun _ => rfl, HH.out.2.2.2.2.2.2.2.2.2.2.2.2.2.2.2.2.2.2.2.2.1, HH.out.2.2.2.2.2.2.2.2.2.2.2.2.2.2.2.2.2.2.2.2.2.1, HH.out.2.2.2.2.2.2.2.2.2.2.2.2.2.2.2.2.2.2.2.2.2.2.1, HH.out.2.2.2.2.2.2.2.2.2.2.2.2.2.2.2.2.2.2.2.2.2.2.2.1, HH.out.2.2.2.2.2.2.2.2.2.2.2.2.2.2.2.2.2.2.2.2.2.2.2.2.1, HH.out.2.2.2.2.2.2.2.2.2.2.2.2.2.2.2.2.2.2.2.2.2.2.2.2.2.1, HH.out.2.2.2.2.2.2.2.2.2.2.2.2.2.2.2.2.2.2.2.2.2.2.2.2.2.2.1, HH.out.2.2.2.2.2.2.2.2.2.2.2.2.2.2.2.2.2.2.2.2.2.2.2.2.2.2.2.1, HH.out.2.2.2.2.2.2.2.2.2.2.2.2.2.2.2.2.2.2.2.2.2.2.2.2.2.2.2.2.1, HH.out.2.2.2.2.2.2.2.2.2.2.2.2.2.2.2.2.2.2.2.2.2.2.2.2.2.2.2.2.2.1, HH.out.2.2.2.2.2.2.2.2.2.2.2.2.2.2.2.2.2.2.2.2.2.2.2.2.2.2.2.2.2.2.1, HH.out.2.2.2.2.2.2.2.2.2.2.2.2.2.2.2.2.2.2.2.2.2.2.2.2.2.2.2.2.2.2.2.1, HH.out.2.2.2.2.2.2.2.2.2.2.2.2.2.2.2.2.2.2.2.2.2.2.2.2.2.2.2.2.2.2.2.2.1, HH.out.2.2.2.2.2.2.2.2.2.2.2.2.2.2.2.2.2.2.2.2.2.2.2.2.2.2.2.2.2.2.2.2.2.1, HH.out.2.2.2.2.2.2.2.2.2.2.2.2.2.2.2.2.2.2.2.2.2.2.2.2.2.2.2.2.2.2.2.2.2.2.1, HH.out.2.2.2.2.2.2.2.2.2.2.2.2.2.2.2.2.2.2.2.2.2.2.2.2.2.2.2.2.2.2.2.2.2.2.2.1, HH.out.2.2.2.2.2.2.2.2.2.2.2.2.2.2.2.2.2.2.2.2.2.2.2.2.2.2.2.2.2.2.2.2.2.2.2.2.1, HH.out.2.2.2.2.2.2.2.2.2.2.2.2.2.2.2.2.2.2.2.2.2.2.2.2.2.2.2.2.2.2.2.2.2.2.2.2.2⟩
    · rintro f act V ⟨v, rfl, HB, H⟩ hi hT K hK
      have HKK := Aside0.mk hK
      clear hK
      have e16 := H.2.2.2.2.2.2.2.2.2.2.2.2.2.2.2.2.1 (hT 16 (by decide))
      have e17 := H.2.2.2.2.2.2.2.2.2.2.2.2.2.2.2.2.2.1 (hT 17 (by decide))
      have e18 := H.2.2.2.2.2.2.2.2.2.2.2.2.2.2.2.2.2.2.1 (hT 18 (by decide))
      have e19 := H.2.2.2.2.2.2.2.2.2.2.2.2.2.2.2.2.2.2.2.1 (hT 19 (by decide))
      simp only [e16, e17, e18, e19]
      have HH := Aside0.mk H; have HBA := Aside0.mk HB
      clear H HB
      go_wp2_with fail
      refine (sdf_Row.calls k A c es X Y P W H S b row _ (Kd.C_below (rC HO5.out).1 HBA.out) (rC HO5.out).2 HROW.out).mono ?_
      rintro e w' ⟨v, rfl, hrr, hb⟩
      obtain ⟨AR, cR, rfl⟩ := Kd.R_slice hrr
      exact HKK.out _ _ ⟨fun j => if j = 20 then .slice AR row.length cR else v j, by simp [e16, e17, e18, e19], bstep HBA.out hb, HH.out.1, HH.out.2.1, HH.out.2.2.1, HH.out.2.2.2.1, HH.out.2.2.2.2.1, HH.out.2.2.2.2.2.1, HH.out.2.2.2.2.2.2.1, HH.out.2.2.2.2.2.2.2.1, HH.out.2.2.2.2.2.2.2.2.1, HH.out.2.2.2.2.2.2.2.2.2.1, HH.out.2.2.2.2.2.2.2.2.2.2.1, HH.out.2.2.2.2.2.2.2.2.2.2.2.1, HH.out.2.2.2.2.2.2.2.2.2.2.2.2.1, HH.out.2.2.2.2.2.2.2.2.2.2.2.2.2.1, HH.out.2.2.2.2.2.2.2.2.2.2.2.2.2.2.1, HH.out.2.2.2.2.2.2.2.2.2.2.2.2.2.2.2.1, HH.out.2.2.2.2.2.2.2.2.2.2.2.2.2.2.2.2.1, HH.out.2.2.2.2.2.2.2.2.2.2.2.2.2.2.2.2.2.1, HH.out.2.2.2.2.2.2.2.2.2.2.2.2.2.2.2.2.2.2.1, HH.out.2.2.2.2.2.2.2.2.2.2.2.2.2.2.2.2.2.2.2.1, fun _ => ⟨AR, cR, rfl, Kd.R_lower hrr HBA.out.size⟩, HH.out.2.2.2.2.2.2.2.2.2.2.2.2.2.2.2.2.2.2.2.2.2.1, HH.out.2.2.2.2.2.2.2.2.2.2.2.2.2.2.2.2.2.2.2.2.2.2.1, HH.out.2.2.2.2.2.2.2.2.2.2.2.2.2.2.2.2.2.2.2.2.2.2.2.1, HH.out.2.2.2.2.2.2.2.2.2.2.2.2.2.2.2.2.2.2.2.2.2.2.2.2.1, HH.out.2.2.2.2.2.2.2.2.2.2.2.2.2.2.2.2.2.2.2.2.2.2.2.2.2.1, HH.out.2.2.2.2.2.2.2.2.2.2.2.2.2.2.2.2.2.2.2.2.2.2.2.2.2.2.1, HH.out.2.2.2.2.2.2.2.2.2.2.2.2.2.2.2.2.2.2.2.2.2.2.2.2.2.2.2.1, HH.out.2.2.2.2.2.2.2.2.2.2.2.2.2.2.2.2.2.2.2.2.2.2.2.2.2.2.2.2.1, HH.out.2.2.2.2.2.2.2.2.2.2.2.2.2.2.2.2.2.2.2.2.2.2.2.2.2.2.2.2.2.1, HH.out.2.2.2.2.2.2.2.2.2.2.2.2.2.2.2.2.2.2.2.2.2.2.2.2.2.2.2.2.2.2.1, HH.out.2.2.2.2.2.2.2.2.2.2.2.2.2.2.2.2.2.2.2.2.2.2.2.2.2.2.2.2.2.2.2.1, HH.out.2.2.2.2.2.2.2.2.2.2.2.2.2.2.2.2.2.2.2.2.2.2.2.2.2.2.2.2.2.2.2.2.1, HH.out.2.2.2.2.2.2.2.2.2.2.2.2.2.2.2.2.2.2.2.2.2.2.2.2.2.2.2.2.2.2.2.2.2.1, HH.out.2.2.2.2.2.2.2.2.2.2.2.2.2.2.2.2.2.2.2.2.2.2.2.2.2.2.2.2.2.2.2.2.2.2.1, HH.out.2.2.2.2.2.2.2.2.2.2.2.2.2.2.2.2.2.2.2.2.2.2.2.2.2.2.2.2.2.2.2.2.2.2.2.1, HH.out.2.2.2.2.2.2.2.2.2.2.2.2.2.2.2.2.2.2.2.2.2.2.2.2.2.2.2.2.2.2.2.2.2.2.2.2.1, HH.out.2.2.2.2.2.2.2.2.2.2.2.2.2.2.2.2.2.2.2.2.2.2.2.2.2.2.2.2.2.2.2.2.2.2.2.2.2⟩
    · rintro f act V ⟨v, rfl, HB, H⟩ hi hT K hK
      have HKK := Aside0.mk hK
      clear hK
      have e16 := H.2.2.2.2.2.2.2.2.2.2.2.2.2.2.2.2.1 (hT 16 (by decide))
      simp only [e16]
      obtain ⟨AR, cR, e20, hrr⟩ := H.2.2.2.2.2.2.2.2.2.2.2.2.2.2.2.2.2.2.2.2.1 (hT 20 (by decide))
      rw [e20] at hrr
      simp only [e20]
      have hcv := Kd.C_string (n := row.length) (c := cR) (src := 55) (dst := 9) Try.underlying55 Try.underlying5 Try.underlying9 (Kd.R_reads' hrr).2.2
      have HRR := Aside0.mk hrr
      clear hrr
      have HH := Aside0.mk H; have HBA := Aside0.mk HB
      clear H HB
      go_wp2_with fail
      exact HKK.out _ _ ⟨fun j => if j = 21 then .string (strOfNums row) else v j, by simp [e16, e20], HBA.out, HH.out.1, HH.out.2.1, HH.out.2.2.1, HH.out.2.2.2.1, HH.out.2.2.2.2.1, HH.out.2.2.2.2.2.1, HH.out.2.2.2.2.2.2.1, HH.out.2.2.2.2.2.2.2.1, HH.out.2.2.2.2.2.2.2.2.1, HH.out.2.2.2.2.2.2.2.2.2.1, HH.out.2.2.2.2.2.2.2.2.2.2.1, HH.out.2.2.2.2.2.2.2.2.2.2.2.1, HH.out.2.2.2.2.2.2.2.2.2.2.2.2.1, HH.out.2.2.2.2.2.2.2.2.2.2.2.2.2.1, HH.out.2.2.2.2.2.2.2.2.2.2.2.2.2.2.1, HH.out.2.2.2.2.2.2.2.2.2.2.2.2.2.2.2.1, HH.out.2.2.2.2.2.2.2.2.2.2.2.2.2.2.2.2.1, HH.out.2.2.2.2.2.2.2.2.2.2.2.2.2.2.2.2.2.1, HH.out.2.2.2.2.2.2.2.2.2.2.2.2.2.2.2.2.2.2.1, HH.out.2.2.2.2.2.2.2.2.2.2.2.2.2.2.2.2.2.2.2.1, HH.out.2.2.2.2.2.2.2.2.2.2.2.2.2.2.2.2.2.2.2.2.1, fun _ => rfl, HH.out.2.2.2.2.2.2.2.2.2.2.2.2.2.2.2.2.2.2.2.2.2.2.1, HH.out.2.2.2.2.2.2.2.2.2.2.2.2.2.2.2.2.2.2.2.2.2.2.2.1, HH.out.2.2.2.2.2.2.2.2.2.2.2.2.2.2.2.2.2.2.2.2.2.2.2.2.1, HH.out.2.2.2.2.2.2.2.2.2.2.2.2.2.2.2.2.2.2.2.2.2.2.2.2.2.1, HH.out.2.2.2.2.2.2.2.2.2.2.2.2.2.2.2.2.2.2.2.2.2.2.2.2.2.2.1, HH.out.2.2.2.2.2.2.2.2.2.2.2.2.2.2.2.2.2.2.2.2.2.2.2.2.2.2.2.1, HH.out.2.2.2.2.2.2.2.2.2.2.2.2.2.2.2.2.2.2.2.2.2.2.2.2.2.2.2.2.1, HH.out.2.2.2.2.2.2.2.2.2.2.2.2.2.2.2.2.2.2.2.2.2.2.2.2.2.2.2.2.2.1, HH.out.2.2.2.2.2.2.2.2.2.2.2.2.2.2.2.2.2.2.2.2.2.2.2.2.2.2.2.2.2.2.1, HH.out.2.2.2.2.2.2.2.2.2.2.2.2.2.2.2.2.2.2.2.2.2.2.2.2.2.2.2.2.2.2.2.1, HH.out.2.2.2.2.2.2.2.2.2.2.2.2.2.2.2.2.2.2.2.2.2.2.2.2.2.2.2.2.2.2.2.2.1, HH.out.2.2.2.2.2.2.2.2.2.2.2.2.2.2.2.2.2.2.2.2.2.2.2.2.2.2.2.2.2.2.2.2.2.1, HH.out.2.2.2.2.2.2.2.2.2.2.2.2.2.2.2.2.2.2.2.2.2.2.2.2.2.2.2.2.2.2.2.2.2.2.1, HH.out.2.2.2.2.2.2.2.2.2.2.2.2.2.2.2.2.2.2.2.2.2.2.2.2.2.2.2.2.2.2.2.2.2.2.2.1, HH.out.2.2.2.2.2.2.2.2.2.2.2.2.2.2.2.2.2.2.2.2.2.2.2.2.2.2.2.2.2.2.2.2.2.2.2.2.1, HH.out.2.2.2.2.2.2.2.2.2.2.2.2.2.2.2.2.2.2.2.2.2.2.2.2.2.2.2.2.2.2.2.2.2.2.2.2.2⟩
    · rintro f act V ⟨v, rfl, HB, H⟩ hi hT K hK
      have HKK := Aside0.mk hK
      clear hK
      have e16 := H.2.2.2.2.2.2.2.2.2.2.2.2.2.2.2.2.1 (hT 16 (by decide))
      simp only [e16]
      have HH := Aside0.mk H; have HBA := Aside0.mk HB
      clear H HB
      go_wp2_with fail
      exact HKK.out _ _ ⟨fun j => if j = 22 then .pointer (some ⟨w4.heap.size, 2, none⟩) else v j, by simp [e16], HBA.out, HH.out.1, HH.out.2.1, HH.out.2.2.1, HH.out.2.2.2.1, HH.out.2.2.2.2.1, HH.out.2.2.2.2.2.1, HH.out.2.2.2.2.2.2.1, HH.out.2.2.2.2.2.2.2.1, HH.out.2.2.2.2.2.2.2.2.1, HH.out.2.2.2.2.2.2.2.2.2.1, HH.out.2.2.2.2.2.2.2.2.2.2.1, HH.out.2.2.2.2.2.2.2.2.2.2.2.1, HH.out.2.2.2.2.2.2.2.2.2.2.2.2.1, HH.out.2.2.2.2.2.2.2.2.2.2.2.2.2.1, HH.out.2.2.2.2.2.2.2.2.2.2.2.2.2.2.1, HH.out.2.2.2.2.2.2.2.2.2.2.2.2.2.2.2.1, HH.out.2.2.2.2.2.2.2.2.2.2.2.2.2.2.2.2.1, HH.out.2.2.2.2.2.2.2.2.2.2.2.2.2.2.2.2.2.1, HH.out.2.2.2.2.2.2.2.2.2.2.2.2.2.2.2.2.2.2.1, HH.out.2.2.2.2.2.2.2.2.2.2.2.2.2.2.2.2.2.2.2.1, HH.out.2.2.2.2.2.2.2.2.2.2.2.2.2.2.2.2.2.2.2.2.1, HH.out.2.2.2.2.2.2.2.2.2.2.2.2.2.2.2.2.2.2.2.2.2.1, fun _ => rfl, HH.out.2.2.2.2.2.2.2.2.2.2.2.2.2.2.2.2.2.2.2.2.2.2.2.1, HH.out.2.2.2.2.2.2.2.2.2.2.2.2.2.2.2.2.2.2.2.2.2.2.2.2.1, HH.out.2.2.2.2.2.2.2.2.2.2.2.2.2.2.2.2.2.2.2.2.2.2.2.2.2.1, HH.out.2.2.2.2.2.2.2.2.2.2.2.2.2.2.2.2.2.2.2.2.2.2.2.2.2.2.1, HH.out.2.2.2.2.2.2.2.2.2.2.2.2.2.2.2.2.2.2.2.2.2.2.2.2.2.2.2.1, HH.out.2.2.2.2.2.2.2.2.2.2.2.2.2.2.2.2.2.2.2.2.2.2.2.2.2.2.2.2.1, HH.out.2.2.2.2.2.2.2.2.2.2.2.2.2.2.2.2.2.2.2.2.2.2.2.2.2.2.2.2.2.1, HH.out.2.2.2.2.2.2.2.2.2.2.2.2.2.2.2.2.2.2.2.2.2.2.2.2.2.2.2.2.2.2.1, HH.out.2.2.2.2.2.2.2.2.2.2.2.2.2.2.2.2.2.2.2.2.2.2.2.2.2.2.2.2.2.2.2.1, HH.out.2.2.2.2.2.2.2.2.2.2.2.2.2.2.2.2.2.2.2.2.2.2.2.2.2.2.2.2.2.2.2.2.1, HH.out.2.2.2.2.2.2.2.2.2.2.2.2.2.2.2.2.2.2.2.2.2.2.2.2.2.2.2.2.2.2.2.2.2.1, HH.out.2.2.2.2.2.2.2.2.2.2.2.2.2.2.2.2.2.2.2.2.2.2.2.2.2.2.2.2.2.2.2.2.2.2.1, HH.out.2.2.2.2.2.2.2.2.2.2.2.2.2.2.2.2.2.2.2.2.2.2.2.2.2.2.2.2.2.2.2.2.2.2.2.1, HH.out.2.2.2.2.2.2.2.2.2.2.2.2.2.2.2.2.2.2.2.2.2.2.2.2.2.2.2.2.2.2.2.2.2.2.2.2.1, HH.out.2.2.2.2.2.2.2.2.2.2.2.2.2.2.2.2.2.2.2.2.2.2.2.2.2.2.2.2.2.2.2.2.2.2.2.2.2⟩
    · rintro f act V ⟨v, rfl, HB, H⟩ hi hT K hK
      have HKK := Aside0.mk hK
      clear hK
      have e16 := H.2.2.2.2.2.2.2.2.2.2.2.2.2.2.2.2.1 (hT 16 (by decide))
      have e22 := H.2.2.2.2.2.2.2.2.2.2.2.2.2.2.2.2.2.2.2.2.2.2.1 (hT 22 (by decide))
      simp only [e16, e22]
      obtain ⟨f0, f1, f2⟩ := path_cells3 ((HB.block _ (by omega)).trans F5.out)
      have HH := Aside0.mk H; have HBA := Aside0.mk HB
      clear H HB
      go_wp2_with fail
      exact HKK.out _ _ ⟨fun j => if j = 23 then .slice (some ad) F.length cF else v j, by simp [e16, e22], HBA.out, HH.out.1, HH.out.2.1, HH.out.2.2.1, HH.out.2.2.2.1, HH.out.2.2.2.2.1, HH.out.2.2.2.2.2.1, HH.out.2.2.2.2.2.2.1, HH.out.2.2.2.2.2.2.2.1, HH.out.2.2.2.2.2.2.2.2.1, HH.out.2.2.2.2.2.2.2.2.2.1, HH.out.2.2.2.2.2.2.2.2.2.2.1, HH.out.2.2.2.2.2.2.2.2.2.2.2.1, HH.out.2.2.2.2.2.2.2.2.2.2.2.2.1, HH.out.2.2.2.2.2.2.2.2.2.2.2.2.2.1, HH.out.2.2.2.2.2.2.2.2.2.2.2.2.2.2.1, HH.out.2.2.2.2.2.2.2.2.2.2.2.2.2.2.2.1, HH.out.2.2.2.2.2.2.2.2.2.2.2.2.2.2.2.2.1, HH.out.2.2.2.2.2.2.2.2.2.2.2.2.2.2.2.2.2.1, HH.out.2.2.2.2.2.2.2.2.2.2.2.2.2.2.2.2.2.2.1, HH.out.2.2.2.2.2.2.2.2.2.2.2.2.2.2.2.2.2.2.2.1, HH.out.2.2.2.2.2.2.2.2.2.2.2.2.2.2.2.2.2.2.2.2.1, HH.out.2.2.2.2.2.2.2.2.2.2.2.2.2.2.2.2.2.2.2.2.2.1, HH.out.2.2.2.2.2.2.2.2.2.2.2.2.2.2.2.2.2.2.2.2.2.2.1, fun _ => rfl, HH.out.2.2.2.2.2.2.2.2.2.2.2.2.2.2.2.2.2.2.2.2.2.2.2.2.1, HH.out.2.2.2.2.2.2.2.2.2.2.2.2.2.2.2.2.2.2.2.2.2.2.2.2.2.1, HH.out.2.2.2.2.2.2.2.2.2.2.2.2.2.2.2.2.2.2.2.2.2.2.2.2.2.2.1, HH.out.2.2.2.2.2.2.2.2.2.2.2.2.2.2.2.2.2.2.2.2.2.2.2.2.2.2.2.1, HH.out.2.2.2.2.2.2.2.2.2.2.2.2.2.2.2.2.2.2.2.2.2.2.2.2.2.2.2.2.1, HH.out.2.2.2.2.2.2.2.2.2.2.2.2.2.2.2.2.2.2.2.2.2.2.2.2.2.2.2.2.2.1, HH.out.2.2.2.2.2.2.2.2.2.2.2.2.2.2.2.2.2.2.2.2.2.2.2.2.2.2.2.2.2.2.1, HH.out.2.2.2.2.2.2.2.2.2.2.2.2.2.2.2.2.2.2.2.2.2.2.2.2.2.2.2.2.2.2.2.1, HH.out.2.2.2.2.2.2.2.2.2.2.2.2.2.2.2.2.2.2.2.2.2.2.2.2.2.2.2.2.2.2.2.2.1, HH.out.2.2.2.2.2.2.2.2.2.2.2.2.2.2.2.2.2.2.2.2.2.2.2.2.2.2.2.2.2.2.2.2.2.1, HH.out.2.2.2.2.2.2.2.2.2.2.2.2.2.2.2.2.2.2.2.2.2.2.2.2.2.2.2.2.2.2.2.2.2.2.1, HH.out.2.2.2.2.2.2.2.2.2.2.2.2.2.2.2.2.2.2.2.2.2.2.2.2.2.2.2.2.2.2.2.2.2.2.2.1, HH.out.2.2.2.2.2.2.2.2.2.2.2.2.2.2.2.2.2.2.2.2.2.2.2.2.2.2.2.2.2.2.2.2.2.2.2.2.1, HH.out.2.2.2.2.2.2.2.2.2.2.2.2.2.2.2.2.2.2.2.2.2.2.2.2.2.2.2.2.2.2.2.2.2.2.2.2.2⟩
    · rintro f act V ⟨v, rfl, HB, H⟩ hi hT K hK
      have HKK := Aside0.mk hK
      clear hK
      have e16 := H.2.2.2.2.2.2.2.2.2.2.2.2.2.2.2.2.1 (hT 16 (by decide))
      simp only [e16]
      have HH := Aside0.mk H; have HBA := Aside0.mk HB
      clear H HB
      go_wp2_with fail
      exact HKK.out _ _ ⟨fun j => if j = 24 then .int .i64 b else v j, by simp [e16], HBA.out, HH.out.1, HH.out.2.1, HH.out.2.2.1, HH.out.2.2.2.1, HH.out.2.2.2.2.1, HH.out.2.2.2.2.2.1, HH.out.2.2.2.2.2.2.1, HH.out.2.2.2.2.2.2.2.1, HH.out.2.2.2.2.2.2.2.2.1, HH.out.2.2.2.2.2.2.2.2.2.1, HH.out.2.2.2.2.2.2.2.2.2.2.1, HH.out.2.2.2.2.2.2.2.2.2.2.2.1, HH.out.2.2.2.2.2.2.2.2.2.2.2.2.1, HH.out.2.2.2.2.2.2.2.2.2.2.2.2.2.1, HH.out.2.2.2.2.2.2.2.2.2.2.2.2.2.2.1, HH.out.2.2.2.2.2.2.2.2.2.2.2.2.2.2.2.1, HH.out.2.2.2.2.2.2.2.2.2.2.2.2.2.2.2.2.1, HH.out.2.2.2.2.2.2.2.2.2.2.2.2.2.2.2.2.2.1, HH.out.2.2.2.2.2.2.2.2.2.2.2.2.2.2.2.2.2.2.1, HH.out.2.2.2.2.2.2.2.2.2.2.2.2.2.2.2.2.2.2.2.1, HH.out.2.2.2.2.2.2.2.2.2.2.2.2.2.2.2.2.2.2.2.2.1, HH.out.2.2.2.2.2.2.2.2.2.2.2.2.2.2.2.2.2.2.2.2.2.1, HH.out.2.2.2.2.2.2.2.2.2.2.2.2.2.2.2.2.2.2.2.2.2.2.1, HH.out.2.2.2.2.2.2.2.2.2.2.2.2.2.2.2.2.2.2.2.2.2.2.2.1, fun _ => rfl, HH.out.2.2.2.2.2.2.2.2.2.2.2.2.2.2.2.2.2.2.2.2.2.2.2.2.2.1, HH.out.2.2.2.2.2.2.2.2.2.2.2.2.2.2.2.2.2.2.2.2.2.2.2.2.2.2.1, HH.out.2.2.2.2.2.2.2.2.2.2.2.2.2.2.2.2.2.2.2.2.2.2.2.2.2.2.2.1, HH.out.2.2.2.2.2.2.2.2.2.2.2.2.2.2.2.2.2.2.2.2.2.2.2.2.2.2.2.2.1, HH.out.2.2.2.2.2.2.2.2.2.2.2.2.2.2.2.2.2.2.2.2.2.2.2.2.2.2.2.2.2.1, HH.out.2.2.2.2.2.2.2.2.2.2.2.2.2.2.2.2.2.2.2.2.2.2.2.2.2.2.2.2.2.2.1, HH.out.2.2.2.2.2.2.2.2.2.2.2.2.2.2.2.2.2.2.2.2.2.2.2.2.2.2.2.2.2.2.2.1, HH.out.2.2.2.2.2.2.2.2.2.2.2.2.2.2.2.2.2.2.2.2.2.2.2.2.2.2.2.2.2.2.2.2.1, HH.out.2.2.2.2.2.2.2.2.2.2.2.2.2.2.2.2.2.2.2.2.2.2.2.2.2.2.2.2.2.2.2.2.2.1, HH.out.2.2.2.2.2.2.2.2.2.2.2.2.2.2.2.2.2.2.2.2.2.2.2.2.2.2.2.2.2.2.2.2.2.2.1, HH.out.2.2.2.2.2.2.2.2.2.2.2.2.2.2.2.2.2.2.2.2.2.2.2.2.2.2.2.2.2.2.2.2.2.2.2.1, HH.out.2.2.2.2.2.2.2.2.2.2.2.2.2.2.2.2.2.2.2.2.2.2.2.2.2.2.2.2.2.2.2.2.2.2.2.2.1, HH.out.2.2.2.2.2.2.2.2.2.2.2.2.2.2.2.2.2.2.2.2.2.2.2.2.2.2.2.2.2.2.2.2.2.2.2.2.2⟩
    · rintro f act V ⟨v, rfl, HB, H⟩ hi hT K hK
      have HKK := Aside0.mk hK
      clear hK
      have e16 := H.2.2.2.2.2.2.2.2.2.2.2.2.2.2.2.2.1 (hT 16 (by decide))
      simp only [e16]
      have HH := Aside0.mk H; have HBA := Aside0.mk HB
      clear H HB
      go_wp2_with fail
      exact HKK.out _ _ ⟨fun j => if j = 25 then .pointer (some ⟨w3.heap.size, 3, none⟩) else v j, by simp [e16], HBA.out, HH.out.1, HH.out.2.1, HH.out.2.2.1, HH.out.2.2.2.1, HH.out.2.2.2.2.1, HH.out.2.2.2.2.2.1, HH.out.2.2.2.2.2.2.1, HH.out.2.2.2.2.2.2.2.1, HH.out.2.2.2.2.2.2.2.2.1, HH.out.2.2.2.2.2.2.2.2.2.1, HH.out.2.2.2.2.2.2.2.2.2.2.1, HH.out.2.2.2.2.2.2.2.2.2.2.2.1, HH.out.2.2.2.2.2.2.2.2.2.2.2.2.1, HH.out.2.2.2.2.2.2.2.2.2.2.2.2.2.1, HH.out.2.2.2.2.2.2.2.2.2.2.2.2.2.2.1, HH.out.2.2.2.2.2.2.2.2.2.2.2.2.2.2.2.1, HH.out.2.2.2.2.2.2.2.2.2.2.2.2.2.2.2.2.1, HH.out.2.2.2.2.2.2.2.2.2.2.2.2.2.2.2.2.2.1, HH.out.2.2.2.2.2.2.2.2.2.2.2.2.2.2.2.2.2.2.1, HH.out.2.2.2.2.2.2.2.2.2.2.2.2.2.2.2.2.2.2.2.1, HH.out.2.2.2.2.2.2.2.2.2.2.2.2.2.2.2.2.2.2.2.2.1, HH.out.2.2.2.2.2.2.2.2.2.2.2.2.2.2.2.2.2.2.2.2.2.1, HH.out.2.2.2.2.2.2.2.2.2.2.2.2.2.2.2.2.2.2.2.2.2.2.1, HH.out.2.2.2.2.2.2.2.2.2.2.2.2.2.2.2.2.2.2.2.2.2.2.2.1, HH.out.2.2.2.2.2.2.2.2.2.2.2.2.2.2.2.2.2.2.2.2.2.2.2.2.1, fun _ => rfl, HH.out.2.2.2.2.2.2.2.2.2.2.2.2.2.2.2.2.2.2.2.2.2.2.2.2.2.2.1, HH.out.2.2.2.2.2.2.2.2.2.2.2.2.2.2.2.2.2.2.2.2.2.2.2.2.2.2.2.1, HH.out.2.2.2.2.2.2.2.2.2.2.2.2.2.2.2.2.2.2.2.2.2.2.2.2.2.2.2.2.1, HH.out.2.2.2.2.2.2.2.2.2.2.2.2.2.2.2.2.2.2.2.2.2.2.2.2.2.2.2.2.2.1, HH.out.2.2.2.2.2.2.2.2.2.2.2.2.2.2.2.2.2.2.2.2.2.2.2.2.2.2.2.2.2.2.1, HH.out.2.2.2.2.2.2.2.2.2.2.2.2.2.2.2.2.2.2.2.2.2.2.2.2.2.2.2.2.2.2.2.1, HH.out.2.2.2.2.2.2.2.2.2.2.2.2.2.2.2.2.2.2.2.2.2.2.2.2.2.2.2.2.2.2.2.2.1, HH.out.2.2.2.2.2.2.2.2.2.2.2.2.2.2.2.2.2.2.2.2.2.2.2.2.2.2.2.2.2.2.2.2.2.1, HH.out.2.2.2.2.2.2.2.2.2.2.2.2.2.2.2.2.2.2.2.2.2.2.2.2.2.2.2.2.2.2.2.2.2.2.1, HH.out.2.2.2.2.2.2.2.2.2.2.2.2.2.2.2.2.2.2.2.2.2.2.2.2.2.2.2.2.2.2.2.2.2.2.2.1, HH.out.2.2.2.2.2.2.2.2.2.2.2.2.2.2.2.2.2.2.2.2.2.2.2.2.2.2.2.2.2.2.2.2.2.2.2.2.1, HH.out.2.2.2.2.2.2.2.2.2.2.2.2.2.2.2.2.2.2.2.2.2.2.2.2.2.2.2.2.2.2.2.2.2.2.2.2.2⟩
    · rintro f act V ⟨v, rfl, HB, H⟩ hi hT K hK
      have HKK := Aside0.mk hK
      clear hK
      have e16 := H.2.2.2.2.2.2.2.2.2.2.2.2.2.2.2.2.1 (hT 16 (by decide))
      have e25 := H.2.2.2.2.2.2.2.2.2.2.2.2.2.2.2.2.2.2.2.2.2.2.2.2.2.1 (hT 25 (by decide))
      simp only [e16, e25]
      obtain ⟨q0, q1, q2, q3, q4, q5⟩ := cells6 ((HB.block _ (by omega)).trans G5.out)
      have HH := Aside0.mk H; have HBA := Aside0.mk HB
      clear H HB
      go_wp2_with fail
      exact HKK.out _ _ ⟨fun j => if j = 26 then .int .i64 W else v j, by simp [e16, e25], HBA.out, HH.out.1, HH.out.2.1, HH.out.2.2.1, HH.out.2.2.2.1, HH.out.2.2.2.2.1, HH.out.2.2.2.2.2.1, HH.out.2.2.2.2.2.2.1, HH.out.2.2.2.2.2.2.2.1, HH.out.2.2.2.2.2.2.2.2.1, HH.out.2.2.2.2.2.2.2.2.2.1, HH.out.2.2.2.2.2.2.2.2.2.2.1, HH.out.2.2.2.2.2.2.2.2.2.2.2.1, HH.out.2.2.2.2.2.2.2.2.2.2.2.2.1, HH.out.2.2.2.2.2.2.2.2.2.2.2.2.2.1, HH.out.2.2.2.2.2.2.2.2.2.2.2.2.2.2.1, HH.out.2.2.2.2.2.2.2.2.2.2.2.2.2.2.2.1, HH.out.2.2.2.2.2.2.2.2.2.2.2.2.2.2.2.2.1, HH.out.2.2.2.2.2.2.2.2.2.2.2.2.2.2.2.2.2.1, HH.out.2.2.2.2.2.2.2.2.2.2.2.2.2.2.2.2.2.2.1, HH.out.2.2.2.2.2.2.2.2.2.2.2.2.2.2.2.2.2.2.2.1, HH.out.2.2.2.2.2.2.2.2.2.2.2.2.2.2.2.2.2.2.2.2.1, HH.out.2.2.2.2.2.2.2.2.2.2.2.2.2.2.2.2.2.2.2.2.2.1, HH.out.2.2.2.2.2.2.2.2.2.2.2.2.2.2.2.2.2.2.2.2.2.2.1, HH.out.2.2.2.2.2.2.2.2.2.2.2.2.2.2.2.2.2.2.2.2.2.2.2.1, HH.out.2.2.2.2.2.2.2.2.2.2.2.2.2.2.2.2.2.2.2.2.2.2.2.2.1, HH.out.2.2.2.2.2.2.2.2.2.2.2.2.2.2.2.2.2.2.2.2.2.2.2.2.2.1, fun _ => rfl, HH.out.2.2.2.2.2.2.2.2.2.2.2.2.2.2.2.2.2.2.2.2.2.2.2.2.2.2.2.1, HH.out.2.2.2.2.2.2.2.2.2.2.2.2.2.2.2.2.2.2.2.2.2.2.2.2.2.2.2.2.1, HH.out.2.2.2.2.2.2.2.2.2.2.2.2.2.2.2.2.2.2.2.2.2.2.2.2.2.2.2.2.2.1, HH.out.2.2.2.2.2.2.2.2.2.2.2.2.2.2.2.2.2.2.2.2.2.2.2.2.2.2.2.2.2.2.1, HH.out.2.2.2.2.2.2.2.2.2.2.2.2.2.2.2.2.2.2.2.2.2.2.2.2.2.2.2.2.2.2.2.1, HH.out.2.2.2.2.2.2.2.2.2.2.2.2.2.2.2.2.2.2.2.2.2.2.2.2.2.2.2.2.2.2.2.2.1, HH.out.2.2.2.2.2.2.2.2.2.2.2.2.2.2.2.2.2.2.2.2.2.2.2.2.2.2.2.2.2.2.2.2.2.1, HH.out.2.2.2.2.2.2.2.2.2.2.2.2.2.2.2.2.2.2.2.2.2.2.2.2.2.2.2.2.2.2.2.2.2.2.1, HH.out.2.2.2.2.2.2.2.2.2.2.2.2.2.2.2.2.2.2.2.2.2.2.2.2.2.2.2.2.2.2.2.2.2.2.2.1, HH.out.2.2.2.2.2.2.2.2.2.2.2.2.2.2.2.2.2.2.2.2.2.2.2.2.2.2.2.2.2.2.2.2.2.2.2.2.1, HH.out.2.2.2.2.2.2.2.2.2.2.2.2.2.2.2.2.2.2.2.2.2.2.2.2.2.2.2.2.2.2.2.2.2.2.2.2.2⟩
    · rintro f act V ⟨v, rfl, HB, H⟩ hi hT K hK
      have HKK := Aside0.mk hK
      clear hK
      have e16 := H.2.2.2.2.2.2.2.2.2.2.2.2.2.2.2.2.1 (hT 16 (by decide))
      have e24 := H.2.2.2.2.2.2.2.2.2.2.2.2.2.2.2.2.2.2.2.2.2.2.2.2.1 (hT 24 (by decide))
      have e26 := H.2.2.2.2.2.2.2.2.2.2.2.2.2.2.2.2.2.2.2.2.2.2.2.2.2.2.1 (hT 26 (by decide))
      simp only [e16, e24, e26]
      have HH := Aside0.mk H; have HBA := Aside0.mk HB
      clear H HB
      go_wp2_with fail
      exact HKK.out _ _ ⟨fun j => if j = 27 then .int .i64 m else v j, by simp [e16, e24, e26], HBA.out, HH.out.1, HH.out.2.1, HH.out.2.2.1, HH.out.2.2.2.1, HH.out.2.2.2.2.1, HH.out.2.2.2.2.2.1, HH.out.2.2.2.2.2.2.1, HH.out.2.2.2.2.2.2.2.1, HH.out.2.2.2.2.2.2.2.2.1, HH.out.2.2.2.2.2.2.2.2.2.1, HH.out.2.2.2.2.2.2.2.2.2.2.1, HH.out.2.2.2.2.2.2.2.2.2.2.2.1, HH.out.2.2.2.2.2.2.2.2.2.2.2.2.1, HH.out.2.2.2.2.2.2.2.2.2.2.2.2.2.1, HH.out.2.2.2.2.2.2.2.2.2.2.2.2.2.2.1, HH.out.2.2.2.2.2.2.2.2.2.2.2.2.2.2.2.1, HH.out.2.2.2.2.2.2.2.2.2.2.2.2.2.2.2.2.1, HH.out.2.2.2.2.2.2.2.2.2.2.2.2.2.2.2.2.2.1, HH.out.2.2.2.2.2.2.2.2.2.2.2.2.2.2.2.2.2.2.1, HH.out.2.2.2.2.2.2.2.2.2.2.2.2.2.2.2.2.2.2.2.1, HH.out.2.2.2.2.2.2.2.2.2.2.2.2.2.2.2.2.2.2.2.2.1, HH.out.2.2.2.2.2.2.2.2.2.2.2.2.2.2.2.2.2.2.2.2.2.1, HH.out.2.2.2.2.2.2.2.2.2.2.2.2.2.2.2.2.2.2.2.2.2.2.1, HH.out.2.2.2.2.2.2.2.2.2.2.2.2.2.2.2.2.2.2.2.2.2.2.2.1, HH.out.2.2.2.2.2.2.2.2.2.2.2.2.2.2.2.2.2.2.2.2.2.2.2.2.1, HH.out.2.2.2.2.2.2.2.2.2.2.2.2.2.2.2.2.2.2.2.2.2.2.2.2.2.1, HH.out.2.2.2.2.2.2.2.2.2.2.2.2.2.2.2.2.2.2.2.2.2.2.2.2.2.2.1, fun _ => rfl, HH.out.2.2.2.2.2.2.2.2.2.2.2.2.2.2.2.2.2.2.2.2.2.2.2.2.2.2.2.2.1, HH.out.2.2.2.2.2.2.2.2.2.2.2.2.2.2.2.2.2.2.2.2.2.2.2.2.2.2.2.2.2.1, HH.out.2.2.2.2.2.2.2.2.2.2.2.2.2.2.2.2.2.2.2.2.2.2.2.2.2.2.2.2.2.2.1, HH.out.2.2.2.2.2.2.2.2.2.2.2.2.2.2.2.2.2.2.2.2.2.2.2.2.2.2.2.2.2.2.2.1, HH.out.2.2.2.2.2.2.2.2.2.2.2.2.2.2.2.2.2.2.2.2.2.2.2.2.2.2.2.2.2.2.2.2.1, HH.out.2.2.2.2.2.2.2.2.2.2.2.2.2.2.2.2.2.2.2.2.2.2.2.2.2.2.2.2.2.2.2.2.2.1, HH.out.2.2.2.2.2.2.2.2.2.2.2.2.2.2.2.2.2.2.2.2.2.2.2.2.2.2.2.2.2.2.2.2.2.2.1, HH.out.2.2.2.2.2.2.2.2.2.2.2.2.2.2.2.2.2.2.2.2.2.2.2.2.2.2.2.2.2.2.2.2.2.2.2.1, HH.out.2.2.2.2.2.2.2.2.2.2.2.2.2.2.2.2.2.2.2.2.2.2.2.2.2.2.2.2.2.2.2.2.2.2.2.2.1, HH.out.2.2.2.2.2.2.2.2.2.2.2.2.2.2.2.2.2.2.2.2.2.2.2.2.2.2.2.2.2.2.2.2.2.2.2.2.2⟩
    · rintro f act V ⟨v, rfl, HB, H⟩ hi hT K hK
      have HKK := Aside0.mk hK
      clear hK
      have e16 := H.2.2.2.2.2.2.2.2.2.2.2.2.2.2.2.2.1 (hT 16 (by decide))
      simp only [e16]
      have HH := Aside0.mk H; have HBA := Aside0.mk HB
      clear H HB
      go_wp2_with fail
      exact HKK.out _ _ ⟨fun j => if j = 28 then .int .i64 b else v j, by simp [e16], HBA.out, HH.out.1, HH.out.2.1, HH.out.2.2.1, HH.out.2.2.2.1, HH.out.2.2.2.2.1, HH.out.2.2.2.2.2.1, HH.out.2.2.2.2.2.2.1, HH.out.2.2.2.2.2.2.2.1, HH.out.2.2.2.2.2.2.2.2.1, HH.out.2.2.2.2.2.2.2.2.2.1, HH.out.2.2.2.2.2.2.2.2.2.2.1, HH.out.2.2.2.2.2.2.2.2.2.2.2.1, HH.out.2.2.2.2.2.2.2.2.2.2.2.2.1, HH.out.2.2.2.2.2.2.2.2.2.2.2.2.2.1, HH.out.2.2.2.2.2.2.2.2.2.2.2.2.2.2.1, HH.out.2.2.2.2.2.2.2.2.2.2.2.2.2.2.2.1, HH.out.2.2.2.2.2.2.2.2.2.2.2.2.2.2.2.2.1, HH.out.2.2.2.2.2.2.2.2.2.2.2.2.2.2.2.2.2.1, HH.out.2.2.2.2.2.2.2.2.2.2.2.2.2.2.2.2.2.2.1, HH.out.2.2.2.2.2.2.2.2.2.2.2.2.2.2.2.2.2.2.2.1, HH.out.2.2.2.2.2.2.2.2.2.2.2.2.2.2.2.2.2.2.2.2.1, HH.out.2.2.2.2.2.2.2.2.2.2.2.2.2.2.2.2.2.2.2.2.2.1, HH.out.2.2.2.2.2.2.2.2.2.2.2.2.2.2.2.2.2.2.2.2.2.2.1, HH.out.2.2.2.2.2.2.2.2.2.2.2.2.2.2.2.2.2.2.2.2.2.2.2.1, HH.out.2.2.2.2.2.2.2.2.2.2.2.2.2.2.2.2.2.2.2.2.2.2.2.2.1, HH.out.2.2.2.2.2.2.2.2.2.2.2.2.2.2.2.2.2.2.2.2.2.2.2.2.2.1, HH.out.2.2.2.2.2.2.2.2.2.2.2.2.2.2.2.2.2.2.2.2.2.2.2.2.2.2.1, HH.out.2.2.2.2.2.2.2.2.2.2.2.2.2.2.2.2.2.2.2.2.2.2.2.2.2.2.2.1, fun _ => rfl, HH.out.2.2.2.2.2.2.2.2.2.2.2.2.2.2.2.2.2.2.2.2.2.2.2.2.2.2.2.2.2.1, HH.out.2.2.2.2.2.2.2.2.2.2.2.2.2.2.2.2.2.2.2.2.2.2.2.2.2.2.2.2.2.2.1, HH.out.2.2.2.2.2.2.2.2.2.2.2.2.2.2.2.2.2.2.2.2.2.2.2.2.2.2.2.2.2.2.2.1, HH.out.2.2.2.2.2.2.2.2.2.2.2.2.2.2.2.2.2.2.2.2.2.2.2.2.2.2.2.2.2.2.2.2.1, HH.out.2.2.2.2.2.2.2.2.2.2.2.2.2.2.2.2.2.2.2.2.2.2.2.2.2.2.2.2.2.2.2.2.2.1, HH.out.2.2.2.2.2.2.2.2.2.2.2.2.2.2.2.2.2.2.2.2.2.2.2.2.2.2.2.2.2.2.2.2.2.2.1, HH.out.2.2.2.2.2.2.2.2.2.2.2.2.2.2.2.2.2.2.2.2.2.2.2.2.2.2.2.2.2.2.2.2.2.2.2.1, HH.out.2.2.2.2.2.2.2.2.2.2.2.2.2.2.2.2.2.2.2.2.2.2.2.2.2.2.2.2.2.2.2.2.2.2.2.2.1, HH.out.2.2.2.2.2.2.2.2.2.2.2.2.2.2.2.2.2.2.2.2.2.2.2.2.2.2.2.2.2.2.2.2.2.2.2.2.2⟩
    · rintro f act V ⟨v, rfl, HB, H⟩ hi hT K hK
      have HKK := Aside0.mk hK
      clear hK
      have e16 := H.2.2.2.2.2.2.2.2.2.2.2.2.2.2.2.2.1 (hT 16 (by decide))
      have e28 := H.2.2.2.2.2.2.2.2.2.2.2.2.2.2.2.2.2.2.2.2.2.2.2.2.2.2.2.2.1 (hT 28 (by decide))
      simp only [e16, e28]
      have HH := Aside0.mk H; have HBA := Aside0.mk HB
      clear H HB
      go_wp2_with fail
      exact HKK.out _ _ ⟨fun j => if j = 29 then .int .i64 (b + 1) else v j, by simp [e16, e28], HBA.out, HH.out.1, HH.out.2.1, HH.out.2.2.1, HH.out.2.2.2.1, HH.out.2.2.2.2.1, HH.out.2.2.2.2.2.1, HH.out.2.2.2.2.2.2.1, HH.out.2.2.2.2.2.2.2.1, HH.out.2.2.2.2.2.2.2.2.1, HH.out.2.2.2.2.2.2.2.2.2.1, HH.out.2.2.2.2.2.2.2.2.2.2.1, HH.out.2.2.2.2.2.2.2.2.2.2.2.1, HH.out.2.2.2.2.2.2.2.2.2.2.2.2.1, HH.out.2.2.2.2.2.2.2.2.2.2.2.2.2.1, HH.out.2.2.2.2.2.2.2.2.2.2.2.2.2.2.1, HH.out.2.2.2.2.2.2.2.2.2.2.2.2.2.2.2.1, HH.out.2.2.2.2.2.2.2.2.2.2.2.2.2.2.2.2.1, HH.out.2.2.2.2.2.2.2.2.2.2.2.2.2.2.2.2.2.1, HH.out.2.2.2.2.2.2.2.2.2.2.2.2.2.2.2.2.2.2.1, HH.out.2.2.2.2.2.2.2.2.2.2.2.2.2.2.2.2.2.2.2.1, HH.out.2.2.2.2.2.2.2.2.2.2.2.2.2.2.2.2.2.2.2.2.1, HH.out.2.2.2.2.2.2.2.2.2.2.2.2.2.2.2.2.2.2.2.2.2.1, HH.out.2.2.2.2.2.2.2.2.2.2.2.2.2.2.2.2.2.2.2.2.2.2.1, HH.out.2.2.2.2.2.2.2.2.2.2.2.2.2.2.2.2.2.2.2.2.2.2.2.1, HH.out.2.2.2.2.2.2.2.2.2.2.2.2.2.2.2.2.2.2.2.2.2.2.2.2.1, HH.out.2.2.2.2.2.2.2.2.2.2.2.2.2.2.2.2.2.2.2.2.2.2.2.2.2.1, HH.out.2.2.2.2.2.2.2.2.2.2.2.2.2.2.2.2.2.2.2.2.2.2.2.2.2.2.1, HH.out.2.2.2.2.2.2.2.2.2.2.2.2.2.2.2.2.2.2.2.2.2.2.2.2.2.2.2.1, HH.out.2.2.2.2.2.2.2.2.2.2.2.2.2.2.2.2.2.2.2.2.2.2.2.2.2.2.2.2.1, fun _ => rfl, HH.out.2.2.2.2.2.2.2.2.2.2.2.2.2.2.2.2.2.2.2.2.2.2.2.2.2.2.2.2.2.2.1, HH.out.2.2.2.2.2.2.2.2.2.2.2.2.2.2.2.2.2.2.2.2.2.2.2.2.2.2.2.2.2.2.2.1, HH.out.2.2.2.2.2.2.2.2.2.2.2.2.2.2.2.2.2.2.2.2.2.2.2.2.2.2.2.2.2.2.2.2.1, HH.out.2.2.2.2.2.2.2.2.2.2.2.2.2.2.2.2.2.2.2.2.2.2.2.2.2.2.2.2.2.2.2.2.2.1, HH.out.2.2.2.2.2.2.2.2.2.2.2.2.2.2.2.2.2.2.2.2.2.2.2.2.2.2.2.2.2.2.2.2.2.2.1, HH.out.2.2.2.2.2.2.2.2.2.2.2.2.2.2.2.2.2.2.2.2.2.2.2.2.2.2.2.2.2.2.2.2.2.2.2.1, HH.out.2.2.2.2.2.2.2.2.2.2.2.2.2.2.2.2.2.2.2.2.2.2.2.2.2.2.2.2.2.2.2.2.2.2.2.2.1, HH.out.2.2.2.2.2.2.2.2.2.2.2.2.2.2.2.2.2.2.2.2.2.2.2.2.2.2.2.2.2.2.2.2.2.2.2.2.2⟩
    · rintro f act V ⟨v, rfl, HB, H⟩ hi hT K hK
      have HKK := Aside0.mk hK
      clear hK
      have e16 := H.2.2.2.2.2.2.2.2.2.2.2.2.2.2.2.2.1 (hT 16 (by decide))
      simp only [e16]
      have HH := Aside0.mk H; have HBA := Aside0.mk HB
      clear H HB
      go_wp2_with fail
      exact HKK.out _ _ ⟨fun j => if j = 30 then .pointer (some ⟨w3.heap.size, 3, none⟩) else v j, by simp [e16], HBA.out, HH.out.1, HH.out.2.1, HH.out.2.2.1, HH.out.2.2.2.1, HH.out.2.2.2.2.1, HH.out.2.2.2.2.2.1, HH.out.2.2.2.2.2.2.1, HH.out.2.2.2.2.2.2.2.1, HH.out.2.2.2.2.2.2.2.2.1, HH.out.2.2.2.2.2.2.2.2.2.1, HH.out.2.2.2.2.2.2.2.2.2.2.1, HH.out.2.2.2.2.2.2.2.2.2.2.2.1, HH.out.2.2.2.2.2.2.2.2.2.2.2.2.1, HH.out.2.2.2.2.2.2.2.2.2.2.2.2.2.1, HH.out.2.2.2.2.2.2.2.2.2.2.2.2.2.2.1, HH.out.2.2.2.2.2.2.2.2.2.2.2.2.2.2.2.1, HH.out.2.2.2.2.2.2.2.2.2.2.2.2.2.2.2.2.1, HH.out.2.2.2.2.2.2.2.2.2.2.2.2.2.2.2.2.2.1, HH.out.2.2.2.2.2.2.2.2.2.2.2.2.2.2.2.2.2.2.1, HH.out.2.2.2.2.2.2.2.2.2.2.2.2.2.2.2.2.2.2.2.1, HH.out.2.2.2.2.2.2.2.2.2.2.2.2.2.2.2.2.2.2.2.2.1, HH.out.2.2.2.2.2.2.2.2.2.2.2.2.2.2.2.2.2.2.2.2.2.1, HH.out.2.2.2.2.2.2.2.2.2.2.2.2.2.2.2.2.2.2.2.2.2.2.1, HH.out.2.2.2.2.2.2.2.2.2.2.2.2.2.2.2.2.2.2.2.2.2.2.2.1, HH.out.2.2.2.2.2.2.2.2.2.2.2.2.2.2.2.2.2.2.2.2.2.2.2.2.1, HH.out.2.2.2.2.2.2.2.2.2.2.2.2.2.2.2.2.2.2.2.2.2.2.2.2.2.1, HH.out.2.2.2.2.2.2.2.2.2.2.2.2.2.2.2.2.2.2.2.2.2.2.2.2.2.2.1, HH.out.2.2.2.2.2.2.2.2.2.2.2.2.2.2.2.2.2.2.2.2.2.2.2.2.2.2.2.1, HH.out.2.2.2.2.2.2.2.2.2.2.2.2.2.2.2.2.2.2.2.2.2.2.2.2.2.2.2.2.1, HH.out.2.2.2.2.2.2.2.2.2.2.2.2.2.2.2.2.2.2.2.2.2.2.2.2.2.2.2.2.2.1, fun _ => rfl, HH.out.2.2.2.2.2.2.2.2.2.2.2.2.2.2.2.2.2.2.2.2.2.2.2.2.2.2.2.2.2.2.2.1, HH.out.2.2.2.2.2.2.2.2.2.2.2.2.2.2.2.2.2.2.2.2.2.2.2.2.2.2.2.2.2.2.2.2.1, HH.out.2.2.2.2.2.2.2.2.2.2.2.2.2.2.2.2.2.2.2.2.2.2.2.2.2.2.2.2.2.2.2.2.2.1, HH.out.2.2.2.2.2.2.2.2.2.2.2.2.2.2.2.2.2.2.2.2.2.2.2.2.2.2.2.2.2.2.2.2.2.2.1, HH.out.2.2.2.2.2.2.2.2.2.2.2.2.2.2.2.2.2.2.2.2.2.2.2.2.2.2.2.2.2.2.2.2.2.2.2.1, HH.out.2.2.2.2.2.2.2.2.2.2.2.2.2.2.2.2.2.2.2.2.2.2.2.2.2.2.2.2.2.2.2.2.2.2.2.2.1, HH.out.2.2.2.2.2.2.2.2.2.2.2.2.2.2.2.2.2.2.2.2.2.2.2.2.2.2.2.2.2.2.2.2.2.2.2.2.2⟩
    · rintro f act V ⟨v, rfl, HB, H⟩ hi hT K hK
      have HKK := Aside0.mk hK
      clear hK
      have e16 := H.2.2.2.2.2.2.2.2.2.2.2.2.2.2.2.2.1 (hT 16 (by decide))
      have e30 := H.2.2.2.2.2.2.2.2.2.2.2.2.2.2.2.2.2.2.2.2.2.2.2.2.2.2.2.2.2.2.1 (hT 30 (by decide))
      simp only [e16, e30]
      obtain ⟨q0, q1, q2, q3, q4, q5⟩ := cells6 ((HB.block _ (by omega)).trans G5.out)
      have HH := Aside0.mk H; have HBA := Aside0.mk HB
      clear H HB
      go_wp2_with fail
      exact HKK.out _ _ ⟨fun j => if j = 31 then .int .i64 W else v j, by simp [e16, e30], HBA.out, HH.out.1, HH.out.2.1, HH.out.2.2.1, HH.out.2.2.2.1, HH.out.2.2.2.2.1, HH.out.2.2.2.2.2.1, HH.out.2.2.2.2.2.2.1, HH.out.2.2.2.2.2.2.2.1, HH.out.2.2.2.2.2.2.2.2.1, HH.out.2.2.2.2.2.2.2.2.2.1, HH.out.2.2.2.2.2.2.2.2.2.2.1, HH.out.2.2.2.2.2.2.2.2.2.2.2.1, HH.out.2.2.2.2.2.2.2.2.2.2.2.2.1, HH.out.2.2.2.2.2.2.2.2.2.2.2.2.2.1, HH.out.2.2.2.2.2.2.2.2.2.2.2.2.2.2.1, HH.out.2.2.2.2.2.2.2.2.2.2.2.2.2.2.2.1, HH.out.2.2.2.2.2.2.2.2.2.2.2.2.2.2.2.2.1, HH.out.2.2.2.2.2.2.2.2.2.2.2.2.2.2.2.2.2.1, HH.out.2.2.2.2.2.2.2.2.2.2.2.2.2.2.2.2.2.2.1, HH.out.2.2.2.2.2.2.2.2.2.2.2.2.2.2.2.2.2.2.2.1, HH.out.2.2.2.2.2.2.2.2.2.2.2.2.2.2.2.2.2.2.2.2.1, HH.out.2.2.2.2.2.2.2.2.2.2.2.2.2.2.2.2.2.2.2.2.2.1, HH.out.2.2.2.2.2.2.2.2.2.2.2.2.2.2.2.2.2.2.2.2.2.2.1, HH.out.2.2.2.2.2.2.2.2.2.2.2.2.2.2.2.2.2.2.2.2.2.2.2.1, HH.out.2.2.2.2.2.2.2.2.2.2.2.2.2.2.2.2.2.2.2.2.2.2.2.2.1, HH.out.2.2.2.2.2.2.2.2.2.2.2.2.2.2.2.2.2.2.2.2.2.2.2.2.2.1, HH.out.2.2.2.2.2.2.2.2.2.2.2.2.2.2.2.2.2.2.2.2.2.2.2.2.2.2.1, HH.out.2.2.2.2.2.2.2.2.2.2.2.2.2.2.2.2.2.2.2.2.2.2.2.2.2.2.2.1, HH.out.2.2.2.2.2.2.2.2.2.2.2.2.2.2.2.2.2.2.2.2.2.2.2.2.2.2.2.2.1, HH.out.2.2.2.2.2.2.2.2.2.2.2.2.2.2.2.2.2.2.2.2.2.2.2.2.2.2.2.2.2.1, HH.out.2.2.2.2.2.2.2.2.2.2.2.2.2.2.2.2.2.2.2.2.2.2.2.2.2.2.2.2.2.2.1, fun _ => rfl, HH.out.2.2.2.2.2.2.2.2.2.2.2.2.2.2.2.2.2.2.2.2.2.2.2.2.2.2.2.2.2.2.2.2.1, HH.out.2.2.2.2.2.2.2.2.2.2.2.2.2.2.2.2.2.2.2.2.2.2.2.2.2.2.2.2.2.2.2.2.2.1, HH.out.2.2.2.2.2.2.2.2.2.2.2.2.2.2.2.2.2.2.2.2.2.2.2.2.2.2.2.2.2.2.2.2.2.2.1, HH.out.2.2.2.2.2.2.2.2.2.2.2.2.2.2.2.2.2.2.2.2.2.2.2.2.2.2.2.2.2.2.2.2.2.2.2.1, HH.out.2.2.2.2.2.2.2.2.2.2.2.2.2.2.2.2.2.2.2.2.2.2.2.2.2.2.2.2.2.2.2.2.2.2.2.2.1, HH.out.2.2.2.2.2.2.2.2.2.2.2.2.2.2.2.2.2.2.2.2.2.2.2.2.2.2.2.2.2.2.2.2.2.2.2.2.2⟩
    · rintro f act V ⟨v, rfl, HB, H⟩ hi hT K hK
      have HKK := Aside0.mk hK
      clear hK
      have e16 := H.2.2.2.2.2.2.2.2.2.2.2.2.2.2.2.2.1 (hT 16 (by decide))
      have e29 := H.2.2.2.2.2.2.2.2.2.2.2.2.2.2.2.2.2.2.2.2.2.2.2.2.2.2.2.2.2.1 (hT 29 (by decide))
      have e31 := H.2.2.2.2.2.2.2.2.2.2.2.2.2.2.2.2.2.2.2.2.2.2.2.2.2.2.2.2.2.2.2.1 (hT 31 (by decide))
      simp only [e16, e29, e31]
      have HH := Aside0.mk H; have HBA := Aside0.mk HB
      clear H HB
      go_wp2_with fail
      exact HKK.out _ _ ⟨fun j => if j = 32 then .int .i64 m2 else v j, by simp [e16, e29, e31], HBA.out, HH.out.1, HH.out.2.1, HH.out.2.2.1, HH.out.2.2.2.1, HH.out.2.2.2.2.1, HH.out.2.2.2.2.2.1, HH.out.2.2.2.2.2.2.1, HH.out.2.2.2.2.2.2.2.1, HH.out.2.2.2.2.2.2.2.2.1, HH.out.2.2.2.2.2.2.2.2.2.1, HH.out.2.2.2.2.2.2.2.2.2.2.1, HH.out.2.2.2.2.2.2.2.2.2.2.2.1, HH.out.2.2.2.2.2.2.2.2.2.2.2.2.1, HH.out.2.2.2.2.2.2.2.2.2.2.2.2.2.1, HH.out.2.2.2.2.2.2.2.2.2.2.2.2.2.2.1, HH.out.2.2.2.2.2.2.2.2.2.2.2.2.2.2.2.1, HH.out.2.2.2.2.2.2.2.2.2.2.2.2.2.2.2.2.1, HH.out.2.2.2.2.2.2.2.2.2.2.2.2.2.2.2.2.2.1, HH.out.2.2.2.2.2.2.2.2.2.2.2.2.2.2.2.2.2.2.1, HH.out.2.2.2.2.2.2.2.2.2.2.2.2.2.2.2.2.2.2.2.1, HH.out.2.2.2.2.2.2.2.2.2.2.2.2.2.2.2.2.2.2.2.2.1, HH.out.2.2.2.2.2.2.2.2.2.2.2.2.2.2.2.2.2.2.2.2.2.1, HH.out.2.2.2.2.2.2.2.2.2.2.2.2.2.2.2.2.2.2.2.2.2.2.1, HH.out.2.2.2.2.2.2.2.2.2.2.2.2.2.2.2.2.2.2.2.2.2.2.2.1, HH.out.2.2.2.2.2.2.2.2.2.2.2.2.2.2.2.2.2.2.2.2.2.2.2.2.1, HH.out.2.2.2.2.2.2.2.2.2.2.2.2.2.2.2.2.2.2.2.2.2.2.2.2.2.1, HH.out.2.2.2.2.2.2.2.2.2.2.2.2.2.2.2.2.2.2.2.2.2.2.2.2.2.2.1, HH.out.2.2.2.2.2.2.2.2.2.2.2.2.2.2.2.2.2.2.2.2.2.2.2.2.2.2.2.1, HH.out.2.2.2.2.2.2.2.2.2.2.2.2.2.2.2.2.2.2.2.2.2.2.2.2.2.2.2.2.1, HH.out.2.2.2.2.2.2.2.2.2.2.2.2.2.2.2.2.2.2.2.2.2.2.2.2.2.2.2.2.2.1, HH.out.2.2.2.2.2.2.2.2.2.2.2.2.2.2.2.2.2.2.2.2.2.2.2.2.2.2.2.2.2.2.1, HH.out.2.2.2.2.2.2.2.2.2.2.2.2.2.2.2.2.2.2.2.2.2.2.2.2.2.2.2.2.2.2.2.1, fun _ => rfl, HH.out.2.2.2.2.2.2.2.2.2.2.2.2.2.2.2.2.2.2.2.2.2.2.2.2.2.2.2.2.2.2.2.2.2.1, HH.out.2.2.2.2.2.2.2.2.2.2.2.2.2.2.2.2.2.2.2.2.2.2.2.2.2.2.2.2.2.2.2.2.2.2.1, HH.out.2.2.2.2.2.2.2.2.2.2.2.2.2.2.2.2.2.2.2.2.2.2.2.2.2.2.2.2.2.2.2.2.2.2.2.1, HH.out.2.2.2.2.2.2.2.2.2.2.2.2.2.2.2.2.2.2.2.2.2.2.2.2.2.2.2.2.2.2.2.2.2.2.2.2.1, HH.out.2.2.2.2.2.2.2.2.2.2.2.2.2.2.2.2.2.2.2.2.2.2.2.2.2.2.2.2.2.2.2.2.2.2.2.2.2⟩
    · rintro f act V ⟨v, rfl, HB, H⟩ hi hT K hK
      have HKK := Aside0.mk hK
      clear hK
      have e16 := H.2.2.2.2.2.2.2.2.2.2.2.2.2.2.2.2.1 (hT 16 (by decide))
      have e23 := H.2.2.2.2.2.2.2.2.2.2.2.2.2.2.2.2.2.2.2.2.2.2.2.1 (hT 23 (by decide))
      have e27 := H.2.2.2.2.2.2.2.2.2.2.2.2.2.2.2.2.2.2.2.2.2.2.2.2.2.2.2.1 (hT 27 (by decide))
      have e32 := H.2.2.2.2.2.2.2.2.2.2.2.2.2.2.2.2.2.2.2.2.2.2.2.2.2.2.2.2.2.2.2.2.1 (hT 32 (by decide))
      simp only [e16, e23, e27, e32]
      have HH := Aside0.mk H; have HBA := Aside0.mk HB
      clear H HB
      go_wp2_with fail
      exact HKK.out _ _ ⟨fun j => if j = 33 then .slice (some (ad.add m.toNat)) (m2.toNat - m.toNat) (cF - m.toNat) else v j, by simp [e16, e23, e27, e32], HBA.out, HH.out.1, HH.out.2.1, HH.out.2.2.1, HH.out.2.2.2.1, HH.out.2.2.2.2.1, HH.out.2.2.2.2.2.1, HH.out.2.2.2.2.2.2.1, HH.out.2.2.2.2.2.2.2.1, HH.out.2.2.2.2.2.2.2.2.1, HH.out.2.2.2.2.2.2.2.2.2.1, HH.out.2.2.2.2.2.2.2.2.2.2.1, HH.out.2.2.2.2.2.2.2.2.2.2.2.1, HH.out.2.2.2.2.2.2.2.2.2.2.2.2.1, HH.out.2.2.2.2.2.2.2.2.2.2.2.2.2.1, HH.out.2.2.2.2.2.2.2.2.2.2.2.2.2.2.1, HH.out.2.2.2.2.2.2.2.2.2.2.2.2.2.2.2.1, HH.out.2.2.2.2.2.2.2.2.2.2.2.2.2.2.2.2.1, HH.out.2.2.2.2.2.2.2.2.2.2.2.2.2.2.2.2.2.1, HH.out.2.2.2.2.2.2.2.2.2.2.2.2.2.2.2.2.2.2.1, HH.out.2.2.2.2.2.2.2.2.2.2.2.2.2.2.2.2.2.2.2.1, HH.out.2.2.2.2.2.2.2.2.2.2.2.2.2.2.2.2.2.2.2.2.1, HH.out.2.2.2.2.2.2.2.2.2.2.2.2.2.2.2.2.2.2.2.2.2.1, HH.out.2.2.2.2.2.2.2.2.2.2.2.2.2.2.2.2.2.2.2.2.2.2.1, HH.out.2.2.2.2.2.2.2.2.2.2.2.2.2.2.2.2.2.2.2.2.2.2.2.1, HH.out.2.2.2.2.2.2.2.2.2.2.2.2.2.2.2.2.2.2.2.2.2.2.2.2.1, HH.out.2.2.2.2.2.2.2.2.2.2.2.2.2.2.2.2.2.2.2.2.2.2.2.2.2.1, HH.out.2.2.2.2.2.2.2.2.2.2.2.2.2.2.2.2.2.2.2.2.2.2.2.2.2.2.1, HH.out.2.2.2.2.2.2.2.2.2.2.2.2.2.2.2.2.2.2.2.2.2.2.2.2.2.2.2.1, HH.out.2.2.2.2.2.2.2.2.2.2.2.2.2.2.2.2.2.2.2.2.2.2.2.2.2.2.2.2.1, HH.out.2.2.2.2.2.2.2.2.2.2.2.2.2.2.2.2.2.2.2.2.2.2.2.2.2.2.2.2.2.1, HH.out.2.2.2.2.2.2.2.2.2.2.2.2.2.2.2.2.2.2.2.2.2.2.2.2.2.2.2.2.2.2.1, HH.out.2.2.2.2.2.2.2.2.2.2.2.2.2.2.2.2.2.2.2.2.2.2.2.2.2.2.2.2.2.2.2.1, HH.out.2.2.2.2.2.2.2.2.2.2.2.2.2.2.2.2.2.2.2.2.2.2.2.2.2.2.2.2.2.2.2.2.1, fun _ => rfl, HH.out.2.2.2.2.2.2.2.2.2.2.2.2.2.2.2.2.2.2.2.2.2.2.2.2.2.2.2.2.2.2.2.2.2.2.1, HH.out.2.2.2.2.2.2.2.2.2.2.2.2.2.2.2.2.2.2.2.2.2.2.2.2.2.2.2.2.2.2.2.2.2.2.2.1, HH.out.2.2.2.2.2.2.2.2.2.2.2.2.2.2.2.2.2.2.2.2.2.2.2.2.2.2.2.2.2.2.2.2.2.2.2.2.1, HH.out.2.2.2.2.2.2.2.2.2.2.2.2.2.2.2.2.2.2.2.2.2.2.2.2.2.2.2.2.2.2.2.2.2.2.2.2.2⟩
    · rintro f act V ⟨v, rfl, HB, H⟩ hi hT K hK
      have HKK := Aside0.mk hK
      clear hK
      have e16 := H.2.2.2.2.2.2.2.2.2.2.2.2.2.2.2.2.1 (hT 16 (by decide))
      have e33 := H.2.2.2.2.2.2.2.2.2.2.2.2.2.2.2.2.2.2.2.2.2.2.2.2.2.2.2.2.2.2.2.2.2.1 (hT 33 (by decide))
      simp only [e16, e33]
      have hcv := HCV.out V HB
      have HH := Aside0.mk H; have HBA := Aside0.mk HB
      clear H HB
      go_wp2_with fail
      exact HKK.out _ _ ⟨fun j => if j = 34 then .string (strOfNums row) else v j, by simp [e16, e33], HBA.out, HH.out.1, HH.out.2.1, HH.out.2.2.1, HH.out.2.2.2.1, HH.out.2.2.2.2.1, HH.out.2.2.2.2.2.1, HH.out.2.2.2.2.2.2.1, HH.out.2.2.2.2.2.2.2.1, HH.out.2.2.2.2.2.2.2.2.1, HH.out.2.2.2.2.2.2.2.2.2.1, HH.out.2.2.2.2.2.2.2.2.2.2.1, HH.out.2.2.2.2.2.2.2.2.2.2.2.1, HH.out.2.2.2.2.2.2.2.2.2.2.2.2.1, HH.out.2.2.2.2.2.2.2.2.2.2.2.2.2.1, HH.out.2.2.2.2.2.2.2.2.2.2.2.2.2.2.1, HH.out.2.2.2.2.2.2.2.2.2.2.2.2.2.2.2.1, HH.out.2.2.2.2.2.2.2.2.2.2.2.2.2.2.2.2.1, HH.out.2.2.2.2.2.2.2.2.2.2.2.2.2.2.2.2.2.1, HH.out.2.2.2.2.2.2.2.2.2.2.2.2.2.2.2.2.2.2.1, HH.out.2.2.2.2.2.2.2.2.2.2.2.2.2.2.2.2.2.2.2.1, HH.out.2.2.2.2.2.2.2.2.2.2.2.2.2.2.2.2.2.2.2.2.1, HH.out.2.2.2.2.2.2.2.2.2.2.2.2.2.2.2.2.2.2.2.2.2.1, HH.out.2.2.2.2.2.2.2.2.2.2.2.2.2.2.2.2.2.2.2.2.2.2.1, HH.out.2.2.2.2.2.2.2.2.2.2.2.2.2.2.2.2.2.2.2.2.2.2.2.1, HH.out.2.2.2.2.2.2.2.2.2.2.2.2.2.2.2.2.2.2.2.2.2.2.2.2.1, HH.out.2.2.2.2.2.2.2.2.2.2.2.2.2.2.2.2.2.2.2.2.2.2.2.2.2.1, HH.out.2.2.2.2.2.2.2.2.2.2.2.2.2.2.2.2.2.2.2.2.2.2.2.2.2.2.1, HH.out.2.2.2.2.2.2.2.2.2.2.2.2.2.2.2.2.2.2.2.2.2.2.2.2.2.2.2.1, HH.out.2.2.2.2.2.2.2.2.2.2.2.2.2.2.2.2.2.2.2.2.2.2.2.2.2.2.2.2.1, HH.out.2.2.2.2.2.2.2.2.2.2.2.2.2.2.2.2.2.2.2.2.2.2.2.2.2.2.2.2.2.1, HH.out.2.2.2.2.2.2.2.2.2.2.2.2.2.2.2.2.2.2.2.2.2.2.2.2.2.2.2.2.2.2.1, HH.out.2.2.2.2.2.2.2.2.2.2.2.2.2.2.2.2.2.2.2.2.2.2.2.2.2.2.2.2.2.2.2.1, HH.out.2.2.2.2.2.2.2.2.2.2.2.2.2.2.2.2.2.2.2.2.2.2.2.2.2.2.2.2.2.2.2.2.1, HH.out.2.2.2.2.2.2.2.2.2.2.2.2.2.2.2.2.2.2.2.2.2.2.2.2.2.2.2.2.2.2.2.2.2.1, fun _ => rfl, HH.out.2.2.2.2.2.2.2.2.2.2.2.2.2.2.2.2.2.2.2.2.2.2.2.2.2.2.2.2.2.2.2.2.2.2.2.1, HH.out.2.2.2.2.2.2.2.2.2.2.2.2.2.2.2.2.2.2.2.2.2.2.2.2.2.2.2.2.2.2.2.2.2.2.2.2.1, HH.out.2.2.2.2.2.2.2.2.2.2.2.2.2.2.2.2.2.2.2.2.2.2.2.2.2.2.2.2.2.2.2.2.2.2.2.2.2⟩
    · rintro f act V ⟨v, rfl, HB, H⟩ hi hT K hK
      have HKK := Aside0.mk hK
      clear hK
      have e16 := H.2.2.2.2.2.2.2.2.2.2.2.2.2.2.2.2.1 (hT 16 (by decide))
      have e21 := H.2.2.2.2.2.2.2.2.2.2.2.2.2.2.2.2.2.2.2.2.2.1 (hT 21 (by decide))
      have e34 := H.2.2.2.2.2.2.2.2.2.2.2.2.2.2.2.2.2.2.2.2.2.2.2.2.2.2.2.2.2.2.2.2.2.2.1 (hT 34 (by decide))
      simp only [e16, e21, e34]
      have HH := Aside0.mk H; have HBA := Aside0.mk HB
      clear H HB
      go_wp2_with fail
      exact HKK.out _ _ ⟨fun j => if j = 35 then .bool true else v j, by simp [e16, e21, e34], HBA.out, HH.out.1, HH.out.2.1, HH.out.2.2.1, HH.out.2.2.2.1, HH.out.2.2.2.2.1, HH.out.2.2.2.2.2.1, HH.out.2.2.2.2.2.2.1, HH.out.2.2.2.2.2.2.2.1, HH.out.2.2.2.2.2.2.2.2.1, HH.out.2.2.2.2.2.2.2.2.2.1, HH.out.2.2.2.2.2.2.2.2.2.2.1, HH.out.2.2.2.2.2.2.2.2.2.2.2.1, HH.out.2.2.2.2.2.2.2.2.2.2.2.2.1, HH.out.2.2.2.2.2.2.2.2.2.2.2.2.2.1, HH.out.2.2.2.2.2.2.2.2.2.2.2.2.2.2.1, HH.out.2.2.2.2.2.2.2.2.2.2.2.2.2.2.2.1, HH.out.2.2.2.2.2.2.2.2.2.2.2.2.2.2.2.2.1, HH.out.2.2.2.2.2.2.2.2.2.2.2.2.2.2.2.2.2.1, HH.out.2.2.2.2.2.2.2.2.2.2.2.2.2.2.2.2.2.2.1, HH.out.2.2.2.2.2.2.2.2.2.2.2.2.2.2.2.2.2.2.2.1, HH.out.2.2.2.2.2.2.2.2.2.2.2.2.2.2.2.2.2.2.2.2.1, HH.out.2.2.2.2.2.2.2.2.2.2.2.2.2.2.2.2.2.2.2.2.2.1, HH.out.2.2.2.2.2.2.2.2.2.2.2.2.2.2.2.2.2.2.2.2.2.2.1, HH.out.2.2.2.2.2.2.2.2.2.2.2.2.2.2.2.2.2.2.2.2.2.2.2.1, HH.out.2.2.2.2.2.2.2.2.2.2.2.2.2.2.2.2.2.2.2.2.2.2.2.2.1, HH.out.2.2.2.2.2.2.2.2.2.2.2.2.2.2.2.2.2.2.2.2.2.2.2.2.2.1, HH.out.2.2.2.2.2.2.2.2.2.2.2.2.2.2.2.2.2.2.2.2.2.2.2.2.2.2.1, HH.out.2.2.2.2.2.2.2.2.2.2.2.2.2.2.2.2.2.2.2.2.2.2.2.2.2.2.2.1, HH.out.2.2.2.2.2.2.2.2.2.2.2.2.2.2.2.2.2.2.2.2.2.2.2.2.2.2.2.2.1, HH.out.2.2.2.2.2.2.2.2.2.2.2.2.2.2.2.2.2.2.2.2.2.2.2.2.2.2.2.2.2.1, HH.out.2.2.2.2.2.2.2.2.2.2.2.2.2.2.2.2.2.2.2.2.2.2.2.2.2.2.2.2.2.2.1, HH.out.2.2.2.2.2.2.2.2.2.2.2.2.2.2.2.2.2.2.2.2.2.2.2.2.2.2.2.2.2.2.2.1, HH.out.2.2.2.2.2.2.2.2.2.2.2.2.2.2.2.2.2.2.2.2.2.2.2.2.2.2.2.2.2.2.2.2.1, HH.out.2.2.2.2.2.2.2.2.2.2.2.2.2.2.2.2.2.2.2.2.2.2.2.2.2.2.2.2.2.2.2.2.2.1, HH.out.2.2.2.2.2.2.2.2.2.2.2.2.2.2.2.2.2.2.2.2.2.2.2.2.2.2.2.2.2.2.2.2.2.2.1, fun _ => rfl, HH.out.2.2.2.2.2.2.2.2.2.2.2.2.2.2.2.2.2.2.2.2.2.2.2.2.2.2.2.2.2.2.2.2.2.2.2.2.1, HH.out.2.2.2.2.2.2.2.2.2.2.2.2.2.2.2.2.2.2.2.2.2.2.2.2.2.2.2.2.2.2.2.2.2.2.2.2.2⟩
    · rintro f act V ⟨v, rfl, HB, H⟩ hi hT K hK
      have HKK := Aside0.mk hK
      clear hK
      have e16 := H.2.2.2.2.2.2.2.2.2.2.2.2.2.2.2.2.1 (hT 16 (by decide))
      have e35 := H.2.2.2.2.2.2.2.2.2.2.2.2.2.2.2.2.2.2.2.2.2.2.2.2.2.2.2.2.2.2.2.2.2.2.2.1 (hT 35 (by decide))
      simp only [e16, e35]
      have HH := Aside0.mk H; have HBA := Aside0.mk HB
      clear H HB
      go_wp2_with fail
      exact HKK.out _ _ ⟨fun j => if j = 36 then .bool true else v j, by simp [e16, e35], HBA.out, HH.out.1, HH.out.2.1, HH.out.2.2.1, HH.out.2.2.2.1, HH.out.2.2.2.2.1, HH.out.2.2.2.2.2.1, HH.out.2.2.2.2.2.2.1, HH.out.2.2.2.2.2.2.2.1, HH.out.2.2.2.2.2.2.2.2.1, HH.out.2.2.2.2.2.2.2.2.2.1, HH.out.2.2.2.2.2.2.2.2.2.2.1, HH.out.2.2.2.2.2.2.2.2.2.2.2.1, HH.out.2.2.2.2.2.2.2.2.2.2.2.2.1, HH.out.2.2.2.2.2.2.2.2.2.2.2.2.2.1, HH.out.2.2.2.2.2.2.2.2.2.2.2.2.2.2.1, HH.out.2.2.2.2.2.2.2.2.2.2.2.2.2.2.2.1, HH.out.2.2.2.2.2.2.2.2.2.2.2.2.2.2.2.2.1, HH.out.2.2.2.2.2.2.2.2.2.2.2.2.2.2.2.2.2.1, HH.out.2.2.2.2.2.2.2.2.2.2.2.2.2.2.2.2.2.2.1, HH.out.2.2.2.2.2.2.2.2.2.2.2.2.2.2.2.2.2.2.2.1, HH.out.2.2.2.2.2.2.2.2.2.2.2.2.2.2.2.2.2.2.2.2.1, HH.out.2.2.2.2.2.2.2.2.2.2.2.2.2.2.2.2.2.2.2.2.2.1, HH.out.2.2.2.2.2.2.2.2.2.2.2.2.2.2.2.2.2.2.2.2.2.2.1, HH.out.2.2.2.2.2.2.2.2.2.2.2.2.2.2.2.2.2.2.2.2.2.2.2.1, HH.out.2.2.2.2.2.2.2.2.2.2.2.2.2.2.2.2.2.2.2.2.2.2.2.2.1, HH.out.2.2.2.2.2.2.2.2.2.2.2.2.2.2.2.2.2.2.2.2.2.2.2.2.2.1, HH.out.2.2.2.2.2.2.2.2.2.2.2.2.2.2.2.2.2.2.2.2.2.2.2.2.2.2.1, HH.out.2.2.2.2.2.2.2.2.2.2.2.2.2.2.2.2.2.2.2.2.2.2.2.2.2.2.2.1, HH.out.2.2.2.2.2.2.2.2.2.2.2.2.2.2.2.2.2.2.2.2.2.2.2.2.2.2.2.2.1, HH.out.2.2.2.2.2.2.2.2.2.2.2.2.2.2.2.2.2.2.2.2.2.2.2.2.2.2.2.2.2.1, HH.out.2.2.2.2.2.2.2.2.2.2.2.2.2.2.2.2.2.2.2.2.2.2.2.2.2.2.2.2.2.2.1, HH.out.2.2.2.2.2.2.2.2.2.2.2.2.2.2.2.2.2.2.2.2.2.2.2.2.2.2.2.2.2.2.2.1, HH.out.2.2.2.2.2.2.2.2.2.2.2.2.2.2.2.2.2.2.2.2.2.2.2.2.2.2.2.2.2.2.2.2.1, HH.out.2.2.2.2.2.2.2.2.2.2.2.2.2.2.2.2.2.2.2.2.2.2.2.2.2.2.2.2.2.2.2.2.2.1, HH.out.2.2.2.2.2.2.2.2.2.2.2.2.2.2.2.2.2.2.2.2.2.2.2.2.2.2.2.2.2.2.2.2.2.2.1, HH.out.2.2.2.2.2.2.2.2.2.2.2.2.2.2.2.2.2.2.2.2.2.2.2.2.2.2.2.2.2.2.2.2.2.2.2.1, fun _ => rfl, HH.out.2.2.2.2.2.2.2.2.2.2.2.2.2.2.2.2.2.2.2.2.2.2.2.2.2.2.2.2.2.2.2.2.2.2.2.2.2⟩
    · rintro f act V ⟨v, rfl, HB, H⟩ hi hT K hK
      have HKK := Aside0.mk hK
      clear hK
      have e36 := H.2.2.2.2.2.2.2.2.2.2.2.2.2.2.2.2.2.2.2.2.2.2.2.2.2.2.2.2.2.2.2.2.2.2.2.2.1 (hT 36 (by decide))
      simp only [e36]
      have HH := Aside0.mk H; have HBA := Aside0.mk HB
      clear H HB
      go_wp2_with fail
      exact HKK.out _ _ ⟨fun j => if j = 37 then .bool true else v j, by simp [e36], HBA.out, HH.out.1, HH.out.2.1, HH.out.2.2.1, HH.out.2.2.2.1, HH.out.2.2.2.2.1, HH.out.2.2.2.2.2.1, HH.out.2.2.2.2.2.2.1, HH.out.2.2.2.2.2.2.2.1, HH.out.2.2.2.2.2.2.2.2.1, HH.out.2.2.2.2.2.2.2.2.2.1, HH.out.2.2.2.2.2.2.2.2.2.2.1, HH.out.2.2.2.2.2.2.2.2.2.2.2.1, HH.out.2.2.2.2.2.2.2.2.2.2.2.2.1, HH.out.2.2.2.2.2.2.2.2.2.2.2.2.2.1, HH.out.2.2.2.2.2.2.2.2.2.2.2.2.2.2.1, HH.out.2.2.2.2.2.2.2.2.2.2.2.2.2.2.2.1, HH.out.2.2.2.2.2.2.2.2.2.2.2.2.2.2.2.2.1, HH.out.2.2.2.2.2.2.2.2.2.2.2.2.2.2.2.2.2.1, HH.out.2.2.2.2.2.2.2.2.2.2.2.2.2.2.2.2.2.2.1, HH.out.2.2.2.2.2.2.2.2.2.2.2.2.2.2.2.2.2.2.2.1, HH.out.2.2.2.2.2.2.2.2.2.2.2.2.2.2.2.2.2.2.2.2.1, HH.out.2.2.2.2.2.2.2.2.2.2.2.2.2.2.2.2.2.2.2.2.2.1, HH.out.2.2.2.2.2.2.2.2.2.2.2.2.2.2.2.2.2.2.2.2.2.2.1, HH.out.2.2.2.2.2.2.2.2.2.2.2.2.2.2.2.2.2.2.2.2.2.2.2.1, HH.out.2.2.2.2.2.2.2.2.2.2.2.2.2.2.2.2.2.2.2.2.2.2.2.2.1, HH.out.2.2.2.2.2.2.2.2.2.2.2.2.2.2.2.2.2.2.2.2.2.2.2.2.2.1, HH.out.2.2.2.2.2.2.2.2.2.2.2.2.2.2.2.2.2.2.2.2.2.2.2.2.2.2.1, HH.out.2.2.2.2.2.2.2.2.2.2.2.2.2.2.2.2.2.2.2.2.2.2.2.2.2.2.2.1, HH.out.2.2.2.2.2.2.2.2.2.2.2.2.2.2.2.2.2.2.2.2.2.2.2.2.2.2.2.2.1, HH.out.2.2.2.2.2.2.2.2.2.2.2.2.2.2.2.2.2.2.2.2.2.2.2.2.2.2.2.2.2.1, HH.out.2.2.2.2.2.2.2.2.2.2.2.2.2.2.2.2.2.2.2.2.2.2.2.2.2.2.2.2.2.2.1, HH.out.2.2.2.2.2.2.2.2.2.2.2.2.2.2.2.2.2.2.2.2.2.2.2.2.2.2.2.2.2.2.2.1, HH.out.2.2.2.2.2.2.2.2.2.2.2.2.2.2.2.2.2.2.2.2.2.2.2.2.2.2.2.2.2.2.2.2.1, HH.out.2.2.2.2.2.2.2.2.2.2.2.2.2.2.2.2.2.2.2.2.2.2.2.2.2.2.2.2.2.2.2.2.2.1, HH.out.2.2.2.2.2.2.2.2.2.2.2.2.2.2.2.2.2.2.2.2.2.2.2.2.2.2.2.2.2.2.2.2.2.2.1, HH.out.2.2.2.2.2.2.2.2.2.2.2.2.2.2.2.2.2.2.2.2.2.2.2.2.2.2.2.2.2.2.2.2.2.2.2.1, HH.out.2.2.2.2.2.2.2.2.2.2.2.2.2.2.2.2.2.2.2.2.2.2.2.2.2.2.2.2.2.2.2.2.2.2.2.2.1, fun _ => rfl⟩
    · rintro f act V hf ⟨v, rfl, HB, H⟩
      have e37 := H.2.2.2.2.2.2.2.2.2.2.2.2.2.2.2.2.2.2.2.2.2.2.2.2.2.2.2.2.2.2.2.2.2.2.2.2.2 (hf 37 (by decide))
      simp only [e37]
      have HB7 := Aside0.mk (bstep HB6.out HB)
      clear HB H
      go_wp2_with fail
      go_ret
      exact ⟨rfl, HB7.out⟩
end Go.Proofs.Ytlljpjbhndcaiaa.Q
end
section
set_option linter.unusedVariables false
set_option linter.unusedSimpArgs false
namespace Go.Proofs.Ytlljpjbhndcaiaa.M
open Go.RowKit Go.Proofs.Ytlljpjbhndcaiaa.Q Go.Proofs.YtlljpjbhndcaiaaW.PrintWords Go.Proofs.YtlljpjbhndcaiaaW.PrintLast Go.Proofs.YtlljpjbhndcaiaaW.PrintMore
def Ret {α : Type} (g : Nat → Option α) (r : α) : Prop := ∃ K, ∀ k, K ≤ k → g k = some r
theorem Ret.const {α : Type} {x : Option α} {r : α} (h : x = some r) : Ret (fun _ => x) r := ⟨0, fun _ _ => h⟩
theorem Ret.bind {α β : Type} {g : Nat → Option α} {h : Nat → α → Option β} {a : α} {r : β} (h1 : Ret g a) (h2 : Ret (fun k => h k a) r) : Ret (fun k => (g k).bind (h k)) r := by
  obtain ⟨K1, h1⟩ := h1
  obtain ⟨K2, h2⟩ := h2
  refine ⟨max K1 K2, fun k hk => ?_⟩
  show (g k).bind (h k) = some r
  rw [h1 k (by omega)]
  exact h2 k (by omega)
theorem Ret.succ {α : Type} {g : Nat → Option α} {r : α} (h : Ret (fun k => g (k + 1)) r) : Ret g r := by
  obtain ⟨K, h⟩ := h
  refine ⟨K + 1, fun k hk => ?_⟩
  have := h (k - 1) (by omega)
  simp only [show k - 1 + 1 = k by omega] at this
  exact this
theorem Ret.of {α : Type} {g : Nat → Option α} {r : α} (h : Ret g r) : ∃ k, g k = some r := by
  obtain ⟨K, h⟩ := h
  exact ⟨K, h K (Nat.le_refl _)⟩
theorem Ret.unique {α : Type} {g : Nat → Option α} {r s : α} (h : Ret g r) (h' : Ret g s) : r = s := by
  obtain ⟨K, h⟩ := h
  obtain ⟨K', h'⟩ := h'
  have a := h (max K K') (by omega)
  have b := h' (max K K') (by omega)
  rw [a] at b
  exact Option.some.inj b
theorem Ret.congr {α : Type} {g g' : Nat → Option α} {r : α} (h : Ret g r) (e : ∀ k, g' k = g k) : Ret g' r := by
  obtain ⟨K, h⟩ := h
  exact ⟨K, fun k hk => (e k).trans (h k hk)⟩
theorem w64 {n : Int} (h : -9223372036854775808 ≤ n) (h' : n ≤ 9223372036854775807) : wrap64 n = n := by unfold wrap64; omega
theorem wu64 (n : Int) : IntKind.u64.wrap n = n % 18446744073709551616 := by simp [IntKind.wrap, IntKind.bits, IntKind.signed]
theorem wu64_in (n : Int) (h0 : 0 ≤ n) (h1 : n < 2 ^ 64) : IntKind.u64.wrap n = n := by rw [wu64]; omega
theorem and_low (a : Int) (h0 : 0 ≤ a) (h1 : a < 18446744073709551616) : Go.bits .and .u64 a 4294967295 = a % 4294967296 :=
  bits_mask .u64 64 (by decide) wu64_in 32 (by decide) a h0 (by omega)
theorem and_one (a : Int) (h0 : 0 ≤ a) (h1 : a < 18446744073709551616) : Go.bits .and .u64 a 1 = a % 2 :=
  bits_mask .u64 64 (by decide) wu64_in 1 (by decide) a h0 (by omega)
theorem mul_bound {a b n m : Int} (ha0 : 0 ≤ a) (ha : a ≤ n) (hb0 : 0 ≤ b) (hb : b ≤ m) : 0 ≤ a * b ∧ a * b ≤ n * m :=
  ⟨Int.mul_nonneg ha0 hb0, Int.mul_le_mul ha hb hb0 (by omega)⟩
theorem mul_eq (a b : Int) (ha0 : 0 ≤ a) (ha : a < 18446744073709551616) (hb0 : 0 ≤ b) (hb : b < 18446744073709551616) :
    wide_Mul.f a b = some ((a * b) / 18446744073709551616, (a * b) % 18446744073709551616) := by
  unfold wide_Mul.f
  rw [and_low a ha0 ha, and_low b hb0 hb]
  obtain ⟨x, hx⟩ : ∃ x, a / 4294967296 = x := ⟨_, rfl⟩
  obtain ⟨y, hy⟩ : ∃ y, a % 4294967296 = y := ⟨_, rfl⟩
  obtain ⟨u, hu⟩ : ∃ u, b / 4294967296 = u := ⟨_, rfl⟩
  obtain ⟨v, hv⟩ : ∃ v, b % 4294967296 = v := ⟨_, rfl⟩
  rw [hx, hy, hu, hv]
  have ea : a = x * 4294967296 + y := by omega
  have eb : b = u * 4294967296 + v := by omega
  have e : a * b = x * u * 18446744073709551616 + (x * v + y * u) * 4294967296 + y * v := by rw [ea, eb]; grind
  have h1 := mul_bound (a := x) (b := u) (n := 4294967295) (m := 4294967295) (by omega) (by omega) (by omega) (by omega)
  have h2 := mul_bound (a := x) (b := v) (n := 4294967295) (m := 4294967295) (by omega) (by omega) (by omega) (by omega)
  have h3 := mul_bound (a := y) (b := u) (n := 4294967295) (m := 4294967295) (by omega) (by omega) (by omega) (by omega)
  have h4 := mul_bound (a := y) (b := v) (n := 4294967295) (m := 4294967295) (by omega) (by omega) (by omega) (by omega)
  rw [e]
  generalize x * u = p at *
  generalize x * v = q at *
  generalize y * u = r at *
  generalize y * v = s at *
  clear e ea eb hx hy hu hv ha hb ha0 hb0
  simp only [wu64]
  have m1 : Go.bits .and .u64 (q % 18446744073709551616) 4294967295 = (q % 18446744073709551616) % 4294967296 := and_low _ (by omega) (by omega)
  have m2 : Go.bits .and .u64 (r % 18446744073709551616) 4294967295 = (r % 18446744073709551616) % 4294967296 := and_low _ (by omega) (by omega)
  rw [m1, m2]
  congr 2 <;> omega
theorem pair_compare (a b c d : Int) : Ret (fun k => wide_Pair_Compare.f k a b c d) (if a < c ∨ (a = c ∧ b < d) then -1 else if a = c ∧ b = d then 0 else 1) := by
  refine ⟨1, fun k hk => ?_⟩
  obtain ⟨k, rfl⟩ : ∃ j, k = j + 1 := ⟨k - 1, by omega⟩
  unfold wide_Pair_Compare.f
  by_cases h1 : a < c
  · simp [h1, wide_Pair_Compare.j0]
  · by_cases h2 : a = c
    · subst h2
      by_cases h3 : b < d
      · simp [h3, wide_Pair_Compare.j0]
      · by_cases h4 : b = d
        · subst h4
          simp [wide_Pair_Compare.j0]
        · simp [h3, h4, wide_Pair_Compare.j0]
    · simp [h1, h2, wide_Pair_Compare.j0]
def cmp (x y : Int) : Int := if x < y then -1 else if x = y then 0 else 1
theorem less_eq (a b c d : Int) (ha0 : 0 ≤ a) (ha : a < 9223372036854775808) (hb0 : 0 ≤ b) (hb : b < 9223372036854775808) (hc0 : 0 ≤ c) (hc : c < 9223372036854775808) (hd0 : 0 ≤ d) (hd : d < 9223372036854775808) :
    Ret (fun k => root_Compare.f k a b c d) (cmp (a * d) (c * b)) := by
  unfold root_Compare.f wide_Less.f
  simp only [wu64]
  rw [Int.emod_eq_of_lt ha0 (by omega), Int.emod_eq_of_lt hb0 (by omega), Int.emod_eq_of_lt hc0 (by omega), Int.emod_eq_of_lt hd0 (by omega), mul_eq a d ha0 (by omega) hd0 (by omega), mul_eq c b hc0 (by omega) hb0 (by omega)]
  refine Ret.bind (a := cmp (a * d) (c * b)) ?_ (Ret.const rfl)
  refine Ret.bind (Ret.const rfl) ?_
  refine Ret.bind (Ret.const rfl) ?_
  refine Ret.bind (pair_compare _ _ _ _) (Ret.const ?_)
  congr 1
  unfold cmp
  generalize a * d = m
  generalize c * b = n
  repeat' split
  all_goals omega
theorem div_l0 (hi lo d : Int) (hd : d < 18446744073709551616) (hlo0 : 0 ≤ lo) (hlo : lo < 18446744073709551616) :
    ∀ (j : Nat) (V t q r : Int), j ≤ 64 → t = q * d + r → 0 ≤ r → r < d → 0 ≤ q → V = t * 2 ^ j + lo % 2 ^ j → q * 2 ^ j + 2 ^ j ≤ 18446744073709551616 →
    Ret (fun k => wide_Pair_Div.l0 k d (q * 2 ^ j) r ((j : Int) - 1) hi lo) (V / d, V % d, 0) := by
  intro j
  induction j with
  | zero =>
    intro V t q r _ ht hr0 hr hq hV _
    refine Ret.succ (Ret.const ?_)
    simp only [Int.pow_zero, Int.mul_one, Int.emod_one, Int.add_zero] at hV ⊢
    subst hV ht
    have e1 : (q * d + r) / d = q := by
      rw [Int.add_comm, Int.add_mul_ediv_right _ _ (by omega), Int.ediv_eq_zero_of_lt hr0 hr]; omega
    have e2 : (q * d + r) % d = r := by
      rw [Int.add_comm, Int.add_mul_emod_self_right, Int.emod_eq_of_lt hr0 hr]
    rw [e1, e2]
  | succ j ih =>
    intro V t q r hj ht hr0 hr hq hV hb
    have hP : (1 : Int) ≤ 2 ^ j := by
      have := Int.pow_pos (n := 2) (m := j) (by omega)
      omega
    have e2 : (2 : Int) ^ (j + 1) = 2 * 2 ^ j := by rw [Int.pow_succ]; omega
    have hP64 : (2 : Int) ^ j ≤ 9223372036854775808 := by
      have : (2 : Nat) ^ j ≤ 2 ^ 63 := Nat.pow_le_pow_right (by omega) (by omega)
      have h2 : ((2 ^ j : Nat) : Int) ≤ ((2 ^ 63 : Nat) : Int) := by exact_mod_cast this
      simpa using h2
    have hs : shr .u64 lo (((j + 1 : Nat) : Int) - 1) = lo / 2 ^ j := by
      unfold shr
      rw [show (((j + 1 : Nat) : Int) - 1).toNat = j by omega, Nat.min_eq_left (by show j ≤ 64; omega)]
    have hl : shl .u64 1 (((j + 1 : Nat) : Int) - 1) = 2 ^ j := by
      unfold shl
      rw [show (((j + 1 : Nat) : Int) - 1).toNat = j by omega, Nat.min_eq_left (by show j ≤ 64; omega), wu64, Int.one_mul]
      exact Int.emod_eq_of_lt (by omega) (by omega)
    have hd0 : 0 ≤ lo / 2 ^ j := Int.ediv_nonneg hlo0 (by omega)
    have hd1 : lo / 2 ^ j ≤ lo := Int.ediv_le_self _ hlo0
    have hbit : Go.bits .and .u64 (lo / 2 ^ j) 1 = (lo / 2 ^ j) % 2 := and_one _ hd0 (by omega)
    have hmod : lo % 2 ^ (j + 1) = (lo / 2 ^ j % 2) * 2 ^ j + lo % 2 ^ j := by
      have h1 := Int.mul_ediv_add_emod lo (2 ^ j)
      have h2 := Int.emod_nonneg lo (show (2 : Int) ^ j ≠ 0 by omega)
      have h3 := Int.emod_lt_of_pos lo (show (0 : Int) < 2 ^ j by omega)
      have h4 := Int.mul_ediv_add_emod (lo / 2 ^ j) 2
      generalize lo / 2 ^ j = m at *
      generalize lo % 2 ^ j = n at *
      have h5 : 0 ≤ m % 2 ∧ m % 2 ≤ 1 := by omega
      generalize m % 2 = b at *
      generalize m / 2 = c at *
      rw [e2, ← h1, ← h4]
      generalize (2 : Int) ^ j = P at *
      have e : P * (2 * c + b) + n = (b * P + n) + (2 * P) * c := by grind
      rw [e, Int.add_mul_emod_self_left]
      have h6 : 0 ≤ b * P ∧ b * P ≤ 1 * P := mul_bound h5.1 h5.2 (by omega) (Int.le_refl _)
      exact Int.emod_eq_of_lt (by omega) (by omega)
    obtain ⟨b, hbb⟩ : ∃ b, lo / 2 ^ j % 2 = b := ⟨_, rfl⟩
    have hb01 : 0 ≤ b ∧ b ≤ 1 := by omega
    have hor : Go.bits .or .u64 (IntKind.u64.wrap (r * 2)) b = (r * 2) % 18446744073709551616 + b := by
      rw [wu64]
      exact bits_join .u64 64 (by decide) wu64_in 1 _ _ (by omega) (by omega) (by omega) (by omega) (by omega) (by omega)
    have hqP : 0 ≤ q * 2 ^ j := Int.mul_nonneg hq (by omega)
    have hout : Go.bits .or .u64 (q * 2 ^ (j + 1)) (2 ^ j) = (2 * q + 1) * 2 ^ j := by
      have h := bits_join .u64 64 (by decide) wu64_in (j + 1) (q * 2 ^ (j + 1)) (2 ^ j) (by rw [e2]; grind) (by simp) (by omega) (by omega) (by rw [e2]; omega) (by omega)
      rw [h, e2]
      grind
    refine Ret.succ ?_
    refine Ret.congr (g := fun k => if d ≤ 2 * r + b then wide_Pair_Div.l0 k d ((2 * q + 1) * 2 ^ j) (2 * r + b - d) ((j : Int) - 1) hi lo else wide_Pair_Div.l0 k d ((2 * q) * 2 ^ j) (2 * r + b) ((j : Int) - 1) hi lo) ?_ ?_
    · by_cases hc : d ≤ 2 * r + b
      · simp only [if_pos hc]
        refine ih V (2 * t + b) (2 * q + 1) (2 * r + b - d) (by omega) (by rw [ht]; grind) (by omega) (by omega) (by omega) ?_ ?_
        · rw [hV, hmod, e2, hbb]; grind
        · have : (2 * q + 1) * 2 ^ j + 2 ^ j = q * 2 ^ (j + 1) + 2 ^ (j + 1) := by rw [e2]; grind
          omega
      · simp only [if_neg hc]
        refine ih V (2 * t + b) (2 * q) (2 * r + b) (by omega) (by rw [ht]; grind) (by omega) (by omega) (by omega) ?_ ?_
        · rw [hV, hmod, e2, hbb]; grind
        · have : 2 * q * 2 ^ j + 2 ^ j + 2 ^ j = q * 2 ^ (j + 1) + 2 ^ (j + 1) := by rw [e2]; grind
          omega
    · intro k
      show wide_Pair_Div.l0 (k + 1) d (q * 2 ^ (j + 1)) r (((j + 1 : Nat) : Int) - 1) hi lo = _
      rw [wide_Pair_Div.l0, if_pos (by omega), if_pos (by omega), hs, hl, hbit, hbb, hor, hout, wu64]
      have ej : wrap64 ((((j + 1 : Nat) : Int) - 1) - 1) = (j : Int) - 1 := by unfold wrap64; omega
      rw [ej]
      by_cases ht : r / 9223372036854775808 = 1
      · rw [if_pos ht, if_pos (by omega)]
        congr 1
        omega
      · rw [if_neg ht]
        have e3 : (r * 2) % 18446744073709551616 + b = 2 * r + b := by omega
        rw [e3]
        by_cases hc : d ≤ 2 * r + b
        · rw [if_pos hc, if_pos hc]
          congr 1
          omega
        · rw [if_neg hc, if_neg hc, e2]
          congr 1
          grind
theorem div_eq (hi lo d : Int) (hh0 : 0 ≤ hi) (hh : hi < d) (hd : d < 18446744073709551616) (hlo0 : 0 ≤ lo) (hlo : lo < 18446744073709551616) :
    Ret (fun k => wide_Pair_Div.f k hi lo d) ((hi * 18446744073709551616 + lo) / d, (hi * 18446744073709551616 + lo) % d, 0) := by
  have h := div_l0 hi lo d hd hlo0 hlo 64 (hi * 18446744073709551616 + lo) hi 0 hi (Nat.le_refl _) (by omega) hh0 hh (by omega) (by omega) (by omega)
  refine Ret.congr h fun k => ?_
  show wide_Pair_Div.f k hi lo d = _
  unfold wide_Pair_Div.f
  rw [if_neg (by omega)]
  simp
end Go.Proofs.Ytlljpjbhndcaiaa.M
end
section
set_option linter.unusedVariables false
set_option linter.unusedSimpArgs false
namespace Go.Proofs.Ytlljpjbhndcaiaa.M
open Go.RowKit Go.Proofs.Ytlljpjbhndcaiaa.Q Go.Proofs.YtlljpjbhndcaiaaW.PrintWords Go.Proofs.YtlljpjbhndcaiaaW.PrintLast Go.Proofs.YtlljpjbhndcaiaaW.PrintMore
theorem sqrt_l0 (n : Int) (hn0 : 0 ≤ n) (hn : n < 9223372036854775808) : ∀ (m : Nat) (lo hi : Int), (hi - lo).toNat ≤ m → 0 ≤ lo → lo < hi → hi ≤ 3037000500 → lo * lo ≤ n → n < hi * hi →
    ∃ s, 0 ≤ s ∧ s * s ≤ n ∧ n < (s + 1) * (s + 1) ∧ Ret (fun k => root_Sqrt.l0 k n lo hi) s := by
  intro m
  induction m with
  | zero => intro lo hi h1 h2 h3; omega
  | succ m ih =>
    intro lo hi h1 h2 h3 h4 h5 h6
    by_cases hz : n > 0 ∧ lo < hi - 1
    · obtain ⟨mid, hm⟩ : ∃ mid, Int.tdiv (lo + hi) 2 = mid := ⟨_, rfl⟩
      have hmid : mid = (lo + hi) / 2 := by rw [← hm, Int.tdiv_eq_ediv_of_nonneg (by omega)]
      have hsq : 0 ≤ mid * mid ∧ mid * mid ≤ 3037000499 * 3037000499 := mul_bound (by omega) (by omega) (by omega) (by omega)
      have step : ∀ k, root_Sqrt.l0 (k + 1 + 1) n lo hi = if mid * mid ≤ n then root_Sqrt.l0 k n mid hi else root_Sqrt.l0 k n lo mid := by
        intro k
        rw [root_Sqrt.l0, if_pos hz.1, w64 (n := hi - 1) (by omega) (by omega), root_Sqrt.j1, decide_eq_true hz.2, if_pos rfl, w64 (n := lo + hi) (by omega) (by omega), hm, w64 (n := mid) (by omega) (by omega), w64 (n := mid * mid) (by omega) (by omega)]
      by_cases hc : mid * mid ≤ n
      · obtain ⟨s, s0, s1, s2, hr⟩ := ih mid hi (by omega) (by omega) (by omega) h4 hc h6
        refine ⟨s, s0, s1, s2, Ret.succ (Ret.succ (Ret.congr hr fun k => ?_))⟩
        rw [step, if_pos hc]
      · obtain ⟨s, s0, s1, s2, hr⟩ := ih lo mid (by omega) (by omega) (by omega) (by omega) h5 (by omega)
        refine ⟨s, s0, s1, s2, Ret.succ (Ret.succ (Ret.congr hr fun k => ?_))⟩
        rw [step, if_neg hc]
    · have fin : ∀ k, root_Sqrt.l0 (k + 1 + 1) n lo hi = some lo := by
        intro k
        rw [root_Sqrt.l0]
        by_cases hn1 : n > 0
        · rw [if_pos hn1, w64 (by omega) (by omega), decide_eq_false (by omega), root_Sqrt.j1, if_neg (by simp)]
        · rw [if_neg hn1, root_Sqrt.j1, if_neg (by simp)]
      refine ⟨lo, h2, h5, ?_, Ret.succ (Ret.succ (Ret.congr (Ret.const rfl) fin))⟩
      · by_cases hn1 : n > 0
        · have : hi = lo + 1 := by omega
          rw [← this]; exact h6
        · have : n = 0 := by omega
          have := Int.mul_pos (a := lo + 1) (b := lo + 1) (by omega) (by omega)
          omega
theorem sqrt_eq (n : Int) (hn0 : 0 ≤ n) (hn : n < 9223372036854775808) : ∃ s, 0 ≤ s ∧ s * s ≤ n ∧ n < (s + 1) * (s + 1) ∧ Ret (fun k => root_Sqrt.f k n) s := by
  obtain ⟨s, h0, h1, h2, hr⟩ := sqrt_l0 n hn0 hn _ 0 3037000500 (Nat.le_refl _) (by omega) (by omega) (by omega) (by omega) (by omega)
  exact ⟨s, h0, h1, h2, hr⟩
theorem of_l0 (num den : Int) (hn0 : 0 ≤ num) (hn : num < 9223372036854775808) (hd0 : 1 ≤ den) (hd : den < 9223372036854775808) : ∀ (m : Nat) (a b : Int), b.toNat ≤ m → 0 ≤ a → 0 ≤ b → a + b ≥ 1 → a < 9223372036854775808 → b < 9223372036854775808 →
    (∀ g, g ∣ a → g ∣ b → g ∣ num ∧ g ∣ den) →
    ∃ g n' d', 1 ≤ g ∧ num = n' * g ∧ den = d' * g ∧ Ret (fun k => root_Of.l0 k num den a b) (n', d', 0) := by
  intro m
  induction m with
  | zero =>
    intro a b hm ha hb hab ha1 hb1 hg
    obtain rfl : b = 0 := by omega
    obtain ⟨⟨n', hn'⟩, ⟨d', hd'⟩⟩ := hg a (Int.dvd_refl _) (Int.dvd_zero _)
    refine ⟨a, n', d', by omega, by rw [hn']; grind, by rw [hd']; grind, Ret.succ (Ret.const (?_ : root_Of.l0 (0 + 1) num den a 0 = _))⟩
    have e1 : Int.tdiv num a = n' := by rw [hn', Int.mul_tdiv_cancel_left _ (by omega)]
    have e2 : Int.tdiv den a = d' := by rw [hd', Int.mul_tdiv_cancel_left _ (by omega)]
    have b1 : 0 ≤ n' := by rw [← e1]; exact Int.tdiv_nonneg hn0 ha
    have b2 : 0 ≤ d' := by rw [← e2]; exact Int.tdiv_nonneg (by omega) ha
    have b3 : n' ≤ num := by rw [← e1, Int.tdiv_eq_ediv_of_nonneg hn0]; exact Int.ediv_le_self _ hn0
    have b4 : d' ≤ den := by rw [← e2, Int.tdiv_eq_ediv_of_nonneg (by omega)]; exact Int.ediv_le_self _ (by omega)
    rw [root_Of.l0, if_pos rfl, if_neg (by omega), e1, e2, w64 (by omega) (by omega), w64 (by omega) (by omega)]
  | succ m ih =>
    intro a b hm ha hb hab ha1 hb1 hg
    by_cases hz : b = 0
    · exact (by
        subst hz
        obtain ⟨⟨n', hn'⟩, ⟨d', hd'⟩⟩ := hg a (Int.dvd_refl _) (Int.dvd_zero _)
        refine ⟨a, n', d', by omega, by rw [hn']; grind, by rw [hd']; grind, Ret.succ (Ret.const (?_ : root_Of.l0 (0 + 1) num den a 0 = _))⟩
        have e1 : Int.tdiv num a = n' := by rw [hn', Int.mul_tdiv_cancel_left _ (by omega)]
        have e2 : Int.tdiv den a = d' := by rw [hd', Int.mul_tdiv_cancel_left _ (by omega)]
        have b1 : 0 ≤ n' := by rw [← e1]; exact Int.tdiv_nonneg hn0 ha
        have b2 : 0 ≤ d' := by rw [← e2]; exact Int.tdiv_nonneg (by omega) ha
        have b3 : n' ≤ num := by rw [← e1, Int.tdiv_eq_ediv_of_nonneg hn0]; exact Int.ediv_le_self _ hn0
        have b4 : d' ≤ den := by rw [← e2, Int.tdiv_eq_ediv_of_nonneg (by omega)]; exact Int.ediv_le_self _ (by omega)
        rw [root_Of.l0, if_pos rfl, if_neg (by omega), e1, e2, w64 (by omega) (by omega), w64 (by omega) (by omega)])
    · have e : Int.tmod a b = a % b := Int.tmod_eq_emod_of_nonneg ha
      have r0 := Int.emod_nonneg a hz
      have r1 := Int.emod_lt_of_pos a (show 0 < b by omega)
      obtain ⟨g, n', d', h1, h2, h3, hr⟩ := ih b (a % b) (by omega) hb r0 (by omega) hb1 (by omega) (fun g h1 h2 => hg g (by
        have := Int.mul_ediv_add_emod a b
        rw [← this]
        exact Int.dvd_add (Int.dvd_trans h1 (Int.dvd_mul_right _ _)) h2) h1)
      refine ⟨g, n', d', h1, h2, h3, Ret.succ (Ret.congr hr fun k => ?_)⟩
      rw [root_Of.l0, if_neg hz, e]
theorem of_eq (num den : Int) (hn0 : 0 ≤ num) (hn : num < 9223372036854775808) (hd0 : 1 ≤ den) (hd : den < 9223372036854775808) :
    ∃ g n' d', 1 ≤ g ∧ num = n' * g ∧ den = d' * g ∧ Ret (fun k => root_Of.f k num den) (n', d', 0) := by
  obtain ⟨g, n', d', h1, h2, h3, hr⟩ := of_l0 num den hn0 hn hd0 hd _ num den (Nat.le_refl _) hn0 (by omega) (by omega) hn hd (fun _ a b => ⟨a, b⟩)
  refine ⟨g, n', d', h1, h2, h3, Ret.succ (Ret.congr hr fun k => ?_)⟩
  unfold root_Of.f
  rw [if_neg (by omega), decide_eq_false (by omega), root_Of.j0, if_neg (by simp)]
def Root8 (num den v : Int) : Prop := 0 ≤ v ∧ v * v * den ≤ 64 * num ∧ 64 * num < (v + 1) * (v + 1) * den
theorem Root8.unique {num den v u : Int} (hd : 1 ≤ den) (h : Root8 num den v) (h' : Root8 num den u) : v = u := by
  obtain ⟨a0, a1, a2⟩ := h
  obtain ⟨b0, b1, b2⟩ := h'
  have key : ∀ a b : Int, 0 ≤ a → 0 ≤ b → a < b → (a + 1) * (a + 1) * den ≤ b * b * den := fun a b h0 h1 h => Int.mul_le_mul (Int.mul_le_mul (by omega) (by omega) (by omega) (by omega)) (Int.le_refl _) (by omega) (Int.mul_nonneg h1 h1)
  rcases Int.lt_trichotomy v u with h | h | h
  · have := key v u a0 b0 h; omega
  · exact h
  · have := key u v b0 a0 h; omega
theorem Root8.of_equal {n d n' d' v : Int} (hd : 1 ≤ d) (hd' : 1 ≤ d') (e : n * d' = n' * d) (h : Root8 n d v) : Root8 n' d' v := by
  obtain ⟨h0, h1, h2⟩ := h
  refine ⟨h0, ?_, ?_⟩
  · have a := Int.mul_le_mul_of_nonneg_right h1 (show 0 ≤ d' by omega)
    have e1 : 64 * n * d' = 64 * n' * d := by grind
    rw [e1] at a
    have b : v * v * d' * d ≤ 64 * n' * d := by
      have : v * v * d' * d = v * v * d * d' := by grind
      omega
    exact Int.le_of_mul_le_mul_right b (by omega)
  · have a := Int.mul_lt_mul_of_pos_right h2 (show 0 < d' by omega)
    have e1 : 64 * n * d' = 64 * n' * d := by grind
    rw [e1] at a
    have b : 64 * n' * d < (v + 1) * (v + 1) * d' * d := by
      have : (v + 1) * (v + 1) * d' * d = (v + 1) * (v + 1) * d * d' := by grind
      omega
    exact Int.lt_of_mul_lt_mul_right b (by omega)
theorem scaled_eq (num den : Int) (hn0 : 0 ≤ num) (hn : num < 9223372036854775808) (hd0 : 1 ≤ den) (hd : den < 9223372036854775808) (hq : num * 64 ≤ 4611686018427387904 * den) :
    ∃ v, Root8 num den v ∧ Ret (fun k => root_Scaled.f k num den 8) v := by
  have hq0 : 0 ≤ num * 64 / den := Int.ediv_nonneg (by omega) (by omega)
  have hq1 : num * 64 / den ≤ 4611686018427387904 := Int.ediv_le_of_le_mul (by omega) hq
  obtain ⟨s, s0, s1, s2, hs⟩ := sqrt_eq (num * 64 / den) hq0 (by omega)
  have e1 := Int.mul_ediv_add_emod (num * 64) den
  have e2 := Int.emod_nonneg (num * 64) (show den ≠ 0 by omega)
  have e3 := Int.emod_lt_of_pos (num * 64) (show 0 < den by omega)
  refine ⟨s, ⟨s0, ?_, ?_⟩, Ret.succ (Ret.congr (g := fun k => ((wide_Mul.f num 64).bind fun bt122 => ((wide_Pair_Div.f k bt122.1 bt122.2 den).bind fun bt124 => (if bt124.2.2 = 0 then (if bt124.1 > 4611686018427387904 then (some (-1)) else ((root_Sqrt.f k (wrap64 (bt124.1))).bind fun t127 => (some t127))) else (some (-1)))))) ?_ fun k => ?_)⟩
  · have := Int.mul_le_mul_of_nonneg_right s1 (show 0 ≤ den by omega)
    have e4 : num * 64 / den * den = den * (num * 64 / den) := Int.mul_comm _ _
    omega
  · have := Int.mul_le_mul_of_nonneg_right (show num * 64 / den + 1 ≤ (s + 1) * (s + 1) by omega) (show 0 ≤ den by omega)
    have e4 : (num * 64 / den + 1) * den = den * (num * 64 / den) + den := by grind
    omega
  · rw [mul_eq num 64 hn0 (by omega) (by omega) (by omega)]
    have eV : (num * 64) / 18446744073709551616 * 18446744073709551616 + (num * 64) % 18446744073709551616 = num * 64 := by omega
    have hD := div_eq ((num * 64) / 18446744073709551616) ((num * 64) % 18446744073709551616) den (by omega) (by omega) (by omega) (by omega) (by omega)
    rw [eV] at hD
    refine Ret.bind (Ret.const rfl) (Ret.bind hD ?_)
    simp only [if_true, if_neg (show ¬ (num * 64 / den > 4611686018427387904) by omega), w64 (n := num * 64 / den) (by omega) (by omega)]
    exact Ret.bind hs (Ret.const rfl)
  · unfold root_Scaled.f
    rw [if_neg (by omega), if_neg (by omega), if_neg (by omega), decide_eq_false (by omega), root_Scaled.j0, if_neg (by simp)]
    simp only [wu64]
    rw [Int.emod_eq_of_lt hn0 (by omega), Int.emod_eq_of_lt (a := den) (by omega) (by omega), show wrap64 (8 * 8) % 18446744073709551616 = 64 by unfold wrap64; omega]
end Go.Proofs.Ytlljpjbhndcaiaa.M
end
section
set_option linter.unusedVariables false
set_option linter.unusedSimpArgs false
namespace Go.Proofs.Ytlljpjbhndcaiaa.Geo
theorem sq_nonneg (a : Int) : 0 ≤ a * a := by
  rcases Int.le_total 0 a with h | h
  · exact Int.mul_nonneg h h
  · exact Int.mul_nonneg_of_nonpos_of_nonpos h h
theorem lt_of_sq {a b : Int} (h : 0 ≤ b) (hb : a * a < b * b) : a < b := by
  by_cases h1 : a < b
  · exact h1
  · have h3 : b * b ≤ a * b := Int.mul_le_mul_of_nonneg_right (by omega) h
    have h4 : a * b ≤ a * a := Int.mul_le_mul_of_nonneg_left (by omega) (by omega)
    omega
theorem lagrange (a b c d : Int) : (a*a+b*b)*(c*c+d*d) = (a*c+b*d)*(a*c+b*d) + (a*d-b*c)*(a*d-b*c) := by grind
theorem cs_lt {x1 x2 y1 y2 s t : Int} (hs : 0 ≤ s) (ht : 0 ≤ t) (h1 : x1*x1+x2*x2 < s*s) (h2 : y1*y1+y2*y2 < t*t) : x1*y1+x2*y2 < s*t := by
  have hl := lagrange x1 x2 y1 y2
  have a0 := sq_nonneg (x1*y2-x2*y1)
  have b0 := sq_nonneg x1; have b1 := sq_nonneg x2; have b2 := sq_nonneg y1; have b3 := sq_nonneg y2
  have h3 : (x1*x1+x2*x2)*(y1*y1+y2*y2) ≤ (x1*x1+x2*x2)*(t*t) := Int.mul_le_mul_of_nonneg_left (by omega) (by omega)
  have h4 : (x1*x1+x2*x2)*(t*t) < (s*s)*(t*t) := Int.mul_lt_mul_of_pos_right h1 (by omega)
  have h5 : (s*s)*(t*t) = (s*t)*(s*t) := by grind
  exact lt_of_sq (Int.mul_nonneg hs ht) (by omega)
theorem tri_lt {x1 x2 y1 y2 s t : Int} (hs : 0 ≤ s) (ht : 0 ≤ t) (h1 : x1*x1+x2*x2 < s*s) (h2 : y1*y1+y2*y2 < t*t) :
    (x1+y1)*(x1+y1)+(x2+y2)*(x2+y2) < (s+t)*(s+t) := by
  have h := cs_lt hs ht h1 h2
  have e1 : (x1+y1)*(x1+y1)+(x2+y2)*(x2+y2) = (x1*x1+x2*x2) + (y1*y1+y2*y2) + 2*(x1*y1+x2*y2) := by grind
  have e2 : (s+t)*(s+t) = s*s + t*t + 2*(s*t) := by grind
  omega
structure Pt where
  x : Int
  y : Int
structure Ed where
  a : Pt
  b : Pt
def Ed.wx (e : Ed) : Int := e.b.x - e.a.x
def Ed.wy (e : Ed) : Int := e.b.y - e.a.y
def Ed.long (e : Ed) : Int := e.wx * e.wx + e.wy * e.wy
def Ed.along (e : Ed) (p : Pt) : Int := e.wx * (p.x - e.a.x) + e.wy * (p.y - e.a.y)
def Ed.cr (e : Ed) (p : Pt) : Int := e.wx * (p.y - e.a.y) - e.wy * (p.x - e.a.x)
def dist2 (p q : Pt) : Int := (p.x - q.x) * (p.x - q.x) + (p.y - q.y) * (p.y - q.y)
def Ed.num (e : Ed) (p : Pt) : Int := if e.along p ≤ 0 then dist2 p e.a else if e.long ≤ e.along p then dist2 p e.b else e.cr p * e.cr p
def Ed.den (e : Ed) (p : Pt) : Int := if e.along p ≤ 0 then 1 else if e.long ≤ e.along p then 1 else e.long
theorem Ed.den_pos (e : Ed) (p : Pt) : 1 ≤ e.den p := by
  unfold Ed.den
  split
  · omega
  · split <;> omega
theorem dist2_nonneg (p q : Pt) : 0 ≤ dist2 p q := by
  have := sq_nonneg (p.x - q.x); have := sq_nonneg (p.y - q.y); unfold dist2; omega
theorem Ed.num_nonneg (e : Ed) (p : Pt) : 0 ≤ e.num p := by
  unfold Ed.num
  split
  · exact dist2_nonneg _ _
  · split
    · exact dist2_nonneg _ _
    · exact sq_nonneg _
theorem Ed.long_nonneg (e : Ed) : 0 ≤ e.long := by
  have := sq_nonneg e.wx; have := sq_nonneg e.wy; unfold Ed.long; omega
def Ed.at2 (e : Ed) (p : Pt) (k n : Int) : Int :=
  (n * (p.x - e.a.x) - k * e.wx) * (n * (p.x - e.a.x) - k * e.wx) + (n * (p.y - e.a.y) - k * e.wy) * (n * (p.y - e.a.y) - k * e.wy)
theorem Ed.at2_eq (e : Ed) (p : Pt) (k n : Int) : e.at2 p k n = n * n * dist2 p e.a - 2 * (n * k) * e.along p + k * k * e.long := by
  unfold Ed.at2 dist2 Ed.along Ed.long; grind
theorem Ed.dist_b (e : Ed) (p : Pt) : dist2 p e.b = dist2 p e.a - 2 * e.along p + e.long := by
  unfold dist2 Ed.along Ed.long Ed.wx Ed.wy; grind
theorem Ed.cross_eq (e : Ed) (p : Pt) : e.long * dist2 p e.a = e.along p * e.along p + e.cr p * e.cr p := by
  unfold dist2 Ed.along Ed.long Ed.cr; grind
theorem Ed.least (e : Ed) (p : Pt) (k n : Int) (h0 : 0 ≤ k) (h1 : k ≤ n) : e.num p * (n * n) ≤ e.den p * e.at2 p k n := by
  have hL := e.long_nonneg
  rw [e.at2_eq]
  unfold Ed.num Ed.den
  split
  · rename_i h
    have a1 : 0 ≤ n * k := Int.mul_nonneg (by omega) h0
    have a2 : 0 ≤ (n * k) * (- e.along p) := Int.mul_nonneg a1 (by omega)
    have a3 : 0 ≤ k * k * e.long := Int.mul_nonneg (Int.mul_nonneg h0 h0) hL
    grind
  · split
    · rename_i h h2
      rw [e.dist_b]
      have a1 : 0 ≤ (n - k) * n := Int.mul_nonneg (by omega) (by omega)
      have a2 : 0 ≤ ((n - k) * n) * (e.along p - e.long) := Int.mul_nonneg a1 (by omega)
      have a3 : 0 ≤ (n - k) * (n - k) * e.long := Int.mul_nonneg (sq_nonneg _) hL
      grind
    · rename_i h h2
      have hc := e.cross_eq p
      have a1 := sq_nonneg (n * e.along p - k * e.long)
      have e1 : e.long * (n * n * dist2 p e.a - 2 * (n * k) * e.along p + k * k * e.long) = n * n * (e.long * dist2 p e.a) - 2 * (n * k) * e.along p * e.long + k * k * (e.long * e.long) := by grind
      rw [e1, hc]
      grind
theorem Ed.there (e : Ed) (p : Pt) : ∃ k n : Int, 0 ≤ k ∧ k ≤ n ∧ 1 ≤ n ∧ e.num p * (n * n) = e.den p * e.at2 p k n := by
  by_cases h : e.along p ≤ 0
  · refine ⟨0, 1, by omega, by omega, by omega, ?_⟩
    rw [e.at2_eq]; unfold Ed.num Ed.den; rw [if_pos h, if_pos h]; grind
  · by_cases h2 : e.long ≤ e.along p
    · refine ⟨1, 1, by omega, by omega, by omega, ?_⟩
      rw [e.at2_eq]; unfold Ed.num Ed.den; rw [if_neg h, if_neg h, if_pos h2, if_pos h2, e.dist_b]; grind
    · refine ⟨e.along p, e.long, by omega, by omega, by omega, ?_⟩
      rw [e.at2_eq]; unfold Ed.num Ed.den; rw [if_neg h, if_neg h, if_neg h2, if_neg h2]
      have hc := e.cross_eq p
      grind
def Ed.lt8 (e : Ed) (p : Pt) (v : Int) : Prop := 64 * e.num p < v * v * e.den p
theorem Ed.step (e : Ed) (p q : Pt) (s t : Int) (hs : 0 ≤ s) (ht : 0 ≤ t) (h : e.lt8 p s) (hw : 64 * dist2 p q < t * t) : e.lt8 q (s + t) := by
  obtain ⟨k, n, h0, h1, h2, he⟩ := e.there p
  have hl := e.least q k n h0 h1
  have hd := e.den_pos p
  have hd' := e.den_pos q
  unfold Ed.lt8 at *
  have hnn : 0 < n * n := Int.mul_pos (by omega) (by omega)
  have b1 : 64 * e.at2 p k n < (s * n) * (s * n) := by
    have c1 : (64 * e.num p) * (n * n) < (s * s * e.den p) * (n * n) := Int.mul_lt_mul_of_pos_right h hnn
    have c2 : (64 * e.num p) * (n * n) = 64 * (e.den p * e.at2 p k n) := by rw [← he]; grind
    have c3 : e.den p * (64 * e.at2 p k n) < e.den p * ((s * n) * (s * n)) := by grind
    exact Int.lt_of_mul_lt_mul_left c3 (by omega)
  have b2 : 64 * e.at2 q k n < ((s + t) * n) * ((s + t) * n) := by
    have t1 := tri_lt (x1 := 8 * (n * (p.x - e.a.x) - k * e.wx)) (x2 := 8 * (n * (p.y - e.a.y) - k * e.wy)) (y1 := 8 * (n * (q.x - p.x))) (y2 := 8 * (n * (q.y - p.y))) (s := s * n) (t := t * n) (Int.mul_nonneg hs (by omega)) (Int.mul_nonneg ht (by omega))
      (by unfold Ed.at2 at b1; grind) (by
        have d1 : (64 * dist2 p q) * (n * n) < (t * t) * (n * n) := Int.mul_lt_mul_of_pos_right hw hnn
        unfold dist2 at d1; grind)
    unfold Ed.at2
    grind
  have b3 : (64 * e.num q) * (n * n) < ((s + t) * (s + t) * e.den q) * (n * n) := by
    have c1 : e.den q * (64 * e.at2 q k n) < e.den q * (((s + t) * n) * ((s + t) * n)) := Int.mul_lt_mul_of_pos_left b2 (by omega)
    have c2 : 64 * (e.num q * (n * n)) ≤ 64 * (e.den q * e.at2 q k n) := by omega
    grind
  exact Int.lt_of_mul_lt_mul_right b3 (by omega)
end Go.Proofs.Ytlljpjbhndcaiaa.Geo
end
section
set_option linter.unusedVariables false
set_option linter.unusedSimpArgs false
namespace Go.Proofs.Ytlljpjbhndcaiaa.M
open Go.RowKit Go.Proofs.Ytlljpjbhndcaiaa.Q Go.Proofs.YtlljpjbhndcaiaaW.PrintWords Go.Proofs.YtlljpjbhndcaiaaW.PrintLast Go.Proofs.YtlljpjbhndcaiaaW.PrintMore Go.Proofs.Ytlljpjbhndcaiaa.Geo
def ed (e : S40) : Ed := ⟨⟨e.f0.f0, e.f0.f1⟩, ⟨e.f1.f0, e.f1.f1⟩⟩
def Small (x : Int) : Prop := -8200 ≤ x ∧ x ≤ 8200
def Mid (x : Int) : Prop := -33000 ≤ x ∧ x ≤ 33000
def EdIn (e : S40) : Prop := Small e.f0.f0 ∧ Small e.f0.f1 ∧ Small e.f1.f0 ∧ Small e.f1.f1
def PtIn (p : Pt) : Prop := Mid p.x ∧ Mid p.y
theorem mulb {a b A B : Int} (h1 : -A ≤ a) (h2 : a ≤ A) (h3 : -B ≤ b) (h4 : b ≤ B) : -(A * B) ≤ a * b ∧ a * b ≤ A * B := by
  have hA : 0 ≤ A := by omega
  have hB : 0 ≤ B := by omega
  rcases Int.le_total 0 a with ha | ha
  · rcases Int.le_total 0 b with hb | hb
    · have := mul_bound ha h2 hb h4
      omega
    · have := mul_bound (a := a) (b := -b) (n := A) (m := B) ha h2 (by omega) (by omega)
      rw [Int.mul_neg] at this
      omega
  · rcases Int.le_total 0 b with hb | hb
    · have := mul_bound (a := -a) (b := b) (n := A) (m := B) (by omega) (by omega) hb h4
      rw [Int.neg_mul] at this
      omega
    · have := mul_bound (a := -a) (b := -b) (n := A) (m := B) (by omega) (by omega) (by omega) (by omega)
      rw [Int.neg_mul_neg] at this
      omega
theorem sqb {a A : Int} (h1 : -A ≤ a) (h2 : a ≤ A) : 0 ≤ a * a ∧ a * a ≤ A * A := ⟨sq_nonneg a, (mulb h1 h2 h1 h2).2⟩
theorem le_cancel {n d g Q : Int} (hg : 1 ≤ g) (h : n * g * 64 ≤ Q * (d * g)) : n * 64 ≤ Q * d := by
  have : n * 64 * g ≤ Q * d * g := by
    have e1 : n * 64 * g = n * g * 64 := by grind
    have e2 : Q * d * g = Q * (d * g) := by grind
    omega
  exact Int.le_of_mul_le_mul_right this (by omega)
structure IsSq (e : S40) (p : Pt) (n d : Int) : Prop where
  g : ∃ g, 1 ≤ g ∧ (ed e).num p = n * g ∧ (ed e).den p = d * g
  n0 : 0 ≤ n
  n1 : n < 4000000000000000000
  d1 : 1 ≤ d
  d2 : d < 4000000000
  q : n * 64 ≤ 4611686018427387904 * d
theorem IsSq.of {e : S40} {p : Pt} {n d g : Int} (hg : 1 ≤ g) (h1 : (ed e).num p = n * g) (h2 : (ed e).den p = d * g) (b1 : (ed e).num p < 4000000000000000000) (b2 : (ed e).den p < 4000000000) (b3 : (ed e).num p * 64 ≤ 4611686018427387904 * (ed e).den p) : IsSq e p n d := by
  have a1 := Ed.num_nonneg (ed e) p
  have a2 := Ed.den_pos (ed e) p
  rw [h1] at a1 b1 b3
  rw [h2] at a2 b2 b3
  have n0 : 0 ≤ n := by
    by_cases h : 0 ≤ n
    · exact h
    · have := Int.mul_le_mul_of_nonneg_right (show n ≤ -1 by omega) (show 0 ≤ g by omega)
      omega
  have d1 : 1 ≤ d := by
    by_cases h : 1 ≤ d
    · exact h
    · have := Int.mul_le_mul_of_nonneg_right (show d ≤ 0 by omega) (show 0 ≤ g by omega)
      omega
  have n2 := Int.mul_le_mul_of_nonneg_left hg n0
  have d3 := Int.mul_le_mul_of_nonneg_left hg (show 0 ≤ d by omega)
  exact ⟨⟨g, hg, h1, h2⟩, n0, by omega, d1, by omega, le_cancel hg b3⟩
theorem square_eq (e : S40) (p : Pt) (he : EdIn e) (hp : PtIn p) :
    ∃ n d, IsSq e p n d ∧ Ret (fun k => plane_Square.f k e.f0.f0 e.f0.f1 e.f1.f0 e.f1.f1 p.x p.y) (n, d) := by
  obtain ⟨⟨a1, a2⟩, ⟨a3, a4⟩, ⟨a5, a6⟩, ⟨a7, a8⟩⟩ := he
  obtain ⟨⟨p1, p2⟩, ⟨p3, p4⟩⟩ := hp
  obtain ⟨⟨x1, y1⟩, ⟨x2, y2⟩⟩ := e
  obtain ⟨px, py⟩ := p
  simp only at a1 a2 a3 a4 a5 a6 a7 a8 p1 p2 p3 p4
  have ew : (ed ⟨⟨x1, y1⟩, ⟨x2, y2⟩⟩).wx = x2 - x1 := rfl
  have ev : (ed ⟨⟨x1, y1⟩, ⟨x2, y2⟩⟩).wy = y2 - y1 := rfl
  have m1 := mulb (a := x2 - x1) (b := px - x1) (A := 16400) (B := 41200) (by omega) (by omega) (by omega) (by omega)
  have m2 := mulb (a := y2 - y1) (b := py - y1) (A := 16400) (B := 41200) (by omega) (by omega) (by omega) (by omega)
  have m3 := mulb (a := x2 - x1) (b := py - y1) (A := 16400) (B := 41200) (by omega) (by omega) (by omega) (by omega)
  have m4 := mulb (a := y2 - y1) (b := px - x1) (A := 16400) (B := 41200) (by omega) (by omega) (by omega) (by omega)
  have s1 := sqb (a := x2 - x1) (A := 16400) (by omega) (by omega)
  have s2 := sqb (a := y2 - y1) (A := 16400) (by omega) (by omega)
  have s3 := sqb (a := px - x1) (A := 41200) (by omega) (by omega)
  have s4 := sqb (a := py - y1) (A := 41200) (by omega) (by omega)
  have s5 := sqb (a := px - x2) (A := 41200) (by omega) (by omega)
  have s6 := sqb (a := py - y2) (A := 41200) (by omega) (by omega)
  have sc := sqb (a := (x2 - x1) * (py - y1) - (y2 - y1) * (px - x1)) (A := 1351360000) (by omega) (by omega)
  have eal : (ed ⟨⟨x1, y1⟩, ⟨x2, y2⟩⟩).along ⟨px, py⟩ = (x2 - x1) * (px - x1) + (y2 - y1) * (py - y1) := rfl
  have elo : (ed ⟨⟨x1, y1⟩, ⟨x2, y2⟩⟩).long = (x2 - x1) * (x2 - x1) + (y2 - y1) * (y2 - y1) := rfl
  have ecr : (ed ⟨⟨x1, y1⟩, ⟨x2, y2⟩⟩).cr ⟨px, py⟩ = (x2 - x1) * (py - y1) - (y2 - y1) * (px - x1) := rfl
  have da : dist2 ⟨px, py⟩ (ed ⟨⟨x1, y1⟩, ⟨x2, y2⟩⟩).a = (px - x1) * (px - x1) + (py - y1) * (py - y1) := rfl
  have db : dist2 ⟨px, py⟩ (ed ⟨⟨x1, y1⟩, ⟨x2, y2⟩⟩).b = (px - x2) * (px - x2) + (py - y2) * (py - y2) := rfl
  have hc := Ed.cross_eq (ed ⟨⟨x1, y1⟩, ⟨x2, y2⟩⟩) ⟨px, py⟩
  rw [eal, elo, ecr, da] at hc
  have fn : (ed ⟨⟨x1, y1⟩, ⟨x2, y2⟩⟩).num ⟨px, py⟩ = if (x2 - x1) * (px - x1) + (y2 - y1) * (py - y1) ≤ 0 then (px - x1) * (px - x1) + (py - y1) * (py - y1) else if (x2 - x1) * (x2 - x1) + (y2 - y1) * (y2 - y1) ≤ (x2 - x1) * (px - x1) + (y2 - y1) * (py - y1) then (px - x2) * (px - x2) + (py - y2) * (py - y2) else ((x2 - x1) * (py - y1) - (y2 - y1) * (px - x1)) * ((x2 - x1) * (py - y1) - (y2 - y1) * (px - x1)) := rfl
  have fd : (ed ⟨⟨x1, y1⟩, ⟨x2, y2⟩⟩).den ⟨px, py⟩ = if (x2 - x1) * (px - x1) + (y2 - y1) * (py - y1) ≤ 0 then 1 else if (x2 - x1) * (x2 - x1) + (y2 - y1) * (y2 - y1) ≤ (x2 - x1) * (px - x1) + (y2 - y1) * (py - y1) then 1 else (x2 - x1) * (x2 - x1) + (y2 - y1) * (y2 - y1) := rfl
  simp only [plane_Square.f]
  rw [w64 (n := x2 - x1) (by omega) (by omega), w64 (n := y2 - y1) (by omega) (by omega), w64 (n := px - x1) (by omega) (by omega), w64 (n := py - y1) (by omega) (by omega), w64 (n := px - x2) (by omega) (by omega), w64 (n := py - y2) (by omega) (by omega),
    w64 (n := (x2 - x1) * (px - x1)) (by omega) (by omega), w64 (n := (y2 - y1) * (py - y1)) (by omega) (by omega), w64 (n := (x2 - x1) * (py - y1)) (by omega) (by omega), w64 (n := (y2 - y1) * (px - x1)) (by omega) (by omega),
    w64 (n := (x2 - x1) * (x2 - x1)) (by omega) (by omega), w64 (n := (y2 - y1) * (y2 - y1)) (by omega) (by omega), w64 (n := (px - x1) * (px - x1)) (by omega) (by omega), w64 (n := (py - y1) * (py - y1)) (by omega) (by omega), w64 (n := (px - x2) * (px - x2)) (by omega) (by omega), w64 (n := (py - y2) * (py - y2)) (by omega) (by omega)]
  rw [w64 (n := (x2 - x1) * (px - x1) + (y2 - y1) * (py - y1)) (by omega) (by omega), w64 (n := (x2 - x1) * (x2 - x1) + (y2 - y1) * (y2 - y1)) (by omega) (by omega), w64 (n := (px - x1) * (px - x1) + (py - y1) * (py - y1)) (by omega) (by omega), w64 (n := (px - x2) * (px - x2) + (py - y2) * (py - y2)) (by omega) (by omega),
    w64 (n := (x2 - x1) * (py - y1) - (y2 - y1) * (px - x1)) (by omega) (by omega), w64 (n := ((x2 - x1) * (py - y1) - (y2 - y1) * (px - x1)) * ((x2 - x1) * (py - y1) - (y2 - y1) * (px - x1))) (by omega) (by omega)]
  clear ew ev eal elo ecr da db
  have hal : 0 ≤ ((x2 - x1) * (px - x1) + (y2 - y1) * (py - y1)) * ((x2 - x1) * (px - x1) + (y2 - y1) * (py - y1)) := sq_nonneg _
  by_cases h1 : (x2 - x1) * (px - x1) + (y2 - y1) * (py - y1) ≤ 0
  · simp only [if_pos h1] at fn fd ⊢
    exact ⟨_, _, IsSq.of (g := 1) (by omega) (by rw [fn, Int.mul_one]) (by rw [fd]; rfl) (by rw [fn]; omega) (by rw [fd]; omega) (by rw [fn, fd]; omega), Ret.const rfl⟩
  · simp only [if_neg h1] at fn fd ⊢
    by_cases h2 : (x2 - x1) * (x2 - x1) + (y2 - y1) * (y2 - y1) ≤ (x2 - x1) * (px - x1) + (y2 - y1) * (py - y1)
    · simp only [if_pos h2] at fn fd ⊢
      exact ⟨_, _, IsSq.of (g := 1) (by omega) (by rw [fn, Int.mul_one]) (by rw [fd]; rfl) (by rw [fn]; omega) (by rw [fd]; omega) (by rw [fn, fd]; omega), Ret.const rfl⟩
    · simp only [if_neg h2] at fn fd ⊢
      have hlo : 0 ≤ (x2 - x1) * (x2 - x1) + (y2 - y1) * (y2 - y1) ∧ (x2 - x1) * (x2 - x1) + (y2 - y1) * (y2 - y1) ≤ 537920000 := by omega
      generalize (x2 - x1) * (x2 - x1) + (y2 - y1) * (y2 - y1) = lo at *
      generalize (x2 - x1) * (py - y1) - (y2 - y1) * (px - x1) = c at *
      obtain ⟨g, n', d', g1, g2, g3, hr⟩ := of_eq (c * c) lo (by omega) (by omega) (by omega) (by omega)
      refine ⟨n', d', IsSq.of (g := g) g1 (by rw [fn, g2]) (by rw [fd, g3]) (by rw [fn]; omega) (by rw [fd]; omega) ?_, Ret.bind hr (Ret.const rfl)⟩
      rw [fn, fd]
      have k1 : lo * ((px - x1) * (px - x1) + (py - y1) * (py - y1)) ≤ lo * 3394880000 := Int.mul_le_mul_of_nonneg_left (by omega) (by omega)
      omega
end Go.Proofs.Ytlljpjbhndcaiaa.M
end
section
set_option linter.unusedVariables false
set_option linter.unusedSimpArgs false
namespace Go.Proofs.Ytlljpjbhndcaiaa.M
open Go.RowKit Go.Proofs.Ytlljpjbhndcaiaa.Q Go.Proofs.YtlljpjbhndcaiaaW.PrintWords Go.Proofs.YtlljpjbhndcaiaaW.PrintLast Go.Proofs.YtlljpjbhndcaiaaW.PrintMore Go.Proofs.Ytlljpjbhndcaiaa.Geo
theorem frac_trans {a b c d e f : Int} (hb : 1 ≤ b) (hd : 1 ≤ d) (hf : 1 ≤ f) (h1 : a * d ≤ c * b) (h2 : c * f ≤ e * d) : a * f ≤ e * b := by
  have k1 := Int.mul_le_mul_of_nonneg_right h1 (show 0 ≤ f by omega)
  have k2 := Int.mul_le_mul_of_nonneg_right h2 (show 0 ≤ b by omega)
  have : a * f * d ≤ e * b * d := by
    have e1 : a * f * d = a * d * f := by grind
    have e2 : e * b * d = e * d * b := by grind
    have e3 : c * b * f = c * f * b := by grind
    omega
  exact Int.le_of_mul_le_mul_right this (by omega)
def NoFar (p : Pt) (e e' : S40) : Prop := (ed e).num p * (ed e').den p ≤ (ed e').num p * (ed e).den p
theorem NoFar.trans {p : Pt} {a b c : S40} (h1 : NoFar p a b) (h2 : NoFar p b c) : NoFar p a c := frac_trans (Ed.den_pos _ _) (Ed.den_pos _ _) (Ed.den_pos _ _) h1 h2
theorem NoFar.refl (p : Pt) (a : S40) : NoFar p a a := Int.le_refl _
theorem IsSq.lt_iff {e e' : S40} {p : Pt} {n d n' d' : Int} (h : IsSq e p n d) (h' : IsSq e' p n' d') : n * d' < n' * d ↔ (ed e).num p * (ed e').den p < (ed e').num p * (ed e).den p := by
  obtain ⟨g, g1, g2, g3⟩ := h.g
  obtain ⟨f, f1, f2, f3⟩ := h'.g
  rw [g2, g3, f2, f3]
  have hp : 0 < g * f := Int.mul_pos (by omega) (by omega)
  have e1 : n * g * (d' * f) = n * d' * (g * f) := by grind
  have e2 : n' * f * (d * g) = n' * d * (g * f) := by grind
  rw [e1, e2]
  exact ⟨fun h => Int.mul_lt_mul_of_pos_right h hp, fun h => Int.lt_of_mul_lt_mul_right h (by omega)⟩
theorem compare_eq {e e' : S40} {p : Pt} {n d n' d' : Int} (h : IsSq e p n d) (h' : IsSq e' p n' d') : Ret (fun k => root_Compare.f k n d n' d') (cmp (n * d') (n' * d)) :=
  less_eq n d n' d' h.n0 (by have := h.n1; omega) (by have := h.d1; omega) (by have := h.d2; omega) h'.n0 (by have := h'.n1; omega) (by have := h'.d1; omega) (by have := h'.d2; omega)
theorem cmp_neg (x y : Int) : cmp x y < 0 ↔ x < y := by
  unfold cmp
  split
  · omega
  · split <;> omega
def AllIn (es : List S40) : Prop := ∀ e ∈ es, EdIn e
theorem rd_mem (es : List S40) (i : Int) (h0 : 0 ≤ i) (h1 : i < (es.length : Int)) : rd_T40 es i ∈ es := by
  unfold rd_T40
  rw [List.getD_eq_getElem?_getD, List.getElem?_eq_getElem (by omega)]
  exact List.getElem_mem _
theorem mem_rd {es : List S40} {e : S40} (h : e ∈ es) : ∃ i : Int, 0 ≤ i ∧ i < (es.length : Int) ∧ e = rd_T40 es i := by
  obtain ⟨n, hn, rfl⟩ := List.getElem_of_mem h
  refine ⟨n, by omega, by omega, ?_⟩
  unfold rd_T40
  rw [List.getD_eq_getElem?_getD, Int.toNat_natCast, List.getElem?_eq_getElem hn]
  rfl
theorem near_l0 (es : List S40) (p : Pt) (hes : AllIn es) (hp : PtIn p) (hl : es.length < 9000000000000000000) : ∀ (m : Nat) (b i n d : Int), es.length - i.toNat ≤ m → 0 ≤ b → b < i → i ≤ es.length → IsSq (rd_T40 es b) p n d → (∀ j, 0 ≤ j → j < i → NoFar p (rd_T40 es b) (rd_T40 es j)) →
    ∃ b' n' d' : Int, 0 ≤ b' ∧ b' < (es.length : Int) ∧ IsSq (rd_T40 es b') p n' d' ∧ (∀ j : Int, 0 ≤ j → j < (es.length : Int) → NoFar p (rd_T40 es b') (rd_T40 es j)) ∧ Ret (fun k => dist_Near.l0 k b es es.length i p.x p.y n d) (n', d', b') := by
  intro m
  induction m with
  | zero =>
    intro b i n d hm hb hbi hi hsq hall
    refine ⟨b, n, d, hb, by omega, hsq, fun j h0 h1 => hall j h0 (by omega), Ret.succ (Ret.congr (Ret.const rfl) fun k => ?_)⟩
    show dist_Near.l0 (k + 1) b es es.length i p.x p.y n d = _
    rw [dist_Near.l0, if_neg (by omega)]
  | succ m ih =>
    intro b i n d hm hb hbi hi hsq hall
    by_cases hz : i < es.length
    · obtain ⟨n2, d2, hsq2, hr2⟩ := square_eq (rd_T40 es i) p (hes _ (rd_mem es i (by omega) hz)) hp
      have hcmp := compare_eq hsq2 hsq
      by_cases hc : n2 * d < n * d2
      · have hlt := (IsSq.lt_iff hsq2 hsq).1 hc
        have hno : NoFar p (rd_T40 es i) (rd_T40 es b) := Int.le_of_lt hlt
        obtain ⟨b', n', d', h1, h2, h3, h4, hr⟩ := ih i (i + 1) n2 d2 (by omega) (by omega) (by omega) (by omega) hsq2 (fun j h0 h1 => by
          by_cases hj : j = i
          · subst hj; exact NoFar.refl _ _
          · exact hno.trans (hall j h0 (by omega)))
        refine ⟨b', n', d', h1, h2, h3, h4, Ret.succ ?_⟩
        refine Ret.congr (Ret.bind hr2 (Ret.bind hcmp (h := fun k t136 => if t136 < 0 then dist_Near.l0 k i es es.length (wrap64 (i + 1)) p.x p.y n2 d2 else dist_Near.l0 k b es es.length (wrap64 (i + 1)) p.x p.y n d) ?_) (h := fun k bt133 => (root_Compare.f k bt133.1 bt133.2 n d).bind fun t136 => if t136 < 0 then dist_Near.l0 k i es es.length (wrap64 (i + 1)) p.x p.y bt133.1 bt133.2 else dist_Near.l0 k b es es.length (wrap64 (i + 1)) p.x p.y n d)) fun k => ?_
        · simp only [if_pos ((cmp_neg _ _).2 hc)]
          rw [w64 (by omega) (by omega)]
          exact hr
        · show dist_Near.l0 (k + 1) b es es.length i p.x p.y n d = _
          rw [dist_Near.l0, if_pos (by omega), if_pos (by omega), if_pos (by omega)]
          simp only [if_neg (show ¬ b < 0 by omega)]
      · have hlt := fun h => hc ((IsSq.lt_iff hsq2 hsq).2 h)
        have hno : NoFar p (rd_T40 es b) (rd_T40 es i) := Int.not_lt.1 hlt
        obtain ⟨b', n', d', h1, h2, h3, h4, hr⟩ := ih b (i + 1) n d (by omega) (by omega) (by omega) (by omega) hsq (fun j h0 h1 => by
          by_cases hj : j = i
          · subst hj; exact hno
          · exact hall j h0 (by omega))
        refine ⟨b', n', d', h1, h2, h3, h4, Ret.succ ?_⟩
        refine Ret.congr (Ret.bind hr2 (Ret.bind hcmp (h := fun k t136 => if t136 < 0 then dist_Near.l0 k i es es.length (wrap64 (i + 1)) p.x p.y n2 d2 else dist_Near.l0 k b es es.length (wrap64 (i + 1)) p.x p.y n d) ?_) (h := fun k bt133 => (root_Compare.f k bt133.1 bt133.2 n d).bind fun t136 => if t136 < 0 then dist_Near.l0 k i es es.length (wrap64 (i + 1)) p.x p.y bt133.1 bt133.2 else dist_Near.l0 k b es es.length (wrap64 (i + 1)) p.x p.y n d)) fun k => ?_
        · simp only [if_neg (fun h => hc ((cmp_neg _ _).1 h))]
          rw [w64 (by omega) (by omega)]
          exact hr
        · show dist_Near.l0 (k + 1) b es es.length i p.x p.y n d = _
          rw [dist_Near.l0, if_pos (by omega), if_pos (by omega), if_pos (by omega)]
          simp only [if_neg (show ¬ b < 0 by omega)]
    · refine ⟨b, n, d, hb, by omega, hsq, fun j h0 h1 => hall j h0 (by omega), Ret.succ (Ret.congr (Ret.const rfl) fun k => ?_)⟩
      show dist_Near.l0 (k + 1) b es es.length i p.x p.y n d = _
      rw [dist_Near.l0, if_neg hz]
theorem near_nil (p : Pt) : Ret (fun k => dist_Near.f k [] p.x p.y) (0, 0, -1) := by
  refine Ret.succ (Ret.congr (Ret.const rfl) fun k => ?_)
  show dist_Near.l0 (k + 1) (-1) [] (([] : List S40).length : Int) 0 p.x p.y 0 0 = _
  rw [dist_Near.l0]
  simp
theorem near_eq (es : List S40) (p : Pt) (hes : AllIn es) (hp : PtIn p) (hl : es.length < 9000000000000000000) (hne : es ≠ []) :
    ∃ b n d, 0 ≤ b ∧ b < (es.length : Int) ∧ IsSq (rd_T40 es b) p n d ∧ (∀ j, 0 ≤ j → j < (es.length : Int) → NoFar p (rd_T40 es b) (rd_T40 es j)) ∧ Ret (fun k => dist_Near.f k es p.x p.y) (n, d, b) := by
  have hpos : 0 < es.length := List.length_pos_iff.2 hne
  obtain ⟨n2, d2, hsq2, hr2⟩ := square_eq (rd_T40 es 0) p (hes _ (rd_mem es 0 (by omega) (by omega))) hp
  obtain ⟨b', n', d', h1, h2, h3, h4, hr⟩ := near_l0 es p hes hp hl _ 0 1 n2 d2 (Nat.le_refl _) (by omega) (by omega) (by omega) hsq2 (fun j h0 h1 => by
    obtain rfl : j = 0 := by omega
    exact NoFar.refl _ _)
  refine ⟨b', n', d', h1, h2, h3, h4, Ret.succ ?_⟩
  refine Ret.congr (Ret.bind hr2 (h := fun k bt133 => dist_Near.l0 k 0 es es.length 1 p.x p.y bt133.1 bt133.2) hr) fun k => ?_
  show dist_Near.l0 (k + 1) (-1) es (es.length : Int) 0 p.x p.y 0 0 = _
  rw [dist_Near.l0, if_pos (by omega), if_pos (by omega), if_pos (by omega)]
  simp only [if_pos (show (-1 : Int) < 0 by omega), w64 (n := 0 + 1) (by omega) (by omega)]
  rfl
def Is8 (es : List S40) (p : Pt) (v : Int) : Prop := 0 ≤ v ∧ (∃ e ∈ es, 64 * (ed e).num p < (v + 1) * (v + 1) * (ed e).den p) ∧ ∀ e ∈ es, v * v * (ed e).den p ≤ 64 * (ed e).num p
theorem Is8.unique {es : List S40} {p : Pt} {v u : Int} (h : Is8 es p v) (h' : Is8 es p u) : v = u := by
  have key : ∀ a b : Int, Is8 es p a → Is8 es p b → ¬ a < b := by
    intro a b ha hb hlt
    obtain ⟨a0, ⟨e, he, a1⟩, _⟩ := ha
    have b1 := hb.2.2 e he
    have := Int.mul_le_mul_of_nonneg_right (Int.mul_le_mul (show a + 1 ≤ b by omega) (show a + 1 ≤ b by omega) (by omega) hb.1) (show 0 ≤ (ed e).den p by have := Ed.den_pos (ed e) p; omega)
    omega
  have := key v u h h'
  have := key u v h' h
  omega
theorem eight_eq (es : List S40) (p : Pt) (hes : AllIn es) (hp : PtIn p) (hl : es.length < 9000000000000000000) (hne : es ≠ []) : ∃ v, Is8 es p v ∧ Ret (fun k => dist_Eight.f k es p.x p.y) v := by
  obtain ⟨b, n, d, h1, h2, h3, h4, hr⟩ := near_eq es p hes hp hl hne
  obtain ⟨v, hv, hs⟩ := scaled_eq n d h3.n0 (by have := h3.n1; omega) h3.d1 (by have := h3.d2; omega) h3.q
  obtain ⟨g, g1, g2, g3⟩ := h3.g
  have hv2 : Root8 ((ed (rd_T40 es b)).num p) ((ed (rd_T40 es b)).den p) v := Root8.of_equal h3.d1 (Ed.den_pos _ _) (by rw [g2, g3]; grind) hv
  refine ⟨v, ⟨hv.1, ⟨_, rd_mem es b h1 h2, hv2.2.2⟩, fun e he => ?_⟩, ?_⟩
  · obtain ⟨j, j0, j1, rfl⟩ := mem_rd he
    have h5 := h4 j j0 j1
    have a := hv2.2.1
    have d0 := Ed.den_pos (ed (rd_T40 es b)) p
    have d1 := Ed.den_pos (ed (rd_T40 es j)) p
    have := frac_trans (a := v * v) (b := 1) (c := 64 * (ed (rd_T40 es b)).num p) (d := (ed (rd_T40 es b)).den p) (e := 64 * (ed (rd_T40 es j)).num p) (f := (ed (rd_T40 es j)).den p) (by omega) d0 d1 (by omega) (by unfold NoFar at h5; grind)
    omega
  · refine Ret.congr (Ret.bind hr (h := fun k bt138 => if bt138.2.2 < 0 then some (-1) else (root_Scaled.f k bt138.1 bt138.2.1 8).bind fun t142 => some t142) ?_) fun k => rfl
    simp only [if_neg (show ¬ b < 0 by omega)]
    exact Ret.bind hs (Ret.const rfl)
theorem eight_nil (p : Pt) : Ret (fun k => dist_Eight.f k [] p.x p.y) (-1) := by
  obtain ⟨K, hK⟩ := near_nil p
  refine ⟨K, fun k hk => ?_⟩
  have h := hK k hk
  simp only at h
  show (dist_Near.f k [] p.x p.y).bind _ = _
  rw [h]
  simp
end Go.Proofs.Ytlljpjbhndcaiaa.M
end
section
set_option linter.unusedVariables false
set_option linter.unusedSimpArgs false
namespace Go.Proofs.Ytlljpjbhndcaiaa.M
open Go.RowKit Go.Proofs.Ytlljpjbhndcaiaa.Q Go.Proofs.YtlljpjbhndcaiaaW.PrintWords Go.Proofs.YtlljpjbhndcaiaaW.PrintLast Go.Proofs.YtlljpjbhndcaiaaW.PrintMore Go.Proofs.Ytlljpjbhndcaiaa.Geo
theorem IsSq.zero_iff {e : S40} {p : Pt} {n d : Int} (h : IsSq e p n d) : n = 0 ↔ (ed e).num p = 0 := by
  obtain ⟨g, g1, g2, _⟩ := h.g
  rw [g2]
  constructor
  · rintro rfl; simp
  · intro h
    rcases Int.mul_eq_zero.1 h with h | h
    · exact h
    · omega
def onAny (es : List S40) (p : Pt) : Bool := es.any fun e => decide ((ed e).num p = 0)
theorem on_go (p : Pt) (hp : PtIn p) : ∀ (es : List S40), AllIn es → Ret (fun k => wind_On.go k p.x p.y es) (onAny es p) := by
  intro es
  induction es with
  | nil => intro _; exact Ret.const rfl
  | cons e r ih =>
    intro h
    obtain ⟨n, d, hsq, hr⟩ := square_eq e p (h e (by simp)) hp
    have ihr := ih (fun x hx => h x (by simp [hx]))
    refine Ret.congr (Ret.bind hr (h := fun k d => if d.1 = 0 then some true else wind_On.go k p.x p.y r) ?_) fun k => rfl
    by_cases hz : n = 0
    · simp only [if_pos hz]
      refine Ret.const ?_
      simp [onAny, hsq.zero_iff.1 hz]
    · simp only [if_neg hz]
      have hn : (ed e).num p ≠ 0 := fun h => hz (hsq.zero_iff.2 h)
      have : onAny (e :: r) p = onAny r p := by simp [onAny, hn]
      rw [this]
      exact ihr
theorem on_eq (es : List S40) (p : Pt) (hp : PtIn p) (h : AllIn es) : Ret (fun k => wind_On.f k es p.x p.y) (onAny es p) := on_go p hp es h
def side (e : S40) (p : Pt) : Int := if (ed e).cr p > 0 then 1 else if (ed e).cr p < 0 then -1 else 0
theorem side_eq (e : S40) (p : Pt) (he : EdIn e) (hp : PtIn p) : plane_Side.f e.f0.f0 e.f0.f1 e.f1.f0 e.f1.f1 p.x p.y = some (side e p) := by
  have hc : (ed e).cr p = (e.f1.f0 - e.f0.f0) * (p.y - e.f0.f1) - (e.f1.f1 - e.f0.f1) * (p.x - e.f0.f0) := rfl
  obtain ⟨⟨a1, a2⟩, ⟨a3, a4⟩, ⟨a5, a6⟩, ⟨a7, a8⟩⟩ := he
  obtain ⟨⟨p1, p2⟩, ⟨p3, p4⟩⟩ := hp
  have m3 := mulb (a := e.f1.f0 - e.f0.f0) (b := p.y - e.f0.f1) (A := 16400) (B := 41200) (by omega) (by omega) (by omega) (by omega)
  have m4 := mulb (a := e.f1.f1 - e.f0.f1) (b := p.x - e.f0.f0) (A := 16400) (B := 41200) (by omega) (by omega) (by omega) (by omega)
  simp only [plane_Side.f]
  rw [w64 (n := e.f1.f0 - e.f0.f0) (by omega) (by omega), w64 (n := e.f1.f1 - e.f0.f1) (by omega) (by omega), w64 (n := p.x - e.f0.f0) (by omega) (by omega), w64 (n := p.y - e.f0.f1) (by omega) (by omega), w64 (n := (e.f1.f0 - e.f0.f0) * (p.y - e.f0.f1)) (by omega) (by omega), w64 (n := (e.f1.f1 - e.f0.f1) * (p.x - e.f0.f0)) (by omega) (by omega),
    w64 (n := (e.f1.f0 - e.f0.f0) * (p.y - e.f0.f1) - (e.f1.f1 - e.f0.f1) * (p.x - e.f0.f0)) (by omega) (by omega), ← hc]
  unfold side
  repeat' split
  all_goals rfl
def wn (p : Pt) (e : S40) : Int :=
  if e.f0.f1 ≤ p.y ∧ e.f1.f1 > p.y ∧ side e p > 0 then 1 else if e.f1.f1 ≤ p.y ∧ e.f0.f1 > p.y ∧ side e p < 0 then -1 else 0
def winding (es : List S40) (p : Pt) : Int := (es.map (wn p)).sum
theorem wn_bound (p : Pt) (e : S40) : -1 ≤ wn p e ∧ wn p e ≤ 1 := by
  unfold wn
  repeat' split
  all_goals omega
theorem winding_bound (p : Pt) : ∀ es : List S40, -(es.length : Int) ≤ winding es p ∧ winding es p ≤ es.length := by
  intro es
  induction es with
  | nil => simp [winding]
  | cons e r ih =>
    have := wn_bound p e
    simp only [winding, List.map_cons, List.sum_cons, List.length_cons] at ih ⊢
    omega
theorem winding_append (p : Pt) (a b : List S40) : winding (a ++ b) p = winding a p + winding b p := by
  simp [winding, List.sum_append]
theorem take_rd (es : List S40) (i : Int) (h0 : 0 ≤ i) (h1 : i < (es.length : Int)) : es.take (i + 1).toNat = es.take i.toNat ++ [rd_T40 es i] := by
  have e : (i + 1).toNat = i.toNat + 1 := by omega
  have hl : i.toNat < es.length := by omega
  rw [e, List.take_add_one, List.getElem?_eq_getElem hl]
  unfold rd_T40
  rw [List.getD_eq_getElem?_getD, List.getElem?_eq_getElem hl]
  rfl
theorem number_l0 (es : List S40) (p : Pt) (hp : PtIn p) (h : AllIn es) (hl : es.length < 9000000000000000000) : ∀ (m : Nat) (i : Int), es.length - i.toNat ≤ m → 0 ≤ i → i ≤ es.length →
    Ret (fun k => wind_Number.l0 k (winding (es.take i.toNat) p) es es.length i p.x p.y) (winding es p) := by
  intro m
  induction m with
  | zero =>
    intro i hm h0 h1
    refine Ret.succ (Ret.congr (Ret.const rfl) fun k => ?_)
    show wind_Number.l0 (k + 1) _ es es.length i p.x p.y = _
    rw [wind_Number.l0, if_neg (by omega), List.take_of_length_le (by omega)]
  | succ m ih =>
    intro i hm h0 h1
    by_cases hz : i < es.length
    · have hI := ih (i + 1) (by omega) (by omega) (by omega)
      have hb := winding_bound p (es.take i.toNat)
      have hle : ((es.take i.toNat).length : Int) = i := by rw [List.length_take]; omega
      rw [take_rd es i h0 hz, winding_append, show winding [rd_T40 es i] p = wn p (rd_T40 es i) by simp [winding]] at hI
      have hs := side_eq (rd_T40 es i) p (h _ (rd_mem es i h0 hz)) hp
      refine Ret.succ (Ret.succ (Ret.congr hI fun k => ?_))
      show wind_Number.l0 (k + 1 + 1) _ es es.length i p.x p.y = _
      rw [wind_Number.l0, if_pos hz, if_pos h0, if_pos hz, hs]
      generalize winding (es.take i.toNat) p = s at *
      have wi : wrap64 (i + 1) = i + 1 := w64 (by omega) (by omega)
      have ws : wrap64 (s + 1) = s + 1 := w64 (by omega) (by omega)
      have wt : wrap64 (s - 1) = s - 1 := w64 (by omega) (by omega)
      simp only [Option.bind_some, wind_Number.j1, hs, wi, ws, wt]
      unfold wn
      generalize side (rd_T40 es i) p = sd
      have hsub : s - 1 = s + -1 := by omega
      rw [hsub]
      by_cases c1 : (rd_T40 es i).f0.f1 ≤ p.y
      · by_cases c2 : (rd_T40 es i).f1.f1 > p.y
        · by_cases c3 : sd > 0
          · simp [c1, c2, c3]
          · have c4 : ¬ (rd_T40 es i).f1.f1 ≤ p.y := by omega
            simp [c1, c2, c3, c4]
        · have c4 : ¬ (rd_T40 es i).f0.f1 > p.y := by omega
          simp [c1, c2, c4]
      · by_cases c2 : (rd_T40 es i).f1.f1 ≤ p.y
        · have c4 : (rd_T40 es i).f0.f1 > p.y := by omega
          by_cases c3 : sd < 0
          · simp [c1, c2, c3, c4]
          · simp [c1, c2, c3, c4]
        · simp [c1, c2]
    · refine Ret.succ (Ret.congr (Ret.const rfl) fun k => ?_)
      show wind_Number.l0 (k + 1) _ es es.length i p.x p.y = _
      rw [wind_Number.l0, if_neg hz, List.take_of_length_le (by omega)]
theorem number_eq (es : List S40) (p : Pt) (hp : PtIn p) (h : AllIn es) (hl : es.length < 9000000000000000000) : Ret (fun k => wind_Number.f k es p.x p.y) (winding es p) := by
  have := number_l0 es p hp h hl _ 0 (Nat.le_refl _) (by omega) (by omega)
  exact this
def sign (es : List S40) (p : Pt) : Int := if onAny es p = true then 0 else if winding es p = 0 then -1 else 1
theorem sign_eq (es : List S40) (p : Pt) (hp : PtIn p) (h : AllIn es) (hl : es.length < 9000000000000000000) : Ret (fun k => dist_Sign.f k es p.x p.y) (sign es p) := by
  unfold dist_Sign.f sign
  refine Ret.bind (on_eq es p hp h) ?_
  by_cases c : onAny es p = true
  · simp only [if_pos c]; exact Ret.const rfl
  · simp only [if_neg c]
    refine Ret.bind (number_eq es p hp h hl) ?_
    by_cases c2 : winding es p = 0
    · simp only [if_pos c2]; exact Ret.const rfl
    · simp only [if_neg c2]; exact Ret.const rfl
end Go.Proofs.Ytlljpjbhndcaiaa.M
end
section
set_option linter.unusedVariables false
set_option linter.unusedSimpArgs false
namespace Go.Proofs.Ytlljpjbhndcaiaa.M
open Go.RowKit Go.Proofs.Ytlljpjbhndcaiaa.Q Go.Proofs.YtlljpjbhndcaiaaW.PrintWords Go.Proofs.YtlljpjbhndcaiaaW.PrintLast Go.Proofs.YtlljpjbhndcaiaaW.PrintMore Go.Proofs.Ytlljpjbhndcaiaa.Geo
theorem getD_take_succ {α : Type} (l : List α) (d : α) (i : Int) (h0 : 0 ≤ i) (h1 : i < (l.length : Int)) : l.take (i + 1).toNat = l.take i.toNat ++ [l.getD i.toNat d] := by
  have e : (i + 1).toNat = i.toNat + 1 := by omega
  have hl : i.toNat < l.length := by omega
  rw [e, List.take_add_one, List.getElem?_eq_getElem hl, List.getD_eq_getElem?_getD, List.getElem?_eq_getElem hl]
  rfl
def vert (d : S133) : S135 := ⟨Int.tmod (wrap64 d.f0) 256, Int.tmod (wrap64 d.f1) 256, d.f2⟩
theorem tmod_bound (x : Int) : -255 ≤ Int.tmod x 256 ∧ Int.tmod x 256 ≤ 255 := by
  rw [Int.tmod_eq_emod]
  split <;> omega
def VertIn (v : S135) : Prop := (-255 ≤ v.f0 ∧ v.f0 ≤ 255) ∧ (-255 ≤ v.f1 ∧ v.f1 ≤ 255)
theorem vert_in (d : S133) : VertIn (vert d) := ⟨tmod_bound _, tmod_bound _⟩
def ContIn (c : List S135) : Prop := 0 < c.length ∧ c.length ≤ 12 ∧ ∀ v ∈ c, VertIn v
theorem outline_l1 (x4 : Int) (x14 : List (List S133)) (x15 x16 : Int) (x25 : List S133) (acc : List (List S135)) (hl : x25.length ≤ 12) (r : List (List S135))
    (hr : Ret (fun k => if ((x25.map vert).length : Int) > 0 then (if acc.length < 5864062014805 then (punchcutlaw04_Outline.l0 k (wrap64 (x4 - ((x25.map vert).length : Int))) x14 x15 (wrap64 (x16 + 1)) (acc ++ [x25.map vert])) else (none)) else (punchcutlaw04_Outline.l0 k (wrap64 (x4 - ((x25.map vert).length : Int))) x14 x15 (wrap64 (x16 + 1)) acc)) r) :
    ∀ (m : Nat) (i : Int), x25.length - i.toNat ≤ m → 0 ≤ i → i ≤ x25.length → Ret (fun k => punchcutlaw04_Outline.l1 k x4 ((x25.take i.toNat).map vert) x14 x15 x16 x25 x25.length i acc) r := by
  intro m
  induction m with
  | zero =>
    intro i hm h0 h1
    refine Ret.succ (Ret.congr hr fun k => ?_)
    show punchcutlaw04_Outline.l1 (k + 1) x4 _ x14 x15 x16 x25 x25.length i acc = _
    rw [punchcutlaw04_Outline.l1, if_neg (by omega), List.take_of_length_le (by omega)]
  | succ m ih =>
    intro i hm h0 h1
    by_cases hz : i < x25.length
    · have hI := ih (i + 1) (by omega) (by omega) (by omega)
      rw [getD_take_succ x25 z133 i h0 hz, List.map_append] at hI
      refine Ret.succ (Ret.congr hI fun k => ?_)
      show punchcutlaw04_Outline.l1 (k + 1) x4 _ x14 x15 x16 x25 x25.length i acc = _
      rw [punchcutlaw04_Outline.l1, if_pos hz, if_pos h0, if_pos hz, if_pos (by rw [List.length_map, List.length_take]; omega), w64 (n := i + 1) (by omega) (by omega)]
      rfl
    · refine Ret.succ (Ret.congr hr fun k => ?_)
      show punchcutlaw04_Outline.l1 (k + 1) x4 _ x14 x15 x16 x25 x25.length i acc = _
      rw [punchcutlaw04_Outline.l1, if_neg hz, List.take_of_length_le (by omega)]
theorem mn_le (a b : Int) : mn a b ≤ a ∧ mn a b ≤ b := by unfold mn; split <;> omega
theorem mn_ge {a b c : Int} (h1 : c ≤ a) (h2 : c ≤ b) : c ≤ mn a b := by unfold mn; split <;> omega
theorem outline_l0 (x14 : List (List S133)) (hl : x14.length ≤ 8) : ∀ (m : Nat) (i x4 : Int) (acc : List (List S135)), x14.length - i.toNat ≤ m → 0 ≤ i → i ≤ x14.length → 0 ≤ x4 → x4 ≤ 64 → acc.length ≤ i.toNat → (∀ c ∈ acc, ContIn c) →
    ∃ r, r.length ≤ 8 ∧ (∀ c ∈ r, ContIn c) ∧ Ret (fun k => punchcutlaw04_Outline.l0 k x4 x14 x14.length i acc) r := by
  intro m
  induction m with
  | zero =>
    intro i x4 acc hm h0 h1 h2 h3 h4 h5
    refine ⟨acc, by omega, h5, Ret.succ (Ret.congr (Ret.const rfl) fun k => ?_)⟩
    show punchcutlaw04_Outline.l0 (k + 1) x4 x14 x14.length i acc = _
    rw [punchcutlaw04_Outline.l0, if_neg (by omega)]
  | succ m ih =>
    intro i x4 acc hm h0 h1 h2 h3 h4 h5
    by_cases hz : i < x14.length
    · obtain ⟨row, hrow⟩ : ∃ row, rd_L12 x14 i = row := ⟨_, rfl⟩
      obtain ⟨t, ht⟩ : ∃ t, mn (mn (row.length : Int) 12) x4 = t := ⟨_, rfl⟩
      have t0 : 0 ≤ t := by rw [← ht]; exact mn_ge (mn_ge (by omega) (by omega)) h2
      have t1 : t ≤ row.length ∧ t ≤ 12 ∧ t ≤ x4 := by
        have a := mn_le (mn (row.length : Int) 12) x4
        have b := mn_le (row.length : Int) 12
        omega
      have hlen : (row.take t.toNat).length = t.toNat := by rw [List.length_take]; omega
      have hvl : ((row.take t.toNat).map vert).length = t.toNat := by rw [List.length_map, hlen]
      have wi : wrap64 (i + 1) = i + 1 := w64 (by omega) (by omega)
      have wx : wrap64 (x4 - (t.toNat : Int)) = x4 - t := by rw [w64 (by omega) (by omega)]; omega
      have hc : ∃ r, r.length ≤ 8 ∧ (∀ c ∈ r, ContIn c) ∧ Ret (fun k => if (((row.take t.toNat).map vert).length : Int) > 0 then (if acc.length < 5864062014805 then (punchcutlaw04_Outline.l0 k (wrap64 (x4 - (((row.take t.toNat).map vert).length : Int))) x14 x14.length (wrap64 (i + 1)) (acc ++ [(row.take t.toNat).map vert])) else (none)) else (punchcutlaw04_Outline.l0 k (wrap64 (x4 - (((row.take t.toNat).map vert).length : Int))) x14 x14.length (wrap64 (i + 1)) acc)) r := by
        rw [hvl, wi, wx]
        by_cases hp : (t.toNat : Int) > 0
        · simp only [if_pos hp, if_pos (show acc.length < 5864062014805 by omega)]
          refine ih (i + 1) (x4 - t) _ (by omega) (by omega) (by omega) (by omega) (by omega) (by rw [List.length_append]; simp; omega) ?_
          intro c hc
          rcases List.mem_append.1 hc with hc | hc
          · exact h5 c hc
          · rw [List.mem_singleton.1 hc]
            refine ⟨by omega, by omega, fun v hv => ?_⟩
            obtain ⟨d, _, rfl⟩ := List.mem_map.1 hv
            exact vert_in d
        · simp only [if_neg hp]
          exact ih (i + 1) (x4 - t) acc (by omega) (by omega) (by omega) (by omega) (by omega) (by omega) h5
      obtain ⟨r, r1, r2, hr⟩ := hc
      have h1 := outline_l1 x4 x14 x14.length i (row.take t.toNat) acc (by omega) r hr _ 0 (Nat.le_refl _) (by omega) (by omega)
      refine ⟨r, r1, r2, Ret.succ (Ret.congr h1 fun k => ?_)⟩
      show punchcutlaw04_Outline.l0 (k + 1) x4 x14 x14.length i acc = _
      rw [punchcutlaw04_Outline.l0, if_pos hz, if_pos h0, if_pos hz, hrow, ht, if_pos t0, if_pos t1.1]
      rfl
    · refine ⟨acc, by omega, h5, Ret.succ (Ret.congr (Ret.const rfl) fun k => ?_)⟩
      show punchcutlaw04_Outline.l0 (k + 1) x4 x14 x14.length i acc = _
      rw [punchcutlaw04_Outline.l0, if_neg hz]
theorem outline_eq (l : List (List S133)) : ∃ r, r.length ≤ 8 ∧ (∀ c ∈ r, ContIn c) ∧ Ret (fun k => punchcutlaw04_Outline.f k l) r := by
  obtain ⟨t, ht⟩ : ∃ t, mn (l.length : Int) 8 = t := ⟨_, rfl⟩
  have t0 : 0 ≤ t := by rw [← ht]; exact mn_ge (by omega) (by omega)
  have t1 := mn_le (l.length : Int) 8
  rw [ht] at t1
  have hlen : (l.take t.toNat).length = t.toNat := by rw [List.length_take]; omega
  obtain ⟨r, r1, r2, hr⟩ := outline_l0 (l.take t.toNat) (by omega) _ 0 64 [] (Nat.le_refl _) (by omega) (by omega) (by omega) (by omega) (by simp) (by simp)
  refine ⟨r, r1, r2, Ret.congr hr fun k => ?_⟩
  unfold punchcutlaw04_Outline.f
  rw [ht, if_pos t0, if_pos t1.1]
  rfl
end Go.Proofs.Ytlljpjbhndcaiaa.M
end
section
set_option linter.unusedVariables false
set_option linter.unusedSimpArgs false
namespace Go.Proofs.Ytlljpjbhndcaiaa.M
open Go.RowKit Go.Proofs.Ytlljpjbhndcaiaa.Q Go.Proofs.YtlljpjbhndcaiaaW.PrintWords Go.Proofs.YtlljpjbhndcaiaaW.PrintLast Go.Proofs.YtlljpjbhndcaiaaW.PrintMore Go.Proofs.Ytlljpjbhndcaiaa.Geo
def P510 (p : S32) : Prop := (-510 ≤ p.f0 ∧ p.f0 ≤ 510) ∧ (-510 ≤ p.f1 ∧ p.f1 ≤ 510)
def SegIn (s : S143) : Prop := P510 s.f0 ∧ P510 s.f1 ∧ P510 s.f2
theorem pt_in (v : S135) (h : VertIn v) : P510 (path_pt v) := by
  obtain ⟨⟨h1, h2⟩, ⟨h3, h4⟩⟩ := h
  unfold path_pt P510
  simp only
  rw [w64 (by omega) (by omega), w64 (by omega) (by omega)]
  omega
theorem hf_in (a b : S135) (ha : VertIn a) (hb : VertIn b) : P510 (path_hf a b) := by
  obtain ⟨⟨h1, h2⟩, ⟨h3, h4⟩⟩ := ha
  obtain ⟨⟨h5, h6⟩, ⟨h7, h8⟩⟩ := hb
  unfold path_hf P510
  simp only
  rw [w64 (by omega) (by omega), w64 (by omega) (by omega)]
  omega
theorem seg_in (here p : S32) (pull : Option S135) (h1 : P510 here) (h2 : P510 p) (h3 : ∀ v, pull = some v → VertIn v) : SegIn (path_seg here pull p) := by
  cases pull with
  | none => exact ⟨h1, h1, h2⟩
  | some v => exact ⟨h1, pt_in v (h3 v rfl), h2⟩
theorem rd135_in (l : List S135) (h : ∀ v ∈ l, VertIn v) (i : Int) : VertIn (rd_T135 l i) := by
  unfold rd_T135
  rw [List.getD_eq_getElem?_getD]
  by_cases hi : i.toNat < l.length
  · rw [List.getElem?_eq_getElem hi]
    exact h _ (List.getElem_mem _)
  · rw [List.getElem?_eq_none (by omega)]
    unfold VertIn z135
    simp
theorem begin_in (l : List S135) (h : ∀ v ∈ l, VertIn v) : P510 (path_begin l) := by
  unfold path_begin
  split
  · exact pt_in _ (rd135_in l h _)
  · exact hf_in _ _ (rd135_in l h _) (rd135_in l h _)
def tele (φ : S32 → Int) (es : List S40) : Int := (es.map fun e => φ e.f1 - φ e.f0).sum
theorem tele_append (φ : S32 → Int) (a b : List S40) : tele φ (a ++ b) = tele φ a + tele φ b := by simp [tele]
theorem S32.eq {a b : S32} (h : a.f0 = b.f0 ∧ a.f1 = b.f1) : a = b := by
  cases a; cases b; simp_all
theorem tele_edge (φ : S32 → Int) (a b : S32) : tele φ (flat_edge a b) = φ b - φ a := by
  unfold flat_edge
  split
  · rename_i h; rw [S32.eq h]; simp [tele]
  · simp [tele]
theorem tele_chords (φ : S32 → Int) (s : S143) : ∀ k, tele φ (flat_chords s k) = φ (flat_pt s k) - φ (flat_pt s 0) := by
  intro k
  induction k with
  | zero => simp [flat_chords, tele]
  | succ k ih => rw [flat_chords, tele_append, ih, tele_edge]; omega
theorem on_c {a b c x y z : Int} (ha : 0 ≤ a ∧ a ≤ 16) (hb : 0 ≤ b ∧ b ≤ 16) (hc : 0 ≤ c ∧ c ≤ 16) (hx : -510 ≤ x ∧ x ≤ 510) (hy : -510 ≤ y ∧ y ≤ 510) (hz : -510 ≤ z ∧ z ≤ 510) : flat_On.c a b c x y z = a * x + b * y + c * z := by
  have h1 := mulb (a := a) (b := x) (A := 16) (B := 510) (by omega) (by omega) (by omega) (by omega)
  have h2 := mulb (a := b) (b := y) (A := 16) (B := 510) (by omega) (by omega) (by omega) (by omega)
  have h3 := mulb (a := c) (b := z) (A := 16) (B := 510) (by omega) (by omega) (by omega) (by omega)
  unfold flat_On.c
  rw [w64 (n := a * x) (by omega) (by omega), w64 (n := b * y) (by omega) (by omega), w64 (n := c * z) (by omega) (by omega), w64 (n := a * x + b * y) (by omega) (by omega), w64 (n := a * x + b * y + c * z) (by omega) (by omega),
    w64 (n := (a * x + b * y + c * z) * 16) (by omega) (by omega), Int.mul_tdiv_cancel _ (by omega), w64 (by omega) (by omega)]
theorem cv_eq (s : S143) (hs : SegIn s) (k : Int) (h0 : 0 ≤ k) (h4 : k ≤ 4) :
    flat_cv s k = ⟨(4 - k) * (4 - k) * s.f0.f0 + 2 * k * (4 - k) * s.f1.f0 + k * k * s.f2.f0, (4 - k) * (4 - k) * s.f0.f1 + 2 * k * (4 - k) * s.f1.f1 + k * k * s.f2.f1⟩ := by
  obtain ⟨⟨a, b⟩, ⟨c, d⟩, ⟨e, f⟩⟩ := hs
  have m1 : 0 ≤ (4 - k) * (4 - k) ∧ (4 - k) * (4 - k) ≤ 4 * 4 := mul_bound (by omega) (by omega) (by omega) (by omega)
  have m2 : 0 ≤ k * (4 - k) ∧ k * (4 - k) ≤ 4 := by
    obtain rfl | rfl | rfl | rfl | rfl : k = 0 ∨ k = 1 ∨ k = 2 ∨ k = 3 ∨ k = 4 := by omega
    all_goals omega
  have m3 : 0 ≤ k * k ∧ k * k ≤ 4 * 4 := mul_bound (by omega) (by omega) (by omega) (by omega)
  have e2 : 2 * k * (4 - k) = 2 * (k * (4 - k)) := by grind
  unfold flat_cv
  rw [w64 (n := 4 - k) (by omega) (by omega), w64 (n := 2 * k) (by omega) (by omega), w64 (n := (4 - k) * (4 - k)) (by omega) (by omega), w64 (n := 2 * k * (4 - k)) (by omega) (by omega), w64 (n := k * k) (by omega) (by omega)]
  rw [on_c (by omega) (by omega) (by omega) a c e, on_c (by omega) (by omega) (by omega) b d f]
def P8160 (p : S32) : Prop := Small p.f0 ∧ Small p.f1
theorem sm_eq (p : S32) (h : P510 p) : flat_sm p = ⟨16 * p.f0, 16 * p.f1⟩ := by
  obtain ⟨⟨h1, h2⟩, ⟨h3, h4⟩⟩ := h
  unfold flat_sm
  rw [w64 (by omega) (by omega), w64 (by omega) (by omega)]
theorem sm_in (p : S32) (h : P510 p) : P8160 (flat_sm p) := by
  rw [sm_eq p h]
  obtain ⟨⟨h1, h2⟩, ⟨h3, h4⟩⟩ := h
  unfold P8160 Small
  simp only
  omega
theorem fpt_in (s : S143) (hs : SegIn s) : ∀ k : Nat, k ≤ 4 → P8160 (flat_pt s k) := by
  intro k hk
  cases k with
  | zero => exact sm_in _ hs.1
  | succ k =>
    show P8160 (flat_cv s ((k : Int) + 1))
    rw [cv_eq s hs _ (by omega) (by omega)]
    obtain ⟨⟨a, b⟩, ⟨c, d⟩, ⟨e, f⟩⟩ := hs
    unfold P8160 Small
    simp only
    obtain rfl | rfl | rfl | rfl : k = 0 ∨ k = 1 ∨ k = 2 ∨ k = 3 := by omega
    all_goals (simp; omega)
theorem fpt_four (s : S143) (hs : SegIn s) : flat_pt s 4 = flat_sm s.f2 := by
  show flat_cv s (((3 : Nat) : Int) + 1) = _
  rw [cv_eq s hs _ (by omega) (by omega), sm_eq _ hs.2.2]
  simp
theorem edge_in (a b : S32) (ha : P8160 a) (hb : P8160 b) : AllIn (flat_edge a b) := by
  unfold flat_edge
  split
  · intro e he; simp at he
  · intro e he
    rw [List.mem_singleton.1 he]
    exact ⟨ha.1, ha.2, hb.1, hb.2⟩
theorem edge_len (a b : S32) : (flat_edge a b).length ≤ 1 := by unfold flat_edge; split <;> simp
theorem chords_in (s : S143) (hs : SegIn s) : ∀ k : Nat, k ≤ 4 → AllIn (flat_chords s k) ∧ (flat_chords s k).length ≤ k := by
  intro k
  induction k with
  | zero => intro _; exact ⟨fun e he => by simp [flat_chords] at he, by simp [flat_chords]⟩
  | succ k ih =>
    intro hk
    obtain ⟨i1, i2⟩ := ih (by omega)
    rw [flat_chords]
    refine ⟨fun e he => ?_, ?_⟩
    · rcases List.mem_append.1 he with he | he
      · exact i1 e he
      · exact edge_in _ _ (fpt_in s hs k (by omega)) (fpt_in s hs (k + 1) (by omega)) e he
    · have := edge_len (flat_pt s k) (flat_pt s (k + 1))
      rw [List.length_append]; omega
theorem fseg_in (s : S143) (hs : SegIn s) : AllIn (flat_seg s) ∧ (flat_seg s).length ≤ 4 ∧ ∀ φ, tele φ (flat_seg s) = φ (flat_sm s.f2) - φ (flat_sm s.f0) := by
  unfold flat_seg
  split
  · obtain ⟨a, b⟩ := chords_in s hs 4 (by omega)
    refine ⟨a, b, fun φ => ?_⟩
    rw [tele_chords, fpt_four s hs]
    rfl
  · refine ⟨edge_in _ _ (sm_in _ hs.1) (sm_in _ hs.2.2), by have := edge_len (flat_sm s.f0) (flat_sm s.f2); omega, fun φ => tele_edge φ _ _⟩
structure RunIn (b : S32) (s : path_S) : Prop where
  here : P510 s.here
  pull : ∀ v, s.pull = some v → VertIn v
  out : ∀ x ∈ s.out, SegIn x
  tel : ∀ φ, tele φ (s.out.flatMap flat_seg) = φ (flat_sm s.here) - φ (flat_sm b)
theorem seg_ends (here p : S32) (pull : Option S135) : (path_seg here pull p).f0 = here ∧ (path_seg here pull p).f2 = p := by
  cases pull <;> exact ⟨rfl, rfl⟩
theorem run_put (b : S32) (s : path_S) (h : RunIn b s) (p : S32) (hp : P510 p) : (∀ x ∈ s.out ++ [path_seg s.here s.pull p], SegIn x) ∧ ∀ φ, tele φ ((s.out ++ [path_seg s.here s.pull p]).flatMap flat_seg) = φ (flat_sm p) - φ (flat_sm b) := by
  have hs := seg_in s.here p s.pull h.here hp h.pull
  refine ⟨fun x hx => ?_, fun φ => ?_⟩
  · rcases List.mem_append.1 hx with hx | hx
    · exact h.out x hx
    · rw [List.mem_singleton.1 hx]; exact hs
  · rw [List.flatMap_append, tele_append, h.tel]
    simp only [List.flatMap_cons, List.flatMap_nil, List.append_nil]
    rw [(fseg_in _ hs).2.2, (seg_ends _ _ _).1, (seg_ends _ _ _).2]
    omega
theorem step_in (b : S32) (s : path_S) (v : S135) (h : RunIn b s) (hv : VertIn v) : RunIn b (path_step s v) := by
  unfold path_step
  split
  · have := run_put b s h (path_pt v) (pt_in v hv)
    exact ⟨pt_in v hv, fun _ h => (by cases h), this.1, this.2⟩
  · split
    · rename_i q hq
      have hqv := h.pull q hq
      have := run_put b s h (path_hf q v) (hf_in q v hqv hv)
      exact ⟨hf_in q v hqv hv, fun _ h => (by cases h; exact hv), this.1, this.2⟩
    · exact ⟨h.here, fun _ h => (by cases h; exact hv), h.out, h.tel⟩
theorem runs_in (l : List S135) (h : ∀ v ∈ l, VertIn v) : ∀ k, RunIn (path_begin l) (path_run l k) := by
  intro k
  induction k with
  | zero => exact ⟨begin_in l h, fun _ h => (by cases h), fun _ h => (by simp [path_run] at h), fun φ => by simp [path_run, tele]⟩
  | succ k ih => exact step_in _ _ _ ih (rd135_in l h _)
theorem all_in (l : List S135) (h : ∀ v ∈ l, VertIn v) : (∀ x ∈ path_all l, SegIn x) ∧ ∀ φ, tele φ ((path_all l).flatMap flat_seg) = 0 := by
  have := run_put _ _ (runs_in l h (path_count l)) (path_begin l) (begin_in l h)
  refine ⟨this.1, fun φ => ?_⟩
  rw [path_all, this.2]
  omega
theorem all_len (l : List S135) (h : l.length ≤ 12) : (path_all l).length ≤ 13 := by
  have := path_run_len l (path_count l)
  have hc : path_count l ≤ l.length := by unfold path_count; split <;> omega
  rw [path_all, List.length_append, List.length_singleton]
  omega
end Go.Proofs.Ytlljpjbhndcaiaa.M
end
section
set_option linter.unusedVariables false
set_option linter.unusedSimpArgs false
namespace Go.Proofs.Ytlljpjbhndcaiaa.M
open Go.RowKit Go.Proofs.Ytlljpjbhndcaiaa.Q Go.Proofs.YtlljpjbhndcaiaaW.PrintWords Go.Proofs.YtlljpjbhndcaiaaW.PrintLast Go.Proofs.YtlljpjbhndcaiaaW.PrintMore Go.Proofs.Ytlljpjbhndcaiaa.Geo
def SegsIn (c : List S143) : Prop := (∀ x ∈ c, SegIn x) ∧ c.length ≤ 13 ∧ ∀ φ, tele φ (c.flatMap flat_seg) = 0
theorem segs_eq (c : List S135) (h : ContIn c) : ∃ s, SegsIn s ∧ path_Segs.f c = some s := by
  obtain ⟨h0, h1, h2⟩ := h
  refine ⟨path_all c, ⟨(all_in c h2).1, all_len c h1, (all_in c h2).2⟩, ?_⟩
  unfold path_Segs.f
  rw [if_pos (by omega), if_neg (by omega)]
theorem pathall_l0 (x7 : List (List S135)) (hl : x7.length ≤ 8) (hx : ∀ c ∈ x7, ContIn c) : ∀ (m : Nat) (i : Int) (acc : List (List S143)), x7.length - i.toNat ≤ m → 0 ≤ i → i ≤ x7.length → acc.length ≤ i.toNat → (∀ c ∈ acc, SegsIn c) →
    ∃ r, r.length ≤ 8 ∧ (∀ c ∈ r, SegsIn c) ∧ Ret (fun k => path_All.l0 k acc x7 x7.length i) r := by
  intro m
  induction m with
  | zero =>
    intro i acc hm h0 h1 h4 h5
    refine ⟨acc, by omega, h5, Ret.succ (Ret.congr (Ret.const rfl) fun k => ?_)⟩
    show path_All.l0 (k + 1) acc x7 x7.length i = _
    rw [path_All.l0, if_neg (by omega)]
  | succ m ih =>
    intro i acc hm h0 h1 h4 h5
    by_cases hz : i < x7.length
    · have hmem : rd_L9 x7 i ∈ x7 := by
        unfold rd_L9
        rw [List.getD_eq_getElem?_getD, List.getElem?_eq_getElem (by omega)]
        exact List.getElem_mem _
      obtain ⟨s, hs, he⟩ := segs_eq _ (hx _ hmem)
      obtain ⟨r, r1, r2, hr⟩ := ih (i + 1) (acc ++ [s]) (by omega) (by omega) (by omega) (by rw [List.length_append]; simp; omega) (fun c hc => by
        rcases List.mem_append.1 hc with hc | hc
        · exact h5 c hc
        · rw [List.mem_singleton.1 hc]; exact hs)
      refine ⟨r, r1, r2, Ret.succ (Ret.congr hr fun k => ?_)⟩
      show path_All.l0 (k + 1) acc x7 x7.length i = _
      rw [path_All.l0, if_pos hz, if_pos h0, if_pos hz, he, w64 (n := i + 1) (by omega) (by omega)]
      simp only [Option.bind_some]
      rw [if_pos (by omega)]
    · refine ⟨acc, by omega, h5, Ret.succ (Ret.congr (Ret.const rfl) fun k => ?_)⟩
      show path_All.l0 (k + 1) acc x7 x7.length i = _
      rw [path_All.l0, if_neg hz]
theorem pathall_eq (l : List (List S135)) (hl : l.length ≤ 8) (hx : ∀ c ∈ l, ContIn c) : ∃ r, r.length ≤ 8 ∧ (∀ c ∈ r, SegsIn c) ∧ Ret (fun k => path_All.f k l) r :=
  pathall_l0 l hl hx _ 0 [] (Nat.le_refl _) (by omega) (by omega) (by simp) (by simp)
structure Glyph (es : List S40) (n : Nat) : Prop where
  small : AllIn es
  few : es.length ≤ n
  closed : ∀ φ, tele φ es = 0
theorem edges_eq (c : List S143) (h : SegsIn c) : ∃ es, Glyph es 52 ∧ flat_Edges.f c = some es := by
  obtain ⟨h0, h1, h2⟩ := h
  refine ⟨c.flatMap flat_seg, ⟨?_, ?_, h2⟩, ?_⟩
  · intro e he
    obtain ⟨s, hs, he⟩ := List.mem_flatMap.1 he
    exact (fseg_in s (h0 s hs)).1 e he
  · have key : ∀ c : List S143, (∀ x ∈ c, SegIn x) → (c.flatMap flat_seg).length ≤ 4 * c.length := by
      intro c
      induction c with
      | nil => simp
      | cons x r ih =>
        intro h
        have a := ih (fun y hy => h y (by simp [hy]))
        have b := (fseg_in x (h x (by simp))).2.1
        rw [List.flatMap_cons, List.length_append, List.length_cons]
        omega
    have := key c h0
    omega
  · unfold flat_Edges.f
    rw [if_pos (by omega)]
theorem flatall_l0 (x6 : List (List S143)) (hl : x6.length ≤ 8) (hx : ∀ c ∈ x6, SegsIn c) : ∀ (m : Nat) (i : Int) (acc : List S40), x6.length - i.toNat ≤ m → 0 ≤ i → i ≤ x6.length → Glyph acc (52 * i.toNat) →
    ∃ r, Glyph r 416 ∧ Ret (fun k => flat_All.l0 k acc x6 x6.length i) r := by
  intro m
  induction m with
  | zero =>
    intro i acc hm h0 h1 h5
    refine ⟨acc, ⟨h5.small, by have := h5.few; omega, h5.closed⟩, Ret.succ (Ret.congr (Ret.const rfl) fun k => ?_)⟩
    show flat_All.l0 (k + 1) acc x6 x6.length i = _
    rw [flat_All.l0, if_neg (by omega)]
  | succ m ih =>
    intro i acc hm h0 h1 h5
    by_cases hz : i < x6.length
    · have hmem : rd_L7 x6 i ∈ x6 := by
        unfold rd_L7
        rw [List.getD_eq_getElem?_getD, List.getElem?_eq_getElem (by omega)]
        exact List.getElem_mem _
      obtain ⟨s, hs, he⟩ := edges_eq _ (hx _ hmem)
      have f1 := h5.few
      have f2 := hs.few
      obtain ⟨r, r1, hr⟩ := ih (i + 1) (acc ++ s) (by omega) (by omega) (by omega) ⟨fun e he => (by
        rcases List.mem_append.1 he with he | he
        · exact h5.small e he
        · exact hs.small e he), by rw [List.length_append]; omega, fun φ => by rw [tele_append, h5.closed, hs.closed]; omega⟩
      refine ⟨r, r1, Ret.succ (Ret.congr hr fun k => ?_)⟩
      show flat_All.l0 (k + 1) acc x6 x6.length i = _
      rw [flat_All.l0, if_pos hz, if_pos h0, if_pos hz, he, w64 (n := i + 1) (by omega) (by omega)]
      simp only [Option.bind_some]
      rw [if_pos (by omega)]
    · refine ⟨acc, ⟨h5.small, by have := h5.few; omega, h5.closed⟩, Ret.succ (Ret.congr (Ret.const rfl) fun k => ?_)⟩
      show flat_All.l0 (k + 1) acc x6 x6.length i = _
      rw [flat_All.l0, if_neg hz]
theorem flatall_eq (l : List (List S143)) (hl : l.length ≤ 8) (hx : ∀ c ∈ l, SegsIn c) : ∃ r, Glyph r 416 ∧ Ret (fun k => flat_All.f k l) r :=
  flatall_l0 l hl hx _ 0 [] (Nat.le_refl _) (by omega) (by omega) ⟨by intro e he; simp at he, by simp, fun φ => by simp [tele]⟩
theorem glyph_l0 (x10 : List (List S133)) (hl : x10.length ≤ 3) : ∀ (m : Nat) (i : Int) (acc : List (List S133)), x10.length - i.toNat ≤ m → 0 ≤ i → i ≤ x10.length → acc.length ≤ i.toNat →
    ∃ r, Glyph r 416 ∧ Ret (fun k => punchcutlaw06_Glyph.l0 k acc x10 x10.length i) r := by
  have fin : ∀ (i : Int) (acc : List (List S133)), ¬ i < x10.length → ∃ r, Glyph r 416 ∧ Ret (fun k => punchcutlaw06_Glyph.l0 k acc x10 x10.length i) r := by
    intro i acc hi
    obtain ⟨o, o1, o2, ho⟩ := outline_eq acc
    obtain ⟨s, s1, s2, hs⟩ := pathall_eq o o1 o2
    obtain ⟨r, r1, hr⟩ := flatall_eq s s1 s2
    refine ⟨r, r1, Ret.succ (Ret.congr (Ret.bind ho (h := fun k t217 => (path_All.f k t217).bind fun t220 => (flat_All.f k t220).bind fun t223 => some t223) (Ret.bind hs (h := fun k t220 => (flat_All.f k t220).bind fun t223 => some t223) (Ret.bind hr (h := fun _ t223 => some t223) (Ret.const rfl)))) fun k => ?_)⟩
    show punchcutlaw06_Glyph.l0 (k + 1) acc x10 x10.length i = _
    rw [punchcutlaw06_Glyph.l0, if_neg hi]
  intro m
  induction m with
  | zero =>
    intro i acc hm h0 h1 h4
    exact fin i acc (by omega)
  | succ m ih =>
    intro i acc hm h0 h1 h4
    by_cases hz : i < x10.length
    · have a1 := mn_le ((rd_L12 x10 i).length : Int) 6
      have a2 : 0 ≤ mn ((rd_L12 x10 i).length : Int) 6 := mn_ge (by omega) (by omega)
      obtain ⟨r, r1, hr⟩ := ih (i + 1) (acc ++ [((rd_L12 x10 i).take ((mn ((rd_L12 x10 i).length : Int) 6) : Int).toNat)]) (by omega) (by omega) (by omega) (by rw [List.length_append]; simp; omega)
      refine ⟨r, r1, Ret.succ (Ret.congr hr fun k => ?_)⟩
      show punchcutlaw06_Glyph.l0 (k + 1) acc x10 x10.length i = _
      rw [punchcutlaw06_Glyph.l0, if_pos hz, if_pos h0, if_pos hz, if_pos a2, if_pos a1.1, if_pos (by omega), w64 (n := i + 1) (by omega) (by omega)]
    · exact fin i acc hz
theorem glyph_eq (l : List (List S133)) : ∃ es, Glyph es 416 ∧ Ret (fun k => punchcutlaw06_Glyph.f k l) es := by
  obtain ⟨t, ht⟩ : ∃ t, mn (l.length : Int) 3 = t := ⟨_, rfl⟩
  have t0 : 0 ≤ t := by rw [← ht]; exact mn_ge (by omega) (by omega)
  have t1 := mn_le (l.length : Int) 3
  rw [ht] at t1
  have hlen : (l.take t.toNat).length = t.toNat := by rw [List.length_take]; omega
  obtain ⟨r, r1, hr⟩ := glyph_l0 (l.take t.toNat) (by omega) _ 0 [] (Nat.le_refl _) (by omega) (by omega) (by simp)
  refine ⟨r, r1, Ret.congr hr fun k => ?_⟩
  unfold punchcutlaw06_Glyph.f
  rw [ht, if_pos t0, if_pos t1.1]
  rfl
end Go.Proofs.Ytlljpjbhndcaiaa.M
end
