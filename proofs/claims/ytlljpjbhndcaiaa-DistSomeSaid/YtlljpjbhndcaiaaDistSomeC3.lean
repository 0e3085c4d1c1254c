/- What the proof of the law DistSome leans on, part 3. -/
import Derived.Test.YtlljpjbhndcaiaaDistSomeC2
import Derived.OrdersIn
import Derived.RangeFuncCalls
import Derived.Laws.EntriesVeiled
import Derived.BigQuiet
import Derived.Laws.BitsLemmas
import Derived.IntWalk
import Init
set_option linter.unusedVariables false
set_option linter.unusedSimpArgs false
set_option linter.unusedSectionVars false
section
namespace Go.Proofs.Ytlljpjbhndcaiaa.Q
open Go.RowKit Go.Proofs.YtlljpjbhndcaiaaW.PrintWords Go.Proofs.YtlljpjbhndcaiaaW.PrintLast Go.Proofs.YtlljpjbhndcaiaaW.PrintMore
attribute [local go_sem] max2_int min2_int max_two min_two max_three min_three max_four min_four
set_option linter.unusedVariables false
set_option linter.unusedSimpArgs false
def path_All.l0 : Nat → List (List (S143)) → List (List (S135)) → Int → Int → Option ((List (List (S143))))
  | 0, _, _, _, _ => none
  | k + 1, x3, x7, x8, x9 => if x9 < x8 then (if 0 ≤ x9 then (if x9 < (x7.length : Int) then ((path_Segs.f (rd_L9 x7 x9)).bind fun t178 => (if x3.length < 5864062014805 then (path_All.l0 k (x3 ++ [t178]) x7 x8 (wrap64 (x9 + 1))) else (none))) else (none)) else (none)) else (some x3)
def path_All.f (k : Nat) (l0_0 : List (List (S135))) : Option ((List (List (S143)))) := path_All.l0 k ([] : List (List (S143))) l0_0 (l0_0.length : Int) 0
theorem path_All.mono_l : ∀ k, (∀ y0 y1 y2 y3, LeO (path_All.l0 k y0 y1 y2 y3) (path_All.l0 (k + 1) y0 y1 y2 y3))
  | 0 => fun _ _ _ _ r h => by simp [path_All.l0] at h
  | k + 1 => by
    have ih0 := path_All.mono_l k
    · intro y0 y1 y2 y3
      unfold path_All.l0
      repeat' first
      | (with_reducible exact ih0 _ _ _ _)
      | (with_reducible exact LeO.refl _)
      | (with_reducible exact LeO.none _)
      | (with_reducible refine LeO.ite ?_ ?_)
      | (with_reducible refine LeO.bind ?_ (fun _ => ?_))
      | exact ih0 _ _ _ _
      | exact LeO.none _
      | refine LeO.ite ?_ ?_
      | refine LeO.bind ?_ (fun _ => ?_)
theorem path_All.mono : ∀ a0 k, LeO (path_All.f k a0) (path_All.f (k + 1) a0) := by
  intro a0 k
  have ih0 := path_All.mono_l k
  unfold path_All.f
  repeat' first
      | (with_reducible exact ih0 _ _ _ _)
      | (with_reducible exact LeO.refl _)
      | (with_reducible exact LeO.none _)
      | (with_reducible refine LeO.ite ?_ ?_)
      | (with_reducible refine LeO.bind ?_ (fun _ => ?_))
      | exact ih0 _ _ _ _
      | exact LeO.none _
      | refine LeO.ite ?_ ?_
      | refine LeO.bind ?_ (fun _ => ?_)
set_option maxHeartbeats 8000000 in
set_option maxRecDepth 100000 in
theorem path_All.calls (k : Nat) (A0_0 : Option Addr) (c0_0 : Nat) (l0_0 : List (List (S135))) (r : List (List (S143))) (w : World) (hr0_0 : Kd.C (Kd.slice 135 k135) w A0_0 l0_0.length l0_0) (hc0_0 : l0_0.length ≤ c0_0) (h : path_All.f k l0_0 = some r) :
    Calls Try.prog 56 #[.agg #[.slice A0_0 l0_0.length c0_0]] w fun e w' => ∃ v0_ : Value, e = .returned (v0_) ∧ Kd.S (Kd.slice 143 k143) 128 w' w.heap.size (fun _ => True) v0_ r ∧ Below w.heap.size w w' := by
  have hu98 := Try.underlying98
  have HR0_0 := Aside0.mk hr0_0
  have HC0_0 := Aside0.mk hc0_0
  clear hr0_0 hc0_0
  have HB := Aside0.mk (Below.refl w.heap.size w)
  have H : (path_All.l0 k ([] : List (List (S143))) l0_0 (l0_0.length : Int) 0) = some r := h
  clear h
  have H' := Aside0.mk H
  clear H
  go_enter Try.func56, Try.ntmps56
  go_wp2_with (first | ((with_reducible refine gate_dst (N := 1) rfl ?_); refine box_event ?hg (N := 1) ?hd (cs := #[.slice A0_0 l0_0.length c0_0]) (t := 98) ?hr ?_; (case hd => rfl); (case hg => rfl); (case hr => first | (go_simp; done) | (go_simp; rfl)); intro gb176 hg w2 hbox hb; have n0_ := Aside0.mk (below_step (by repeat (first | (with_reducible first | exact HB.out | apply below_alloc | apply pw_below_drewN | apply below_drew1) | exact HB.out)) hb); have n1_ := Aside0.mk (hbox); have n2_ := Aside0.mk ((by rw [hg]; exact (below_size (by repeat (first | (with_reducible first | exact HB.out | apply below_alloc | apply pw_below_drewN | apply below_drew1) | exact HB.out))) : w.heap.size ≤ gb176)); have n3_ := Aside0.mk ((by rw [hg]; exact (below_size (by repeat (first | (with_reducible first | exact HB.out | apply below_alloc | apply pw_below_drewN | apply below_drew1) | exact HB.out))) : w.heap.size ≤ gb176)); clear HB; have HB := n0_; have BK176 := n1_; have GW176 := n2_; have GE176 := n3_; clear n0_ n1_ n2_ n3_; clear hb hbox hg; have hcz3_0 : w2.cell? ⟨gb176, 0, none⟩ = some (.slice A0_0 l0_0.length c0_0) := (blk_cell BK176.out 0).trans rfl; have hfz3_0 := blk_frozen BK176.out 0))
  go_loopg [3, 9] k (fun kq v3 v9 w' => ∃ (x3_1 : List (List (S143))) (x9_1 : Int), v9 = .int .i64 x9_1 ∧ Aside0 (path_All.l0 kq x3_1 l0_0 (l0_0.length : Int) x9_1 = some r) ∧ Aside0 (kq ≤ k) ∧ Aside0 (Kd.S (Kd.slice 143 k143) 128 w' w.heap.size (fun _ => True) v3 x3_1) ∧ Aside0 (w'.heap[gb176]? = some (.cells #[(.slice A0_0 l0_0.length c0_0)] 98 (0, 0))) ∧ Aside0 (Below w.heap.size w w'))
  case atStart => exact ⟨(([] : List (List (S143)))), (0), (by first | rfl | (simp; done) | (simp [*]; done)), H', ⟨Nat.le_refl _⟩, ⟨by first | exact Kd.S_nil _ _ _ _ _ | exact Kd.N_nil _ _ _ _ _ | exact Kd.V_nil _ _ _ _ _ | exact Kd.Q_nil _ _ _ _ _ | exact Kd.R_nil _ _ _ _ _⟩, ⟨by (with_reducible repeat (first | refine blk_drewN ?_ _ | refine blk_drew ?_ | refine blk_alloc ?_ _)); exact BK176.out⟩, ⟨by repeat (first | (with_reducible first | exact HB.out | apply below_alloc | apply pw_below_drewN | apply below_drew1 | refine below_set ?_ GE176.out) | exact HB.out)⟩⟩
  case round =>
    clear H'
    try clear p2
    try clear hcz3_0
    try clear hfz3_0
    obtain ⟨x3_1, x9_1, rfl, HA, HK1, HO_3, BK176, HB⟩ := hrel
    cases gk with
    | zero => exact absurd HA.out (by simp [path_All.l0])
    | succ k1 =>
      have H := HA.out
      clear HA
      simp only [path_All.l0] at H
      by_cases c4 : x9_1 < (l0_0.length : Int)
      · rw [if_pos c4] at H
        have c4b0 : decide (x9_1 < (l0_0.length : Int)) = true := decide_eq_true c4
        clear c4
        by_cases c5 : 0 ≤ x9_1
        · rw [if_pos c5] at H
          have c5b0 : decide (0 ≤ x9_1) = true := decide_eq_true c5
          clear c5
          by_cases c6 : x9_1 < (l0_0.length : Int)
          · rw [if_pos c6] at H
            have c6b0 : decide (x9_1 < (l0_0.length : Int)) = true := decide_eq_true c6
            clear c6
            replace H := Option.bind_eq_some_iff.mp H
            obtain ⟨t178, A70, H⟩ := H
            replace H : (if x3_1.length < 5864062014805 then (path_All.l0 k1 (x3_1 ++ [t178]) l0_0 (l0_0.length : Int) (wrap64 (x9_1 + 1))) else (none)) = some r := H
            have A7 := Aside0.mk A70
            clear A70
            by_cases c8 : x3_1.length < 5864062014805
            · rw [if_pos c8] at H
              have LMc8 := Aside0.mk c8
              clear c8
              obtain ⟨y181, hy181⟩ : ∃ y_ : List (List (S143)), y_ = (x3_1 ++ [t178]) := ⟨_, rfl⟩
              replace H : (path_All.l0 k1 y181 l0_0 (l0_0.length : Int) (wrap64 (x9_1 + 1))) = some r := by first | (rw [hy181]; with_reducible exact H) | (have H2_ := (Option.bind_some _ _).symm.trans H; rw [hy181]; with_reducible exact H2_) | (have H2_ := (Option.bind_some _ _).symm.trans H; with_reducible exact H2_) | with_reducible exact H | (rw [hy181]; exact H) | exact H
              have Ny181 := Aside0.mk hy181
              clear hy181
              have H' := Aside0.mk H
              clear H
              have p177 : 0 ≤ (x9_1 : Int) := of_decide_eq_true (by first | (with_reducible assumption) | assumption)
              have q177 : x9_1 < (l0_0.length : Int) := of_decide_eq_true (by first | (with_reducible assumption) | assumption)
              obtain ⟨ad177, A177_0, c177_0, e177, hx177_0, hl177_0, hi177_0⟩ := at_L9 HR0_0.out x9_1 p177 q177
              cases e177
              replace hx177_0 := (HB.out.cell (World.block_lt_of_cell? w _ hx177_0)).trans hx177_0
              have HR177_0 := Aside0.mk hi177_0
              have HC177_0 := Aside0.mk hl177_0
              clear hi177_0 hl177_0
              replace p177 := eq_true p177
              replace q177 := eq_true q177
              go_wp2_with (first | ((with_reducible refine gate_callee (f := 81) rfl ?_); refine goesL_ (some 15) rfl rfl Try.func81 (by kernel_rfl) rfl #[.slice A177_0 (rd_L9 l0_0 x9_1).length c177_0] rfl (by (try simp only [List.map_toArray, List.map_cons, List.map_nil]); first | done | rfl | (simp only [List.length_drop, List.length_take]; rfl)) ?_; (with_reducible refine (path_Segs.calls _ _ (rd_L9 l0_0 x9_1) t178 _ ?side1 ?side2 A7.out).mono ?_); (case side1 => repeat (first | exact (Kd.C_below HR177_0.out HB.out) | (with_reducible refine Kd.C_alloc ?_ _) | (with_reducible refine Kd.C_drewN ?_ _) | (with_reducible refine Kd.C_drew ?_))); (case side2 => exact HC177_0.out); rintro e w9 ⟨v179, rfl, ho0, hb⟩; refine ⟨_, rfl, ?_⟩; have n0_ := Aside0.mk (Kd.S_elder' (by (with_reducible repeat (first | apply Kd.S_alloc | apply Kd.S_drewN | apply Kd.S_drew)); exact HO_3.out) (Kd.R_base ho0) hb); have n1_ := Aside0.mk (Kd.R_lower ho0 (below_size (by repeat (first | (with_reducible first | exact HB.out | apply below_alloc | apply pw_below_drewN | apply below_drew1 | refine below_set ?_ GE176.out) | exact HB.out)))); have n2_ := Aside0.mk (blk_below (g := gb176) (o := .cells #[.slice (some ad177) l0_0.length c0_0] 98 (0, 0)) (by (with_reducible repeat (first | refine blk_drewN ?_ _ | refine blk_drew ?_ | refine blk_alloc ?_ _)); exact BK176.out) hb); have n3_ := Aside0.mk (below_step (by repeat (first | (with_reducible first | exact HB.out | apply below_alloc | apply pw_below_drewN | apply below_drew1 | refine below_set ?_ GE176.out) | exact HB.out)) hb); clear HO_3; clear BK176; clear HB; have HO_3 := n0_; have HO180 := n1_; have BK176 := n2_; have HB := n3_; clear n0_ n1_ n2_ n3_; (try clear hb); (try clear hb2); (try clear hk); (try clear hi); (try clear ho0); obtain ⟨Ao11, co11, eo11⟩ := Kd.R_slice HO180.out; subst eo11) | ((with_reducible refine gate_builtin (b := .append) (xs := #[.tmp 13, .tmp 16]) rfl ?_); at_builtin; refine Kd.S_append (Kd.slice 143 k143) (w0 := w) w.heap.size rfl (.tmp 13) (.tmp 16) 94 128 (.slice none 0 0) 24 rfl Try.underlying94 info128 rfl (by decide) (by omega) u3 x3_1 t178 [.slice Ao11 t178.length co11] (fun _ => True) (fun k_ => some k_ = (.slice Ao11 t178.length co11 : Value).ownBlock) rfl rfl ?aP (fun k_ hk_ => ((Kd.R_mono (ok' := fun k_ => ((fun _ => True)) k_ ∧ some k_ ≠ (u3 : Value).ownBlock) (Kd.R_apart' (HO180.out) (Kd.S_typed HO_3.out) (by decide)) (fun k_ hk => ⟨trivial, hk.2⟩))).1 k_ hk_.symm) ?aF ?aO ?aB ?aS ?aL ?_; (case aP => exact Kd.M_row (Kd.R_mono (Kd.R_tight rfl (Kd.R_mono (ok' := fun k_ => ((fun _ => True)) k_ ∧ some k_ ≠ (u3 : Value).ownBlock) (Kd.R_apart' (HO180.out) (Kd.S_typed HO_3.out) (by decide)) (fun k_ hk => ⟨trivial, hk.2⟩))) (fun _ h_ => h_))); (case aB => exact (by repeat (first | (with_reducible first | exact HB.out | apply below_alloc | apply pw_below_drewN | apply below_drew1 | refine below_set ?_ GE176.out) | exact HB.out))); (case aF => exact (fun _ _ => trivial)); (case aO => exact (by (with_reducible repeat (first | apply Kd.S_alloc | apply Kd.S_drewN | apply Kd.S_drew)); exact Kd.S_mono HO_3.out (fun k_ hk => ⟨trivial, fun e_ => hk.2 e_⟩))); (case aS => exact (below_size (by repeat (first | (with_reducible first | exact HB.out | apply below_alloc | apply pw_below_drewN | apply below_drew1 | refine below_set ?_ GE176.out) | exact HB.out)))); (case aL => have := LMc8.out; omega); intro v182 w10 ho hb hg hat; rw [← Ny181.out] at ho; have n0_ := Aside0.mk (blk_grown (g := gb176) (o := .cells #[.slice (some ad177) l0_0.length c0_0] 98 (0, 0)) (by (with_reducible repeat (first | refine blk_drewN ?_ _ | refine blk_drew ?_ | refine blk_alloc ?_ _)); exact BK176.out) hg (Kd.S_ne HO_3.out BK176.out (by decide))); have n1_ := Aside0.mk (hb); have n2_ := Aside0.mk (ho); clear BK176; clear HB; clear HO_3; clear HO180; have BK176 := n0_; have HB := n1_; have HO183 := n2_; clear n0_ n1_ n2_; clear ho hb hg hat))
              go_roundg k1
              case measure => have := HK1.out; omega
              case rel => exact ⟨(y181), (wrap64 (x9_1 + 1)), (by first | rfl | (simp; done) | (simp [*]; done)), H', ⟨by have := HK1.out; omega⟩, ⟨by (with_reducible repeat (first | apply Kd.S_alloc | apply Kd.S_drewN | apply Kd.S_drew)); exact HO183.out⟩, ⟨by (with_reducible repeat (first | refine blk_drewN ?_ _ | refine blk_drew ?_ | refine blk_alloc ?_ _)); exact BK176.out⟩, ⟨by repeat (first | (with_reducible first | exact HB.out | apply below_alloc | apply pw_below_drewN | apply below_drew1 | refine below_set ?_ GE176.out) | exact HB.out)⟩⟩
            · rw [if_neg c8] at H
              exact absurd H (by simp)
          · rw [if_neg c6] at H
            exact absurd H (by simp)
        · rw [if_neg c5] at H
          exact absurd H (by simp)
      · rw [if_neg c4] at H
        have c4b0 : decide (x9_1 < (l0_0.length : Int)) = false := decide_eq_false c4
        clear c4
        obtain rfl := Option.some.inj H
        go_wp2
        go_ret
        exact ⟨_, by first | rfl | (simp [errW_none, errW_some] <;> rfl) | (simp [*, errW_none, errW_some] <;> rfl), by (with_reducible repeat (first | apply Kd.S_alloc | apply Kd.S_drewN | apply Kd.S_drew)); exact HO_3.out, by repeat (first | (with_reducible first | exact HB.out | apply below_alloc | apply pw_below_drewN | apply below_drew1 | refine below_set ?_ GE176.out) | exact HB.out)⟩
end Go.Proofs.Ytlljpjbhndcaiaa.Q
end
section
namespace Go.Proofs.Ytlljpjbhndcaiaa.Q
open Go.RowKit Go.Proofs.YtlljpjbhndcaiaaW.PrintWords Go.Proofs.YtlljpjbhndcaiaaW.PrintLast Go.Proofs.YtlljpjbhndcaiaaW.PrintMore
attribute [local go_sem] max2_int min2_int max_two min_two max_three min_three max_four min_four
set_option linter.unusedVariables false
set_option linter.unusedSimpArgs false
mutual
def punchcutlaw04_Outline.l0 : Nat → Int → List (List (S133)) → Int → Int → List (List (S135)) → Option ((List (List (S135))))
  | 0, _, _, _, _, _ => none
  | k + 1, x4, x14, x15, x16, x186000 => if x16 < x15 then (if 0 ≤ x16 then (if x16 < (x14.length : Int) then (if 0 ≤ (mn (mn ((rd_L12 x14 x16).length : Int) 12) x4) then (if (mn (mn ((rd_L12 x14 x16).length : Int) 12) x4) ≤ ((rd_L12 x14 x16).length : Int) then ((some ((rd_L12 x14 x16).take ((mn (mn ((rd_L12 x14 x16).length : Int) 12) x4) : Int).toNat : List (S133))).bind fun y191 => (punchcutlaw04_Outline.l1 k x4 ([] : List (S135)) x14 x15 x16 y191 (y191.length : Int) 0 x186000)) else (none)) else (none)) else (none)) else (none)) else (some x186000)
def punchcutlaw04_Outline.l1 : Nat → Int → List (S135) → List (List (S133)) → Int → Int → List (S133) → Int → Int → List (List (S135)) → Option ((List (List (S135))))
  | 0, _, _, _, _, _, _, _, _, _ => none
  | k + 1, x4, x7, x14, x15, x16, x25, x26, x27, x186000 => if x27 < x26 then (if 0 ≤ x27 then (if x27 < (x25.length : Int) then (if x7.length < 5864062014805 then (punchcutlaw04_Outline.l1 k x4 (x7 ++ [(⟨Int.tmod (wrap64 ((rd_T133 x25 x27).f0)) 256, Int.tmod (wrap64 ((rd_T133 x25 x27).f1)) 256, (rd_T133 x25 x27).f2⟩ : S135)]) x14 x15 x16 x25 x26 (wrap64 (x27 + 1)) x186000) else (none)) else (none)) else (none)) else (if (x7.length : Int) > 0 then (if x186000.length < 5864062014805 then (punchcutlaw04_Outline.l0 k (wrap64 (x4 - (x7.length : Int))) x14 x15 (wrap64 (x16 + 1)) (x186000 ++ [x7])) else (none)) else (punchcutlaw04_Outline.l0 k (wrap64 (x4 - (x7.length : Int))) x14 x15 (wrap64 (x16 + 1)) x186000))
end
def punchcutlaw04_Outline.f (k : Nat) (l0 : List (List (S133))) : Option ((List (List (S135)))) := if 0 ≤ (mn (l0.length : Int) 8) then (if (mn (l0.length : Int) 8) ≤ (l0.length : Int) then ((some (l0.take ((mn (l0.length : Int) 8) : Int).toNat : List (List (S133)))).bind fun y186 => (punchcutlaw04_Outline.l0 k 64 y186 (y186.length : Int) 0 ([] : List (List (S135))))) else (none)) else (none)
theorem punchcutlaw04_Outline.mono_l : ∀ k, (∀ y0 y1 y2 y3 y4, LeO (punchcutlaw04_Outline.l0 k y0 y1 y2 y3 y4) (punchcutlaw04_Outline.l0 (k + 1) y0 y1 y2 y3 y4)) ∧ (∀ y0 y1 y2 y3 y4 y5 y6 y7 y8, LeO (punchcutlaw04_Outline.l1 k y0 y1 y2 y3 y4 y5 y6 y7 y8) (punchcutlaw04_Outline.l1 (k + 1) y0 y1 y2 y3 y4 y5 y6 y7 y8))
  | 0 => ⟨fun _ _ _ _ _ r h => by simp [punchcutlaw04_Outline.l0] at h, fun _ _ _ _ _ _ _ _ _ r h => by simp [punchcutlaw04_Outline.l1] at h⟩
  | k + 1 => by
    obtain ⟨ih0, ih1⟩ := punchcutlaw04_Outline.mono_l k
    refine ⟨?_, ?_⟩
    · intro y0 y1 y2 y3 y4
      unfold punchcutlaw04_Outline.l0
      repeat' first
      | (with_reducible exact ih0 _ _ _ _ _)
      | (with_reducible exact ih1 _ _ _ _ _ _ _ _ _)
      | (with_reducible exact LeO.refl _)
      | (with_reducible exact LeO.none _)
      | (with_reducible refine LeO.ite ?_ ?_)
      | (with_reducible refine LeO.bind ?_ (fun _ => ?_))
      | exact ih0 _ _ _ _ _
      | exact ih1 _ _ _ _ _ _ _ _ _
      | exact LeO.none _
      | refine LeO.ite ?_ ?_
      | refine LeO.bind ?_ (fun _ => ?_)
    · intro y0 y1 y2 y3 y4 y5 y6 y7 y8
      unfold punchcutlaw04_Outline.l1
      repeat' first
      | (with_reducible exact ih0 _ _ _ _ _)
      | (with_reducible exact ih1 _ _ _ _ _ _ _ _ _)
      | (with_reducible exact LeO.refl _)
      | (with_reducible exact LeO.none _)
      | (with_reducible refine LeO.ite ?_ ?_)
      | (with_reducible refine LeO.bind ?_ (fun _ => ?_))
      | exact ih0 _ _ _ _ _
      | exact ih1 _ _ _ _ _ _ _ _ _
      | exact LeO.none _
      | refine LeO.ite ?_ ?_
      | refine LeO.bind ?_ (fun _ => ?_)
theorem punchcutlaw04_Outline.mono : ∀ a0 k, LeO (punchcutlaw04_Outline.f k a0) (punchcutlaw04_Outline.f (k + 1) a0) := by
  intro a0 k
  obtain ⟨ih0, ih1⟩ := punchcutlaw04_Outline.mono_l k
  unfold punchcutlaw04_Outline.f
  repeat' first
      | (with_reducible exact ih0 _ _ _ _ _)
      | (with_reducible exact ih1 _ _ _ _ _ _ _ _ _)
      | (with_reducible exact LeO.refl _)
      | (with_reducible exact LeO.none _)
      | (with_reducible refine LeO.ite ?_ ?_)
      | (with_reducible refine LeO.bind ?_ (fun _ => ?_))
      | exact ih0 _ _ _ _ _
      | exact ih1 _ _ _ _ _ _ _ _ _
      | exact LeO.none _
      | refine LeO.ite ?_ ?_
      | refine LeO.bind ?_ (fun _ => ?_)
set_option maxHeartbeats 8000000 in
set_option maxRecDepth 100000 in
theorem punchcutlaw04_Outline.calls (k : Nat) (A0 : Option Addr) (c0 : Nat) (l0 : List (List (S133))) (r : List (List (S135))) (w : World) (hr0 : Kd.C (Kd.slice 133 k133) w A0 l0.length l0) (hc0 : l0.length ≤ c0) (h : punchcutlaw04_Outline.f k l0 = some r) :
    Calls Try.prog 57 #[.slice A0 l0.length c0] w fun e w' => ∃ v0_ : Value, e = .returned (.agg #[v0_]) ∧ Kd.S (Kd.slice 135 k135) 130 w' w.heap.size (fun _ => True) v0_ r ∧ Below w.heap.size w w' := by
  have hu98 := Try.underlying98
  have hu133 := Try.underlying133
  have hu135 := Try.underlying135
  have HR0 := Aside0.mk hr0
  have HC0 := Aside0.mk hc0
  clear hr0 hc0
  have HB := Aside0.mk (Below.refl w.heap.size w)
  have H : (if 0 ≤ (mn (l0.length : Int) 8) then (if (mn (l0.length : Int) 8) ≤ (l0.length : Int) then ((some (l0.take ((mn (l0.length : Int) 8) : Int).toNat : List (List (S133)))).bind fun y186 => (punchcutlaw04_Outline.l0 k 64 y186 (y186.length : Int) 0 ([] : List (List (S135))))) else (none)) else (none)) = some r := h
  clear h
  obtain ⟨ji2, hji2⟩ : ∃ j_ : Int, (mn (l0.length : Int) 8) = j_ := ⟨_, rfl⟩
  replace H : (if 0 ≤ (ji2) then (if (ji2) ≤ (l0.length : Int) then ((some (l0.take ((ji2) : Int).toNat : List (List (S133)))).bind fun y186 => (punchcutlaw04_Outline.l0 k 64 y186 (y186.length : Int) 0 ([] : List (List (S135))))) else (none)) else (none)) = some r := by first | (rw [hji2] at H; exact H) | (simp only [hji2] at H ⊢; exact H)
  (try (have hji2h : ji2 ≤ 8 := by (rw [← hji2]; unfold mn; (repeat' split) <;> omega)))
  (try (have hji2g : ji2 ≤ 64 := by omega))
  (try (have hji2l : 0 ≤ ji2 := by (rw [← hji2]; unfold mn; (repeat' split) <;> omega)))
  (try (have hji2m : 0 ≤ ji2 := by omega))
  have hji2_ : (if 8 < (l0.length : Int) then 8 else (l0.length : Int)) = ji2 := hji2
  by_cases c3 : 0 ≤ (ji2)
  · rw [if_pos c3] at H
    have c3b0 := eq_true c3
    have c3b1 : decide (0 ≤ (ji2)) = true := decide_eq_true c3
    clear c3
    by_cases c4 : (ji2) ≤ (l0.length : Int)
    · rw [if_pos c4] at H
      have c4b0 := eq_true c4
      have c4b1 : decide ((ji2) ≤ (l0.length : Int)) = true := decide_eq_true c4
      clear c4
      obtain ⟨y186, hy186⟩ : ∃ y_ : List (List (S133)), y_ = (l0.take ((ji2) : Int).toNat) := ⟨_, rfl⟩
      replace H : (punchcutlaw04_Outline.l0 k 64 y186 (y186.length : Int) 0 ([] : List (List (S135)))) = some r := by first | (rw [hy186]; with_reducible exact H) | (have H2_ := (Option.bind_some _ _).symm.trans H; rw [hy186]; with_reducible exact H2_) | (have H2_ := (Option.bind_some _ _).symm.trans H; with_reducible exact H2_) | with_reducible exact H | (rw [hy186]; exact H) | exact H
      have Ny186 := Aside0.mk hy186
      clear hy186
      have H' := Aside0.mk H
      clear H
      go_enter Try.func57, Try.ntmps57
      go_wp2_with (first | ((with_reducible refine gate_dst (N := 2) rfl ?_); refine box_event ?hg (N := 2) ?hd (cs := #[.slice none 0 0]) (t := 98) ?hr ?_; (case hd => rfl); (case hg => rfl); (case hr => first | (go_simp; done) | (go_simp; rfl)); intro gb184 hg w5 hbox hb; have n0_ := Aside0.mk (below_step (by repeat (first | (with_reducible first | exact HB.out | apply below_alloc | apply pw_below_drewN | apply below_drew1) | exact HB.out)) hb); have n1_ := Aside0.mk (hbox); have n2_ := Aside0.mk ((by rw [hg]; exact (below_size (by repeat (first | (with_reducible first | exact HB.out | apply below_alloc | apply pw_below_drewN | apply below_drew1) | exact HB.out))) : w.heap.size ≤ gb184)); have n3_ := Aside0.mk ((by rw [hg]; exact (below_size (by repeat (first | (with_reducible first | exact HB.out | apply below_alloc | apply pw_below_drewN | apply below_drew1) | exact HB.out))) : w.heap.size ≤ gb184)); clear HB; have HB := n0_; have BK184 := n1_; have GW184 := n2_; have GE184 := n3_; clear n0_ n1_ n2_ n3_; clear hb hbox hg) | ((with_reducible refine gate_dst (N := 3) rfl ?_); refine box_event ?hg (N := 3) ?hd (cs := #[.slice none 0 0]) (t := 98) ?hr ?_; (case hd => rfl); (case hg => rfl); (case hr => first | (go_simp; done) | (go_simp; rfl)); intro gb185 hg w6 hbox hb; have n0_ := Aside0.mk (blk_below (g := gb184) (o := .cells #[.slice none 0 0] 98 (0, 0)) (by (with_reducible repeat (first | refine blk_drewN ?_ _ | refine blk_drew ?_ | refine blk_alloc ?_ _)); exact BK184.out) hb); have n1_ := Aside0.mk (below_step (by repeat (first | (with_reducible first | exact HB.out | apply below_alloc | apply pw_below_drewN | apply below_drew1 | refine below_set ?_ GE184.out) | exact HB.out)) hb); have n2_ := Aside0.mk (hbox); have n3_ := Aside0.mk ((by rw [hg]; exact (below_size (by repeat (first | (with_reducible first | exact HB.out | apply below_alloc | apply pw_below_drewN | apply below_drew1 | refine below_set ?_ GE184.out) | exact HB.out))) : w.heap.size ≤ gb185)); have n4_ := Aside0.mk ((by rw [hg]; exact (below_size (by repeat (first | (with_reducible first | exact HB.out | apply below_alloc | apply pw_below_drewN | apply below_drew1 | refine below_set ?_ GE184.out) | exact HB.out))) : w.heap.size ≤ gb185)); have n5_ := Aside0.mk ((by rw [hg]; exact Nat.ne_of_lt (blk_lt (g := gb184) (o := .cells #[.slice none 0 0] 98 (0, 0)) (by (with_reducible repeat (first | refine blk_drewN ?_ _ | refine blk_drew ?_ | refine blk_alloc ?_ _)); exact BK184.out)) : gb184 ≠ gb185)); have n6_ := Aside0.mk ((by rw [hg]; exact Nat.ne_of_gt (blk_lt (g := gb184) (o := .cells #[.slice none 0 0] 98 (0, 0)) (by (with_reducible repeat (first | refine blk_drewN ?_ _ | refine blk_drew ?_ | refine blk_alloc ?_ _)); exact BK184.out)) : gb185 ≠ gb184)); clear BK184; clear HB; have BK184 := n0_; have HB := n1_; have BK185 := n2_; have GW185 := n3_; have GE185 := n4_; have NB184_185 := n5_; have NB185_184 := n6_; clear n0_ n1_ n2_ n3_ n4_ n5_ n6_; clear hb hbox hg; have q7 : ((ji2) : Int) ≤ ((l0.length : Int) : Int) := of_decide_eq_true (by first | (with_reducible assumption) | assumption); obtain ⟨i07, hi07, _, hsz7, _⟩ := info_parts info92; have hroom7 : l0.length ≤ c0 := HC0.out; have hC7 : Kd.C (Kd.slice 133 k133) _ A0 l0.length l0 := HR0.out; have hcut7 := cut_to (P := Try.prog) 22 92 .i64 Try.underlying22 hi07 A0 l0.length c0 (ji2) (of_decide_eq_true (by first | (with_reducible assumption) | assumption)) q7 hroom7; have hr7 := Kd.C_take (m := ((ji2) : Int).toNat) hC7 (by omega); have hy7 : y186.length = ((ji2) : Int).toNat := (by rw [Ny186.out, List.length_take]; omega); rw [← Ny186.out] at hr7; rw [← hy7] at hcut7; have HR189 := Aside0.mk hr7; have HC189 := Aside0.mk (show y186.length ≤ c0 from by omega); clear hr7 hC7 hroom7 hi07 hsz7; have KY7 := Aside0.mk hy7; clear hy7; replace q7 := eq_true q7))
      go_loopg [4, 16] k (fun kq v4 v16 w' => ∃ (x4_1 : Int) (x16_1 : Int) (x186000_1 : List (List (S135))) (u186000 : Value), v4 = .int .i64 x4_1 ∧ v16 = .int .i64 x16_1 ∧ Aside0 (punchcutlaw04_Outline.l0 kq x4_1 y186 (y186.length : Int) x16_1 x186000_1 = some r) ∧ Aside0 (kq ≤ k) ∧ Aside0 (Kd.S (Kd.slice 135 k135) 130 w' w.heap.size (fun _ => True) u186000 x186000_1) ∧ Aside0 (w'.heap[gb184]? = some (.cells #[(.slice none 0 0)] 98 (0, 0))) ∧ Aside0 (w'.heap[gb185]? = some (.cells #[u186000] 98 (0, 0))) ∧ Aside0 (Below w.heap.size w w'))
      case atStart => exact ⟨(64), (0), (([] : List (List (S135)))), (.slice none 0 0), (by first | rfl | (simp; done) | (simp [*]; done)), (by first | rfl | (simp; done) | (simp [*]; done)), H', ⟨Nat.le_refl _⟩, ⟨by first | exact Kd.S_nil _ _ _ _ _ | exact Kd.N_nil _ _ _ _ _ | exact Kd.V_nil _ _ _ _ _ | exact Kd.Q_nil _ _ _ _ _ | exact Kd.R_nil _ _ _ _ _⟩, ⟨by (with_reducible repeat (first | refine blk_drewN ?_ _ | refine blk_drew ?_ | refine blk_alloc ?_ _)); exact BK184.out⟩, ⟨by (with_reducible repeat (first | refine blk_drewN ?_ _ | refine blk_drew ?_ | refine blk_alloc ?_ _)); exact BK185.out⟩, ⟨by repeat (first | (with_reducible first | exact HB.out | apply below_alloc | apply pw_below_drewN | apply below_drew1 | refine below_set ?_ GE184.out | refine below_set ?_ GE185.out) | exact HB.out)⟩⟩
      case round =>
        clear H'
        try clear p2
        try clear c3
        try clear c3b0
        try clear c3b1
        try clear c4
        try clear c4b0
        try clear c4b1
        try clear c5
        try clear q7
        try clear q7
        obtain ⟨x4_1, x16_1, x186000_1, u186000, rfl, rfl, HA, HK1, HO_186000, BK184, BK185, HB⟩ := hrel
        cases gk with
        | zero => exact absurd HA.out (by simp [punchcutlaw04_Outline.l0])
        | succ k1 =>
          have H := HA.out
          clear HA
          simp only [punchcutlaw04_Outline.l0] at H
          by_cases c8 : x16_1 < (y186.length : Int)
          · rw [if_pos c8] at H
            have c8b0 : decide (x16_1 < (y186.length : Int)) = true := decide_eq_true c8
            clear c8
            by_cases c9 : 0 ≤ x16_1
            · rw [if_pos c9] at H
              have c9b0 : decide (0 ≤ x16_1) = true := decide_eq_true c9
              clear c9
              by_cases c10 : x16_1 < (y186.length : Int)
              · rw [if_pos c10] at H
                have c10b0 : decide (x16_1 < (y186.length : Int)) = true := decide_eq_true c10
                clear c10
                obtain ⟨ji11, hji11⟩ : ∃ j_ : Int, (mn ((rd_L12 y186 x16_1).length : Int) 12) = j_ := ⟨_, rfl⟩
                replace H : (if 0 ≤ (mn (ji11) x4_1) then (if (mn (ji11) x4_1) ≤ ((rd_L12 y186 x16_1).length : Int) then ((some ((rd_L12 y186 x16_1).take ((mn (ji11) x4_1) : Int).toNat : List (S133))).bind fun y191 => (punchcutlaw04_Outline.l1 k1 x4_1 ([] : List (S135)) y186 (y186.length : Int) x16_1 y191 (y191.length : Int) 0 x186000_1)) else (none)) else (none)) = some r := by first | (rw [hji11] at H; exact H) | (simp only [hji11] at H ⊢; exact H)
                have hji11_ : (if 12 < ((rd_L12 y186 x16_1).length : Int) then 12 else ((rd_L12 y186 x16_1).length : Int)) = ji11 := hji11
                obtain ⟨ji12, hji12⟩ : ∃ j_ : Int, (mn (ji11) x4_1) = j_ := ⟨_, rfl⟩
                replace H : (if 0 ≤ (ji12) then (if (ji12) ≤ ((rd_L12 y186 x16_1).length : Int) then ((some ((rd_L12 y186 x16_1).take ((ji12) : Int).toNat : List (S133))).bind fun y191 => (punchcutlaw04_Outline.l1 k1 x4_1 ([] : List (S135)) y186 (y186.length : Int) x16_1 y191 (y191.length : Int) 0 x186000_1)) else (none)) else (none)) = some r := by first | (rw [hji12] at H; exact H) | (simp only [hji12] at H ⊢; exact H)
                have hji12_ : (if x4_1 < (ji11) then x4_1 else (ji11)) = ji12 := hji12
                by_cases c13 : 0 ≤ (ji12)
                · rw [if_pos c13] at H
                  have c13b0 := eq_true c13
                  have c13b1 : decide (0 ≤ (ji12)) = true := decide_eq_true c13
                  clear c13
                  by_cases c14 : (ji12) ≤ ((rd_L12 y186 x16_1).length : Int)
                  · rw [if_pos c14] at H
                    have c14b0 := eq_true c14
                    have c14b1 : decide ((ji12) ≤ ((rd_L12 y186 x16_1).length : Int)) = true := decide_eq_true c14
                    clear c14
                    obtain ⟨y191, hy191⟩ : ∃ y_ : List (S133), y_ = ((rd_L12 y186 x16_1).take ((ji12) : Int).toNat) := ⟨_, rfl⟩
                    replace H : (punchcutlaw04_Outline.l1 k1 x4_1 ([] : List (S135)) y186 (y186.length : Int) x16_1 y191 (y191.length : Int) 0 x186000_1) = some r := by first | (rw [hy191]; with_reducible exact H) | (have H2_ := (Option.bind_some _ _).symm.trans H; rw [hy191]; with_reducible exact H2_) | (have H2_ := (Option.bind_some _ _).symm.trans H; with_reducible exact H2_) | with_reducible exact H | (rw [hy191]; exact H) | exact H
                    have Ny191 := Aside0.mk hy191
                    clear hy191
                    have H' := Aside0.mk H
                    clear H
                    have p190 : 0 ≤ (x16_1 : Int) := of_decide_eq_true (by first | (with_reducible assumption) | assumption)
                    have q190 : x16_1 < (y186.length : Int) := of_decide_eq_true (by first | (with_reducible assumption) | assumption)
                    obtain ⟨ad190, A190_0, c190_0, e190, hx190_0, hl190_0, hi190_0⟩ := at_L12 HR189.out x16_1 p190 q190
                    cases e190
                    replace hx190_0 := (HB.out.cell (World.block_lt_of_cell? w _ hx190_0)).trans hx190_0
                    have HR190_0 := Aside0.mk hi190_0
                    have HC190_0 := Aside0.mk hl190_0
                    clear hi190_0 hl190_0
                    replace p190 := eq_true p190
                    replace q190 := eq_true q190
                    have q15 : ((ji12) : Int) ≤ (((rd_L12 y186 x16_1).length : Int) : Int) := of_decide_eq_true (by first | (with_reducible assumption) | assumption)
                    obtain ⟨i015, hi015, _, hsz15, _⟩ := info_parts info133
                    have hroom15 : (rd_L12 y186 x16_1).length ≤ c190_0 := HC190_0.out
                    have hC15 : Kd.C k133 _ A190_0 (rd_L12 y186 x16_1).length (rd_L12 y186 x16_1) := HR190_0.out
                    have hcut15 := cut_to (P := Try.prog) 92 133 .i64 Try.underlying92 hi015 A190_0 (rd_L12 y186 x16_1).length c190_0 (ji12) (of_decide_eq_true (by first | (with_reducible assumption) | assumption)) q15 hroom15
                    have hr15 := Kd.C_take (m := ((ji12) : Int).toNat) hC15 (by omega)
                    have hy15 : y191.length = ((ji12) : Int).toNat := (by rw [Ny191.out, List.length_take]; omega)
                    rw [← Ny191.out] at hr15
                    rw [← hy15] at hcut15
                    have HR194 := Aside0.mk hr15
                    have HC194 := Aside0.mk (show y191.length ≤ c190_0 from by omega)
                    clear hr15 hC15 hroom15 hi015 hsz15
                    have KY15 := Aside0.mk hy15
                    clear hy15
                    replace q15 := eq_true q15
                    go_wp2
                    go_loopg [7, 27] k1 (fun kq v7 v27 w' => ∃ (x7_2 : List (S135)) (x27_2 : Int), v27 = .int .i64 x27_2 ∧ Aside0 (punchcutlaw04_Outline.l1 kq x4_1 x7_2 y186 (y186.length : Int) x16_1 y191 (y191.length : Int) x27_2 x186000_1 = some r) ∧ Aside0 (kq ≤ k1) ∧ Aside0 (Kd.R k135 135 w' w.heap.size (fun _ => True) v7 x7_2) ∧ Aside0 (Kd.S (Kd.slice 135 k135) 130 w' w.heap.size (fun k_ => some k_ ≠ (v7 : Value).ownBlock) u186000 x186000_1) ∧ Aside0 (w'.heap[gb184]? = some (.cells #[(.slice none 0 0)] 98 (0, 0))) ∧ Aside0 (w'.heap[gb185]? = some (.cells #[u186000] 98 (0, 0))) ∧ Aside0 (Below w.heap.size w w'))
                    case atStart => exact ⟨(([] : List (S135))), (0), (by first | rfl | (simp; done) | (simp [*]; done)), H', ⟨Nat.le_refl _⟩, ⟨by first | exact Kd.R_nil _ _ _ _ _ | exact Kd.N_nil _ _ _ _ _ | exact Kd.V_nil _ _ _ _ _ | exact Kd.Q_nil _ _ _ _ _ | exact Kd.S_nil _ _ _ _ _⟩, ⟨by (with_reducible repeat (first | apply Kd.S_alloc | apply Kd.S_drewN | apply Kd.S_drew)); exact Kd.S_mono HO_186000.out (fun _ hk => (by simp [Value.ownBlock]))⟩, ⟨by (with_reducible repeat (first | refine blk_drewN ?_ _ | refine blk_drew ?_ | refine blk_alloc ?_ _)); exact BK184.out⟩, ⟨by (with_reducible repeat (first | refine blk_drewN ?_ _ | refine blk_drew ?_ | refine blk_alloc ?_ _)); exact BK185.out⟩, ⟨by repeat (first | (with_reducible first | exact HB.out | apply below_alloc | apply pw_below_drewN | apply below_drew1 | refine below_set ?_ GE184.out | refine below_set ?_ GE185.out) | exact HB.out)⟩⟩
                    case round =>
                      clear H'
                      try clear c1
                      try clear p1
                      try clear q1
                      try clear hx1
                      try clear p2
                      try clear c3
                      try clear c3b0
                      try clear c3b1
                      try clear c4
                      try clear c4b0
                      try clear c4b1
                      try clear c5
                      try clear q7
                      try clear c8
                      try clear c8b0
                      try clear c9
                      try clear c9b0
                      try clear c10
                      try clear c10b0
                      try clear c13
                      try clear c13b0
                      try clear c13b1
                      try clear c14
                      try clear c14b0
                      try clear c14b1
                      try clear q15
                      try clear hx190_0
                      try clear p190
                      try clear p2
                      try clear q15
                      try clear q190
                      try clear q7
                      obtain ⟨x7_2, x27_2, rfl, HA, HK2, HO_7, HO_186000, BK184, BK185, HB⟩ := hrel
                      cases gk with
                      | zero => exact absurd HA.out (by simp [punchcutlaw04_Outline.l1])
                      | succ k2 =>
                        have H := HA.out
                        clear HA
                        simp only [punchcutlaw04_Outline.l1] at H
                        by_cases c16 : x27_2 < (y191.length : Int)
                        · rw [if_pos c16] at H
                          have c16b0 : decide (x27_2 < (y191.length : Int)) = true := decide_eq_true c16
                          clear c16
                          by_cases c17 : 0 ≤ x27_2
                          · rw [if_pos c17] at H
                            have c17b0 : decide (0 ≤ x27_2) = true := decide_eq_true c17
                            clear c17
                            by_cases c18 : x27_2 < (y191.length : Int)
                            · rw [if_pos c18] at H
                              have c18b0 : decide (x27_2 < (y191.length : Int)) = true := decide_eq_true c18
                              clear c18
                              by_cases c19 : x7_2.length < 5864062014805
                              · rw [if_pos c19] at H
                                have LMc19 := Aside0.mk c19
                                clear c19
                                obtain ⟨y197, hy197⟩ : ∃ y_ : List (S135), y_ = (x7_2 ++ [(⟨Int.tmod (wrap64 ((rd_T133 y191 x27_2).f0)) 256, Int.tmod (wrap64 ((rd_T133 y191 x27_2).f1)) 256, (rd_T133 y191 x27_2).f2⟩ : S135)]) := ⟨_, rfl⟩
                                replace H : (punchcutlaw04_Outline.l1 k2 x4_1 y197 y186 (y186.length : Int) x16_1 y191 (y191.length : Int) (wrap64 (x27_2 + 1)) x186000_1) = some r := by first | (rw [hy197]; with_reducible exact H) | (have H2_ := (Option.bind_some _ _).symm.trans H; rw [hy197]; with_reducible exact H2_) | (have H2_ := (Option.bind_some _ _).symm.trans H; with_reducible exact H2_) | with_reducible exact H | (rw [hy197]; exact H) | exact H
                                have Ny197 := Aside0.mk hy197
                                clear hy197
                                have H' := Aside0.mk H
                                clear H
                                have p195 : 0 ≤ (x27_2 : Int) := of_decide_eq_true (by first | (with_reducible assumption) | assumption)
                                have q195 : x27_2 < (y191.length : Int) := of_decide_eq_true (by first | (with_reducible assumption) | assumption)
                                obtain ⟨ad195, e195, hx195_0, hx195_1, hx195_2⟩ := at_T133 HR194.out x27_2 p195 q195
                                cases e195
                                replace hx195_0 := (HB.out.cell (World.block_lt_of_cell? w _ hx195_0)).trans hx195_0
                                replace hx195_1 := (HB.out.cell (World.block_lt_of_cell? w _ hx195_1)).trans hx195_1
                                replace hx195_2 := (HB.out.cell (World.block_lt_of_cell? w _ hx195_2)).trans hx195_2
                                replace p195 := eq_true p195
                                replace q195 := eq_true q195
                                go_wp2_with (first | ((with_reducible refine gate_dst (N := 9) rfl ?_); refine box_event ?hg (N := 9) ?hd (cs := #[.int .i16 0, .int .i16 0, .bool false]) (t := 133) ?hr ?_; (case hd => rfl); (case hg => rfl); (case hr => first | (go_simp; done) | (go_simp; rfl)); intro gb196 hg w20 hbox hb; have n0_ := Aside0.mk (Kd.R_below (by (with_reducible repeat (first | apply Kd.R_alloc | apply Kd.R_drewN | apply Kd.R_drew)); exact HO_7.out) hb); have n1_ := Aside0.mk (Kd.S_below (by (with_reducible repeat (first | apply Kd.S_alloc | apply Kd.S_drewN | apply Kd.S_drew)); exact HO_186000.out) hb); have n2_ := Aside0.mk (blk_below (g := gb184) (o := .cells #[.slice none 0 0] 98 (0, 0)) (by (with_reducible repeat (first | refine blk_drewN ?_ _ | refine blk_drew ?_ | refine blk_alloc ?_ _)); exact BK184.out) hb); have n3_ := Aside0.mk (blk_below (g := gb185) (o := .cells #[u186000] 98 (0, 0)) (by (with_reducible repeat (first | refine blk_drewN ?_ _ | refine blk_drew ?_ | refine blk_alloc ?_ _)); exact BK185.out) hb); have n4_ := Aside0.mk (below_step (by repeat (first | (with_reducible first | exact HB.out | apply below_alloc | apply pw_below_drewN | apply below_drew1 | refine below_set ?_ GE184.out | refine below_set ?_ GE185.out) | exact HB.out)) hb); have n5_ := Aside0.mk (hbox); have n6_ := Aside0.mk ((by rw [hg]; exact (below_size (by repeat (first | (with_reducible first | exact HB.out | apply below_alloc | apply pw_below_drewN | apply below_drew1 | refine below_set ?_ GE184.out | refine below_set ?_ GE185.out) | exact HB.out))) : w.heap.size ≤ gb196)); have n7_ := Aside0.mk ((by rw [hg]; exact (below_size (by repeat (first | (with_reducible first | exact HB.out | apply below_alloc | apply pw_below_drewN | apply below_drew1 | refine below_set ?_ GE184.out | refine below_set ?_ GE185.out) | exact HB.out))) : w.heap.size ≤ gb196)); have n8_ := Aside0.mk ((by rw [hg]; exact Nat.ne_of_lt (blk_lt (g := gb184) (o := .cells #[.slice none 0 0] 98 (0, 0)) (by (with_reducible repeat (first | refine blk_drewN ?_ _ | refine blk_drew ?_ | refine blk_alloc ?_ _)); exact BK184.out)) : gb184 ≠ gb196)); have n9_ := Aside0.mk ((by rw [hg]; exact Nat.ne_of_gt (blk_lt (g := gb184) (o := .cells #[.slice none 0 0] 98 (0, 0)) (by (with_reducible repeat (first | refine blk_drewN ?_ _ | refine blk_drew ?_ | refine blk_alloc ?_ _)); exact BK184.out)) : gb196 ≠ gb184)); have n10_ := Aside0.mk ((by rw [hg]; exact Nat.ne_of_lt (blk_lt (g := gb185) (o := .cells #[u186000] 98 (0, 0)) (by (with_reducible repeat (first | refine blk_drewN ?_ _ | refine blk_drew ?_ | refine blk_alloc ?_ _)); exact BK185.out)) : gb185 ≠ gb196)); have n11_ := Aside0.mk ((by rw [hg]; exact Nat.ne_of_gt (blk_lt (g := gb185) (o := .cells #[u186000] 98 (0, 0)) (by (with_reducible repeat (first | refine blk_drewN ?_ _ | refine blk_drew ?_ | refine blk_alloc ?_ _)); exact BK185.out)) : gb196 ≠ gb185)); clear HO_7; clear HO_186000; clear BK184; clear BK185; clear HB; have HO_7 := n0_; have HO_186000 := n1_; have BK184 := n2_; have BK185 := n3_; have HB := n4_; have BK196 := n5_; have GW196 := n6_; have GE196 := n7_; have NB184_196 := n8_; have NB196_184 := n9_; have NB185_196 := n10_; have NB196_185 := n11_; clear n0_ n1_ n2_ n3_ n4_ n5_ n6_ n7_ n8_ n9_ n10_ n11_; clear hb hbox hg; have hnb21 := NB196_184.out; have hnc21 := NB184_196.out; have hnb22 := NB196_185.out; have hnc22 := NB185_196.out; have hcz23_0 : w20.cell? ⟨gb196, 0, none⟩ = some (.int .i16 0) := (blk_cell BK196.out 0).trans rfl; have hcz23_1 : w20.cell? ⟨gb196, 1, none⟩ = some (.int .i16 0) := (blk_cell BK196.out 1).trans rfl; have hcz23_2 : w20.cell? ⟨gb196, 2, none⟩ = some (.bool false) := (blk_cell BK196.out 2).trans rfl; have hfz23_0 := blk_frozen BK196.out 0; have hfz23_1 := blk_frozen BK196.out 1; have hfz23_2 := blk_frozen BK196.out 2) | ((with_reducible refine gate_builtin (b := .append) (xs := #[.tmp 31, .tmp 43]) rfl ?_); at_builtin; refine Kd.R_append k135 (w0 := w) w.heap.size rfl (.tmp 31) (.tmp 43) 130 135 (.agg #[(.int .i64 0), (.int .i64 0), (.bool false)]) 24 rfl Try.underlying130 info135 rfl (by decide) (by omega) u7 x7_2 (⟨Int.tmod (wrap64 ((rd_T133 y191 x27_2).f0)) 256, Int.tmod (wrap64 ((rd_T133 y191 x27_2).f1)) 256, (rd_T133 y191 x27_2).f2⟩ : S135) [.int .i64 (Int.tmod (wrap64 ((rd_T133 y191 x27_2).f0)) 256), .int .i64 (Int.tmod (wrap64 ((rd_T133 y191 x27_2).f1)) 256), .bool ((rd_T133 y191 x27_2).f2)] (fun _ => True) (fun _ => False) rfl (by first | (go_simp; done) | (go_simp; rfl)) ?aP (fun _ hk => hk.elim) ?aF ?aO ?aB ?aS ?aL ?_; (case aP => exact k135_mkM _ _ _ (⟨Int.tmod (wrap64 ((rd_T133 y191 x27_2).f0)) 256, Int.tmod (wrap64 ((rd_T133 y191 x27_2).f1)) 256, (rd_T133 y191 x27_2).f2⟩ : S135)); (case aB => exact (by repeat (first | (with_reducible first | exact HB.out | apply below_alloc | apply pw_below_drewN | apply below_drew1 | refine below_set ?_ GE184.out | refine below_set ?_ GE185.out | refine below_set ?_ GE196.out) | exact HB.out))); (case aF => exact (fun _ _ => trivial)); (case aO => exact (by (with_reducible repeat (first | apply Kd.R_alloc | apply Kd.R_drewN | apply Kd.R_drew)); exact Kd.R_mono (Kd.R_far (p := ⟨gb196, 2, none⟩) (Kd.R_far (p := ⟨gb196, 1, none⟩) (Kd.R_far (p := ⟨gb196, 0, none⟩) (Kd.R_types HO_7.out BK196.out (by decide)) (fun _ hk => hk.2) (.int .i16 ((rd_T133 y191 x27_2).f0))) (fun _ hk => hk.2) (.int .i16 ((rd_T133 y191 x27_2).f1))) (fun _ hk => hk.2) (.bool ((rd_T133 y191 x27_2).f2))) (fun _ hk => trivial))); (case aS => exact (below_size (by repeat (first | (with_reducible first | exact HB.out | apply below_alloc | apply pw_below_drewN | apply below_drew1 | refine below_set ?_ GE184.out | refine below_set ?_ GE185.out | refine below_set ?_ GE196.out) | exact HB.out)))); (case aL => have := LMc19.out; omega); intro v198 w24 ho hb hg hat; rw [← Ny197.out] at ho; have n0_ := Aside0.mk (Kd.S_after (ok := (fun _ => True)) (by (with_reducible repeat (first | apply Kd.S_alloc | apply Kd.S_drewN | apply Kd.S_drew)); exact Kd.S_mono (Kd.S_far (p := ⟨gb196, 2, none⟩) (Kd.S_far (p := ⟨gb196, 1, none⟩) (Kd.S_far (p := ⟨gb196, 0, none⟩) (Kd.S_types HO_186000.out BK196.out (by decide)) (fun _ hk => hk.2) (.int .i16 ((rd_T133 y191 x27_2).f0))) (fun _ hk => hk.2) (.int .i16 ((rd_T133 y191 x27_2).f1))) (fun _ hk => hk.2) (.bool ((rd_T133 y191 x27_2).f2))) (fun _ hk => ⟨trivial, hk.1⟩)) hg hat); have n1_ := Aside0.mk (blk_grown (g := gb184) (o := .cells #[.slice none 0 0] 98 (0, 0)) (by (with_reducible repeat (first | refine blk_drewN ?_ _ | refine blk_drew ?_ | refine blk_alloc ?_ _)); refine blk_far ?_ NB184_196.out _; (with_reducible repeat (first | refine blk_drewN ?_ _ | refine blk_drew ?_ | refine blk_alloc ?_ _)); refine blk_far ?_ NB184_196.out _; (with_reducible repeat (first | refine blk_drewN ?_ _ | refine blk_drew ?_ | refine blk_alloc ?_ _)); refine blk_far ?_ NB184_196.out _; (with_reducible repeat (first | refine blk_drewN ?_ _ | refine blk_drew ?_ | refine blk_alloc ?_ _)); exact BK184.out) hg (Kd.R_ne HO_7.out BK184.out (by decide))); have n2_ := Aside0.mk (blk_grown (g := gb185) (o := .cells #[u186000] 98 (0, 0)) (by (with_reducible repeat (first | refine blk_drewN ?_ _ | refine blk_drew ?_ | refine blk_alloc ?_ _)); refine blk_far ?_ NB185_196.out _; (with_reducible repeat (first | refine blk_drewN ?_ _ | refine blk_drew ?_ | refine blk_alloc ?_ _)); refine blk_far ?_ NB185_196.out _; (with_reducible repeat (first | refine blk_drewN ?_ _ | refine blk_drew ?_ | refine blk_alloc ?_ _)); refine blk_far ?_ NB185_196.out _; (with_reducible repeat (first | refine blk_drewN ?_ _ | refine blk_drew ?_ | refine blk_alloc ?_ _)); exact BK185.out) hg (Kd.R_ne HO_7.out BK185.out (by decide))); have n3_ := Aside0.mk (blk_grown (g := gb196) (o := .cells #[.int .i16 ((rd_T133 y191 x27_2).f0), .int .i16 ((rd_T133 y191 x27_2).f1), .bool ((rd_T133 y191 x27_2).f2)] 133 (0, 0)) (by (with_reducible repeat (first | refine blk_drewN ?_ _ | refine blk_drew ?_ | refine blk_alloc ?_ _)); refine blk_put (cs := #[.int .i16 ((rd_T133 y191 x27_2).f0), .int .i16 ((rd_T133 y191 x27_2).f1), .bool false]) ?_ 2 _ rfl; (with_reducible repeat (first | refine blk_drewN ?_ _ | refine blk_drew ?_ | refine blk_alloc ?_ _)); refine blk_put (cs := #[.int .i16 ((rd_T133 y191 x27_2).f0), .int .i16 0, .bool false]) ?_ 1 _ rfl; (with_reducible repeat (first | refine blk_drewN ?_ _ | refine blk_drew ?_ | refine blk_alloc ?_ _)); refine blk_put (cs := #[.int .i16 0, .int .i16 0, .bool false]) ?_ 0 _ rfl; (with_reducible repeat (first | refine blk_drewN ?_ _ | refine blk_drew ?_ | refine blk_alloc ?_ _)); exact BK196.out) hg (Kd.R_ne HO_7.out BK196.out (by decide))); have n4_ := Aside0.mk (hb); have n5_ := Aside0.mk (ho); clear HO_186000; clear BK184; clear BK185; clear BK196; clear HB; clear HO_7; have HO_186000 := n0_; have BK184 := n1_; have BK185 := n2_; have BK196 := n3_; have HB := n4_; have HO199 := n5_; clear n0_ n1_ n2_ n3_ n4_ n5_; clear ho hb hg hat))
                                go_roundg k2
                                case measure => have := HK1.out; have := HK2.out; omega
                                case rel => exact ⟨(y197), (wrap64 (x27_2 + 1)), (by first | rfl | (simp; done) | (simp [*]; done)), H', ⟨by have := HK1.out; have := HK2.out; omega⟩, ⟨by (with_reducible repeat (first | apply Kd.R_alloc | apply Kd.R_drewN | apply Kd.R_drew)); exact HO199.out⟩, ⟨by (with_reducible repeat (first | apply Kd.S_alloc | apply Kd.S_drewN | apply Kd.S_drew)); exact Kd.S_mono HO_186000.out (fun _ hk => hk.2)⟩, ⟨by (with_reducible repeat (first | refine blk_drewN ?_ _ | refine blk_drew ?_ | refine blk_alloc ?_ _)); exact BK184.out⟩, ⟨by (with_reducible repeat (first | refine blk_drewN ?_ _ | refine blk_drew ?_ | refine blk_alloc ?_ _)); exact BK185.out⟩, ⟨by repeat (first | (with_reducible first | exact HB.out | apply below_alloc | apply pw_below_drewN | apply below_drew1 | refine below_set ?_ GE184.out | refine below_set ?_ GE185.out | refine below_set ?_ GE196.out) | exact HB.out)⟩⟩
                              · rw [if_neg c19] at H
                                exact absurd H (by simp)
                            · rw [if_neg c18] at H
                              exact absurd H (by simp)
                          · rw [if_neg c17] at H
                            exact absurd H (by simp)
                        · rw [if_neg c16] at H
                          have c16b0 : decide (x27_2 < (y191.length : Int)) = false := decide_eq_false c16
                          clear c16
                          by_cases c25 : (x7_2.length : Int) > 0
                          · rw [if_pos c25] at H
                            have c25b0 : decide (0 < (x7_2.length : Int)) = true := decide_eq_true c25
                            have c25b1 : decide (0 < x7_2.length) = true := decide_eq_true (by omega)
                            clear c25
                            by_cases c26 : x186000_1.length < 5864062014805
                            · rw [if_pos c26] at H
                              have LMc26 := Aside0.mk c26
                              clear c26
                              obtain ⟨y200, hy200⟩ : ∃ y_ : List (List (S135)), y_ = (x186000_1 ++ [x7_2]) := ⟨_, rfl⟩
                              replace H : (punchcutlaw04_Outline.l0 k2 (wrap64 (x4_1 - (x7_2.length : Int))) y186 (y186.length : Int) (wrap64 (x16_1 + 1)) y200) = some r := by first | (rw [hy200]; with_reducible exact H) | (have H2_ := (Option.bind_some _ _).symm.trans H; rw [hy200]; with_reducible exact H2_) | (have H2_ := (Option.bind_some _ _).symm.trans H; with_reducible exact H2_) | with_reducible exact H | (rw [hy200]; exact H) | exact H
                              have Ny200 := Aside0.mk hy200
                              clear hy200
                              have H' := Aside0.mk H
                              clear H
                              obtain ⟨Ao27, co27, eo27⟩ := Kd.R_slice HO_7.out
                              subst eo27
                              have hnb28 := NB185_184.out
                              have hnc28 := NB184_185.out
                              have hcz29_0 : wr.cell? ⟨gb185, 0, none⟩ = some (u186000) := (blk_cell BK185.out 0).trans rfl
                              have hfz29_0 := blk_frozen BK185.out 0
                              go_wp2_with (first | ((with_reducible refine gate_builtin (b := .append) (xs := #[.tmp 54, .tmp 56]) rfl ?_); at_builtin; refine Kd.S_append (Kd.slice 135 k135) (w0 := w) w.heap.size rfl (.tmp 54) (.tmp 56) 96 130 (.slice none 0 0) 24 rfl Try.underlying96 info130 rfl (by decide) (by omega) u186000 x186000_1 x7_2 [.slice Ao27 x7_2.length co27] (fun _ => True) (fun k_ => some k_ = (.slice Ao27 x7_2.length co27 : Value).ownBlock) rfl rfl ?aP (fun k_ hk_ => ((Kd.R_mono (ok' := fun k_ => ((fun _ => True)) k_ ∧ some k_ ≠ (u186000 : Value).ownBlock) (Kd.R_apart' (HO_7.out) (Kd.S_typed HO_186000.out) (by decide)) (fun k_ hk => ⟨trivial, hk.2⟩))).1 k_ hk_.symm) ?aF ?aO ?aB ?aS ?aL ?_; (case aP => exact Kd.M_row (Kd.R_mono (Kd.R_tight rfl (Kd.R_mono (ok' := fun k_ => ((fun _ => True)) k_ ∧ some k_ ≠ (u186000 : Value).ownBlock) (Kd.R_apart' (HO_7.out) (Kd.S_typed HO_186000.out) (by decide)) (fun k_ hk => ⟨trivial, hk.2⟩))) (fun _ h_ => h_))); (case aB => exact (by repeat (first | (with_reducible first | exact HB.out | apply below_alloc | apply pw_below_drewN | apply below_drew1 | refine below_set ?_ GE184.out | refine below_set ?_ GE185.out) | exact HB.out))); (case aF => exact (fun _ _ => trivial)); (case aO => exact (by (with_reducible repeat (first | apply Kd.S_alloc | apply Kd.S_drewN | apply Kd.S_drew)); exact Kd.S_mono HO_186000.out (fun k_ hk => ⟨trivial, fun e_ => hk e_⟩))); (case aS => exact (below_size (by repeat (first | (with_reducible first | exact HB.out | apply below_alloc | apply pw_below_drewN | apply below_drew1 | refine below_set ?_ GE184.out | refine below_set ?_ GE185.out) | exact HB.out)))); (case aL => have := LMc26.out; omega); intro v201 w30 ho hb hg hat; rw [← Ny200.out] at ho; have n0_ := Aside0.mk (blk_grown (g := gb184) (o := .cells #[.slice none 0 0] 98 (0, 0)) (by (with_reducible repeat (first | refine blk_drewN ?_ _ | refine blk_drew ?_ | refine blk_alloc ?_ _)); exact BK184.out) hg (Kd.S_ne HO_186000.out BK184.out (by decide))); have n1_ := Aside0.mk (blk_grown (g := gb185) (o := .cells #[u186000] 98 (0, 0)) (by (with_reducible repeat (first | refine blk_drewN ?_ _ | refine blk_drew ?_ | refine blk_alloc ?_ _)); exact BK185.out) hg (Kd.S_ne HO_186000.out BK185.out (by decide))); have n2_ := Aside0.mk (hb); have n3_ := Aside0.mk (ho); clear BK184; clear BK185; clear HB; clear HO_186000; clear HO_7; have BK184 := n0_; have BK185 := n1_; have HB := n2_; have HO202 := n3_; clear n0_ n1_ n2_ n3_; clear ho hb hg hat; obtain ⟨Ao31, co31, eo31⟩ := Kd.S_slice HO202.out; subst eo31; have hcz32_0 : w30.cell? ⟨gb185, 0, none⟩ = some (u186000) := (blk_cell BK185.out 0).trans rfl; have hfz32_0 := blk_frozen BK185.out 0))
                              go_roundg k2
                              case measure => have := HK1.out; have := HK2.out; omega
                              case rel => exact ⟨(wrap64 (x4_1 - (x7_2.length : Int))), (wrap64 (x16_1 + 1)), (y200), (.slice Ao31 y200.length co31), (by first | rfl | (simp; done) | (simp [*]; done)), (by first | rfl | (simp; done) | (simp [*]; done)), H', ⟨by have := HK1.out; have := HK2.out; omega⟩, ⟨by (with_reducible repeat (first | apply Kd.S_alloc | apply Kd.S_drewN | apply Kd.S_drew)); exact Kd.S_mono (Kd.S_far (p := ⟨gb185, 0, none⟩) (Kd.S_types HO202.out BK185.out (by decide)) (fun _ hk => hk.2) (.slice Ao31 y200.length co31)) (fun _ hk => trivial)⟩, ⟨by (with_reducible repeat (first | refine blk_drewN ?_ _ | refine blk_drew ?_ | refine blk_alloc ?_ _)); refine blk_far ?_ NB184_185.out _; (with_reducible repeat (first | refine blk_drewN ?_ _ | refine blk_drew ?_ | refine blk_alloc ?_ _)); exact BK184.out⟩, ⟨by (with_reducible repeat (first | refine blk_drewN ?_ _ | refine blk_drew ?_ | refine blk_alloc ?_ _)); refine blk_put (cs := #[u186000]) ?_ 0 _ rfl; (with_reducible repeat (first | refine blk_drewN ?_ _ | refine blk_drew ?_ | refine blk_alloc ?_ _)); exact BK185.out⟩, ⟨by repeat (first | (with_reducible first | exact HB.out | apply below_alloc | apply pw_below_drewN | apply below_drew1 | refine below_set ?_ GE184.out | refine below_set ?_ GE185.out) | exact HB.out)⟩⟩
                            · rw [if_neg c26] at H
                              exact absurd H (by simp)
                          · rw [if_neg c25] at H
                            have c25b0 : decide (0 < (x7_2.length : Int)) = false := decide_eq_false c25
                            have c25b1 : decide (0 < x7_2.length) = false := decide_eq_false (by omega)
                            clear c25
                            have H' := Aside0.mk H
                            clear H
                            obtain ⟨Ao33, co33, eo33⟩ := Kd.R_slice HO_7.out
                            subst eo33
                            go_wp2
                            go_roundg k2
                            case measure => have := HK1.out; have := HK2.out; omega
                            case rel => exact ⟨(wrap64 (x4_1 - (x7_2.length : Int))), (wrap64 (x16_1 + 1)), (x186000_1), (u186000), (by first | rfl | (simp; done) | (simp [*]; done)), (by first | rfl | (simp; done) | (simp [*]; done)), H', ⟨by have := HK1.out; have := HK2.out; omega⟩, ⟨by (with_reducible repeat (first | apply Kd.S_alloc | apply Kd.S_drewN | apply Kd.S_drew)); exact Kd.S_mono HO_186000.out (fun _ hk => trivial)⟩, ⟨by (with_reducible repeat (first | refine blk_drewN ?_ _ | refine blk_drew ?_ | refine blk_alloc ?_ _)); exact BK184.out⟩, ⟨by (with_reducible repeat (first | refine blk_drewN ?_ _ | refine blk_drew ?_ | refine blk_alloc ?_ _)); exact BK185.out⟩, ⟨by repeat (first | (with_reducible first | exact HB.out | apply below_alloc | apply pw_below_drewN | apply below_drew1 | refine below_set ?_ GE184.out | refine below_set ?_ GE185.out) | exact HB.out)⟩⟩
                  · rw [if_neg c14] at H
                    exact absurd H (by simp)
                · rw [if_neg c13] at H
                  exact absurd H (by simp)
              · rw [if_neg c10] at H
                exact absurd H (by simp)
            · rw [if_neg c9] at H
              exact absurd H (by simp)
          · rw [if_neg c8] at H
            have c8b0 : decide (x16_1 < (y186.length : Int)) = false := decide_eq_false c8
            clear c8
            obtain rfl := Option.some.inj H
            have hnb34 := NB185_184.out
            have hnc34 := NB184_185.out
            have hcz35_0 : wr.cell? ⟨gb185, 0, none⟩ = some (u186000) := (blk_cell BK185.out 0).trans rfl
            have hfz35_0 := blk_frozen BK185.out 0
            obtain ⟨Ao36, co36, eo36⟩ := Kd.S_slice HO_186000.out
            subst eo36
            have hcz37_0 : wr.cell? ⟨gb184, 0, none⟩ = some (.slice none 0 0) := (blk_cell BK184.out 0).trans rfl
            have hfz37_0 := blk_frozen BK184.out 0
            go_wp2
            refine bodyPost_ret (results_cell_row rfl _ _ gb184 98 #[.slice Ao36 x186000_1.length co36] (0, 0) _ rfl (by (with_reducible repeat (first | refine blk_drewN ?_ _ | refine blk_drew ?_ | refine blk_alloc ?_ _)); refine blk_put (cs := #[.slice none 0 0]) ?_ 0 _ rfl; (with_reducible repeat (first | refine blk_drewN ?_ _ | refine blk_drew ?_ | refine blk_alloc ?_ _)); exact BK184.out) Try.underlying98 rfl (by kernel_rfl)) rfl ?_
            exact ⟨_, by first | rfl | (simp [errW_none, errW_some] <;> rfl) | (simp only [← hji2]; first | rfl | (simp [errW_none, errW_some] <;> rfl)) | (simp [*, errW_none, errW_some] <;> rfl), by (with_reducible repeat (first | apply Kd.S_alloc | apply Kd.S_drewN | apply Kd.S_drew)); exact Kd.S_mono (Kd.S_far (p := ⟨gb184, 0, none⟩) (Kd.S_types HO_186000.out BK184.out (by decide)) (fun _ hk => hk.2) (.slice Ao36 x186000_1.length co36)) (fun _ hk => trivial), by repeat (first | (with_reducible first | exact HB.out | apply below_alloc | apply pw_below_drewN | apply below_drew1 | refine below_set ?_ GE184.out | refine below_set ?_ GE185.out) | exact HB.out)⟩
    · rw [if_neg c4] at H
      exact absurd H (by simp)
  · rw [if_neg c3] at H
    exact absurd H (by simp)
end Go.Proofs.Ytlljpjbhndcaiaa.Q
end
section
namespace Go.Proofs.Ytlljpjbhndcaiaa.Q
open Go.RowKit Go.Proofs.YtlljpjbhndcaiaaW.PrintWords Go.Proofs.YtlljpjbhndcaiaaW.PrintLast Go.Proofs.YtlljpjbhndcaiaaW.PrintMore
attribute [local go_sem] max2_int min2_int max_two min_two max_three min_three max_four min_four
set_option linter.unusedVariables false
set_option linter.unusedSimpArgs false
def punchcutlaw06_Glyph.l0 : Nat → List (List (S133)) → List (List (S133)) → Int → Int → Option ((List (S40)))
  | 0, _, _, _, _ => none
  | k + 1, x3, x10, x11, x12 => if x12 < x11 then (if 0 ≤ x12 then (if x12 < (x10.length : Int) then (if 0 ≤ (mn ((rd_L12 x10 x12).length : Int) 6) then (if (mn ((rd_L12 x10 x12).length : Int) 6) ≤ ((rd_L12 x10 x12).length : Int) then (if x3.length < 5864062014805 then (punchcutlaw06_Glyph.l0 k (x3 ++ [((rd_L12 x10 x12).take ((mn ((rd_L12 x10 x12).length : Int) 6) : Int).toNat)]) x10 x11 (wrap64 (x12 + 1))) else (none)) else (none)) else (none)) else (none)) else (none)) else ((punchcutlaw04_Outline.f k x3).bind fun t217 => ((path_All.f k t217).bind fun t220 => ((flat_All.f k t220).bind fun t223 => (some t223))))
def punchcutlaw06_Glyph.f (k : Nat) (l0 : List (List (S133))) : Option ((List (S40))) := if 0 ≤ (mn (l0.length : Int) 3) then (if (mn (l0.length : Int) 3) ≤ (l0.length : Int) then ((some (l0.take ((mn (l0.length : Int) 3) : Int).toNat : List (List (S133)))).bind fun y203 => (punchcutlaw06_Glyph.l0 k ([] : List (List (S133))) y203 (y203.length : Int) 0)) else (none)) else (none)
theorem punchcutlaw06_Glyph.mono_l : ∀ k, (∀ y0 y1 y2 y3, LeO (punchcutlaw06_Glyph.l0 k y0 y1 y2 y3) (punchcutlaw06_Glyph.l0 (k + 1) y0 y1 y2 y3))
  | 0 => fun _ _ _ _ r h => by simp [punchcutlaw06_Glyph.l0] at h
  | k + 1 => by
    have ih0 := punchcutlaw06_Glyph.mono_l k
    · intro y0 y1 y2 y3
      unfold punchcutlaw06_Glyph.l0
      repeat' first
      | (with_reducible exact ih0 _ _ _ _)
      | (with_reducible exact flat_All.mono _ _)
      | (with_reducible exact path_All.mono _ _)
      | (with_reducible exact punchcutlaw04_Outline.mono _ _)
      | (with_reducible exact LeO.refl _)
      | (with_reducible exact LeO.none _)
      | (with_reducible refine LeO.ite ?_ ?_)
      | (with_reducible refine LeO.bind ?_ (fun _ => ?_))
      | exact ih0 _ _ _ _
      | exact flat_All.mono _ _
      | exact path_All.mono _ _
      | exact punchcutlaw04_Outline.mono _ _
      | exact LeO.none _
      | refine LeO.ite ?_ ?_
      | refine LeO.bind ?_ (fun _ => ?_)
theorem punchcutlaw06_Glyph.mono : ∀ a0 k, LeO (punchcutlaw06_Glyph.f k a0) (punchcutlaw06_Glyph.f (k + 1) a0) := by
  intro a0 k
  have ih0 := punchcutlaw06_Glyph.mono_l k
  unfold punchcutlaw06_Glyph.f
  repeat' first
      | (with_reducible exact ih0 _ _ _ _)
      | (with_reducible exact flat_All.mono _ _)
      | (with_reducible exact path_All.mono _ _)
      | (with_reducible exact punchcutlaw04_Outline.mono _ _)
      | (with_reducible exact LeO.refl _)
      | (with_reducible exact LeO.none _)
      | (with_reducible refine LeO.ite ?_ ?_)
      | (with_reducible refine LeO.bind ?_ (fun _ => ?_))
      | exact ih0 _ _ _ _
      | exact flat_All.mono _ _
      | exact path_All.mono _ _
      | exact punchcutlaw04_Outline.mono _ _
      | exact LeO.none _
      | refine LeO.ite ?_ ?_
      | refine LeO.bind ?_ (fun _ => ?_)
set_option maxHeartbeats 8000000 in
set_option maxRecDepth 100000 in
theorem punchcutlaw06_Glyph.calls (k : Nat) (P0_ : Nat → Prop) (A0 : Option Addr) (c0 : Nat) (l0 : List (List (S133))) (r : List (S40)) (w : World) (hs0 : Kd.V (Kd.slice 133 k133) 92 w w.heap.size (fun k_ => P0_ k_) (.slice A0 l0.length c0) l0) (h : punchcutlaw06_Glyph.f k l0 = some r) :
    Calls Try.prog 19 #[.slice A0 l0.length c0] w fun e w' => ∃ v0_ : Value, e = .returned (v0_) ∧ Kd.R k40 40 w' w.heap.size (fun k_ => (w.heap.size ≤ k_)) v0_ r ∧ Below w.heap.size w w' := by
  have HO0 := Aside0.mk (show Kd.V (Kd.slice 133 k133) 92 w w.heap.size (fun k_ => (P0_ k_ ∨ w.heap.size ≤ k_)) (.slice A0 l0.length c0) l0 from Kd.V_mono hs0 (fun k_ hk => .inl hk))
  have HB := Aside0.mk (Below.refl w.heap.size w)
  have H : (if 0 ≤ (mn (l0.length : Int) 3) then (if (mn (l0.length : Int) 3) ≤ (l0.length : Int) then ((some (l0.take ((mn (l0.length : Int) 3) : Int).toNat : List (List (S133)))).bind fun y203 => (punchcutlaw06_Glyph.l0 k ([] : List (List (S133))) y203 (y203.length : Int) 0)) else (none)) else (none)) = some r := h
  clear h
  obtain ⟨ji2, hji2⟩ : ∃ j_ : Int, (mn (l0.length : Int) 3) = j_ := ⟨_, rfl⟩
  replace H : (if 0 ≤ (ji2) then (if (ji2) ≤ (l0.length : Int) then ((some (l0.take ((ji2) : Int).toNat : List (List (S133)))).bind fun y203 => (punchcutlaw06_Glyph.l0 k ([] : List (List (S133))) y203 (y203.length : Int) 0)) else (none)) else (none)) = some r := by first | (rw [hji2] at H; exact H) | (simp only [hji2] at H ⊢; exact H)
  (try (have hji2h : ji2 ≤ 3 := by (rw [← hji2]; unfold mn; (repeat' split) <;> omega)))
  (try (have hji2g : ji2 ≤ 64 := by omega))
  (try (have hji2l : 0 ≤ ji2 := by (rw [← hji2]; unfold mn; (repeat' split) <;> omega)))
  (try (have hji2m : 0 ≤ ji2 := by omega))
  have hji2_ : (if 3 < (l0.length : Int) then 3 else (l0.length : Int)) = ji2 := hji2
  by_cases c3 : 0 ≤ (ji2)
  · rw [if_pos c3] at H
    have c3b0 := eq_true c3
    have c3b1 : decide (0 ≤ (ji2)) = true := decide_eq_true c3
    clear c3
    by_cases c4 : (ji2) ≤ (l0.length : Int)
    · rw [if_pos c4] at H
      have c4b0 := eq_true c4
      have c4b1 : decide ((ji2) ≤ (l0.length : Int)) = true := decide_eq_true c4
      clear c4
      obtain ⟨y203, hy203⟩ : ∃ y_ : List (List (S133)), y_ = (l0.take ((ji2) : Int).toNat) := ⟨_, rfl⟩
      replace H : (punchcutlaw06_Glyph.l0 k ([] : List (List (S133))) y203 (y203.length : Int) 0) = some r := by first | (rw [hy203]; with_reducible exact H) | (have H2_ := (Option.bind_some _ _).symm.trans H; rw [hy203]; with_reducible exact H2_) | (have H2_ := (Option.bind_some _ _).symm.trans H; with_reducible exact H2_) | with_reducible exact H | (rw [hy203]; exact H) | exact H
      have Ny203 := Aside0.mk hy203
      clear hy203
      have H' := Aside0.mk H
      clear H
      have q5 : ((ji2) : Int) ≤ ((l0.length : Int) : Int) := of_decide_eq_true (by first | (with_reducible assumption) | assumption)
      obtain ⟨i05, hi05, _, hsz5, _⟩ := info_parts info92
      have hroom5 : l0.length ≤ c0 := (Kd.V_reads' HO0.out).2.1
      have hC5 : Kd.F (Kd.slice 133 k133) _ _ A0 l0.length l0 := (Kd.V_at (base := w.heap.size) HO0.out).2.2
      have hcut5 := cut_to (P := Try.prog) 22 92 .i64 Try.underlying22 hi05 A0 l0.length c0 (ji2) (of_decide_eq_true (by first | (with_reducible assumption) | assumption)) q5 hroom5
      have hr5 := Kd.F_take (m := ((ji2) : Int).toNat) hC5 (by omega)
      have hy5 : y203.length = ((ji2) : Int).toNat := (by rw [Ny203.out, List.length_take]; omega)
      rw [← Ny203.out] at hr5
      rw [← hy5] at hcut5
      have HO207 := Aside0.mk (show Kd.V (Kd.slice 133 k133) 92 _ w.heap.size _ (.slice A0 y203.length c0) y203 from Kd.V_mk (by omega) hr5)
      have HC207 := Aside0.mk (show y203.length ≤ c0 from by omega)
      clear hr5 hC5 hroom5 hi05 hsz5
      have KY5 := Aside0.mk hy5
      clear hy5
      replace q5 := eq_true q5
      go_enter Try.func19, Try.ntmps19
      go_wp2
      go_loopg [3, 12] k (fun kq v3 v12 w' => ∃ (x3_1 : List (List (S133))) (x12_1 : Int), v12 = .int .i64 x12_1 ∧ Aside0 (punchcutlaw06_Glyph.l0 kq x3_1 y203 (y203.length : Int) x12_1 = some r) ∧ Aside0 (kq ≤ k) ∧ Aside0 (Kd.N (Kd.slice 133 k133) 92 w' w.heap.size (fun k_ => (P0_ k_ ∨ w.heap.size ≤ k_)) v3 x3_1) ∧ Aside0 (Kd.V (Kd.slice 133 k133) 92 w' w.heap.size (fun k_ => (P0_ k_ ∨ w.heap.size ≤ k_) ∧ some k_ ≠ (v3 : Value).ownBlock) (.slice A0 y203.length c0) y203) ∧ Aside0 (Below w.heap.size w w'))
      case atStart => exact ⟨(([] : List (List (S133)))), (0), (by first | rfl | (simp; done) | (simp [*]; done)), H', ⟨Nat.le_refl _⟩, ⟨by first | exact Kd.S_nil _ _ _ _ _ | exact Kd.N_nil _ _ _ _ _ | exact Kd.V_nil _ _ _ _ _ | exact Kd.Q_nil _ _ _ _ _ | exact Kd.R_nil _ _ _ _ _⟩, ⟨by (with_reducible repeat (first | apply Kd.V_alloc | apply Kd.V_drewN | apply Kd.V_drew)); exact Kd.V_mono HO207.out (fun _ hk => ⟨hk, (by simp [Value.ownBlock])⟩)⟩, ⟨by repeat (first | (with_reducible first | exact HB.out | apply below_alloc | apply pw_below_drewN | apply below_drew1) | exact HB.out)⟩⟩
      case round =>
        clear H'
        try clear c1
        try clear p2
        try clear c3
        try clear c3b0
        try clear c3b1
        try clear c4
        try clear c4b0
        try clear c4b1
        try clear q5
        try clear q5
        obtain ⟨x3_1, x12_1, rfl, HA, HK1, HO_3, HO_10, HB⟩ := hrel
        cases gk with
        | zero => exact absurd HA.out (by simp [punchcutlaw06_Glyph.l0])
        | succ k1 =>
          have H := HA.out
          clear HA
          simp only [punchcutlaw06_Glyph.l0] at H
          by_cases c6 : x12_1 < (y203.length : Int)
          · rw [if_pos c6] at H
            have c6b0 : decide (x12_1 < (y203.length : Int)) = true := decide_eq_true c6
            clear c6
            by_cases c7 : 0 ≤ x12_1
            · rw [if_pos c7] at H
              have c7b0 : decide (0 ≤ x12_1) = true := decide_eq_true c7
              clear c7
              by_cases c8 : x12_1 < (y203.length : Int)
              · rw [if_pos c8] at H
                have c8b0 : decide (x12_1 < (y203.length : Int)) = true := decide_eq_true c8
                clear c8
                obtain ⟨ji9, hji9⟩ : ∃ j_ : Int, (mn ((rd_L12 y203 x12_1).length : Int) 6) = j_ := ⟨_, rfl⟩
                replace H : (if 0 ≤ (ji9) then (if (ji9) ≤ ((rd_L12 y203 x12_1).length : Int) then (if x3_1.length < 5864062014805 then (punchcutlaw06_Glyph.l0 k1 (x3_1 ++ [((rd_L12 y203 x12_1).take ((ji9) : Int).toNat)]) y203 (y203.length : Int) (wrap64 (x12_1 + 1))) else (none)) else (none)) else (none)) = some r := by first | (rw [hji9] at H; exact H) | (simp only [hji9] at H ⊢; exact H)
                have hji9_ : (if 6 < ((rd_L12 y203 x12_1).length : Int) then 6 else ((rd_L12 y203 x12_1).length : Int)) = ji9 := hji9
                by_cases c10 : 0 ≤ (ji9)
                · rw [if_pos c10] at H
                  have c10b0 := eq_true c10
                  have c10b1 : decide (0 ≤ (ji9)) = true := decide_eq_true c10
                  clear c10
                  by_cases c11 : (ji9) ≤ ((rd_L12 y203 x12_1).length : Int)
                  · rw [if_pos c11] at H
                    have c11b0 := eq_true c11
                    have c11b1 : decide ((ji9) ≤ ((rd_L12 y203 x12_1).length : Int)) = true := decide_eq_true c11
                    clear c11
                    obtain ⟨y209, hy209⟩ : ∃ y_ : List (S133), y_ = ((rd_L12 y203 x12_1).take ((ji9) : Int).toNat) := ⟨_, rfl⟩
                    replace H : (if x3_1.length < 5864062014805 then (punchcutlaw06_Glyph.l0 k1 (x3_1 ++ [y209]) y203 (y203.length : Int) (wrap64 (x12_1 + 1))) else (none)) = some r := by first | (rw [hy209]; with_reducible exact H) | (have H2_ := (Option.bind_some _ _).symm.trans H; rw [hy209]; with_reducible exact H2_) | (have H2_ := (Option.bind_some _ _).symm.trans H; with_reducible exact H2_) | with_reducible exact H | (rw [hy209]; exact H) | exact H
                    have Ny209 := Aside0.mk hy209
                    clear hy209
                    by_cases c12 : x3_1.length < 5864062014805
                    · rw [if_pos c12] at H
                      have LMc12 := Aside0.mk c12
                      clear c12
                      obtain ⟨y214, hy214⟩ : ∃ y_ : List (List (S133)), y_ = (x3_1 ++ [y209]) := ⟨_, rfl⟩
                      replace H : (punchcutlaw06_Glyph.l0 k1 y214 y203 (y203.length : Int) (wrap64 (x12_1 + 1))) = some r := by first | (rw [hy214]; with_reducible exact H) | (have H2_ := (Option.bind_some _ _).symm.trans H; rw [hy214]; with_reducible exact H2_) | (have H2_ := (Option.bind_some _ _).symm.trans H; with_reducible exact H2_) | with_reducible exact H | (rw [hy214]; exact H) | exact H
                      have Ny214 := Aside0.mk hy214
                      clear hy214
                      have H' := Aside0.mk H
                      clear H
                      have p208 : 0 ≤ (x12_1 : Int) := of_decide_eq_true (by first | (with_reducible assumption) | assumption)
                      have q208 : x12_1 < (y203.length : Int) := of_decide_eq_true (by first | (with_reducible assumption) | assumption)
                      obtain ⟨ad208, A208_0, c208_0, e208, hx208_0, hl208_0, hi208_0⟩ := at_L12 (Kd.V_reads' HO_10.out).2.2 x12_1 p208 q208
                      cases e208
                      obtain ⟨ce208, hce208, hMe208, hcc208⟩ := Kd.V_get HO_10.out [] x12_1 p208 (by first | exact q208 | exact of_decide_eq_true (by first | (with_reducible assumption) | assumption) | (have e_ := (Kd.V_reads' HO_10.out).1; omega))
                      obtain ⟨ua208_0, uc208_0, rfl, ul208_0, ge208_0⟩ := Kd.FK_slice_open hMe208
                      have hv208_0 := hcc208 0 _ rfl
                      rw [Nat.add_zero, show ((Kd.slice 133 k133)).sz = 1 from rfl, Nat.mul_one] at hv208_0
                      replace hv208_0 := Option.some.inj (hv208_0.symm.trans hx208_0)
                      injection hv208_0 with hva_ hvn_ hvc_
                      rw [hva_] at ge208_0
                      rw [hvc_] at ul208_0
                      have HL208_0 := Aside0.mk (show Kd.V k133 133 _ w.heap.size _ _ (rd_L12 y203 x12_1) from Kd.V_mk ul208_0 ge208_0)
                      clear hva_ hvn_ hvc_ ge208_0 ul208_0
                      clear hcc208 hce208
                      have HR208_0 := Aside0.mk hi208_0
                      have HC208_0 := Aside0.mk hl208_0
                      clear hi208_0 hl208_0
                      replace p208 := eq_true p208
                      replace q208 := eq_true q208
                      have q13 : ((ji9) : Int) ≤ (((rd_L12 y203 x12_1).length : Int) : Int) := of_decide_eq_true (by first | (with_reducible assumption) | assumption)
                      obtain ⟨i013, hi013, _, hsz13, _⟩ := info_parts info133
                      have hroom13 : (rd_L12 y203 x12_1).length ≤ c208_0 := HC208_0.out
                      have hC13 : Kd.F k133 _ _ A208_0 (rd_L12 y203 x12_1).length (rd_L12 y203 x12_1) := (Kd.V_at (base := w.heap.size) HL208_0.out).2.2
                      have hcut13 := cut_to (P := Try.prog) 92 133 .i64 Try.underlying92 hi013 A208_0 (rd_L12 y203 x12_1).length c208_0 (ji9) (of_decide_eq_true (by first | (with_reducible assumption) | assumption)) q13 hroom13
                      have hr13 := Kd.F_take (m := ((ji9) : Int).toNat) hC13 (by omega)
                      have hy13 : y209.length = ((ji9) : Int).toNat := (by rw [Ny209.out, List.length_take]; omega)
                      rw [← Ny209.out] at hr13
                      rw [← hy13] at hcut13
                      have HO213 := Aside0.mk (show Kd.V k133 133 _ w.heap.size _ (.slice A208_0 y209.length c208_0) y209 from Kd.V_mk (by omega) hr13)
                      have HC213 := Aside0.mk (show y209.length ≤ c208_0 from by omega)
                      clear hr13 hC13 hroom13 hi013 hsz13
                      have KY13 := Aside0.mk hy13
                      clear hy13
                      replace q13 := eq_true q13
                      go_wp2_with (first | ((with_reducible refine gate_builtin (b := .append) (xs := #[.tmp 16, .tmp 22]) rfl ?_); at_builtin; refine Kd.N_append (Kd.slice 133 k133) (w0 := w) w.heap.size rfl (.tmp 16) (.tmp 22) 22 92 (.slice none 0 0) 24 rfl Try.underlying22 info92 rfl (by decide) (by omega) u3 x3_1 y209 [.slice A208_0 y209.length c208_0] (fun k_ => (P0_ k_ ∨ w.heap.size ≤ k_)) (fun k_ => ((fun k_ => (P0_ k_ ∨ w.heap.size ≤ k_))) k_ ∧ some k_ ≠ (u3 : Value).ownBlock) rfl rfl ?aP (fun _ hk => hk) ?aF ?aO ?aB ?aS ?aL ?_; (case aP => exact (Kd.FK_slice_mk (Kd.V_reads' (Kd.V_mono (ok' := (fun k_ => ((fun k_ => (P0_ k_ ∨ w.heap.size ≤ k_))) k_ ∧ some k_ ≠ (u3 : Value).ownBlock)) (HO213.out) (fun k_ hk => ⟨hk.1, hk.2⟩))).2.1 (Kd.V_F (Kd.V_mono (ok' := (fun k_ => ((fun k_ => (P0_ k_ ∨ w.heap.size ≤ k_))) k_ ∧ some k_ ≠ (u3 : Value).ownBlock)) (HO213.out) (fun k_ hk => ⟨hk.1, hk.2⟩))))); (case aB => exact (by repeat (first | (with_reducible first | exact HB.out | apply below_alloc | apply pw_below_drewN | apply below_drew1) | exact HB.out))); (case aF => exact (fun k_ hk => (.inr (Nat.le_trans (below_size (by repeat (first | (with_reducible first | exact HB.out | apply below_alloc | apply pw_below_drewN | apply below_drew1) | exact HB.out))) hk)))); (case aO => exact (by (with_reducible repeat (first | apply Kd.N_alloc | apply Kd.N_drewN | apply Kd.N_drew)); exact HO_3.out)); (case aS => exact (below_size (by repeat (first | (with_reducible first | exact HB.out | apply below_alloc | apply pw_below_drewN | apply below_drew1) | exact HB.out)))); (case aL => have := LMc12.out; omega); intro v215 w14 ho hb hg hat; rw [← Ny214.out] at ho; have n0_ := Aside0.mk (Kd.V_afterv (ok := (fun k_ => (P0_ k_ ∨ w.heap.size ≤ k_))) (by (with_reducible repeat (first | apply Kd.V_alloc | apply Kd.V_drewN | apply Kd.V_drew)); exact HO_10.out) hg hat); have n1_ := Aside0.mk (Kd.V_afterv (ok := (fun k_ => (P0_ k_ ∨ w.heap.size ≤ k_))) (by (with_reducible repeat (first | apply Kd.V_alloc | apply Kd.V_drewN | apply Kd.V_drew)); exact HL208_0.out) hg hat); have n2_ := Aside0.mk (Kd.V_afterv (ok := (fun k_ => (P0_ k_ ∨ w.heap.size ≤ k_))) (by (with_reducible repeat (first | apply Kd.V_alloc | apply Kd.V_drewN | apply Kd.V_drew)); exact HO213.out) hg hat); have n3_ := Aside0.mk (hb); have n4_ := Aside0.mk (ho); clear HO_10; clear HL208_0; clear HO213; clear HB; clear HO_3; have HO_10 := n0_; have HL208_0 := n1_; have HO213 := n2_; have HB := n3_; have HO216 := n4_; clear n0_ n1_ n2_ n3_ n4_; clear ho hb hg hat))
                      go_roundg k1
                      case measure => have := HK1.out; omega
                      case rel => exact ⟨(y214), (wrap64 (x12_1 + 1)), (by first | rfl | (simp; done) | (simp [*]; done)), H', ⟨by have := HK1.out; omega⟩, ⟨by (with_reducible repeat (first | apply Kd.N_alloc | apply Kd.N_drewN | apply Kd.N_drew)); exact HO216.out⟩, ⟨by (with_reducible repeat (first | apply Kd.V_alloc | apply Kd.V_drewN | apply Kd.V_drew)); exact HO_10.out⟩, ⟨by repeat (first | (with_reducible first | exact HB.out | apply below_alloc | apply pw_below_drewN | apply below_drew1) | exact HB.out)⟩⟩
                    · rw [if_neg c12] at H
                      exact absurd H (by simp)
                  · rw [if_neg c11] at H
                    exact absurd H (by simp)
                · rw [if_neg c10] at H
                  exact absurd H (by simp)
              · rw [if_neg c8] at H
                exact absurd H (by simp)
            · rw [if_neg c7] at H
              exact absurd H (by simp)
          · rw [if_neg c6] at H
            have c6b0 : decide (x12_1 < (y203.length : Int)) = false := decide_eq_false c6
            clear c6
            replace H := Option.bind_eq_some_iff.mp H
            obtain ⟨t217, A150, H⟩ := H
            replace H : ((path_All.f k1 t217).bind fun t220 => ((flat_All.f k1 t220).bind fun t223 => (some t223))) = some r := H
            have A15 := Aside0.mk A150
            clear A150
            replace H := Option.bind_eq_some_iff.mp H
            obtain ⟨t220, A160, H⟩ := H
            replace H : ((flat_All.f k1 t220).bind fun t223 => (some t223)) = some r := H
            have A16 := Aside0.mk A160
            clear A160
            replace H := Option.bind_eq_some_iff.mp H
            obtain ⟨t223, A170, H⟩ := H
            replace H : (some t223) = some r := H
            have A17 := Aside0.mk A170
            clear A170
            obtain rfl := Option.some.inj H
            obtain ⟨Ao18, co18, eo18⟩ := Kd.N_slice HO_3.out
            subst eo18
            go_wp2_with (first | ((with_reducible refine gate_callee (f := 57) rfl ?_); refine goesL_ (some 26) rfl rfl Try.func57 (by kernel_rfl) rfl #[.slice Ao18 x3_1.length co18] rfl (by (try simp only [List.map_toArray, List.map_cons, List.map_nil]); first | done | rfl | (simp only [List.length_drop, List.length_take]; rfl)) ?_; (with_reducible refine (punchcutlaw04_Outline.calls k1 _ _ x3_1 t217 _ ?side1 ?side2 A15.out).mono ?_); (case side1 => repeat (first | exact (Kd.N_reads' HO_3.out).2.2 | (with_reducible refine Kd.C_alloc ?_ _) | (with_reducible refine Kd.C_drewN ?_ _) | (with_reducible refine Kd.C_drew ?_))); (case side2 => exact (Kd.N_reads' HO_3.out).2.1); rintro e w19 ⟨v218, rfl, ho0, hb⟩; refine ⟨_, rfl, ?_⟩; have n0_ := Aside0.mk (Kd.N_elder' (by (with_reducible repeat (first | apply Kd.N_alloc | apply Kd.N_drewN | apply Kd.N_drew)); exact HO_3.out) (Kd.S_base ho0) hb); have n1_ := Aside0.mk (Kd.V_elder' (by (with_reducible repeat (first | apply Kd.V_alloc | apply Kd.V_drewN | apply Kd.V_drew)); exact HO_10.out) (Kd.S_base ho0) hb); have n2_ := Aside0.mk (Kd.N_lower (Kd.N_mono (ok' := fun k_ => (P0_ k_ ∨ w.heap.size ≤ k_) ∧ some k_ ≠ (.slice Ao18 x3_1.length co18 : Value).ownBlock) (Kd.S_N (Kd.S_bound ho0)) (fun k_ hk_ => ⟨(.inr (Nat.le_trans (below_size (by repeat (first | (with_reducible first | exact HB.out | apply below_alloc | apply pw_below_drewN | apply below_drew1) | exact HB.out))) hk_.2.1)), (Kd.fresh' (Kd.N_lt (by (with_reducible repeat (first | apply Kd.N_alloc | apply Kd.N_drewN | apply Kd.N_drew)); exact HO_3.out)) k_ hk_.2.1)⟩)) (below_size (by repeat (first | (with_reducible first | exact HB.out | apply below_alloc | apply pw_below_drewN | apply below_drew1) | exact HB.out)))); have n3_ := Aside0.mk (below_step (by repeat (first | (with_reducible first | exact HB.out | apply below_alloc | apply pw_below_drewN | apply below_drew1) | exact HB.out)) hb); clear HO_3; clear HO_10; clear HB; have HO_3 := n0_; have HO_10 := n1_; have HO219 := n2_; have HB := n3_; clear n0_ n1_ n2_ n3_; (try clear hb); (try clear hb2); (try clear hk); (try clear hi); (try clear ho0); obtain ⟨Ao20, co20, eo20⟩ := Kd.N_slice HO219.out; subst eo20) | ((with_reducible refine gate_callee (f := 56) rfl ?_); refine goesL_ (some 27) rfl rfl Try.func56 (by kernel_rfl) rfl #[.agg #[.slice Ao20 t217.length co20]] rfl (by (try simp only [List.map_toArray, List.map_cons, List.map_nil]); first | done | rfl | (simp only [List.length_drop, List.length_take]; rfl)) ?_; (with_reducible refine (path_All.calls k1 _ _ t217 t220 _ ?side1 ?side2 A16.out).mono ?_); (case side1 => repeat (first | exact (Kd.N_reads' HO219.out).2.2 | (with_reducible refine Kd.C_alloc ?_ _) | (with_reducible refine Kd.C_drewN ?_ _) | (with_reducible refine Kd.C_drew ?_))); (case side2 => exact (Kd.N_reads' HO219.out).2.1); rintro e w21 ⟨v221, rfl, ho0, hb⟩; refine ⟨_, rfl, ?_⟩; have n0_ := Aside0.mk (Kd.N_elder' (by (with_reducible repeat (first | apply Kd.N_alloc | apply Kd.N_drewN | apply Kd.N_drew)); exact HO_3.out) (Kd.S_base ho0) hb); have n1_ := Aside0.mk (Kd.V_elder' (by (with_reducible repeat (first | apply Kd.V_alloc | apply Kd.V_drewN | apply Kd.V_drew)); exact HO_10.out) (Kd.S_base ho0) hb); have n2_ := Aside0.mk (Kd.N_elder' (by (with_reducible repeat (first | apply Kd.N_alloc | apply Kd.N_drewN | apply Kd.N_drew)); exact HO219.out) (Kd.S_base ho0) hb); have n3_ := Aside0.mk (Kd.N_lower (Kd.N_mono (ok' := fun k_ => (P0_ k_ ∨ w.heap.size ≤ k_) ∧ some k_ ≠ (.slice Ao18 x3_1.length co18 : Value).ownBlock ∧ some k_ ≠ (.slice Ao20 t217.length co20 : Value).ownBlock) (Kd.S_N (Kd.S_bound ho0)) (fun k_ hk_ => ⟨(.inr (Nat.le_trans (below_size (by repeat (first | (with_reducible first | exact HB.out | apply below_alloc | apply pw_below_drewN | apply below_drew1) | exact HB.out))) hk_.2.1)), (Kd.fresh' (Kd.N_lt (by (with_reducible repeat (first | apply Kd.N_alloc | apply Kd.N_drewN | apply Kd.N_drew)); exact HO_3.out)) k_ hk_.2.1), (Kd.fresh' (Kd.N_lt (by (with_reducible repeat (first | apply Kd.N_alloc | apply Kd.N_drewN | apply Kd.N_drew)); exact HO219.out)) k_ hk_.2.1)⟩)) (below_size (by repeat (first | (with_reducible first | exact HB.out | apply below_alloc | apply pw_below_drewN | apply below_drew1) | exact HB.out)))); have n4_ := Aside0.mk (below_step (by repeat (first | (with_reducible first | exact HB.out | apply below_alloc | apply pw_below_drewN | apply below_drew1) | exact HB.out)) hb); clear HO_3; clear HO_10; clear HO219; clear HB; have HO_3 := n0_; have HO_10 := n1_; have HO219 := n2_; have HO222 := n3_; have HB := n4_; clear n0_ n1_ n2_ n3_ n4_; (try clear hb); (try clear hb2); (try clear hk); (try clear hi); (try clear ho0); obtain ⟨Ao22, co22, eo22⟩ := Kd.N_slice HO222.out; subst eo22) | ((with_reducible refine gate_callee (f := 55) rfl ?_); refine goesL_ (some 28) rfl rfl Try.func55 (by kernel_rfl) rfl #[.slice Ao22 t220.length co22] rfl (by (try simp only [List.map_toArray, List.map_cons, List.map_nil]); first | done | rfl | (simp only [List.length_drop, List.length_take]; rfl)) ?_; (with_reducible refine (flat_All.calls k1 _ _ t220 t223 _ ?side1 ?side2 A17.out).mono ?_); (case side1 => repeat (first | exact (Kd.N_reads' HO222.out).2.2 | (with_reducible refine Kd.C_alloc ?_ _) | (with_reducible refine Kd.C_drewN ?_ _) | (with_reducible refine Kd.C_drew ?_))); (case side2 => exact (Kd.N_reads' HO222.out).2.1); rintro e w23 ⟨v224, rfl, ho0, hb⟩; refine ⟨_, rfl, ?_⟩; have n0_ := Aside0.mk (Kd.N_elder' (by (with_reducible repeat (first | apply Kd.N_alloc | apply Kd.N_drewN | apply Kd.N_drew)); exact HO_3.out) (Kd.R_base ho0) hb); have n1_ := Aside0.mk (Kd.V_elder' (by (with_reducible repeat (first | apply Kd.V_alloc | apply Kd.V_drewN | apply Kd.V_drew)); exact HO_10.out) (Kd.R_base ho0) hb); have n2_ := Aside0.mk (Kd.N_elder' (by (with_reducible repeat (first | apply Kd.N_alloc | apply Kd.N_drewN | apply Kd.N_drew)); exact HO219.out) (Kd.R_base ho0) hb); have n3_ := Aside0.mk (Kd.N_elder' (by (with_reducible repeat (first | apply Kd.N_alloc | apply Kd.N_drewN | apply Kd.N_drew)); exact HO222.out) (Kd.R_base ho0) hb); have n4_ := Aside0.mk (Kd.R_lower (Kd.R_newM (M := fun k_ => (w.heap.size ≤ k_)) ho0 (below_size (by repeat (first | (with_reducible first | exact HB.out | apply below_alloc | apply pw_below_drewN | apply below_drew1) | exact HB.out))) (fun k_ h_ => h_)) (below_size (by repeat (first | (with_reducible first | exact HB.out | apply below_alloc | apply pw_below_drewN | apply below_drew1) | exact HB.out)))); have n5_ := Aside0.mk (below_step (by repeat (first | (with_reducible first | exact HB.out | apply below_alloc | apply pw_below_drewN | apply below_drew1) | exact HB.out)) hb); clear HO_3; clear HO_10; clear HO219; clear HO222; clear HB; have HO_3 := n0_; have HO_10 := n1_; have HO219 := n2_; have HO222 := n3_; have HO225 := n4_; have HB := n5_; clear n0_ n1_ n2_ n3_ n4_ n5_; (try clear hb); (try clear hb2); (try clear hk); (try clear hi); (try clear ho0)))
            go_ret
            exact ⟨_, by first | rfl | (simp [errW_none, errW_some] <;> rfl) | (simp only [← hji2]; first | rfl | (simp [errW_none, errW_some] <;> rfl)) | (simp [*, errW_none, errW_some] <;> rfl), by (with_reducible repeat (first | apply Kd.R_alloc | apply Kd.R_drewN | apply Kd.R_drew)); exact Kd.R_mono HO225.out (fun _ hk => hk.1), by repeat (first | (with_reducible first | exact HB.out | apply below_alloc | apply pw_below_drewN | apply below_drew1) | exact HB.out)⟩
    · rw [if_neg c4] at H
      exact absurd H (by simp)
  · rw [if_neg c3] at H
    exact absurd H (by simp)
end Go.Proofs.Ytlljpjbhndcaiaa.Q
end
section
namespace Go.Proofs.Ytlljpjbhndcaiaa.Q
open Go.RowKit Go.Proofs.YtlljpjbhndcaiaaW.PrintWords Go.Proofs.YtlljpjbhndcaiaaW.PrintLast Go.Proofs.YtlljpjbhndcaiaaW.PrintMore
attribute [local go_sem] max2_int min2_int max_two min_two max_three min_three max_four min_four
set_option linter.unusedVariables false
set_option linter.unusedSimpArgs false
theorem glyph_at (k : Nat) (A0 : Option Addr) (c0 : Nat) (l0 : List (List S133)) (es : List S40) (w W : World) (hr0 : Kd.C (Kd.slice 133 k133) w A0 l0.length l0) (hc0 : l0.length ≤ c0) (hB : Below w.heap.size w W) (h : punchcutlaw06_Glyph.f k l0 = some es) :
    Calls Try.prog 19 #[.slice A0 l0.length c0] W fun e w' => ∃ A c, e = .returned (.slice A es.length c) ∧ Kd.R k40 40 w' w.heap.size (fun _ => True) (.slice A es.length c) es ∧ Below W.heap.size W w' := by
  refine (punchcutlaw06_Glyph.calls k (fun q => q < w.heap.size) _ _ l0 es _ (Kd.V_mk hc0 (Kd.F_below (Kd.C_F (Kd.heap_slice 133 k133_heap) hr0) hB)) h).mono ?_
  rintro e w' ⟨v, rfl, ho, hb⟩
  obtain ⟨A, c, rfl⟩ := Kd.R_slice ho
  exact ⟨A, c, rfl, Kd.R_lower (Kd.R_mono ho (fun _ _ => trivial)) hB.size, hb⟩
theorem rC {w : World} {b n c : Nat} {A : Option Addr} {ok : Nat → Prop} {es : List S40} (h : Kd.R k40 40 w b ok (.slice A n c) es) : Kd.C k40 w A es.length es ∧ es.length ≤ c := by
  obtain ⟨h1, h2, h3⟩ := Kd.R_reads' h
  exact ⟨h3, h1 ▸ h2⟩
end Go.Proofs.Ytlljpjbhndcaiaa.Q
end
section
namespace Go.Proofs.Ytlljpjbhndcaiaa.Q
open Go.RowKit Go.Proofs.YtlljpjbhndcaiaaW.PrintWords Go.Proofs.YtlljpjbhndcaiaaW.PrintLast Go.Proofs.YtlljpjbhndcaiaaW.PrintMore
attribute [local go_sem] max2_int min2_int max_two min_two max_three min_three max_four min_four
set_option linter.unusedVariables false
set_option linter.unusedSimpArgs false
section
variable {P : Program} {ops : Array Oper} {Q : Exit → Act → World → Prop}
def upd (f : Nat → Bool) (i : Nat) : Nat → Bool := fun j => if j = i then true else f j
def InvStepF (P : Program) (ops : Array Oper) (Q : Exit → Act → World → Prop) (T : List Nat) (J : (Nat → Bool) → Act → World → Prop) (i : Nat) (o : Oper) : Prop :=
  ∀ (f : Nat → Bool) (a : Act) (w : World), J f a w → f i = false → (∀ d, d ∈ T → f d = true) →
    ∀ K : Act → World → Prop, (∀ a' w', J (upd f i) a' w' → K a' w') → if Region.wanted o (yielded ops a.tmps) = true then Oper.wp P o a w K Q else K (a.put o.dst undef) w
def InvStepsF (P : Program) (ops : Array Oper) (Q : Exit → Act → World → Prop) (J : (Nat → Bool) → Act → World → Prop) : Nat → List Oper → List (List Nat) → Prop
  | _, [], _ => True
  | i, o :: r, T => InvStepF P ops Q (T.headD []) J i o ∧ InvStepsF P ops Q J (i + 1) r T.tail
theorem set_upd (l : List Bool) (i : Nat) (hi : i < l.length) : (fun j => (l.set i true).getD j false) = upd (fun j => l.getD j false) i := by
  funext j
  unfold upd
  simp only [List.getD_eq_getElem?_getD, List.getElem?_set]
  by_cases h : i = j
  · subst h; simp [hi]
  · rw [if_neg h, if_neg (fun e => h e.symm)]
theorem InvStepsF.to {n : Nat} {J : (Nat → Bool) → Act → World → Prop} : ∀ (r : List Oper) (i : Nat) (T : List (List Nat)), i + r.length ≤ n → InvStepsF P ops Q J i r T → InvSteps P ops Q n (fun l => J (fun j => l.getD j false)) i r T
  | [], _, _, _, _ => trivial
  | o :: r, i, T, hl, h => by
    refine ⟨?_, InvStepsF.to r (i + 1) T.tail (by simp at hl; omega) h.2⟩
    intro l a w hln hJ hi hT K hK
    have hil : i < l.length := by simp at hl; omega
    have hi' : l.getD i false = false := by
      rw [List.getD_eq_getElem?_getD, List.getElem?_eq_getElem hil] at hi ⊢
      exact hi
    refine h.1 _ a w hJ hi' hT K (fun a' w' hJ' => hK a' w' ?_)
    show J (fun j => (l.set i true).getD j false) a' w'
    rw [set_upd l i hil]
    exact hJ'
theorem region_invF {id n : Nat} {a : Act} {w : World} (hm : P.follows .mixedOrders = true) (T : List (List Nat)) (J : (Nat → Bool) → Act → World → Prop) (hn : ops.size = n) (hT : invB ops T = true)
    (h0 : J (fun _ => false) a w.drew) (hs : InvStepsF P ops Q J 0 ops.toList T) (hend : ∀ f a w, (∀ j, j < n → f j = true) → J f a w → Q .normal a w) : (Code.region id ops true).wp P Q a w := by
  refine region_inv hm T (fun l => J (fun j => l.getD j false)) hn hT ?_ (InvStepsF.to _ 0 T (by simp [hn]) hs) (fun a w h => hend _ a w (fun j hj => ?_) h)
  · have : (fun j => (List.replicate n false).getD j false) = fun _ => false := by
      funext j
      simp [List.getD_eq_getElem?_getD, List.getElem?_replicate]
      split <;> rfl
    show J (fun j => (List.replicate n false).getD j false) a w.drew
    rw [this]; exact h0
  · simp [List.getD_eq_getElem?_getD, List.getElem?_replicate, hj]
end
end Go.Proofs.Ytlljpjbhndcaiaa.Q
end
section
namespace Go.Proofs.Ytlljpjbhndcaiaa.Q
open Go.RowKit Go.Proofs.YtlljpjbhndcaiaaW.PrintWords Go.Proofs.YtlljpjbhndcaiaaW.PrintLast Go.Proofs.YtlljpjbhndcaiaaW.PrintMore
attribute [local go_sem] max2_int min2_int max_two min_two max_three min_three max_four min_four
set_option linter.unusedVariables false
set_option linter.unusedSimpArgs false
def tk (l : List Bool) (i : Nat) : Bool := decide (i < l.length) && l.getD i false
def ask : Nat → Int
  | 0 => 0
  | i + 1 => wrap64 (wrap64 (ask i * 2) + (i : Int) % 2)
set_option maxHeartbeats 1000000 in
set_option maxRecDepth 100000 in
theorem some_21 (i g : Nat) (A : Option Addr) (c : Nat) (l : List Bool) (W : World) (hi : i < 9223372036854775807) (hg : W.heap[g]? = some (.cells #[.slice A l.length c] 27 (0, 0))) (hr : Kd.C Kd.bool W A l.length l) :
    Calls Try.prog 21 #[.int .i64 i, .pointer (some ⟨g, 0, none⟩)] W fun e w' => e = .returned (.bool (tk l i)) ∧ W = w' := by
  obtain ⟨c0, _⟩ := cells1 hg
  by_cases h : i < l.length
  · have h1 : (i : Int) < (l.length : Int) := by omega
    have h0 : (0 : Int) ≤ (i : Int) := by omega
    have hd : decide ((i : Int) < (l.length : Int)) = true := decide_eq_true h1
    obtain ⟨ad, rfl, hx⟩ := Kd.at_bool hr (i : Int) h0 h1
    rw [Int.toNat_natCast] at hx
    have e : tk l i = rdOf false l (i : Int) := by unfold tk; rw [decide_eq_true h]; rfl
    rw [e]
    generalize rdOf false l (i : Int) = b at *
    have HR := Aside0.mk hr
    clear hr e hg
    go_enter Try.func21, Try.ntmps21
    go_wp2_with fail
    go_ret
    exact ⟨rfl, rfl⟩
  · have hd : decide ((i : Int) < (l.length : Int)) = false := decide_eq_false (by omega)
    have e : tk l i = false := by unfold tk; rw [decide_eq_false h]; rfl
    rw [e]
    have HR := Aside0.mk hr
    clear hr e hg
    go_enter Try.func21, Try.ntmps21
    go_wp2_with fail
    go_ret
    exact ⟨rfl, rfl⟩
theorem some_21' (i g : Nat) (A : Option Addr) (c : Nat) (l : List Bool) (b : Bool) (W : World) (hi : i < 9223372036854775807) (hb : tk l i = b) (hg : W.heap[g]? = some (.cells #[.slice A l.length c] 27 (0, 0))) (hr : Kd.C Kd.bool W A l.length l) :
    Calls Try.prog 21 #[.int .i64 i, .pointer (some ⟨g, 0, none⟩)] W fun e w' => e = .returned (.bool b) ∧ w' = W := by
  subst hb
  exact (some_21 i g A c l W hi hg hr).mono fun _ _ h => ⟨h.1, h.2.symm⟩
set_option maxHeartbeats 1000000 in
set_option maxRecDepth 100000 in
theorem some_23 (i g ga gf : Nat) (A : Option Addr) (c : Nat) (l : List Bool) (W : World) (a : Int) (hi : i < 9223372036854775807) (hg : W.heap[g]? = some (.cells #[.slice A l.length c] 27 (0, 0))) (hr : Kd.C Kd.bool W A l.length l)
    (ha : W.heap[ga]? = some (.cells #[.int .i64 a] 3 (0, 0))) (hf : W.heap[gf]? = some (.cells #[.func (.func 21) #[] #[.pointer (some ⟨g, 0, none⟩)]] 34 (0, 0))) (hb : ∀ q, Kd.C Kd.bool (W.setCell ⟨ga, 0, none⟩ (.int .i64 q)) A l.length l) :
    Calls Try.prog 23 #[.int .i64 i, .pointer (some ⟨ga, 0, none⟩), .pointer (some ⟨gf, 0, none⟩)] W fun e w' => e = .returned (.bool (tk l i)) ∧ w' = W.setCell ⟨ga, 0, none⟩ (.int .i64 (wrap64 (wrap64 (a * 2) + (i : Int) % 2))) := by
  obtain ⟨a0, az⟩ := cells1 ha
  obtain ⟨f0, _⟩ := cells1 hf
  have hgf : gf ≠ ga := by rintro rfl; rw [ha] at hf; simp at hf
  have hgg : g ≠ ga := by rintro rfl; rw [ha] at hg; simp at hg
  have hfl := (Array.getElem?_eq_some_iff.1 hf).1
  have HG := Aside0.mk hg; have HR := Aside0.mk hr; have HF := Aside0.mk hf; have HB := Aside0.mk hb
  clear hg hr ha hf hb
  go_enter Try.func23, Try.ntmps23
  go_wp2_with fail
  refine (some_21 i g A c l _ hi (hset HG.out hgg _) (HB.out _)).mono ?_
  rintro e w' ⟨rfl, hw⟩
  subst hw
  go_wp2_with fail
  go_ret
  exact ⟨rfl, rfl⟩
theorem some_23_in (args : Array Value) (w : World) : (callFunc 23 args).run Try.prog w = .ok (.enter 23 args) w := by kernel_rfl
def best_go (k : Nat) (px py : Int) (t : Nat → Bool) (es : List S40) : List S40 → Nat → Int → Option Int
  | [], _, b => some b
  | e :: r, i, b => if t i = true then (if b < 0 then best_go k px py t es r (i + 1) i else
      (plane_Square.f k e.f0.f0 e.f0.f1 e.f1.f0 e.f1.f1 px py).bind fun s => (plane_Square.f k (rd_T40 es b).f0.f0 (rd_T40 es b).f0.f1 (rd_T40 es b).f1.f0 (rd_T40 es b).f1.f1 px py).bind fun s' =>
        (root_Compare.f k s.1 s.2 s'.1 s'.2).bind fun c => if b < es.length then (if c < 0 then best_go k px py t es r (i + 1) i else best_go k px py t es r (i + 1) b) else none) else best_go k px py t es r (i + 1) b
def punchcutlaw08_DistSome.f (k : Nat) (l0 : List (List S133)) (a1 a2_0 a2_1 : Int) (l3 : List Bool) : Option Bool :=
  (punchcutlaw08_awake.f k).bind fun aw => if aw = true then (punchcutlaw06_Glyph.f k l0).bind fun es => (punchcutlaw07_Spot.f es a1 a2_0 a2_1).bind fun s =>
    (dist_Some.f k es s.1 s.2 (tk l3)).bind fun m => (best_go k s.1 s.2 (tk l3) es es 0 (-1)).bind fun b =>
    if m.2.2 = b ∧ (b < 0 ∧ m.1 = 0 ∧ m.2.1 = 0 ∨ 0 ≤ b ∧ b < es.length ∧ plane_Square.f k (rd_T40 es b).f0.f0 (rd_T40 es b).f0.f1 (rd_T40 es b).f1.f0 (rd_T40 es b).f1.f1 s.1 s.2 = some (m.1, m.2.1)) then some true else none
  else none
end Go.Proofs.Ytlljpjbhndcaiaa.Q
end
section
namespace Go.Proofs.Ytlljpjbhndcaiaa.Q
open Go.RowKit Go.Proofs.YtlljpjbhndcaiaaW.PrintWords Go.Proofs.YtlljpjbhndcaiaaW.PrintLast Go.Proofs.YtlljpjbhndcaiaaW.PrintMore
attribute [local go_sem] max2_int min2_int max_two min_two max_three min_three max_four min_four
set_option linter.unusedVariables false
set_option linter.unusedSimpArgs false
def some_J (w : World) (N ga gf g gx : Nat) (A A3 : Option Addr) (c c3 : Nat) (es : List S40) (l3 : List Bool) (s1 s2 : Int) (i : Nat) (W : World) : Prop :=
  W.heap[ga]? = some (.cells #[.int .i64 (ask i)] 3 (0, 0)) ∧ W.heap[gf]? = some (.cells #[.func (.func 21) #[] #[.pointer (some ⟨g, 0, none⟩)]] 34 (0, 0)) ∧ W.heap[g]? = some (.cells #[.slice A3 l3.length c3] 27 (0, 0)) ∧
  W.heap[gx]? = some (.cells #[.int .i64 s1, .int .i64 s2] 32 (0, 0)) ∧ Kd.R k40 40 W w.heap.size (fun q => q < N ∧ q ≠ ga) (.slice A es.length c) es ∧ Below w.heap.size w W
set_option maxHeartbeats 2000000 in
set_option maxRecDepth 100000 in
theorem punchcutlaw08_DistSome.calls (k : Nat) (A0 : Option Addr) (c0 : Nat) (l0 : List (List S133)) (a1 a2_0 a2_1 : Int) (A3 : Option Addr) (c3 : Nat) (l3 : List Bool) (r : Bool) (w : World) (hr0 : Kd.C (Kd.slice 133 k133) w A0 l0.length l0) (hc0 : l0.length ≤ c0) (hr3 : Kd.C Kd.bool w A3 l3.length l3) (hc3 : l3.length ≤ c3) (h : punchcutlaw08_DistSome.f k l0 a1 a2_0 a2_1 l3 = some r) :
    Calls Try.prog 3 #[.slice A0 l0.length c0, .int .u16 a1, .agg #[.int .i16 a2_0, .int .i16 a2_1], .slice A3 l3.length c3] w fun e w' => e = .returned (.bool r) ∧ Below w.heap.size w w' := by
  unfold punchcutlaw08_DistSome.f at h
  obtain ⟨aw, haw, h1⟩ := Option.bind_eq_some_iff.mp h
  clear h
  split at h1
  case isFalse => cases h1
  rename_i hT
  subst hT
  obtain ⟨es, hes, h2⟩ := Option.bind_eq_some_iff.mp h1
  obtain ⟨⟨s1, s2⟩, hs, h3⟩ := Option.bind_eq_some_iff.mp h2
  obtain ⟨⟨m1, m2, m3⟩, hm, h4⟩ := Option.bind_eq_some_iff.mp h3
  obtain ⟨b, hb, h5⟩ := Option.bind_eq_some_iff.mp h4
  clear h1 h2 h3 h4
  simp only at hm hb h5
  split at h5
  case isFalse => cases h5
  rename_i hall
  obtain rfl := Option.some.inj h5
  obtain ⟨rfl, hfin⟩ := hall
  have hml : l3.length ≤ 9223372036854775807 := hr3.2.1
  have HAW := Aside0.mk haw; have HES := Aside0.mk hes; have HS := Aside0.mk hs; have HM := Aside0.mk hm; have HBE := Aside0.mk hb; have HFI := Aside0.mk hfin; have HR0 := Aside0.mk hr0; have HR3 := Aside0.mk hr3
  clear haw hes hs hm hb hfin hr0 hr3 h5
  go_enter Try.func3, Try.ntmps3
  go_wp2_with fail
  refine (punchcutlaw08_awake.calls k _ _ HAW.out).mono ?_
  rintro e w1 ⟨rfl, hb⟩
  have HB1 := Aside0.mk (bstep (balloc (balloc (Below.refl w.heap.size w) (.cells #[.int .i16 a2_0, .int .i16 a2_1] 26)) (.cells #[.slice A3 l3.length c3] 27)) hb)
  have P1 := Aside0.mk ((hb.block _ (by simp; omega)).trans (halloc (hnew w (.cells #[.int .i16 a2_0, .int .i16 a2_1] 26) rfl) (.cells #[.slice A3 l3.length c3] 27)))
  have T1 := Aside0.mk ((hb.block _ (by simp)).trans (hnew (w.alloc (.cells #[.int .i16 a2_0, .int .i16 a2_1] 26)) (.cells #[.slice A3 l3.length c3] 27) rfl))
  simp only [World.size_alloc] at T1
  have hz1 := hb.size
  simp only [World.size_alloc] at hz1
  clear hb
  go_wp2_with fail
  refine (glyph_at k _ _ l0 es w w1 HR0.out hc0 HB1.out HES.out).mono ?_
  rintro e w2 ⟨A, c, rfl, ho, hb⟩
  have hz2 := hb.size
  have HO2 := Aside0.mk ho
  have HB2 := Aside0.mk (bstep HB1.out hb)
  have P2 := Aside0.mk ((hb.block _ (Array.getElem?_eq_some_iff.1 P1.out).1).trans P1.out)
  have T2 := Aside0.mk ((hb.block _ (Array.getElem?_eq_some_iff.1 T1.out).1).trans T1.out)
  clear hb ho P1 T1
  obtain ⟨p0, p1, _, _⟩ := cells2 P2.out
  go_wp2_with fail
  refine (punchcutlaw07_Spot.calls _ _ es _ _ _ _ _ _ (rC HO2.out).1 (rC HO2.out).2 HS.out).mono ?_
  rintro e w3 ⟨rfl, hb⟩
  have hz3 := hb.size
  have HO3 := Aside0.mk (Kd.R_mono (Kd.R_bound (Kd.R_below HO2.out hb)) (ok' := fun q => q < w3.heap.size + 3 ∧ q ≠ w3.heap.size + 2) (fun q hq => ⟨by omega, by omega⟩))
  have HB3 := Aside0.mk (bstep HB2.out hb)
  have T3 := Aside0.mk ((hb.block _ (Array.getElem?_eq_some_iff.1 T2.out).1).trans T2.out)
  clear hb p0 p1 P2 HO2 HB2 T2
  obtain ⟨W4, hW4⟩ : ∃ W4 : World, W4 = ((w3.alloc (.cells #[.int .i64 s1, .int .i64 s2] 32)).alloc (.cells #[.func (.func 21) #[] #[.pointer (some ⟨w.heap.size + 1, 0, none⟩)]] 34)).alloc (.cells #[.int .i64 0] 3) := ⟨_, rfl⟩
  have hN : W4.heap.size = w3.heap.size + 3 := by rw [hW4]; simp
  have hJ0 : some_J w (w3.heap.size + 3) (w3.heap.size + 2) (w3.heap.size + 1) (w.heap.size + 1) w3.heap.size A A3 c c3 es l3 s1 s2 0 W4 := by
    rw [hW4]
    exact ⟨hnew _ _ (by simp), halloc (hnew _ _ (by simp)) _, halloc (halloc (halloc T3.out _) _) _, halloc (halloc (hnew _ _ rfl) _) _, Kd.R_below (Kd.R_below (Kd.R_below HO3.out (balloc (Below.refl _ _) _)) (balloc (Below.refl _ _) _)) (balloc (Below.refl _ _) _), balloc (balloc (balloc HB3.out _) _) _⟩
  have HJ0 := Aside0.mk hJ0
  have hbw := HB3.out.size
  clear hJ0 T3 HO3 HB3 HB1
  go_upto_region 7 with fail
  rw [show w3.heap.size + 1 + 1 = w3.heap.size + 2 by omega, ← hW4]
  clear hW4
  obtain ⟨x0, x1, _, _⟩ := cells2 HJ0.out.2.2.2.1
  go_wp2_with fail
  refine (dist_Some.calls k A c es s1 s2 23 #[.pointer (some ⟨w3.heap.size + 2, 0, none⟩), .pointer (some ⟨w3.heap.size + 1, 0, none⟩)] (tk l3) (some_J w (w3.heap.size + 3) (w3.heap.size + 2) (w3.heap.size + 1) (w.heap.size + 1) w3.heap.size A A3 c c3 es l3 s1 s2) _ _ _ W4 some_23_in ?hJ ?hJC ?hcall HJ0.out (rC HJ0.out.2.2.2.2.1).2 HM.out).mono ?_
  case hJ =>
    rintro i W W' ⟨h1, h2, h3, h4, h5, h6⟩ hb
    rw [hN] at hb
    exact ⟨(hb.block _ (by omega)).trans h1, (hb.block _ (by omega)).trans h2, (hb.block _ (by omega)).trans h3, (hb.block _ (by omega)).trans h4, Kd.R_step h5 (fun q hq _ => hb.block _ hq.1), h6.trans (hb.mono (by omega))⟩
  case hJC => exact fun i W h => (rC h.2.2.2.2.1).1
  case hcall =>
    rintro i W hi ⟨h1, h2, h3, h4, h5, h6⟩ hsz
    have hmx := (rC h5).1.2.1
    refine (some_23 i (w.heap.size + 1) (w3.heap.size + 2) (w3.heap.size + 1) A3 c3 l3 W (ask i) (by omega) h3 (Kd.C_below HR3.out h6) h1 h2 (fun q => Kd.C_below HR3.out (bset h6 (by omega) _))).mono ?_
    rintro e W' ⟨rfl, rfl⟩
    refine ⟨rfl, ⟨hset1 h1, hset h2 (by omega) _, hset h3 (by omega) _, hset h4 (by omega) _, Kd.R_step h5 (fun q hq _ => Below.heap_setCell _ _ _ _ hq.2), bset h6 (by omega) _⟩, by simp, fun b hb hbl => Below.heap_setCell _ _ _ _ (show b ≠ w3.heap.size + 2 by omega)⟩
  rintro e w5 ⟨rfl, hJ5, hs5⟩
  obtain ⟨W6, hW6⟩ : ∃ W6 : World, W6 = w5.alloc (.cells #[.int .i64 m1, .int .i64 m2] 36) := ⟨_, rfl⟩
  have hs6 : w5.heap.size < W6.heap.size := by rw [hW6]; simp
  have J6 : Aside0 (some_J w (w3.heap.size + 3) (w3.heap.size + 2) (w3.heap.size + 1) (w.heap.size + 1) w3.heap.size A A3 c c3 es l3 s1 s2 es.length W6) := by
    obtain ⟨h1, h2, h3, h4, h5, h6⟩ := hJ5
    rw [hW6]
    exact ⟨halloc h1 _, halloc h2 _, halloc h3 _, halloc h4 _, Kd.R_below h5 (balloc (Below.refl _ _) _), balloc h6 _⟩
  have F6 : Aside0 (W6.heap[w5.heap.size]? = some (.cells #[.int .i64 m1, .int .i64 m2] 36 (0, 0))) := ⟨by rw [hW6]; exact hnew _ _ rfl⟩
  clear hJ5 x0 x1 HJ0
  go_upto_region 8 with fail
  rw [← hW6]
  clear hW6
  have hml2 := (rC J6.out.2.2.2.2.1).1.2.1
  go_wp2_with fail
  go_loopw [15, 38] (fun s15 s38 V => ∃ (i : Nat) (b : Int), i ≤ es.length ∧ s15 = .int .i64 b ∧ s38 = .int .i64 i ∧ Aside0 (Below W6.heap.size W6 V ∧ best_go k s1 s2 (tk l3) es (es.drop i) i b = some m3)) (fun _ s38 _ => es.length - (intOf s38).toNat)
  case atStart => exact ⟨0, -1, Nat.zero_le _, rfl, rfl, ⟨Below.refl _ _, HBE.out⟩⟩
  case round =>
    obtain ⟨i, b, hi, rfl, rfl, HR⟩ := hrel
    by_cases hlt : i < es.length
    · obtain ⟨hBV, hbest⟩ := HR.out
      rw [Some_drop es i hlt, best_go] at hbest
      obtain ⟨g1, g2, g3, g4, g5, g6⟩ := J6.out
      have hsV := hBV.size
      have hgx := (Array.getElem?_eq_some_iff.1 g4).1
      have hRV := Kd.R_step g5 (fun q hq hql => hBV.block q hql)
      have h0 : (0 : Int) ≤ (i : Int) := by omega
      have h1 : (i : Int) < (es.length : Int) := by omega
      obtain ⟨ad, rfl, x0, x1, x2, x3⟩ := at_T40 (rC hRV).1 (i : Int) h0 h1
      rw [Int.toNat_natCast] at x0 x1 x2 x3
      obtain ⟨E, hE⟩ : ∃ E, E = rd_T40 es (i : Int) := ⟨_, rfl⟩
      rw [← hE] at x0 x1 x2 x3 hbest
      obtain ⟨V, rfl⟩ : ∃ V : World, V = wr := ⟨_, rfl⟩
      obtain ⟨V2, hV2⟩ : ∃ V2 : World, V2 = V.alloc (.cells #[.int .i64 E.f0.f0, .int .i64 E.f0.f1, .int .i64 E.f1.f0, .int .i64 E.f1.f1] 40) := ⟨_, rfl⟩
      have hV2s : V.heap.size < V2.heap.size := by rw [hV2]; simp
      have BV2 : Aside0 (Below W6.heap.size W6 V2) := ⟨by rw [hV2]; exact balloc' (by omega) hBV _⟩
      have E2 : Aside0 (V2.heap[V.heap.size]? = some (.cells #[.int .i64 E.f0.f0, .int .i64 E.f0.f1, .int .i64 E.f1.f0, .int .i64 E.f1.f1] 40 (0, 0))) := ⟨by rw [hV2]; exact hnew _ _ rfl⟩
      have HRV2 : Aside0 (Kd.R k40 40 V2 w.heap.size (fun q => q < w3.heap.size + 3 ∧ q ≠ w3.heap.size + 2) (.slice (some ad) es.length c) es) := ⟨by rw [hV2]; exact Kd.R_below hRV (balloc (Below.refl _ _) _)⟩
      have BN := Aside0.mk hbest
      have HBV := Aside0.mk hBV
      have J6S := Aside0.mk (show ∀ U : World, Below W6.heap.size W6 U → U.heap[w3.heap.size + 1]? = some (.cells #[.func (.func 21) #[] #[.pointer (some ⟨w.heap.size + 1, 0, none⟩)]] 34 (0, 0)) ∧ U.heap[w.heap.size + 1]? = some (.cells #[.slice A3 l3.length c3] 27 (0, 0)) ∧ U.heap[w3.heap.size]? = some (.cells #[.int .i64 s1, .int .i64 s2] 32 (0, 0)) ∧ Kd.C Kd.bool U A3 l3.length l3 from fun U hU =>
        ⟨(hU.block _ (Array.getElem?_eq_some_iff.1 g2).1).trans g2, (hU.block _ (Array.getElem?_eq_some_iff.1 g3).1).trans g3, (hU.block _ hgx).trans g4, Kd.C_below HR3.out (bstep g6 hU)⟩)
      clear hBV hRV hbest HR hE g1 g2 g3 g4 g5 g6
      go_upto_region 12 with fail
      rw [← hV2]
      clear hV2 x0 x1 x2 x3
      have KT := Aside0.mk (show ∀ U : World, Below V2.heap.size V2 U → (U.cell? ⟨w3.heap.size + 1, 0, none⟩ = some (.func (.func 21) #[] #[.pointer (some ⟨w.heap.size + 1, 0, none⟩)]) ∧ U.cell? ⟨w3.heap.size, 0, none⟩ = some (.int .i64 s1) ∧ U.cell? ⟨w3.heap.size, 1, none⟩ = some (.int .i64 s2) ∧ U.cell? ⟨V.heap.size, 0, none⟩ = some (.int .i64 E.f0.f0) ∧ U.cell? ⟨V.heap.size, 1, none⟩ = some (.int .i64 E.f0.f1) ∧ U.cell? ⟨V.heap.size, 2, none⟩ = some (.int .i64 E.f1.f0) ∧ U.cell? ⟨V.heap.size, 3, none⟩ = some (.int .i64 E.f1.f1)) ∧ Below V2.heap.size V2 U from fun U hU => by
          obtain ⟨f, _, x, _⟩ := J6S.out U (bstep BV2.out hU)
          obtain ⟨y0, y1, _, _⟩ := cells2 x
          obtain ⟨e0, e1, e2, e3⟩ := cells4 ((hU.block _ hV2s).trans E2.out)
          exact ⟨⟨(cells1 f).1, y0, y1, e0, e1, e2, e3⟩, hU⟩)
      cases ht : tk l3 i with
      | false =>
        have HG2 : Aside0 (best_go k s1 s2 (tk l3) es (es.drop (i + 1)) (i + 1) b = some m3) := ⟨by have := BN.out; rw [if_neg (by simp [ht])] at this; exact this⟩
        obtain ⟨⟨y0, y1, y2, y3, y4, y5, y6⟩, _⟩ := KT.out V2 (Below.refl _ _)
        go_quiet ((go_at_call 21; exact Calls.quiet_of_same (some_21' i (w.heap.size + 1) A3 c3 l3 false _ (by omega) ht (J6S.out V2 BV2.out).2.1 (J6S.out V2 BV2.out).2.2.2)))
        go_wp2_with fail
        exact ⟨⟨i + 1, b, by omega, rfl, by simp, ⟨BV2.out.trans ⟨rfl, rfl, rfl, Nat.le_refl _, fun _ _ => rfl⟩, HG2.out⟩⟩, by simp only [intOf]; omega⟩
      | true =>
        have hb1 := BN.out
        rw [if_pos ht] at hb1
        by_cases hb0 : b < 0
        · rw [if_pos hb0] at hb1
          have HG2 := Aside0.mk hb1
          have hd : decide (b < 0) = true := decide_eq_true hb0
          clear hb1
          obtain ⟨⟨y0, y1, y2, y3, y4, y5, y6⟩, _⟩ := KT.out V2 (Below.refl _ _)
          go_quiet ((go_at_call 21; exact Calls.quiet_of_same (some_21' i (w.heap.size + 1) A3 c3 l3 true _ (by omega) ht (J6S.out V2 BV2.out).2.1 (J6S.out V2 BV2.out).2.2.2)))
          go_wp2_with fail
          exact ⟨⟨i + 1, i, by omega, rfl, by simp, ⟨BV2.out.trans ⟨rfl, rfl, rfl, Nat.le_refl _, fun _ _ => rfl⟩, HG2.out⟩⟩, by simp only [intOf]; omega⟩
        · rw [if_neg hb0] at hb1
          obtain ⟨⟨q1, q2⟩, hq, hb2⟩ := Option.bind_eq_some_iff.mp hb1
          obtain ⟨⟨q3, q4⟩, hq', hb3⟩ := Option.bind_eq_some_iff.mp hb2
          obtain ⟨cm, hcm, hb4⟩ := Option.bind_eq_some_iff.mp hb3
          clear hb1 hb2 hb3
          simp only at hq hq' hcm hb4
          split at hb4
          case isFalse => cases hb4
          rename_i hbl
          have HG2 := Aside0.mk hb4
          have hd : decide (b < 0) = false := decide_eq_false hb0
          have hb0' : (0 : Int) ≤ b := by omega
          obtain ⟨F, hF⟩ : ∃ F, F = rd_T40 es b := ⟨_, rfl⟩
          rw [← hF] at hq'
          have KT2 := Aside0.mk (show ∀ U : World, Below V2.heap.size V2 U → (U.cell? ⟨w3.heap.size + 1, 0, none⟩ = some (.func (.func 21) #[] #[.pointer (some ⟨w.heap.size + 1, 0, none⟩)]) ∧ U.cell? ⟨w3.heap.size, 0, none⟩ = some (.int .i64 s1) ∧ U.cell? ⟨w3.heap.size, 1, none⟩ = some (.int .i64 s2) ∧ U.cell? ⟨V.heap.size, 0, none⟩ = some (.int .i64 E.f0.f0) ∧ U.cell? ⟨V.heap.size, 1, none⟩ = some (.int .i64 E.f0.f1) ∧ U.cell? ⟨V.heap.size, 2, none⟩ = some (.int .i64 E.f1.f0) ∧ U.cell? ⟨V.heap.size, 3, none⟩ = some (.int .i64 E.f1.f1)) ∧ (U.cell? (ad.add (b.toNat * 4)) = some (.int .i64 F.f0.f0) ∧ U.cell? ⟨(ad.add (b.toNat * 4)).block, (ad.add (b.toNat * 4)).off + 1, none⟩ = some (.int .i64 F.f0.f1) ∧ U.cell? ⟨(ad.add (b.toNat * 4)).block, (ad.add (b.toNat * 4)).off + 2, none⟩ = some (.int .i64 F.f1.f0) ∧ U.cell? ⟨(ad.add (b.toNat * 4)).block, (ad.add (b.toNat * 4)).off + 3, none⟩ = some (.int .i64 F.f1.f1)) ∧ Below V2.heap.size V2 U from fun U hU => by
            obtain ⟨ad2, hAD, z0, z1, z2, z3⟩ := at_T40 (rC (Kd.R_below HRV2.out hU)).1 b hb0' hbl
            obtain rfl := Option.some.inj hAD
            rw [← hF] at z0 z1 z2 z3
            exact ⟨(KT.out U hU).1, ⟨z0, z1, z2, z3⟩, hU⟩)
          have HQ := Aside0.mk hq; have HQ' := Aside0.mk hq'; have HCM := Aside0.mk hcm
          clear hq hq' hcm hb4 hF
          go_region_held3 (fun U => (U.cell? ⟨w3.heap.size + 1, 0, none⟩ = some (.func (.func 21) #[] #[.pointer (some ⟨w.heap.size + 1, 0, none⟩)]) ∧ U.cell? ⟨w3.heap.size, 0, none⟩ = some (.int .i64 s1) ∧ U.cell? ⟨w3.heap.size, 1, none⟩ = some (.int .i64 s2) ∧ U.cell? ⟨V.heap.size, 0, none⟩ = some (.int .i64 E.f0.f0) ∧ U.cell? ⟨V.heap.size, 1, none⟩ = some (.int .i64 E.f0.f1) ∧ U.cell? ⟨V.heap.size, 2, none⟩ = some (.int .i64 E.f1.f0) ∧ U.cell? ⟨V.heap.size, 3, none⟩ = some (.int .i64 E.f1.f1)) ∧ (U.cell? (ad.add (b.toNat * 4)) = some (.int .i64 F.f0.f0) ∧ U.cell? ⟨(ad.add (b.toNat * 4)).block, (ad.add (b.toNat * 4)).off + 1, none⟩ = some (.int .i64 F.f0.f1) ∧ U.cell? ⟨(ad.add (b.toNat * 4)).block, (ad.add (b.toNat * 4)).off + 2, none⟩ = some (.int .i64 F.f1.f0) ∧ U.cell? ⟨(ad.add (b.toNat * 4)).block, (ad.add (b.toNat * 4)).off + 3, none⟩ = some (.int .i64 F.f1.f1)) ∧ Below V2.heap.size V2 U)
            (first
              | exact KT2.out _ (bdrew (Below.refl _ _))
              | (go_split_ands; refine KT2.out _ ?_; (repeat (first | assumption | exact Below.refl _ _ | with_reducible refine bdrew ?_ | refine bstep ?_ (by assumption))); done))
            (first
              | (go_at_call 21; refine (some_21' i (w.heap.size + 1) A3 c3 l3 true _ (by omega) ht ?_ ?_).mono ?_; (go_split_ands; exact (J6S.out _ (bstep BV2.out (by first | assumption | exact bdrew (Below.refl _ _)))).2.1); (go_split_ands; exact (J6S.out _ (bstep BV2.out (by first | assumption | exact bdrew (Below.refl _ _)))).2.2.2); rintro e w' ⟨rfl, hw⟩; subst hw)
              | (go_at_call 25; (first | (with_reducible refine (plane_Square.calls k _ _ _ _ _ _ q1 q2 _ HQ.out).mono ?_) | (with_reducible refine (plane_Square.calls k _ _ _ _ _ _ q3 q4 _ HQ'.out).mono ?_)); rintro e w' ⟨rfl, hbw⟩)
              | (go_at_call 24; refine (root_Compare.calls k _ _ _ _ _ _ HCM.out).mono ?_; rintro e w' ⟨rfl, hbw⟩))
          all_goals
            by_cases hc0 : cm < 0
            · have hdc : decide (cm < 0) = true := decide_eq_true hc0
              have HG3 := HG2.out
              rw [if_pos hc0] at HG3
              go_wp2_with fail
              go_split_ands
              exact ⟨⟨i + 1, i, by omega, rfl, by simp, ⟨bstep BV2.out (by assumption), HG3⟩⟩, by simp only [intOf]; omega⟩
            · have hdc : decide (cm < 0) = false := decide_eq_false hc0
              have HG3 := HG2.out
              rw [if_neg hc0] at HG3
              go_wp2_with fail
              go_split_ands
              exact ⟨⟨i + 1, b, by omega, rfl, by simp, ⟨bstep BV2.out (by assumption), HG3⟩⟩, by simp only [intOf]; omega⟩
    · obtain rfl : i = es.length := by omega
      obtain ⟨hBV, hbest⟩ := HR.out
      rw [List.drop_length] at hbest
      obtain rfl : b = m3 := by simpa [best_go] using hbest
      have BV := Aside0.mk hBV
      clear hbest HR hBV
      go_wp2_with fail
      go_loopw [18, 19, 67] (fun s18 _ s67 V => ∃ (j : Nat), j ≤ es.length ∧ s18 = .int .i64 (ask j) ∧ s67 = .int .i64 j ∧ Aside0 (Below W6.heap.size W6 V)) (fun _ _ s67 _ => es.length - (intOf s67).toNat)
      case atStart => exact ⟨0, Nat.zero_le _, rfl, rfl, BV⟩
      case round =>
        obtain ⟨j, hj, rfl, rfl, HW⟩ := hrel
        by_cases hlt : j < es.length
        · have h1 : (j : Int) < (es.length : Int) := by omega
          go_wp2_with fail
          exact ⟨⟨j + 1, by omega, rfl, by simp, HW⟩, by simp only [intOf]; omega⟩
        · obtain rfl : j = es.length := by omega
          obtain ⟨V, rfl⟩ : ∃ V : World, V = wr := ⟨_, rfl⟩
          obtain ⟨g1, g2, g3, g4, g5, g6⟩ := J6.out
          have hgx := (Array.getElem?_eq_some_iff.1 g4).1
          have hga := (Array.getElem?_eq_some_iff.1 g1).1
          obtain ⟨c12, _⟩ := cells1 ((HW.out.block _ hga).trans g1)
          obtain ⟨c130, c131, _, _⟩ := cells2 ((HW.out.block _ hs6).trans F6.out)
          obtain ⟨c100, c101, _, _⟩ := cells2 ((HW.out.block _ hgx).trans g4)
          have HRV := Aside0.mk (Kd.R_step g5 (fun q hq hql => HW.out.block q hql))
          have BWV := Aside0.mk (bstep g6 HW.out)
          clear g1 g2 g3 g4 g5 g6
          rcases HFI.out with ⟨hm0, rfl, rfl⟩ | ⟨hm0, hm1, hsq⟩
          · have hd : decide (b < 0) = true := decide_eq_true hm0
            have hu36 := Try.underlying36
            go_wp2_with fail
            go_quiet (fail)
            go_wp2_with fail
            go_ret
            exact ⟨rfl, BWV.out.trans ⟨rfl, rfl, rfl, Nat.le_refl _, fun _ _ => rfl⟩⟩
          · have hd : decide (b < 0) = false := decide_eq_false (by omega)
            have hu36 := Try.underlying36
            obtain ⟨F, hF⟩ : ∃ F, F = rd_T40 es b := ⟨_, rfl⟩
            rw [← hF] at hsq
            have HSQ := Aside0.mk hsq
            obtain ⟨ad, rfl, z0, z1, z2, z3⟩ := at_T40 (rC HRV.out).1 b hm0 hm1
            rw [← hF] at z0 z1 z2 z3
            have KU := Aside0.mk (show ∀ U : World, Below V.heap.size V U → U.cell? ⟨w3.heap.size + 2, 0, none⟩ = some (.int .i64 (ask es.length)) ∧ U.cell? ⟨w5.heap.size, 0, none⟩ = some (.int .i64 m1) ∧ U.cell? ⟨w5.heap.size, 1, none⟩ = some (.int .i64 m2) ∧ U.cell? ⟨w3.heap.size, 0, none⟩ = some (.int .i64 s1) ∧ U.cell? ⟨w3.heap.size, 1, none⟩ = some (.int .i64 s2) ∧ U.cell? (ad.add (b.toNat * 4)) = some (.int .i64 F.f0.f0) ∧ U.cell? ⟨(ad.add (b.toNat * 4)).block, (ad.add (b.toNat * 4)).off + 1, none⟩ = some (.int .i64 F.f0.f1) ∧ U.cell? ⟨(ad.add (b.toNat * 4)).block, (ad.add (b.toNat * 4)).off + 2, none⟩ = some (.int .i64 F.f1.f0) ∧ U.cell? ⟨(ad.add (b.toNat * 4)).block, (ad.add (b.toNat * 4)).off + 3, none⟩ = some (.int .i64 F.f1.f1) from fun U hU => by
              obtain ⟨ad2, hAD, z0, z1, z2, z3⟩ := at_T40 (rC (Kd.R_below HRV.out hU)).1 b hm0 hm1
              obtain rfl := Option.some.inj hAD
              rw [← hF] at z0 z1 z2 z3
              have hW := HW.out.size
              have hw5 : w5.heap.size < V.heap.size := by omega
              exact ⟨(hU.cell (by simp; omega)).trans c12, (hU.cell (by simp; omega)).trans c130, (hU.cell (by simp; omega)).trans c131, (hU.cell (by simp; omega)).trans c100, (hU.cell (by simp; omega)).trans c101, z0, z1, z2, z3⟩)
            clear c12 c130 c131 c100 c101 z0 z1 z2 z3 hF hsq
            go_wp2_with fail
            refine region_invF (n := 32) (by kernel_rfl) [[], [], [0, 1], [2], [3], [3], [3, 4, 5], [3, 6], [7], [8], [8, 9], [8, 10], [11], [11], [11], [8, 11, 14], [8, 15], [16], [16, 17], [16, 18], [19], [19], [19], [19, 21, 22], [19, 23], [19], [19, 24, 25], [19, 20, 26], [16, 19, 27], [8, 16, 28], [8, 29], [30]] (fun f act U => ∃ v : Nat → Value, act = ({ tmps := #[Value.slice A0 l0.length c0, Value.int IntKind.u16 a1, Value.agg #[Value.int IntKind.i16 a2_0, Value.int IntKind.i16 a2_1], Value.slice A3 l3.length c3, undef, undef, Value.pointer (some { block := w.heap.size, off := 0 }), Value.pointer (some { block := w.heap.size + 1, off := 0 }), v 31, Value.slice (some ad) es.length c, Value.pointer (some { block := w3.heap.size, off := 0 }), Value.pointer (some { block := w3.heap.size + 1, off := 0 }), Value.pointer (some { block := w3.heap.size + 2, off := 0 }), Value.pointer (some { block := w5.heap.size, off := 0 }), Value.int IntKind.i64 b, Value.int IntKind.i64 b, u16, u17, Value.int IntKind.i64 (ask es.length), u19, Value.bool true, Value.bool false, Value.slice A0 l0.length c0, Value.slice (some ad) es.length c, Value.slice (some ad) es.length c, Value.int IntKind.u16 a1, Value.agg #[Value.int IntKind.i16 a2_0, Value.int IntKind.i16 a2_1], Value.agg #[Value.int IntKind.i64 s1, Value.int IntKind.i64 s2], Value.func (Fn.func 21) #[] #[Value.pointer (some { block := w.heap.size + 1, off := 0 })], Value.tuple #[Value.agg #[Value.int IntKind.i64 m1, Value.int IntKind.i64 m2], Value.int IntKind.i64 b], Value.slice (some ad) es.length c, Value.agg #[Value.int IntKind.i64 s1, Value.int IntKind.i64 s2], Value.func (Fn.func 23) #[] #[Value.pointer (some { block := w3.heap.size + 2, off := 0 }), Value.pointer (some { block := w3.heap.size + 1, off := 0 })], Value.tuple #[Value.agg #[Value.int IntKind.i64 m1, Value.int IntKind.i64 m2], Value.int IntKind.i64 b], Value.agg #[Value.int IntKind.i64 m1, Value.int IntKind.i64 m2], Value.int IntKind.i64 b, Value.slice (some ad) es.length c, Value.int IntKind.i64 ↑es.length, Value.int IntKind.i64 ↑es.length, Value.bool false, u40, u41, u42, u43, u44, u45, u46, u47, u48, u49, u50, u51, u52, u53, u54, u55, u56, u57, u58, u59, u60, u61, u62, u63, u64, Value.slice (some ad) es.length c, Value.int IntKind.i64 ↑es.length, Value.int IntKind.i64 ↑es.length, Value.bool false, u69, u70, u71, u72, u73, u74, u75, v 0, v 1, v 2, v 3, v 4, v 5, v 6, v 7, v 8, v 9, v 10, v 11, v 12, v 13, v 14, v 15, v 16, v 17, v 18, v 19, v 20, v 21, v 22, v 23, v 24, v 25, v 26, v 27, v 28, v 29, v 30], defers := [] } : Act) ∧ Below V.heap.size V U ∧ ((f 0 = true → v 0 = .int .i64 (ask es.length)) ∧ (f 1 = true → v 1 = .int .i64 (ask es.length)) ∧ (f 2 = true → v 2 = .bool true) ∧ (f 3 = true → v 3 = .bool true) ∧ (f 4 = true → v 4 = .int .i64 b) ∧ (f 5 = true → v 5 = .int .i64 b) ∧ (f 6 = true → v 6 = .bool true) ∧ (f 7 = true → v 7 = .bool true) ∧ (f 8 = true → v 8 = .bool true) ∧ (f 9 = true → v 9 = .int .i64 b) ∧ (f 10 = true → v 10 = .bool false) ∧ (f 11 = true → v 11 = .bool false) ∧ (f 12 = true → v 12 = undef) ∧ (f 13 = true → v 13 = undef) ∧ (f 14 = true → v 14 = undef) ∧ (f 15 = true → v 15 = .bool false) ∧ (f 16 = true → v 16 = .bool false) ∧ (f 17 = true → v 17 = .int .i64 b) ∧ (f 18 = true → v 18 = .bool true) ∧ (f 19 = true → v 19 = .bool true) ∧ (f 20 = true → v 20 = .agg #[.int .i64 m1, .int .i64 m2]) ∧ (f 21 = true → v 21 = .slice (some ad) es.length c) ∧ (f 22 = true → v 22 = .int .i64 b) ∧ (f 23 = true → v 23 = .pointer (some (ad.add (b.toNat * 4)))) ∧ (f 24 = true → v 24 = .agg #[.int .i64 F.f0.f0, .int .i64 F.f0.f1, .int .i64 F.f1.f0, .int .i64 F.f1.f1]) ∧ (f 25 = true → v 25 = .agg #[.int .i64 s1, .int .i64 s2]) ∧ (f 26 = true → v 26 = .agg #[.int .i64 m1, .int .i64 m2]) ∧ (f 27 = true → v 27 = .bool true) ∧ (f 28 = true → v 28 = .bool true) ∧ (f 29 = true → v 29 = .bool true) ∧ (f 30 = true → v 30 = .bool true) ∧ (f 31 = true → v 31 = .bool true))) rfl (by kernel_rfl) ?_ ⟨?_, ?_, ?_, ?_, ?_, ?_, ?_, ?_, ?_, ?_, ?_, ?_, ?_, ?_, ?_, ?_, ?_, ?_, ?_, ?_, ?_, ?_, ?_, ?_, ?_, ?_, ?_, ?_, ?_, ?_, ?_, ?_, trivial⟩ ?_
            · exact ⟨fun j => ([undef, undef, undef, undef, undef, undef, undef, undef, undef, undef, undef, undef, undef, undef, undef, undef, undef, undef, undef, undef, undef, undef, undef, undef, undef, undef, undef, undef, undef, undef, undef, .bool false] : List Value).getD j undef, rfl, bdrew (Below.refl _ _), fun h => (by cases h), fun h => (by cases h), fun h => (by cases h), fun h => (by cases h), fun h => (by cases h), fun h => (by cases h), fun h => (by cases h), fun h => (by cases h), fun h => (by cases h), fun h => (by cases h), fun h => (by cases h), fun h => (by cases h), fun h => (by cases h), fun h => (by cases h), fun h => (by cases h), fun h => (by cases h), fun h => (by cases h), fun h => (by cases h), fun h => (by cases h), fun h => (by cases h), fun h => (by cases h), fun h => (by cases h), fun h => (by cases h), fun h => (by cases h), fun h => (by cases h), fun h => (by cases h), fun h => (by cases h), fun h => (by cases h), fun h => (by cases h), fun h => (by cases h), fun h => (by cases h), fun h => (by cases h)⟩
            · rintro f act U ⟨v, rfl, HB, H⟩ hi hT K hK
              have HKK := Aside0.mk hK
              clear hK
              obtain ⟨c12, c130, c131, c100, c101, z0, z1, z2, z3⟩ := KU.out U HB
              have HH := Aside0.mk H; have HBA := Aside0.mk HB
              clear H HB
              go_wp2_with fail
              exact HKK.out _ _ ⟨fun j => if j = 0 then .int .i64 (ask es.length) else v j, by simp, HBA.out, fun _ => rfl, HH.out.2.1, HH.out.2.2.1, HH.out.2.2.2.1, HH.out.2.2.2.2.1, HH.out.2.2.2.2.2.1, HH.out.2.2.2.2.2.2.1, HH.out.2.2.2.2.2.2.2.1, HH.out.2.2.2.2.2.2.2.2.1, HH.out.2.2.2.2.2.2.2.2.2.1, HH.out.2.2.2.2.2.2.2.2.2.2.1, HH.out.2.2.2.2.2.2.2.2.2.2.2.1, HH.out.2.2.2.2.2.2.2.2.2.2.2.2.1, HH.out.2.2.2.2.2.2.2.2.2.2.2.2.2.1, HH.out.2.2.2.2.2.2.2.2.2.2.2.2.2.2.1, HH.out.2.2.2.2.2.2.2.2.2.2.2.2.2.2.2.1, HH.out.2.2.2.2.2.2.2.2.2.2.2.2.2.2.2.2.1, HH.out.2.2.2.2.2.2.2.2.2.2.2.2.2.2.2.2.2.1, HH.out.2.2.2.2.2.2.2.2.2.2.2.2.2.2.2.2.2.2.1, HH.out.2.2.2.2.2.2.2.2.2.2.2.2.2.2.2.2.2.2.2.1, HH.out.2.2.2.2.2.2.2.2.2.2.2.2.2.2.2.2.2.2.2.2.1, HH.out.2.2.2.2.2.2.2.2.2.2.2.2.2.2.2.2.2.2.2.2.2.1, HH.out.2.2.2.2.2.2.2.2.2.2.2.2.2.2.2.2.2.2.2.2.2.2.1, HH.out.2.2.2.2.2.2.2.2.2.2.2.2.2.2.2.2.2.2.2.2.2.2.2.1, HH.out.2.2.2.2.2.2.2.2.2.2.2.2.2.2.2.2.2.2.2.2.2.2.2.2.1, HH.out.2.2.2.2.2.2.2.2.2.2.2.2.2.2.2.2.2.2.2.2.2.2.2.2.2.1, HH.out.2.2.2.2.2.2.2.2.2.2.2.2.2.2.2.2.2.2.2.2.2.2.2.2.2.2.1, HH.out.2.2.2.2.2.2.2.2.2.2.2.2.2.2.2.2.2.2.2.2.2.2.2.2.2.2.2.1, HH.out.2.2.2.2.2.2.2.2.2.2.2.2.2.2.2.2.2.2.2.2.2.2.2.2.2.2.2.2.1, HH.out.2.2.2.2.2.2.2.2.2.2.2.2.2.2.2.2.2.2.2.2.2.2.2.2.2.2.2.2.2.1, HH.out.2.2.2.2.2.2.2.2.2.2.2.2.2.2.2.2.2.2.2.2.2.2.2.2.2.2.2.2.2.2.1, HH.out.2.2.2.2.2.2.2.2.2.2.2.2.2.2.2.2.2.2.2.2.2.2.2.2.2.2.2.2.2.2.2⟩
            · rintro f act U ⟨v, rfl, HB, H⟩ hi hT K hK
              have HKK := Aside0.mk hK
              clear hK
              have HH := Aside0.mk H; have HBA := Aside0.mk HB
              clear H HB
              go_wp2_with fail
              exact HKK.out _ _ ⟨fun j => if j = 1 then .int .i64 (ask es.length) else v j, by simp, HBA.out, HH.out.1, fun _ => rfl, HH.out.2.2.1, HH.out.2.2.2.1, HH.out.2.2.2.2.1, HH.out.2.2.2.2.2.1, HH.out.2.2.2.2.2.2.1, HH.out.2.2.2.2.2.2.2.1, HH.out.2.2.2.2.2.2.2.2.1, HH.out.2.2.2.2.2.2.2.2.2.1, HH.out.2.2.2.2.2.2.2.2.2.2.1, HH.out.2.2.2.2.2.2.2.2.2.2.2.1, HH.out.2.2.2.2.2.2.2.2.2.2.2.2.1, HH.out.2.2.2.2.2.2.2.2.2.2.2.2.2.1, HH.out.2.2.2.2.2.2.2.2.2.2.2.2.2.2.1, HH.out.2.2.2.2.2.2.2.2.2.2.2.2.2.2.2.1, HH.out.2.2.2.2.2.2.2.2.2.2.2.2.2.2.2.2.1, HH.out.2.2.2.2.2.2.2.2.2.2.2.2.2.2.2.2.2.1, HH.out.2.2.2.2.2.2.2.2.2.2.2.2.2.2.2.2.2.2.1, HH.out.2.2.2.2.2.2.2.2.2.2.2.2.2.2.2.2.2.2.2.1, HH.out.2.2.2.2.2.2.2.2.2.2.2.2.2.2.2.2.2.2.2.2.1, HH.out.2.2.2.2.2.2.2.2.2.2.2.2.2.2.2.2.2.2.2.2.2.1, HH.out.2.2.2.2.2.2.2.2.2.2.2.2.2.2.2.2.2.2.2.2.2.2.1, HH.out.2.2.2.2.2.2.2.2.2.2.2.2.2.2.2.2.2.2.2.2.2.2.2.1, HH.out.2.2.2.2.2.2.2.2.2.2.2.2.2.2.2.2.2.2.2.2.2.2.2.2.1, HH.out.2.2.2.2.2.2.2.2.2.2.2.2.2.2.2.2.2.2.2.2.2.2.2.2.2.1, HH.out.2.2.2.2.2.2.2.2.2.2.2.2.2.2.2.2.2.2.2.2.2.2.2.2.2.2.1, HH.out.2.2.2.2.2.2.2.2.2.2.2.2.2.2.2.2.2.2.2.2.2.2.2.2.2.2.2.1, HH.out.2.2.2.2.2.2.2.2.2.2.2.2.2.2.2.2.2.2.2.2.2.2.2.2.2.2.2.2.1, HH.out.2.2.2.2.2.2.2.2.2.2.2.2.2.2.2.2.2.2.2.2.2.2.2.2.2.2.2.2.2.1, HH.out.2.2.2.2.2.2.2.2.2.2.2.2.2.2.2.2.2.2.2.2.2.2.2.2.2.2.2.2.2.2.1, HH.out.2.2.2.2.2.2.2.2.2.2.2.2.2.2.2.2.2.2.2.2.2.2.2.2.2.2.2.2.2.2.2⟩
            · rintro f act U ⟨v, rfl, HB, H⟩ hi hT K hK
              have HKK := Aside0.mk hK
              clear hK
              have e0 := H.1 (hT 0 (by decide))
              have e1 := H.2.1 (hT 1 (by decide))
              simp only [e0, e1]
              have HH := Aside0.mk H; have HBA := Aside0.mk HB
              clear H HB
              go_wp2_with fail
              exact HKK.out _ _ ⟨fun j => if j = 2 then .bool true else v j, by simp [e0, e1], HBA.out, HH.out.1, HH.out.2.1, fun _ => rfl, HH.out.2.2.2.1, HH.out.2.2.2.2.1, HH.out.2.2.2.2.2.1, HH.out.2.2.2.2.2.2.1, HH.out.2.2.2.2.2.2.2.1, HH.out.2.2.2.2.2.2.2.2.1, HH.out.2.2.2.2.2.2.2.2.2.1, HH.out.2.2.2.2.2.2.2.2.2.2.1, HH.out.2.2.2.2.2.2.2.2.2.2.2.1, HH.out.2.2.2.2.2.2.2.2.2.2.2.2.1, HH.out.2.2.2.2.2.2.2.2.2.2.2.2.2.1, HH.out.2.2.2.2.2.2.2.2.2.2.2.2.2.2.1, HH.out.2.2.2.2.2.2.2.2.2.2.2.2.2.2.2.1, HH.out.2.2.2.2.2.2.2.2.2.2.2.2.2.2.2.2.1, HH.out.2.2.2.2.2.2.2.2.2.2.2.2.2.2.2.2.2.1, HH.out.2.2.2.2.2.2.2.2.2.2.2.2.2.2.2.2.2.2.1, HH.out.2.2.2.2.2.2.2.2.2.2.2.2.2.2.2.2.2.2.2.1, HH.out.2.2.2.2.2.2.2.2.2.2.2.2.2.2.2.2.2.2.2.2.1, HH.out.2.2.2.2.2.2.2.2.2.2.2.2.2.2.2.2.2.2.2.2.2.1, HH.out.2.2.2.2.2.2.2.2.2.2.2.2.2.2.2.2.2.2.2.2.2.2.1, HH.out.2.2.2.2.2.2.2.2.2.2.2.2.2.2.2.2.2.2.2.2.2.2.2.1, HH.out.2.2.2.2.2.2.2.2.2.2.2.2.2.2.2.2.2.2.2.2.2.2.2.2.1, HH.out.2.2.2.2.2.2.2.2.2.2.2.2.2.2.2.2.2.2.2.2.2.2.2.2.2.1, HH.out.2.2.2.2.2.2.2.2.2.2.2.2.2.2.2.2.2.2.2.2.2.2.2.2.2.2.1, HH.out.2.2.2.2.2.2.2.2.2.2.2.2.2.2.2.2.2.2.2.2.2.2.2.2.2.2.2.1, HH.out.2.2.2.2.2.2.2.2.2.2.2.2.2.2.2.2.2.2.2.2.2.2.2.2.2.2.2.2.1, HH.out.2.2.2.2.2.2.2.2.2.2.2.2.2.2.2.2.2.2.2.2.2.2.2.2.2.2.2.2.2.1, HH.out.2.2.2.2.2.2.2.2.2.2.2.2.2.2.2.2.2.2.2.2.2.2.2.2.2.2.2.2.2.2.1, HH.out.2.2.2.2.2.2.2.2.2.2.2.2.2.2.2.2.2.2.2.2.2.2.2.2.2.2.2.2.2.2.2⟩
            · rintro f act U ⟨v, rfl, HB, H⟩ hi hT K hK
              have HKK := Aside0.mk hK
              clear hK
              have e2 := H.2.2.1 (hT 2 (by decide))
              simp only [e2]
              have HH := Aside0.mk H; have HBA := Aside0.mk HB
              clear H HB
              go_wp2_with fail
              exact HKK.out _ _ ⟨fun j => if j = 3 then .bool true else v j, by simp [e2], HBA.out, HH.out.1, HH.out.2.1, HH.out.2.2.1, fun _ => rfl, HH.out.2.2.2.2.1, HH.out.2.2.2.2.2.1, HH.out.2.2.2.2.2.2.1, HH.out.2.2.2.2.2.2.2.1, HH.out.2.2.2.2.2.2.2.2.1, HH.out.2.2.2.2.2.2.2.2.2.1, HH.out.2.2.2.2.2.2.2.2.2.2.1, HH.out.2.2.2.2.2.2.2.2.2.2.2.1, HH.out.2.2.2.2.2.2.2.2.2.2.2.2.1, HH.out.2.2.2.2.2.2.2.2.2.2.2.2.2.1, HH.out.2.2.2.2.2.2.2.2.2.2.2.2.2.2.1, HH.out.2.2.2.2.2.2.2.2.2.2.2.2.2.2.2.1, HH.out.2.2.2.2.2.2.2.2.2.2.2.2.2.2.2.2.1, HH.out.2.2.2.2.2.2.2.2.2.2.2.2.2.2.2.2.2.1, HH.out.2.2.2.2.2.2.2.2.2.2.2.2.2.2.2.2.2.2.1, HH.out.2.2.2.2.2.2.2.2.2.2.2.2.2.2.2.2.2.2.2.1, HH.out.2.2.2.2.2.2.2.2.2.2.2.2.2.2.2.2.2.2.2.2.1, HH.out.2.2.2.2.2.2.2.2.2.2.2.2.2.2.2.2.2.2.2.2.2.1, HH.out.2.2.2.2.2.2.2.2.2.2.2.2.2.2.2.2.2.2.2.2.2.2.1, HH.out.2.2.2.2.2.2.2.2.2.2.2.2.2.2.2.2.2.2.2.2.2.2.2.1, HH.out.2.2.2.2.2.2.2.2.2.2.2.2.2.2.2.2.2.2.2.2.2.2.2.2.1, HH.out.2.2.2.2.2.2.2.2.2.2.2.2.2.2.2.2.2.2.2.2.2.2.2.2.2.1, HH.out.2.2.2.2.2.2.2.2.2.2.2.2.2.2.2.2.2.2.2.2.2.2.2.2.2.2.1, HH.out.2.2.2.2.2.2.2.2.2.2.2.2.2.2.2.2.2.2.2.2.2.2.2.2.2.2.2.1, HH.out.2.2.2.2.2.2.2.2.2.2.2.2.2.2.2.2.2.2.2.2.2.2.2.2.2.2.2.2.1, HH.out.2.2.2.2.2.2.2.2.2.2.2.2.2.2.2.2.2.2.2.2.2.2.2.2.2.2.2.2.2.1, HH.out.2.2.2.2.2.2.2.2.2.2.2.2.2.2.2.2.2.2.2.2.2.2.2.2.2.2.2.2.2.2.1, HH.out.2.2.2.2.2.2.2.2.2.2.2.2.2.2.2.2.2.2.2.2.2.2.2.2.2.2.2.2.2.2.2⟩
            · rintro f act U ⟨v, rfl, HB, H⟩ hi hT K hK
              have HKK := Aside0.mk hK
              clear hK
              have e3 := H.2.2.2.1 (hT 3 (by decide))
              simp only [e3]
              have HH := Aside0.mk H; have HBA := Aside0.mk HB
              clear H HB
              go_wp2_with fail
              exact HKK.out _ _ ⟨fun j => if j = 4 then .int .i64 b else v j, by simp [e3], HBA.out, HH.out.1, HH.out.2.1, HH.out.2.2.1, HH.out.2.2.2.1, fun _ => rfl, HH.out.2.2.2.2.2.1, HH.out.2.2.2.2.2.2.1, HH.out.2.2.2.2.2.2.2.1, HH.out.2.2.2.2.2.2.2.2.1, HH.out.2.2.2.2.2.2.2.2.2.1, HH.out.2.2.2.2.2.2.2.2.2.2.1, HH.out.2.2.2.2.2.2.2.2.2.2.2.1, HH.out.2.2.2.2.2.2.2.2.2.2.2.2.1, HH.out.2.2.2.2.2.2.2.2.2.2.2.2.2.1, HH.out.2.2.2.2.2.2.2.2.2.2.2.2.2.2.1, HH.out.2.2.2.2.2.2.2.2.2.2.2.2.2.2.2.1, HH.out.2.2.2.2.2.2.2.2.2.2.2.2.2.2.2.2.1, HH.out.2.2.2.2.2.2.2.2.2.2.2.2.2.2.2.2.2.1, HH.out.2.2.2.2.2.2.2.2.2.2.2.2.2.2.2.2.2.2.1, HH.out.2.2.2.2.2.2.2.2.2.2.2.2.2.2.2.2.2.2.2.1, HH.out.2.2.2.2.2.2.2.2.2.2.2.2.2.2.2.2.2.2.2.2.1, HH.out.2.2.2.2.2.2.2.2.2.2.2.2.2.2.2.2.2.2.2.2.2.1, HH.out.2.2.2.2.2.2.2.2.2.2.2.2.2.2.2.2.2.2.2.2.2.2.1, HH.out.2.2.2.2.2.2.2.2.2.2.2.2.2.2.2.2.2.2.2.2.2.2.2.1, HH.out.2.2.2.2.2.2.2.2.2.2.2.2.2.2.2.2.2.2.2.2.2.2.2.2.1, HH.out.2.2.2.2.2.2.2.2.2.2.2.2.2.2.2.2.2.2.2.2.2.2.2.2.2.1, HH.out.2.2.2.2.2.2.2.2.2.2.2.2.2.2.2.2.2.2.2.2.2.2.2.2.2.2.1, HH.out.2.2.2.2.2.2.2.2.2.2.2.2.2.2.2.2.2.2.2.2.2.2.2.2.2.2.2.1, HH.out.2.2.2.2.2.2.2.2.2.2.2.2.2.2.2.2.2.2.2.2.2.2.2.2.2.2.2.2.1, HH.out.2.2.2.2.2.2.2.2.2.2.2.2.2.2.2.2.2.2.2.2.2.2.2.2.2.2.2.2.2.1, HH.out.2.2.2.2.2.2.2.2.2.2.2.2.2.2.2.2.2.2.2.2.2.2.2.2.2.2.2.2.2.2.1, HH.out.2.2.2.2.2.2.2.2.2.2.2.2.2.2.2.2.2.2.2.2.2.2.2.2.2.2.2.2.2.2.2⟩
            · rintro f act U ⟨v, rfl, HB, H⟩ hi hT K hK
              have HKK := Aside0.mk hK
              clear hK
              have e3 := H.2.2.2.1 (hT 3 (by decide))
              simp only [e3]
              have HH := Aside0.mk H; have HBA := Aside0.mk HB
              clear H HB
              go_wp2_with fail
              exact HKK.out _ _ ⟨fun j => if j = 5 then .int .i64 b else v j, by simp [e3], HBA.out, HH.out.1, HH.out.2.1, HH.out.2.2.1, HH.out.2.2.2.1, HH.out.2.2.2.2.1, fun _ => rfl, HH.out.2.2.2.2.2.2.1, HH.out.2.2.2.2.2.2.2.1, HH.out.2.2.2.2.2.2.2.2.1, HH.out.2.2.2.2.2.2.2.2.2.1, HH.out.2.2.2.2.2.2.2.2.2.2.1, HH.out.2.2.2.2.2.2.2.2.2.2.2.1, HH.out.2.2.2.2.2.2.2.2.2.2.2.2.1, HH.out.2.2.2.2.2.2.2.2.2.2.2.2.2.1, HH.out.2.2.2.2.2.2.2.2.2.2.2.2.2.2.1, HH.out.2.2.2.2.2.2.2.2.2.2.2.2.2.2.2.1, HH.out.2.2.2.2.2.2.2.2.2.2.2.2.2.2.2.2.1, HH.out.2.2.2.2.2.2.2.2.2.2.2.2.2.2.2.2.2.1, HH.out.2.2.2.2.2.2.2.2.2.2.2.2.2.2.2.2.2.2.1, HH.out.2.2.2.2.2.2.2.2.2.2.2.2.2.2.2.2.2.2.2.1, HH.out.2.2.2.2.2.2.2.2.2.2.2.2.2.2.2.2.2.2.2.2.1, HH.out.2.2.2.2.2.2.2.2.2.2.2.2.2.2.2.2.2.2.2.2.2.1, HH.out.2.2.2.2.2.2.2.2.2.2.2.2.2.2.2.2.2.2.2.2.2.2.1, HH.out.2.2.2.2.2.2.2.2.2.2.2.2.2.2.2.2.2.2.2.2.2.2.2.1, HH.out.2.2.2.2.2.2.2.2.2.2.2.2.2.2.2.2.2.2.2.2.2.2.2.2.1, HH.out.2.2.2.2.2.2.2.2.2.2.2.2.2.2.2.2.2.2.2.2.2.2.2.2.2.1, HH.out.2.2.2.2.2.2.2.2.2.2.2.2.2.2.2.2.2.2.2.2.2.2.2.2.2.2.1, HH.out.2.2.2.2.2.2.2.2.2.2.2.2.2.2.2.2.2.2.2.2.2.2.2.2.2.2.2.1, HH.out.2.2.2.2.2.2.2.2.2.2.2.2.2.2.2.2.2.2.2.2.2.2.2.2.2.2.2.2.1, HH.out.2.2.2.2.2.2.2.2.2.2.2.2.2.2.2.2.2.2.2.2.2.2.2.2.2.2.2.2.2.1, HH.out.2.2.2.2.2.2.2.2.2.2.2.2.2.2.2.2.2.2.2.2.2.2.2.2.2.2.2.2.2.2.1, HH.out.2.2.2.2.2.2.2.2.2.2.2.2.2.2.2.2.2.2.2.2.2.2.2.2.2.2.2.2.2.2.2⟩
            · rintro f act U ⟨v, rfl, HB, H⟩ hi hT K hK
              have HKK := Aside0.mk hK
              clear hK
              have e3 := H.2.2.2.1 (hT 3 (by decide))
              have e4 := H.2.2.2.2.1 (hT 4 (by decide))
              have e5 := H.2.2.2.2.2.1 (hT 5 (by decide))
              simp only [e3, e4, e5]
              have HH := Aside0.mk H; have HBA := Aside0.mk HB
              clear H HB
              go_wp2_with fail
              exact HKK.out _ _ ⟨fun j => if j = 6 then .bool true else v j, by simp [e3, e4, e5], HBA.out, HH.out.1, HH.out.2.1, HH.out.2.2.1, HH.out.2.2.2.1, HH.out.2.2.2.2.1, HH.out.2.2.2.2.2.1, fun _ => rfl, HH.out.2.2.2.2.2.2.2.1, HH.out.2.2.2.2.2.2.2.2.1, HH.out.2.2.2.2.2.2.2.2.2.1, HH.out.2.2.2.2.2.2.2.2.2.2.1, HH.out.2.2.2.2.2.2.2.2.2.2.2.1, HH.out.2.2.2.2.2.2.2.2.2.2.2.2.1, HH.out.2.2.2.2.2.2.2.2.2.2.2.2.2.1, HH.out.2.2.2.2.2.2.2.2.2.2.2.2.2.2.1, HH.out.2.2.2.2.2.2.2.2.2.2.2.2.2.2.2.1, HH.out.2.2.2.2.2.2.2.2.2.2.2.2.2.2.2.2.1, HH.out.2.2.2.2.2.2.2.2.2.2.2.2.2.2.2.2.2.1, HH.out.2.2.2.2.2.2.2.2.2.2.2.2.2.2.2.2.2.2.1, HH.out.2.2.2.2.2.2.2.2.2.2.2.2.2.2.2.2.2.2.2.1, HH.out.2.2.2.2.2.2.2.2.2.2.2.2.2.2.2.2.2.2.2.2.1, HH.out.2.2.2.2.2.2.2.2.2.2.2.2.2.2.2.2.2.2.2.2.2.1, HH.out.2.2.2.2.2.2.2.2.2.2.2.2.2.2.2.2.2.2.2.2.2.2.1, HH.out.2.2.2.2.2.2.2.2.2.2.2.2.2.2.2.2.2.2.2.2.2.2.2.1, HH.out.2.2.2.2.2.2.2.2.2.2.2.2.2.2.2.2.2.2.2.2.2.2.2.2.1, HH.out.2.2.2.2.2.2.2.2.2.2.2.2.2.2.2.2.2.2.2.2.2.2.2.2.2.1, HH.out.2.2.2.2.2.2.2.2.2.2.2.2.2.2.2.2.2.2.2.2.2.2.2.2.2.2.1, HH.out.2.2.2.2.2.2.2.2.2.2.2.2.2.2.2.2.2.2.2.2.2.2.2.2.2.2.2.1, HH.out.2.2.2.2.2.2.2.2.2.2.2.2.2.2.2.2.2.2.2.2.2.2.2.2.2.2.2.2.1, HH.out.2.2.2.2.2.2.2.2.2.2.2.2.2.2.2.2.2.2.2.2.2.2.2.2.2.2.2.2.2.1, HH.out.2.2.2.2.2.2.2.2.2.2.2.2.2.2.2.2.2.2.2.2.2.2.2.2.2.2.2.2.2.2.1, HH.out.2.2.2.2.2.2.2.2.2.2.2.2.2.2.2.2.2.2.2.2.2.2.2.2.2.2.2.2.2.2.2⟩
            · rintro f act U ⟨v, rfl, HB, H⟩ hi hT K hK
              have HKK := Aside0.mk hK
              clear hK
              have e3 := H.2.2.2.1 (hT 3 (by decide))
              have e6 := H.2.2.2.2.2.2.1 (hT 6 (by decide))
              simp only [e3, e6]
              have HH := Aside0.mk H; have HBA := Aside0.mk HB
              clear H HB
              go_wp2_with fail
              exact HKK.out _ _ ⟨fun j => if j = 7 then .bool true else v j, by simp [e3, e6], HBA.out, HH.out.1, HH.out.2.1, HH.out.2.2.1, HH.out.2.2.2.1, HH.out.2.2.2.2.1, HH.out.2.2.2.2.2.1, HH.out.2.2.2.2.2.2.1, fun _ => rfl, HH.out.2.2.2.2.2.2.2.2.1, HH.out.2.2.2.2.2.2.2.2.2.1, HH.out.2.2.2.2.2.2.2.2.2.2.1, HH.out.2.2.2.2.2.2.2.2.2.2.2.1, HH.out.2.2.2.2.2.2.2.2.2.2.2.2.1, HH.out.2.2.2.2.2.2.2.2.2.2.2.2.2.1, HH.out.2.2.2.2.2.2.2.2.2.2.2.2.2.2.1, HH.out.2.2.2.2.2.2.2.2.2.2.2.2.2.2.2.1, HH.out.2.2.2.2.2.2.2.2.2.2.2.2.2.2.2.2.1, HH.out.2.2.2.2.2.2.2.2.2.2.2.2.2.2.2.2.2.1, HH.out.2.2.2.2.2.2.2.2.2.2.2.2.2.2.2.2.2.2.1, HH.out.2.2.2.2.2.2.2.2.2.2.2.2.2.2.2.2.2.2.2.1, HH.out.2.2.2.2.2.2.2.2.2.2.2.2.2.2.2.2.2.2.2.2.1, HH.out.2.2.2.2.2.2.2.2.2.2.2.2.2.2.2.2.2.2.2.2.2.1, HH.out.2.2.2.2.2.2.2.2.2.2.2.2.2.2.2.2.2.2.2.2.2.2.1, HH.out.2.2.2.2.2.2.2.2.2.2.2.2.2.2.2.2.2.2.2.2.2.2.2.1, HH.out.2.2.2.2.2.2.2.2.2.2.2.2.2.2.2.2.2.2.2.2.2.2.2.2.1, HH.out.2.2.2.2.2.2.2.2.2.2.2.2.2.2.2.2.2.2.2.2.2.2.2.2.2.1, HH.out.2.2.2.2.2.2.2.2.2.2.2.2.2.2.2.2.2.2.2.2.2.2.2.2.2.2.1, HH.out.2.2.2.2.2.2.2.2.2.2.2.2.2.2.2.2.2.2.2.2.2.2.2.2.2.2.2.1, HH.out.2.2.2.2.2.2.2.2.2.2.2.2.2.2.2.2.2.2.2.2.2.2.2.2.2.2.2.2.1, HH.out.2.2.2.2.2.2.2.2.2.2.2.2.2.2.2.2.2.2.2.2.2.2.2.2.2.2.2.2.2.1, HH.out.2.2.2.2.2.2.2.2.2.2.2.2.2.2.2.2.2.2.2.2.2.2.2.2.2.2.2.2.2.2.1, HH.out.2.2.2.2.2.2.2.2.2.2.2.2.2.2.2.2.2.2.2.2.2.2.2.2.2.2.2.2.2.2.2⟩
            · rintro f act U ⟨v, rfl, HB, H⟩ hi hT K hK
              have HKK := Aside0.mk hK
              clear hK
              have e7 := H.2.2.2.2.2.2.2.1 (hT 7 (by decide))
              simp only [e7]
              have HH := Aside0.mk H; have HBA := Aside0.mk HB
              clear H HB
              go_wp2_with fail
              exact HKK.out _ _ ⟨fun j => if j = 8 then .bool true else v j, by simp [e7], HBA.out, HH.out.1, HH.out.2.1, HH.out.2.2.1, HH.out.2.2.2.1, HH.out.2.2.2.2.1, HH.out.2.2.2.2.2.1, HH.out.2.2.2.2.2.2.1, HH.out.2.2.2.2.2.2.2.1, fun _ => rfl, HH.out.2.2.2.2.2.2.2.2.2.1, HH.out.2.2.2.2.2.2.2.2.2.2.1, HH.out.2.2.2.2.2.2.2.2.2.2.2.1, HH.out.2.2.2.2.2.2.2.2.2.2.2.2.1, HH.out.2.2.2.2.2.2.2.2.2.2.2.2.2.1, HH.out.2.2.2.2.2.2.2.2.2.2.2.2.2.2.1, HH.out.2.2.2.2.2.2.2.2.2.2.2.2.2.2.2.1, HH.out.2.2.2.2.2.2.2.2.2.2.2.2.2.2.2.2.1, HH.out.2.2.2.2.2.2.2.2.2.2.2.2.2.2.2.2.2.1, HH.out.2.2.2.2.2.2.2.2.2.2.2.2.2.2.2.2.2.2.1, HH.out.2.2.2.2.2.2.2.2.2.2.2.2.2.2.2.2.2.2.2.1, HH.out.2.2.2.2.2.2.2.2.2.2.2.2.2.2.2.2.2.2.2.2.1, HH.out.2.2.2.2.2.2.2.2.2.2.2.2.2.2.2.2.2.2.2.2.2.1, HH.out.2.2.2.2.2.2.2.2.2.2.2.2.2.2.2.2.2.2.2.2.2.2.1, HH.out.2.2.2.2.2.2.2.2.2.2.2.2.2.2.2.2.2.2.2.2.2.2.2.1, HH.out.2.2.2.2.2.2.2.2.2.2.2.2.2.2.2.2.2.2.2.2.2.2.2.2.1, HH.out.2.2.2.2.2.2.2.2.2.2.2.2.2.2.2.2.2.2.2.2.2.2.2.2.2.1, HH.out.2.2.2.2.2.2.2.2.2.2.2.2.2.2.2.2.2.2.2.2.2.2.2.2.2.2.1, HH.out.2.2.2.2.2.2.2.2.2.2.2.2.2.2.2.2.2.2.2.2.2.2.2.2.2.2.2.1, HH.out.2.2.2.2.2.2.2.2.2.2.2.2.2.2.2.2.2.2.2.2.2.2.2.2.2.2.2.2.1, HH.out.2.2.2.2.2.2.2.2.2.2.2.2.2.2.2.2.2.2.2.2.2.2.2.2.2.2.2.2.2.1, HH.out.2.2.2.2.2.2.2.2.2.2.2.2.2.2.2.2.2.2.2.2.2.2.2.2.2.2.2.2.2.2.1, HH.out.2.2.2.2.2.2.2.2.2.2.2.2.2.2.2.2.2.2.2.2.2.2.2.2.2.2.2.2.2.2.2⟩
            · rintro f act U ⟨v, rfl, HB, H⟩ hi hT K hK
              have HKK := Aside0.mk hK
              clear hK
              have e8 := H.2.2.2.2.2.2.2.2.1 (hT 8 (by decide))
              simp only [e8]
              have HH := Aside0.mk H; have HBA := Aside0.mk HB
              clear H HB
              go_wp2_with fail
              exact HKK.out _ _ ⟨fun j => if j = 9 then .int .i64 b else v j, by simp [e8], HBA.out, HH.out.1, HH.out.2.1, HH.out.2.2.1, HH.out.2.2.2.1, HH.out.2.2.2.2.1, HH.out.2.2.2.2.2.1, HH.out.2.2.2.2.2.2.1, HH.out.2.2.2.2.2.2.2.1, HH.out.2.2.2.2.2.2.2.2.1, fun _ => rfl, HH.out.2.2.2.2.2.2.2.2.2.2.1, HH.out.2.2.2.2.2.2.2.2.2.2.2.1, HH.out.2.2.2.2.2.2.2.2.2.2.2.2.1, HH.out.2.2.2.2.2.2.2.2.2.2.2.2.2.1, HH.out.2.2.2.2.2.2.2.2.2.2.2.2.2.2.1, HH.out.2.2.2.2.2.2.2.2.2.2.2.2.2.2.2.1, HH.out.2.2.2.2.2.2.2.2.2.2.2.2.2.2.2.2.1, HH.out.2.2.2.2.2.2.2.2.2.2.2.2.2.2.2.2.2.1, HH.out.2.2.2.2.2.2.2.2.2.2.2.2.2.2.2.2.2.2.1, HH.out.2.2.2.2.2.2.2.2.2.2.2.2.2.2.2.2.2.2.2.1, HH.out.2.2.2.2.2.2.2.2.2.2.2.2.2.2.2.2.2.2.2.2.1, HH.out.2.2.2.2.2.2.2.2.2.2.2.2.2.2.2.2.2.2.2.2.2.1, HH.out.2.2.2.2.2.2.2.2.2.2.2.2.2.2.2.2.2.2.2.2.2.2.1, HH.out.2.2.2.2.2.2.2.2.2.2.2.2.2.2.2.2.2.2.2.2.2.2.2.1, HH.out.2.2.2.2.2.2.2.2.2.2.2.2.2.2.2.2.2.2.2.2.2.2.2.2.1, HH.out.2.2.2.2.2.2.2.2.2.2.2.2.2.2.2.2.2.2.2.2.2.2.2.2.2.1, HH.out.2.2.2.2.2.2.2.2.2.2.2.2.2.2.2.2.2.2.2.2.2.2.2.2.2.2.1, HH.out.2.2.2.2.2.2.2.2.2.2.2.2.2.2.2.2.2.2.2.2.2.2.2.2.2.2.2.1, HH.out.2.2.2.2.2.2.2.2.2.2.2.2.2.2.2.2.2.2.2.2.2.2.2.2.2.2.2.2.1, HH.out.2.2.2.2.2.2.2.2.2.2.2.2.2.2.2.2.2.2.2.2.2.2.2.2.2.2.2.2.2.1, HH.out.2.2.2.2.2.2.2.2.2.2.2.2.2.2.2.2.2.2.2.2.2.2.2.2.2.2.2.2.2.2.1, HH.out.2.2.2.2.2.2.2.2.2.2.2.2.2.2.2.2.2.2.2.2.2.2.2.2.2.2.2.2.2.2.2⟩
            · rintro f act U ⟨v, rfl, HB, H⟩ hi hT K hK
              have HKK := Aside0.mk hK
              clear hK
              have e8 := H.2.2.2.2.2.2.2.2.1 (hT 8 (by decide))
              have e9 := H.2.2.2.2.2.2.2.2.2.1 (hT 9 (by decide))
              simp only [e8, e9]
              have HH := Aside0.mk H; have HBA := Aside0.mk HB
              clear H HB
              go_wp2_with fail
              exact HKK.out _ _ ⟨fun j => if j = 10 then .bool false else v j, by simp [e8, e9], HBA.out, HH.out.1, HH.out.2.1, HH.out.2.2.1, HH.out.2.2.2.1, HH.out.2.2.2.2.1, HH.out.2.2.2.2.2.1, HH.out.2.2.2.2.2.2.1, HH.out.2.2.2.2.2.2.2.1, HH.out.2.2.2.2.2.2.2.2.1, HH.out.2.2.2.2.2.2.2.2.2.1, fun _ => rfl, HH.out.2.2.2.2.2.2.2.2.2.2.2.1, HH.out.2.2.2.2.2.2.2.2.2.2.2.2.1, HH.out.2.2.2.2.2.2.2.2.2.2.2.2.2.1, HH.out.2.2.2.2.2.2.2.2.2.2.2.2.2.2.1, HH.out.2.2.2.2.2.2.2.2.2.2.2.2.2.2.2.1, HH.out.2.2.2.2.2.2.2.2.2.2.2.2.2.2.2.2.1, HH.out.2.2.2.2.2.2.2.2.2.2.2.2.2.2.2.2.2.1, HH.out.2.2.2.2.2.2.2.2.2.2.2.2.2.2.2.2.2.2.1, HH.out.2.2.2.2.2.2.2.2.2.2.2.2.2.2.2.2.2.2.2.1, HH.out.2.2.2.2.2.2.2.2.2.2.2.2.2.2.2.2.2.2.2.2.1, HH.out.2.2.2.2.2.2.2.2.2.2.2.2.2.2.2.2.2.2.2.2.2.1, HH.out.2.2.2.2.2.2.2.2.2.2.2.2.2.2.2.2.2.2.2.2.2.2.1, HH.out.2.2.2.2.2.2.2.2.2.2.2.2.2.2.2.2.2.2.2.2.2.2.2.1, HH.out.2.2.2.2.2.2.2.2.2.2.2.2.2.2.2.2.2.2.2.2.2.2.2.2.1, HH.out.2.2.2.2.2.2.2.2.2.2.2.2.2.2.2.2.2.2.2.2.2.2.2.2.2.1, HH.out.2.2.2.2.2.2.2.2.2.2.2.2.2.2.2.2.2.2.2.2.2.2.2.2.2.2.1, HH.out.2.2.2.2.2.2.2.2.2.2.2.2.2.2.2.2.2.2.2.2.2.2.2.2.2.2.2.1, HH.out.2.2.2.2.2.2.2.2.2.2.2.2.2.2.2.2.2.2.2.2.2.2.2.2.2.2.2.2.1, HH.out.2.2.2.2.2.2.2.2.2.2.2.2.2.2.2.2.2.2.2.2.2.2.2.2.2.2.2.2.2.1, HH.out.2.2.2.2.2.2.2.2.2.2.2.2.2.2.2.2.2.2.2.2.2.2.2.2.2.2.2.2.2.2.1, HH.out.2.2.2.2.2.2.2.2.2.2.2.2.2.2.2.2.2.2.2.2.2.2.2.2.2.2.2.2.2.2.2⟩
            · rintro f act U ⟨v, rfl, HB, H⟩ hi hT K hK
              have HKK := Aside0.mk hK
              clear hK
              have e8 := H.2.2.2.2.2.2.2.2.1 (hT 8 (by decide))
              have e10 := H.2.2.2.2.2.2.2.2.2.2.1 (hT 10 (by decide))
              simp only [e8, e10]
              have HH := Aside0.mk H; have HBA := Aside0.mk HB
              clear H HB
              go_wp2_with fail
              exact HKK.out _ _ ⟨fun j => if j = 11 then .bool false else v j, by simp [e8, e10], HBA.out, HH.out.1, HH.out.2.1, HH.out.2.2.1, HH.out.2.2.2.1, HH.out.2.2.2.2.1, HH.out.2.2.2.2.2.1, HH.out.2.2.2.2.2.2.1, HH.out.2.2.2.2.2.2.2.1, HH.out.2.2.2.2.2.2.2.2.1, HH.out.2.2.2.2.2.2.2.2.2.1, HH.out.2.2.2.2.2.2.2.2.2.2.1, fun _ => rfl, HH.out.2.2.2.2.2.2.2.2.2.2.2.2.1, HH.out.2.2.2.2.2.2.2.2.2.2.2.2.2.1, HH.out.2.2.2.2.2.2.2.2.2.2.2.2.2.2.1, HH.out.2.2.2.2.2.2.2.2.2.2.2.2.2.2.2.1, HH.out.2.2.2.2.2.2.2.2.2.2.2.2.2.2.2.2.1, HH.out.2.2.2.2.2.2.2.2.2.2.2.2.2.2.2.2.2.1, HH.out.2.2.2.2.2.2.2.2.2.2.2.2.2.2.2.2.2.2.1, HH.out.2.2.2.2.2.2.2.2.2.2.2.2.2.2.2.2.2.2.2.1, HH.out.2.2.2.2.2.2.2.2.2.2.2.2.2.2.2.2.2.2.2.2.1, HH.out.2.2.2.2.2.2.2.2.2.2.2.2.2.2.2.2.2.2.2.2.2.1, HH.out.2.2.2.2.2.2.2.2.2.2.2.2.2.2.2.2.2.2.2.2.2.2.1, HH.out.2.2.2.2.2.2.2.2.2.2.2.2.2.2.2.2.2.2.2.2.2.2.2.1, HH.out.2.2.2.2.2.2.2.2.2.2.2.2.2.2.2.2.2.2.2.2.2.2.2.2.1, HH.out.2.2.2.2.2.2.2.2.2.2.2.2.2.2.2.2.2.2.2.2.2.2.2.2.2.1, HH.out.2.2.2.2.2.2.2.2.2.2.2.2.2.2.2.2.2.2.2.2.2.2.2.2.2.2.1, HH.out.2.2.2.2.2.2.2.2.2.2.2.2.2.2.2.2.2.2.2.2.2.2.2.2.2.2.2.1, HH.out.2.2.2.2.2.2.2.2.2.2.2.2.2.2.2.2.2.2.2.2.2.2.2.2.2.2.2.2.1, HH.out.2.2.2.2.2.2.2.2.2.2.2.2.2.2.2.2.2.2.2.2.2.2.2.2.2.2.2.2.2.1, HH.out.2.2.2.2.2.2.2.2.2.2.2.2.2.2.2.2.2.2.2.2.2.2.2.2.2.2.2.2.2.2.1, HH.out.2.2.2.2.2.2.2.2.2.2.2.2.2.2.2.2.2.2.2.2.2.2.2.2.2.2.2.2.2.2.2⟩
            · rintro f act U ⟨v, rfl, HB, H⟩ hi hT K hK
              have HKK := Aside0.mk hK
              clear hK
              have e11 := H.2.2.2.2.2.2.2.2.2.2.2.1 (hT 11 (by decide))
              simp only [e11]
              have HH := Aside0.mk H; have HBA := Aside0.mk HB
              clear H HB
              go_wp2_with fail
              exact HKK.out _ _ ⟨fun j => if j = 12 then undef else v j, by simp [e11], HBA.out, HH.out.1, HH.out.2.1, HH.out.2.2.1, HH.out.2.2.2.1, HH.out.2.2.2.2.1, HH.out.2.2.2.2.2.1, HH.out.2.2.2.2.2.2.1, HH.out.2.2.2.2.2.2.2.1, HH.out.2.2.2.2.2.2.2.2.1, HH.out.2.2.2.2.2.2.2.2.2.1, HH.out.2.2.2.2.2.2.2.2.2.2.1, HH.out.2.2.2.2.2.2.2.2.2.2.2.1, fun _ => rfl, HH.out.2.2.2.2.2.2.2.2.2.2.2.2.2.1, HH.out.2.2.2.2.2.2.2.2.2.2.2.2.2.2.1, HH.out.2.2.2.2.2.2.2.2.2.2.2.2.2.2.2.1, HH.out.2.2.2.2.2.2.2.2.2.2.2.2.2.2.2.2.1, HH.out.2.2.2.2.2.2.2.2.2.2.2.2.2.2.2.2.2.1, HH.out.2.2.2.2.2.2.2.2.2.2.2.2.2.2.2.2.2.2.1, HH.out.2.2.2.2.2.2.2.2.2.2.2.2.2.2.2.2.2.2.2.1, HH.out.2.2.2.2.2.2.2.2.2.2.2.2.2.2.2.2.2.2.2.2.1, HH.out.2.2.2.2.2.2.2.2.2.2.2.2.2.2.2.2.2.2.2.2.2.1, HH.out.2.2.2.2.2.2.2.2.2.2.2.2.2.2.2.2.2.2.2.2.2.2.1, HH.out.2.2.2.2.2.2.2.2.2.2.2.2.2.2.2.2.2.2.2.2.2.2.2.1, HH.out.2.2.2.2.2.2.2.2.2.2.2.2.2.2.2.2.2.2.2.2.2.2.2.2.1, HH.out.2.2.2.2.2.2.2.2.2.2.2.2.2.2.2.2.2.2.2.2.2.2.2.2.2.1, HH.out.2.2.2.2.2.2.2.2.2.2.2.2.2.2.2.2.2.2.2.2.2.2.2.2.2.2.1, HH.out.2.2.2.2.2.2.2.2.2.2.2.2.2.2.2.2.2.2.2.2.2.2.2.2.2.2.2.1, HH.out.2.2.2.2.2.2.2.2.2.2.2.2.2.2.2.2.2.2.2.2.2.2.2.2.2.2.2.2.1, HH.out.2.2.2.2.2.2.2.2.2.2.2.2.2.2.2.2.2.2.2.2.2.2.2.2.2.2.2.2.2.1, HH.out.2.2.2.2.2.2.2.2.2.2.2.2.2.2.2.2.2.2.2.2.2.2.2.2.2.2.2.2.2.2.1, HH.out.2.2.2.2.2.2.2.2.2.2.2.2.2.2.2.2.2.2.2.2.2.2.2.2.2.2.2.2.2.2.2⟩
            · rintro f act U ⟨v, rfl, HB, H⟩ hi hT K hK
              have HKK := Aside0.mk hK
              clear hK
              have e11 := H.2.2.2.2.2.2.2.2.2.2.2.1 (hT 11 (by decide))
              simp only [e11]
              have HH := Aside0.mk H; have HBA := Aside0.mk HB
              clear H HB
              go_wp2_with fail
              exact HKK.out _ _ ⟨fun j => if j = 13 then undef else v j, by simp [e11], HBA.out, HH.out.1, HH.out.2.1, HH.out.2.2.1, HH.out.2.2.2.1, HH.out.2.2.2.2.1, HH.out.2.2.2.2.2.1, HH.out.2.2.2.2.2.2.1, HH.out.2.2.2.2.2.2.2.1, HH.out.2.2.2.2.2.2.2.2.1, HH.out.2.2.2.2.2.2.2.2.2.1, HH.out.2.2.2.2.2.2.2.2.2.2.1, HH.out.2.2.2.2.2.2.2.2.2.2.2.1, HH.out.2.2.2.2.2.2.2.2.2.2.2.2.1, fun _ => rfl, HH.out.2.2.2.2.2.2.2.2.2.2.2.2.2.2.1, HH.out.2.2.2.2.2.2.2.2.2.2.2.2.2.2.2.1, HH.out.2.2.2.2.2.2.2.2.2.2.2.2.2.2.2.2.1, HH.out.2.2.2.2.2.2.2.2.2.2.2.2.2.2.2.2.2.1, HH.out.2.2.2.2.2.2.2.2.2.2.2.2.2.2.2.2.2.2.1, HH.out.2.2.2.2.2.2.2.2.2.2.2.2.2.2.2.2.2.2.2.1, HH.out.2.2.2.2.2.2.2.2.2.2.2.2.2.2.2.2.2.2.2.2.1, HH.out.2.2.2.2.2.2.2.2.2.2.2.2.2.2.2.2.2.2.2.2.2.1, HH.out.2.2.2.2.2.2.2.2.2.2.2.2.2.2.2.2.2.2.2.2.2.2.1, HH.out.2.2.2.2.2.2.2.2.2.2.2.2.2.2.2.2.2.2.2.2.2.2.2.1, HH.out.2.2.2.2.2.2.2.2.2.2.2.2.2.2.2.2.2.2.2.2.2.2.2.2.1, HH.out.2.2.2.2.2.2.2.2.2.2.2.2.2.2.2.2.2.2.2.2.2.2.2.2.2.1, HH.out.2.2.2.2.2.2.2.2.2.2.2.2.2.2.2.2.2.2.2.2.2.2.2.2.2.2.1, HH.out.2.2.2.2.2.2.2.2.2.2.2.2.2.2.2.2.2.2.2.2.2.2.2.2.2.2.2.1, HH.out.2.2.2.2.2.2.2.2.2.2.2.2.2.2.2.2.2.2.2.2.2.2.2.2.2.2.2.2.1, HH.out.2.2.2.2.2.2.2.2.2.2.2.2.2.2.2.2.2.2.2.2.2.2.2.2.2.2.2.2.2.1, HH.out.2.2.2.2.2.2.2.2.2.2.2.2.2.2.2.2.2.2.2.2.2.2.2.2.2.2.2.2.2.2.1, HH.out.2.2.2.2.2.2.2.2.2.2.2.2.2.2.2.2.2.2.2.2.2.2.2.2.2.2.2.2.2.2.2⟩
            · rintro f act U ⟨v, rfl, HB, H⟩ hi hT K hK
              have HKK := Aside0.mk hK
              clear hK
              have e11 := H.2.2.2.2.2.2.2.2.2.2.2.1 (hT 11 (by decide))
              simp only [e11]
              have HH := Aside0.mk H; have HBA := Aside0.mk HB
              clear H HB
              go_wp2_with fail
              exact HKK.out _ _ ⟨fun j => if j = 14 then undef else v j, by simp [e11], HBA.out, HH.out.1, HH.out.2.1, HH.out.2.2.1, HH.out.2.2.2.1, HH.out.2.2.2.2.1, HH.out.2.2.2.2.2.1, HH.out.2.2.2.2.2.2.1, HH.out.2.2.2.2.2.2.2.1, HH.out.2.2.2.2.2.2.2.2.1, HH.out.2.2.2.2.2.2.2.2.2.1, HH.out.2.2.2.2.2.2.2.2.2.2.1, HH.out.2.2.2.2.2.2.2.2.2.2.2.1, HH.out.2.2.2.2.2.2.2.2.2.2.2.2.1, HH.out.2.2.2.2.2.2.2.2.2.2.2.2.2.1, fun _ => rfl, HH.out.2.2.2.2.2.2.2.2.2.2.2.2.2.2.2.1, HH.out.2.2.2.2.2.2.2.2.2.2.2.2.2.2.2.2.1, HH.out.2.2.2.2.2.2.2.2.2.2.2.2.2.2.2.2.2.1, HH.out.2.2.2.2.2.2.2.2.2.2.2.2.2.2.2.2.2.2.1, HH.out.2.2.2.2.2.2.2.2.2.2.2.2.2.2.2.2.2.2.2.1, HH.out.2.2.2.2.2.2.2.2.2.2.2.2.2.2.2.2.2.2.2.2.1, HH.out.2.2.2.2.2.2.2.2.2.2.2.2.2.2.2.2.2.2.2.2.2.1, HH.out.2.2.2.2.2.2.2.2.2.2.2.2.2.2.2.2.2.2.2.2.2.2.1, HH.out.2.2.2.2.2.2.2.2.2.2.2.2.2.2.2.2.2.2.2.2.2.2.2.1, HH.out.2.2.2.2.2.2.2.2.2.2.2.2.2.2.2.2.2.2.2.2.2.2.2.2.1, HH.out.2.2.2.2.2.2.2.2.2.2.2.2.2.2.2.2.2.2.2.2.2.2.2.2.2.1, HH.out.2.2.2.2.2.2.2.2.2.2.2.2.2.2.2.2.2.2.2.2.2.2.2.2.2.2.1, HH.out.2.2.2.2.2.2.2.2.2.2.2.2.2.2.2.2.2.2.2.2.2.2.2.2.2.2.2.1, HH.out.2.2.2.2.2.2.2.2.2.2.2.2.2.2.2.2.2.2.2.2.2.2.2.2.2.2.2.2.1, HH.out.2.2.2.2.2.2.2.2.2.2.2.2.2.2.2.2.2.2.2.2.2.2.2.2.2.2.2.2.2.1, HH.out.2.2.2.2.2.2.2.2.2.2.2.2.2.2.2.2.2.2.2.2.2.2.2.2.2.2.2.2.2.2.1, HH.out.2.2.2.2.2.2.2.2.2.2.2.2.2.2.2.2.2.2.2.2.2.2.2.2.2.2.2.2.2.2.2⟩
            · rintro f act U ⟨v, rfl, HB, H⟩ hi hT K hK
              have HKK := Aside0.mk hK
              clear hK
              have e8 := H.2.2.2.2.2.2.2.2.1 (hT 8 (by decide))
              have e11 := H.2.2.2.2.2.2.2.2.2.2.2.1 (hT 11 (by decide))
              have e14 := H.2.2.2.2.2.2.2.2.2.2.2.2.2.2.1 (hT 14 (by decide))
              simp only [e8, e11, e14]
              have HH := Aside0.mk H; have HBA := Aside0.mk HB
              clear H HB
              go_wp2_with fail
              exact HKK.out _ _ ⟨fun j => if j = 15 then .bool false else v j, by simp [e8, e11, e14], HBA.out, HH.out.1, HH.out.2.1, HH.out.2.2.1, HH.out.2.2.2.1, HH.out.2.2.2.2.1, HH.out.2.2.2.2.2.1, HH.out.2.2.2.2.2.2.1, HH.out.2.2.2.2.2.2.2.1, HH.out.2.2.2.2.2.2.2.2.1, HH.out.2.2.2.2.2.2.2.2.2.1, HH.out.2.2.2.2.2.2.2.2.2.2.1, HH.out.2.2.2.2.2.2.2.2.2.2.2.1, HH.out.2.2.2.2.2.2.2.2.2.2.2.2.1, HH.out.2.2.2.2.2.2.2.2.2.2.2.2.2.1, HH.out.2.2.2.2.2.2.2.2.2.2.2.2.2.2.1, fun _ => rfl, HH.out.2.2.2.2.2.2.2.2.2.2.2.2.2.2.2.2.1, HH.out.2.2.2.2.2.2.2.2.2.2.2.2.2.2.2.2.2.1, HH.out.2.2.2.2.2.2.2.2.2.2.2.2.2.2.2.2.2.2.1, HH.out.2.2.2.2.2.2.2.2.2.2.2.2.2.2.2.2.2.2.2.1, HH.out.2.2.2.2.2.2.2.2.2.2.2.2.2.2.2.2.2.2.2.2.1, HH.out.2.2.2.2.2.2.2.2.2.2.2.2.2.2.2.2.2.2.2.2.2.1, HH.out.2.2.2.2.2.2.2.2.2.2.2.2.2.2.2.2.2.2.2.2.2.2.1, HH.out.2.2.2.2.2.2.2.2.2.2.2.2.2.2.2.2.2.2.2.2.2.2.2.1, HH.out.2.2.2.2.2.2.2.2.2.2.2.2.2.2.2.2.2.2.2.2.2.2.2.2.1, HH.out.2.2.2.2.2.2.2.2.2.2.2.2.2.2.2.2.2.2.2.2.2.2.2.2.2.1, HH.out.2.2.2.2.2.2.2.2.2.2.2.2.2.2.2.2.2.2.2.2.2.2.2.2.2.2.1, HH.out.2.2.2.2.2.2.2.2.2.2.2.2.2.2.2.2.2.2.2.2.2.2.2.2.2.2.2.1, HH.out.2.2.2.2.2.2.2.2.2.2.2.2.2.2.2.2.2.2.2.2.2.2.2.2.2.2.2.2.1, HH.out.2.2.2.2.2.2.2.2.2.2.2.2.2.2.2.2.2.2.2.2.2.2.2.2.2.2.2.2.2.1, HH.out.2.2.2.2.2.2.2.2.2.2.2.2.2.2.2.2.2.2.2.2.2.2.2.2.2.2.2.2.2.2.1, HH.out.2.2.2.2.2.2.2.2.2.2.2.2.2.2.2.2.2.2.2.2.2.2.2.2.2.2.2.2.2.2.2⟩
            · rintro f act U ⟨v, rfl, HB, H⟩ hi hT K hK
              have HKK := Aside0.mk hK
              clear hK
              have e8 := H.2.2.2.2.2.2.2.2.1 (hT 8 (by decide))
              have e15 := H.2.2.2.2.2.2.2.2.2.2.2.2.2.2.2.1 (hT 15 (by decide))
              simp only [e8, e15]
              have HH := Aside0.mk H; have HBA := Aside0.mk HB
              clear H HB
              go_wp2_with fail
              exact HKK.out _ _ ⟨fun j => if j = 16 then .bool false else v j, by simp [e8, e15], HBA.out, HH.out.1, HH.out.2.1, HH.out.2.2.1, HH.out.2.2.2.1, HH.out.2.2.2.2.1, HH.out.2.2.2.2.2.1, HH.out.2.2.2.2.2.2.1, HH.out.2.2.2.2.2.2.2.1, HH.out.2.2.2.2.2.2.2.2.1, HH.out.2.2.2.2.2.2.2.2.2.1, HH.out.2.2.2.2.2.2.2.2.2.2.1, HH.out.2.2.2.2.2.2.2.2.2.2.2.1, HH.out.2.2.2.2.2.2.2.2.2.2.2.2.1, HH.out.2.2.2.2.2.2.2.2.2.2.2.2.2.1, HH.out.2.2.2.2.2.2.2.2.2.2.2.2.2.2.1, HH.out.2.2.2.2.2.2.2.2.2.2.2.2.2.2.2.1, fun _ => rfl, HH.out.2.2.2.2.2.2.2.2.2.2.2.2.2.2.2.2.2.1, HH.out.2.2.2.2.2.2.2.2.2.2.2.2.2.2.2.2.2.2.1, HH.out.2.2.2.2.2.2.2.2.2.2.2.2.2.2.2.2.2.2.2.1, HH.out.2.2.2.2.2.2.2.2.2.2.2.2.2.2.2.2.2.2.2.2.1, HH.out.2.2.2.2.2.2.2.2.2.2.2.2.2.2.2.2.2.2.2.2.2.1, HH.out.2.2.2.2.2.2.2.2.2.2.2.2.2.2.2.2.2.2.2.2.2.2.1, HH.out.2.2.2.2.2.2.2.2.2.2.2.2.2.2.2.2.2.2.2.2.2.2.2.1, HH.out.2.2.2.2.2.2.2.2.2.2.2.2.2.2.2.2.2.2.2.2.2.2.2.2.1, HH.out.2.2.2.2.2.2.2.2.2.2.2.2.2.2.2.2.2.2.2.2.2.2.2.2.2.1, HH.out.2.2.2.2.2.2.2.2.2.2.2.2.2.2.2.2.2.2.2.2.2.2.2.2.2.2.1, HH.out.2.2.2.2.2.2.2.2.2.2.2.2.2.2.2.2.2.2.2.2.2.2.2.2.2.2.2.1, HH.out.2.2.2.2.2.2.2.2.2.2.2.2.2.2.2.2.2.2.2.2.2.2.2.2.2.2.2.2.1, HH.out.2.2.2.2.2.2.2.2.2.2.2.2.2.2.2.2.2.2.2.2.2.2.2.2.2.2.2.2.2.1, HH.out.2.2.2.2.2.2.2.2.2.2.2.2.2.2.2.2.2.2.2.2.2.2.2.2.2.2.2.2.2.2.1, HH.out.2.2.2.2.2.2.2.2.2.2.2.2.2.2.2.2.2.2.2.2.2.2.2.2.2.2.2.2.2.2.2⟩
            · rintro f act U ⟨v, rfl, HB, H⟩ hi hT K hK
              have HKK := Aside0.mk hK
              clear hK
              have e16 := H.2.2.2.2.2.2.2.2.2.2.2.2.2.2.2.2.1 (hT 16 (by decide))
              simp only [e16]
              have HH := Aside0.mk H; have HBA := Aside0.mk HB
              clear H HB
              go_wp2_with fail
              exact HKK.out _ _ ⟨fun j => if j = 17 then .int .i64 b else v j, by simp [e16], HBA.out, HH.out.1, HH.out.2.1, HH.out.2.2.1, HH.out.2.2.2.1, HH.out.2.2.2.2.1, HH.out.2.2.2.2.2.1, HH.out.2.2.2.2.2.2.1, HH.out.2.2.2.2.2.2.2.1, HH.out.2.2.2.2.2.2.2.2.1, HH.out.2.2.2.2.2.2.2.2.2.1, HH.out.2.2.2.2.2.2.2.2.2.2.1, HH.out.2.2.2.2.2.2.2.2.2.2.2.1, HH.out.2.2.2.2.2.2.2.2.2.2.2.2.1, HH.out.2.2.2.2.2.2.2.2.2.2.2.2.2.1, HH.out.2.2.2.2.2.2.2.2.2.2.2.2.2.2.1, HH.out.2.2.2.2.2.2.2.2.2.2.2.2.2.2.2.1, HH.out.2.2.2.2.2.2.2.2.2.2.2.2.2.2.2.2.1, fun _ => rfl, HH.out.2.2.2.2.2.2.2.2.2.2.2.2.2.2.2.2.2.2.1, HH.out.2.2.2.2.2.2.2.2.2.2.2.2.2.2.2.2.2.2.2.1, HH.out.2.2.2.2.2.2.2.2.2.2.2.2.2.2.2.2.2.2.2.2.1, HH.out.2.2.2.2.2.2.2.2.2.2.2.2.2.2.2.2.2.2.2.2.2.1, HH.out.2.2.2.2.2.2.2.2.2.2.2.2.2.2.2.2.2.2.2.2.2.2.1, HH.out.2.2.2.2.2.2.2.2.2.2.2.2.2.2.2.2.2.2.2.2.2.2.2.1, HH.out.2.2.2.2.2.2.2.2.2.2.2.2.2.2.2.2.2.2.2.2.2.2.2.2.1, HH.out.2.2.2.2.2.2.2.2.2.2.2.2.2.2.2.2.2.2.2.2.2.2.2.2.2.1, HH.out.2.2.2.2.2.2.2.2.2.2.2.2.2.2.2.2.2.2.2.2.2.2.2.2.2.2.1, HH.out.2.2.2.2.2.2.2.2.2.2.2.2.2.2.2.2.2.2.2.2.2.2.2.2.2.2.2.1, HH.out.2.2.2.2.2.2.2.2.2.2.2.2.2.2.2.2.2.2.2.2.2.2.2.2.2.2.2.2.1, HH.out.2.2.2.2.2.2.2.2.2.2.2.2.2.2.2.2.2.2.2.2.2.2.2.2.2.2.2.2.2.1, HH.out.2.2.2.2.2.2.2.2.2.2.2.2.2.2.2.2.2.2.2.2.2.2.2.2.2.2.2.2.2.2.1, HH.out.2.2.2.2.2.2.2.2.2.2.2.2.2.2.2.2.2.2.2.2.2.2.2.2.2.2.2.2.2.2.2⟩
            · rintro f act U ⟨v, rfl, HB, H⟩ hi hT K hK
              have HKK := Aside0.mk hK
              clear hK
              have e16 := H.2.2.2.2.2.2.2.2.2.2.2.2.2.2.2.2.1 (hT 16 (by decide))
              have e17 := H.2.2.2.2.2.2.2.2.2.2.2.2.2.2.2.2.2.1 (hT 17 (by decide))
              simp only [e16, e17]
              have HH := Aside0.mk H; have HBA := Aside0.mk HB
              clear H HB
              go_wp2_with fail
              exact HKK.out _ _ ⟨fun j => if j = 18 then .bool true else v j, by simp [e16, e17], HBA.out, HH.out.1, HH.out.2.1, HH.out.2.2.1, HH.out.2.2.2.1, HH.out.2.2.2.2.1, HH.out.2.2.2.2.2.1, HH.out.2.2.2.2.2.2.1, HH.out.2.2.2.2.2.2.2.1, HH.out.2.2.2.2.2.2.2.2.1, HH.out.2.2.2.2.2.2.2.2.2.1, HH.out.2.2.2.2.2.2.2.2.2.2.1, HH.out.2.2.2.2.2.2.2.2.2.2.2.1, HH.out.2.2.2.2.2.2.2.2.2.2.2.2.1, HH.out.2.2.2.2.2.2.2.2.2.2.2.2.2.1, HH.out.2.2.2.2.2.2.2.2.2.2.2.2.2.2.1, HH.out.2.2.2.2.2.2.2.2.2.2.2.2.2.2.2.1, HH.out.2.2.2.2.2.2.2.2.2.2.2.2.2.2.2.2.1, HH.out.2.2.2.2.2.2.2.2.2.2.2.2.2.2.2.2.2.1, fun _ => rfl, HH.out.2.2.2.2.2.2.2.2.2.2.2.2.2.2.2.2.2.2.2.1, HH.out.2.2.2.2.2.2.2.2.2.2.2.2.2.2.2.2.2.2.2.2.1, HH.out.2.2.2.2.2.2.2.2.2.2.2.2.2.2.2.2.2.2.2.2.2.1, HH.out.2.2.2.2.2.2.2.2.2.2.2.2.2.2.2.2.2.2.2.2.2.2.1, HH.out.2.2.2.2.2.2.2.2.2.2.2.2.2.2.2.2.2.2.2.2.2.2.2.1, HH.out.2.2.2.2.2.2.2.2.2.2.2.2.2.2.2.2.2.2.2.2.2.2.2.2.1, HH.out.2.2.2.2.2.2.2.2.2.2.2.2.2.2.2.2.2.2.2.2.2.2.2.2.2.1, HH.out.2.2.2.2.2.2.2.2.2.2.2.2.2.2.2.2.2.2.2.2.2.2.2.2.2.2.1, HH.out.2.2.2.2.2.2.2.2.2.2.2.2.2.2.2.2.2.2.2.2.2.2.2.2.2.2.2.1, HH.out.2.2.2.2.2.2.2.2.2.2.2.2.2.2.2.2.2.2.2.2.2.2.2.2.2.2.2.2.1, HH.out.2.2.2.2.2.2.2.2.2.2.2.2.2.2.2.2.2.2.2.2.2.2.2.2.2.2.2.2.2.1, HH.out.2.2.2.2.2.2.2.2.2.2.2.2.2.2.2.2.2.2.2.2.2.2.2.2.2.2.2.2.2.2.1, HH.out.2.2.2.2.2.2.2.2.2.2.2.2.2.2.2.2.2.2.2.2.2.2.2.2.2.2.2.2.2.2.2⟩
            · rintro f act U ⟨v, rfl, HB, H⟩ hi hT K hK
              have HKK := Aside0.mk hK
              clear hK
              have e16 := H.2.2.2.2.2.2.2.2.2.2.2.2.2.2.2.2.1 (hT 16 (by decide))
              have e18 := H.2.2.2.2.2.2.2.2.2.2.2.2.2.2.2.2.2.2.1 (hT 18 (by decide))
              simp only [e16, e18]
              have HH := Aside0.mk H; have HBA := Aside0.mk HB
              clear H HB
              go_wp2_with fail
              exact HKK.out _ _ ⟨fun j => if j = 19 then .bool true else v j, by simp [e16, e18], HBA.out, HH.out.1, HH.out.2.1, HH.out.2.2.1, HH.out.2.2.2.1, HH.out.2.2.2.2.1, HH.out.2.2.2.2.2.1, HH.out.2.2.2.2.2.2.1, HH.out.2.2.2.2.2.2.2.1, HH.out.2.2.2.2.2.2.2.2.1, HH.out.2.2.2.2.2.2.2.2.2.1, HH.out.2.2.2.2.2.2.2.2.2.2.1, HH.out.2.2.2.2.2.2.2.2.2.2.2.1, HH.out.2.2.2.2.2.2.2.2.2.2.2.2.1, HH.out.2.2.2.2.2.2.2.2.2.2.2.2.2.1, HH.out.2.2.2.2.2.2.2.2.2.2.2.2.2.2.1, HH.out.2.2.2.2.2.2.2.2.2.2.2.2.2.2.2.1, HH.out.2.2.2.2.2.2.2.2.2.2.2.2.2.2.2.2.1, HH.out.2.2.2.2.2.2.2.2.2.2.2.2.2.2.2.2.2.1, HH.out.2.2.2.2.2.2.2.2.2.2.2.2.2.2.2.2.2.2.1, fun _ => rfl, HH.out.2.2.2.2.2.2.2.2.2.2.2.2.2.2.2.2.2.2.2.2.1, HH.out.2.2.2.2.2.2.2.2.2.2.2.2.2.2.2.2.2.2.2.2.2.1, HH.out.2.2.2.2.2.2.2.2.2.2.2.2.2.2.2.2.2.2.2.2.2.2.1, HH.out.2.2.2.2.2.2.2.2.2.2.2.2.2.2.2.2.2.2.2.2.2.2.2.1, HH.out.2.2.2.2.2.2.2.2.2.2.2.2.2.2.2.2.2.2.2.2.2.2.2.2.1, HH.out.2.2.2.2.2.2.2.2.2.2.2.2.2.2.2.2.2.2.2.2.2.2.2.2.2.1, HH.out.2.2.2.2.2.2.2.2.2.2.2.2.2.2.2.2.2.2.2.2.2.2.2.2.2.2.1, HH.out.2.2.2.2.2.2.2.2.2.2.2.2.2.2.2.2.2.2.2.2.2.2.2.2.2.2.2.1, HH.out.2.2.2.2.2.2.2.2.2.2.2.2.2.2.2.2.2.2.2.2.2.2.2.2.2.2.2.2.1, HH.out.2.2.2.2.2.2.2.2.2.2.2.2.2.2.2.2.2.2.2.2.2.2.2.2.2.2.2.2.2.1, HH.out.2.2.2.2.2.2.2.2.2.2.2.2.2.2.2.2.2.2.2.2.2.2.2.2.2.2.2.2.2.2.1, HH.out.2.2.2.2.2.2.2.2.2.2.2.2.2.2.2.2.2.2.2.2.2.2.2.2.2.2.2.2.2.2.2⟩
            · rintro f act U ⟨v, rfl, HB, H⟩ hi hT K hK
              have HKK := Aside0.mk hK
              clear hK
              have e19 := H.2.2.2.2.2.2.2.2.2.2.2.2.2.2.2.2.2.2.2.1 (hT 19 (by decide))
              simp only [e19]
              obtain ⟨c12, c130, c131, c100, c101, z0, z1, z2, z3⟩ := KU.out U HB
              have HH := Aside0.mk H; have HBA := Aside0.mk HB
              clear H HB
              go_wp2_with fail
              exact HKK.out _ _ ⟨fun j => if j = 20 then .agg #[.int .i64 m1, .int .i64 m2] else v j, by simp [e19], HBA.out, HH.out.1, HH.out.2.1, HH.out.2.2.1, HH.out.2.2.2.1, HH.out.2.2.2.2.1, HH.out.2.2.2.2.2.1, HH.out.2.2.2.2.2.2.1, HH.out.2.2.2.2.2.2.2.1, HH.out.2.2.2.2.2.2.2.2.1, HH.out.2.2.2.2.2.2.2.2.2.1, HH.out.2.2.2.2.2.2.2.2.2.2.1, HH.out.2.2.2.2.2.2.2.2.2.2.2.1, HH.out.2.2.2.2.2.2.2.2.2.2.2.2.1, HH.out.2.2.2.2.2.2.2.2.2.2.2.2.2.1, HH.out.2.2.2.2.2.2.2.2.2.2.2.2.2.2.1, HH.out.2.2.2.2.2.2.2.2.2.2.2.2.2.2.2.1, HH.out.2.2.2.2.2.2.2.2.2.2.2.2.2.2.2.2.1, HH.out.2.2.2.2.2.2.2.2.2.2.2.2.2.2.2.2.2.1, HH.out.2.2.2.2.2.2.2.2.2.2.2.2.2.2.2.2.2.2.1, HH.out.2.2.2.2.2.2.2.2.2.2.2.2.2.2.2.2.2.2.2.1, fun _ => rfl, HH.out.2.2.2.2.2.2.2.2.2.2.2.2.2.2.2.2.2.2.2.2.2.1, HH.out.2.2.2.2.2.2.2.2.2.2.2.2.2.2.2.2.2.2.2.2.2.2.1, HH.out.2.2.2.2.2.2.2.2.2.2.2.2.2.2.2.2.2.2.2.2.2.2.2.1, HH.out.2.2.2.2.2.2.2.2.2.2.2.2.2.2.2.2.2.2.2.2.2.2.2.2.1, HH.out.2.2.2.2.2.2.2.2.2.2.2.2.2.2.2.2.2.2.2.2.2.2.2.2.2.1, HH.out.2.2.2.2.2.2.2.2.2.2.2.2.2.2.2.2.2.2.2.2.2.2.2.2.2.2.1, HH.out.2.2.2.2.2.2.2.2.2.2.2.2.2.2.2.2.2.2.2.2.2.2.2.2.2.2.2.1, HH.out.2.2.2.2.2.2.2.2.2.2.2.2.2.2.2.2.2.2.2.2.2.2.2.2.2.2.2.2.1, HH.out.2.2.2.2.2.2.2.2.2.2.2.2.2.2.2.2.2.2.2.2.2.2.2.2.2.2.2.2.2.1, HH.out.2.2.2.2.2.2.2.2.2.2.2.2.2.2.2.2.2.2.2.2.2.2.2.2.2.2.2.2.2.2.1, HH.out.2.2.2.2.2.2.2.2.2.2.2.2.2.2.2.2.2.2.2.2.2.2.2.2.2.2.2.2.2.2.2⟩
            · rintro f act U ⟨v, rfl, HB, H⟩ hi hT K hK
              have HKK := Aside0.mk hK
              clear hK
              have e19 := H.2.2.2.2.2.2.2.2.2.2.2.2.2.2.2.2.2.2.2.1 (hT 19 (by decide))
              simp only [e19]
              have HH := Aside0.mk H; have HBA := Aside0.mk HB
              clear H HB
              go_wp2_with fail
              exact HKK.out _ _ ⟨fun j => if j = 21 then .slice (some ad) es.length c else v j, by simp [e19], HBA.out, HH.out.1, HH.out.2.1, HH.out.2.2.1, HH.out.2.2.2.1, HH.out.2.2.2.2.1, HH.out.2.2.2.2.2.1, HH.out.2.2.2.2.2.2.1, HH.out.2.2.2.2.2.2.2.1, HH.out.2.2.2.2.2.2.2.2.1, HH.out.2.2.2.2.2.2.2.2.2.1, HH.out.2.2.2.2.2.2.2.2.2.2.1, HH.out.2.2.2.2.2.2.2.2.2.2.2.1, HH.out.2.2.2.2.2.2.2.2.2.2.2.2.1, HH.out.2.2.2.2.2.2.2.2.2.2.2.2.2.1, HH.out.2.2.2.2.2.2.2.2.2.2.2.2.2.2.1, HH.out.2.2.2.2.2.2.2.2.2.2.2.2.2.2.2.1, HH.out.2.2.2.2.2.2.2.2.2.2.2.2.2.2.2.2.1, HH.out.2.2.2.2.2.2.2.2.2.2.2.2.2.2.2.2.2.1, HH.out.2.2.2.2.2.2.2.2.2.2.2.2.2.2.2.2.2.2.1, HH.out.2.2.2.2.2.2.2.2.2.2.2.2.2.2.2.2.2.2.2.1, HH.out.2.2.2.2.2.2.2.2.2.2.2.2.2.2.2.2.2.2.2.2.1, fun _ => rfl, HH.out.2.2.2.2.2.2.2.2.2.2.2.2.2.2.2.2.2.2.2.2.2.2.1, HH.out.2.2.2.2.2.2.2.2.2.2.2.2.2.2.2.2.2.2.2.2.2.2.2.1, HH.out.2.2.2.2.2.2.2.2.2.2.2.2.2.2.2.2.2.2.2.2.2.2.2.2.1, HH.out.2.2.2.2.2.2.2.2.2.2.2.2.2.2.2.2.2.2.2.2.2.2.2.2.2.1, HH.out.2.2.2.2.2.2.2.2.2.2.2.2.2.2.2.2.2.2.2.2.2.2.2.2.2.2.1, HH.out.2.2.2.2.2.2.2.2.2.2.2.2.2.2.2.2.2.2.2.2.2.2.2.2.2.2.2.1, HH.out.2.2.2.2.2.2.2.2.2.2.2.2.2.2.2.2.2.2.2.2.2.2.2.2.2.2.2.2.1, HH.out.2.2.2.2.2.2.2.2.2.2.2.2.2.2.2.2.2.2.2.2.2.2.2.2.2.2.2.2.2.1, HH.out.2.2.2.2.2.2.2.2.2.2.2.2.2.2.2.2.2.2.2.2.2.2.2.2.2.2.2.2.2.2.1, HH.out.2.2.2.2.2.2.2.2.2.2.2.2.2.2.2.2.2.2.2.2.2.2.2.2.2.2.2.2.2.2.2⟩
            · rintro f act U ⟨v, rfl, HB, H⟩ hi hT K hK
              have HKK := Aside0.mk hK
              clear hK
              have e19 := H.2.2.2.2.2.2.2.2.2.2.2.2.2.2.2.2.2.2.2.1 (hT 19 (by decide))
              simp only [e19]
              have HH := Aside0.mk H; have HBA := Aside0.mk HB
              clear H HB
              go_wp2_with fail
              exact HKK.out _ _ ⟨fun j => if j = 22 then .int .i64 b else v j, by simp [e19], HBA.out, HH.out.1, HH.out.2.1, HH.out.2.2.1, HH.out.2.2.2.1, HH.out.2.2.2.2.1, HH.out.2.2.2.2.2.1, HH.out.2.2.2.2.2.2.1, HH.out.2.2.2.2.2.2.2.1, HH.out.2.2.2.2.2.2.2.2.1, HH.out.2.2.2.2.2.2.2.2.2.1, HH.out.2.2.2.2.2.2.2.2.2.2.1, HH.out.2.2.2.2.2.2.2.2.2.2.2.1, HH.out.2.2.2.2.2.2.2.2.2.2.2.2.1, HH.out.2.2.2.2.2.2.2.2.2.2.2.2.2.1, HH.out.2.2.2.2.2.2.2.2.2.2.2.2.2.2.1, HH.out.2.2.2.2.2.2.2.2.2.2.2.2.2.2.2.1, HH.out.2.2.2.2.2.2.2.2.2.2.2.2.2.2.2.2.1, HH.out.2.2.2.2.2.2.2.2.2.2.2.2.2.2.2.2.2.1, HH.out.2.2.2.2.2.2.2.2.2.2.2.2.2.2.2.2.2.2.1, HH.out.2.2.2.2.2.2.2.2.2.2.2.2.2.2.2.2.2.2.2.1, HH.out.2.2.2.2.2.2.2.2.2.2.2.2.2.2.2.2.2.2.2.2.1, HH.out.2.2.2.2.2.2.2.2.2.2.2.2.2.2.2.2.2.2.2.2.2.1, fun _ => rfl, HH.out.2.2.2.2.2.2.2.2.2.2.2.2.2.2.2.2.2.2.2.2.2.2.2.1, HH.out.2.2.2.2.2.2.2.2.2.2.2.2.2.2.2.2.2.2.2.2.2.2.2.2.1, HH.out.2.2.2.2.2.2.2.2.2.2.2.2.2.2.2.2.2.2.2.2.2.2.2.2.2.1, HH.out.2.2.2.2.2.2.2.2.2.2.2.2.2.2.2.2.2.2.2.2.2.2.2.2.2.2.1, HH.out.2.2.2.2.2.2.2.2.2.2.2.2.2.2.2.2.2.2.2.2.2.2.2.2.2.2.2.1, HH.out.2.2.2.2.2.2.2.2.2.2.2.2.2.2.2.2.2.2.2.2.2.2.2.2.2.2.2.2.1, HH.out.2.2.2.2.2.2.2.2.2.2.2.2.2.2.2.2.2.2.2.2.2.2.2.2.2.2.2.2.2.1, HH.out.2.2.2.2.2.2.2.2.2.2.2.2.2.2.2.2.2.2.2.2.2.2.2.2.2.2.2.2.2.2.1, HH.out.2.2.2.2.2.2.2.2.2.2.2.2.2.2.2.2.2.2.2.2.2.2.2.2.2.2.2.2.2.2.2⟩
            · rintro f act U ⟨v, rfl, HB, H⟩ hi hT K hK
              have HKK := Aside0.mk hK
              clear hK
              have e19 := H.2.2.2.2.2.2.2.2.2.2.2.2.2.2.2.2.2.2.2.1 (hT 19 (by decide))
              have e21 := H.2.2.2.2.2.2.2.2.2.2.2.2.2.2.2.2.2.2.2.2.2.1 (hT 21 (by decide))
              have e22 := H.2.2.2.2.2.2.2.2.2.2.2.2.2.2.2.2.2.2.2.2.2.2.1 (hT 22 (by decide))
              simp only [e19, e21, e22]
              have HH := Aside0.mk H; have HBA := Aside0.mk HB
              clear H HB
              go_wp2_with fail
              exact HKK.out _ _ ⟨fun j => if j = 23 then .pointer (some (ad.add (b.toNat * 4))) else v j, by simp [e19, e21, e22], HBA.out, HH.out.1, HH.out.2.1, HH.out.2.2.1, HH.out.2.2.2.1, HH.out.2.2.2.2.1, HH.out.2.2.2.2.2.1, HH.out.2.2.2.2.2.2.1, HH.out.2.2.2.2.2.2.2.1, HH.out.2.2.2.2.2.2.2.2.1, HH.out.2.2.2.2.2.2.2.2.2.1, HH.out.2.2.2.2.2.2.2.2.2.2.1, HH.out.2.2.2.2.2.2.2.2.2.2.2.1, HH.out.2.2.2.2.2.2.2.2.2.2.2.2.1, HH.out.2.2.2.2.2.2.2.2.2.2.2.2.2.1, HH.out.2.2.2.2.2.2.2.2.2.2.2.2.2.2.1, HH.out.2.2.2.2.2.2.2.2.2.2.2.2.2.2.2.1, HH.out.2.2.2.2.2.2.2.2.2.2.2.2.2.2.2.2.1, HH.out.2.2.2.2.2.2.2.2.2.2.2.2.2.2.2.2.2.1, HH.out.2.2.2.2.2.2.2.2.2.2.2.2.2.2.2.2.2.2.1, HH.out.2.2.2.2.2.2.2.2.2.2.2.2.2.2.2.2.2.2.2.1, HH.out.2.2.2.2.2.2.2.2.2.2.2.2.2.2.2.2.2.2.2.2.1, HH.out.2.2.2.2.2.2.2.2.2.2.2.2.2.2.2.2.2.2.2.2.2.1, HH.out.2.2.2.2.2.2.2.2.2.2.2.2.2.2.2.2.2.2.2.2.2.2.1, fun _ => rfl, HH.out.2.2.2.2.2.2.2.2.2.2.2.2.2.2.2.2.2.2.2.2.2.2.2.2.1, HH.out.2.2.2.2.2.2.2.2.2.2.2.2.2.2.2.2.2.2.2.2.2.2.2.2.2.1, HH.out.2.2.2.2.2.2.2.2.2.2.2.2.2.2.2.2.2.2.2.2.2.2.2.2.2.2.1, HH.out.2.2.2.2.2.2.2.2.2.2.2.2.2.2.2.2.2.2.2.2.2.2.2.2.2.2.2.1, HH.out.2.2.2.2.2.2.2.2.2.2.2.2.2.2.2.2.2.2.2.2.2.2.2.2.2.2.2.2.1, HH.out.2.2.2.2.2.2.2.2.2.2.2.2.2.2.2.2.2.2.2.2.2.2.2.2.2.2.2.2.2.1, HH.out.2.2.2.2.2.2.2.2.2.2.2.2.2.2.2.2.2.2.2.2.2.2.2.2.2.2.2.2.2.2.1, HH.out.2.2.2.2.2.2.2.2.2.2.2.2.2.2.2.2.2.2.2.2.2.2.2.2.2.2.2.2.2.2.2⟩
            · rintro f act U ⟨v, rfl, HB, H⟩ hi hT K hK
              have HKK := Aside0.mk hK
              clear hK
              have e19 := H.2.2.2.2.2.2.2.2.2.2.2.2.2.2.2.2.2.2.2.1 (hT 19 (by decide))
              have e23 := H.2.2.2.2.2.2.2.2.2.2.2.2.2.2.2.2.2.2.2.2.2.2.2.1 (hT 23 (by decide))
              simp only [e19, e23]
              obtain ⟨c12, c130, c131, c100, c101, z0, z1, z2, z3⟩ := KU.out U HB
              have HH := Aside0.mk H; have HBA := Aside0.mk HB
              clear H HB
              go_wp2_with fail
              exact HKK.out _ _ ⟨fun j => if j = 24 then .agg #[.int .i64 F.f0.f0, .int .i64 F.f0.f1, .int .i64 F.f1.f0, .int .i64 F.f1.f1] else v j, by simp [e19, e23], HBA.out, HH.out.1, HH.out.2.1, HH.out.2.2.1, HH.out.2.2.2.1, HH.out.2.2.2.2.1, HH.out.2.2.2.2.2.1, HH.out.2.2.2.2.2.2.1, HH.out.2.2.2.2.2.2.2.1, HH.out.2.2.2.2.2.2.2.2.1, HH.out.2.2.2.2.2.2.2.2.2.1, HH.out.2.2.2.2.2.2.2.2.2.2.1, HH.out.2.2.2.2.2.2.2.2.2.2.2.1, HH.out.2.2.2.2.2.2.2.2.2.2.2.2.1, HH.out.2.2.2.2.2.2.2.2.2.2.2.2.2.1, HH.out.2.2.2.2.2.2.2.2.2.2.2.2.2.2.1, HH.out.2.2.2.2.2.2.2.2.2.2.2.2.2.2.2.1, HH.out.2.2.2.2.2.2.2.2.2.2.2.2.2.2.2.2.1, HH.out.2.2.2.2.2.2.2.2.2.2.2.2.2.2.2.2.2.1, HH.out.2.2.2.2.2.2.2.2.2.2.2.2.2.2.2.2.2.2.1, HH.out.2.2.2.2.2.2.2.2.2.2.2.2.2.2.2.2.2.2.2.1, HH.out.2.2.2.2.2.2.2.2.2.2.2.2.2.2.2.2.2.2.2.2.1, HH.out.2.2.2.2.2.2.2.2.2.2.2.2.2.2.2.2.2.2.2.2.2.1, HH.out.2.2.2.2.2.2.2.2.2.2.2.2.2.2.2.2.2.2.2.2.2.2.1, HH.out.2.2.2.2.2.2.2.2.2.2.2.2.2.2.2.2.2.2.2.2.2.2.2.1, fun _ => rfl, HH.out.2.2.2.2.2.2.2.2.2.2.2.2.2.2.2.2.2.2.2.2.2.2.2.2.2.1, HH.out.2.2.2.2.2.2.2.2.2.2.2.2.2.2.2.2.2.2.2.2.2.2.2.2.2.2.1, HH.out.2.2.2.2.2.2.2.2.2.2.2.2.2.2.2.2.2.2.2.2.2.2.2.2.2.2.2.1, HH.out.2.2.2.2.2.2.2.2.2.2.2.2.2.2.2.2.2.2.2.2.2.2.2.2.2.2.2.2.1, HH.out.2.2.2.2.2.2.2.2.2.2.2.2.2.2.2.2.2.2.2.2.2.2.2.2.2.2.2.2.2.1, HH.out.2.2.2.2.2.2.2.2.2.2.2.2.2.2.2.2.2.2.2.2.2.2.2.2.2.2.2.2.2.2.1, HH.out.2.2.2.2.2.2.2.2.2.2.2.2.2.2.2.2.2.2.2.2.2.2.2.2.2.2.2.2.2.2.2⟩
            · rintro f act U ⟨v, rfl, HB, H⟩ hi hT K hK
              have HKK := Aside0.mk hK
              clear hK
              have e19 := H.2.2.2.2.2.2.2.2.2.2.2.2.2.2.2.2.2.2.2.1 (hT 19 (by decide))
              simp only [e19]
              obtain ⟨c12, c130, c131, c100, c101, z0, z1, z2, z3⟩ := KU.out U HB
              have HH := Aside0.mk H; have HBA := Aside0.mk HB
              clear H HB
              go_wp2_with fail
              exact HKK.out _ _ ⟨fun j => if j = 25 then .agg #[.int .i64 s1, .int .i64 s2] else v j, by simp [e19], HBA.out, HH.out.1, HH.out.2.1, HH.out.2.2.1, HH.out.2.2.2.1, HH.out.2.2.2.2.1, HH.out.2.2.2.2.2.1, HH.out.2.2.2.2.2.2.1, HH.out.2.2.2.2.2.2.2.1, HH.out.2.2.2.2.2.2.2.2.1, HH.out.2.2.2.2.2.2.2.2.2.1, HH.out.2.2.2.2.2.2.2.2.2.2.1, HH.out.2.2.2.2.2.2.2.2.2.2.2.1, HH.out.2.2.2.2.2.2.2.2.2.2.2.2.1, HH.out.2.2.2.2.2.2.2.2.2.2.2.2.2.1, HH.out.2.2.2.2.2.2.2.2.2.2.2.2.2.2.1, HH.out.2.2.2.2.2.2.2.2.2.2.2.2.2.2.2.1, HH.out.2.2.2.2.2.2.2.2.2.2.2.2.2.2.2.2.1, HH.out.2.2.2.2.2.2.2.2.2.2.2.2.2.2.2.2.2.1, HH.out.2.2.2.2.2.2.2.2.2.2.2.2.2.2.2.2.2.2.1, HH.out.2.2.2.2.2.2.2.2.2.2.2.2.2.2.2.2.2.2.2.1, HH.out.2.2.2.2.2.2.2.2.2.2.2.2.2.2.2.2.2.2.2.2.1, HH.out.2.2.2.2.2.2.2.2.2.2.2.2.2.2.2.2.2.2.2.2.2.1, HH.out.2.2.2.2.2.2.2.2.2.2.2.2.2.2.2.2.2.2.2.2.2.2.1, HH.out.2.2.2.2.2.2.2.2.2.2.2.2.2.2.2.2.2.2.2.2.2.2.2.1, HH.out.2.2.2.2.2.2.2.2.2.2.2.2.2.2.2.2.2.2.2.2.2.2.2.2.1, fun _ => rfl, HH.out.2.2.2.2.2.2.2.2.2.2.2.2.2.2.2.2.2.2.2.2.2.2.2.2.2.2.1, HH.out.2.2.2.2.2.2.2.2.2.2.2.2.2.2.2.2.2.2.2.2.2.2.2.2.2.2.2.1, HH.out.2.2.2.2.2.2.2.2.2.2.2.2.2.2.2.2.2.2.2.2.2.2.2.2.2.2.2.2.1, HH.out.2.2.2.2.2.2.2.2.2.2.2.2.2.2.2.2.2.2.2.2.2.2.2.2.2.2.2.2.2.1, HH.out.2.2.2.2.2.2.2.2.2.2.2.2.2.2.2.2.2.2.2.2.2.2.2.2.2.2.2.2.2.2.1, HH.out.2.2.2.2.2.2.2.2.2.2.2.2.2.2.2.2.2.2.2.2.2.2.2.2.2.2.2.2.2.2.2⟩
            · rintro f act U ⟨v, rfl, HB, H⟩ hi hT K hK
              have HKK := Aside0.mk hK
              clear hK
              have e19 := H.2.2.2.2.2.2.2.2.2.2.2.2.2.2.2.2.2.2.2.1 (hT 19 (by decide))
              have e24 := H.2.2.2.2.2.2.2.2.2.2.2.2.2.2.2.2.2.2.2.2.2.2.2.2.1 (hT 24 (by decide))
              have e25 := H.2.2.2.2.2.2.2.2.2.2.2.2.2.2.2.2.2.2.2.2.2.2.2.2.2.1 (hT 25 (by decide))
              simp only [e19, e24, e25]
              have HH := Aside0.mk H; have HBA := Aside0.mk HB
              clear H HB
              go_wp2_with fail
              refine (plane_Square.calls k _ _ _ _ _ _ m1 m2 _ HSQ.out).mono ?_
              rintro e w' ⟨rfl, hb⟩
              exact HKK.out _ _ ⟨fun j => if j = 26 then .agg #[.int .i64 m1, .int .i64 m2] else v j, by simp [e19, e24, e25], bstep HBA.out hb, HH.out.1, HH.out.2.1, HH.out.2.2.1, HH.out.2.2.2.1, HH.out.2.2.2.2.1, HH.out.2.2.2.2.2.1, HH.out.2.2.2.2.2.2.1, HH.out.2.2.2.2.2.2.2.1, HH.out.2.2.2.2.2.2.2.2.1, HH.out.2.2.2.2.2.2.2.2.2.1, HH.out.2.2.2.2.2.2.2.2.2.2.1, HH.out.2.2.2.2.2.2.2.2.2.2.2.1, HH.out.2.2.2.2.2.2.2.2.2.2.2.2.1, HH.out.2.2.2.2.2.2.2.2.2.2.2.2.2.1, HH.out.2.2.2.2.2.2.2.2.2.2.2.2.2.2.1, HH.out.2.2.2.2.2.2.2.2.2.2.2.2.2.2.2.1, HH.out.2.2.2.2.2.2.2.2.2.2.2.2.2.2.2.2.1, HH.out.2.2.2.2.2.2.2.2.2.2.2.2.2.2.2.2.2.1, HH.out.2.2.2.2.2.2.2.2.2.2.2.2.2.2.2.2.2.2.1, HH.out.2.2.2.2.2.2.2.2.2.2.2.2.2.2.2.2.2.2.2.1, HH.out.2.2.2.2.2.2.2.2.2.2.2.2.2.2.2.2.2.2.2.2.1, HH.out.2.2.2.2.2.2.2.2.2.2.2.2.2.2.2.2.2.2.2.2.2.1, HH.out.2.2.2.2.2.2.2.2.2.2.2.2.2.2.2.2.2.2.2.2.2.2.1, HH.out.2.2.2.2.2.2.2.2.2.2.2.2.2.2.2.2.2.2.2.2.2.2.2.1, HH.out.2.2.2.2.2.2.2.2.2.2.2.2.2.2.2.2.2.2.2.2.2.2.2.2.1, HH.out.2.2.2.2.2.2.2.2.2.2.2.2.2.2.2.2.2.2.2.2.2.2.2.2.2.1, fun _ => rfl, HH.out.2.2.2.2.2.2.2.2.2.2.2.2.2.2.2.2.2.2.2.2.2.2.2.2.2.2.2.1, HH.out.2.2.2.2.2.2.2.2.2.2.2.2.2.2.2.2.2.2.2.2.2.2.2.2.2.2.2.2.1, HH.out.2.2.2.2.2.2.2.2.2.2.2.2.2.2.2.2.2.2.2.2.2.2.2.2.2.2.2.2.2.1, HH.out.2.2.2.2.2.2.2.2.2.2.2.2.2.2.2.2.2.2.2.2.2.2.2.2.2.2.2.2.2.2.1, HH.out.2.2.2.2.2.2.2.2.2.2.2.2.2.2.2.2.2.2.2.2.2.2.2.2.2.2.2.2.2.2.2⟩
            · rintro f act U ⟨v, rfl, HB, H⟩ hi hT K hK
              have HKK := Aside0.mk hK
              clear hK
              have e19 := H.2.2.2.2.2.2.2.2.2.2.2.2.2.2.2.2.2.2.2.1 (hT 19 (by decide))
              have e20 := H.2.2.2.2.2.2.2.2.2.2.2.2.2.2.2.2.2.2.2.2.1 (hT 20 (by decide))
              have e26 := H.2.2.2.2.2.2.2.2.2.2.2.2.2.2.2.2.2.2.2.2.2.2.2.2.2.2.1 (hT 26 (by decide))
              simp only [e19, e20, e26]
              have HH := Aside0.mk H; have HBA := Aside0.mk HB
              clear H HB
              go_wp2_with fail
              exact HKK.out _ _ ⟨fun j => if j = 27 then .bool true else v j, by simp [e19, e20, e26], HBA.out, HH.out.1, HH.out.2.1, HH.out.2.2.1, HH.out.2.2.2.1, HH.out.2.2.2.2.1, HH.out.2.2.2.2.2.1, HH.out.2.2.2.2.2.2.1, HH.out.2.2.2.2.2.2.2.1, HH.out.2.2.2.2.2.2.2.2.1, HH.out.2.2.2.2.2.2.2.2.2.1, HH.out.2.2.2.2.2.2.2.2.2.2.1, HH.out.2.2.2.2.2.2.2.2.2.2.2.1, HH.out.2.2.2.2.2.2.2.2.2.2.2.2.1, HH.out.2.2.2.2.2.2.2.2.2.2.2.2.2.1, HH.out.2.2.2.2.2.2.2.2.2.2.2.2.2.2.1, HH.out.2.2.2.2.2.2.2.2.2.2.2.2.2.2.2.1, HH.out.2.2.2.2.2.2.2.2.2.2.2.2.2.2.2.2.1, HH.out.2.2.2.2.2.2.2.2.2.2.2.2.2.2.2.2.2.1, HH.out.2.2.2.2.2.2.2.2.2.2.2.2.2.2.2.2.2.2.1, HH.out.2.2.2.2.2.2.2.2.2.2.2.2.2.2.2.2.2.2.2.1, HH.out.2.2.2.2.2.2.2.2.2.2.2.2.2.2.2.2.2.2.2.2.1, HH.out.2.2.2.2.2.2.2.2.2.2.2.2.2.2.2.2.2.2.2.2.2.1, HH.out.2.2.2.2.2.2.2.2.2.2.2.2.2.2.2.2.2.2.2.2.2.2.1, HH.out.2.2.2.2.2.2.2.2.2.2.2.2.2.2.2.2.2.2.2.2.2.2.2.1, HH.out.2.2.2.2.2.2.2.2.2.2.2.2.2.2.2.2.2.2.2.2.2.2.2.2.1, HH.out.2.2.2.2.2.2.2.2.2.2.2.2.2.2.2.2.2.2.2.2.2.2.2.2.2.1, HH.out.2.2.2.2.2.2.2.2.2.2.2.2.2.2.2.2.2.2.2.2.2.2.2.2.2.2.1, fun _ => rfl, HH.out.2.2.2.2.2.2.2.2.2.2.2.2.2.2.2.2.2.2.2.2.2.2.2.2.2.2.2.2.1, HH.out.2.2.2.2.2.2.2.2.2.2.2.2.2.2.2.2.2.2.2.2.2.2.2.2.2.2.2.2.2.1, HH.out.2.2.2.2.2.2.2.2.2.2.2.2.2.2.2.2.2.2.2.2.2.2.2.2.2.2.2.2.2.2.1, HH.out.2.2.2.2.2.2.2.2.2.2.2.2.2.2.2.2.2.2.2.2.2.2.2.2.2.2.2.2.2.2.2⟩
            · rintro f act U ⟨v, rfl, HB, H⟩ hi hT K hK
              have HKK := Aside0.mk hK
              clear hK
              have e16 := H.2.2.2.2.2.2.2.2.2.2.2.2.2.2.2.2.1 (hT 16 (by decide))
              have e19 := H.2.2.2.2.2.2.2.2.2.2.2.2.2.2.2.2.2.2.2.1 (hT 19 (by decide))
              have e27 := H.2.2.2.2.2.2.2.2.2.2.2.2.2.2.2.2.2.2.2.2.2.2.2.2.2.2.2.1 (hT 27 (by decide))
              simp only [e16, e19, e27]
              have HH := Aside0.mk H; have HBA := Aside0.mk HB
              clear H HB
              go_wp2_with fail
              exact HKK.out _ _ ⟨fun j => if j = 28 then .bool true else v j, by simp [e16, e19, e27], HBA.out, HH.out.1, HH.out.2.1, HH.out.2.2.1, HH.out.2.2.2.1, HH.out.2.2.2.2.1, HH.out.2.2.2.2.2.1, HH.out.2.2.2.2.2.2.1, HH.out.2.2.2.2.2.2.2.1, HH.out.2.2.2.2.2.2.2.2.1, HH.out.2.2.2.2.2.2.2.2.2.1, HH.out.2.2.2.2.2.2.2.2.2.2.1, HH.out.2.2.2.2.2.2.2.2.2.2.2.1, HH.out.2.2.2.2.2.2.2.2.2.2.2.2.1, HH.out.2.2.2.2.2.2.2.2.2.2.2.2.2.1, HH.out.2.2.2.2.2.2.2.2.2.2.2.2.2.2.1, HH.out.2.2.2.2.2.2.2.2.2.2.2.2.2.2.2.1, HH.out.2.2.2.2.2.2.2.2.2.2.2.2.2.2.2.2.1, HH.out.2.2.2.2.2.2.2.2.2.2.2.2.2.2.2.2.2.1, HH.out.2.2.2.2.2.2.2.2.2.2.2.2.2.2.2.2.2.2.1, HH.out.2.2.2.2.2.2.2.2.2.2.2.2.2.2.2.2.2.2.2.1, HH.out.2.2.2.2.2.2.2.2.2.2.2.2.2.2.2.2.2.2.2.2.1, HH.out.2.2.2.2.2.2.2.2.2.2.2.2.2.2.2.2.2.2.2.2.2.1, HH.out.2.2.2.2.2.2.2.2.2.2.2.2.2.2.2.2.2.2.2.2.2.2.1, HH.out.2.2.2.2.2.2.2.2.2.2.2.2.2.2.2.2.2.2.2.2.2.2.2.1, HH.out.2.2.2.2.2.2.2.2.2.2.2.2.2.2.2.2.2.2.2.2.2.2.2.2.1, HH.out.2.2.2.2.2.2.2.2.2.2.2.2.2.2.2.2.2.2.2.2.2.2.2.2.2.1, HH.out.2.2.2.2.2.2.2.2.2.2.2.2.2.2.2.2.2.2.2.2.2.2.2.2.2.2.1, HH.out.2.2.2.2.2.2.2.2.2.2.2.2.2.2.2.2.2.2.2.2.2.2.2.2.2.2.2.1, fun _ => rfl, HH.out.2.2.2.2.2.2.2.2.2.2.2.2.2.2.2.2.2.2.2.2.2.2.2.2.2.2.2.2.2.1, HH.out.2.2.2.2.2.2.2.2.2.2.2.2.2.2.2.2.2.2.2.2.2.2.2.2.2.2.2.2.2.2.1, HH.out.2.2.2.2.2.2.2.2.2.2.2.2.2.2.2.2.2.2.2.2.2.2.2.2.2.2.2.2.2.2.2⟩
            · rintro f act U ⟨v, rfl, HB, H⟩ hi hT K hK
              have HKK := Aside0.mk hK
              clear hK
              have e8 := H.2.2.2.2.2.2.2.2.1 (hT 8 (by decide))
              have e16 := H.2.2.2.2.2.2.2.2.2.2.2.2.2.2.2.2.1 (hT 16 (by decide))
              have e28 := H.2.2.2.2.2.2.2.2.2.2.2.2.2.2.2.2.2.2.2.2.2.2.2.2.2.2.2.2.1 (hT 28 (by decide))
              simp only [e8, e16, e28]
              have HH := Aside0.mk H; have HBA := Aside0.mk HB
              clear H HB
              go_wp2_with fail
              exact HKK.out _ _ ⟨fun j => if j = 29 then .bool true else v j, by simp [e8, e16, e28], HBA.out, HH.out.1, HH.out.2.1, HH.out.2.2.1, HH.out.2.2.2.1, HH.out.2.2.2.2.1, HH.out.2.2.2.2.2.1, HH.out.2.2.2.2.2.2.1, HH.out.2.2.2.2.2.2.2.1, HH.out.2.2.2.2.2.2.2.2.1, HH.out.2.2.2.2.2.2.2.2.2.1, HH.out.2.2.2.2.2.2.2.2.2.2.1, HH.out.2.2.2.2.2.2.2.2.2.2.2.1, HH.out.2.2.2.2.2.2.2.2.2.2.2.2.1, HH.out.2.2.2.2.2.2.2.2.2.2.2.2.2.1, HH.out.2.2.2.2.2.2.2.2.2.2.2.2.2.2.1, HH.out.2.2.2.2.2.2.2.2.2.2.2.2.2.2.2.1, HH.out.2.2.2.2.2.2.2.2.2.2.2.2.2.2.2.2.1, HH.out.2.2.2.2.2.2.2.2.2.2.2.2.2.2.2.2.2.1, HH.out.2.2.2.2.2.2.2.2.2.2.2.2.2.2.2.2.2.2.1, HH.out.2.2.2.2.2.2.2.2.2.2.2.2.2.2.2.2.2.2.2.1, HH.out.2.2.2.2.2.2.2.2.2.2.2.2.2.2.2.2.2.2.2.2.1, HH.out.2.2.2.2.2.2.2.2.2.2.2.2.2.2.2.2.2.2.2.2.2.1, HH.out.2.2.2.2.2.2.2.2.2.2.2.2.2.2.2.2.2.2.2.2.2.2.1, HH.out.2.2.2.2.2.2.2.2.2.2.2.2.2.2.2.2.2.2.2.2.2.2.2.1, HH.out.2.2.2.2.2.2.2.2.2.2.2.2.2.2.2.2.2.2.2.2.2.2.2.2.1, HH.out.2.2.2.2.2.2.2.2.2.2.2.2.2.2.2.2.2.2.2.2.2.2.2.2.2.1, HH.out.2.2.2.2.2.2.2.2.2.2.2.2.2.2.2.2.2.2.2.2.2.2.2.2.2.2.1, HH.out.2.2.2.2.2.2.2.2.2.2.2.2.2.2.2.2.2.2.2.2.2.2.2.2.2.2.2.1, HH.out.2.2.2.2.2.2.2.2.2.2.2.2.2.2.2.2.2.2.2.2.2.2.2.2.2.2.2.2.1, fun _ => rfl, HH.out.2.2.2.2.2.2.2.2.2.2.2.2.2.2.2.2.2.2.2.2.2.2.2.2.2.2.2.2.2.2.1, HH.out.2.2.2.2.2.2.2.2.2.2.2.2.2.2.2.2.2.2.2.2.2.2.2.2.2.2.2.2.2.2.2⟩
            · rintro f act U ⟨v, rfl, HB, H⟩ hi hT K hK
              have HKK := Aside0.mk hK
              clear hK
              have e8 := H.2.2.2.2.2.2.2.2.1 (hT 8 (by decide))
              have e29 := H.2.2.2.2.2.2.2.2.2.2.2.2.2.2.2.2.2.2.2.2.2.2.2.2.2.2.2.2.2.1 (hT 29 (by decide))
              simp only [e8, e29]
              have HH := Aside0.mk H; have HBA := Aside0.mk HB
              clear H HB
              go_wp2_with fail
              exact HKK.out _ _ ⟨fun j => if j = 30 then .bool true else v j, by simp [e8, e29], HBA.out, HH.out.1, HH.out.2.1, HH.out.2.2.1, HH.out.2.2.2.1, HH.out.2.2.2.2.1, HH.out.2.2.2.2.2.1, HH.out.2.2.2.2.2.2.1, HH.out.2.2.2.2.2.2.2.1, HH.out.2.2.2.2.2.2.2.2.1, HH.out.2.2.2.2.2.2.2.2.2.1, HH.out.2.2.2.2.2.2.2.2.2.2.1, HH.out.2.2.2.2.2.2.2.2.2.2.2.1, HH.out.2.2.2.2.2.2.2.2.2.2.2.2.1, HH.out.2.2.2.2.2.2.2.2.2.2.2.2.2.1, HH.out.2.2.2.2.2.2.2.2.2.2.2.2.2.2.1, HH.out.2.2.2.2.2.2.2.2.2.2.2.2.2.2.2.1, HH.out.2.2.2.2.2.2.2.2.2.2.2.2.2.2.2.2.1, HH.out.2.2.2.2.2.2.2.2.2.2.2.2.2.2.2.2.2.1, HH.out.2.2.2.2.2.2.2.2.2.2.2.2.2.2.2.2.2.2.1, HH.out.2.2.2.2.2.2.2.2.2.2.2.2.2.2.2.2.2.2.2.1, HH.out.2.2.2.2.2.2.2.2.2.2.2.2.2.2.2.2.2.2.2.2.1, HH.out.2.2.2.2.2.2.2.2.2.2.2.2.2.2.2.2.2.2.2.2.2.1, HH.out.2.2.2.2.2.2.2.2.2.2.2.2.2.2.2.2.2.2.2.2.2.2.1, HH.out.2.2.2.2.2.2.2.2.2.2.2.2.2.2.2.2.2.2.2.2.2.2.2.1, HH.out.2.2.2.2.2.2.2.2.2.2.2.2.2.2.2.2.2.2.2.2.2.2.2.2.1, HH.out.2.2.2.2.2.2.2.2.2.2.2.2.2.2.2.2.2.2.2.2.2.2.2.2.2.1, HH.out.2.2.2.2.2.2.2.2.2.2.2.2.2.2.2.2.2.2.2.2.2.2.2.2.2.2.1, HH.out.2.2.2.2.2.2.2.2.2.2.2.2.2.2.2.2.2.2.2.2.2.2.2.2.2.2.2.1, HH.out.2.2.2.2.2.2.2.2.2.2.2.2.2.2.2.2.2.2.2.2.2.2.2.2.2.2.2.2.1, HH.out.2.2.2.2.2.2.2.2.2.2.2.2.2.2.2.2.2.2.2.2.2.2.2.2.2.2.2.2.2.1, fun _ => rfl, HH.out.2.2.2.2.2.2.2.2.2.2.2.2.2.2.2.2.2.2.2.2.2.2.2.2.2.2.2.2.2.2.2⟩
            · rintro f act U ⟨v, rfl, HB, H⟩ hi hT K hK
              have HKK := Aside0.mk hK
              clear hK
              have e30 := H.2.2.2.2.2.2.2.2.2.2.2.2.2.2.2.2.2.2.2.2.2.2.2.2.2.2.2.2.2.2.1 (hT 30 (by decide))
              simp only [e30]
              have HH := Aside0.mk H; have HBA := Aside0.mk HB
              clear H HB
              go_wp2_with fail
              exact HKK.out _ _ ⟨fun j => if j = 31 then .bool true else v j, by simp [e30], HBA.out, HH.out.1, HH.out.2.1, HH.out.2.2.1, HH.out.2.2.2.1, HH.out.2.2.2.2.1, HH.out.2.2.2.2.2.1, HH.out.2.2.2.2.2.2.1, HH.out.2.2.2.2.2.2.2.1, HH.out.2.2.2.2.2.2.2.2.1, HH.out.2.2.2.2.2.2.2.2.2.1, HH.out.2.2.2.2.2.2.2.2.2.2.1, HH.out.2.2.2.2.2.2.2.2.2.2.2.1, HH.out.2.2.2.2.2.2.2.2.2.2.2.2.1, HH.out.2.2.2.2.2.2.2.2.2.2.2.2.2.1, HH.out.2.2.2.2.2.2.2.2.2.2.2.2.2.2.1, HH.out.2.2.2.2.2.2.2.2.2.2.2.2.2.2.2.1, HH.out.2.2.2.2.2.2.2.2.2.2.2.2.2.2.2.2.1, HH.out.2.2.2.2.2.2.2.2.2.2.2.2.2.2.2.2.2.1, HH.out.2.2.2.2.2.2.2.2.2.2.2.2.2.2.2.2.2.2.1, HH.out.2.2.2.2.2.2.2.2.2.2.2.2.2.2.2.2.2.2.2.1, HH.out.2.2.2.2.2.2.2.2.2.2.2.2.2.2.2.2.2.2.2.2.1, HH.out.2.2.2.2.2.2.2.2.2.2.2.2.2.2.2.2.2.2.2.2.2.1, HH.out.2.2.2.2.2.2.2.2.2.2.2.2.2.2.2.2.2.2.2.2.2.2.1, HH.out.2.2.2.2.2.2.2.2.2.2.2.2.2.2.2.2.2.2.2.2.2.2.2.1, HH.out.2.2.2.2.2.2.2.2.2.2.2.2.2.2.2.2.2.2.2.2.2.2.2.2.1, HH.out.2.2.2.2.2.2.2.2.2.2.2.2.2.2.2.2.2.2.2.2.2.2.2.2.2.1, HH.out.2.2.2.2.2.2.2.2.2.2.2.2.2.2.2.2.2.2.2.2.2.2.2.2.2.2.1, HH.out.2.2.2.2.2.2.2.2.2.2.2.2.2.2.2.2.2.2.2.2.2.2.2.2.2.2.2.1, HH.out.2.2.2.2.2.2.2.2.2.2.2.2.2.2.2.2.2.2.2.2.2.2.2.2.2.2.2.2.1, HH.out.2.2.2.2.2.2.2.2.2.2.2.2.2.2.2.2.2.2.2.2.2.2.2.2.2.2.2.2.2.1, HH.out.2.2.2.2.2.2.2.2.2.2.2.2.2.2.2.2.2.2.2.2.2.2.2.2.2.2.2.2.2.2.1, fun _ => rfl⟩
            · rintro f act U hf ⟨v, rfl, HB, H⟩
              have e31 := H.2.2.2.2.2.2.2.2.2.2.2.2.2.2.2.2.2.2.2.2.2.2.2.2.2.2.2.2.2.2.2 (hf 31 (by decide))
              simp only [e31]
              have HB7 := Aside0.mk (bstep BWV.out HB)
              clear HB H
              go_wp2_with fail
              go_ret
              exact ⟨rfl, HB7.out⟩
end Go.Proofs.Ytlljpjbhndcaiaa.Q
end
section
set_option linter.unusedVariables false
set_option linter.unusedSimpArgs false
namespace Go.Proofs.Ytlljpjbhndcaiaa.M
open Go.RowKit Go.Proofs.Ytlljpjbhndcaiaa.Q Go.Proofs.YtlljpjbhndcaiaaW.PrintWords Go.Proofs.YtlljpjbhndcaiaaW.PrintLast Go.Proofs.YtlljpjbhndcaiaaW.PrintMore
def Ret {α : Type} (g : Nat → Option α) (r : α) : Prop := ∃ K, ∀ k, K ≤ k → g k = some r
theorem Ret.const {α : Type} {x : Option α} {r : α} (h : x = some r) : Ret (fun _ => x) r := ⟨0, fun _ _ => h⟩
theorem Ret.bind {α β : Type} {g : Nat → Option α} {h : Nat → α → Option β} {a : α} {r : β} (h1 : Ret g a) (h2 : Ret (fun k => h k a) r) : Ret (fun k => (g k).bind (h k)) r := by
  obtain ⟨K1, h1⟩ := h1
  obtain ⟨K2, h2⟩ := h2
  refine ⟨max K1 K2, fun k hk => ?_⟩
  show (g k).bind (h k) = some r
  rw [h1 k (by omega)]
  exact h2 k (by omega)
theorem Ret.succ {α : Type} {g : Nat → Option α} {r : α} (h : Ret (fun k => g (k + 1)) r) : Ret g r := by
  obtain ⟨K, h⟩ := h
  refine ⟨K + 1, fun k hk => ?_⟩
  have := h (k - 1) (by omega)
  simp only [show k - 1 + 1 = k by omega] at this
  exact this
theorem Ret.of {α : Type} {g : Nat → Option α} {r : α} (h : Ret g r) : ∃ k, g k = some r := by
  obtain ⟨K, h⟩ := h
  exact ⟨K, h K (Nat.le_refl _)⟩
theorem Ret.congr {α : Type} {g g' : Nat → Option α} {r : α} (h : Ret g r) (e : ∀ k, g' k = g k) : Ret g' r := by
  obtain ⟨K, h⟩ := h
  exact ⟨K, fun k hk => (e k).trans (h k hk)⟩
theorem w64 {n : Int} (h : -9223372036854775808 ≤ n) (h' : n ≤ 9223372036854775807) : wrap64 n = n := by unfold wrap64; omega
theorem wu64 (n : Int) : IntKind.u64.wrap n = n % 18446744073709551616 := by simp [IntKind.wrap, IntKind.bits, IntKind.signed]
theorem wu64_in (n : Int) (h0 : 0 ≤ n) (h1 : n < 2 ^ 64) : IntKind.u64.wrap n = n := by rw [wu64]; omega
theorem and_low (a : Int) (h0 : 0 ≤ a) (h1 : a < 18446744073709551616) : Go.bits .and .u64 a 4294967295 = a % 4294967296 :=
  bits_mask .u64 64 (by decide) wu64_in 32 (by decide) a h0 (by omega)
theorem mul_bound {a b n m : Int} (ha0 : 0 ≤ a) (ha : a ≤ n) (hb0 : 0 ≤ b) (hb : b ≤ m) : 0 ≤ a * b ∧ a * b ≤ n * m :=
  ⟨Int.mul_nonneg ha0 hb0, Int.mul_le_mul ha hb hb0 (by omega)⟩
theorem mul_eq (a b : Int) (ha0 : 0 ≤ a) (ha : a < 18446744073709551616) (hb0 : 0 ≤ b) (hb : b < 18446744073709551616) :
    wide_Mul.f a b = some ((a * b) / 18446744073709551616, (a * b) % 18446744073709551616) := by
  unfold wide_Mul.f
  rw [and_low a ha0 ha, and_low b hb0 hb]
  obtain ⟨x, hx⟩ : ∃ x, a / 4294967296 = x := ⟨_, rfl⟩
  obtain ⟨y, hy⟩ : ∃ y, a % 4294967296 = y := ⟨_, rfl⟩
  obtain ⟨u, hu⟩ : ∃ u, b / 4294967296 = u := ⟨_, rfl⟩
  obtain ⟨v, hv⟩ : ∃ v, b % 4294967296 = v := ⟨_, rfl⟩
  rw [hx, hy, hu, hv]
  have ea : a = x * 4294967296 + y := by omega
  have eb : b = u * 4294967296 + v := by omega
  have e : a * b = x * u * 18446744073709551616 + (x * v + y * u) * 4294967296 + y * v := by rw [ea, eb]; grind
  have h1 := mul_bound (a := x) (b := u) (n := 4294967295) (m := 4294967295) (by omega) (by omega) (by omega) (by omega)
  have h2 := mul_bound (a := x) (b := v) (n := 4294967295) (m := 4294967295) (by omega) (by omega) (by omega) (by omega)
  have h3 := mul_bound (a := y) (b := u) (n := 4294967295) (m := 4294967295) (by omega) (by omega) (by omega) (by omega)
  have h4 := mul_bound (a := y) (b := v) (n := 4294967295) (m := 4294967295) (by omega) (by omega) (by omega) (by omega)
  rw [e]
  generalize x * u = p at *
  generalize x * v = q at *
  generalize y * u = r at *
  generalize y * v = s at *
  clear e ea eb hx hy hu hv ha hb ha0 hb0
  simp only [wu64]
  have m1 : Go.bits .and .u64 (q % 18446744073709551616) 4294967295 = (q % 18446744073709551616) % 4294967296 := and_low _ (by omega) (by omega)
  have m2 : Go.bits .and .u64 (r % 18446744073709551616) 4294967295 = (r % 18446744073709551616) % 4294967296 := and_low _ (by omega) (by omega)
  rw [m1, m2]
  congr 2 <;> omega
theorem pair_compare (a b c d : Int) : Ret (fun k => wide_Pair_Compare.f k a b c d) (if a < c ∨ (a = c ∧ b < d) then -1 else if a = c ∧ b = d then 0 else 1) := by
  refine ⟨1, fun k hk => ?_⟩
  obtain ⟨k, rfl⟩ : ∃ j, k = j + 1 := ⟨k - 1, by omega⟩
  unfold wide_Pair_Compare.f
  by_cases h1 : a < c
  · simp [h1, wide_Pair_Compare.j0]
  · by_cases h2 : a = c
    · subst h2
      by_cases h3 : b < d
      · simp [h3, wide_Pair_Compare.j0]
      · by_cases h4 : b = d
        · subst h4
          simp [wide_Pair_Compare.j0]
        · simp [h3, h4, wide_Pair_Compare.j0]
    · simp [h1, h2, wide_Pair_Compare.j0]
def cmp (x y : Int) : Int := if x < y then -1 else if x = y then 0 else 1
theorem less_eq (a b c d : Int) (ha0 : 0 ≤ a) (ha : a < 9223372036854775808) (hb0 : 0 ≤ b) (hb : b < 9223372036854775808) (hc0 : 0 ≤ c) (hc : c < 9223372036854775808) (hd0 : 0 ≤ d) (hd : d < 9223372036854775808) :
    Ret (fun k => root_Compare.f k a b c d) (cmp (a * d) (c * b)) := by
  unfold root_Compare.f wide_Less.f
  simp only [wu64]
  rw [Int.emod_eq_of_lt ha0 (by omega), Int.emod_eq_of_lt hb0 (by omega), Int.emod_eq_of_lt hc0 (by omega), Int.emod_eq_of_lt hd0 (by omega), mul_eq a d ha0 (by omega) hd0 (by omega), mul_eq c b hc0 (by omega) hb0 (by omega)]
  refine Ret.bind (a := cmp (a * d) (c * b)) ?_ (Ret.const rfl)
  refine Ret.bind (Ret.const rfl) ?_
  refine Ret.bind (Ret.const rfl) ?_
  refine Ret.bind (pair_compare _ _ _ _) (Ret.const ?_)
  congr 1
  unfold cmp
  generalize a * d = m
  generalize c * b = n
  repeat' split
  all_goals omega
end Go.Proofs.Ytlljpjbhndcaiaa.M
end
section
set_option linter.unusedVariables false
set_option linter.unusedSimpArgs false
namespace Go.Proofs.Ytlljpjbhndcaiaa.M
open Go.RowKit Go.Proofs.Ytlljpjbhndcaiaa.Q Go.Proofs.YtlljpjbhndcaiaaW.PrintWords Go.Proofs.YtlljpjbhndcaiaaW.PrintLast Go.Proofs.YtlljpjbhndcaiaaW.PrintMore
theorem of_l0 (num den : Int) (hn0 : 0 ≤ num) (hn : num < 9223372036854775808) (hd0 : 1 ≤ den) (hd : den < 9223372036854775808) : ∀ (m : Nat) (a b : Int), b.toNat ≤ m → 0 ≤ a → 0 ≤ b → a + b ≥ 1 → a < 9223372036854775808 → b < 9223372036854775808 →
    (∀ g, g ∣ a → g ∣ b → g ∣ num ∧ g ∣ den) →
    ∃ g n' d', 1 ≤ g ∧ num = n' * g ∧ den = d' * g ∧ Ret (fun k => root_Of.l0 k num den a b) (n', d', 0) := by
  intro m
  induction m with
  | zero =>
    intro a b hm ha hb hab ha1 hb1 hg
    obtain rfl : b = 0 := by omega
    obtain ⟨⟨n', hn'⟩, ⟨d', hd'⟩⟩ := hg a (Int.dvd_refl _) (Int.dvd_zero _)
    refine ⟨a, n', d', by omega, by rw [hn']; grind, by rw [hd']; grind, Ret.succ (Ret.const (?_ : root_Of.l0 (0 + 1) num den a 0 = _))⟩
    have e1 : Int.tdiv num a = n' := by rw [hn', Int.mul_tdiv_cancel_left _ (by omega)]
    have e2 : Int.tdiv den a = d' := by rw [hd', Int.mul_tdiv_cancel_left _ (by omega)]
    have b1 : 0 ≤ n' := by rw [← e1]; exact Int.tdiv_nonneg hn0 ha
    have b2 : 0 ≤ d' := by rw [← e2]; exact Int.tdiv_nonneg (by omega) ha
    have b3 : n' ≤ num := by rw [← e1, Int.tdiv_eq_ediv_of_nonneg hn0]; exact Int.ediv_le_self _ hn0
    have b4 : d' ≤ den := by rw [← e2, Int.tdiv_eq_ediv_of_nonneg (by omega)]; exact Int.ediv_le_self _ (by omega)
    rw [root_Of.l0, if_pos rfl, if_neg (by omega), e1, e2, w64 (by omega) (by omega), w64 (by omega) (by omega)]
  | succ m ih =>
    intro a b hm ha hb hab ha1 hb1 hg
    by_cases hz : b = 0
    · exact (by
        subst hz
        obtain ⟨⟨n', hn'⟩, ⟨d', hd'⟩⟩ := hg a (Int.dvd_refl _) (Int.dvd_zero _)
        refine ⟨a, n', d', by omega, by rw [hn']; grind, by rw [hd']; grind, Ret.succ (Ret.const (?_ : root_Of.l0 (0 + 1) num den a 0 = _))⟩
        have e1 : Int.tdiv num a = n' := by rw [hn', Int.mul_tdiv_cancel_left _ (by omega)]
        have e2 : Int.tdiv den a = d' := by rw [hd', Int.mul_tdiv_cancel_left _ (by omega)]
        have b1 : 0 ≤ n' := by rw [← e1]; exact Int.tdiv_nonneg hn0 ha
        have b2 : 0 ≤ d' := by rw [← e2]; exact Int.tdiv_nonneg (by omega) ha
        have b3 : n' ≤ num := by rw [← e1, Int.tdiv_eq_ediv_of_nonneg hn0]; exact Int.ediv_le_self _ hn0
        have b4 : d' ≤ den := by rw [← e2, Int.tdiv_eq_ediv_of_nonneg (by omega)]; exact Int.ediv_le_self _ (by omega)
        rw [root_Of.l0, if_pos rfl, if_neg (by omega), e1, e2, w64 (by omega) (by omega), w64 (by omega) (by omega)])
    · have e : Int.tmod a b = a % b := Int.tmod_eq_emod_of_nonneg ha
      have r0 := Int.emod_nonneg a hz
      have r1 := Int.emod_lt_of_pos a (show 0 < b by omega)
      obtain ⟨g, n', d', h1, h2, h3, hr⟩ := ih b (a % b) (by omega) hb r0 (by omega) hb1 (by omega) (fun g h1 h2 => hg g (by
        have := Int.mul_ediv_add_emod a b
        rw [← this]
        exact Int.dvd_add (Int.dvd_trans h1 (Int.dvd_mul_right _ _)) h2) h1)
      refine ⟨g, n', d', h1, h2, h3, Ret.succ (Ret.congr hr fun k => ?_)⟩
      rw [root_Of.l0, if_neg hz, e]
theorem of_eq (num den : Int) (hn0 : 0 ≤ num) (hn : num < 9223372036854775808) (hd0 : 1 ≤ den) (hd : den < 9223372036854775808) :
    ∃ g n' d', 1 ≤ g ∧ num = n' * g ∧ den = d' * g ∧ Ret (fun k => root_Of.f k num den) (n', d', 0) := by
  obtain ⟨g, n', d', h1, h2, h3, hr⟩ := of_l0 num den hn0 hn hd0 hd _ num den (Nat.le_refl _) hn0 (by omega) (by omega) hn hd (fun _ a b => ⟨a, b⟩)
  refine ⟨g, n', d', h1, h2, h3, Ret.succ (Ret.congr hr fun k => ?_)⟩
  unfold root_Of.f
  rw [if_neg (by omega), decide_eq_false (by omega), root_Of.j0, if_neg (by simp)]
end Go.Proofs.Ytlljpjbhndcaiaa.M
end
section
set_option linter.unusedVariables false
set_option linter.unusedSimpArgs false
namespace Go.Proofs.Ytlljpjbhndcaiaa.Geo
theorem sq_nonneg (a : Int) : 0 ≤ a * a := by
  rcases Int.le_total 0 a with h | h
  · exact Int.mul_nonneg h h
  · exact Int.mul_nonneg_of_nonpos_of_nonpos h h
theorem lt_of_sq {a b : Int} (h : 0 ≤ b) (hb : a * a < b * b) : a < b := by
  by_cases h1 : a < b
  · exact h1
  · have h3 : b * b ≤ a * b := Int.mul_le_mul_of_nonneg_right (by omega) h
    have h4 : a * b ≤ a * a := Int.mul_le_mul_of_nonneg_left (by omega) (by omega)
    omega
theorem lagrange (a b c d : Int) : (a*a+b*b)*(c*c+d*d) = (a*c+b*d)*(a*c+b*d) + (a*d-b*c)*(a*d-b*c) := by grind
theorem cs_lt {x1 x2 y1 y2 s t : Int} (hs : 0 ≤ s) (ht : 0 ≤ t) (h1 : x1*x1+x2*x2 < s*s) (h2 : y1*y1+y2*y2 < t*t) : x1*y1+x2*y2 < s*t := by
  have hl := lagrange x1 x2 y1 y2
  have a0 := sq_nonneg (x1*y2-x2*y1)
  have b0 := sq_nonneg x1; have b1 := sq_nonneg x2; have b2 := sq_nonneg y1; have b3 := sq_nonneg y2
  have h3 : (x1*x1+x2*x2)*(y1*y1+y2*y2) ≤ (x1*x1+x2*x2)*(t*t) := Int.mul_le_mul_of_nonneg_left (by omega) (by omega)
  have h4 : (x1*x1+x2*x2)*(t*t) < (s*s)*(t*t) := Int.mul_lt_mul_of_pos_right h1 (by omega)
  have h5 : (s*s)*(t*t) = (s*t)*(s*t) := by grind
  exact lt_of_sq (Int.mul_nonneg hs ht) (by omega)
theorem tri_lt {x1 x2 y1 y2 s t : Int} (hs : 0 ≤ s) (ht : 0 ≤ t) (h1 : x1*x1+x2*x2 < s*s) (h2 : y1*y1+y2*y2 < t*t) :
    (x1+y1)*(x1+y1)+(x2+y2)*(x2+y2) < (s+t)*(s+t) := by
  have h := cs_lt hs ht h1 h2
  have e1 : (x1+y1)*(x1+y1)+(x2+y2)*(x2+y2) = (x1*x1+x2*x2) + (y1*y1+y2*y2) + 2*(x1*y1+x2*y2) := by grind
  have e2 : (s+t)*(s+t) = s*s + t*t + 2*(s*t) := by grind
  omega
structure Pt where
  x : Int
  y : Int
structure Ed where
  a : Pt
  b : Pt
def Ed.wx (e : Ed) : Int := e.b.x - e.a.x
def Ed.wy (e : Ed) : Int := e.b.y - e.a.y
def Ed.long (e : Ed) : Int := e.wx * e.wx + e.wy * e.wy
def Ed.along (e : Ed) (p : Pt) : Int := e.wx * (p.x - e.a.x) + e.wy * (p.y - e.a.y)
def Ed.cr (e : Ed) (p : Pt) : Int := e.wx * (p.y - e.a.y) - e.wy * (p.x - e.a.x)
def dist2 (p q : Pt) : Int := (p.x - q.x) * (p.x - q.x) + (p.y - q.y) * (p.y - q.y)
def Ed.num (e : Ed) (p : Pt) : Int := if e.along p ≤ 0 then dist2 p e.a else if e.long ≤ e.along p then dist2 p e.b else e.cr p * e.cr p
def Ed.den (e : Ed) (p : Pt) : Int := if e.along p ≤ 0 then 1 else if e.long ≤ e.along p then 1 else e.long
theorem Ed.den_pos (e : Ed) (p : Pt) : 1 ≤ e.den p := by
  unfold Ed.den
  split
  · omega
  · split <;> omega
theorem dist2_nonneg (p q : Pt) : 0 ≤ dist2 p q := by
  have := sq_nonneg (p.x - q.x); have := sq_nonneg (p.y - q.y); unfold dist2; omega
theorem Ed.num_nonneg (e : Ed) (p : Pt) : 0 ≤ e.num p := by
  unfold Ed.num
  split
  · exact dist2_nonneg _ _
  · split
    · exact dist2_nonneg _ _
    · exact sq_nonneg _
theorem Ed.long_nonneg (e : Ed) : 0 ≤ e.long := by
  have := sq_nonneg e.wx; have := sq_nonneg e.wy; unfold Ed.long; omega
def Ed.at2 (e : Ed) (p : Pt) (k n : Int) : Int :=
  (n * (p.x - e.a.x) - k * e.wx) * (n * (p.x - e.a.x) - k * e.wx) + (n * (p.y - e.a.y) - k * e.wy) * (n * (p.y - e.a.y) - k * e.wy)
theorem Ed.at2_eq (e : Ed) (p : Pt) (k n : Int) : e.at2 p k n = n * n * dist2 p e.a - 2 * (n * k) * e.along p + k * k * e.long := by
  unfold Ed.at2 dist2 Ed.along Ed.long; grind
theorem Ed.dist_b (e : Ed) (p : Pt) : dist2 p e.b = dist2 p e.a - 2 * e.along p + e.long := by
  unfold dist2 Ed.along Ed.long Ed.wx Ed.wy; grind
theorem Ed.cross_eq (e : Ed) (p : Pt) : e.long * dist2 p e.a = e.along p * e.along p + e.cr p * e.cr p := by
  unfold dist2 Ed.along Ed.long Ed.cr; grind
theorem Ed.least (e : Ed) (p : Pt) (k n : Int) (h0 : 0 ≤ k) (h1 : k ≤ n) : e.num p * (n * n) ≤ e.den p * e.at2 p k n := by
  have hL := e.long_nonneg
  rw [e.at2_eq]
  unfold Ed.num Ed.den
  split
  · rename_i h
    have a1 : 0 ≤ n * k := Int.mul_nonneg (by omega) h0
    have a2 : 0 ≤ (n * k) * (- e.along p) := Int.mul_nonneg a1 (by omega)
    have a3 : 0 ≤ k * k * e.long := Int.mul_nonneg (Int.mul_nonneg h0 h0) hL
    grind
  · split
    · rename_i h h2
      rw [e.dist_b]
      have a1 : 0 ≤ (n - k) * n := Int.mul_nonneg (by omega) (by omega)
      have a2 : 0 ≤ ((n - k) * n) * (e.along p - e.long) := Int.mul_nonneg a1 (by omega)
      have a3 : 0 ≤ (n - k) * (n - k) * e.long := Int.mul_nonneg (sq_nonneg _) hL
      grind
    · rename_i h h2
      have hc := e.cross_eq p
      have a1 := sq_nonneg (n * e.along p - k * e.long)
      have e1 : e.long * (n * n * dist2 p e.a - 2 * (n * k) * e.along p + k * k * e.long) = n * n * (e.long * dist2 p e.a) - 2 * (n * k) * e.along p * e.long + k * k * (e.long * e.long) := by grind
      rw [e1, hc]
      grind
theorem Ed.there (e : Ed) (p : Pt) : ∃ k n : Int, 0 ≤ k ∧ k ≤ n ∧ 1 ≤ n ∧ e.num p * (n * n) = e.den p * e.at2 p k n := by
  by_cases h : e.along p ≤ 0
  · refine ⟨0, 1, by omega, by omega, by omega, ?_⟩
    rw [e.at2_eq]; unfold Ed.num Ed.den; rw [if_pos h, if_pos h]; grind
  · by_cases h2 : e.long ≤ e.along p
    · refine ⟨1, 1, by omega, by omega, by omega, ?_⟩
      rw [e.at2_eq]; unfold Ed.num Ed.den; rw [if_neg h, if_neg h, if_pos h2, if_pos h2, e.dist_b]; grind
    · refine ⟨e.along p, e.long, by omega, by omega, by omega, ?_⟩
      rw [e.at2_eq]; unfold Ed.num Ed.den; rw [if_neg h, if_neg h, if_neg h2, if_neg h2]
      have hc := e.cross_eq p
      grind
def Ed.lt8 (e : Ed) (p : Pt) (v : Int) : Prop := 64 * e.num p < v * v * e.den p
theorem Ed.step (e : Ed) (p q : Pt) (s t : Int) (hs : 0 ≤ s) (ht : 0 ≤ t) (h : e.lt8 p s) (hw : 64 * dist2 p q < t * t) : e.lt8 q (s + t) := by
  obtain ⟨k, n, h0, h1, h2, he⟩ := e.there p
  have hl := e.least q k n h0 h1
  have hd := e.den_pos p
  have hd' := e.den_pos q
  unfold Ed.lt8 at *
  have hnn : 0 < n * n := Int.mul_pos (by omega) (by omega)
  have b1 : 64 * e.at2 p k n < (s * n) * (s * n) := by
    have c1 : (64 * e.num p) * (n * n) < (s * s * e.den p) * (n * n) := Int.mul_lt_mul_of_pos_right h hnn
    have c2 : (64 * e.num p) * (n * n) = 64 * (e.den p * e.at2 p k n) := by rw [← he]; grind
    have c3 : e.den p * (64 * e.at2 p k n) < e.den p * ((s * n) * (s * n)) := by grind
    exact Int.lt_of_mul_lt_mul_left c3 (by omega)
  have b2 : 64 * e.at2 q k n < ((s + t) * n) * ((s + t) * n) := by
    have t1 := tri_lt (x1 := 8 * (n * (p.x - e.a.x) - k * e.wx)) (x2 := 8 * (n * (p.y - e.a.y) - k * e.wy)) (y1 := 8 * (n * (q.x - p.x))) (y2 := 8 * (n * (q.y - p.y))) (s := s * n) (t := t * n) (Int.mul_nonneg hs (by omega)) (Int.mul_nonneg ht (by omega))
      (by unfold Ed.at2 at b1; grind) (by
        have d1 : (64 * dist2 p q) * (n * n) < (t * t) * (n * n) := Int.mul_lt_mul_of_pos_right hw hnn
        unfold dist2 at d1; grind)
    unfold Ed.at2
    grind
  have b3 : (64 * e.num q) * (n * n) < ((s + t) * (s + t) * e.den q) * (n * n) := by
    have c1 : e.den q * (64 * e.at2 q k n) < e.den q * (((s + t) * n) * ((s + t) * n)) := Int.mul_lt_mul_of_pos_left b2 (by omega)
    have c2 : 64 * (e.num q * (n * n)) ≤ 64 * (e.den q * e.at2 q k n) := by omega
    grind
  exact Int.lt_of_mul_lt_mul_right b3 (by omega)
end Go.Proofs.Ytlljpjbhndcaiaa.Geo
end
section
set_option linter.unusedVariables false
set_option linter.unusedSimpArgs false
namespace Go.Proofs.Ytlljpjbhndcaiaa.M
open Go.RowKit Go.Proofs.Ytlljpjbhndcaiaa.Q Go.Proofs.YtlljpjbhndcaiaaW.PrintWords Go.Proofs.YtlljpjbhndcaiaaW.PrintLast Go.Proofs.YtlljpjbhndcaiaaW.PrintMore Go.Proofs.Ytlljpjbhndcaiaa.Geo
def ed (e : S40) : Ed := ⟨⟨e.f0.f0, e.f0.f1⟩, ⟨e.f1.f0, e.f1.f1⟩⟩
def Small (x : Int) : Prop := -8200 ≤ x ∧ x ≤ 8200
def Mid (x : Int) : Prop := -33000 ≤ x ∧ x ≤ 33000
def EdIn (e : S40) : Prop := Small e.f0.f0 ∧ Small e.f0.f1 ∧ Small e.f1.f0 ∧ Small e.f1.f1
def PtIn (p : Pt) : Prop := Mid p.x ∧ Mid p.y
theorem mulb {a b A B : Int} (h1 : -A ≤ a) (h2 : a ≤ A) (h3 : -B ≤ b) (h4 : b ≤ B) : -(A * B) ≤ a * b ∧ a * b ≤ A * B := by
  have hA : 0 ≤ A := by omega
  have hB : 0 ≤ B := by omega
  rcases Int.le_total 0 a with ha | ha
  · rcases Int.le_total 0 b with hb | hb
    · have := mul_bound ha h2 hb h4
      omega
    · have := mul_bound (a := a) (b := -b) (n := A) (m := B) ha h2 (by omega) (by omega)
      rw [Int.mul_neg] at this
      omega
  · rcases Int.le_total 0 b with hb | hb
    · have := mul_bound (a := -a) (b := b) (n := A) (m := B) (by omega) (by omega) hb h4
      rw [Int.neg_mul] at this
      omega
    · have := mul_bound (a := -a) (b := -b) (n := A) (m := B) (by omega) (by omega) (by omega) (by omega)
      rw [Int.neg_mul_neg] at this
      omega
theorem sqb {a A : Int} (h1 : -A ≤ a) (h2 : a ≤ A) : 0 ≤ a * a ∧ a * a ≤ A * A := ⟨sq_nonneg a, (mulb h1 h2 h1 h2).2⟩
theorem le_cancel {n d g Q : Int} (hg : 1 ≤ g) (h : n * g * 64 ≤ Q * (d * g)) : n * 64 ≤ Q * d := by
  have : n * 64 * g ≤ Q * d * g := by
    have e1 : n * 64 * g = n * g * 64 := by grind
    have e2 : Q * d * g = Q * (d * g) := by grind
    omega
  exact Int.le_of_mul_le_mul_right this (by omega)
structure IsSq (e : S40) (p : Pt) (n d : Int) : Prop where
  g : ∃ g, 1 ≤ g ∧ (ed e).num p = n * g ∧ (ed e).den p = d * g
  n0 : 0 ≤ n
  n1 : n < 4000000000000000000
  d1 : 1 ≤ d
  d2 : d < 4000000000
  q : n * 64 ≤ 4611686018427387904 * d
theorem IsSq.of {e : S40} {p : Pt} {n d g : Int} (hg : 1 ≤ g) (h1 : (ed e).num p = n * g) (h2 : (ed e).den p = d * g) (b1 : (ed e).num p < 4000000000000000000) (b2 : (ed e).den p < 4000000000) (b3 : (ed e).num p * 64 ≤ 4611686018427387904 * (ed e).den p) : IsSq e p n d := by
  have a1 := Ed.num_nonneg (ed e) p
  have a2 := Ed.den_pos (ed e) p
  rw [h1] at a1 b1 b3
  rw [h2] at a2 b2 b3
  have n0 : 0 ≤ n := by
    by_cases h : 0 ≤ n
    · exact h
    · have := Int.mul_le_mul_of_nonneg_right (show n ≤ -1 by omega) (show 0 ≤ g by omega)
      omega
  have d1 : 1 ≤ d := by
    by_cases h : 1 ≤ d
    · exact h
    · have := Int.mul_le_mul_of_nonneg_right (show d ≤ 0 by omega) (show 0 ≤ g by omega)
      omega
  have n2 := Int.mul_le_mul_of_nonneg_left hg n0
  have d3 := Int.mul_le_mul_of_nonneg_left hg (show 0 ≤ d by omega)
  exact ⟨⟨g, hg, h1, h2⟩, n0, by omega, d1, by omega, le_cancel hg b3⟩
theorem square_eq (e : S40) (p : Pt) (he : EdIn e) (hp : PtIn p) :
    ∃ n d, IsSq e p n d ∧ Ret (fun k => plane_Square.f k e.f0.f0 e.f0.f1 e.f1.f0 e.f1.f1 p.x p.y) (n, d) := by
  obtain ⟨⟨a1, a2⟩, ⟨a3, a4⟩, ⟨a5, a6⟩, ⟨a7, a8⟩⟩ := he
  obtain ⟨⟨p1, p2⟩, ⟨p3, p4⟩⟩ := hp
  obtain ⟨⟨x1, y1⟩, ⟨x2, y2⟩⟩ := e
  obtain ⟨px, py⟩ := p
  simp only at a1 a2 a3 a4 a5 a6 a7 a8 p1 p2 p3 p4
  have ew : (ed ⟨⟨x1, y1⟩, ⟨x2, y2⟩⟩).wx = x2 - x1 := rfl
  have ev : (ed ⟨⟨x1, y1⟩, ⟨x2, y2⟩⟩).wy = y2 - y1 := rfl
  have m1 := mulb (a := x2 - x1) (b := px - x1) (A := 16400) (B := 41200) (by omega) (by omega) (by omega) (by omega)
  have m2 := mulb (a := y2 - y1) (b := py - y1) (A := 16400) (B := 41200) (by omega) (by omega) (by omega) (by omega)
  have m3 := mulb (a := x2 - x1) (b := py - y1) (A := 16400) (B := 41200) (by omega) (by omega) (by omega) (by omega)
  have m4 := mulb (a := y2 - y1) (b := px - x1) (A := 16400) (B := 41200) (by omega) (by omega) (by omega) (by omega)
  have s1 := sqb (a := x2 - x1) (A := 16400) (by omega) (by omega)
  have s2 := sqb (a := y2 - y1) (A := 16400) (by omega) (by omega)
  have s3 := sqb (a := px - x1) (A := 41200) (by omega) (by omega)
  have s4 := sqb (a := py - y1) (A := 41200) (by omega) (by omega)
  have s5 := sqb (a := px - x2) (A := 41200) (by omega) (by omega)
  have s6 := sqb (a := py - y2) (A := 41200) (by omega) (by omega)
  have sc := sqb (a := (x2 - x1) * (py - y1) - (y2 - y1) * (px - x1)) (A := 1351360000) (by omega) (by omega)
  have eal : (ed ⟨⟨x1, y1⟩, ⟨x2, y2⟩⟩).along ⟨px, py⟩ = (x2 - x1) * (px - x1) + (y2 - y1) * (py - y1) := rfl
  have elo : (ed ⟨⟨x1, y1⟩, ⟨x2, y2⟩⟩).long = (x2 - x1) * (x2 - x1) + (y2 - y1) * (y2 - y1) := rfl
  have ecr : (ed ⟨⟨x1, y1⟩, ⟨x2, y2⟩⟩).cr ⟨px, py⟩ = (x2 - x1) * (py - y1) - (y2 - y1) * (px - x1) := rfl
  have da : dist2 ⟨px, py⟩ (ed ⟨⟨x1, y1⟩, ⟨x2, y2⟩⟩).a = (px - x1) * (px - x1) + (py - y1) * (py - y1) := rfl
  have db : dist2 ⟨px, py⟩ (ed ⟨⟨x1, y1⟩, ⟨x2, y2⟩⟩).b = (px - x2) * (px - x2) + (py - y2) * (py - y2) := rfl
  have hc := Ed.cross_eq (ed ⟨⟨x1, y1⟩, ⟨x2, y2⟩⟩) ⟨px, py⟩
  rw [eal, elo, ecr, da] at hc
  have fn : (ed ⟨⟨x1, y1⟩, ⟨x2, y2⟩⟩).num ⟨px, py⟩ = if (x2 - x1) * (px - x1) + (y2 - y1) * (py - y1) ≤ 0 then (px - x1) * (px - x1) + (py - y1) * (py - y1) else if (x2 - x1) * (x2 - x1) + (y2 - y1) * (y2 - y1) ≤ (x2 - x1) * (px - x1) + (y2 - y1) * (py - y1) then (px - x2) * (px - x2) + (py - y2) * (py - y2) else ((x2 - x1) * (py - y1) - (y2 - y1) * (px - x1)) * ((x2 - x1) * (py - y1) - (y2 - y1) * (px - x1)) := rfl
  have fd : (ed ⟨⟨x1, y1⟩, ⟨x2, y2⟩⟩).den ⟨px, py⟩ = if (x2 - x1) * (px - x1) + (y2 - y1) * (py - y1) ≤ 0 then 1 else if (x2 - x1) * (x2 - x1) + (y2 - y1) * (y2 - y1) ≤ (x2 - x1) * (px - x1) + (y2 - y1) * (py - y1) then 1 else (x2 - x1) * (x2 - x1) + (y2 - y1) * (y2 - y1) := rfl
  simp only [plane_Square.f]
  rw [w64 (n := x2 - x1) (by omega) (by omega), w64 (n := y2 - y1) (by omega) (by omega), w64 (n := px - x1) (by omega) (by omega), w64 (n := py - y1) (by omega) (by omega), w64 (n := px - x2) (by omega) (by omega), w64 (n := py - y2) (by omega) (by omega),
    w64 (n := (x2 - x1) * (px - x1)) (by omega) (by omega), w64 (n := (y2 - y1) * (py - y1)) (by omega) (by omega), w64 (n := (x2 - x1) * (py - y1)) (by omega) (by omega), w64 (n := (y2 - y1) * (px - x1)) (by omega) (by omega),
    w64 (n := (x2 - x1) * (x2 - x1)) (by omega) (by omega), w64 (n := (y2 - y1) * (y2 - y1)) (by omega) (by omega), w64 (n := (px - x1) * (px - x1)) (by omega) (by omega), w64 (n := (py - y1) * (py - y1)) (by omega) (by omega), w64 (n := (px - x2) * (px - x2)) (by omega) (by omega), w64 (n := (py - y2) * (py - y2)) (by omega) (by omega)]
  rw [w64 (n := (x2 - x1) * (px - x1) + (y2 - y1) * (py - y1)) (by omega) (by omega), w64 (n := (x2 - x1) * (x2 - x1) + (y2 - y1) * (y2 - y1)) (by omega) (by omega), w64 (n := (px - x1) * (px - x1) + (py - y1) * (py - y1)) (by omega) (by omega), w64 (n := (px - x2) * (px - x2) + (py - y2) * (py - y2)) (by omega) (by omega),
    w64 (n := (x2 - x1) * (py - y1) - (y2 - y1) * (px - x1)) (by omega) (by omega), w64 (n := ((x2 - x1) * (py - y1) - (y2 - y1) * (px - x1)) * ((x2 - x1) * (py - y1) - (y2 - y1) * (px - x1))) (by omega) (by omega)]
  clear ew ev eal elo ecr da db
  have hal : 0 ≤ ((x2 - x1) * (px - x1) + (y2 - y1) * (py - y1)) * ((x2 - x1) * (px - x1) + (y2 - y1) * (py - y1)) := sq_nonneg _
  by_cases h1 : (x2 - x1) * (px - x1) + (y2 - y1) * (py - y1) ≤ 0
  · simp only [if_pos h1] at fn fd ⊢
    exact ⟨_, _, IsSq.of (g := 1) (by omega) (by rw [fn, Int.mul_one]) (by rw [fd]; rfl) (by rw [fn]; omega) (by rw [fd]; omega) (by rw [fn, fd]; omega), Ret.const rfl⟩
  · simp only [if_neg h1] at fn fd ⊢
    by_cases h2 : (x2 - x1) * (x2 - x1) + (y2 - y1) * (y2 - y1) ≤ (x2 - x1) * (px - x1) + (y2 - y1) * (py - y1)
    · simp only [if_pos h2] at fn fd ⊢
      exact ⟨_, _, IsSq.of (g := 1) (by omega) (by rw [fn, Int.mul_one]) (by rw [fd]; rfl) (by rw [fn]; omega) (by rw [fd]; omega) (by rw [fn, fd]; omega), Ret.const rfl⟩
    · simp only [if_neg h2] at fn fd ⊢
      have hlo : 0 ≤ (x2 - x1) * (x2 - x1) + (y2 - y1) * (y2 - y1) ∧ (x2 - x1) * (x2 - x1) + (y2 - y1) * (y2 - y1) ≤ 537920000 := by omega
      generalize (x2 - x1) * (x2 - x1) + (y2 - y1) * (y2 - y1) = lo at *
      generalize (x2 - x1) * (py - y1) - (y2 - y1) * (px - x1) = c at *
      obtain ⟨g, n', d', g1, g2, g3, hr⟩ := of_eq (c * c) lo (by omega) (by omega) (by omega) (by omega)
      refine ⟨n', d', IsSq.of (g := g) g1 (by rw [fn, g2]) (by rw [fd, g3]) (by rw [fn]; omega) (by rw [fd]; omega) ?_, Ret.bind hr (Ret.const rfl)⟩
      rw [fn, fd]
      have k1 : lo * ((px - x1) * (px - x1) + (py - y1) * (py - y1)) ≤ lo * 3394880000 := Int.mul_le_mul_of_nonneg_left (by omega) (by omega)
      omega
end Go.Proofs.Ytlljpjbhndcaiaa.M
end
section
set_option linter.unusedVariables false
set_option linter.unusedSimpArgs false
namespace Go.Proofs.Ytlljpjbhndcaiaa.M
open Go.RowKit Go.Proofs.Ytlljpjbhndcaiaa.Q Go.Proofs.YtlljpjbhndcaiaaW.PrintWords Go.Proofs.YtlljpjbhndcaiaaW.PrintLast Go.Proofs.YtlljpjbhndcaiaaW.PrintMore Go.Proofs.Ytlljpjbhndcaiaa.Geo
theorem compare_eq {e e' : S40} {p : Pt} {n d n' d' : Int} (h : IsSq e p n d) (h' : IsSq e' p n' d') : Ret (fun k => root_Compare.f k n d n' d') (cmp (n * d') (n' * d)) :=
  less_eq n d n' d' h.n0 (by have := h.n1; omega) (by have := h.d1; omega) (by have := h.d2; omega) h'.n0 (by have := h'.n1; omega) (by have := h'.d1; omega) (by have := h'.d2; omega)
def AllIn (es : List S40) : Prop := ∀ e ∈ es, EdIn e
theorem rd_mem (es : List S40) (i : Int) (h0 : 0 ≤ i) (h1 : i < (es.length : Int)) : rd_T40 es i ∈ es := by
  unfold rd_T40
  rw [List.getD_eq_getElem?_getD, List.getElem?_eq_getElem (by omega)]
  exact List.getElem_mem _
def Is8 (es : List S40) (p : Pt) (v : Int) : Prop := 0 ≤ v ∧ (∃ e ∈ es, 64 * (ed e).num p < (v + 1) * (v + 1) * (ed e).den p) ∧ ∀ e ∈ es, v * v * (ed e).den p ≤ 64 * (ed e).num p
end Go.Proofs.Ytlljpjbhndcaiaa.M
end
section
set_option linter.unusedVariables false
set_option linter.unusedSimpArgs false
namespace Go.Proofs.Ytlljpjbhndcaiaa.M
open Go.RowKit Go.Proofs.Ytlljpjbhndcaiaa.Q Go.Proofs.YtlljpjbhndcaiaaW.PrintWords Go.Proofs.YtlljpjbhndcaiaaW.PrintLast Go.Proofs.YtlljpjbhndcaiaaW.PrintMore Go.Proofs.Ytlljpjbhndcaiaa.Geo
def onAny (es : List S40) (p : Pt) : Bool := es.any fun e => decide ((ed e).num p = 0)
def side (e : S40) (p : Pt) : Int := if (ed e).cr p > 0 then 1 else if (ed e).cr p < 0 then -1 else 0
def wn (p : Pt) (e : S40) : Int :=
  if e.f0.f1 ≤ p.y ∧ e.f1.f1 > p.y ∧ side e p > 0 then 1 else if e.f1.f1 ≤ p.y ∧ e.f0.f1 > p.y ∧ side e p < 0 then -1 else 0
def winding (es : List S40) (p : Pt) : Int := (es.map (wn p)).sum
def sign (es : List S40) (p : Pt) : Int := if onAny es p = true then 0 else if winding es p = 0 then -1 else 1
end Go.Proofs.Ytlljpjbhndcaiaa.M
end
section
set_option linter.unusedVariables false
set_option linter.unusedSimpArgs false
namespace Go.Proofs.Ytlljpjbhndcaiaa.M
open Go.RowKit Go.Proofs.Ytlljpjbhndcaiaa.Q Go.Proofs.YtlljpjbhndcaiaaW.PrintWords Go.Proofs.YtlljpjbhndcaiaaW.PrintLast Go.Proofs.YtlljpjbhndcaiaaW.PrintMore Go.Proofs.Ytlljpjbhndcaiaa.Geo
theorem getD_take_succ {α : Type} (l : List α) (d : α) (i : Int) (h0 : 0 ≤ i) (h1 : i < (l.length : Int)) : l.take (i + 1).toNat = l.take i.toNat ++ [l.getD i.toNat d] := by
  have e : (i + 1).toNat = i.toNat + 1 := by omega
  have hl : i.toNat < l.length := by omega
  rw [e, List.take_add_one, List.getElem?_eq_getElem hl, List.getD_eq_getElem?_getD, List.getElem?_eq_getElem hl]
  rfl
def vert (d : S133) : S135 := ⟨Int.tmod (wrap64 d.f0) 256, Int.tmod (wrap64 d.f1) 256, d.f2⟩
theorem tmod_bound (x : Int) : -255 ≤ Int.tmod x 256 ∧ Int.tmod x 256 ≤ 255 := by
  rw [Int.tmod_eq_emod]
  split <;> omega
def VertIn (v : S135) : Prop := (-255 ≤ v.f0 ∧ v.f0 ≤ 255) ∧ (-255 ≤ v.f1 ∧ v.f1 ≤ 255)
theorem vert_in (d : S133) : VertIn (vert d) := ⟨tmod_bound _, tmod_bound _⟩
def ContIn (c : List S135) : Prop := 0 < c.length ∧ c.length ≤ 12 ∧ ∀ v ∈ c, VertIn v
theorem outline_l1 (x4 : Int) (x14 : List (List S133)) (x15 x16 : Int) (x25 : List S133) (acc : List (List S135)) (hl : x25.length ≤ 12) (r : List (List S135))
    (hr : Ret (fun k => if ((x25.map vert).length : Int) > 0 then (if acc.length < 5864062014805 then (punchcutlaw04_Outline.l0 k (wrap64 (x4 - ((x25.map vert).length : Int))) x14 x15 (wrap64 (x16 + 1)) (acc ++ [x25.map vert])) else (none)) else (punchcutlaw04_Outline.l0 k (wrap64 (x4 - ((x25.map vert).length : Int))) x14 x15 (wrap64 (x16 + 1)) acc)) r) :
    ∀ (m : Nat) (i : Int), x25.length - i.toNat ≤ m → 0 ≤ i → i ≤ x25.length → Ret (fun k => punchcutlaw04_Outline.l1 k x4 ((x25.take i.toNat).map vert) x14 x15 x16 x25 x25.length i acc) r := by
  intro m
  induction m with
  | zero =>
    intro i hm h0 h1
    refine Ret.succ (Ret.congr hr fun k => ?_)
    show punchcutlaw04_Outline.l1 (k + 1) x4 _ x14 x15 x16 x25 x25.length i acc = _
    rw [punchcutlaw04_Outline.l1, if_neg (by omega), List.take_of_length_le (by omega)]
  | succ m ih =>
    intro i hm h0 h1
    by_cases hz : i < x25.length
    · have hI := ih (i + 1) (by omega) (by omega) (by omega)
      rw [getD_take_succ x25 z133 i h0 hz, List.map_append] at hI
      refine Ret.succ (Ret.congr hI fun k => ?_)
      show punchcutlaw04_Outline.l1 (k + 1) x4 _ x14 x15 x16 x25 x25.length i acc = _
      rw [punchcutlaw04_Outline.l1, if_pos hz, if_pos h0, if_pos hz, if_pos (by rw [List.length_map, List.length_take]; omega), w64 (n := i + 1) (by omega) (by omega)]
      rfl
    · refine Ret.succ (Ret.congr hr fun k => ?_)
      show punchcutlaw04_Outline.l1 (k + 1) x4 _ x14 x15 x16 x25 x25.length i acc = _
      rw [punchcutlaw04_Outline.l1, if_neg hz, List.take_of_length_le (by omega)]
theorem mn_le (a b : Int) : mn a b ≤ a ∧ mn a b ≤ b := by unfold mn; split <;> omega
theorem mn_ge {a b c : Int} (h1 : c ≤ a) (h2 : c ≤ b) : c ≤ mn a b := by unfold mn; split <;> omega
theorem outline_l0 (x14 : List (List S133)) (hl : x14.length ≤ 8) : ∀ (m : Nat) (i x4 : Int) (acc : List (List S135)), x14.length - i.toNat ≤ m → 0 ≤ i → i ≤ x14.length → 0 ≤ x4 → x4 ≤ 64 → acc.length ≤ i.toNat → (∀ c ∈ acc, ContIn c) →
    ∃ r, r.length ≤ 8 ∧ (∀ c ∈ r, ContIn c) ∧ Ret (fun k => punchcutlaw04_Outline.l0 k x4 x14 x14.length i acc) r := by
  intro m
  induction m with
  | zero =>
    intro i x4 acc hm h0 h1 h2 h3 h4 h5
    refine ⟨acc, by omega, h5, Ret.succ (Ret.congr (Ret.const rfl) fun k => ?_)⟩
    show punchcutlaw04_Outline.l0 (k + 1) x4 x14 x14.length i acc = _
    rw [punchcutlaw04_Outline.l0, if_neg (by omega)]
  | succ m ih =>
    intro i x4 acc hm h0 h1 h2 h3 h4 h5
    by_cases hz : i < x14.length
    · obtain ⟨row, hrow⟩ : ∃ row, rd_L12 x14 i = row := ⟨_, rfl⟩
      obtain ⟨t, ht⟩ : ∃ t, mn (mn (row.length : Int) 12) x4 = t := ⟨_, rfl⟩
      have t0 : 0 ≤ t := by rw [← ht]; exact mn_ge (mn_ge (by omega) (by omega)) h2
      have t1 : t ≤ row.length ∧ t ≤ 12 ∧ t ≤ x4 := by
        have a := mn_le (mn (row.length : Int) 12) x4
        have b := mn_le (row.length : Int) 12
        omega
      have hlen : (row.take t.toNat).length = t.toNat := by rw [List.length_take]; omega
      have hvl : ((row.take t.toNat).map vert).length = t.toNat := by rw [List.length_map, hlen]
      have wi : wrap64 (i + 1) = i + 1 := w64 (by omega) (by omega)
      have wx : wrap64 (x4 - (t.toNat : Int)) = x4 - t := by rw [w64 (by omega) (by omega)]; omega
      have hc : ∃ r, r.length ≤ 8 ∧ (∀ c ∈ r, ContIn c) ∧ Ret (fun k => if (((row.take t.toNat).map vert).length : Int) > 0 then (if acc.length < 5864062014805 then (punchcutlaw04_Outline.l0 k (wrap64 (x4 - (((row.take t.toNat).map vert).length : Int))) x14 x14.length (wrap64 (i + 1)) (acc ++ [(row.take t.toNat).map vert])) else (none)) else (punchcutlaw04_Outline.l0 k (wrap64 (x4 - (((row.take t.toNat).map vert).length : Int))) x14 x14.length (wrap64 (i + 1)) acc)) r := by
        rw [hvl, wi, wx]
        by_cases hp : (t.toNat : Int) > 0
        · simp only [if_pos hp, if_pos (show acc.length < 5864062014805 by omega)]
          refine ih (i + 1) (x4 - t) _ (by omega) (by omega) (by omega) (by omega) (by omega) (by rw [List.length_append]; simp; omega) ?_
          intro c hc
          rcases List.mem_append.1 hc with hc | hc
          · exact h5 c hc
          · rw [List.mem_singleton.1 hc]
            refine ⟨by omega, by omega, fun v hv => ?_⟩
            obtain ⟨d, _, rfl⟩ := List.mem_map.1 hv
            exact vert_in d
        · simp only [if_neg hp]
          exact ih (i + 1) (x4 - t) acc (by omega) (by omega) (by omega) (by omega) (by omega) (by omega) h5
      obtain ⟨r, r1, r2, hr⟩ := hc
      have h1 := outline_l1 x4 x14 x14.length i (row.take t.toNat) acc (by omega) r hr _ 0 (Nat.le_refl _) (by omega) (by omega)
      refine ⟨r, r1, r2, Ret.succ (Ret.congr h1 fun k => ?_)⟩
      show punchcutlaw04_Outline.l0 (k + 1) x4 x14 x14.length i acc = _
      rw [punchcutlaw04_Outline.l0, if_pos hz, if_pos h0, if_pos hz, hrow, ht, if_pos t0, if_pos t1.1]
      rfl
    · refine ⟨acc, by omega, h5, Ret.succ (Ret.congr (Ret.const rfl) fun k => ?_)⟩
      show punchcutlaw04_Outline.l0 (k + 1) x4 x14 x14.length i acc = _
      rw [punchcutlaw04_Outline.l0, if_neg hz]
theorem outline_eq (l : List (List S133)) : ∃ r, r.length ≤ 8 ∧ (∀ c ∈ r, ContIn c) ∧ Ret (fun k => punchcutlaw04_Outline.f k l) r := by
  obtain ⟨t, ht⟩ : ∃ t, mn (l.length : Int) 8 = t := ⟨_, rfl⟩
  have t0 : 0 ≤ t := by rw [← ht]; exact mn_ge (by omega) (by omega)
  have t1 := mn_le (l.length : Int) 8
  rw [ht] at t1
  have hlen : (l.take t.toNat).length = t.toNat := by rw [List.length_take]; omega
  obtain ⟨r, r1, r2, hr⟩ := outline_l0 (l.take t.toNat) (by omega) _ 0 64 [] (Nat.le_refl _) (by omega) (by omega) (by omega) (by omega) (by simp) (by simp)
  refine ⟨r, r1, r2, Ret.congr hr fun k => ?_⟩
  unfold punchcutlaw04_Outline.f
  rw [ht, if_pos t0, if_pos t1.1]
  rfl
end Go.Proofs.Ytlljpjbhndcaiaa.M
end
section
set_option linter.unusedVariables false
set_option linter.unusedSimpArgs false
namespace Go.Proofs.Ytlljpjbhndcaiaa.M
open Go.RowKit Go.Proofs.Ytlljpjbhndcaiaa.Q Go.Proofs.YtlljpjbhndcaiaaW.PrintWords Go.Proofs.YtlljpjbhndcaiaaW.PrintLast Go.Proofs.YtlljpjbhndcaiaaW.PrintMore Go.Proofs.Ytlljpjbhndcaiaa.Geo
def P510 (p : S32) : Prop := (-510 ≤ p.f0 ∧ p.f0 ≤ 510) ∧ (-510 ≤ p.f1 ∧ p.f1 ≤ 510)
def SegIn (s : S143) : Prop := P510 s.f0 ∧ P510 s.f1 ∧ P510 s.f2
theorem pt_in (v : S135) (h : VertIn v) : P510 (path_pt v) := by
  obtain ⟨⟨h1, h2⟩, ⟨h3, h4⟩⟩ := h
  unfold path_pt P510
  simp only
  rw [w64 (by omega) (by omega), w64 (by omega) (by omega)]
  omega
theorem hf_in (a b : S135) (ha : VertIn a) (hb : VertIn b) : P510 (path_hf a b) := by
  obtain ⟨⟨h1, h2⟩, ⟨h3, h4⟩⟩ := ha
  obtain ⟨⟨h5, h6⟩, ⟨h7, h8⟩⟩ := hb
  unfold path_hf P510
  simp only
  rw [w64 (by omega) (by omega), w64 (by omega) (by omega)]
  omega
theorem seg_in (here p : S32) (pull : Option S135) (h1 : P510 here) (h2 : P510 p) (h3 : ∀ v, pull = some v → VertIn v) : SegIn (path_seg here pull p) := by
  cases pull with
  | none => exact ⟨h1, h1, h2⟩
  | some v => exact ⟨h1, pt_in v (h3 v rfl), h2⟩
theorem rd135_in (l : List S135) (h : ∀ v ∈ l, VertIn v) (i : Int) : VertIn (rd_T135 l i) := by
  unfold rd_T135
  rw [List.getD_eq_getElem?_getD]
  by_cases hi : i.toNat < l.length
  · rw [List.getElem?_eq_getElem hi]
    exact h _ (List.getElem_mem _)
  · rw [List.getElem?_eq_none (by omega)]
    unfold VertIn z135
    simp
theorem begin_in (l : List S135) (h : ∀ v ∈ l, VertIn v) : P510 (path_begin l) := by
  unfold path_begin
  split
  · exact pt_in _ (rd135_in l h _)
  · exact hf_in _ _ (rd135_in l h _) (rd135_in l h _)
def tele (φ : S32 → Int) (es : List S40) : Int := (es.map fun e => φ e.f1 - φ e.f0).sum
theorem tele_append (φ : S32 → Int) (a b : List S40) : tele φ (a ++ b) = tele φ a + tele φ b := by simp [tele]
theorem S32.eq {a b : S32} (h : a.f0 = b.f0 ∧ a.f1 = b.f1) : a = b := by
  cases a; cases b; simp_all
theorem tele_edge (φ : S32 → Int) (a b : S32) : tele φ (flat_edge a b) = φ b - φ a := by
  unfold flat_edge
  split
  · rename_i h; rw [S32.eq h]; simp [tele]
  · simp [tele]
theorem tele_chords (φ : S32 → Int) (s : S143) : ∀ k, tele φ (flat_chords s k) = φ (flat_pt s k) - φ (flat_pt s 0) := by
  intro k
  induction k with
  | zero => simp [flat_chords, tele]
  | succ k ih => rw [flat_chords, tele_append, ih, tele_edge]; omega
theorem on_c {a b c x y z : Int} (ha : 0 ≤ a ∧ a ≤ 16) (hb : 0 ≤ b ∧ b ≤ 16) (hc : 0 ≤ c ∧ c ≤ 16) (hx : -510 ≤ x ∧ x ≤ 510) (hy : -510 ≤ y ∧ y ≤ 510) (hz : -510 ≤ z ∧ z ≤ 510) : flat_On.c a b c x y z = a * x + b * y + c * z := by
  have h1 := mulb (a := a) (b := x) (A := 16) (B := 510) (by omega) (by omega) (by omega) (by omega)
  have h2 := mulb (a := b) (b := y) (A := 16) (B := 510) (by omega) (by omega) (by omega) (by omega)
  have h3 := mulb (a := c) (b := z) (A := 16) (B := 510) (by omega) (by omega) (by omega) (by omega)
  unfold flat_On.c
  rw [w64 (n := a * x) (by omega) (by omega), w64 (n := b * y) (by omega) (by omega), w64 (n := c * z) (by omega) (by omega), w64 (n := a * x + b * y) (by omega) (by omega), w64 (n := a * x + b * y + c * z) (by omega) (by omega),
    w64 (n := (a * x + b * y + c * z) * 16) (by omega) (by omega), Int.mul_tdiv_cancel _ (by omega), w64 (by omega) (by omega)]
theorem cv_eq (s : S143) (hs : SegIn s) (k : Int) (h0 : 0 ≤ k) (h4 : k ≤ 4) :
    flat_cv s k = ⟨(4 - k) * (4 - k) * s.f0.f0 + 2 * k * (4 - k) * s.f1.f0 + k * k * s.f2.f0, (4 - k) * (4 - k) * s.f0.f1 + 2 * k * (4 - k) * s.f1.f1 + k * k * s.f2.f1⟩ := by
  obtain ⟨⟨a, b⟩, ⟨c, d⟩, ⟨e, f⟩⟩ := hs
  have m1 : 0 ≤ (4 - k) * (4 - k) ∧ (4 - k) * (4 - k) ≤ 4 * 4 := mul_bound (by omega) (by omega) (by omega) (by omega)
  have m2 : 0 ≤ k * (4 - k) ∧ k * (4 - k) ≤ 4 := by
    obtain rfl | rfl | rfl | rfl | rfl : k = 0 ∨ k = 1 ∨ k = 2 ∨ k = 3 ∨ k = 4 := by omega
    all_goals omega
  have m3 : 0 ≤ k * k ∧ k * k ≤ 4 * 4 := mul_bound (by omega) (by omega) (by omega) (by omega)
  have e2 : 2 * k * (4 - k) = 2 * (k * (4 - k)) := by grind
  unfold flat_cv
  rw [w64 (n := 4 - k) (by omega) (by omega), w64 (n := 2 * k) (by omega) (by omega), w64 (n := (4 - k) * (4 - k)) (by omega) (by omega), w64 (n := 2 * k * (4 - k)) (by omega) (by omega), w64 (n := k * k) (by omega) (by omega)]
  rw [on_c (by omega) (by omega) (by omega) a c e, on_c (by omega) (by omega) (by omega) b d f]
def P8160 (p : S32) : Prop := Small p.f0 ∧ Small p.f1
theorem sm_eq (p : S32) (h : P510 p) : flat_sm p = ⟨16 * p.f0, 16 * p.f1⟩ := by
  obtain ⟨⟨h1, h2⟩, ⟨h3, h4⟩⟩ := h
  unfold flat_sm
  rw [w64 (by omega) (by omega), w64 (by omega) (by omega)]
theorem sm_in (p : S32) (h : P510 p) : P8160 (flat_sm p) := by
  rw [sm_eq p h]
  obtain ⟨⟨h1, h2⟩, ⟨h3, h4⟩⟩ := h
  unfold P8160 Small
  simp only
  omega
theorem fpt_in (s : S143) (hs : SegIn s) : ∀ k : Nat, k ≤ 4 → P8160 (flat_pt s k) := by
  intro k hk
  cases k with
  | zero => exact sm_in _ hs.1
  | succ k =>
    show P8160 (flat_cv s ((k : Int) + 1))
    rw [cv_eq s hs _ (by omega) (by omega)]
    obtain ⟨⟨a, b⟩, ⟨c, d⟩, ⟨e, f⟩⟩ := hs
    unfold P8160 Small
    simp only
    obtain rfl | rfl | rfl | rfl : k = 0 ∨ k = 1 ∨ k = 2 ∨ k = 3 := by omega
    all_goals (simp; omega)
theorem fpt_four (s : S143) (hs : SegIn s) : flat_pt s 4 = flat_sm s.f2 := by
  show flat_cv s (((3 : Nat) : Int) + 1) = _
  rw [cv_eq s hs _ (by omega) (by omega), sm_eq _ hs.2.2]
  simp
theorem edge_in (a b : S32) (ha : P8160 a) (hb : P8160 b) : AllIn (flat_edge a b) := by
  unfold flat_edge
  split
  · intro e he; simp at he
  · intro e he
    rw [List.mem_singleton.1 he]
    exact ⟨ha.1, ha.2, hb.1, hb.2⟩
theorem edge_len (a b : S32) : (flat_edge a b).length ≤ 1 := by unfold flat_edge; split <;> simp
theorem chords_in (s : S143) (hs : SegIn s) : ∀ k : Nat, k ≤ 4 → AllIn (flat_chords s k) ∧ (flat_chords s k).length ≤ k := by
  intro k
  induction k with
  | zero => intro _; exact ⟨fun e he => by simp [flat_chords] at he, by simp [flat_chords]⟩
  | succ k ih =>
    intro hk
    obtain ⟨i1, i2⟩ := ih (by omega)
    rw [flat_chords]
    refine ⟨fun e he => ?_, ?_⟩
    · rcases List.mem_append.1 he with he | he
      · exact i1 e he
      · exact edge_in _ _ (fpt_in s hs k (by omega)) (fpt_in s hs (k + 1) (by omega)) e he
    · have := edge_len (flat_pt s k) (flat_pt s (k + 1))
      rw [List.length_append]; omega
theorem fseg_in (s : S143) (hs : SegIn s) : AllIn (flat_seg s) ∧ (flat_seg s).length ≤ 4 ∧ ∀ φ, tele φ (flat_seg s) = φ (flat_sm s.f2) - φ (flat_sm s.f0) := by
  unfold flat_seg
  split
  · obtain ⟨a, b⟩ := chords_in s hs 4 (by omega)
    refine ⟨a, b, fun φ => ?_⟩
    rw [tele_chords, fpt_four s hs]
    rfl
  · refine ⟨edge_in _ _ (sm_in _ hs.1) (sm_in _ hs.2.2), by have := edge_len (flat_sm s.f0) (flat_sm s.f2); omega, fun φ => tele_edge φ _ _⟩
structure RunIn (b : S32) (s : path_S) : Prop where
  here : P510 s.here
  pull : ∀ v, s.pull = some v → VertIn v
  out : ∀ x ∈ s.out, SegIn x
  tel : ∀ φ, tele φ (s.out.flatMap flat_seg) = φ (flat_sm s.here) - φ (flat_sm b)
theorem seg_ends (here p : S32) (pull : Option S135) : (path_seg here pull p).f0 = here ∧ (path_seg here pull p).f2 = p := by
  cases pull <;> exact ⟨rfl, rfl⟩
theorem run_put (b : S32) (s : path_S) (h : RunIn b s) (p : S32) (hp : P510 p) : (∀ x ∈ s.out ++ [path_seg s.here s.pull p], SegIn x) ∧ ∀ φ, tele φ ((s.out ++ [path_seg s.here s.pull p]).flatMap flat_seg) = φ (flat_sm p) - φ (flat_sm b) := by
  have hs := seg_in s.here p s.pull h.here hp h.pull
  refine ⟨fun x hx => ?_, fun φ => ?_⟩
  · rcases List.mem_append.1 hx with hx | hx
    · exact h.out x hx
    · rw [List.mem_singleton.1 hx]; exact hs
  · rw [List.flatMap_append, tele_append, h.tel]
    simp only [List.flatMap_cons, List.flatMap_nil, List.append_nil]
    rw [(fseg_in _ hs).2.2, (seg_ends _ _ _).1, (seg_ends _ _ _).2]
    omega
theorem step_in (b : S32) (s : path_S) (v : S135) (h : RunIn b s) (hv : VertIn v) : RunIn b (path_step s v) := by
  unfold path_step
  split
  · have := run_put b s h (path_pt v) (pt_in v hv)
    exact ⟨pt_in v hv, fun _ h => (by cases h), this.1, this.2⟩
  · split
    · rename_i q hq
      have hqv := h.pull q hq
      have := run_put b s h (path_hf q v) (hf_in q v hqv hv)
      exact ⟨hf_in q v hqv hv, fun _ h => (by cases h; exact hv), this.1, this.2⟩
    · exact ⟨h.here, fun _ h => (by cases h; exact hv), h.out, h.tel⟩
theorem runs_in (l : List S135) (h : ∀ v ∈ l, VertIn v) : ∀ k, RunIn (path_begin l) (path_run l k) := by
  intro k
  induction k with
  | zero => exact ⟨begin_in l h, fun _ h => (by cases h), fun _ h => (by simp [path_run] at h), fun φ => by simp [path_run, tele]⟩
  | succ k ih => exact step_in _ _ _ ih (rd135_in l h _)
theorem all_in (l : List S135) (h : ∀ v ∈ l, VertIn v) : (∀ x ∈ path_all l, SegIn x) ∧ ∀ φ, tele φ ((path_all l).flatMap flat_seg) = 0 := by
  have := run_put _ _ (runs_in l h (path_count l)) (path_begin l) (begin_in l h)
  refine ⟨this.1, fun φ => ?_⟩
  rw [path_all, this.2]
  omega
theorem all_len (l : List S135) (h : l.length ≤ 12) : (path_all l).length ≤ 13 := by
  have := path_run_len l (path_count l)
  have hc : path_count l ≤ l.length := by unfold path_count; split <;> omega
  rw [path_all, List.length_append, List.length_singleton]
  omega
end Go.Proofs.Ytlljpjbhndcaiaa.M
end
section
set_option linter.unusedVariables false
set_option linter.unusedSimpArgs false
namespace Go.Proofs.Ytlljpjbhndcaiaa.M
open Go.RowKit Go.Proofs.Ytlljpjbhndcaiaa.Q Go.Proofs.YtlljpjbhndcaiaaW.PrintWords Go.Proofs.YtlljpjbhndcaiaaW.PrintLast Go.Proofs.YtlljpjbhndcaiaaW.PrintMore Go.Proofs.Ytlljpjbhndcaiaa.Geo
def SegsIn (c : List S143) : Prop := (∀ x ∈ c, SegIn x) ∧ c.length ≤ 13 ∧ ∀ φ, tele φ (c.flatMap flat_seg) = 0
theorem segs_eq (c : List S135) (h : ContIn c) : ∃ s, SegsIn s ∧ path_Segs.f c = some s := by
  obtain ⟨h0, h1, h2⟩ := h
  refine ⟨path_all c, ⟨(all_in c h2).1, all_len c h1, (all_in c h2).2⟩, ?_⟩
  unfold path_Segs.f
  rw [if_pos (by omega), if_neg (by omega)]
theorem pathall_l0 (x7 : List (List S135)) (hl : x7.length ≤ 8) (hx : ∀ c ∈ x7, ContIn c) : ∀ (m : Nat) (i : Int) (acc : List (List S143)), x7.length - i.toNat ≤ m → 0 ≤ i → i ≤ x7.length → acc.length ≤ i.toNat → (∀ c ∈ acc, SegsIn c) →
    ∃ r, r.length ≤ 8 ∧ (∀ c ∈ r, SegsIn c) ∧ Ret (fun k => path_All.l0 k acc x7 x7.length i) r := by
  intro m
  induction m with
  | zero =>
    intro i acc hm h0 h1 h4 h5
    refine ⟨acc, by omega, h5, Ret.succ (Ret.congr (Ret.const rfl) fun k => ?_)⟩
    show path_All.l0 (k + 1) acc x7 x7.length i = _
    rw [path_All.l0, if_neg (by omega)]
  | succ m ih =>
    intro i acc hm h0 h1 h4 h5
    by_cases hz : i < x7.length
    · have hmem : rd_L9 x7 i ∈ x7 := by
        unfold rd_L9
        rw [List.getD_eq_getElem?_getD, List.getElem?_eq_getElem (by omega)]
        exact List.getElem_mem _
      obtain ⟨s, hs, he⟩ := segs_eq _ (hx _ hmem)
      obtain ⟨r, r1, r2, hr⟩ := ih (i + 1) (acc ++ [s]) (by omega) (by omega) (by omega) (by rw [List.length_append]; simp; omega) (fun c hc => by
        rcases List.mem_append.1 hc with hc | hc
        · exact h5 c hc
        · rw [List.mem_singleton.1 hc]; exact hs)
      refine ⟨r, r1, r2, Ret.succ (Ret.congr hr fun k => ?_)⟩
      show path_All.l0 (k + 1) acc x7 x7.length i = _
      rw [path_All.l0, if_pos hz, if_pos h0, if_pos hz, he, w64 (n := i + 1) (by omega) (by omega)]
      simp only [Option.bind_some]
      rw [if_pos (by omega)]
    · refine ⟨acc, by omega, h5, Ret.succ (Ret.congr (Ret.const rfl) fun k => ?_)⟩
      show path_All.l0 (k + 1) acc x7 x7.length i = _
      rw [path_All.l0, if_neg hz]
theorem pathall_eq (l : List (List S135)) (hl : l.length ≤ 8) (hx : ∀ c ∈ l, ContIn c) : ∃ r, r.length ≤ 8 ∧ (∀ c ∈ r, SegsIn c) ∧ Ret (fun k => path_All.f k l) r :=
  pathall_l0 l hl hx _ 0 [] (Nat.le_refl _) (by omega) (by omega) (by simp) (by simp)
structure Glyph (es : List S40) (n : Nat) : Prop where
  small : AllIn es
  few : es.length ≤ n
  closed : ∀ φ, tele φ es = 0
theorem edges_eq (c : List S143) (h : SegsIn c) : ∃ es, Glyph es 52 ∧ flat_Edges.f c = some es := by
  obtain ⟨h0, h1, h2⟩ := h
  refine ⟨c.flatMap flat_seg, ⟨?_, ?_, h2⟩, ?_⟩
  · intro e he
    obtain ⟨s, hs, he⟩ := List.mem_flatMap.1 he
    exact (fseg_in s (h0 s hs)).1 e he
  · have key : ∀ c : List S143, (∀ x ∈ c, SegIn x) → (c.flatMap flat_seg).length ≤ 4 * c.length := by
      intro c
      induction c with
      | nil => simp
      | cons x r ih =>
        intro h
        have a := ih (fun y hy => h y (by simp [hy]))
        have b := (fseg_in x (h x (by simp))).2.1
        rw [List.flatMap_cons, List.length_append, List.length_cons]
        omega
    have := key c h0
    omega
  · unfold flat_Edges.f
    rw [if_pos (by omega)]
theorem flatall_l0 (x6 : List (List S143)) (hl : x6.length ≤ 8) (hx : ∀ c ∈ x6, SegsIn c) : ∀ (m : Nat) (i : Int) (acc : List S40), x6.length - i.toNat ≤ m → 0 ≤ i → i ≤ x6.length → Glyph acc (52 * i.toNat) →
    ∃ r, Glyph r 416 ∧ Ret (fun k => flat_All.l0 k acc x6 x6.length i) r := by
  intro m
  induction m with
  | zero =>
    intro i acc hm h0 h1 h5
    refine ⟨acc, ⟨h5.small, by have := h5.few; omega, h5.closed⟩, Ret.succ (Ret.congr (Ret.const rfl) fun k => ?_)⟩
    show flat_All.l0 (k + 1) acc x6 x6.length i = _
    rw [flat_All.l0, if_neg (by omega)]
  | succ m ih =>
    intro i acc hm h0 h1 h5
    by_cases hz : i < x6.length
    · have hmem : rd_L7 x6 i ∈ x6 := by
        unfold rd_L7
        rw [List.getD_eq_getElem?_getD, List.getElem?_eq_getElem (by omega)]
        exact List.getElem_mem _
      obtain ⟨s, hs, he⟩ := edges_eq _ (hx _ hmem)
      have f1 := h5.few
      have f2 := hs.few
      obtain ⟨r, r1, hr⟩ := ih (i + 1) (acc ++ s) (by omega) (by omega) (by omega) ⟨fun e he => (by
        rcases List.mem_append.1 he with he | he
        · exact h5.small e he
        · exact hs.small e he), by rw [List.length_append]; omega, fun φ => by rw [tele_append, h5.closed, hs.closed]; omega⟩
      refine ⟨r, r1, Ret.succ (Ret.congr hr fun k => ?_)⟩
      show flat_All.l0 (k + 1) acc x6 x6.length i = _
      rw [flat_All.l0, if_pos hz, if_pos h0, if_pos hz, he, w64 (n := i + 1) (by omega) (by omega)]
      simp only [Option.bind_some]
      rw [if_pos (by omega)]
    · refine ⟨acc, ⟨h5.small, by have := h5.few; omega, h5.closed⟩, Ret.succ (Ret.congr (Ret.const rfl) fun k => ?_)⟩
      show flat_All.l0 (k + 1) acc x6 x6.length i = _
      rw [flat_All.l0, if_neg hz]
theorem flatall_eq (l : List (List S143)) (hl : l.length ≤ 8) (hx : ∀ c ∈ l, SegsIn c) : ∃ r, Glyph r 416 ∧ Ret (fun k => flat_All.f k l) r :=
  flatall_l0 l hl hx _ 0 [] (Nat.le_refl _) (by omega) (by omega) ⟨by intro e he; simp at he, by simp, fun φ => by simp [tele]⟩
theorem glyph_l0 (x10 : List (List S133)) (hl : x10.length ≤ 3) : ∀ (m : Nat) (i : Int) (acc : List (List S133)), x10.length - i.toNat ≤ m → 0 ≤ i → i ≤ x10.length → acc.length ≤ i.toNat →
    ∃ r, Glyph r 416 ∧ Ret (fun k => punchcutlaw06_Glyph.l0 k acc x10 x10.length i) r := by
  have fin : ∀ (i : Int) (acc : List (List S133)), ¬ i < x10.length → ∃ r, Glyph r 416 ∧ Ret (fun k => punchcutlaw06_Glyph.l0 k acc x10 x10.length i) r := by
    intro i acc hi
    obtain ⟨o, o1, o2, ho⟩ := outline_eq acc
    obtain ⟨s, s1, s2, hs⟩ := pathall_eq o o1 o2
    obtain ⟨r, r1, hr⟩ := flatall_eq s s1 s2
    refine ⟨r, r1, Ret.succ (Ret.congr (Ret.bind ho (h := fun k t217 => (path_All.f k t217).bind fun t220 => (flat_All.f k t220).bind fun t223 => some t223) (Ret.bind hs (h := fun k t220 => (flat_All.f k t220).bind fun t223 => some t223) (Ret.bind hr (h := fun _ t223 => some t223) (Ret.const rfl)))) fun k => ?_)⟩
    show punchcutlaw06_Glyph.l0 (k + 1) acc x10 x10.length i = _
    rw [punchcutlaw06_Glyph.l0, if_neg hi]
  intro m
  induction m with
  | zero =>
    intro i acc hm h0 h1 h4
    exact fin i acc (by omega)
  | succ m ih =>
    intro i acc hm h0 h1 h4
    by_cases hz : i < x10.length
    · have a1 := mn_le ((rd_L12 x10 i).length : Int) 6
      have a2 : 0 ≤ mn ((rd_L12 x10 i).length : Int) 6 := mn_ge (by omega) (by omega)
      obtain ⟨r, r1, hr⟩ := ih (i + 1) (acc ++ [((rd_L12 x10 i).take ((mn ((rd_L12 x10 i).length : Int) 6) : Int).toNat)]) (by omega) (by omega) (by omega) (by rw [List.length_append]; simp; omega)
      refine ⟨r, r1, Ret.succ (Ret.congr hr fun k => ?_)⟩
      show punchcutlaw06_Glyph.l0 (k + 1) acc x10 x10.length i = _
      rw [punchcutlaw06_Glyph.l0, if_pos hz, if_pos h0, if_pos hz, if_pos a2, if_pos a1.1, if_pos (by omega), w64 (n := i + 1) (by omega) (by omega)]
    · exact fin i acc hz
theorem glyph_eq (l : List (List S133)) : ∃ es, Glyph es 416 ∧ Ret (fun k => punchcutlaw06_Glyph.f k l) es := by
  obtain ⟨t, ht⟩ : ∃ t, mn (l.length : Int) 3 = t := ⟨_, rfl⟩
  have t0 : 0 ≤ t := by rw [← ht]; exact mn_ge (by omega) (by omega)
  have t1 := mn_le (l.length : Int) 3
  rw [ht] at t1
  have hlen : (l.take t.toNat).length = t.toNat := by rw [List.length_take]; omega
  obtain ⟨r, r1, hr⟩ := glyph_l0 (l.take t.toNat) (by omega) _ 0 [] (Nat.le_refl _) (by omega) (by omega) (by simp)
  refine ⟨r, r1, Ret.congr hr fun k => ?_⟩
  unfold punchcutlaw06_Glyph.f
  rw [ht, if_pos t0, if_pos t1.1]
  rfl
end Go.Proofs.Ytlljpjbhndcaiaa.M
end
section
set_option linter.unusedVariables false
set_option linter.unusedSimpArgs false
namespace Go.Proofs.Ytlljpjbhndcaiaa.M
open Go.RowKit Go.Proofs.Ytlljpjbhndcaiaa.Q Go.Proofs.YtlljpjbhndcaiaaW.PrintWords Go.Proofs.YtlljpjbhndcaiaaW.PrintLast Go.Proofs.YtlljpjbhndcaiaaW.PrintMore Go.Proofs.Ytlljpjbhndcaiaa.Geo
structure GridIn (X Y P W H S : Int) : Prop where
  x : -255 ≤ X ∧ X ≤ 255
  y : -255 ≤ Y ∧ Y ≤ 255
  p : 1 ≤ P ∧ P ≤ 16
  w : 1 ≤ W ∧ W ≤ 24
  h : 1 ≤ H ∧ H ≤ 24
  s : 1 ≤ S ∧ S ≤ 64
def at1 (P F n : Int) : Int := F * 32 + n * P * 32 + P * 16
def centre (X Y P i k : Int) : Pt := ⟨at1 P X i, at1 P Y k⟩
def code (S s a : Int) : Int := if a < 256 * S then 128 + s * (a * 127 / (256 * S)) else 128 + s * 127
noncomputable def eight (es : List S40) (p : Pt) : Int := Classical.epsilon (Is8 es p)
open Classical in
noncomputable def tx (es : List S40) (X Y P S i k : Int) : Int := if es = [] then 1 else code S (sign es (centre X Y P i k)) (eight es (centre X Y P i k))
end Go.Proofs.Ytlljpjbhndcaiaa.M
end
section
set_option linter.unusedVariables false
set_option linter.unusedSimpArgs false
namespace Go.Proofs.Ytlljpjbhndcaiaa.M
open Go.RowKit Go.Proofs.Ytlljpjbhndcaiaa.Q Go.Proofs.YtlljpjbhndcaiaaW.PrintWords Go.Proofs.YtlljpjbhndcaiaaW.PrintLast Go.Proofs.YtlljpjbhndcaiaaW.PrintMore Go.Proofs.Ytlljpjbhndcaiaa.Geo
theorem wf_i16 {a : Int} (h : (Lit.int .i16 a).wf = true) : -32768 ≤ a ∧ a ≤ 32767 := by
  simpa [Lit.wf, IntKind.min, IntKind.max, IntKind.signed, IntKind.bits, Bool.and_eq_true, decide_eq_true_eq] using h
theorem wf_u16 {a : Int} (h : (Lit.int .u16 a).wf = true) : 0 ≤ a ∧ a ≤ 65535 := by
  simpa [Lit.wf, IntKind.min, IntKind.max, IntKind.signed, IntKind.bits, Bool.and_eq_true, decide_eq_true_eq] using h
theorem few {es : List S40} {n : Nat} (h : Glyph es n) (hn : n ≤ 1000000) : es.length < 9000000000000000000 := by have := h.few; omega
end Go.Proofs.Ytlljpjbhndcaiaa.M
end
section
set_option linter.unusedVariables false
set_option linter.unusedSimpArgs false
namespace Go.Proofs.Ytlljpjbhndcaiaa.M
open Go.RowKit Go.Proofs.Ytlljpjbhndcaiaa.Q Go.Proofs.YtlljpjbhndcaiaaW.PrintWords Go.Proofs.YtlljpjbhndcaiaaW.PrintLast Go.Proofs.YtlljpjbhndcaiaaW.PrintMore Go.Proofs.Ytlljpjbhndcaiaa.Geo
theorem Is8.append {a b : List S40} {p : Pt} {i j : Int} (h1 : Is8 a p i) (h2 : Is8 b p j) : Is8 (a ++ b) p (if j < i then j else i) := by
  obtain ⟨i0, ⟨e, he, h3⟩, h4⟩ := h1
  obtain ⟨j0, ⟨f, hf, h5⟩, h6⟩ := h2
  have mono : ∀ (u v : Int) (x : S40), 0 ≤ u → u ≤ v → v * v * (ed x).den p ≤ 64 * (ed x).num p → u * u * (ed x).den p ≤ 64 * (ed x).num p := by
    intro u v x hu huv h
    have := Int.mul_le_mul_of_nonneg_right (Int.mul_le_mul huv huv hu (by omega)) (show 0 ≤ (ed x).den p by have := Ed.den_pos (ed x) p; omega)
    omega
  split
  · rename_i hc
    refine ⟨j0, ⟨f, List.mem_append.2 (.inr hf), h5⟩, fun x hx => ?_⟩
    rcases List.mem_append.1 hx with hx | hx
    · exact mono j i x j0 (by omega) (h4 x hx)
    · exact h6 x hx
  · rename_i hc
    refine ⟨i0, ⟨e, List.mem_append.2 (.inl he), h3⟩, fun x hx => ?_⟩
    rcases List.mem_append.1 hx with hx | hx
    · exact h4 x hx
    · exact mono i j x i0 (by omega) (h6 x hx)
end Go.Proofs.Ytlljpjbhndcaiaa.M
end
section
set_option linter.unusedVariables false
set_option linter.unusedSimpArgs false
namespace Go.Proofs.Ytlljpjbhndcaiaa.M
open Go.RowKit Go.Proofs.Ytlljpjbhndcaiaa.Q Go.Proofs.YtlljpjbhndcaiaaW.PrintWords Go.Proofs.YtlljpjbhndcaiaaW.PrintLast Go.Proofs.YtlljpjbhndcaiaaW.PrintMore Go.Proofs.Ytlljpjbhndcaiaa.Geo
theorem Ret.at_ {α : Type} {g : Nat → Option α} (h : ∀ k, LeO (g k) (g (k + 1))) {K : Nat} {r : α} (hr : g K = some r) : Ret g r := ⟨K, fun k hk => at_rounds h hk hr⟩
theorem some_mono (px py : Int) (t : Nat → Bool) : ∀ (l : List S40) (i : Nat) (n d b : Int) (k : Nat), LeO (dist_Some.go k px py t l i n d b) (dist_Some.go (k + 1) px py t l i n d b) := by
  intro l
  induction l with
  | nil => intro i n d b k; exact LeO.refl _
  | cons e r ih =>
    intro i n d b k
    unfold dist_Some.go
    refine LeO.ite (LeO.bind (plane_Square.mono _ _ _ _ _ _ _) fun s => LeO.ite (ih _ _ _ _ _) (LeO.bind (root_Compare.mono _ _ _ _ _) fun c => LeO.ite (ih _ _ _ _ _) (ih _ _ _ _ _))) (ih _ _ _ _ _)
theorem awake08_mono (k : Nat) : LeO (punchcutlaw08_awake.f k) (punchcutlaw08_awake.f (k + 1)) := by
  unfold punchcutlaw08_awake.f
  exact LeO.bind (dist_Near.mono _ _ _ _) fun a => LeO.bind (dist_Near.mono _ _ _ _) fun b => LeO.bind (some_mono _ _ _ _ _ _ _ _ _) fun c => LeO.bind (dist_Eight.mono _ _ _ _) fun d => LeO.bind (dist_Sign.mono _ _ _ _) fun e => LeO.bind (dist_Sign.mono _ _ _ _) fun g => LeO.refl _
theorem awake08_eq : Ret (fun k => punchcutlaw08_awake.f k) true := Ret.at_ awake08_mono (K := 100) (by decide +kernel)
theorem tmod3 (x : Int) : -2 ≤ x.tmod 3 ∧ x.tmod 3 ≤ 2 := by
  rw [Int.tmod_eq_emod]
  split <;> omega
theorem half_small {x y : Int} (hx : Small x) (hy : Small y) : wrap64 (Int.tdiv (wrap64 (x + y)) 2) = Int.tdiv (x + y) 2 ∧ Small (Int.tdiv (x + y) 2) := by
  obtain ⟨a1, a2⟩ := hx
  obtain ⟨b1, b2⟩ := hy
  have h : Int.tdiv (x + y) 2 = (x + y) / 2 ∨ Int.tdiv (x + y) 2 = -(-(x + y) / 2) := by
    by_cases h0 : 0 ≤ x + y
    · exact .inl (Int.tdiv_eq_ediv_of_nonneg h0)
    · right
      have := Int.neg_tdiv (x + y) 2
      have h2 := Int.tdiv_eq_ediv_of_nonneg (a := -(x + y)) (b := 2) (by omega)
      omega
  rw [w64 (n := x + y) (by omega) (by omega)]
  rcases h with h | h
  · rw [h]; exact ⟨w64 (by omega) (by omega), by unfold Small; omega⟩
  · rw [h]; exact ⟨w64 (by omega) (by omega), by unfold Small; omega⟩
theorem spot_eq (es : List S40) (hes : AllIn es) (hl : es.length ≤ 1000000) {a1 a2_0 a2_1 : Int} (h1 : (Lit.int .u16 a1).wf = true) (h2 : (Lit.int .i16 a2_0).wf = true) (h3 : (Lit.int .i16 a2_1).wf = true) :
    ∃ p : Pt, punchcutlaw07_Spot.f es a1 a2_0 a2_1 = some (p.x, p.y) ∧ (-32768 ≤ p.x ∧ p.x ≤ 32767) ∧ (-32768 ≤ p.y ∧ p.y ≤ 32767) := by
  have w1 := wf_u16 h1
  have w2 := wf_i16 h2
  have w3 := wf_i16 h3
  unfold punchcutlaw07_Spot.f
  rw [if_pos ⟨w1.1, w1.2, w2.1, w2.2, w3.1, w3.2, hl⟩]
  by_cases hz : es.length = 0 ∨ a1 % 4 = 0
  · rw [if_pos hz]
    refine ⟨⟨a2_0, a2_1⟩, ?_, w2, w3⟩
    rw [w64 (by omega) (by omega), w64 (by omega) (by omega)]
  · rw [if_neg hz]
    have hpos : 0 < es.length := by omega
    have hi := spot_i_eq es a1 w1.1 w1.2
    have i0 : 0 ≤ spot_i es a1 := by rw [hi]; exact Int.emod_nonneg _ (by omega)
    have i1 : spot_i es a1 < (es.length : Int) := by rw [hi]; exact Int.emod_lt_of_pos _ (by omega)
    obtain ⟨e1, e2, e3, e4⟩ := hes _ (rd_mem es _ i0 i1)
    have hs : Small (spot_pt es a1).f0 ∧ Small (spot_pt es a1).f1 := by
      unfold spot_pt
      split
      · exact ⟨e1, e2⟩
      · obtain ⟨a, b⟩ := half_small e1 e3
        obtain ⟨c, d⟩ := half_small e2 e4
        simp only [a, c]
        exact ⟨b, d⟩
    obtain ⟨⟨b1, b2⟩, ⟨b3, b4⟩⟩ := hs
    have t1 := tmod3 a2_0
    have t2 := tmod3 a2_1
    refine ⟨⟨(spot_pt es a1).f0 + a2_0.tmod 3, (spot_pt es a1).f1 + a2_1.tmod 3⟩, ?_, by simp only; omega, by simp only; omega⟩
    rw [w64 (by omega) (by omega), w64 (by omega) (by omega)]
end Go.Proofs.Ytlljpjbhndcaiaa.M
end
section
set_option linter.unusedVariables false
set_option linter.unusedSimpArgs false
namespace Go.Proofs.Ytlljpjbhndcaiaa.M
open Go.RowKit Go.Proofs.Ytlljpjbhndcaiaa.Q Go.Proofs.YtlljpjbhndcaiaaW.PrintWords Go.Proofs.YtlljpjbhndcaiaaW.PrintLast Go.Proofs.YtlljpjbhndcaiaaW.PrintMore Go.Proofs.Ytlljpjbhndcaiaa.Geo
def SomeAt (es : List S40) (p : Pt) (n d b : Int) : Prop :=
  b < 0 ∧ n = 0 ∧ d = 0 ∨ 0 ≤ b ∧ b < (es.length : Int) ∧ IsSq (rd_T40 es b) p n d ∧ Ret (fun k => plane_Square.f k (rd_T40 es b).f0.f0 (rd_T40 es b).f0.f1 (rd_T40 es b).f1.f0 (rd_T40 es b).f1.f1 p.x p.y) (n, d)
theorem some_eq (es : List S40) (p : Pt) (hes : AllIn es) (hp : PtIn p) (t : Nat → Bool) : ∀ (r : List S40) (i : Nat) (n d b : Int), r = es.drop i → SomeAt es p n d b →
    ∃ n' d' b' : Int, Ret (fun k => dist_Some.go k p.x p.y t r i n d b) (n', d', b') ∧ Ret (fun k => best_go k p.x p.y t es r i b) b' ∧ SomeAt es p n' d' b' := by
  intro r
  induction r with
  | nil => exact fun i n d b _ h => ⟨n, d, b, Ret.const rfl, Ret.const rfl, h⟩
  | cons e r ih =>
    intro i n d b hr hS
    have hi : i < es.length := by
      rcases Nat.lt_or_ge i es.length with h | h
      · exact h
      · rw [List.drop_eq_nil_of_le h] at hr; cases hr
    rw [Some_drop es i hi] at hr
    obtain ⟨rfl, hr'⟩ := List.cons.inj hr
    simp only [dist_Some.go, best_go]
    cases ht : t i with
    | false =>
      simp only [Bool.false_eq_true, if_false]
      exact ih (i + 1) n d b hr' hS
    | true =>
      simp only [if_true]
      obtain ⟨n2, d2, hsq2, hr2⟩ := square_eq (rd_T40 es i) p (hes _ (rd_mem es i (by omega) (by omega))) hp
      have hnew : SomeAt es p n2 d2 i := .inr ⟨by omega, by omega, hsq2, hr2⟩
      rcases hS with ⟨hb, rfl, rfl⟩ | ⟨hb, hbl, hsq, hrq⟩
      · obtain ⟨n', d', b', h1, h2, h3⟩ := ih (i + 1) n2 d2 i hr' hnew
        simp only [hb, if_true]
        exact ⟨n', d', b', Ret.bind hr2 h1, h2, h3⟩
      · have hcmp := compare_eq hsq2 hsq
        have hb' : ¬ b < 0 := by omega
        simp only [hb', if_false, hbl, if_true]
        by_cases hc : cmp (n2 * d) (n * d2) < 0
        · obtain ⟨n', d', b', h1, h2, h3⟩ := ih (i + 1) n2 d2 i hr' hnew
          refine ⟨n', d', b', Ret.bind hr2 (Ret.bind hcmp ?_), Ret.bind hr2 (Ret.bind hrq (Ret.bind hcmp ?_)), h3⟩
          · simp only [hc, if_true]; exact h1
          · simp only [hc, if_true]; exact h2
        · obtain ⟨n', d', b', h1, h2, h3⟩ := ih (i + 1) n d b hr' (.inr ⟨hb, hbl, hsq, hrq⟩)
          refine ⟨n', d', b', Ret.bind hr2 (Ret.bind hcmp ?_), Ret.bind hr2 (Ret.bind hrq (Ret.bind hcmp ?_)), h3⟩
          · simp only [hc, if_false]; exact h1
          · simp only [hc, if_false]; exact h2
theorem DistSome (l0 : List (List S133)) (a1 a2_0 a2_1 : Int) (l3 : List Bool) (h1 : (Lit.int .u16 a1).wf = true) (h2 : (Lit.int .i16 a2_0).wf = true) (h3 : (Lit.int .i16 a2_1).wf = true) :
    ∃ k, punchcutlaw08_DistSome.f k l0 a1 a2_0 a2_1 l3 = some true := by
  obtain ⟨es, he, hg⟩ := glyph_eq l0
  obtain ⟨p, hp, px, py⟩ := spot_eq es he.small (by have := he.few; omega) h1 h2 h3
  have hP : PtIn p := ⟨by unfold Mid; omega, by unfold Mid; omega⟩
  obtain ⟨n, d, b, r1, r2, hS⟩ := some_eq es p he.small hP (tk l3) es 0 0 0 (-1) rfl (.inl ⟨by omega, rfl, rfl⟩)
  have hfin : ∃ K, ∀ k, K ≤ k → (b < 0 ∧ n = 0 ∧ d = 0 ∨ 0 ≤ b ∧ b < (es.length : Int) ∧ plane_Square.f k (rd_T40 es b).f0.f0 (rd_T40 es b).f0.f1 (rd_T40 es b).f1.f0 (rd_T40 es b).f1.f1 p.x p.y = some (n, d)) := by
    rcases hS with h | ⟨g1, g2, _, K, hK⟩
    · exact ⟨0, fun _ _ => .inl h⟩
    · exact ⟨K, fun k hk => .inr ⟨g1, g2, hK k hk⟩⟩
  refine Ret.of (r := true) ?_
  unfold punchcutlaw08_DistSome.f
  refine Ret.bind awake08_eq ?_
  simp only [if_true]
  refine Ret.bind hg ?_
  rw [hp]
  refine Ret.bind (Ret.const rfl) ?_
  refine Ret.bind r1 (Ret.bind r2 ?_)
  obtain ⟨K, hK⟩ := hfin
  exact ⟨K, fun k hk => if_pos ⟨rfl, hK k hk⟩⟩
end Go.Proofs.Ytlljpjbhndcaiaa.M
end
