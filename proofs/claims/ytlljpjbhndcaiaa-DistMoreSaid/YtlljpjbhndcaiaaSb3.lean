/- What the proof of these laws leans on, part 3. -/
import Derived.Test.YtlljpjbhndcaiaaSb2
import Derived.Laws.BitsLemmas
import Derived.IntWalk
import Init
set_option linter.unusedVariables false
set_option linter.unusedSimpArgs false
set_option linter.unusedSectionVars false
section
namespace Go.Proofs.Ytlljpjbhndcaiaa.Q
open Go.RowKit Go.Proofs.YtlljpjbhndcaiaaW.PrintWords Go.Proofs.YtlljpjbhndcaiaaW.PrintLast Go.Proofs.YtlljpjbhndcaiaaW.PrintMore
attribute [local go_sem] max2_int min2_int max_two min_two max_three min_three max_four min_four
set_option linter.unusedVariables false
set_option linter.unusedSimpArgs false
def wind_On.go (k : Nat) (px py : Int) : List S40 → Option Bool
  | [] => some false
  | e :: r => (plane_Square.f k e.f0.f0 e.f0.f1 e.f1.f0 e.f1.f1 px py).bind fun d => if d.1 = 0 then some true else wind_On.go k px py r
def wind_On.f (k : Nat) (l0 : List (S40)) (a1_0 : Int) (a1_1 : Int) : Option (Bool) := wind_On.go k a1_0 a1_1 l0
theorem wind_On.mono : ∀ a0 a1 a2 k, LeO (wind_On.f k a0 a1 a2) (wind_On.f (k + 1) a0 a1 a2) := by
  intro a0 a1 a2 k
  unfold wind_On.f
  induction a0 with
  | nil => exact LeO.refl _
  | cons e r ih => exact LeO.bind (plane_Square.mono _ _ _ _ _ _ _) (fun _ => LeO.ite (LeO.refl _) ih)
theorem wind_field (x y : Int) (w : World) : (Instr.field 36 (.agg #[.int .i64 x, .int .i64 y]) 0).run Try.prog w = .ok (.int .i64 x) w := by kernel_rfl
theorem wind_On_drop (l : List S40) (i : Nat) (h : i < l.length) : l.drop i = rd_T40 l i :: l.drop (i + 1) := by
  rw [List.drop_eq_getElem_cons h]
  simp [rd_T40, h]
set_option maxHeartbeats 4000000 in
set_option maxRecDepth 100000 in
theorem wind_On.calls (k : Nat) (A0 : Option Addr) (c0 : Nat) (l0 : List (S40)) (a1_0 : Int) (a1_1 : Int) (r : Bool) (w : World) (hr0 : Kd.C k40 w A0 l0.length l0) (hc0 : l0.length ≤ c0) (h : wind_On.f k l0 a1_0 a1_1 = some r) :
    Calls Try.prog 68 #[.slice A0 l0.length c0, .agg #[.int .i64 a1_0, .int .i64 a1_1]] w fun e w' => e = .returned (.bool r) ∧ Below w.heap.size w w' := by
  have hm : l0.length ≤ 9223372036854775807 := hr0.2.1
  have HR0 := Aside0.mk hr0
  have H0 := Aside0.mk h
  clear hr0 h
  go_enter Try.func68, Try.ntmps68
  go_wp2_with fail
  go_loopw [9] (fun s9 W => ∃ (i : Nat), i ≤ l0.length ∧ s9 = .int .i64 i ∧ Aside0 (W.heap[w.heap.size]? = some (.cells #[.int .i64 a1_0, .int .i64 a1_1] 32 (0, 0)) ∧ Below w.heap.size w W ∧ wind_On.go k a1_0 a1_1 (l0.drop i) = some r)) (fun s9 _ => l0.length - (intOf s9).toNat)
  case atStart =>
    exact ⟨0, Nat.zero_le _, rfl, ⟨hnew _ _ rfl, balloc (Below.refl _ _) _, H0.out⟩⟩
  case round =>
    obtain ⟨i, hi, rfl, HRel⟩ := hrel
    by_cases hlt : i < l0.length
    · obtain ⟨hg, hB, hgo⟩ := HRel.out
      rw [wind_On_drop l0 i hlt, wind_On.go] at hgo
      obtain ⟨⟨d1, d2⟩, hd, hgo⟩ := Option.bind_eq_some_iff.mp hgo
      simp only at hgo
      have HD := Aside0.mk hd
      clear hd
      have h0 : (0 : Int) ≤ (i : Int) := by omega
      have h1 : (i : Int) < (l0.length : Int) := by omega
      obtain ⟨ad, rfl, x0, x1, x2, x3⟩ := at_T40 HR0.out (i : Int) h0 h1
      replace x0 := (hB.cell (World.block_lt_of_cell? w _ x0)).trans x0
      replace x1 := (hB.cell (World.block_lt_of_cell? w _ x1)).trans x1
      replace x2 := (hB.cell (World.block_lt_of_cell? w _ x2)).trans x2
      replace x3 := (hB.cell (World.block_lt_of_cell? w _ x3)).trans x3
      rw [Int.toNat_natCast] at x0 x1 x2 x3
      obtain ⟨y0, y1, _, _⟩ := cells2 hg
      have hsz := (Array.getElem?_eq_some_iff.1 hg).1
      have hne := Nat.ne_of_lt hsz
      have HB := Aside0.mk hB; have HG := Aside0.mk hg; have HGo := Aside0.mk hgo
      clear hB hg hgo
      go_wp2_with fail
      refine (plane_Square.calls k _ _ _ _ _ _ _ _ _ HD.out).mono ?_
      rintro e w' ⟨rfl, hb⟩
      have HB2 := Aside0.mk (bstep (balloc HB.out (.cells #[.int .i64 (rd_T40 l0 i).f0.f0, .int .i64 (rd_T40 l0 i).f0.f1, .int .i64 (rd_T40 l0 i).f1.f0, .int .i64 (rd_T40 l0 i).f1.f1] 40)) hb)
      have HG2 := Aside0.mk ((hb.block _ (salloc hsz _)).trans (halloc HG.out _))
      clear hb x0 x1 x2 x3 y0 y1
      have hf := wind_field
      by_cases hz : d1 = 0
      · have hz' : (d1 == 0) = true := by simpa using hz
        have hgo := HGo.out
        rw [if_pos hz] at hgo
        obtain rfl := Option.some.inj hgo
        clear hgo hz
        go_wp2_with fail
        go_ret
        exact ⟨rfl, HB2.out⟩
      · have hz' : (d1 == 0) = false := by simpa using hz
        have hgo := HGo.out
        rw [if_neg hz] at hgo
        have HGo2 := Aside0.mk hgo
        clear hgo hz
        go_wp2_with fail
        go_roundw
        case rel => exact ⟨i + 1, by omega, by go_num, ⟨HG2.out, HB2.out, HGo2.out⟩⟩
        case measure => simp [intOf]; omega
    · obtain rfl : i = l0.length := by omega
      obtain ⟨hg, hB, hgo⟩ := HRel.out
      rw [List.drop_length] at hgo
      obtain rfl := Option.some.inj hgo
      go_wp2_with fail
      go_ret
      exact ⟨rfl, hB⟩
end Go.Proofs.Ytlljpjbhndcaiaa.Q
end
section
namespace Go.Proofs.Ytlljpjbhndcaiaa.Q
open Go.RowKit Go.Proofs.YtlljpjbhndcaiaaW.PrintWords Go.Proofs.YtlljpjbhndcaiaaW.PrintLast Go.Proofs.YtlljpjbhndcaiaaW.PrintMore
attribute [local go_sem] max2_int min2_int max_two min_two max_three min_three max_four min_four
set_option linter.unusedVariables false
set_option linter.unusedSimpArgs false
def dist_Sign.f (k : Nat) (l0 : List (S40)) (a1_0 : Int) (a1_1 : Int) : Option (Int) := (wind_On.f k l0 a1_0 a1_1).bind fun t149 => (if t149 = true then (some 0) else ((wind_Number.f k l0 a1_0 a1_1).bind fun t150 => (if t150 = 0 then (some (-1)) else (some 1))))
theorem dist_Sign.mono : ∀ a0 a1 a2 k, LeO (dist_Sign.f k a0 a1 a2) (dist_Sign.f (k + 1) a0 a1 a2) := by
  intro a0 a1 a2 k
  unfold dist_Sign.f
  repeat' first
      | (with_reducible exact wind_Number.mono _ _ _ _)
      | (with_reducible exact wind_On.mono _ _ _ _)
      | (with_reducible exact LeO.refl _)
      | (with_reducible exact LeO.none _)
      | (with_reducible refine LeO.ite ?_ ?_)
      | (with_reducible refine LeO.bind ?_ (fun _ => ?_))
      | exact wind_Number.mono _ _ _ _
      | exact wind_On.mono _ _ _ _
      | exact LeO.none _
      | refine LeO.ite ?_ ?_
      | refine LeO.bind ?_ (fun _ => ?_)
set_option maxHeartbeats 8000000 in
set_option maxRecDepth 100000 in
theorem dist_Sign.calls (k : Nat) (A0 : Option Addr) (c0 : Nat) (l0 : List (S40)) (a1_0 : Int) (a1_1 : Int) (r : Int) (w : World) (hr0 : Kd.C k40 w A0 l0.length l0) (hc0 : l0.length ≤ c0) (h : dist_Sign.f k l0 a1_0 a1_1 = some r) :
    Calls Try.prog 51 #[.slice A0 l0.length c0, .agg #[.int .i64 a1_0, .int .i64 a1_1]] w fun e w' => e = .returned (.int .i64 r) ∧ Below w.heap.size w w' := by
  have hu32 := Try.underlying32
  have HR0 := Aside0.mk hr0
  have HC0 := Aside0.mk hc0
  clear hr0 hc0
  have HB := Aside0.mk (Below.refl w.heap.size w)
  have H : ((wind_On.f k l0 a1_0 a1_1).bind fun t149 => (if t149 = true then (some 0) else ((wind_Number.f k l0 a1_0 a1_1).bind fun t150 => (if t150 = 0 then (some (-1)) else (some 1))))) = some r := h
  clear h
  replace H := Option.bind_eq_some_iff.mp H
  obtain ⟨t149, A30, H⟩ := H
  replace H : (if t149 = true then (some 0) else ((wind_Number.f k l0 a1_0 a1_1).bind fun t150 => (if t150 = 0 then (some (-1)) else (some 1)))) = some r := H
  have A3 := Aside0.mk A30
  clear A30
  by_cases c4 : t149 = true
  · subst c4
    have H1 : (some 0) = some r := by rw [if_pos rfl] at H; exact H
    clear H
    have H := H1
    clear H1
    obtain rfl := Option.some.inj H
    go_enter Try.func51, Try.ntmps51
    go_wp2_with (first | ((with_reducible refine gate_dst (N := 3) rfl ?_); refine box_event ?hg (N := 3) ?hd (cs := #[.int .i64 a1_0, .int .i64 a1_1]) (t := 32) ?hr ?_; (case hd => rfl); (case hg => rfl); (case hr => first | (go_simp; done) | (go_simp; rfl)); intro gb148 hg w5 hbox hb; have n0_ := Aside0.mk (below_step (by repeat (first | (with_reducible first | exact HB.out | apply below_alloc | apply pw_below_drewN | apply below_drew1) | exact HB.out)) hb); have n1_ := Aside0.mk (hbox); have n2_ := Aside0.mk ((by rw [hg]; exact (below_size (by repeat (first | (with_reducible first | exact HB.out | apply below_alloc | apply pw_below_drewN | apply below_drew1) | exact HB.out))) : w.heap.size ≤ gb148)); have n3_ := Aside0.mk ((by rw [hg]; exact (below_size (by repeat (first | (with_reducible first | exact HB.out | apply below_alloc | apply pw_below_drewN | apply below_drew1) | exact HB.out))) : w.heap.size ≤ gb148)); clear HB; have HB := n0_; have BK148 := n1_; have GW148 := n2_; have GE148 := n3_; clear n0_ n1_ n2_ n3_; clear hb hbox hg; have hcz6_0 : w5.cell? ⟨gb148, 0, none⟩ = some (.int .i64 a1_0) := (blk_cell BK148.out 0).trans rfl; have hcz6_1 : w5.cell? ⟨gb148, 1, none⟩ = some (.int .i64 a1_1) := (blk_cell BK148.out 1).trans rfl; have hfz6_0 := blk_frozen BK148.out 0; have hfz6_1 := blk_frozen BK148.out 1) | ((with_reducible refine gate_callee (f := 68) rfl ?_); refine goesL_ (some 8) rfl rfl Try.func68 (by kernel_rfl) rfl #[.slice A0 l0.length c0, .agg #[.int .i64 a1_0, .int .i64 a1_1]] rfl (by (try simp only [List.map_toArray, List.map_cons, List.map_nil]); first | done | rfl | (simp only [List.length_drop, List.length_take]; rfl)) ?_; (with_reducible refine (wind_On.calls k _ _ l0 a1_0 a1_1 true _ ?side1 ?side2 A3.out).mono ?_); (case side1 => repeat (first | exact (Kd.C_below HR0.out HB.out) | (with_reducible refine Kd.C_alloc ?_ _) | (with_reducible refine Kd.C_drewN ?_ _) | (with_reducible refine Kd.C_drew ?_))); (case side2 => exact HC0.out); rintro e w7 ⟨rfl, hb⟩; refine ⟨_, rfl, ?_⟩; have n0_ := Aside0.mk (blk_below (g := gb148) (o := .cells #[.int .i64 a1_0, .int .i64 a1_1] 32 (0, 0)) (by (with_reducible repeat (first | refine blk_drewN ?_ _ | refine blk_drew ?_ | refine blk_alloc ?_ _)); exact BK148.out) hb); have n1_ := Aside0.mk (below_step (by repeat (first | (with_reducible first | exact HB.out | apply below_alloc | apply pw_below_drewN | apply below_drew1 | refine below_set ?_ GE148.out) | exact HB.out)) hb); clear BK148; clear HB; have BK148 := n0_; have HB := n1_; clear n0_ n1_; (try clear hb); (try clear hb2); (try clear hk); (try clear hi)))
    go_ret
    exact ⟨by first | rfl | (simp [errW_none, errW_some] <;> rfl) | (simp [*, errW_none, errW_some] <;> rfl), by repeat (first | (with_reducible first | exact HB.out | apply below_alloc | apply pw_below_drewN | apply below_drew1 | refine below_set ?_ GE148.out) | exact HB.out)⟩
  · replace c4 := Bool.eq_false_iff.mpr c4
    subst c4
    have H1 : ((wind_Number.f k l0 a1_0 a1_1).bind fun t150 => (if t150 = 0 then (some (-1)) else (some 1))) = some r := by rw [if_neg (show ¬ (false = true) by decide)] at H; exact H
    clear H
    have H := H1
    clear H1
    replace H := Option.bind_eq_some_iff.mp H
    obtain ⟨t150, A80, H⟩ := H
    replace H : (if t150 = 0 then (some (-1)) else (some 1)) = some r := H
    have A8 := Aside0.mk A80
    clear A80
    by_cases c9 : t150 = 0
    · rw [if_pos c9] at H
      have c9b0 : (t150 == 0) = true := beq_iff_eq.mpr c9
      have c9b1 : (t150 != 0) = false := bne_eq_false_iff_eq.mpr c9
      clear c9
      obtain rfl := Option.some.inj H
      go_enter Try.func51, Try.ntmps51
      go_wp2_with (first | ((with_reducible refine gate_dst (N := 3) rfl ?_); refine box_event ?hg (N := 3) ?hd (cs := #[.int .i64 a1_0, .int .i64 a1_1]) (t := 32) ?hr ?_; (case hd => rfl); (case hg => rfl); (case hr => first | (go_simp; done) | (go_simp; rfl)); intro gb148 hg w10 hbox hb; have n0_ := Aside0.mk (below_step (by repeat (first | (with_reducible first | exact HB.out | apply below_alloc | apply pw_below_drewN | apply below_drew1) | exact HB.out)) hb); have n1_ := Aside0.mk (hbox); have n2_ := Aside0.mk ((by rw [hg]; exact (below_size (by repeat (first | (with_reducible first | exact HB.out | apply below_alloc | apply pw_below_drewN | apply below_drew1) | exact HB.out))) : w.heap.size ≤ gb148)); have n3_ := Aside0.mk ((by rw [hg]; exact (below_size (by repeat (first | (with_reducible first | exact HB.out | apply below_alloc | apply pw_below_drewN | apply below_drew1) | exact HB.out))) : w.heap.size ≤ gb148)); clear HB; have HB := n0_; have BK148 := n1_; have GW148 := n2_; have GE148 := n3_; clear n0_ n1_ n2_ n3_; clear hb hbox hg; have hcz11_0 : w10.cell? ⟨gb148, 0, none⟩ = some (.int .i64 a1_0) := (blk_cell BK148.out 0).trans rfl; have hcz11_1 : w10.cell? ⟨gb148, 1, none⟩ = some (.int .i64 a1_1) := (blk_cell BK148.out 1).trans rfl; have hfz11_0 := blk_frozen BK148.out 0; have hfz11_1 := blk_frozen BK148.out 1) | ((with_reducible refine gate_callee (f := 68) rfl ?_); refine goesL_ (some 8) rfl rfl Try.func68 (by kernel_rfl) rfl #[.slice A0 l0.length c0, .agg #[.int .i64 a1_0, .int .i64 a1_1]] rfl (by (try simp only [List.map_toArray, List.map_cons, List.map_nil]); first | done | rfl | (simp only [List.length_drop, List.length_take]; rfl)) ?_; (with_reducible refine (wind_On.calls k _ _ l0 a1_0 a1_1 false _ ?side1 ?side2 A3.out).mono ?_); (case side1 => repeat (first | exact (Kd.C_below HR0.out HB.out) | (with_reducible refine Kd.C_alloc ?_ _) | (with_reducible refine Kd.C_drewN ?_ _) | (with_reducible refine Kd.C_drew ?_))); (case side2 => exact HC0.out); rintro e w12 ⟨rfl, hb⟩; refine ⟨_, rfl, ?_⟩; have n0_ := Aside0.mk (blk_below (g := gb148) (o := .cells #[.int .i64 a1_0, .int .i64 a1_1] 32 (0, 0)) (by (with_reducible repeat (first | refine blk_drewN ?_ _ | refine blk_drew ?_ | refine blk_alloc ?_ _)); exact BK148.out) hb); have n1_ := Aside0.mk (below_step (by repeat (first | (with_reducible first | exact HB.out | apply below_alloc | apply pw_below_drewN | apply below_drew1 | refine below_set ?_ GE148.out) | exact HB.out)) hb); clear BK148; clear HB; have BK148 := n0_; have HB := n1_; clear n0_ n1_; (try clear hb); (try clear hb2); (try clear hk); (try clear hi); have hcz13_0 : w12.cell? ⟨gb148, 0, none⟩ = some (.int .i64 a1_0) := (blk_cell BK148.out 0).trans rfl; have hcz13_1 : w12.cell? ⟨gb148, 1, none⟩ = some (.int .i64 a1_1) := (blk_cell BK148.out 1).trans rfl; have hfz13_0 := blk_frozen BK148.out 0; have hfz13_1 := blk_frozen BK148.out 1) | ((with_reducible refine gate_callee (f := 67) rfl ?_); refine goesL_ (some 12) rfl rfl Try.func67 (by kernel_rfl) rfl #[.slice A0 l0.length c0, .agg #[.int .i64 a1_0, .int .i64 a1_1]] rfl (by (try simp only [List.map_toArray, List.map_cons, List.map_nil]); first | done | rfl | (simp only [List.length_drop, List.length_take]; rfl)) ?_; (with_reducible refine (wind_Number.calls k _ _ l0 a1_0 a1_1 t150 _ ?side1 ?side2 A8.out).mono ?_); (case side1 => repeat (first | exact (Kd.C_below HR0.out HB.out) | (with_reducible refine Kd.C_alloc ?_ _) | (with_reducible refine Kd.C_drewN ?_ _) | (with_reducible refine Kd.C_drew ?_))); (case side2 => exact HC0.out); rintro e w14 ⟨rfl, hb⟩; refine ⟨_, rfl, ?_⟩; have n0_ := Aside0.mk (blk_below (g := gb148) (o := .cells #[.int .i64 a1_0, .int .i64 a1_1] 32 (0, 0)) (by (with_reducible repeat (first | refine blk_drewN ?_ _ | refine blk_drew ?_ | refine blk_alloc ?_ _)); exact BK148.out) hb); have n1_ := Aside0.mk (below_step (by repeat (first | (with_reducible first | exact HB.out | apply below_alloc | apply pw_below_drewN | apply below_drew1 | refine below_set ?_ GE148.out) | exact HB.out)) hb); clear BK148; clear HB; have BK148 := n0_; have HB := n1_; clear n0_ n1_; (try clear hb); (try clear hb2); (try clear hk); (try clear hi)))
      go_ret
      exact ⟨by first | rfl | (simp [errW_none, errW_some] <;> rfl) | (simp [*, errW_none, errW_some] <;> rfl), by repeat (first | (with_reducible first | exact HB.out | apply below_alloc | apply pw_below_drewN | apply below_drew1 | refine below_set ?_ GE148.out) | exact HB.out)⟩
    · rw [if_neg c9] at H
      have c9b0 : (t150 == 0) = false := beq_eq_false_iff_ne.mpr c9
      have c9b1 : (t150 != 0) = true := bne_iff_ne.mpr c9
      obtain rfl := Option.some.inj H
      go_enter Try.func51, Try.ntmps51
      go_wp2_with (first | ((with_reducible refine gate_dst (N := 3) rfl ?_); refine box_event ?hg (N := 3) ?hd (cs := #[.int .i64 a1_0, .int .i64 a1_1]) (t := 32) ?hr ?_; (case hd => rfl); (case hg => rfl); (case hr => first | (go_simp; done) | (go_simp; rfl)); intro gb148 hg w15 hbox hb; have n0_ := Aside0.mk (below_step (by repeat (first | (with_reducible first | exact HB.out | apply below_alloc | apply pw_below_drewN | apply below_drew1) | exact HB.out)) hb); have n1_ := Aside0.mk (hbox); have n2_ := Aside0.mk ((by rw [hg]; exact (below_size (by repeat (first | (with_reducible first | exact HB.out | apply below_alloc | apply pw_below_drewN | apply below_drew1) | exact HB.out))) : w.heap.size ≤ gb148)); have n3_ := Aside0.mk ((by rw [hg]; exact (below_size (by repeat (first | (with_reducible first | exact HB.out | apply below_alloc | apply pw_below_drewN | apply below_drew1) | exact HB.out))) : w.heap.size ≤ gb148)); clear HB; have HB := n0_; have BK148 := n1_; have GW148 := n2_; have GE148 := n3_; clear n0_ n1_ n2_ n3_; clear hb hbox hg; have hcz16_0 : w15.cell? ⟨gb148, 0, none⟩ = some (.int .i64 a1_0) := (blk_cell BK148.out 0).trans rfl; have hcz16_1 : w15.cell? ⟨gb148, 1, none⟩ = some (.int .i64 a1_1) := (blk_cell BK148.out 1).trans rfl; have hfz16_0 := blk_frozen BK148.out 0; have hfz16_1 := blk_frozen BK148.out 1) | ((with_reducible refine gate_callee (f := 68) rfl ?_); refine goesL_ (some 8) rfl rfl Try.func68 (by kernel_rfl) rfl #[.slice A0 l0.length c0, .agg #[.int .i64 a1_0, .int .i64 a1_1]] rfl (by (try simp only [List.map_toArray, List.map_cons, List.map_nil]); first | done | rfl | (simp only [List.length_drop, List.length_take]; rfl)) ?_; (with_reducible refine (wind_On.calls k _ _ l0 a1_0 a1_1 false _ ?side1 ?side2 A3.out).mono ?_); (case side1 => repeat (first | exact (Kd.C_below HR0.out HB.out) | (with_reducible refine Kd.C_alloc ?_ _) | (with_reducible refine Kd.C_drewN ?_ _) | (with_reducible refine Kd.C_drew ?_))); (case side2 => exact HC0.out); rintro e w17 ⟨rfl, hb⟩; refine ⟨_, rfl, ?_⟩; have n0_ := Aside0.mk (blk_below (g := gb148) (o := .cells #[.int .i64 a1_0, .int .i64 a1_1] 32 (0, 0)) (by (with_reducible repeat (first | refine blk_drewN ?_ _ | refine blk_drew ?_ | refine blk_alloc ?_ _)); exact BK148.out) hb); have n1_ := Aside0.mk (below_step (by repeat (first | (with_reducible first | exact HB.out | apply below_alloc | apply pw_below_drewN | apply below_drew1 | refine below_set ?_ GE148.out) | exact HB.out)) hb); clear BK148; clear HB; have BK148 := n0_; have HB := n1_; clear n0_ n1_; (try clear hb); (try clear hb2); (try clear hk); (try clear hi); have hcz18_0 : w17.cell? ⟨gb148, 0, none⟩ = some (.int .i64 a1_0) := (blk_cell BK148.out 0).trans rfl; have hcz18_1 : w17.cell? ⟨gb148, 1, none⟩ = some (.int .i64 a1_1) := (blk_cell BK148.out 1).trans rfl; have hfz18_0 := blk_frozen BK148.out 0; have hfz18_1 := blk_frozen BK148.out 1) | ((with_reducible refine gate_callee (f := 67) rfl ?_); refine goesL_ (some 12) rfl rfl Try.func67 (by kernel_rfl) rfl #[.slice A0 l0.length c0, .agg #[.int .i64 a1_0, .int .i64 a1_1]] rfl (by (try simp only [List.map_toArray, List.map_cons, List.map_nil]); first | done | rfl | (simp only [List.length_drop, List.length_take]; rfl)) ?_; (with_reducible refine (wind_Number.calls k _ _ l0 a1_0 a1_1 t150 _ ?side1 ?side2 A8.out).mono ?_); (case side1 => repeat (first | exact (Kd.C_below HR0.out HB.out) | (with_reducible refine Kd.C_alloc ?_ _) | (with_reducible refine Kd.C_drewN ?_ _) | (with_reducible refine Kd.C_drew ?_))); (case side2 => exact HC0.out); rintro e w19 ⟨rfl, hb⟩; refine ⟨_, rfl, ?_⟩; have n0_ := Aside0.mk (blk_below (g := gb148) (o := .cells #[.int .i64 a1_0, .int .i64 a1_1] 32 (0, 0)) (by (with_reducible repeat (first | refine blk_drewN ?_ _ | refine blk_drew ?_ | refine blk_alloc ?_ _)); exact BK148.out) hb); have n1_ := Aside0.mk (below_step (by repeat (first | (with_reducible first | exact HB.out | apply below_alloc | apply pw_below_drewN | apply below_drew1 | refine below_set ?_ GE148.out) | exact HB.out)) hb); clear BK148; clear HB; have BK148 := n0_; have HB := n1_; clear n0_ n1_; (try clear hb); (try clear hb2); (try clear hk); (try clear hi)))
      go_ret
      exact ⟨by first | rfl | (simp [errW_none, errW_some] <;> rfl) | (simp [*, errW_none, errW_some] <;> rfl), by repeat (first | (with_reducible first | exact HB.out | apply below_alloc | apply pw_below_drewN | apply below_drew1 | refine below_set ?_ GE148.out) | exact HB.out)⟩
end Go.Proofs.Ytlljpjbhndcaiaa.Q
end
section
namespace Go.Proofs.Ytlljpjbhndcaiaa.Q
open Go.RowKit Go.Proofs.YtlljpjbhndcaiaaW.PrintWords Go.Proofs.YtlljpjbhndcaiaaW.PrintLast Go.Proofs.YtlljpjbhndcaiaaW.PrintMore
attribute [local go_sem] max2_int min2_int max_two min_two max_three min_three max_four min_four
set_option linter.unusedVariables false
set_option linter.unusedSimpArgs false
def dist_Some.go (k : Nat) (px py : Int) (t : Nat → Bool) : List S40 → Nat → Int → Int → Int → Option (Int × Int × Int)
  | [], _, n, d, b => some (n, d, b)
  | e :: r, i, n, d, b => if t i = true then ((plane_Square.f k e.f0.f0 e.f0.f1 e.f1.f0 e.f1.f1 px py).bind fun s => if b < 0 then dist_Some.go k px py t r (i + 1) s.1 s.2 i else (root_Compare.f k s.1 s.2 n d).bind fun c => if c < 0 then dist_Some.go k px py t r (i + 1) s.1 s.2 i else dist_Some.go k px py t r (i + 1) n d b) else dist_Some.go k px py t r (i + 1) n d b
def dist_Some.f (k : Nat) (l0 : List S40) (px py : Int) (t : Nat → Bool) : Option (Int × Int × Int) := dist_Some.go k px py t l0 0 0 0 (-1)
theorem Some_drop (l : List S40) (i : Nat) (h : i < l.length) : l.drop i = rd_T40 l i :: l.drop (i + 1) := by
  rw [List.drop_eq_getElem_cons h]
  simp [rd_T40, h]
theorem balloc' {n : Nat} {w W : World} (hn : n ≤ W.heap.size) (h : Below n w W) (o : Obj) : Below n w (W.alloc o) := h.alloc hn o
theorem bset'' {n : Nat} {w W : World} {g o : Nat} (hg : n ≤ g) (h : Below n w W) (u : Value) : Below n w (W.setCell ⟨g, o, none⟩ u) := h.setCell (p := ⟨g, o, none⟩) hg u
theorem cells4 {W : World} {g t : Nat} {a b c d : Value} (h : W.heap[g]? = some (.cells #[a, b, c, d] t (0, 0))) : W.cell? ⟨g, 0, none⟩ = some a ∧ W.cell? ⟨g, 1, none⟩ = some b ∧ W.cell? ⟨g, 2, none⟩ = some c ∧ W.cell? ⟨g, 3, none⟩ = some d := by
  refine ⟨?_, ?_, ?_, ?_⟩ <;> simp [World.cell?, h]
def dist_Some.Rel (w : World) (J : Nat → World → Prop) (px py : Int) (i : Nat) (n d : Int) (W : World) : Prop :=
  J i W ∧ W.heap[w.heap.size]? = some (.cells #[.int .i64 px, .int .i64 py] 32 (0, 0)) ∧ W.heap[w.heap.size + 1]? = some (.cells #[.int .i64 0, .int .i64 0] 36 (0, 0)) ∧ W.heap[w.heap.size + 2]? = some (.cells #[.int .i64 n, .int .i64 d] 36 (0, 0))
set_option maxHeartbeats 4000000 in
set_option maxRecDepth 100000 in
theorem dist_Some.calls (k : Nat) (A0 : Option Addr) (c0 : Nat) (l0 : List S40) (px py : Int) (fn : Nat) (caps : Array Value) (t : Nat → Bool) (J : Nat → World → Prop) (r1 r2 r3 : Int) (w : World)
    (hent : ∀ args W, (callFunc fn args).run Try.prog W = .ok (.enter fn args) W) (hJ : ∀ i W W', J i W → Below w.heap.size W W' → J i W') (hJC : ∀ i W, J i W → Kd.C k40 W A0 l0.length l0)
    (hcall : ∀ (i : Nat) W, i < l0.length → J i W → w.heap.size ≤ W.heap.size → Calls Try.prog fn (#[.int .i64 i] ++ caps) W fun e W' => e = .returned (.bool (t i)) ∧ J (i + 1) W' ∧ W.heap.size ≤ W'.heap.size ∧ ∀ b, w.heap.size ≤ b → b < W.heap.size → W'.heap[b]? = W.heap[b]?)
    (h0 : J 0 w) (hc0 : l0.length ≤ c0) (h : dist_Some.f k l0 px py t = some (r1, r2, r3)) :
    Calls Try.prog 22 #[.slice A0 l0.length c0, .agg #[.int .i64 px, .int .i64 py], .func (.func fn) #[] caps] w fun e w' => e = .returned (.tuple #[.agg #[.int .i64 r1, .int .i64 r2], .int .i64 r3]) ∧ J l0.length w' ∧ w.heap.size ≤ w'.heap.size := by
  have hm : l0.length ≤ 9223372036854775807 := (hJC 0 w h0).2.1
  have HJ := Aside0.mk hJ; have HJC := Aside0.mk hJC; have HC := Aside0.mk hcall; have H0 := Aside0.mk h; have HJ0 := Aside0.mk h0
  clear hJ hJC hcall h h0
  go_enter Try.func22, Try.ntmps22
  go_wp2_with fail
  go_loopw [9, 16] (fun s9 s16 W => ∃ (i : Nat) (n d b : Int), i ≤ l0.length ∧ s9 = .int .i64 b ∧ s16 = .int .i64 i ∧ Aside0 (dist_Some.Rel w J px py i n d W ∧ dist_Some.go k px py t (l0.drop i) i n d b = some (r1, r2, r3))) (fun _ s16 _ => l0.length - (intOf s16).toNat)
  case atStart =>
    exact ⟨0, 0, 0, -1, Nat.zero_le _, rfl, rfl, ⟨⟨HJ.out _ _ _ HJ0.out (balloc (balloc (balloc (Below.refl _ _) _) _) _), halloc (halloc (hnew _ _ rfl) _) _, halloc (hnew _ _ (by simp)) _, hnew _ _ (by simp)⟩, H0.out⟩⟩
  case round =>
    obtain ⟨i, n, d, b, hi, rfl, rfl, HRel⟩ := hrel
    by_cases hlt : i < l0.length
    · obtain ⟨⟨hJi, hp, hf, hbest⟩, hgo⟩ := HRel.out
      rw [Some_drop l0 i hlt, dist_Some.go] at hgo
      have h0 : (0 : Int) ≤ (i : Int) := by omega
      have h1 : (i : Int) < (l0.length : Int) := by omega
      obtain ⟨ad, rfl, x0, x1, x2, x3⟩ := at_T40 (HJC.out _ _ hJi) (i : Int) h0 h1
      rw [Int.toNat_natCast] at x0 x1 x2 x3
      have hsz := (Array.getElem?_eq_some_iff.1 hbest).1
      obtain ⟨E, hE⟩ : ∃ E, E = rd_T40 l0 (i : Int) := ⟨_, rfl⟩
      rw [← hE] at x0 x1 x2 x3 hgo
      have HG := Aside0.mk hgo; have HJI := Aside0.mk hJi; have HP := Aside0.mk hp; have HF := Aside0.mk hf; have HBE := Aside0.mk hbest
      clear hJi hp hf hbest hgo HRel hE
      obtain ⟨w0, rfl⟩ : ∃ w0 : World, w0 = wr := ⟨_, rfl⟩
      go_wp2_with fail
      refine (HC.out i (w0.alloc (.cells #[.int .i64 E.f0.f0, .int .i64 E.f0.f1, .int .i64 E.f1.f0, .int .i64 E.f1.f1] 40)) hlt (HJ.out _ _ _ HJI.out (balloc' (by omega) (Below.refl _ _) _)) (by simp; omega)).mono ?_
      rintro e w1 ⟨rfl, hJ1, hs1, hk1⟩
      clear x0 x1 x2 x3
      have HJ1 := Aside0.mk hJ1
      have P1 := Aside0.mk ((hk1 _ (Nat.le_refl _) (by simp; omega)).trans (halloc HP.out _))
      have F1 := Aside0.mk ((hk1 _ (by omega) (by simp; omega)).trans (halloc HF.out _))
      have B1 := Aside0.mk ((hk1 _ (by omega) (by simp; omega)).trans (halloc HBE.out _))
      have E1 := Aside0.mk ((hk1 _ (by omega) (by simp)).trans (hnew w0 _ rfl))
      simp only [World.size_alloc] at hs1
      clear hk1 hJ1
      cases ht : t i with
      | false =>
        have HG2 : Aside0 (dist_Some.go k px py t (l0.drop (i + 1)) (i + 1) n d b = some (r1, r2, r3)) := ⟨by have := HG.out; rw [if_neg (by simp [ht])] at this; exact this⟩
        clear ht
        go_wp2_with fail
        go_roundw
        case rel => exact ⟨i + 1, n, d, b, by omega, rfl, by go_num, ⟨⟨HJ1.out, P1.out, F1.out, B1.out⟩, HG2.out⟩⟩
        case measure => simp [intOf]; omega
      | true =>
        have hgo := HG.out
        rw [if_pos (by simp [ht])] at hgo
        clear ht
        obtain ⟨⟨s1, s2⟩, hd, hgo⟩ := Option.bind_eq_some_iff.mp hgo
        simp only at hgo
        have HD := Aside0.mk hd; have HG2 := Aside0.mk hgo
        clear hd hgo HG
        obtain ⟨y0, y1, _, _⟩ := cells2 P1.out
        obtain ⟨v0, v1, v2, v3⟩ := cells4 E1.out
        go_wp2_with fail
        refine (plane_Square.calls k _ _ _ _ _ _ _ _ _ HD.out).mono ?_
        rintro e w2 ⟨rfl, hb2⟩
        have hs2 := hb2.size
        have HJ2 := Aside0.mk (HJ.out _ _ _ HJ1.out (balloc' (by omega) (hb2.mono (by omega)) (.cells #[.int .i64 s1, .int .i64 s2] 36)))
        have P2 := Aside0.mk (halloc ((hb2.block _ (by omega)).trans P1.out) (.cells #[.int .i64 s1, .int .i64 s2] 36))
        have F2 := Aside0.mk (halloc ((hb2.block _ (by omega)).trans F1.out) (.cells #[.int .i64 s1, .int .i64 s2] 36))
        have B2 := Aside0.mk (halloc ((hb2.block _ (by omega)).trans B1.out) (.cells #[.int .i64 s1, .int .i64 s2] 36))
        have D2 := Aside0.mk (hnew w2 (.cells #[.int .i64 s1, .int .i64 s2] 36) rfl)
        clear hb2 y0 y1 v0 v1 v2 v3
        by_cases hb : b < 0
        · have hb' : decide (b < 0) = true := decide_eq_true hb
          have HG3 := Aside0.mk ((if_pos hb).symm.trans HG2.out)
          clear hb
          go_upto_region 7 with fail
          obtain ⟨W2, hW2⟩ : ∃ W2 : World, W2 = w2.alloc (.cells #[.int .i64 s1, .int .i64 s2] 36) := ⟨_, rfl⟩
          have hsz2 : w2.heap.size < W2.heap.size := by rw [hW2]; simp
          rw [← hW2] at HJ2 P2 F2 B2 D2 ⊢
          clear hW2
          obtain ⟨b0, b1, q0, q1⟩ := cells2 B2.out
          obtain ⟨d0, d1, _, _⟩ := cells2 D2.out
          go_wp2_with fail
          go_roundw
          case rel => exact ⟨i + 1, s1, s2, i, by omega, rfl, by go_num, ⟨⟨HJ.out _ _ _ HJ2.out (bset'' (by omega) (bset'' (by omega) (Below.refl _ _) _) _), hset (hset P2.out (by omega) _) (by omega) _, hset (hset F2.out (by omega) _) (by omega) _, hset2 B2.out⟩, HG3.out⟩⟩
          case measure => simp [intOf]; omega
        · have hb' : decide (b < 0) = false := decide_eq_false hb
          have hgo := (if_neg hb).symm.trans HG2.out
          obtain ⟨c, hc, hgo⟩ := Option.bind_eq_some_iff.mp hgo
          have HCM := Aside0.mk hc; have HG3 := Aside0.mk hgo
          clear hb hc hgo HG2
          go_upto_region 7 with fail
          obtain ⟨W2, hW2⟩ : ∃ W2 : World, W2 = w2.alloc (.cells #[.int .i64 s1, .int .i64 s2] 36) := ⟨_, rfl⟩
          have hsz2 : w2.heap.size < W2.heap.size := by rw [hW2]; simp
          rw [← hW2] at HJ2 P2 F2 B2 D2 ⊢
          clear hW2
          obtain ⟨b0, b1, q0, q1⟩ := cells2 B2.out
          obtain ⟨d0, d1, _, _⟩ := cells2 D2.out
          go_wp2_with fail
          refine (root_Compare.calls k _ _ _ _ _ _ HCM.out).mono ?_
          rintro e w3 ⟨rfl, hb3⟩
          have hs3 := hb3.size
          have HJ3 := Aside0.mk (HJ.out _ _ _ HJ2.out (hb3.mono (by omega)))
          have P3 := Aside0.mk ((hb3.block _ (by omega)).trans P2.out)
          have F3 := Aside0.mk ((hb3.block _ (by omega)).trans F2.out)
          have B3 := Aside0.mk ((hb3.block _ (by omega)).trans B2.out)
          have D3 := Aside0.mk ((hb3.block _ (by omega)).trans D2.out)
          clear hb3 b0 b1 q0 q1 d0 d1
          by_cases hc : c < 0
          · have hc' : decide (c < 0) = true := decide_eq_true hc
            have HG4 := Aside0.mk ((if_pos hc).symm.trans HG3.out)
            clear hc
            obtain ⟨b0, b1, q0, q1⟩ := cells2 B3.out
            obtain ⟨d0, d1, _, _⟩ := cells2 D3.out
            go_wp2_with fail
            go_roundw
            case rel => exact ⟨i + 1, s1, s2, i, by omega, rfl, by go_num, ⟨⟨HJ.out _ _ _ HJ3.out (bset'' (by omega) (bset'' (by omega) (Below.refl _ _) _) _), hset (hset P3.out (by omega) _) (by omega) _, hset (hset F3.out (by omega) _) (by omega) _, hset2 B3.out⟩, HG4.out⟩⟩
            case measure => simp [intOf]; omega
          · have hc' : decide (c < 0) = false := decide_eq_false hc
            have HG4 := Aside0.mk ((if_neg hc).symm.trans HG3.out)
            clear hc
            go_wp2_with fail
            go_roundw
            case rel => exact ⟨i + 1, n, d, b, by omega, rfl, by go_num, ⟨⟨HJ3.out, P3.out, F3.out, B3.out⟩, HG4.out⟩⟩
            case measure => simp [intOf]; omega
    · obtain rfl : i = l0.length := by omega
      obtain ⟨⟨hJi, hp, hf, hbest⟩, hgo⟩ := HRel.out
      rw [List.drop_length] at hgo
      obtain ⟨rfl, rfl, rfl⟩ : n = r1 ∧ d = r2 ∧ b = r3 := by simpa [dist_Some.go] using hgo
      have hsz := (Array.getElem?_eq_some_iff.1 hbest).1
      obtain ⟨b0, b1, q0, q1⟩ := cells2 hbest
      obtain ⟨f0, f1, g0, g1⟩ := cells2 hf
      go_wp2_with fail
      exact bodyPost_ret (v := .tuple #[.agg #[.int .i64 n, .int .i64 d], .int .i64 b]) (by simp [results, Try.results22, go_sem, f0, f1]) rfl ⟨rfl, HJ.out _ wr _ hJi (bset'' (by omega) (bset'' (by omega) (Below.refl _ _) _) _), by simp; omega⟩
end Go.Proofs.Ytlljpjbhndcaiaa.Q
end
section
namespace Go.Proofs.Ytlljpjbhndcaiaa.Q
open Go.RowKit Go.Proofs.YtlljpjbhndcaiaaW.PrintWords Go.Proofs.YtlljpjbhndcaiaaW.PrintLast Go.Proofs.YtlljpjbhndcaiaaW.PrintMore
attribute [local go_sem] max2_int min2_int max_two min_two max_three min_three max_four min_four
set_option linter.unusedVariables false
set_option linter.unusedSimpArgs false
def es08 : List S40 := [(⟨(⟨100, 0⟩ : S32), (⟨110, 0⟩ : S32)⟩ : S40), (⟨(⟨3, 4⟩ : S32), (⟨30, 4⟩ : S32)⟩ : S40)]
def punchcutlaw08_awake.f (k : Nat) : Option Bool :=
  (dist_Near.f k es08 0 0).bind fun a => (dist_Near.f k [] 0 0).bind fun b => (dist_Some.f k es08 0 0 (fun i => i == 0)).bind fun c => (dist_Eight.f k es08 0 0).bind fun d => (dist_Sign.f k es08 0 0).bind fun e => (dist_Sign.f k es08 5 4).bind fun g =>
    if a = (25, 1, 1) ∧ b.2.2 = -1 ∧ c.2.2 = 0 ∧ d = 40 ∧ e = -1 ∧ g = 0 then some true else none
theorem awake08_eqF (d : Nat) (w : World) (x0 y0 : Int) (x1 y1 : Int) :
    (Op.equalIn (d + 2) 36 (.agg #[.int .i64 x0, .int .i64 x1]) (.agg #[.int .i64 y0, .int .i64 y1])).run Try.prog w = .ok (x0 == y0 && (x1 == y1)) w := by
  refine eqA_of Try.underlying36 (by kernel_rfl) ?_
  refine eqf_cons (by rfl) (by go_simp; rfl) (by go_simp; rfl) (by go_simp) ?_
  exact eqf_last (by rfl) (by go_simp; rfl) (by go_simp; rfl) (by go_simp)
theorem awake08_1 (i : Int) (w : World) : Calls Try.prog 54 #[.int .i64 i] w fun e w' => e = .returned (.bool (i == 0)) ∧ w = w' := by
  go_enter Try.func54, Try.ntmps54
  go_wp2_with fail
  go_ret
  exact ⟨rfl, rfl⟩
theorem awake08_nat (i : Nat) : ((i : Int) == 0) = (i == 0) := by rw [Bool.eq_iff_iff, beq_iff_eq, beq_iff_eq]; omega
theorem awake08_in (args : Array Value) (w : World) : (callFunc 54 args).run Try.prog w = .ok (.enter 54 args) w := by kernel_rfl
set_option maxHeartbeats 4000000 in
set_option maxRecDepth 100000 in
theorem punchcutlaw08_awake.calls (k : Nat) (r : Bool) (w : World) (h : punchcutlaw08_awake.f k = some r) :
    Calls Try.prog 18 #[] w fun e w' => e = .returned (.bool r) ∧ Below w.heap.size w w' := by
  unfold punchcutlaw08_awake.f at h
  obtain ⟨⟨a1, a2, a3⟩, ha, h1⟩ := Option.bind_eq_some_iff.mp h
  obtain ⟨⟨b1, b2, b3⟩, hb, h2⟩ := Option.bind_eq_some_iff.mp h1
  obtain ⟨⟨c1, c2, c3⟩, hc, h3⟩ := Option.bind_eq_some_iff.mp h2
  obtain ⟨d1, hd, h4⟩ := Option.bind_eq_some_iff.mp h3
  obtain ⟨e1, he, h5⟩ := Option.bind_eq_some_iff.mp h4
  obtain ⟨g1, hg, h6⟩ := Option.bind_eq_some_iff.mp h5
  clear h h1 h2 h3 h4 h5
  split at h6
  case isFalse => cases h6
  rename_i hall
  obtain ⟨ha2, rfl, rfl, rfl, rfl, rfl⟩ := hall
  obtain ⟨rfl, rfl, rfl⟩ : a1 = 25 ∧ a2 = 1 ∧ a3 = 1 := by simpa using ha2
  obtain rfl := Option.some.inj h6
  have HA := Aside0.mk ha; have HB := Aside0.mk hb; have HC := Aside0.mk hc; have HD := Aside0.mk hd; have HE := Aside0.mk he; have HG := Aside0.mk hg
  clear ha hb hc hd he hg ha2 h6
  have heq := @awake08_eqF
  go_enter Try.func18, Try.ntmps18
  go_wp2_with (first | ((with_reducible refine gate_dst (N := 14) rfl ?_); (try (refine gate_guard (by rfl) ?_; dsimp only)); refine Kd.R_lit k40 (w0 := w) w.heap.size 40 ?hg (N := 14) ?hd (xs := es08) (inner := [.int .i64 100, .int .i64 0, .int .i64 110, .int .i64 0, .int .i64 3, .int .i64 4, .int .i64 30, .int .i64 4]) (ok := fun _ => True) (okp := fun _ => True) ?hr ?hp (fun _ hk => hk) trivial (Below.refl _ _) (Nat.le_refl _) (by simp [es08]) ?_; (case hd => rfl); (case hg => rfl); (case hr => first | (go_simp; done) | (go_simp; rfl)); (case hp => exact (Reps.c4 (show Kd.M k40 _ _ _ (⟨(⟨100, 0⟩ : S32), (⟨110, 0⟩ : S32)⟩ : S40) [.int .i64 100, .int .i64 0, .int .i64 110, .int .i64 0] from (k40_mkM _ _ _ (⟨(⟨100, 0⟩ : S32), (⟨110, 0⟩ : S32)⟩ : S40))) (Reps.c4 (show Kd.M k40 _ _ _ (⟨(⟨3, 4⟩ : S32), (⟨30, 4⟩ : S32)⟩ : S40) [.int .i64 3, .int .i64 4, .int .i64 30, .int .i64 4] from (k40_mkM _ _ _ (⟨(⟨3, 4⟩ : S32), (⟨30, 4⟩ : S32)⟩ : S40))) (Reps.none _ _)))); intro v1 w1 ho1 hb1 hg_ hnew_; clear hg_ hnew_; have HO1 := Aside0.mk ho1; have HB1 := Aside0.mk hb1; clear ho1 hb1; obtain ⟨A1, n1, e1⟩ := Kd.R_slice HO1.out; subst e1))
  refine (dist_Near.calls k _ _ _ _ _ _ _ _ _ (Kd.R_reads' HO1.out).2.2 (Kd.R_reads' HO1.out).2.1 HA.out).mono ?_
  rintro e w2 ⟨rfl, hb⟩
  have HO2 := Aside0.mk (Kd.R_below (Kd.R_below HO1.out hb) (balloc (Below.refl _ _) (.cells #[.int .i64 25, .int .i64 1] 36)))
  have HB2 := Aside0.mk (balloc (bstep HB1.out hb) (.cells #[.int .i64 25, .int .i64 1] 36))
  have F2 := Aside0.mk (hnew w2 (.cells #[.int .i64 25, .int .i64 1] 36) rfl)
  clear hb HO1 HB1
  go_wp2_with fail
  refine (dist_Near.calls k none 0 [] 0 0 _ _ _ _ (Kd.C_nil _ _) (Nat.le_refl _) HB.out).mono ?_
  rintro e w3 ⟨rfl, hb⟩
  have hz2 := hb.size
  simp only [World.size_alloc] at hz2
  have HO3 := Aside0.mk (Kd.R_below (Kd.R_below HO2.out hb) (balloc (Below.refl _ _) (.cells #[.int .i64 b1, .int .i64 b2] 36)))
  have HB3 := Aside0.mk (balloc (bstep HB2.out hb) (.cells #[.int .i64 b1, .int .i64 b2] 36))
  have F3 := Aside0.mk (halloc ((hb.block _ (by simp)).trans F2.out) (.cells #[.int .i64 b1, .int .i64 b2] 36))
  clear hb HO2 HB2 F2
  go_wp2_with fail
  refine (dist_Some.calls k A1 n1 es08 0 0 54 #[] (fun i => i == 0) (fun _ W => Below (w3.alloc (.cells #[.int .i64 b1, .int .i64 b2] 36)).heap.size (w3.alloc (.cells #[.int .i64 b1, .int .i64 b2] 36)) W) _ _ _ (w3.alloc (.cells #[.int .i64 b1, .int .i64 b2] 36)) awake08_in (fun i W W' h hb => h.trans hb) (fun i W h => (Kd.R_reads' (Kd.R_below HO3.out h)).2.2) ?_ (Below.refl _ _) (Kd.R_reads' HO3.out).2.1 HC.out).mono ?_
  · intro i W hi hW hs
    refine (awake08_1 i W).mono ?_
    rintro e W' ⟨rfl, rfl⟩
    exact ⟨by rw [awake08_nat], hW, Nat.le_refl _, fun b _ _ => rfl⟩
  rintro e w4 ⟨rfl, hb, _⟩
  have hz3 := hb.size
  simp only [World.size_alloc] at hz3
  have HO4 := Aside0.mk (Kd.R_below (Kd.R_below HO3.out hb) (balloc (Below.refl _ _) (.cells #[.int .i64 c1, .int .i64 c2] 36)))
  have HB4 := Aside0.mk (balloc (bstep HB3.out hb) (.cells #[.int .i64 c1, .int .i64 c2] 36))
  have F4 := Aside0.mk (halloc ((hb.block _ (by simp; omega)).trans F3.out) (.cells #[.int .i64 c1, .int .i64 c2] 36))
  clear hb HO3 HB3 F3
  obtain ⟨f0, f1, _, _⟩ := cells2 F4.out
  go_wp2_with fail
  refine (dist_Eight.calls k _ _ _ _ _ _ _ (Kd.R_reads' HO4.out).2.2 (Kd.R_reads' HO4.out).2.1 HD.out).mono ?_
  rintro e w5 ⟨rfl, hb⟩
  have HO5 := Aside0.mk (Kd.R_below HO4.out hb)
  have HB5 := Aside0.mk (bstep HB4.out hb)
  clear hb HO4 HB4 F4 f0 f1
  go_wp2_with fail
  refine (dist_Sign.calls k _ _ _ _ _ _ _ (Kd.R_reads' HO5.out).2.2 (Kd.R_reads' HO5.out).2.1 HE.out).mono ?_
  rintro e w6 ⟨rfl, hb⟩
  have HO6 := Aside0.mk (Kd.R_below HO5.out hb)
  have HB6 := Aside0.mk (bstep HB5.out hb)
  clear hb HO5 HB5
  go_wp2_with fail
  refine (dist_Sign.calls k _ _ _ _ _ _ _ (Kd.R_reads' HO6.out).2.2 (Kd.R_reads' HO6.out).2.1 HG.out).mono ?_
  rintro e w7 ⟨rfl, hb⟩
  have HB7 := Aside0.mk (bstep HB6.out hb)
  clear hb
  go_wp2_with fail
  go_ret
  exact ⟨rfl, HB7.out⟩
end Go.Proofs.Ytlljpjbhndcaiaa.Q
end
section
namespace Go.Proofs.Ytlljpjbhndcaiaa.Q
open Go.RowKit Go.Proofs.YtlljpjbhndcaiaaW.PrintWords Go.Proofs.YtlljpjbhndcaiaaW.PrintLast Go.Proofs.YtlljpjbhndcaiaaW.PrintMore
attribute [local go_sem] max2_int min2_int max_two min_two max_three min_three max_four min_four
set_option linter.unusedVariables false
set_option linter.unusedSimpArgs false
theorem glyph_at (k : Nat) (A0 : Option Addr) (c0 : Nat) (l0 : List (List S133)) (es : List S40) (w W : World) (hr0 : Kd.C (Kd.slice 133 k133) w A0 l0.length l0) (hc0 : l0.length ≤ c0) (hB : Below w.heap.size w W) (h : punchcutlaw06_Glyph.f k l0 = some es) :
    Calls Try.prog 19 #[.slice A0 l0.length c0] W fun e w' => ∃ A c, e = .returned (.slice A es.length c) ∧ Kd.R k40 40 w' w.heap.size (fun _ => True) (.slice A es.length c) es ∧ Below W.heap.size W w' := by
  refine (punchcutlaw06_Glyph.calls k (fun q => q < w.heap.size) _ _ l0 es _ (Kd.V_mk hc0 (Kd.F_below (Kd.C_F (Kd.heap_slice 133 k133_heap) hr0) hB)) h).mono ?_
  rintro e w' ⟨v, rfl, ho, hb⟩
  obtain ⟨A, c, rfl⟩ := Kd.R_slice ho
  exact ⟨A, c, rfl, Kd.R_lower (Kd.R_mono ho (fun _ _ => trivial)) hB.size, hb⟩
theorem rC {w : World} {b n c : Nat} {A : Option Addr} {ok : Nat → Prop} {es : List S40} (h : Kd.R k40 40 w b ok (.slice A n c) es) : Kd.C k40 w A es.length es ∧ es.length ≤ c := by
  obtain ⟨h1, h2, h3⟩ := Kd.R_reads' h
  exact ⟨h3, h1 ▸ h2⟩
end Go.Proofs.Ytlljpjbhndcaiaa.Q
end
section
set_option linter.unusedVariables false
set_option linter.unusedSimpArgs false
namespace Go.Proofs.Ytlljpjbhndcaiaa.M
open Go.RowKit Go.Proofs.Ytlljpjbhndcaiaa.Q Go.Proofs.YtlljpjbhndcaiaaW.PrintWords Go.Proofs.YtlljpjbhndcaiaaW.PrintLast Go.Proofs.YtlljpjbhndcaiaaW.PrintMore
def Ret {α : Type} (g : Nat → Option α) (r : α) : Prop := ∃ K, ∀ k, K ≤ k → g k = some r
theorem Ret.const {α : Type} {x : Option α} {r : α} (h : x = some r) : Ret (fun _ => x) r := ⟨0, fun _ _ => h⟩
theorem Ret.bind {α β : Type} {g : Nat → Option α} {h : Nat → α → Option β} {a : α} {r : β} (h1 : Ret g a) (h2 : Ret (fun k => h k a) r) : Ret (fun k => (g k).bind (h k)) r := by
  obtain ⟨K1, h1⟩ := h1
  obtain ⟨K2, h2⟩ := h2
  refine ⟨max K1 K2, fun k hk => ?_⟩
  show (g k).bind (h k) = some r
  rw [h1 k (by omega)]
  exact h2 k (by omega)
theorem Ret.succ {α : Type} {g : Nat → Option α} {r : α} (h : Ret (fun k => g (k + 1)) r) : Ret g r := by
  obtain ⟨K, h⟩ := h
  refine ⟨K + 1, fun k hk => ?_⟩
  have := h (k - 1) (by omega)
  simp only [show k - 1 + 1 = k by omega] at this
  exact this
theorem Ret.of {α : Type} {g : Nat → Option α} {r : α} (h : Ret g r) : ∃ k, g k = some r := by
  obtain ⟨K, h⟩ := h
  exact ⟨K, h K (Nat.le_refl _)⟩
theorem Ret.unique {α : Type} {g : Nat → Option α} {r s : α} (h : Ret g r) (h' : Ret g s) : r = s := by
  obtain ⟨K, h⟩ := h
  obtain ⟨K', h'⟩ := h'
  have a := h (max K K') (by omega)
  have b := h' (max K K') (by omega)
  rw [a] at b
  exact Option.some.inj b
theorem Ret.congr {α : Type} {g g' : Nat → Option α} {r : α} (h : Ret g r) (e : ∀ k, g' k = g k) : Ret g' r := by
  obtain ⟨K, h⟩ := h
  exact ⟨K, fun k hk => (e k).trans (h k hk)⟩
theorem w64 {n : Int} (h : -9223372036854775808 ≤ n) (h' : n ≤ 9223372036854775807) : wrap64 n = n := by unfold wrap64; omega
theorem wu64 (n : Int) : IntKind.u64.wrap n = n % 18446744073709551616 := by simp [IntKind.wrap, IntKind.bits, IntKind.signed]
theorem wu64_in (n : Int) (h0 : 0 ≤ n) (h1 : n < 2 ^ 64) : IntKind.u64.wrap n = n := by rw [wu64]; omega
theorem and_low (a : Int) (h0 : 0 ≤ a) (h1 : a < 18446744073709551616) : Go.bits .and .u64 a 4294967295 = a % 4294967296 :=
  bits_mask .u64 64 (by decide) wu64_in 32 (by decide) a h0 (by omega)
theorem and_one (a : Int) (h0 : 0 ≤ a) (h1 : a < 18446744073709551616) : Go.bits .and .u64 a 1 = a % 2 :=
  bits_mask .u64 64 (by decide) wu64_in 1 (by decide) a h0 (by omega)
theorem mul_bound {a b n m : Int} (ha0 : 0 ≤ a) (ha : a ≤ n) (hb0 : 0 ≤ b) (hb : b ≤ m) : 0 ≤ a * b ∧ a * b ≤ n * m :=
  ⟨Int.mul_nonneg ha0 hb0, Int.mul_le_mul ha hb hb0 (by omega)⟩
theorem mul_eq (a b : Int) (ha0 : 0 ≤ a) (ha : a < 18446744073709551616) (hb0 : 0 ≤ b) (hb : b < 18446744073709551616) :
    wide_Mul.f a b = some ((a * b) / 18446744073709551616, (a * b) % 18446744073709551616) := by
  unfold wide_Mul.f
  rw [and_low a ha0 ha, and_low b hb0 hb]
  obtain ⟨x, hx⟩ : ∃ x, a / 4294967296 = x := ⟨_, rfl⟩
  obtain ⟨y, hy⟩ : ∃ y, a % 4294967296 = y := ⟨_, rfl⟩
  obtain ⟨u, hu⟩ : ∃ u, b / 4294967296 = u := ⟨_, rfl⟩
  obtain ⟨v, hv⟩ : ∃ v, b % 4294967296 = v := ⟨_, rfl⟩
  rw [hx, hy, hu, hv]
  have ea : a = x * 4294967296 + y := by omega
  have eb : b = u * 4294967296 + v := by omega
  have e : a * b = x * u * 18446744073709551616 + (x * v + y * u) * 4294967296 + y * v := by rw [ea, eb]; grind
  have h1 := mul_bound (a := x) (b := u) (n := 4294967295) (m := 4294967295) (by omega) (by omega) (by omega) (by omega)
  have h2 := mul_bound (a := x) (b := v) (n := 4294967295) (m := 4294967295) (by omega) (by omega) (by omega) (by omega)
  have h3 := mul_bound (a := y) (b := u) (n := 4294967295) (m := 4294967295) (by omega) (by omega) (by omega) (by omega)
  have h4 := mul_bound (a := y) (b := v) (n := 4294967295) (m := 4294967295) (by omega) (by omega) (by omega) (by omega)
  rw [e]
  generalize x * u = p at *
  generalize x * v = q at *
  generalize y * u = r at *
  generalize y * v = s at *
  clear e ea eb hx hy hu hv ha hb ha0 hb0
  simp only [wu64]
  have m1 : Go.bits .and .u64 (q % 18446744073709551616) 4294967295 = (q % 18446744073709551616) % 4294967296 := and_low _ (by omega) (by omega)
  have m2 : Go.bits .and .u64 (r % 18446744073709551616) 4294967295 = (r % 18446744073709551616) % 4294967296 := and_low _ (by omega) (by omega)
  rw [m1, m2]
  congr 2 <;> omega
theorem pair_compare (a b c d : Int) : Ret (fun k => wide_Pair_Compare.f k a b c d) (if a < c ∨ (a = c ∧ b < d) then -1 else if a = c ∧ b = d then 0 else 1) := by
  refine ⟨1, fun k hk => ?_⟩
  obtain ⟨k, rfl⟩ : ∃ j, k = j + 1 := ⟨k - 1, by omega⟩
  unfold wide_Pair_Compare.f
  by_cases h1 : a < c
  · simp [h1, wide_Pair_Compare.j0]
  · by_cases h2 : a = c
    · subst h2
      by_cases h3 : b < d
      · simp [h3, wide_Pair_Compare.j0]
      · by_cases h4 : b = d
        · subst h4
          simp [wide_Pair_Compare.j0]
        · simp [h3, h4, wide_Pair_Compare.j0]
    · simp [h1, h2, wide_Pair_Compare.j0]
def cmp (x y : Int) : Int := if x < y then -1 else if x = y then 0 else 1
theorem less_eq (a b c d : Int) (ha0 : 0 ≤ a) (ha : a < 9223372036854775808) (hb0 : 0 ≤ b) (hb : b < 9223372036854775808) (hc0 : 0 ≤ c) (hc : c < 9223372036854775808) (hd0 : 0 ≤ d) (hd : d < 9223372036854775808) :
    Ret (fun k => root_Compare.f k a b c d) (cmp (a * d) (c * b)) := by
  unfold root_Compare.f wide_Less.f
  simp only [wu64]
  rw [Int.emod_eq_of_lt ha0 (by omega), Int.emod_eq_of_lt hb0 (by omega), Int.emod_eq_of_lt hc0 (by omega), Int.emod_eq_of_lt hd0 (by omega), mul_eq a d ha0 (by omega) hd0 (by omega), mul_eq c b hc0 (by omega) hb0 (by omega)]
  refine Ret.bind (a := cmp (a * d) (c * b)) ?_ (Ret.const rfl)
  refine Ret.bind (Ret.const rfl) ?_
  refine Ret.bind (Ret.const rfl) ?_
  refine Ret.bind (pair_compare _ _ _ _) (Ret.const ?_)
  congr 1
  unfold cmp
  generalize a * d = m
  generalize c * b = n
  repeat' split
  all_goals omega
theorem div_l0 (hi lo d : Int) (hd : d < 18446744073709551616) (hlo0 : 0 ≤ lo) (hlo : lo < 18446744073709551616) :
    ∀ (j : Nat) (V t q r : Int), j ≤ 64 → t = q * d + r → 0 ≤ r → r < d → 0 ≤ q → V = t * 2 ^ j + lo % 2 ^ j → q * 2 ^ j + 2 ^ j ≤ 18446744073709551616 →
    Ret (fun k => wide_Pair_Div.l0 k d (q * 2 ^ j) r ((j : Int) - 1) hi lo) (V / d, V % d, 0) := by
  intro j
  induction j with
  | zero =>
    intro V t q r _ ht hr0 hr hq hV _
    refine Ret.succ (Ret.const ?_)
    simp only [Int.pow_zero, Int.mul_one, Int.emod_one, Int.add_zero] at hV ⊢
    subst hV ht
    have e1 : (q * d + r) / d = q := by
      rw [Int.add_comm, Int.add_mul_ediv_right _ _ (by omega), Int.ediv_eq_zero_of_lt hr0 hr]; omega
    have e2 : (q * d + r) % d = r := by
      rw [Int.add_comm, Int.add_mul_emod_self_right, Int.emod_eq_of_lt hr0 hr]
    rw [e1, e2]
  | succ j ih =>
    intro V t q r hj ht hr0 hr hq hV hb
    have hP : (1 : Int) ≤ 2 ^ j := by
      have := Int.pow_pos (n := 2) (m := j) (by omega)
      omega
    have e2 : (2 : Int) ^ (j + 1) = 2 * 2 ^ j := by rw [Int.pow_succ]; omega
    have hP64 : (2 : Int) ^ j ≤ 9223372036854775808 := by
      have : (2 : Nat) ^ j ≤ 2 ^ 63 := Nat.pow_le_pow_right (by omega) (by omega)
      have h2 : ((2 ^ j : Nat) : Int) ≤ ((2 ^ 63 : Nat) : Int) := by exact_mod_cast this
      simpa using h2
    have hs : shr .u64 lo (((j + 1 : Nat) : Int) - 1) = lo / 2 ^ j := by
      unfold shr
      rw [show (((j + 1 : Nat) : Int) - 1).toNat = j by omega, Nat.min_eq_left (by show j ≤ 64; omega)]
    have hl : shl .u64 1 (((j + 1 : Nat) : Int) - 1) = 2 ^ j := by
      unfold shl
      rw [show (((j + 1 : Nat) : Int) - 1).toNat = j by omega, Nat.min_eq_left (by show j ≤ 64; omega), wu64, Int.one_mul]
      exact Int.emod_eq_of_lt (by omega) (by omega)
    have hd0 : 0 ≤ lo / 2 ^ j := Int.ediv_nonneg hlo0 (by omega)
    have hd1 : lo / 2 ^ j ≤ lo := Int.ediv_le_self _ hlo0
    have hbit : Go.bits .and .u64 (lo / 2 ^ j) 1 = (lo / 2 ^ j) % 2 := and_one _ hd0 (by omega)
    have hmod : lo % 2 ^ (j + 1) = (lo / 2 ^ j % 2) * 2 ^ j + lo % 2 ^ j := by
      have h1 := Int.mul_ediv_add_emod lo (2 ^ j)
      have h2 := Int.emod_nonneg lo (show (2 : Int) ^ j ≠ 0 by omega)
      have h3 := Int.emod_lt_of_pos lo (show (0 : Int) < 2 ^ j by omega)
      have h4 := Int.mul_ediv_add_emod (lo / 2 ^ j) 2
      generalize lo / 2 ^ j = m at *
      generalize lo % 2 ^ j = n at *
      have h5 : 0 ≤ m % 2 ∧ m % 2 ≤ 1 := by omega
      generalize m % 2 = b at *
      generalize m / 2 = c at *
      rw [e2, ← h1, ← h4]
      generalize (2 : Int) ^ j = P at *
      have e : P * (2 * c + b) + n = (b * P + n) + (2 * P) * c := by grind
      rw [e, Int.add_mul_emod_self_left]
      have h6 : 0 ≤ b * P ∧ b * P ≤ 1 * P := mul_bound h5.1 h5.2 (by omega) (Int.le_refl _)
      exact Int.emod_eq_of_lt (by omega) (by omega)
    obtain ⟨b, hbb⟩ : ∃ b, lo / 2 ^ j % 2 = b := ⟨_, rfl⟩
    have hb01 : 0 ≤ b ∧ b ≤ 1 := by omega
    have hor : Go.bits .or .u64 (IntKind.u64.wrap (r * 2)) b = (r * 2) % 18446744073709551616 + b := by
      rw [wu64]
      exact bits_join .u64 64 (by decide) wu64_in 1 _ _ (by omega) (by omega) (by omega) (by omega) (by omega) (by omega)
    have hqP : 0 ≤ q * 2 ^ j := Int.mul_nonneg hq (by omega)
    have hout : Go.bits .or .u64 (q * 2 ^ (j + 1)) (2 ^ j) = (2 * q + 1) * 2 ^ j := by
      have h := bits_join .u64 64 (by decide) wu64_in (j + 1) (q * 2 ^ (j + 1)) (2 ^ j) (by rw [e2]; grind) (by simp) (by omega) (by omega) (by rw [e2]; omega) (by omega)
      rw [h, e2]
      grind
    refine Ret.succ ?_
    refine Ret.congr (g := fun k => if d ≤ 2 * r + b then wide_Pair_Div.l0 k d ((2 * q + 1) * 2 ^ j) (2 * r + b - d) ((j : Int) - 1) hi lo else wide_Pair_Div.l0 k d ((2 * q) * 2 ^ j) (2 * r + b) ((j : Int) - 1) hi lo) ?_ ?_
    · by_cases hc : d ≤ 2 * r + b
      · simp only [if_pos hc]
        refine ih V (2 * t + b) (2 * q + 1) (2 * r + b - d) (by omega) (by rw [ht]; grind) (by omega) (by omega) (by omega) ?_ ?_
        · rw [hV, hmod, e2, hbb]; grind
        · have : (2 * q + 1) * 2 ^ j + 2 ^ j = q * 2 ^ (j + 1) + 2 ^ (j + 1) := by rw [e2]; grind
          omega
      · simp only [if_neg hc]
        refine ih V (2 * t + b) (2 * q) (2 * r + b) (by omega) (by rw [ht]; grind) (by omega) (by omega) (by omega) ?_ ?_
        · rw [hV, hmod, e2, hbb]; grind
        · have : 2 * q * 2 ^ j + 2 ^ j + 2 ^ j = q * 2 ^ (j + 1) + 2 ^ (j + 1) := by rw [e2]; grind
          omega
    · intro k
      show wide_Pair_Div.l0 (k + 1) d (q * 2 ^ (j + 1)) r (((j + 1 : Nat) : Int) - 1) hi lo = _
      rw [wide_Pair_Div.l0, if_pos (by omega), if_pos (by omega), hs, hl, hbit, hbb, hor, hout, wu64]
      have ej : wrap64 ((((j + 1 : Nat) : Int) - 1) - 1) = (j : Int) - 1 := by unfold wrap64; omega
      rw [ej]
      by_cases ht : r / 9223372036854775808 = 1
      · rw [if_pos ht, if_pos (by omega)]
        congr 1
        omega
      · rw [if_neg ht]
        have e3 : (r * 2) % 18446744073709551616 + b = 2 * r + b := by omega
        rw [e3]
        by_cases hc : d ≤ 2 * r + b
        · rw [if_pos hc, if_pos hc]
          congr 1
          omega
        · rw [if_neg hc, if_neg hc, e2]
          congr 1
          grind
theorem div_eq (hi lo d : Int) (hh0 : 0 ≤ hi) (hh : hi < d) (hd : d < 18446744073709551616) (hlo0 : 0 ≤ lo) (hlo : lo < 18446744073709551616) :
    Ret (fun k => wide_Pair_Div.f k hi lo d) ((hi * 18446744073709551616 + lo) / d, (hi * 18446744073709551616 + lo) % d, 0) := by
  have h := div_l0 hi lo d hd hlo0 hlo 64 (hi * 18446744073709551616 + lo) hi 0 hi (Nat.le_refl _) (by omega) hh0 hh (by omega) (by omega) (by omega)
  refine Ret.congr h fun k => ?_
  show wide_Pair_Div.f k hi lo d = _
  unfold wide_Pair_Div.f
  rw [if_neg (by omega)]
  simp
end Go.Proofs.Ytlljpjbhndcaiaa.M
end
section
set_option linter.unusedVariables false
set_option linter.unusedSimpArgs false
namespace Go.Proofs.Ytlljpjbhndcaiaa.M
open Go.RowKit Go.Proofs.Ytlljpjbhndcaiaa.Q Go.Proofs.YtlljpjbhndcaiaaW.PrintWords Go.Proofs.YtlljpjbhndcaiaaW.PrintLast Go.Proofs.YtlljpjbhndcaiaaW.PrintMore
theorem sqrt_l0 (n : Int) (hn0 : 0 ≤ n) (hn : n < 9223372036854775808) : ∀ (m : Nat) (lo hi : Int), (hi - lo).toNat ≤ m → 0 ≤ lo → lo < hi → hi ≤ 3037000500 → lo * lo ≤ n → n < hi * hi →
    ∃ s, 0 ≤ s ∧ s * s ≤ n ∧ n < (s + 1) * (s + 1) ∧ Ret (fun k => root_Sqrt.l0 k n lo hi) s := by
  intro m
  induction m with
  | zero => intro lo hi h1 h2 h3; omega
  | succ m ih =>
    intro lo hi h1 h2 h3 h4 h5 h6
    by_cases hz : n > 0 ∧ lo < hi - 1
    · obtain ⟨mid, hm⟩ : ∃ mid, Int.tdiv (lo + hi) 2 = mid := ⟨_, rfl⟩
      have hmid : mid = (lo + hi) / 2 := by rw [← hm, Int.tdiv_eq_ediv_of_nonneg (by omega)]
      have hsq : 0 ≤ mid * mid ∧ mid * mid ≤ 3037000499 * 3037000499 := mul_bound (by omega) (by omega) (by omega) (by omega)
      have step : ∀ k, root_Sqrt.l0 (k + 1 + 1) n lo hi = if mid * mid ≤ n then root_Sqrt.l0 k n mid hi else root_Sqrt.l0 k n lo mid := by
        intro k
        rw [root_Sqrt.l0, if_pos hz.1, w64 (n := hi - 1) (by omega) (by omega), root_Sqrt.j1, decide_eq_true hz.2, if_pos rfl, w64 (n := lo + hi) (by omega) (by omega), hm, w64 (n := mid) (by omega) (by omega), w64 (n := mid * mid) (by omega) (by omega)]
      by_cases hc : mid * mid ≤ n
      · obtain ⟨s, s0, s1, s2, hr⟩ := ih mid hi (by omega) (by omega) (by omega) h4 hc h6
        refine ⟨s, s0, s1, s2, Ret.succ (Ret.succ (Ret.congr hr fun k => ?_))⟩
        rw [step, if_pos hc]
      · obtain ⟨s, s0, s1, s2, hr⟩ := ih lo mid (by omega) (by omega) (by omega) (by omega) h5 (by omega)
        refine ⟨s, s0, s1, s2, Ret.succ (Ret.succ (Ret.congr hr fun k => ?_))⟩
        rw [step, if_neg hc]
    · have fin : ∀ k, root_Sqrt.l0 (k + 1 + 1) n lo hi = some lo := by
        intro k
        rw [root_Sqrt.l0]
        by_cases hn1 : n > 0
        · rw [if_pos hn1, w64 (by omega) (by omega), decide_eq_false (by omega), root_Sqrt.j1, if_neg (by simp)]
        · rw [if_neg hn1, root_Sqrt.j1, if_neg (by simp)]
      refine ⟨lo, h2, h5, ?_, Ret.succ (Ret.succ (Ret.congr (Ret.const rfl) fin))⟩
      · by_cases hn1 : n > 0
        · have : hi = lo + 1 := by omega
          rw [← this]; exact h6
        · have : n = 0 := by omega
          have := Int.mul_pos (a := lo + 1) (b := lo + 1) (by omega) (by omega)
          omega
theorem sqrt_eq (n : Int) (hn0 : 0 ≤ n) (hn : n < 9223372036854775808) : ∃ s, 0 ≤ s ∧ s * s ≤ n ∧ n < (s + 1) * (s + 1) ∧ Ret (fun k => root_Sqrt.f k n) s := by
  obtain ⟨s, h0, h1, h2, hr⟩ := sqrt_l0 n hn0 hn _ 0 3037000500 (Nat.le_refl _) (by omega) (by omega) (by omega) (by omega) (by omega)
  exact ⟨s, h0, h1, h2, hr⟩
theorem of_l0 (num den : Int) (hn0 : 0 ≤ num) (hn : num < 9223372036854775808) (hd0 : 1 ≤ den) (hd : den < 9223372036854775808) : ∀ (m : Nat) (a b : Int), b.toNat ≤ m → 0 ≤ a → 0 ≤ b → a + b ≥ 1 → a < 9223372036854775808 → b < 9223372036854775808 →
    (∀ g, g ∣ a → g ∣ b → g ∣ num ∧ g ∣ den) →
    ∃ g n' d', 1 ≤ g ∧ num = n' * g ∧ den = d' * g ∧ Ret (fun k => root_Of.l0 k num den a b) (n', d', 0) := by
  intro m
  induction m with
  | zero =>
    intro a b hm ha hb hab ha1 hb1 hg
    obtain rfl : b = 0 := by omega
    obtain ⟨⟨n', hn'⟩, ⟨d', hd'⟩⟩ := hg a (Int.dvd_refl _) (Int.dvd_zero _)
    refine ⟨a, n', d', by omega, by rw [hn']; grind, by rw [hd']; grind, Ret.succ (Ret.const (?_ : root_Of.l0 (0 + 1) num den a 0 = _))⟩
    have e1 : Int.tdiv num a = n' := by rw [hn', Int.mul_tdiv_cancel_left _ (by omega)]
    have e2 : Int.tdiv den a = d' := by rw [hd', Int.mul_tdiv_cancel_left _ (by omega)]
    have b1 : 0 ≤ n' := by rw [← e1]; exact Int.tdiv_nonneg hn0 ha
    have b2 : 0 ≤ d' := by rw [← e2]; exact Int.tdiv_nonneg (by omega) ha
    have b3 : n' ≤ num := by rw [← e1, Int.tdiv_eq_ediv_of_nonneg hn0]; exact Int.ediv_le_self _ hn0
    have b4 : d' ≤ den := by rw [← e2, Int.tdiv_eq_ediv_of_nonneg (by omega)]; exact Int.ediv_le_self _ (by omega)
    rw [root_Of.l0, if_pos rfl, if_neg (by omega), e1, e2, w64 (by omega) (by omega), w64 (by omega) (by omega)]
  | succ m ih =>
    intro a b hm ha hb hab ha1 hb1 hg
    by_cases hz : b = 0
    · exact (by
        subst hz
        obtain ⟨⟨n', hn'⟩, ⟨d', hd'⟩⟩ := hg a (Int.dvd_refl _) (Int.dvd_zero _)
        refine ⟨a, n', d', by omega, by rw [hn']; grind, by rw [hd']; grind, Ret.succ (Ret.const (?_ : root_Of.l0 (0 + 1) num den a 0 = _))⟩
        have e1 : Int.tdiv num a = n' := by rw [hn', Int.mul_tdiv_cancel_left _ (by omega)]
        have e2 : Int.tdiv den a = d' := by rw [hd', Int.mul_tdiv_cancel_left _ (by omega)]
        have b1 : 0 ≤ n' := by rw [← e1]; exact Int.tdiv_nonneg hn0 ha
        have b2 : 0 ≤ d' := by rw [← e2]; exact Int.tdiv_nonneg (by omega) ha
        have b3 : n' ≤ num := by rw [← e1, Int.tdiv_eq_ediv_of_nonneg hn0]; exact Int.ediv_le_self _ hn0
        have b4 : d' ≤ den := by rw [← e2, Int.tdiv_eq_ediv_of_nonneg (by omega)]; exact Int.ediv_le_self _ (by omega)
        rw [root_Of.l0, if_pos rfl, if_neg (by omega), e1, e2, w64 (by omega) (by omega), w64 (by omega) (by omega)])
    · have e : Int.tmod a b = a % b := Int.tmod_eq_emod_of_nonneg ha
      have r0 := Int.emod_nonneg a hz
      have r1 := Int.emod_lt_of_pos a (show 0 < b by omega)
      obtain ⟨g, n', d', h1, h2, h3, hr⟩ := ih b (a % b) (by omega) hb r0 (by omega) hb1 (by omega) (fun g h1 h2 => hg g (by
        have := Int.mul_ediv_add_emod a b
        rw [← this]
        exact Int.dvd_add (Int.dvd_trans h1 (Int.dvd_mul_right _ _)) h2) h1)
      refine ⟨g, n', d', h1, h2, h3, Ret.succ (Ret.congr hr fun k => ?_)⟩
      rw [root_Of.l0, if_neg hz, e]
theorem of_eq (num den : Int) (hn0 : 0 ≤ num) (hn : num < 9223372036854775808) (hd0 : 1 ≤ den) (hd : den < 9223372036854775808) :
    ∃ g n' d', 1 ≤ g ∧ num = n' * g ∧ den = d' * g ∧ Ret (fun k => root_Of.f k num den) (n', d', 0) := by
  obtain ⟨g, n', d', h1, h2, h3, hr⟩ := of_l0 num den hn0 hn hd0 hd _ num den (Nat.le_refl _) hn0 (by omega) (by omega) hn hd (fun _ a b => ⟨a, b⟩)
  refine ⟨g, n', d', h1, h2, h3, Ret.succ (Ret.congr hr fun k => ?_)⟩
  unfold root_Of.f
  rw [if_neg (by omega), decide_eq_false (by omega), root_Of.j0, if_neg (by simp)]
def Root8 (num den v : Int) : Prop := 0 ≤ v ∧ v * v * den ≤ 64 * num ∧ 64 * num < (v + 1) * (v + 1) * den
theorem Root8.unique {num den v u : Int} (hd : 1 ≤ den) (h : Root8 num den v) (h' : Root8 num den u) : v = u := by
  obtain ⟨a0, a1, a2⟩ := h
  obtain ⟨b0, b1, b2⟩ := h'
  have key : ∀ a b : Int, 0 ≤ a → 0 ≤ b → a < b → (a + 1) * (a + 1) * den ≤ b * b * den := fun a b h0 h1 h => Int.mul_le_mul (Int.mul_le_mul (by omega) (by omega) (by omega) (by omega)) (Int.le_refl _) (by omega) (Int.mul_nonneg h1 h1)
  rcases Int.lt_trichotomy v u with h | h | h
  · have := key v u a0 b0 h; omega
  · exact h
  · have := key u v b0 a0 h; omega
theorem Root8.of_equal {n d n' d' v : Int} (hd : 1 ≤ d) (hd' : 1 ≤ d') (e : n * d' = n' * d) (h : Root8 n d v) : Root8 n' d' v := by
  obtain ⟨h0, h1, h2⟩ := h
  refine ⟨h0, ?_, ?_⟩
  · have a := Int.mul_le_mul_of_nonneg_right h1 (show 0 ≤ d' by omega)
    have e1 : 64 * n * d' = 64 * n' * d := by grind
    rw [e1] at a
    have b : v * v * d' * d ≤ 64 * n' * d := by
      have : v * v * d' * d = v * v * d * d' := by grind
      omega
    exact Int.le_of_mul_le_mul_right b (by omega)
  · have a := Int.mul_lt_mul_of_pos_right h2 (show 0 < d' by omega)
    have e1 : 64 * n * d' = 64 * n' * d := by grind
    rw [e1] at a
    have b : 64 * n' * d < (v + 1) * (v + 1) * d' * d := by
      have : (v + 1) * (v + 1) * d' * d = (v + 1) * (v + 1) * d * d' := by grind
      omega
    exact Int.lt_of_mul_lt_mul_right b (by omega)
theorem scaled_eq (num den : Int) (hn0 : 0 ≤ num) (hn : num < 9223372036854775808) (hd0 : 1 ≤ den) (hd : den < 9223372036854775808) (hq : num * 64 ≤ 4611686018427387904 * den) :
    ∃ v, Root8 num den v ∧ Ret (fun k => root_Scaled.f k num den 8) v := by
  have hq0 : 0 ≤ num * 64 / den := Int.ediv_nonneg (by omega) (by omega)
  have hq1 : num * 64 / den ≤ 4611686018427387904 := Int.ediv_le_of_le_mul (by omega) hq
  obtain ⟨s, s0, s1, s2, hs⟩ := sqrt_eq (num * 64 / den) hq0 (by omega)
  have e1 := Int.mul_ediv_add_emod (num * 64) den
  have e2 := Int.emod_nonneg (num * 64) (show den ≠ 0 by omega)
  have e3 := Int.emod_lt_of_pos (num * 64) (show 0 < den by omega)
  refine ⟨s, ⟨s0, ?_, ?_⟩, Ret.succ (Ret.congr (g := fun k => ((wide_Mul.f num 64).bind fun bt122 => ((wide_Pair_Div.f k bt122.1 bt122.2 den).bind fun bt124 => (if bt124.2.2 = 0 then (if bt124.1 > 4611686018427387904 then (some (-1)) else ((root_Sqrt.f k (wrap64 (bt124.1))).bind fun t127 => (some t127))) else (some (-1)))))) ?_ fun k => ?_)⟩
  · have := Int.mul_le_mul_of_nonneg_right s1 (show 0 ≤ den by omega)
    have e4 : num * 64 / den * den = den * (num * 64 / den) := Int.mul_comm _ _
    omega
  · have := Int.mul_le_mul_of_nonneg_right (show num * 64 / den + 1 ≤ (s + 1) * (s + 1) by omega) (show 0 ≤ den by omega)
    have e4 : (num * 64 / den + 1) * den = den * (num * 64 / den) + den := by grind
    omega
  · rw [mul_eq num 64 hn0 (by omega) (by omega) (by omega)]
    have eV : (num * 64) / 18446744073709551616 * 18446744073709551616 + (num * 64) % 18446744073709551616 = num * 64 := by omega
    have hD := div_eq ((num * 64) / 18446744073709551616) ((num * 64) % 18446744073709551616) den (by omega) (by omega) (by omega) (by omega) (by omega)
    rw [eV] at hD
    refine Ret.bind (Ret.const rfl) (Ret.bind hD ?_)
    simp only [if_true, if_neg (show ¬ (num * 64 / den > 4611686018427387904) by omega), w64 (n := num * 64 / den) (by omega) (by omega)]
    exact Ret.bind hs (Ret.const rfl)
  · unfold root_Scaled.f
    rw [if_neg (by omega), if_neg (by omega), if_neg (by omega), decide_eq_false (by omega), root_Scaled.j0, if_neg (by simp)]
    simp only [wu64]
    rw [Int.emod_eq_of_lt hn0 (by omega), Int.emod_eq_of_lt (a := den) (by omega) (by omega), show wrap64 (8 * 8) % 18446744073709551616 = 64 by unfold wrap64; omega]
end Go.Proofs.Ytlljpjbhndcaiaa.M
end
section
set_option linter.unusedVariables false
set_option linter.unusedSimpArgs false
namespace Go.Proofs.Ytlljpjbhndcaiaa.Geo
theorem sq_nonneg (a : Int) : 0 ≤ a * a := by
  rcases Int.le_total 0 a with h | h
  · exact Int.mul_nonneg h h
  · exact Int.mul_nonneg_of_nonpos_of_nonpos h h
theorem le_of_sq {a b : Int} (h : 0 ≤ b) (hb : a * a ≤ b * b) : a ≤ b := by
  by_cases h1 : a ≤ b
  · exact h1
  · have h2 : b < a := by omega
    have h3 : b * b ≤ a * b := Int.mul_le_mul_of_nonneg_right (by omega) h
    have h4 : a * b < a * a := Int.mul_lt_mul_of_pos_left h2 (by omega)
    omega
theorem lt_of_sq {a b : Int} (h : 0 ≤ b) (hb : a * a < b * b) : a < b := by
  by_cases h1 : a < b
  · exact h1
  · have h3 : b * b ≤ a * b := Int.mul_le_mul_of_nonneg_right (by omega) h
    have h4 : a * b ≤ a * a := Int.mul_le_mul_of_nonneg_left (by omega) (by omega)
    omega
theorem sq_le {a b : Int} (h0 : 0 ≤ a) (h : a ≤ b) : a * a ≤ b * b := by
  have h3 : a * a ≤ a * b := Int.mul_le_mul_of_nonneg_left (by omega) h0
  have h4 : a * b ≤ b * b := Int.mul_le_mul_of_nonneg_right h (by omega)
  omega
theorem lagrange (a b c d : Int) : (a*a+b*b)*(c*c+d*d) = (a*c+b*d)*(a*c+b*d) + (a*d-b*c)*(a*d-b*c) := by grind
theorem cs_lt {x1 x2 y1 y2 s t : Int} (hs : 0 ≤ s) (ht : 0 ≤ t) (h1 : x1*x1+x2*x2 < s*s) (h2 : y1*y1+y2*y2 < t*t) : x1*y1+x2*y2 < s*t := by
  have hl := lagrange x1 x2 y1 y2
  have a0 := sq_nonneg (x1*y2-x2*y1)
  have b0 := sq_nonneg x1; have b1 := sq_nonneg x2; have b2 := sq_nonneg y1; have b3 := sq_nonneg y2
  have h3 : (x1*x1+x2*x2)*(y1*y1+y2*y2) ≤ (x1*x1+x2*x2)*(t*t) := Int.mul_le_mul_of_nonneg_left (by omega) (by omega)
  have h4 : (x1*x1+x2*x2)*(t*t) < (s*s)*(t*t) := Int.mul_lt_mul_of_pos_right h1 (by omega)
  have h5 : (s*s)*(t*t) = (s*t)*(s*t) := by grind
  exact lt_of_sq (Int.mul_nonneg hs ht) (by omega)
theorem tri_lt {x1 x2 y1 y2 s t : Int} (hs : 0 ≤ s) (ht : 0 ≤ t) (h1 : x1*x1+x2*x2 < s*s) (h2 : y1*y1+y2*y2 < t*t) :
    (x1+y1)*(x1+y1)+(x2+y2)*(x2+y2) < (s+t)*(s+t) := by
  have h := cs_lt hs ht h1 h2
  have e1 : (x1+y1)*(x1+y1)+(x2+y2)*(x2+y2) = (x1*x1+x2*x2) + (y1*y1+y2*y2) + 2*(x1*y1+x2*y2) := by grind
  have e2 : (s+t)*(s+t) = s*s + t*t + 2*(s*t) := by grind
  omega
structure Pt where
  x : Int
  y : Int
structure Ed where
  a : Pt
  b : Pt
def Ed.wx (e : Ed) : Int := e.b.x - e.a.x
def Ed.wy (e : Ed) : Int := e.b.y - e.a.y
def Ed.long (e : Ed) : Int := e.wx * e.wx + e.wy * e.wy
def Ed.along (e : Ed) (p : Pt) : Int := e.wx * (p.x - e.a.x) + e.wy * (p.y - e.a.y)
def Ed.cr (e : Ed) (p : Pt) : Int := e.wx * (p.y - e.a.y) - e.wy * (p.x - e.a.x)
def dist2 (p q : Pt) : Int := (p.x - q.x) * (p.x - q.x) + (p.y - q.y) * (p.y - q.y)
def Ed.num (e : Ed) (p : Pt) : Int := if e.along p ≤ 0 then dist2 p e.a else if e.long ≤ e.along p then dist2 p e.b else e.cr p * e.cr p
def Ed.den (e : Ed) (p : Pt) : Int := if e.along p ≤ 0 then 1 else if e.long ≤ e.along p then 1 else e.long
theorem Ed.den_pos (e : Ed) (p : Pt) : 1 ≤ e.den p := by
  unfold Ed.den
  split
  · omega
  · split <;> omega
theorem dist2_nonneg (p q : Pt) : 0 ≤ dist2 p q := by
  have := sq_nonneg (p.x - q.x); have := sq_nonneg (p.y - q.y); unfold dist2; omega
theorem Ed.num_nonneg (e : Ed) (p : Pt) : 0 ≤ e.num p := by
  unfold Ed.num
  split
  · exact dist2_nonneg _ _
  · split
    · exact dist2_nonneg _ _
    · exact sq_nonneg _
theorem Ed.long_nonneg (e : Ed) : 0 ≤ e.long := by
  have := sq_nonneg e.wx; have := sq_nonneg e.wy; unfold Ed.long; omega
def Ed.at2 (e : Ed) (p : Pt) (k n : Int) : Int :=
  (n * (p.x - e.a.x) - k * e.wx) * (n * (p.x - e.a.x) - k * e.wx) + (n * (p.y - e.a.y) - k * e.wy) * (n * (p.y - e.a.y) - k * e.wy)
theorem Ed.at2_eq (e : Ed) (p : Pt) (k n : Int) : e.at2 p k n = n * n * dist2 p e.a - 2 * (n * k) * e.along p + k * k * e.long := by
  unfold Ed.at2 dist2 Ed.along Ed.long; grind
theorem Ed.dist_b (e : Ed) (p : Pt) : dist2 p e.b = dist2 p e.a - 2 * e.along p + e.long := by
  unfold dist2 Ed.along Ed.long Ed.wx Ed.wy; grind
theorem Ed.cross_eq (e : Ed) (p : Pt) : e.long * dist2 p e.a = e.along p * e.along p + e.cr p * e.cr p := by
  unfold dist2 Ed.along Ed.long Ed.cr; grind
theorem Ed.least (e : Ed) (p : Pt) (k n : Int) (h0 : 0 ≤ k) (h1 : k ≤ n) : e.num p * (n * n) ≤ e.den p * e.at2 p k n := by
  have hL := e.long_nonneg
  rw [e.at2_eq]
  unfold Ed.num Ed.den
  split
  · rename_i h
    have a1 : 0 ≤ n * k := Int.mul_nonneg (by omega) h0
    have a2 : 0 ≤ (n * k) * (- e.along p) := Int.mul_nonneg a1 (by omega)
    have a3 : 0 ≤ k * k * e.long := Int.mul_nonneg (Int.mul_nonneg h0 h0) hL
    grind
  · split
    · rename_i h h2
      rw [e.dist_b]
      have a1 : 0 ≤ (n - k) * n := Int.mul_nonneg (by omega) (by omega)
      have a2 : 0 ≤ ((n - k) * n) * (e.along p - e.long) := Int.mul_nonneg a1 (by omega)
      have a3 : 0 ≤ (n - k) * (n - k) * e.long := Int.mul_nonneg (sq_nonneg _) hL
      grind
    · rename_i h h2
      have hc := e.cross_eq p
      have a1 := sq_nonneg (n * e.along p - k * e.long)
      have e1 : e.long * (n * n * dist2 p e.a - 2 * (n * k) * e.along p + k * k * e.long) = n * n * (e.long * dist2 p e.a) - 2 * (n * k) * e.along p * e.long + k * k * (e.long * e.long) := by grind
      rw [e1, hc]
      grind
theorem Ed.there (e : Ed) (p : Pt) : ∃ k n : Int, 0 ≤ k ∧ k ≤ n ∧ 1 ≤ n ∧ e.num p * (n * n) = e.den p * e.at2 p k n := by
  by_cases h : e.along p ≤ 0
  · refine ⟨0, 1, by omega, by omega, by omega, ?_⟩
    rw [e.at2_eq]; unfold Ed.num Ed.den; rw [if_pos h, if_pos h]; grind
  · by_cases h2 : e.long ≤ e.along p
    · refine ⟨1, 1, by omega, by omega, by omega, ?_⟩
      rw [e.at2_eq]; unfold Ed.num Ed.den; rw [if_neg h, if_neg h, if_pos h2, if_pos h2, e.dist_b]; grind
    · refine ⟨e.along p, e.long, by omega, by omega, by omega, ?_⟩
      rw [e.at2_eq]; unfold Ed.num Ed.den; rw [if_neg h, if_neg h, if_neg h2, if_neg h2]
      have hc := e.cross_eq p
      grind
def Ed.lt8 (e : Ed) (p : Pt) (v : Int) : Prop := 64 * e.num p < v * v * e.den p
theorem Ed.step (e : Ed) (p q : Pt) (s t : Int) (hs : 0 ≤ s) (ht : 0 ≤ t) (h : e.lt8 p s) (hw : 64 * dist2 p q < t * t) : e.lt8 q (s + t) := by
  obtain ⟨k, n, h0, h1, h2, he⟩ := e.there p
  have hl := e.least q k n h0 h1
  have hd := e.den_pos p
  have hd' := e.den_pos q
  unfold Ed.lt8 at *
  have hnn : 0 < n * n := Int.mul_pos (by omega) (by omega)
  have b1 : 64 * e.at2 p k n < (s * n) * (s * n) := by
    have c1 : (64 * e.num p) * (n * n) < (s * s * e.den p) * (n * n) := Int.mul_lt_mul_of_pos_right h hnn
    have c2 : (64 * e.num p) * (n * n) = 64 * (e.den p * e.at2 p k n) := by rw [← he]; grind
    have c3 : e.den p * (64 * e.at2 p k n) < e.den p * ((s * n) * (s * n)) := by grind
    exact Int.lt_of_mul_lt_mul_left c3 (by omega)
  have b2 : 64 * e.at2 q k n < ((s + t) * n) * ((s + t) * n) := by
    have t1 := tri_lt (x1 := 8 * (n * (p.x - e.a.x) - k * e.wx)) (x2 := 8 * (n * (p.y - e.a.y) - k * e.wy)) (y1 := 8 * (n * (q.x - p.x))) (y2 := 8 * (n * (q.y - p.y))) (s := s * n) (t := t * n) (Int.mul_nonneg hs (by omega)) (Int.mul_nonneg ht (by omega))
      (by unfold Ed.at2 at b1; grind) (by
        have d1 : (64 * dist2 p q) * (n * n) < (t * t) * (n * n) := Int.mul_lt_mul_of_pos_right hw hnn
        unfold dist2 at d1; grind)
    unfold Ed.at2
    grind
  have b3 : (64 * e.num q) * (n * n) < ((s + t) * (s + t) * e.den q) * (n * n) := by
    have c1 : e.den q * (64 * e.at2 q k n) < e.den q * (((s + t) * n) * ((s + t) * n)) := Int.mul_lt_mul_of_pos_left b2 (by omega)
    have c2 : 64 * (e.num q * (n * n)) ≤ 64 * (e.den q * e.at2 q k n) := by omega
    grind
  exact Int.lt_of_mul_lt_mul_right b3 (by omega)
end Go.Proofs.Ytlljpjbhndcaiaa.Geo
end
section
set_option linter.unusedVariables false
set_option linter.unusedSimpArgs false
namespace Go.Proofs.Ytlljpjbhndcaiaa.M
open Go.RowKit Go.Proofs.Ytlljpjbhndcaiaa.Q Go.Proofs.YtlljpjbhndcaiaaW.PrintWords Go.Proofs.YtlljpjbhndcaiaaW.PrintLast Go.Proofs.YtlljpjbhndcaiaaW.PrintMore Go.Proofs.Ytlljpjbhndcaiaa.Geo
def ed (e : S40) : Ed := ⟨⟨e.f0.f0, e.f0.f1⟩, ⟨e.f1.f0, e.f1.f1⟩⟩
def Small (x : Int) : Prop := -8200 ≤ x ∧ x ≤ 8200
def Mid (x : Int) : Prop := -33000 ≤ x ∧ x ≤ 33000
def EdIn (e : S40) : Prop := Small e.f0.f0 ∧ Small e.f0.f1 ∧ Small e.f1.f0 ∧ Small e.f1.f1
def PtIn (p : Pt) : Prop := Mid p.x ∧ Mid p.y
theorem mulb {a b A B : Int} (h1 : -A ≤ a) (h2 : a ≤ A) (h3 : -B ≤ b) (h4 : b ≤ B) : -(A * B) ≤ a * b ∧ a * b ≤ A * B := by
  have hA : 0 ≤ A := by omega
  have hB : 0 ≤ B := by omega
  rcases Int.le_total 0 a with ha | ha
  · rcases Int.le_total 0 b with hb | hb
    · have := mul_bound ha h2 hb h4
      omega
    · have := mul_bound (a := a) (b := -b) (n := A) (m := B) ha h2 (by omega) (by omega)
      rw [Int.mul_neg] at this
      omega
  · rcases Int.le_total 0 b with hb | hb
    · have := mul_bound (a := -a) (b := b) (n := A) (m := B) (by omega) (by omega) hb h4
      rw [Int.neg_mul] at this
      omega
    · have := mul_bound (a := -a) (b := -b) (n := A) (m := B) (by omega) (by omega) (by omega) (by omega)
      rw [Int.neg_mul_neg] at this
      omega
theorem sqb {a A : Int} (h1 : -A ≤ a) (h2 : a ≤ A) : 0 ≤ a * a ∧ a * a ≤ A * A := ⟨sq_nonneg a, (mulb h1 h2 h1 h2).2⟩
theorem le_cancel {n d g Q : Int} (hg : 1 ≤ g) (h : n * g * 64 ≤ Q * (d * g)) : n * 64 ≤ Q * d := by
  have : n * 64 * g ≤ Q * d * g := by
    have e1 : n * 64 * g = n * g * 64 := by grind
    have e2 : Q * d * g = Q * (d * g) := by grind
    omega
  exact Int.le_of_mul_le_mul_right this (by omega)
structure IsSq (e : S40) (p : Pt) (n d : Int) : Prop where
  g : ∃ g, 1 ≤ g ∧ (ed e).num p = n * g ∧ (ed e).den p = d * g
  n0 : 0 ≤ n
  n1 : n < 4000000000000000000
  d1 : 1 ≤ d
  d2 : d < 4000000000
  q : n * 64 ≤ 4611686018427387904 * d
theorem IsSq.of {e : S40} {p : Pt} {n d g : Int} (hg : 1 ≤ g) (h1 : (ed e).num p = n * g) (h2 : (ed e).den p = d * g) (b1 : (ed e).num p < 4000000000000000000) (b2 : (ed e).den p < 4000000000) (b3 : (ed e).num p * 64 ≤ 4611686018427387904 * (ed e).den p) : IsSq e p n d := by
  have a1 := Ed.num_nonneg (ed e) p
  have a2 := Ed.den_pos (ed e) p
  rw [h1] at a1 b1 b3
  rw [h2] at a2 b2 b3
  have n0 : 0 ≤ n := by
    by_cases h : 0 ≤ n
    · exact h
    · have := Int.mul_le_mul_of_nonneg_right (show n ≤ -1 by omega) (show 0 ≤ g by omega)
      omega
  have d1 : 1 ≤ d := by
    by_cases h : 1 ≤ d
    · exact h
    · have := Int.mul_le_mul_of_nonneg_right (show d ≤ 0 by omega) (show 0 ≤ g by omega)
      omega
  have n2 := Int.mul_le_mul_of_nonneg_left hg n0
  have d3 := Int.mul_le_mul_of_nonneg_left hg (show 0 ≤ d by omega)
  exact ⟨⟨g, hg, h1, h2⟩, n0, by omega, d1, by omega, le_cancel hg b3⟩
theorem square_eq (e : S40) (p : Pt) (he : EdIn e) (hp : PtIn p) :
    ∃ n d, IsSq e p n d ∧ Ret (fun k => plane_Square.f k e.f0.f0 e.f0.f1 e.f1.f0 e.f1.f1 p.x p.y) (n, d) := by
  obtain ⟨⟨a1, a2⟩, ⟨a3, a4⟩, ⟨a5, a6⟩, ⟨a7, a8⟩⟩ := he
  obtain ⟨⟨p1, p2⟩, ⟨p3, p4⟩⟩ := hp
  obtain ⟨⟨x1, y1⟩, ⟨x2, y2⟩⟩ := e
  obtain ⟨px, py⟩ := p
  simp only at a1 a2 a3 a4 a5 a6 a7 a8 p1 p2 p3 p4
  have ew : (ed ⟨⟨x1, y1⟩, ⟨x2, y2⟩⟩).wx = x2 - x1 := rfl
  have ev : (ed ⟨⟨x1, y1⟩, ⟨x2, y2⟩⟩).wy = y2 - y1 := rfl
  have m1 := mulb (a := x2 - x1) (b := px - x1) (A := 16400) (B := 41200) (by omega) (by omega) (by omega) (by omega)
  have m2 := mulb (a := y2 - y1) (b := py - y1) (A := 16400) (B := 41200) (by omega) (by omega) (by omega) (by omega)
  have m3 := mulb (a := x2 - x1) (b := py - y1) (A := 16400) (B := 41200) (by omega) (by omega) (by omega) (by omega)
  have m4 := mulb (a := y2 - y1) (b := px - x1) (A := 16400) (B := 41200) (by omega) (by omega) (by omega) (by omega)
  have s1 := sqb (a := x2 - x1) (A := 16400) (by omega) (by omega)
  have s2 := sqb (a := y2 - y1) (A := 16400) (by omega) (by omega)
  have s3 := sqb (a := px - x1) (A := 41200) (by omega) (by omega)
  have s4 := sqb (a := py - y1) (A := 41200) (by omega) (by omega)
  have s5 := sqb (a := px - x2) (A := 41200) (by omega) (by omega)
  have s6 := sqb (a := py - y2) (A := 41200) (by omega) (by omega)
  have sc := sqb (a := (x2 - x1) * (py - y1) - (y2 - y1) * (px - x1)) (A := 1351360000) (by omega) (by omega)
  have eal : (ed ⟨⟨x1, y1⟩, ⟨x2, y2⟩⟩).along ⟨px, py⟩ = (x2 - x1) * (px - x1) + (y2 - y1) * (py - y1) := rfl
  have elo : (ed ⟨⟨x1, y1⟩, ⟨x2, y2⟩⟩).long = (x2 - x1) * (x2 - x1) + (y2 - y1) * (y2 - y1) := rfl
  have ecr : (ed ⟨⟨x1, y1⟩, ⟨x2, y2⟩⟩).cr ⟨px, py⟩ = (x2 - x1) * (py - y1) - (y2 - y1) * (px - x1) := rfl
  have da : dist2 ⟨px, py⟩ (ed ⟨⟨x1, y1⟩, ⟨x2, y2⟩⟩).a = (px - x1) * (px - x1) + (py - y1) * (py - y1) := rfl
  have db : dist2 ⟨px, py⟩ (ed ⟨⟨x1, y1⟩, ⟨x2, y2⟩⟩).b = (px - x2) * (px - x2) + (py - y2) * (py - y2) := rfl
  have hc := Ed.cross_eq (ed ⟨⟨x1, y1⟩, ⟨x2, y2⟩⟩) ⟨px, py⟩
  rw [eal, elo, ecr, da] at hc
  have fn : (ed ⟨⟨x1, y1⟩, ⟨x2, y2⟩⟩).num ⟨px, py⟩ = if (x2 - x1) * (px - x1) + (y2 - y1) * (py - y1) ≤ 0 then (px - x1) * (px - x1) + (py - y1) * (py - y1) else if (x2 - x1) * (x2 - x1) + (y2 - y1) * (y2 - y1) ≤ (x2 - x1) * (px - x1) + (y2 - y1) * (py - y1) then (px - x2) * (px - x2) + (py - y2) * (py - y2) else ((x2 - x1) * (py - y1) - (y2 - y1) * (px - x1)) * ((x2 - x1) * (py - y1) - (y2 - y1) * (px - x1)) := rfl
  have fd : (ed ⟨⟨x1, y1⟩, ⟨x2, y2⟩⟩).den ⟨px, py⟩ = if (x2 - x1) * (px - x1) + (y2 - y1) * (py - y1) ≤ 0 then 1 else if (x2 - x1) * (x2 - x1) + (y2 - y1) * (y2 - y1) ≤ (x2 - x1) * (px - x1) + (y2 - y1) * (py - y1) then 1 else (x2 - x1) * (x2 - x1) + (y2 - y1) * (y2 - y1) := rfl
  simp only [plane_Square.f]
  rw [w64 (n := x2 - x1) (by omega) (by omega), w64 (n := y2 - y1) (by omega) (by omega), w64 (n := px - x1) (by omega) (by omega), w64 (n := py - y1) (by omega) (by omega), w64 (n := px - x2) (by omega) (by omega), w64 (n := py - y2) (by omega) (by omega),
    w64 (n := (x2 - x1) * (px - x1)) (by omega) (by omega), w64 (n := (y2 - y1) * (py - y1)) (by omega) (by omega), w64 (n := (x2 - x1) * (py - y1)) (by omega) (by omega), w64 (n := (y2 - y1) * (px - x1)) (by omega) (by omega),
    w64 (n := (x2 - x1) * (x2 - x1)) (by omega) (by omega), w64 (n := (y2 - y1) * (y2 - y1)) (by omega) (by omega), w64 (n := (px - x1) * (px - x1)) (by omega) (by omega), w64 (n := (py - y1) * (py - y1)) (by omega) (by omega), w64 (n := (px - x2) * (px - x2)) (by omega) (by omega), w64 (n := (py - y2) * (py - y2)) (by omega) (by omega)]
  rw [w64 (n := (x2 - x1) * (px - x1) + (y2 - y1) * (py - y1)) (by omega) (by omega), w64 (n := (x2 - x1) * (x2 - x1) + (y2 - y1) * (y2 - y1)) (by omega) (by omega), w64 (n := (px - x1) * (px - x1) + (py - y1) * (py - y1)) (by omega) (by omega), w64 (n := (px - x2) * (px - x2) + (py - y2) * (py - y2)) (by omega) (by omega),
    w64 (n := (x2 - x1) * (py - y1) - (y2 - y1) * (px - x1)) (by omega) (by omega), w64 (n := ((x2 - x1) * (py - y1) - (y2 - y1) * (px - x1)) * ((x2 - x1) * (py - y1) - (y2 - y1) * (px - x1))) (by omega) (by omega)]
  clear ew ev eal elo ecr da db
  have hal : 0 ≤ ((x2 - x1) * (px - x1) + (y2 - y1) * (py - y1)) * ((x2 - x1) * (px - x1) + (y2 - y1) * (py - y1)) := sq_nonneg _
  by_cases h1 : (x2 - x1) * (px - x1) + (y2 - y1) * (py - y1) ≤ 0
  · simp only [if_pos h1] at fn fd ⊢
    exact ⟨_, _, IsSq.of (g := 1) (by omega) (by rw [fn, Int.mul_one]) (by rw [fd]; rfl) (by rw [fn]; omega) (by rw [fd]; omega) (by rw [fn, fd]; omega), Ret.const rfl⟩
  · simp only [if_neg h1] at fn fd ⊢
    by_cases h2 : (x2 - x1) * (x2 - x1) + (y2 - y1) * (y2 - y1) ≤ (x2 - x1) * (px - x1) + (y2 - y1) * (py - y1)
    · simp only [if_pos h2] at fn fd ⊢
      exact ⟨_, _, IsSq.of (g := 1) (by omega) (by rw [fn, Int.mul_one]) (by rw [fd]; rfl) (by rw [fn]; omega) (by rw [fd]; omega) (by rw [fn, fd]; omega), Ret.const rfl⟩
    · simp only [if_neg h2] at fn fd ⊢
      have hlo : 0 ≤ (x2 - x1) * (x2 - x1) + (y2 - y1) * (y2 - y1) ∧ (x2 - x1) * (x2 - x1) + (y2 - y1) * (y2 - y1) ≤ 537920000 := by omega
      generalize (x2 - x1) * (x2 - x1) + (y2 - y1) * (y2 - y1) = lo at *
      generalize (x2 - x1) * (py - y1) - (y2 - y1) * (px - x1) = c at *
      obtain ⟨g, n', d', g1, g2, g3, hr⟩ := of_eq (c * c) lo (by omega) (by omega) (by omega) (by omega)
      refine ⟨n', d', IsSq.of (g := g) g1 (by rw [fn, g2]) (by rw [fd, g3]) (by rw [fn]; omega) (by rw [fd]; omega) ?_, Ret.bind hr (Ret.const rfl)⟩
      rw [fn, fd]
      have k1 : lo * ((px - x1) * (px - x1) + (py - y1) * (py - y1)) ≤ lo * 3394880000 := Int.mul_le_mul_of_nonneg_left (by omega) (by omega)
      omega
end Go.Proofs.Ytlljpjbhndcaiaa.M
end
section
set_option linter.unusedVariables false
set_option linter.unusedSimpArgs false
namespace Go.Proofs.Ytlljpjbhndcaiaa.M
open Go.RowKit Go.Proofs.Ytlljpjbhndcaiaa.Q Go.Proofs.YtlljpjbhndcaiaaW.PrintWords Go.Proofs.YtlljpjbhndcaiaaW.PrintLast Go.Proofs.YtlljpjbhndcaiaaW.PrintMore Go.Proofs.Ytlljpjbhndcaiaa.Geo
theorem frac_trans {a b c d e f : Int} (hb : 1 ≤ b) (hd : 1 ≤ d) (hf : 1 ≤ f) (h1 : a * d ≤ c * b) (h2 : c * f ≤ e * d) : a * f ≤ e * b := by
  have k1 := Int.mul_le_mul_of_nonneg_right h1 (show 0 ≤ f by omega)
  have k2 := Int.mul_le_mul_of_nonneg_right h2 (show 0 ≤ b by omega)
  have : a * f * d ≤ e * b * d := by
    have e1 : a * f * d = a * d * f := by grind
    have e2 : e * b * d = e * d * b := by grind
    have e3 : c * b * f = c * f * b := by grind
    omega
  exact Int.le_of_mul_le_mul_right this (by omega)
def NoFar (p : Pt) (e e' : S40) : Prop := (ed e).num p * (ed e').den p ≤ (ed e').num p * (ed e).den p
theorem NoFar.trans {p : Pt} {a b c : S40} (h1 : NoFar p a b) (h2 : NoFar p b c) : NoFar p a c := frac_trans (Ed.den_pos _ _) (Ed.den_pos _ _) (Ed.den_pos _ _) h1 h2
theorem NoFar.refl (p : Pt) (a : S40) : NoFar p a a := Int.le_refl _
theorem IsSq.lt_iff {e e' : S40} {p : Pt} {n d n' d' : Int} (h : IsSq e p n d) (h' : IsSq e' p n' d') : n * d' < n' * d ↔ (ed e).num p * (ed e').den p < (ed e').num p * (ed e).den p := by
  obtain ⟨g, g1, g2, g3⟩ := h.g
  obtain ⟨f, f1, f2, f3⟩ := h'.g
  rw [g2, g3, f2, f3]
  have hp : 0 < g * f := Int.mul_pos (by omega) (by omega)
  have e1 : n * g * (d' * f) = n * d' * (g * f) := by grind
  have e2 : n' * f * (d * g) = n' * d * (g * f) := by grind
  rw [e1, e2]
  exact ⟨fun h => Int.mul_lt_mul_of_pos_right h hp, fun h => Int.lt_of_mul_lt_mul_right h (by omega)⟩
theorem compare_eq {e e' : S40} {p : Pt} {n d n' d' : Int} (h : IsSq e p n d) (h' : IsSq e' p n' d') : Ret (fun k => root_Compare.f k n d n' d') (cmp (n * d') (n' * d)) :=
  less_eq n d n' d' h.n0 (by have := h.n1; omega) (by have := h.d1; omega) (by have := h.d2; omega) h'.n0 (by have := h'.n1; omega) (by have := h'.d1; omega) (by have := h'.d2; omega)
theorem cmp_neg (x y : Int) : cmp x y < 0 ↔ x < y := by
  unfold cmp
  split
  · omega
  · split <;> omega
def AllIn (es : List S40) : Prop := ∀ e ∈ es, EdIn e
theorem rd_mem (es : List S40) (i : Int) (h0 : 0 ≤ i) (h1 : i < (es.length : Int)) : rd_T40 es i ∈ es := by
  unfold rd_T40
  rw [List.getD_eq_getElem?_getD, List.getElem?_eq_getElem (by omega)]
  exact List.getElem_mem _
theorem mem_rd {es : List S40} {e : S40} (h : e ∈ es) : ∃ i : Int, 0 ≤ i ∧ i < (es.length : Int) ∧ e = rd_T40 es i := by
  obtain ⟨n, hn, rfl⟩ := List.getElem_of_mem h
  refine ⟨n, by omega, by omega, ?_⟩
  unfold rd_T40
  rw [List.getD_eq_getElem?_getD, Int.toNat_natCast, List.getElem?_eq_getElem hn]
  rfl
theorem near_l0 (es : List S40) (p : Pt) (hes : AllIn es) (hp : PtIn p) (hl : es.length < 9000000000000000000) : ∀ (m : Nat) (b i n d : Int), es.length - i.toNat ≤ m → 0 ≤ b → b < i → i ≤ es.length → IsSq (rd_T40 es b) p n d → (∀ j, 0 ≤ j → j < i → NoFar p (rd_T40 es b) (rd_T40 es j)) →
    ∃ b' n' d' : Int, 0 ≤ b' ∧ b' < (es.length : Int) ∧ IsSq (rd_T40 es b') p n' d' ∧ (∀ j : Int, 0 ≤ j → j < (es.length : Int) → NoFar p (rd_T40 es b') (rd_T40 es j)) ∧ Ret (fun k => dist_Near.l0 k b es es.length i p.x p.y n d) (n', d', b') := by
  intro m
  induction m with
  | zero =>
    intro b i n d hm hb hbi hi hsq hall
    refine ⟨b, n, d, hb, by omega, hsq, fun j h0 h1 => hall j h0 (by omega), Ret.succ (Ret.congr (Ret.const rfl) fun k => ?_)⟩
    show dist_Near.l0 (k + 1) b es es.length i p.x p.y n d = _
    rw [dist_Near.l0, if_neg (by omega)]
  | succ m ih =>
    intro b i n d hm hb hbi hi hsq hall
    by_cases hz : i < es.length
    · obtain ⟨n2, d2, hsq2, hr2⟩ := square_eq (rd_T40 es i) p (hes _ (rd_mem es i (by omega) hz)) hp
      have hcmp := compare_eq hsq2 hsq
      by_cases hc : n2 * d < n * d2
      · have hlt := (IsSq.lt_iff hsq2 hsq).1 hc
        have hno : NoFar p (rd_T40 es i) (rd_T40 es b) := Int.le_of_lt hlt
        obtain ⟨b', n', d', h1, h2, h3, h4, hr⟩ := ih i (i + 1) n2 d2 (by omega) (by omega) (by omega) (by omega) hsq2 (fun j h0 h1 => by
          by_cases hj : j = i
          · subst hj; exact NoFar.refl _ _
          · exact hno.trans (hall j h0 (by omega)))
        refine ⟨b', n', d', h1, h2, h3, h4, Ret.succ ?_⟩
        refine Ret.congr (Ret.bind hr2 (Ret.bind hcmp (h := fun k t136 => if t136 < 0 then dist_Near.l0 k i es es.length (wrap64 (i + 1)) p.x p.y n2 d2 else dist_Near.l0 k b es es.length (wrap64 (i + 1)) p.x p.y n d) ?_) (h := fun k bt133 => (root_Compare.f k bt133.1 bt133.2 n d).bind fun t136 => if t136 < 0 then dist_Near.l0 k i es es.length (wrap64 (i + 1)) p.x p.y bt133.1 bt133.2 else dist_Near.l0 k b es es.length (wrap64 (i + 1)) p.x p.y n d)) fun k => ?_
        · simp only [if_pos ((cmp_neg _ _).2 hc)]
          rw [w64 (by omega) (by omega)]
          exact hr
        · show dist_Near.l0 (k + 1) b es es.length i p.x p.y n d = _
          rw [dist_Near.l0, if_pos (by omega), if_pos (by omega), if_pos (by omega)]
          simp only [if_neg (show ¬ b < 0 by omega)]
      · have hlt := fun h => hc ((IsSq.lt_iff hsq2 hsq).2 h)
        have hno : NoFar p (rd_T40 es b) (rd_T40 es i) := Int.not_lt.1 hlt
        obtain ⟨b', n', d', h1, h2, h3, h4, hr⟩ := ih b (i + 1) n d (by omega) (by omega) (by omega) (by omega) hsq (fun j h0 h1 => by
          by_cases hj : j = i
          · subst hj; exact hno
          · exact hall j h0 (by omega))
        refine ⟨b', n', d', h1, h2, h3, h4, Ret.succ ?_⟩
        refine Ret.congr (Ret.bind hr2 (Ret.bind hcmp (h := fun k t136 => if t136 < 0 then dist_Near.l0 k i es es.length (wrap64 (i + 1)) p.x p.y n2 d2 else dist_Near.l0 k b es es.length (wrap64 (i + 1)) p.x p.y n d) ?_) (h := fun k bt133 => (root_Compare.f k bt133.1 bt133.2 n d).bind fun t136 => if t136 < 0 then dist_Near.l0 k i es es.length (wrap64 (i + 1)) p.x p.y bt133.1 bt133.2 else dist_Near.l0 k b es es.length (wrap64 (i + 1)) p.x p.y n d)) fun k => ?_
        · simp only [if_neg (fun h => hc ((cmp_neg _ _).1 h))]
          rw [w64 (by omega) (by omega)]
          exact hr
        · show dist_Near.l0 (k + 1) b es es.length i p.x p.y n d = _
          rw [dist_Near.l0, if_pos (by omega), if_pos (by omega), if_pos (by omega)]
          simp only [if_neg (show ¬ b < 0 by omega)]
    · refine ⟨b, n, d, hb, by omega, hsq, fun j h0 h1 => hall j h0 (by omega), Ret.succ (Ret.congr (Ret.const rfl) fun k => ?_)⟩
      show dist_Near.l0 (k + 1) b es es.length i p.x p.y n d = _
      rw [dist_Near.l0, if_neg hz]
theorem near_nil (p : Pt) : Ret (fun k => dist_Near.f k [] p.x p.y) (0, 0, -1) := by
  refine Ret.succ (Ret.congr (Ret.const rfl) fun k => ?_)
  show dist_Near.l0 (k + 1) (-1) [] (([] : List S40).length : Int) 0 p.x p.y 0 0 = _
  rw [dist_Near.l0]
  simp
theorem near_eq (es : List S40) (p : Pt) (hes : AllIn es) (hp : PtIn p) (hl : es.length < 9000000000000000000) (hne : es ≠ []) :
    ∃ b n d, 0 ≤ b ∧ b < (es.length : Int) ∧ IsSq (rd_T40 es b) p n d ∧ (∀ j, 0 ≤ j → j < (es.length : Int) → NoFar p (rd_T40 es b) (rd_T40 es j)) ∧ Ret (fun k => dist_Near.f k es p.x p.y) (n, d, b) := by
  have hpos : 0 < es.length := List.length_pos_iff.2 hne
  obtain ⟨n2, d2, hsq2, hr2⟩ := square_eq (rd_T40 es 0) p (hes _ (rd_mem es 0 (by omega) (by omega))) hp
  obtain ⟨b', n', d', h1, h2, h3, h4, hr⟩ := near_l0 es p hes hp hl _ 0 1 n2 d2 (Nat.le_refl _) (by omega) (by omega) (by omega) hsq2 (fun j h0 h1 => by
    obtain rfl : j = 0 := by omega
    exact NoFar.refl _ _)
  refine ⟨b', n', d', h1, h2, h3, h4, Ret.succ ?_⟩
  refine Ret.congr (Ret.bind hr2 (h := fun k bt133 => dist_Near.l0 k 0 es es.length 1 p.x p.y bt133.1 bt133.2) hr) fun k => ?_
  show dist_Near.l0 (k + 1) (-1) es (es.length : Int) 0 p.x p.y 0 0 = _
  rw [dist_Near.l0, if_pos (by omega), if_pos (by omega), if_pos (by omega)]
  simp only [if_pos (show (-1 : Int) < 0 by omega), w64 (n := 0 + 1) (by omega) (by omega)]
  rfl
def Is8 (es : List S40) (p : Pt) (v : Int) : Prop := 0 ≤ v ∧ (∃ e ∈ es, 64 * (ed e).num p < (v + 1) * (v + 1) * (ed e).den p) ∧ ∀ e ∈ es, v * v * (ed e).den p ≤ 64 * (ed e).num p
theorem Is8.unique {es : List S40} {p : Pt} {v u : Int} (h : Is8 es p v) (h' : Is8 es p u) : v = u := by
  have key : ∀ a b : Int, Is8 es p a → Is8 es p b → ¬ a < b := by
    intro a b ha hb hlt
    obtain ⟨a0, ⟨e, he, a1⟩, _⟩ := ha
    have b1 := hb.2.2 e he
    have := Int.mul_le_mul_of_nonneg_right (Int.mul_le_mul (show a + 1 ≤ b by omega) (show a + 1 ≤ b by omega) (by omega) hb.1) (show 0 ≤ (ed e).den p by have := Ed.den_pos (ed e) p; omega)
    omega
  have := key v u h h'
  have := key u v h' h
  omega
theorem eight_eq (es : List S40) (p : Pt) (hes : AllIn es) (hp : PtIn p) (hl : es.length < 9000000000000000000) (hne : es ≠ []) : ∃ v, Is8 es p v ∧ Ret (fun k => dist_Eight.f k es p.x p.y) v := by
  obtain ⟨b, n, d, h1, h2, h3, h4, hr⟩ := near_eq es p hes hp hl hne
  obtain ⟨v, hv, hs⟩ := scaled_eq n d h3.n0 (by have := h3.n1; omega) h3.d1 (by have := h3.d2; omega) h3.q
  obtain ⟨g, g1, g2, g3⟩ := h3.g
  have hv2 : Root8 ((ed (rd_T40 es b)).num p) ((ed (rd_T40 es b)).den p) v := Root8.of_equal h3.d1 (Ed.den_pos _ _) (by rw [g2, g3]; grind) hv
  refine ⟨v, ⟨hv.1, ⟨_, rd_mem es b h1 h2, hv2.2.2⟩, fun e he => ?_⟩, ?_⟩
  · obtain ⟨j, j0, j1, rfl⟩ := mem_rd he
    have h5 := h4 j j0 j1
    have a := hv2.2.1
    have d0 := Ed.den_pos (ed (rd_T40 es b)) p
    have d1 := Ed.den_pos (ed (rd_T40 es j)) p
    have := frac_trans (a := v * v) (b := 1) (c := 64 * (ed (rd_T40 es b)).num p) (d := (ed (rd_T40 es b)).den p) (e := 64 * (ed (rd_T40 es j)).num p) (f := (ed (rd_T40 es j)).den p) (by omega) d0 d1 (by omega) (by unfold NoFar at h5; grind)
    omega
  · refine Ret.congr (Ret.bind hr (h := fun k bt138 => if bt138.2.2 < 0 then some (-1) else (root_Scaled.f k bt138.1 bt138.2.1 8).bind fun t142 => some t142) ?_) fun k => rfl
    simp only [if_neg (show ¬ b < 0 by omega)]
    exact Ret.bind hs (Ret.const rfl)
theorem eight_nil (p : Pt) : Ret (fun k => dist_Eight.f k [] p.x p.y) (-1) := by
  obtain ⟨K, hK⟩ := near_nil p
  refine ⟨K, fun k hk => ?_⟩
  have h := hK k hk
  simp only at h
  show (dist_Near.f k [] p.x p.y).bind _ = _
  rw [h]
  simp
end Go.Proofs.Ytlljpjbhndcaiaa.M
end
section
set_option linter.unusedVariables false
set_option linter.unusedSimpArgs false
namespace Go.Proofs.Ytlljpjbhndcaiaa.M
open Go.RowKit Go.Proofs.Ytlljpjbhndcaiaa.Q Go.Proofs.YtlljpjbhndcaiaaW.PrintWords Go.Proofs.YtlljpjbhndcaiaaW.PrintLast Go.Proofs.YtlljpjbhndcaiaaW.PrintMore Go.Proofs.Ytlljpjbhndcaiaa.Geo
def onAny (es : List S40) (p : Pt) : Bool := es.any fun e => decide ((ed e).num p = 0)
def side (e : S40) (p : Pt) : Int := if (ed e).cr p > 0 then 1 else if (ed e).cr p < 0 then -1 else 0
def wn (p : Pt) (e : S40) : Int :=
  if e.f0.f1 ≤ p.y ∧ e.f1.f1 > p.y ∧ side e p > 0 then 1 else if e.f1.f1 ≤ p.y ∧ e.f0.f1 > p.y ∧ side e p < 0 then -1 else 0
def winding (es : List S40) (p : Pt) : Int := (es.map (wn p)).sum
def sign (es : List S40) (p : Pt) : Int := if onAny es p = true then 0 else if winding es p = 0 then -1 else 1
end Go.Proofs.Ytlljpjbhndcaiaa.M
end
section
set_option linter.unusedVariables false
set_option linter.unusedSimpArgs false
namespace Go.Proofs.Ytlljpjbhndcaiaa.M
open Go.RowKit Go.Proofs.Ytlljpjbhndcaiaa.Q Go.Proofs.YtlljpjbhndcaiaaW.PrintWords Go.Proofs.YtlljpjbhndcaiaaW.PrintLast Go.Proofs.YtlljpjbhndcaiaaW.PrintMore Go.Proofs.Ytlljpjbhndcaiaa.Geo
theorem getD_take_succ {α : Type} (l : List α) (d : α) (i : Int) (h0 : 0 ≤ i) (h1 : i < (l.length : Int)) : l.take (i + 1).toNat = l.take i.toNat ++ [l.getD i.toNat d] := by
  have e : (i + 1).toNat = i.toNat + 1 := by omega
  have hl : i.toNat < l.length := by omega
  rw [e, List.take_add_one, List.getElem?_eq_getElem hl, List.getD_eq_getElem?_getD, List.getElem?_eq_getElem hl]
  rfl
def vert (d : S133) : S135 := ⟨Int.tmod (wrap64 d.f0) 256, Int.tmod (wrap64 d.f1) 256, d.f2⟩
theorem tmod_bound (x : Int) : -255 ≤ Int.tmod x 256 ∧ Int.tmod x 256 ≤ 255 := by
  rw [Int.tmod_eq_emod]
  split <;> omega
def VertIn (v : S135) : Prop := (-255 ≤ v.f0 ∧ v.f0 ≤ 255) ∧ (-255 ≤ v.f1 ∧ v.f1 ≤ 255)
theorem vert_in (d : S133) : VertIn (vert d) := ⟨tmod_bound _, tmod_bound _⟩
def ContIn (c : List S135) : Prop := 0 < c.length ∧ c.length ≤ 12 ∧ ∀ v ∈ c, VertIn v
theorem outline_l1 (x4 : Int) (x14 : List (List S133)) (x15 x16 : Int) (x25 : List S133) (acc : List (List S135)) (hl : x25.length ≤ 12) (r : List (List S135))
    (hr : Ret (fun k => if ((x25.map vert).length : Int) > 0 then (if acc.length < 5864062014805 then (punchcutlaw04_Outline.l0 k (wrap64 (x4 - ((x25.map vert).length : Int))) x14 x15 (wrap64 (x16 + 1)) (acc ++ [x25.map vert])) else (none)) else (punchcutlaw04_Outline.l0 k (wrap64 (x4 - ((x25.map vert).length : Int))) x14 x15 (wrap64 (x16 + 1)) acc)) r) :
    ∀ (m : Nat) (i : Int), x25.length - i.toNat ≤ m → 0 ≤ i → i ≤ x25.length → Ret (fun k => punchcutlaw04_Outline.l1 k x4 ((x25.take i.toNat).map vert) x14 x15 x16 x25 x25.length i acc) r := by
  intro m
  induction m with
  | zero =>
    intro i hm h0 h1
    refine Ret.succ (Ret.congr hr fun k => ?_)
    show punchcutlaw04_Outline.l1 (k + 1) x4 _ x14 x15 x16 x25 x25.length i acc = _
    rw [punchcutlaw04_Outline.l1, if_neg (by omega), List.take_of_length_le (by omega)]
  | succ m ih =>
    intro i hm h0 h1
    by_cases hz : i < x25.length
    · have hI := ih (i + 1) (by omega) (by omega) (by omega)
      rw [getD_take_succ x25 z133 i h0 hz, List.map_append] at hI
      refine Ret.succ (Ret.congr hI fun k => ?_)
      show punchcutlaw04_Outline.l1 (k + 1) x4 _ x14 x15 x16 x25 x25.length i acc = _
      rw [punchcutlaw04_Outline.l1, if_pos hz, if_pos h0, if_pos hz, if_pos (by rw [List.length_map, List.length_take]; omega), w64 (n := i + 1) (by omega) (by omega)]
      rfl
    · refine Ret.succ (Ret.congr hr fun k => ?_)
      show punchcutlaw04_Outline.l1 (k + 1) x4 _ x14 x15 x16 x25 x25.length i acc = _
      rw [punchcutlaw04_Outline.l1, if_neg hz, List.take_of_length_le (by omega)]
theorem mn_le (a b : Int) : mn a b ≤ a ∧ mn a b ≤ b := by unfold mn; split <;> omega
theorem mn_ge {a b c : Int} (h1 : c ≤ a) (h2 : c ≤ b) : c ≤ mn a b := by unfold mn; split <;> omega
theorem outline_l0 (x14 : List (List S133)) (hl : x14.length ≤ 8) : ∀ (m : Nat) (i x4 : Int) (acc : List (List S135)), x14.length - i.toNat ≤ m → 0 ≤ i → i ≤ x14.length → 0 ≤ x4 → x4 ≤ 64 → acc.length ≤ i.toNat → (∀ c ∈ acc, ContIn c) →
    ∃ r, r.length ≤ 8 ∧ (∀ c ∈ r, ContIn c) ∧ Ret (fun k => punchcutlaw04_Outline.l0 k x4 x14 x14.length i acc) r := by
  intro m
  induction m with
  | zero =>
    intro i x4 acc hm h0 h1 h2 h3 h4 h5
    refine ⟨acc, by omega, h5, Ret.succ (Ret.congr (Ret.const rfl) fun k => ?_)⟩
    show punchcutlaw04_Outline.l0 (k + 1) x4 x14 x14.length i acc = _
    rw [punchcutlaw04_Outline.l0, if_neg (by omega)]
  | succ m ih =>
    intro i x4 acc hm h0 h1 h2 h3 h4 h5
    by_cases hz : i < x14.length
    · obtain ⟨row, hrow⟩ : ∃ row, rd_L12 x14 i = row := ⟨_, rfl⟩
      obtain ⟨t, ht⟩ : ∃ t, mn (mn (row.length : Int) 12) x4 = t := ⟨_, rfl⟩
      have t0 : 0 ≤ t := by rw [← ht]; exact mn_ge (mn_ge (by omega) (by omega)) h2
      have t1 : t ≤ row.length ∧ t ≤ 12 ∧ t ≤ x4 := by
        have a := mn_le (mn (row.length : Int) 12) x4
        have b := mn_le (row.length : Int) 12
        omega
      have hlen : (row.take t.toNat).length = t.toNat := by rw [List.length_take]; omega
      have hvl : ((row.take t.toNat).map vert).length = t.toNat := by rw [List.length_map, hlen]
      have wi : wrap64 (i + 1) = i + 1 := w64 (by omega) (by omega)
      have wx : wrap64 (x4 - (t.toNat : Int)) = x4 - t := by rw [w64 (by omega) (by omega)]; omega
      have hc : ∃ r, r.length ≤ 8 ∧ (∀ c ∈ r, ContIn c) ∧ Ret (fun k => if (((row.take t.toNat).map vert).length : Int) > 0 then (if acc.length < 5864062014805 then (punchcutlaw04_Outline.l0 k (wrap64 (x4 - (((row.take t.toNat).map vert).length : Int))) x14 x14.length (wrap64 (i + 1)) (acc ++ [(row.take t.toNat).map vert])) else (none)) else (punchcutlaw04_Outline.l0 k (wrap64 (x4 - (((row.take t.toNat).map vert).length : Int))) x14 x14.length (wrap64 (i + 1)) acc)) r := by
        rw [hvl, wi, wx]
        by_cases hp : (t.toNat : Int) > 0
        · simp only [if_pos hp, if_pos (show acc.length < 5864062014805 by omega)]
          refine ih (i + 1) (x4 - t) _ (by omega) (by omega) (by omega) (by omega) (by omega) (by rw [List.length_append]; simp; omega) ?_
          intro c hc
          rcases List.mem_append.1 hc with hc | hc
          · exact h5 c hc
          · rw [List.mem_singleton.1 hc]
            refine ⟨by omega, by omega, fun v hv => ?_⟩
            obtain ⟨d, _, rfl⟩ := List.mem_map.1 hv
            exact vert_in d
        · simp only [if_neg hp]
          exact ih (i + 1) (x4 - t) acc (by omega) (by omega) (by omega) (by omega) (by omega) (by omega) h5
      obtain ⟨r, r1, r2, hr⟩ := hc
      have h1 := outline_l1 x4 x14 x14.length i (row.take t.toNat) acc (by omega) r hr _ 0 (Nat.le_refl _) (by omega) (by omega)
      refine ⟨r, r1, r2, Ret.succ (Ret.congr h1 fun k => ?_)⟩
      show punchcutlaw04_Outline.l0 (k + 1) x4 x14 x14.length i acc = _
      rw [punchcutlaw04_Outline.l0, if_pos hz, if_pos h0, if_pos hz, hrow, ht, if_pos t0, if_pos t1.1]
      rfl
    · refine ⟨acc, by omega, h5, Ret.succ (Ret.congr (Ret.const rfl) fun k => ?_)⟩
      show punchcutlaw04_Outline.l0 (k + 1) x4 x14 x14.length i acc = _
      rw [punchcutlaw04_Outline.l0, if_neg hz]
theorem outline_eq (l : List (List S133)) : ∃ r, r.length ≤ 8 ∧ (∀ c ∈ r, ContIn c) ∧ Ret (fun k => punchcutlaw04_Outline.f k l) r := by
  obtain ⟨t, ht⟩ : ∃ t, mn (l.length : Int) 8 = t := ⟨_, rfl⟩
  have t0 : 0 ≤ t := by rw [← ht]; exact mn_ge (by omega) (by omega)
  have t1 := mn_le (l.length : Int) 8
  rw [ht] at t1
  have hlen : (l.take t.toNat).length = t.toNat := by rw [List.length_take]; omega
  obtain ⟨r, r1, r2, hr⟩ := outline_l0 (l.take t.toNat) (by omega) _ 0 64 [] (Nat.le_refl _) (by omega) (by omega) (by omega) (by omega) (by simp) (by simp)
  refine ⟨r, r1, r2, Ret.congr hr fun k => ?_⟩
  unfold punchcutlaw04_Outline.f
  rw [ht, if_pos t0, if_pos t1.1]
  rfl
end Go.Proofs.Ytlljpjbhndcaiaa.M
end
section
set_option linter.unusedVariables false
set_option linter.unusedSimpArgs false
namespace Go.Proofs.Ytlljpjbhndcaiaa.M
open Go.RowKit Go.Proofs.Ytlljpjbhndcaiaa.Q Go.Proofs.YtlljpjbhndcaiaaW.PrintWords Go.Proofs.YtlljpjbhndcaiaaW.PrintLast Go.Proofs.YtlljpjbhndcaiaaW.PrintMore Go.Proofs.Ytlljpjbhndcaiaa.Geo
def P510 (p : S32) : Prop := (-510 ≤ p.f0 ∧ p.f0 ≤ 510) ∧ (-510 ≤ p.f1 ∧ p.f1 ≤ 510)
def SegIn (s : S143) : Prop := P510 s.f0 ∧ P510 s.f1 ∧ P510 s.f2
theorem pt_in (v : S135) (h : VertIn v) : P510 (path_pt v) := by
  obtain ⟨⟨h1, h2⟩, ⟨h3, h4⟩⟩ := h
  unfold path_pt P510
  simp only
  rw [w64 (by omega) (by omega), w64 (by omega) (by omega)]
  omega
theorem hf_in (a b : S135) (ha : VertIn a) (hb : VertIn b) : P510 (path_hf a b) := by
  obtain ⟨⟨h1, h2⟩, ⟨h3, h4⟩⟩ := ha
  obtain ⟨⟨h5, h6⟩, ⟨h7, h8⟩⟩ := hb
  unfold path_hf P510
  simp only
  rw [w64 (by omega) (by omega), w64 (by omega) (by omega)]
  omega
theorem seg_in (here p : S32) (pull : Option S135) (h1 : P510 here) (h2 : P510 p) (h3 : ∀ v, pull = some v → VertIn v) : SegIn (path_seg here pull p) := by
  cases pull with
  | none => exact ⟨h1, h1, h2⟩
  | some v => exact ⟨h1, pt_in v (h3 v rfl), h2⟩
theorem rd135_in (l : List S135) (h : ∀ v ∈ l, VertIn v) (i : Int) : VertIn (rd_T135 l i) := by
  unfold rd_T135
  rw [List.getD_eq_getElem?_getD]
  by_cases hi : i.toNat < l.length
  · rw [List.getElem?_eq_getElem hi]
    exact h _ (List.getElem_mem _)
  · rw [List.getElem?_eq_none (by omega)]
    unfold VertIn z135
    simp
theorem begin_in (l : List S135) (h : ∀ v ∈ l, VertIn v) : P510 (path_begin l) := by
  unfold path_begin
  split
  · exact pt_in _ (rd135_in l h _)
  · exact hf_in _ _ (rd135_in l h _) (rd135_in l h _)
def tele (φ : S32 → Int) (es : List S40) : Int := (es.map fun e => φ e.f1 - φ e.f0).sum
theorem tele_append (φ : S32 → Int) (a b : List S40) : tele φ (a ++ b) = tele φ a + tele φ b := by simp [tele]
theorem S32.eq {a b : S32} (h : a.f0 = b.f0 ∧ a.f1 = b.f1) : a = b := by
  cases a; cases b; simp_all
theorem tele_edge (φ : S32 → Int) (a b : S32) : tele φ (flat_edge a b) = φ b - φ a := by
  unfold flat_edge
  split
  · rename_i h; rw [S32.eq h]; simp [tele]
  · simp [tele]
theorem tele_chords (φ : S32 → Int) (s : S143) : ∀ k, tele φ (flat_chords s k) = φ (flat_pt s k) - φ (flat_pt s 0) := by
  intro k
  induction k with
  | zero => simp [flat_chords, tele]
  | succ k ih => rw [flat_chords, tele_append, ih, tele_edge]; omega
theorem on_c {a b c x y z : Int} (ha : 0 ≤ a ∧ a ≤ 16) (hb : 0 ≤ b ∧ b ≤ 16) (hc : 0 ≤ c ∧ c ≤ 16) (hx : -510 ≤ x ∧ x ≤ 510) (hy : -510 ≤ y ∧ y ≤ 510) (hz : -510 ≤ z ∧ z ≤ 510) : flat_On.c a b c x y z = a * x + b * y + c * z := by
  have h1 := mulb (a := a) (b := x) (A := 16) (B := 510) (by omega) (by omega) (by omega) (by omega)
  have h2 := mulb (a := b) (b := y) (A := 16) (B := 510) (by omega) (by omega) (by omega) (by omega)
  have h3 := mulb (a := c) (b := z) (A := 16) (B := 510) (by omega) (by omega) (by omega) (by omega)
  unfold flat_On.c
  rw [w64 (n := a * x) (by omega) (by omega), w64 (n := b * y) (by omega) (by omega), w64 (n := c * z) (by omega) (by omega), w64 (n := a * x + b * y) (by omega) (by omega), w64 (n := a * x + b * y + c * z) (by omega) (by omega),
    w64 (n := (a * x + b * y + c * z) * 16) (by omega) (by omega), Int.mul_tdiv_cancel _ (by omega), w64 (by omega) (by omega)]
theorem cv_eq (s : S143) (hs : SegIn s) (k : Int) (h0 : 0 ≤ k) (h4 : k ≤ 4) :
    flat_cv s k = ⟨(4 - k) * (4 - k) * s.f0.f0 + 2 * k * (4 - k) * s.f1.f0 + k * k * s.f2.f0, (4 - k) * (4 - k) * s.f0.f1 + 2 * k * (4 - k) * s.f1.f1 + k * k * s.f2.f1⟩ := by
  obtain ⟨⟨a, b⟩, ⟨c, d⟩, ⟨e, f⟩⟩ := hs
  have m1 : 0 ≤ (4 - k) * (4 - k) ∧ (4 - k) * (4 - k) ≤ 4 * 4 := mul_bound (by omega) (by omega) (by omega) (by omega)
  have m2 : 0 ≤ k * (4 - k) ∧ k * (4 - k) ≤ 4 := by
    obtain rfl | rfl | rfl | rfl | rfl : k = 0 ∨ k = 1 ∨ k = 2 ∨ k = 3 ∨ k = 4 := by omega
    all_goals omega
  have m3 : 0 ≤ k * k ∧ k * k ≤ 4 * 4 := mul_bound (by omega) (by omega) (by omega) (by omega)
  have e2 : 2 * k * (4 - k) = 2 * (k * (4 - k)) := by grind
  unfold flat_cv
  rw [w64 (n := 4 - k) (by omega) (by omega), w64 (n := 2 * k) (by omega) (by omega), w64 (n := (4 - k) * (4 - k)) (by omega) (by omega), w64 (n := 2 * k * (4 - k)) (by omega) (by omega), w64 (n := k * k) (by omega) (by omega)]
  rw [on_c (by omega) (by omega) (by omega) a c e, on_c (by omega) (by omega) (by omega) b d f]
def P8160 (p : S32) : Prop := Small p.f0 ∧ Small p.f1
theorem sm_eq (p : S32) (h : P510 p) : flat_sm p = ⟨16 * p.f0, 16 * p.f1⟩ := by
  obtain ⟨⟨h1, h2⟩, ⟨h3, h4⟩⟩ := h
  unfold flat_sm
  rw [w64 (by omega) (by omega), w64 (by omega) (by omega)]
theorem sm_in (p : S32) (h : P510 p) : P8160 (flat_sm p) := by
  rw [sm_eq p h]
  obtain ⟨⟨h1, h2⟩, ⟨h3, h4⟩⟩ := h
  unfold P8160 Small
  simp only
  omega
theorem fpt_in (s : S143) (hs : SegIn s) : ∀ k : Nat, k ≤ 4 → P8160 (flat_pt s k) := by
  intro k hk
  cases k with
  | zero => exact sm_in _ hs.1
  | succ k =>
    show P8160 (flat_cv s ((k : Int) + 1))
    rw [cv_eq s hs _ (by omega) (by omega)]
    obtain ⟨⟨a, b⟩, ⟨c, d⟩, ⟨e, f⟩⟩ := hs
    unfold P8160 Small
    simp only
    obtain rfl | rfl | rfl | rfl : k = 0 ∨ k = 1 ∨ k = 2 ∨ k = 3 := by omega
    all_goals (simp; omega)
theorem fpt_four (s : S143) (hs : SegIn s) : flat_pt s 4 = flat_sm s.f2 := by
  show flat_cv s (((3 : Nat) : Int) + 1) = _
  rw [cv_eq s hs _ (by omega) (by omega), sm_eq _ hs.2.2]
  simp
theorem edge_in (a b : S32) (ha : P8160 a) (hb : P8160 b) : AllIn (flat_edge a b) := by
  unfold flat_edge
  split
  · intro e he; simp at he
  · intro e he
    rw [List.mem_singleton.1 he]
    exact ⟨ha.1, ha.2, hb.1, hb.2⟩
theorem edge_len (a b : S32) : (flat_edge a b).length ≤ 1 := by unfold flat_edge; split <;> simp
theorem chords_in (s : S143) (hs : SegIn s) : ∀ k : Nat, k ≤ 4 → AllIn (flat_chords s k) ∧ (flat_chords s k).length ≤ k := by
  intro k
  induction k with
  | zero => intro _; exact ⟨fun e he => by simp [flat_chords] at he, by simp [flat_chords]⟩
  | succ k ih =>
    intro hk
    obtain ⟨i1, i2⟩ := ih (by omega)
    rw [flat_chords]
    refine ⟨fun e he => ?_, ?_⟩
    · rcases List.mem_append.1 he with he | he
      · exact i1 e he
      · exact edge_in _ _ (fpt_in s hs k (by omega)) (fpt_in s hs (k + 1) (by omega)) e he
    · have := edge_len (flat_pt s k) (flat_pt s (k + 1))
      rw [List.length_append]; omega
theorem fseg_in (s : S143) (hs : SegIn s) : AllIn (flat_seg s) ∧ (flat_seg s).length ≤ 4 ∧ ∀ φ, tele φ (flat_seg s) = φ (flat_sm s.f2) - φ (flat_sm s.f0) := by
  unfold flat_seg
  split
  · obtain ⟨a, b⟩ := chords_in s hs 4 (by omega)
    refine ⟨a, b, fun φ => ?_⟩
    rw [tele_chords, fpt_four s hs]
    rfl
  · refine ⟨edge_in _ _ (sm_in _ hs.1) (sm_in _ hs.2.2), by have := edge_len (flat_sm s.f0) (flat_sm s.f2); omega, fun φ => tele_edge φ _ _⟩
structure RunIn (b : S32) (s : path_S) : Prop where
  here : P510 s.here
  pull : ∀ v, s.pull = some v → VertIn v
  out : ∀ x ∈ s.out, SegIn x
  tel : ∀ φ, tele φ (s.out.flatMap flat_seg) = φ (flat_sm s.here) - φ (flat_sm b)
theorem seg_ends (here p : S32) (pull : Option S135) : (path_seg here pull p).f0 = here ∧ (path_seg here pull p).f2 = p := by
  cases pull <;> exact ⟨rfl, rfl⟩
theorem run_put (b : S32) (s : path_S) (h : RunIn b s) (p : S32) (hp : P510 p) : (∀ x ∈ s.out ++ [path_seg s.here s.pull p], SegIn x) ∧ ∀ φ, tele φ ((s.out ++ [path_seg s.here s.pull p]).flatMap flat_seg) = φ (flat_sm p) - φ (flat_sm b) := by
  have hs := seg_in s.here p s.pull h.here hp h.pull
  refine ⟨fun x hx => ?_, fun φ => ?_⟩
  · rcases List.mem_append.1 hx with hx | hx
    · exact h.out x hx
    · rw [List.mem_singleton.1 hx]; exact hs
  · rw [List.flatMap_append, tele_append, h.tel]
    simp only [List.flatMap_cons, List.flatMap_nil, List.append_nil]
    rw [(fseg_in _ hs).2.2, (seg_ends _ _ _).1, (seg_ends _ _ _).2]
    omega
theorem step_in (b : S32) (s : path_S) (v : S135) (h : RunIn b s) (hv : VertIn v) : RunIn b (path_step s v) := by
  unfold path_step
  split
  · have := run_put b s h (path_pt v) (pt_in v hv)
    exact ⟨pt_in v hv, fun _ h => (by cases h), this.1, this.2⟩
  · split
    · rename_i q hq
      have hqv := h.pull q hq
      have := run_put b s h (path_hf q v) (hf_in q v hqv hv)
      exact ⟨hf_in q v hqv hv, fun _ h => (by cases h; exact hv), this.1, this.2⟩
    · exact ⟨h.here, fun _ h => (by cases h; exact hv), h.out, h.tel⟩
theorem runs_in (l : List S135) (h : ∀ v ∈ l, VertIn v) : ∀ k, RunIn (path_begin l) (path_run l k) := by
  intro k
  induction k with
  | zero => exact ⟨begin_in l h, fun _ h => (by cases h), fun _ h => (by simp [path_run] at h), fun φ => by simp [path_run, tele]⟩
  | succ k ih => exact step_in _ _ _ ih (rd135_in l h _)
theorem all_in (l : List S135) (h : ∀ v ∈ l, VertIn v) : (∀ x ∈ path_all l, SegIn x) ∧ ∀ φ, tele φ ((path_all l).flatMap flat_seg) = 0 := by
  have := run_put _ _ (runs_in l h (path_count l)) (path_begin l) (begin_in l h)
  refine ⟨this.1, fun φ => ?_⟩
  rw [path_all, this.2]
  omega
theorem all_len (l : List S135) (h : l.length ≤ 12) : (path_all l).length ≤ 13 := by
  have := path_run_len l (path_count l)
  have hc : path_count l ≤ l.length := by unfold path_count; split <;> omega
  rw [path_all, List.length_append, List.length_singleton]
  omega
end Go.Proofs.Ytlljpjbhndcaiaa.M
end
section
set_option linter.unusedVariables false
set_option linter.unusedSimpArgs false
namespace Go.Proofs.Ytlljpjbhndcaiaa.M
open Go.RowKit Go.Proofs.Ytlljpjbhndcaiaa.Q Go.Proofs.YtlljpjbhndcaiaaW.PrintWords Go.Proofs.YtlljpjbhndcaiaaW.PrintLast Go.Proofs.YtlljpjbhndcaiaaW.PrintMore Go.Proofs.Ytlljpjbhndcaiaa.Geo
def SegsIn (c : List S143) : Prop := (∀ x ∈ c, SegIn x) ∧ c.length ≤ 13 ∧ ∀ φ, tele φ (c.flatMap flat_seg) = 0
theorem segs_eq (c : List S135) (h : ContIn c) : ∃ s, SegsIn s ∧ path_Segs.f c = some s := by
  obtain ⟨h0, h1, h2⟩ := h
  refine ⟨path_all c, ⟨(all_in c h2).1, all_len c h1, (all_in c h2).2⟩, ?_⟩
  unfold path_Segs.f
  rw [if_pos (by omega), if_neg (by omega)]
theorem pathall_l0 (x7 : List (List S135)) (hl : x7.length ≤ 8) (hx : ∀ c ∈ x7, ContIn c) : ∀ (m : Nat) (i : Int) (acc : List (List S143)), x7.length - i.toNat ≤ m → 0 ≤ i → i ≤ x7.length → acc.length ≤ i.toNat → (∀ c ∈ acc, SegsIn c) →
    ∃ r, r.length ≤ 8 ∧ (∀ c ∈ r, SegsIn c) ∧ Ret (fun k => path_All.l0 k acc x7 x7.length i) r := by
  intro m
  induction m with
  | zero =>
    intro i acc hm h0 h1 h4 h5
    refine ⟨acc, by omega, h5, Ret.succ (Ret.congr (Ret.const rfl) fun k => ?_)⟩
    show path_All.l0 (k + 1) acc x7 x7.length i = _
    rw [path_All.l0, if_neg (by omega)]
  | succ m ih =>
    intro i acc hm h0 h1 h4 h5
    by_cases hz : i < x7.length
    · have hmem : rd_L9 x7 i ∈ x7 := by
        unfold rd_L9
        rw [List.getD_eq_getElem?_getD, List.getElem?_eq_getElem (by omega)]
        exact List.getElem_mem _
      obtain ⟨s, hs, he⟩ := segs_eq _ (hx _ hmem)
      obtain ⟨r, r1, r2, hr⟩ := ih (i + 1) (acc ++ [s]) (by omega) (by omega) (by omega) (by rw [List.length_append]; simp; omega) (fun c hc => by
        rcases List.mem_append.1 hc with hc | hc
        · exact h5 c hc
        · rw [List.mem_singleton.1 hc]; exact hs)
      refine ⟨r, r1, r2, Ret.succ (Ret.congr hr fun k => ?_)⟩
      show path_All.l0 (k + 1) acc x7 x7.length i = _
      rw [path_All.l0, if_pos hz, if_pos h0, if_pos hz, he, w64 (n := i + 1) (by omega) (by omega)]
      simp only [Option.bind_some]
      rw [if_pos (by omega)]
    · refine ⟨acc, by omega, h5, Ret.succ (Ret.congr (Ret.const rfl) fun k => ?_)⟩
      show path_All.l0 (k + 1) acc x7 x7.length i = _
      rw [path_All.l0, if_neg hz]
theorem pathall_eq (l : List (List S135)) (hl : l.length ≤ 8) (hx : ∀ c ∈ l, ContIn c) : ∃ r, r.length ≤ 8 ∧ (∀ c ∈ r, SegsIn c) ∧ Ret (fun k => path_All.f k l) r :=
  pathall_l0 l hl hx _ 0 [] (Nat.le_refl _) (by omega) (by omega) (by simp) (by simp)
structure Glyph (es : List S40) (n : Nat) : Prop where
  small : AllIn es
  few : es.length ≤ n
  closed : ∀ φ, tele φ es = 0
theorem edges_eq (c : List S143) (h : SegsIn c) : ∃ es, Glyph es 52 ∧ flat_Edges.f c = some es := by
  obtain ⟨h0, h1, h2⟩ := h
  refine ⟨c.flatMap flat_seg, ⟨?_, ?_, h2⟩, ?_⟩
  · intro e he
    obtain ⟨s, hs, he⟩ := List.mem_flatMap.1 he
    exact (fseg_in s (h0 s hs)).1 e he
  · have key : ∀ c : List S143, (∀ x ∈ c, SegIn x) → (c.flatMap flat_seg).length ≤ 4 * c.length := by
      intro c
      induction c with
      | nil => simp
      | cons x r ih =>
        intro h
        have a := ih (fun y hy => h y (by simp [hy]))
        have b := (fseg_in x (h x (by simp))).2.1
        rw [List.flatMap_cons, List.length_append, List.length_cons]
        omega
    have := key c h0
    omega
  · unfold flat_Edges.f
    rw [if_pos (by omega)]
theorem flatall_l0 (x6 : List (List S143)) (hl : x6.length ≤ 8) (hx : ∀ c ∈ x6, SegsIn c) : ∀ (m : Nat) (i : Int) (acc : List S40), x6.length - i.toNat ≤ m → 0 ≤ i → i ≤ x6.length → Glyph acc (52 * i.toNat) →
    ∃ r, Glyph r 416 ∧ Ret (fun k => flat_All.l0 k acc x6 x6.length i) r := by
  intro m
  induction m with
  | zero =>
    intro i acc hm h0 h1 h5
    refine ⟨acc, ⟨h5.small, by have := h5.few; omega, h5.closed⟩, Ret.succ (Ret.congr (Ret.const rfl) fun k => ?_)⟩
    show flat_All.l0 (k + 1) acc x6 x6.length i = _
    rw [flat_All.l0, if_neg (by omega)]
  | succ m ih =>
    intro i acc hm h0 h1 h5
    by_cases hz : i < x6.length
    · have hmem : rd_L7 x6 i ∈ x6 := by
        unfold rd_L7
        rw [List.getD_eq_getElem?_getD, List.getElem?_eq_getElem (by omega)]
        exact List.getElem_mem _
      obtain ⟨s, hs, he⟩ := edges_eq _ (hx _ hmem)
      have f1 := h5.few
      have f2 := hs.few
      obtain ⟨r, r1, hr⟩ := ih (i + 1) (acc ++ s) (by omega) (by omega) (by omega) ⟨fun e he => (by
        rcases List.mem_append.1 he with he | he
        · exact h5.small e he
        · exact hs.small e he), by rw [List.length_append]; omega, fun φ => by rw [tele_append, h5.closed, hs.closed]; omega⟩
      refine ⟨r, r1, Ret.succ (Ret.congr hr fun k => ?_)⟩
      show flat_All.l0 (k + 1) acc x6 x6.length i = _
      rw [flat_All.l0, if_pos hz, if_pos h0, if_pos hz, he, w64 (n := i + 1) (by omega) (by omega)]
      simp only [Option.bind_some]
      rw [if_pos (by omega)]
    · refine ⟨acc, ⟨h5.small, by have := h5.few; omega, h5.closed⟩, Ret.succ (Ret.congr (Ret.const rfl) fun k => ?_)⟩
      show flat_All.l0 (k + 1) acc x6 x6.length i = _
      rw [flat_All.l0, if_neg hz]
theorem flatall_eq (l : List (List S143)) (hl : l.length ≤ 8) (hx : ∀ c ∈ l, SegsIn c) : ∃ r, Glyph r 416 ∧ Ret (fun k => flat_All.f k l) r :=
  flatall_l0 l hl hx _ 0 [] (Nat.le_refl _) (by omega) (by omega) ⟨by intro e he; simp at he, by simp, fun φ => by simp [tele]⟩
theorem glyph_l0 (x10 : List (List S133)) (hl : x10.length ≤ 3) : ∀ (m : Nat) (i : Int) (acc : List (List S133)), x10.length - i.toNat ≤ m → 0 ≤ i → i ≤ x10.length → acc.length ≤ i.toNat →
    ∃ r, Glyph r 416 ∧ Ret (fun k => punchcutlaw06_Glyph.l0 k acc x10 x10.length i) r := by
  have fin : ∀ (i : Int) (acc : List (List S133)), ¬ i < x10.length → ∃ r, Glyph r 416 ∧ Ret (fun k => punchcutlaw06_Glyph.l0 k acc x10 x10.length i) r := by
    intro i acc hi
    obtain ⟨o, o1, o2, ho⟩ := outline_eq acc
    obtain ⟨s, s1, s2, hs⟩ := pathall_eq o o1 o2
    obtain ⟨r, r1, hr⟩ := flatall_eq s s1 s2
    refine ⟨r, r1, Ret.succ (Ret.congr (Ret.bind ho (h := fun k t217 => (path_All.f k t217).bind fun t220 => (flat_All.f k t220).bind fun t223 => some t223) (Ret.bind hs (h := fun k t220 => (flat_All.f k t220).bind fun t223 => some t223) (Ret.bind hr (h := fun _ t223 => some t223) (Ret.const rfl)))) fun k => ?_)⟩
    show punchcutlaw06_Glyph.l0 (k + 1) acc x10 x10.length i = _
    rw [punchcutlaw06_Glyph.l0, if_neg hi]
  intro m
  induction m with
  | zero =>
    intro i acc hm h0 h1 h4
    exact fin i acc (by omega)
  | succ m ih =>
    intro i acc hm h0 h1 h4
    by_cases hz : i < x10.length
    · have a1 := mn_le ((rd_L12 x10 i).length : Int) 6
      have a2 : 0 ≤ mn ((rd_L12 x10 i).length : Int) 6 := mn_ge (by omega) (by omega)
      obtain ⟨r, r1, hr⟩ := ih (i + 1) (acc ++ [((rd_L12 x10 i).take ((mn ((rd_L12 x10 i).length : Int) 6) : Int).toNat)]) (by omega) (by omega) (by omega) (by rw [List.length_append]; simp; omega)
      refine ⟨r, r1, Ret.succ (Ret.congr hr fun k => ?_)⟩
      show punchcutlaw06_Glyph.l0 (k + 1) acc x10 x10.length i = _
      rw [punchcutlaw06_Glyph.l0, if_pos hz, if_pos h0, if_pos hz, if_pos a2, if_pos a1.1, if_pos (by omega), w64 (n := i + 1) (by omega) (by omega)]
    · exact fin i acc hz
theorem glyph_eq (l : List (List S133)) : ∃ es, Glyph es 416 ∧ Ret (fun k => punchcutlaw06_Glyph.f k l) es := by
  obtain ⟨t, ht⟩ : ∃ t, mn (l.length : Int) 3 = t := ⟨_, rfl⟩
  have t0 : 0 ≤ t := by rw [← ht]; exact mn_ge (by omega) (by omega)
  have t1 := mn_le (l.length : Int) 3
  rw [ht] at t1
  have hlen : (l.take t.toNat).length = t.toNat := by rw [List.length_take]; omega
  obtain ⟨r, r1, hr⟩ := glyph_l0 (l.take t.toNat) (by omega) _ 0 [] (Nat.le_refl _) (by omega) (by omega) (by simp)
  refine ⟨r, r1, Ret.congr hr fun k => ?_⟩
  unfold punchcutlaw06_Glyph.f
  rw [ht, if_pos t0, if_pos t1.1]
  rfl
end Go.Proofs.Ytlljpjbhndcaiaa.M
end
section
set_option linter.unusedVariables false
set_option linter.unusedSimpArgs false
namespace Go.Proofs.Ytlljpjbhndcaiaa.M
open Go.RowKit Go.Proofs.Ytlljpjbhndcaiaa.Q Go.Proofs.YtlljpjbhndcaiaaW.PrintWords Go.Proofs.YtlljpjbhndcaiaaW.PrintLast Go.Proofs.YtlljpjbhndcaiaaW.PrintMore Go.Proofs.Ytlljpjbhndcaiaa.Geo
structure GridIn (X Y P W H S : Int) : Prop where
  x : -255 ≤ X ∧ X ≤ 255
  y : -255 ≤ Y ∧ Y ≤ 255
  p : 1 ≤ P ∧ P ≤ 16
  w : 1 ≤ W ∧ W ≤ 24
  h : 1 ≤ H ∧ H ≤ 24
  s : 1 ≤ S ∧ S ≤ 64
def at1 (P F n : Int) : Int := F * 32 + n * P * 32 + P * 16
def centre (X Y P i k : Int) : Pt := ⟨at1 P X i, at1 P Y k⟩
def code (S s a : Int) : Int := if a < 256 * S then 128 + s * (a * 127 / (256 * S)) else 128 + s * 127
noncomputable def eight (es : List S40) (p : Pt) : Int := Classical.epsilon (Is8 es p)
open Classical in
noncomputable def tx (es : List S40) (X Y P S i k : Int) : Int := if es = [] then 1 else code S (sign es (centre X Y P i k)) (eight es (centre X Y P i k))
end Go.Proofs.Ytlljpjbhndcaiaa.M
end
section
set_option linter.unusedVariables false
set_option linter.unusedSimpArgs false
namespace Go.Proofs.Ytlljpjbhndcaiaa.M
open Go.RowKit Go.Proofs.Ytlljpjbhndcaiaa.Q Go.Proofs.YtlljpjbhndcaiaaW.PrintWords Go.Proofs.YtlljpjbhndcaiaaW.PrintLast Go.Proofs.YtlljpjbhndcaiaaW.PrintMore Go.Proofs.Ytlljpjbhndcaiaa.Geo
theorem wf_i8 {a : Int} (h : (Lit.int .i8 a).wf = true) : -128 ≤ a ∧ a ≤ 127 := by
  simpa [Lit.wf, IntKind.min, IntKind.max, IntKind.signed, IntKind.bits, Bool.and_eq_true, decide_eq_true_eq] using h
theorem wf_i16 {a : Int} (h : (Lit.int .i16 a).wf = true) : -32768 ≤ a ∧ a ≤ 32767 := by
  simpa [Lit.wf, IntKind.min, IntKind.max, IntKind.signed, IntKind.bits, Bool.and_eq_true, decide_eq_true_eq] using h
theorem wf_u16 {a : Int} (h : (Lit.int .u16 a).wf = true) : 0 ≤ a ∧ a ≤ 65535 := by
  simpa [Lit.wf, IntKind.min, IntKind.max, IntKind.signed, IntKind.bits, Bool.and_eq_true, decide_eq_true_eq] using h
theorem few {es : List S40} {n : Nat} (h : Glyph es n) (hn : n ≤ 1000000) : es.length < 9000000000000000000 := by have := h.few; omega
end Go.Proofs.Ytlljpjbhndcaiaa.M
end
section
set_option linter.unusedVariables false
set_option linter.unusedSimpArgs false
namespace Go.Proofs.Ytlljpjbhndcaiaa.M
open Go.RowKit Go.Proofs.Ytlljpjbhndcaiaa.Q Go.Proofs.YtlljpjbhndcaiaaW.PrintWords Go.Proofs.YtlljpjbhndcaiaaW.PrintLast Go.Proofs.YtlljpjbhndcaiaaW.PrintMore Go.Proofs.Ytlljpjbhndcaiaa.Geo
theorem eight_step {es : List S40} {a b : Pt} {x y t : Int} (hx : Is8 es a x) (hy : Is8 es b y) (ht : 0 ≤ t) (h : 64 * dist2 b a < t * t) : x ≤ y + t := by
  obtain ⟨y0, ⟨e, he, h1⟩, _⟩ := hy
  have h2 : (ed e).lt8 b (y + 1) := h1
  have h3 := Ed.step (ed e) b a (y + 1) t (by omega) ht h2 h
  have h4 := hx.2.2 e he
  have d := Ed.den_pos (ed e) a
  have h5 : x * x * (ed e).den a < (y + 1 + t) * (y + 1 + t) * (ed e).den a := Int.lt_of_le_of_lt h4 h3
  have h6 : x * x < (y + 1 + t) * (y + 1 + t) := Int.lt_of_mul_lt_mul_right h5 (by omega)
  have := lt_of_sq (b := y + 1 + t) (by omega) h6
  omega
theorem Is8.append {a b : List S40} {p : Pt} {i j : Int} (h1 : Is8 a p i) (h2 : Is8 b p j) : Is8 (a ++ b) p (if j < i then j else i) := by
  obtain ⟨i0, ⟨e, he, h3⟩, h4⟩ := h1
  obtain ⟨j0, ⟨f, hf, h5⟩, h6⟩ := h2
  have mono : ∀ (u v : Int) (x : S40), 0 ≤ u → u ≤ v → v * v * (ed x).den p ≤ 64 * (ed x).num p → u * u * (ed x).den p ≤ 64 * (ed x).num p := by
    intro u v x hu huv h
    have := Int.mul_le_mul_of_nonneg_right (Int.mul_le_mul huv huv hu (by omega)) (show 0 ≤ (ed x).den p by have := Ed.den_pos (ed x) p; omega)
    omega
  split
  · rename_i hc
    refine ⟨j0, ⟨f, List.mem_append.2 (.inr hf), h5⟩, fun x hx => ?_⟩
    rcases List.mem_append.1 hx with hx | hx
    · exact mono j i x j0 (by omega) (h4 x hx)
    · exact h6 x hx
  · rename_i hc
    refine ⟨i0, ⟨e, List.mem_append.2 (.inl he), h3⟩, fun x hx => ?_⟩
    rcases List.mem_append.1 hx with hx | hx
    · exact h4 x hx
    · exact mono i j x i0 (by omega) (h6 x hx)
end Go.Proofs.Ytlljpjbhndcaiaa.M
end
section
set_option linter.unusedVariables false
set_option linter.unusedSimpArgs false
namespace Go.Proofs.Ytlljpjbhndcaiaa.M
open Go.RowKit Go.Proofs.Ytlljpjbhndcaiaa.Q Go.Proofs.YtlljpjbhndcaiaaW.PrintWords Go.Proofs.YtlljpjbhndcaiaaW.PrintLast Go.Proofs.YtlljpjbhndcaiaaW.PrintMore Go.Proofs.Ytlljpjbhndcaiaa.Geo
theorem Ret.at_ {α : Type} {g : Nat → Option α} (h : ∀ k, LeO (g k) (g (k + 1))) {K : Nat} {r : α} (hr : g K = some r) : Ret g r := ⟨K, fun k hk => at_rounds h hk hr⟩
theorem some_mono (px py : Int) (t : Nat → Bool) : ∀ (l : List S40) (i : Nat) (n d b : Int) (k : Nat), LeO (dist_Some.go k px py t l i n d b) (dist_Some.go (k + 1) px py t l i n d b) := by
  intro l
  induction l with
  | nil => intro i n d b k; exact LeO.refl _
  | cons e r ih =>
    intro i n d b k
    unfold dist_Some.go
    refine LeO.ite (LeO.bind (plane_Square.mono _ _ _ _ _ _ _) fun s => LeO.ite (ih _ _ _ _ _) (LeO.bind (root_Compare.mono _ _ _ _ _) fun c => LeO.ite (ih _ _ _ _ _) (ih _ _ _ _ _))) (ih _ _ _ _ _)
theorem awake08_mono (k : Nat) : LeO (punchcutlaw08_awake.f k) (punchcutlaw08_awake.f (k + 1)) := by
  unfold punchcutlaw08_awake.f
  exact LeO.bind (dist_Near.mono _ _ _ _) fun a => LeO.bind (dist_Near.mono _ _ _ _) fun b => LeO.bind (some_mono _ _ _ _ _ _ _ _ _) fun c => LeO.bind (dist_Eight.mono _ _ _ _) fun d => LeO.bind (dist_Sign.mono _ _ _ _) fun e => LeO.bind (dist_Sign.mono _ _ _ _) fun g => LeO.refl _
theorem awake08_eq : Ret (fun k => punchcutlaw08_awake.f k) true := Ret.at_ awake08_mono (K := 100) (by decide +kernel)
theorem tmod3 (x : Int) : -2 ≤ x.tmod 3 ∧ x.tmod 3 ≤ 2 := by
  rw [Int.tmod_eq_emod]
  split <;> omega
theorem half_small {x y : Int} (hx : Small x) (hy : Small y) : wrap64 (Int.tdiv (wrap64 (x + y)) 2) = Int.tdiv (x + y) 2 ∧ Small (Int.tdiv (x + y) 2) := by
  obtain ⟨a1, a2⟩ := hx
  obtain ⟨b1, b2⟩ := hy
  have h : Int.tdiv (x + y) 2 = (x + y) / 2 ∨ Int.tdiv (x + y) 2 = -(-(x + y) / 2) := by
    by_cases h0 : 0 ≤ x + y
    · exact .inl (Int.tdiv_eq_ediv_of_nonneg h0)
    · right
      have := Int.neg_tdiv (x + y) 2
      have h2 := Int.tdiv_eq_ediv_of_nonneg (a := -(x + y)) (b := 2) (by omega)
      omega
  rw [w64 (n := x + y) (by omega) (by omega)]
  rcases h with h | h
  · rw [h]; exact ⟨w64 (by omega) (by omega), by unfold Small; omega⟩
  · rw [h]; exact ⟨w64 (by omega) (by omega), by unfold Small; omega⟩
theorem spot_eq (es : List S40) (hes : AllIn es) (hl : es.length ≤ 1000000) {a1 a2_0 a2_1 : Int} (h1 : (Lit.int .u16 a1).wf = true) (h2 : (Lit.int .i16 a2_0).wf = true) (h3 : (Lit.int .i16 a2_1).wf = true) :
    ∃ p : Pt, punchcutlaw07_Spot.f es a1 a2_0 a2_1 = some (p.x, p.y) ∧ (-32768 ≤ p.x ∧ p.x ≤ 32767) ∧ (-32768 ≤ p.y ∧ p.y ≤ 32767) := by
  have w1 := wf_u16 h1
  have w2 := wf_i16 h2
  have w3 := wf_i16 h3
  unfold punchcutlaw07_Spot.f
  rw [if_pos ⟨w1.1, w1.2, w2.1, w2.2, w3.1, w3.2, hl⟩]
  by_cases hz : es.length = 0 ∨ a1 % 4 = 0
  · rw [if_pos hz]
    refine ⟨⟨a2_0, a2_1⟩, ?_, w2, w3⟩
    rw [w64 (by omega) (by omega), w64 (by omega) (by omega)]
  · rw [if_neg hz]
    have hpos : 0 < es.length := by omega
    have hi := spot_i_eq es a1 w1.1 w1.2
    have i0 : 0 ≤ spot_i es a1 := by rw [hi]; exact Int.emod_nonneg _ (by omega)
    have i1 : spot_i es a1 < (es.length : Int) := by rw [hi]; exact Int.emod_lt_of_pos _ (by omega)
    obtain ⟨e1, e2, e3, e4⟩ := hes _ (rd_mem es _ i0 i1)
    have hs : Small (spot_pt es a1).f0 ∧ Small (spot_pt es a1).f1 := by
      unfold spot_pt
      split
      · exact ⟨e1, e2⟩
      · obtain ⟨a, b⟩ := half_small e1 e3
        obtain ⟨c, d⟩ := half_small e2 e4
        simp only [a, c]
        exact ⟨b, d⟩
    obtain ⟨⟨b1, b2⟩, ⟨b3, b4⟩⟩ := hs
    have t1 := tmod3 a2_0
    have t2 := tmod3 a2_1
    refine ⟨⟨(spot_pt es a1).f0 + a2_0.tmod 3, (spot_pt es a1).f1 + a2_1.tmod 3⟩, ?_, by simp only; omega, by simp only; omega⟩
    rw [w64 (by omega) (by omega), w64 (by omega) (by omega)]
theorem eight_top {es : List S40} {p : Pt} {x : Int} (hx : Is8 es p x) (h : es ≠ []) (hes : AllIn es) (hp : PtIn p) : x ≤ 2147483648 := by
  obtain ⟨e, he⟩ := List.exists_mem_of_ne_nil es h
  obtain ⟨n, d, hs, _⟩ := square_eq e p (hes e he) hp
  have h1 := hx.2.2 e he
  obtain ⟨g, g1, g2, g3⟩ := hs.g
  have hq := Int.mul_le_mul_of_nonneg_right hs.q (show 0 ≤ g by omega)
  have hd := hs.d1
  have e1 : n * 64 * g = 64 * (n * g) := by grind
  have e2 : 4611686018427387904 * d * g = 2147483648 * 2147483648 * (d * g) := by grind
  have hpos : 0 < d * g := Int.mul_pos (by omega) (by omega)
  rw [g2, g3] at h1
  have h2 : x * x * (d * g) ≤ 2147483648 * 2147483648 * (d * g) := by omega
  exact le_of_sq (by omega) (Int.le_of_mul_le_mul_right h2 hpos)
end Go.Proofs.Ytlljpjbhndcaiaa.M
end
