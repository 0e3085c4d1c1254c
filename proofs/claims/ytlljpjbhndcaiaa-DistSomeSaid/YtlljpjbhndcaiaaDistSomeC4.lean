/- The law DistSome is true of every input, and its arguments read behind the call as before: the row, over the printed walk and the plain law. -/
import Derived.Test.YtlljpjbhndcaiaaDistSomeC3
import Derived.Test.YtlljpjbhndcaiaaRows
import Derived.WalkKit
import Derived.ProofKit
import Derived.OpenShut
import Derived.ShutString
import Derived.ChangeOld
import Derived.Below
import Derived.Carry
import Derived.SizedLaws
import Derived.Deep.Slices
import Derived.Deep.Fields
import Derived.Deep.Strs
import Derived.ChangeSame
import Derived.Lib.SmallJoins
set_option linter.unusedVariables false
set_option linter.unusedSimpArgs false
set_option linter.unusedSectionVars false
section
set_option linter.unusedVariables false
set_option linter.unusedSimpArgs false
namespace Go.Proofs.Ytlljpjbhndcaiaa.Rw
open Go.ChangeShapes Go.WideShapes Go.ChangeAt Go.RowKit Go.Deep Go.Joins
open Go.Proofs.Ytlljpjbhndcaiaa.Q Go.Proofs.YtlljpjbhndcaiaaW.PrintWords Go.Proofs.YtlljpjbhndcaiaaW.PrintLast
theorem laidOut : laidOutB Try.prog = true := by kernel_rfl
theorem own : ownKnob Try.prog.godebug = none := by kernel_rfl
section
variable {H : Type} {enc : TypeId × Value → H} {P : Program} {w : World} {base : Nat} {spare : Nat → Bool} {held : Bool}
theorem open_slice_fields {t e : TypeId} {fs : Array Field} {fuel : Nat} {cs : List Value} {x : DataW H × List MemPlace} (ht : P.underlying t = some (.slice e)) (he : P.underlying e = some (.struct fs))
    (hone : oneCellFields P fs = true) (hC : P.cellsOf e = fs.size) (h : DataW.trod enc P w base spare held fuel t cs = some x) :
    (cs = [.slice none 0 0] ∧ x = (.nil, [])) ∨
    ∃ (a : Addr) (len cap m : Nat) (D : Nat → DataW H) (Pl : Nat → List MemPlace), cs = [.slice (some a) len cap] ∧ base ≤ a.block ∧ len ≤ cap ∧ cap ≤ maxLen ∧ m = (if spare a.block then cap else len) ∧
      x = (.slice ((List.range len).map D) ((List.range (m - len)).map fun j => D (len + j)), MemPlace.row a (m * fs.size) ++ (List.range m).flatMap Pl) ∧
      ∀ i, i < m → ∃ (ys : List (DataW H × List MemPlace)) (n : Nat), D i = .agg (ys.map (·.1)) ∧ Pl i = ys.flatMap (·.2) ∧ ys.length = fs.size ∧
        ∀ (j : Nat) (f : Field), fs[j]? = some f → ∃ (v : Value) (y : DataW H × List MemPlace), w.cell? (a.add (i * fs.size + j)) = some v ∧ ys[j]? = some y ∧ DataW.trod enc P w base spare held n f.type [v] = some y := by
  rcases open_slice ht h with h0 | ⟨a, len, cap, m, n, D, Pl, hcs, hb, hl, hm, hmm, hx, hi⟩
  · exact .inl h0
  · refine .inr ⟨a, len, cap, m, D, Pl, hcs, hb, hl, hm, hmm, by rw [hC] at hx; exact hx, fun i him => ?_⟩
    obtain ⟨cs', hc, ht'⟩ := hi i him
    rw [hC] at hc
    obtain ⟨ys, n', hn', hy, hlen, hyl, hf⟩ := DataW.trod_struct he ht'
    obtain ⟨_, hcl, hat⟩ := World.cells?_some hc
    simp only [Prod.mk.injEq] at hy
    refine ⟨ys, n', hy.1, hy.2, hyl, fun j f hj => ?_⟩
    obtain ⟨ho, hk⟩ := hone_of hone j f hj
    have hjl : j < fs.size := (Array.getElem?_eq_some_iff.1 hj).1
    have hcell := hat j hjl
    have hv : cs'[j]? = some (cs'[j]'(by omega)) := List.getElem?_eq_getElem (by omega)
    have h1 := hf j f hj
    rw [ho, hk] at h1
    have hone' : (cs'.drop j).take 1 = [cs'[j]'(by omega)] := by
      rw [List.drop_eq_getElem_cons (by omega)]
      rfl
    rw [hone'] at h1
    have hys : ys[j]? = some (ys[j]'(by omega)) := List.getElem?_eq_getElem (by omega)
    refine ⟨_, _, ?_, hys, h1.trans hys⟩
    rw [← Go.Deep.add_add, hcell, hv]
end
section
variable {H : Type} {enc : TypeId × Value → H} {P : Program} {w : World} {base : Nat} {spare : Nat → Bool} {held : Bool}
theorem open_agg6 {r : Reach} {b0 : Nat} {t : TypeId} {f0 f1 f2 f3 f4 f5 : Field} {v : Value} {d : DataW H} {p : List MemPlace} (hs : P.underlying t = some (.struct #[f0, f1, f2, f3, f4, f5])) (hone : oneCellFields P #[f0, f1, f2, f3, f4, f5] = true) (hC : P.cellsOf t = 6)
    (hv : Value.okWide P w r b0 t v) (h : DataW.Trod enc P w base spare held t v d p) :
    ∃ (v0 v1 v2 v3 v4 v5 : Value) (y0 y1 y2 y3 y4 y5 : DataW H × List MemPlace) (n : Nat), v = .agg #[v0, v1, v2, v3, v4, v5] ∧ d = .agg [y0.1, y1.1, y2.1, y3.1, y4.1, y5.1] ∧ p = y0.2 ++ (y1.2 ++ (y2.2 ++ (y3.2 ++ (y4.2 ++ y5.2)))) ∧
      DataW.trod enc P w base spare held n f0.type [v0] = some y0 ∧ DataW.trod enc P w base spare held n f1.type [v1] = some y1 ∧ DataW.trod enc P w base spare held n f2.type [v2] = some y2 ∧ DataW.trod enc P w base spare held n f3.type [v3] = some y3 ∧ DataW.trod enc P w base spare held n f4.type [v4] = some y4 ∧ DataW.trod enc P w base spare held n f5.type [v5] = some y5 := by
  obtain ⟨cs, rfl, hsz⟩ := okWide_struct hs hv
  obtain ⟨l⟩ := cs
  match l, hsz.trans hC with
  | [c0, c1, c2, c3, c4, c5], _ =>
    obtain ⟨fuel, hf⟩ := h
    obtain ⟨xs, n, _, hx, _, hlen, hg⟩ := DataW.trod_struct hs hf
    obtain ⟨o0, k0⟩ := hone_of hone 0 f0 rfl
    obtain ⟨o1, k1⟩ := hone_of hone 1 f1 rfl
    obtain ⟨o2, k2⟩ := hone_of hone 2 f2 rfl
    obtain ⟨o3, k3⟩ := hone_of hone 3 f3 rfl
    obtain ⟨o4, k4⟩ := hone_of hone 4 f4 rfl
    obtain ⟨o5, k5⟩ := hone_of hone 5 f5 rfl
    match xs, hlen with
    | [y0, y1, y2, y3, y4, y5], _ =>
      simp only [Prod.mk.injEq] at hx
      exact ⟨c0, c1, c2, c3, c4, c5, y0, y1, y2, y3, y4, y5, n, rfl, by simpa using hx.1, by simpa using hx.2, by simpa [Value.cells, o0, k0] using hg 0 f0 rfl, by simpa [Value.cells, o1, k1] using hg 1 f1 rfl, by simpa [Value.cells, o2, k2] using hg 2 f2 rfl, by simpa [Value.cells, o3, k3] using hg 3 f3 rfl, by simpa [Value.cells, o4, k4] using hg 4 f4 rfl, by simpa [Value.cells, o5, k5] using hg 5 f5 rfl⟩
end
instance : Inhabited S133 := ⟨z133⟩
section
variable {H : Type} {enc : TypeId × Value → H} {w : World}
set_option maxRecDepth 100000 in
theorem dots_of {n : Nat} {cs : List Value} {x : DataW H × List MemPlace} (h : DataW.trod enc Try.prog w 0 (fun _ => true) true n 92 cs = some x) :
    ∃ (A : Option Addr) (l : List S133) (c : Nat), cs = [.slice A l.length c] ∧ l.length ≤ c ∧ Kd.C k133 w A l.length l := by
  rcases open_slice_fields Try.underlying92 Try.underlying133 (by kernel_rfl) (by kernel_rfl) h with ⟨rfl, _⟩ | ⟨a, len, cap, m, D, Pl, rfl, _, hl, hm, hmm, _, hf⟩
  · exact ⟨none, [], 0, rfl, Nat.le_refl _, rfl, Nat.zero_le _, fun h => absurd h (by simp)⟩
  · simp only [if_true] at hmm
    have hmm2 := hmm.symm
    subst hmm2
    have each : ∀ i, i < cap → ∃ y : S133, w.cell? (a.add (i * 3 + 0)) = some (.int .i16 y.f0) ∧ w.cell? (a.add (i * 3 + 1)) = some (.int .i16 y.f1) ∧ w.cell? (a.add (i * 3 + 2)) = some (.bool y.f2) := by
      intro i hi
      obtain ⟨ys, k, _, _, _, hg⟩ := hf i hi
      obtain ⟨v0, y0, c0, _, t0⟩ := hg 0 _ rfl
      obtain ⟨v1, y1, c1, _, t1⟩ := hg 1 _ rfl
      obtain ⟨v2, y2, c2, _, t2⟩ := hg 2 _ rfl
      obtain ⟨n0, e0, _⟩ := DataW.trod_int Try.underlying24 t0
      obtain ⟨n1, e1, _⟩ := DataW.trod_int Try.underlying24 t1
      obtain ⟨n2, e2, _⟩ := DataW.trod_bool Try.underlying4 t2
      rw [List.singleton_inj] at e0 e1 e2
      subst e0 e1 e2
      exact ⟨⟨n0, n1, n2⟩, c0, c1, c2⟩
    obtain ⟨f, hF⟩ := choose_lt each
    refine ⟨some a, (List.range len).map f, cap, by simp, by simpa using hl, by simp, by simpa using (show _ ≤ 9223372036854775807 from Nat.le_trans hl hm), fun _ => ⟨a, rfl, fun j p hj => ?_⟩⟩
    rw [List.getElem?_map] at hj
    rcases Nat.lt_or_ge j len with hj' | hj'
    · rw [List.getElem?_eq_getElem (by simpa using hj'), List.getElem_range, Option.map_some, Option.some_inj] at hj
      subst hj
      obtain ⟨c0, c1, c2⟩ := hF j (by omega)
      refine ⟨[.int .i16 (f j).f0, .int .i16 (f j).f1, .bool (f j).f2], rfl, k133_mk w (f j), fun i u hu => ?_⟩
      match i, hu with
      | 0, hu => rw [← Option.some.inj hu]; exact c0
      | 1, hu => rw [← Option.some.inj hu]; exact c1
      | 2, hu => rw [← Option.some.inj hu]; exact c2
    · rw [List.getElem?_eq_none (by simpa using hj')] at hj
      cases hj
instance : Inhabited (List S133) := ⟨[]⟩
set_option maxRecDepth 100000 in
theorem open_dots {r : Reach} {b0 : Nat} {v : Value} {d : DataW H} {p : List MemPlace} (hv : Value.okWide Try.prog w r b0 22 v) (h : DataW.Trod enc Try.prog w 0 (fun _ => true) true 22 v d p) :
    ∃ (A : Option Addr) (l : List (List S133)) (c : Nat), v = .slice A l.length c ∧ l.length ≤ c ∧ Kd.C (Kd.slice 133 k133) w A l.length l := by
  obtain ⟨a0, len0, cap0, rfl⟩ := okWide_slice Try.underlying22 hv
  obtain ⟨fuel, hf⟩ := h
  rcases open_slice1 Try.underlying22 (by kernel_rfl) hf with ⟨hcs, _⟩ | ⟨a, len, cap, m, n, V, D, Pl, hcs, _, hl, hm, hmm, _, hx⟩
  · simp [Value.cells] at hcs
    obtain ⟨rfl, rfl, rfl⟩ := hcs
    exact ⟨none, [], 0, rfl, Nat.le_refl _, rfl, Nat.zero_le _, fun h => absurd h (by simp)⟩
  · simp [Value.cells] at hcs
    obtain ⟨rfl, rfl, rfl⟩ := hcs
    simp only [if_true] at hmm
    have hmm2 := hmm.symm
    subst hmm2
    have each : ∀ i, i < cap0 → ∃ l : List S133, ∃ A c, V i = .slice A l.length c ∧ l.length ≤ c ∧ Kd.C k133 w A l.length l := by
      intro i hi
      obtain ⟨A, l, c, e, g1, g2⟩ := dots_of (hx i hi).2
      rw [List.singleton_inj] at e
      exact ⟨l, A, c, e, g1, g2⟩
    obtain ⟨f, hF⟩ := choose_lt each
    refine ⟨some a, (List.range len0).map f, cap0, by simp, by simpa using hl, by simp, by simpa using (show _ ≤ 9223372036854775807 from Nat.le_trans hl hm), fun _ => ⟨a, rfl, fun j p hj => ?_⟩⟩
    rw [List.getElem?_map] at hj
    rcases Nat.lt_or_ge j len0 with hj' | hj'
    · rw [List.getElem?_eq_getElem (by simpa using hj'), List.getElem_range, Option.map_some, Option.some_inj] at hj
      subst hj
      obtain ⟨A, c, e, g1, g2⟩ := hF j (by omega)
      refine ⟨[.slice A (f j).length c], rfl, ⟨A, c, rfl, g1, g2⟩, fun i u hu => ?_⟩
      match i, hu with
      | 0, hu =>
        rw [← Option.some.inj hu]
        have := (hx j (by omega)).1
        rw [e] at this
        show w.cell? (a.add (j * 1 + 0)) = _
        rw [Nat.mul_one, Nat.add_zero]
        exact this
    · rw [List.getElem?_eq_none (by simpa using hj')] at hj
      cases hj
set_option maxRecDepth 100000 in
theorem open_spec {r : Reach} {b0 : Nat} {v : Value} {d : DataW H} {p : List MemPlace} (hv : Value.okWide Try.prog w r b0 50 v) (h : DataW.Trod enc Try.prog w 0 (fun _ => true) true 50 v d p) :
    ∃ n0 n1 n2 n3 n4 n5 : Int, v = .agg #[.int .u8 n0, .int .u8 n1, .int .u8 n2, .int .u8 n3, .int .u8 n4, .int .u8 n5] ∧ (Lit.int .u8 n0).wf = true ∧ (Lit.int .u8 n1).wf = true ∧ (Lit.int .u8 n2).wf = true ∧ (Lit.int .u8 n3).wf = true ∧ (Lit.int .u8 n4).wf = true ∧ (Lit.int .u8 n5).wf = true := by
  obtain ⟨v0, v1, v2, v3, v4, v5, y0, y1, y2, y3, y4, y5, n, rfl, _, _, t0, t1, t2, t3, t4, t5⟩ := open_agg6 Try.underlying50 (by kernel_rfl) (by kernel_rfl) hv h
  obtain ⟨n0, e0, _, w0⟩ := DataW.trod_int Try.underlying5 t0
  obtain ⟨n1, e1, _, w1⟩ := DataW.trod_int Try.underlying5 t1
  obtain ⟨n2, e2, _, w2⟩ := DataW.trod_int Try.underlying5 t2
  obtain ⟨n3, e3, _, w3⟩ := DataW.trod_int Try.underlying5 t3
  obtain ⟨n4, e4, _, w4⟩ := DataW.trod_int Try.underlying5 t4
  obtain ⟨n5, e5, _, w5⟩ := DataW.trod_int Try.underlying5 t5
  rw [List.singleton_inj] at e0 e1 e2 e3 e4 e5
  subst e0 e1 e2 e3 e4 e5
  exact ⟨n0, n1, n2, n3, n4, n5, rfl, w0, w1, w2, w3, w4, w5⟩
set_option maxRecDepth 100000 in
theorem open_grid {r : Reach} {b0 : Nat} {v : Value} {d : DataW H} {p : List MemPlace} (hv : Value.okWide Try.prog w r b0 53 v) (h : DataW.Trod enc Try.prog w 0 (fun _ => true) true 53 v d p) :
    ∃ n0 n1 n2 n3 n4 n5 : Int, v = .agg #[.int .i64 n0, .int .i64 n1, .int .i64 n2, .int .i64 n3, .int .i64 n4, .int .i64 n5] ∧ (Lit.int .i64 n0).wf = true ∧ (Lit.int .i64 n1).wf = true ∧ (Lit.int .i64 n2).wf = true ∧ (Lit.int .i64 n3).wf = true ∧ (Lit.int .i64 n4).wf = true ∧ (Lit.int .i64 n5).wf = true := by
  obtain ⟨v0, v1, v2, v3, v4, v5, y0, y1, y2, y3, y4, y5, n, rfl, _, _, t0, t1, t2, t3, t4, t5⟩ := open_agg6 Try.underlying53 (by kernel_rfl) (by kernel_rfl) hv h
  obtain ⟨n0, e0, _, w0⟩ := DataW.trod_int Try.underlying3 t0
  obtain ⟨n1, e1, _, w1⟩ := DataW.trod_int Try.underlying3 t1
  obtain ⟨n2, e2, _, w2⟩ := DataW.trod_int Try.underlying3 t2
  obtain ⟨n3, e3, _, w3⟩ := DataW.trod_int Try.underlying3 t3
  obtain ⟨n4, e4, _, w4⟩ := DataW.trod_int Try.underlying3 t4
  obtain ⟨n5, e5, _, w5⟩ := DataW.trod_int Try.underlying3 t5
  rw [List.singleton_inj] at e0 e1 e2 e3 e4 e5
  subst e0 e1 e2 e3 e4 e5
  exact ⟨n0, n1, n2, n3, n4, n5, rfl, w0, w1, w2, w3, w4, w5⟩
set_option maxRecDepth 100000 in
theorem open_place {r : Reach} {b0 : Nat} {v : Value} {d : DataW H} {p : List MemPlace} (hv : Value.okWide Try.prog w r b0 26 v) (h : DataW.Trod enc Try.prog w 0 (fun _ => true) true 26 v d p) :
    ∃ n0 n1 : Int, v = .agg #[.int .i16 n0, .int .i16 n1] ∧ (Lit.int .i16 n0).wf = true ∧ (Lit.int .i16 n1).wf = true := by
  obtain ⟨v0, v1, y0, y1, n, rfl, _, _, t0, t1⟩ := open_agg2 Try.underlying26 (by kernel_rfl) (by kernel_rfl) hv h
  obtain ⟨n0, e0, _, w0⟩ := DataW.trod_int Try.underlying24 t0
  obtain ⟨n1, e1, _, w1⟩ := DataW.trod_int Try.underlying24 t1
  rw [List.singleton_inj] at e0 e1
  subst e0 e1
  exact ⟨n0, n1, rfl, w0, w1⟩
set_option maxRecDepth 100000 in
theorem open_bools27 {r : Reach} {b0 : Nat} {v : Value} {d : DataW H} {p : List MemPlace} (hv : Value.okWide Try.prog w r b0 27 v) (h : DataW.Trod enc Try.prog w 0 (fun _ => true) true 27 v d p) :
    ∃ (A : Option Addr) (l : List Bool) (c : Nat), v = .slice A l.length c ∧ l.length ≤ c ∧ Kd.C Kd.bool w A l.length l := by
  obtain ⟨a0, len0, cap0, rfl⟩ := okWide_slice Try.underlying27 hv
  obtain ⟨fuel, hf⟩ := h
  rcases open_slice1 Try.underlying27 (by kernel_rfl) hf with ⟨hcs, _⟩ | ⟨a, len, cap, m, n, V, D, Pl, hcs, _, hl, hm, hmm, _, hx⟩
  · simp [Value.cells] at hcs
    obtain ⟨rfl, rfl, rfl⟩ := hcs
    exact ⟨none, [], 0, rfl, Nat.le_refl _, rfl, Nat.zero_le _, fun h => absurd h (by simp)⟩
  · simp [Value.cells] at hcs
    obtain ⟨rfl, rfl, rfl⟩ := hcs
    simp only [if_true] at hmm
    have hmm2 := hmm.symm
    subst hmm2
    have each : ∀ i, i < cap0 → ∃ b : Bool, V i = .bool b := by
      intro i hi
      obtain ⟨b, e, _⟩ := DataW.trod_bool Try.underlying4 (hx i hi).2
      exact ⟨b, by simpa using e⟩
    obtain ⟨f, hF⟩ := choose_lt each
    refine ⟨some a, (List.range len0).map f, cap0, by simp, by simpa using hl, by simp, by simpa using (show _ ≤ 9223372036854775807 from Nat.le_trans hl hm), fun _ => ⟨a, rfl, fun j p hj => ?_⟩⟩
    rw [List.getElem?_map] at hj
    rcases Nat.lt_or_ge j len0 with hj' | hj'
    · rw [List.getElem?_eq_getElem (by simpa using hj'), List.getElem_range, Option.map_some, Option.some_inj] at hj
      subst hj
      refine ⟨[.bool (f j)], rfl, rfl, fun i u hu => ?_⟩
      match i, hu with
      | 0, hu =>
        rw [← Option.some.inj hu]
        have := (hx j (by omega)).1
        rw [hF j (by omega)] at this
        show w.cell? (a.add (j * 1 + 0)) = _
        rw [Nat.mul_one, Nat.add_zero]
        exact this
    · rw [List.getElem?_eq_none (by simpa using hj')] at hj
      cases hj
end
end Go.Proofs.Ytlljpjbhndcaiaa.Rw
end
section
set_option linter.unusedVariables false
set_option linter.unusedSimpArgs false
namespace Go.Proofs.Ytlljpjbhndcaiaa.distSome
open Go.ChangeShapes Go.WideShapes Go.ChangeAt Go.RowKit
open Go.Proofs.Ytlljpjbhndcaiaa.Rw (laidOut own open_dots open_bools27 open_spec open_grid open_place)
set_option maxRecDepth 100000 in
theorem lifted (os : Os) (started : os.Started) (H : Type) (enc : TypeId × Value → H) :
    ReturnsInHanded {} Try.checked os 3 .any (Rows.distSomeSpec.pre6 enc Try.prog Try.f3 Rows.distSomeRow.domain false) (Rows.distSomeSpec.post enc Try.prog Try.f3 false true false false) := by
  refine returnsInHanded_of_change_sized (C := Try.checked) own started (by kernel_rfl) Try.func3
    (ChangeSpec.witness6 (enc := enc) (C := Try.checked) false ⟨#[], #[.slice none 0 0, .int .u16 0, .agg #[.int .i16 0, .int .i16 0], .slice none 0 0], []⟩ 8 (by kernel_rfl) (by kernel_rfl) (by kernel_rfl) (by kernel_rfl)) ?_
  intro W base args ds gs before hval0 hW hcnd hsz0 _
  have hval : ∀ (j : Nat) t v, Try.f3.params[j]? = some t → args[j]? = some v → Value.okWide Try.prog W .any base t v := hval0
  have hW' := hW
  obtain ⟨p, q, hA0, hV, rfl, hfz, hnd⟩ := hW
  have hA : DataW.TrodAll enc Try.prog W 0 (fun _ => true) true Try.f3.params.toList args.toList ds p := hA0
  rw [Try.params3] at hA hval
  obtain ⟨v0, vs0, d0, ds0, p0, q0, hargs, rfl, rfl, h0, r0⟩ := trodAll_cons hA
  obtain ⟨v1, vs1, d1, ds1, p1, q1, rfl, rfl, rfl, h1, r1⟩ := trodAll_cons r0
  obtain ⟨v2, vs2, d2, ds2, p2, q2, rfl, rfl, rfl, h2, r2⟩ := trodAll_cons r1
  obtain ⟨v3, vs3, d3, ds3, p3, q3, rfl, rfl, rfl, h3, r3⟩ := trodAll_cons r2
  obtain ⟨rfl, rfl, rfl⟩ := trodAll_nil r3
  obtain rfl : args = #[v0, v1, v2, v3] := by cases args; simp_all
  obtain ⟨rfl, rfl⟩ := trodVars_none hV
  have k0 := h0
  have lt0 : ∀ x ∈ p0, x.block < W.heap.size := by obtain ⟨m, hm⟩ := k0; exact DataW.trod_lt m _ _ _ hm
  obtain ⟨A0, l0, c0, rfl, hc0, hr0⟩ := open_dots (hval 0 22 v0 rfl rfl) h0
  obtain ⟨a1, rfl, rfl, rfl, w1⟩ := open_int Try.underlying23 (hval 1 23 v1 rfl rfl) h1
  have k2 := h2
  have lt2 : ∀ x ∈ p2, x.block < W.heap.size := by obtain ⟨m, hm⟩ := k2; exact DataW.trod_lt m _ _ _ hm
  obtain ⟨a2_0, a2_1, rfl, w2_0, w2_1⟩ := open_place (hval 2 26 v2 rfl rfl) h2
  have k3 := h3
  have lt3 : ∀ x ∈ p3, x.block < W.heap.size := by obtain ⟨m, hm⟩ := k3; exact DataW.trod_lt m _ _ _ hm
  obtain ⟨A3, l3, c3, rfl, hc3, hr3⟩ := open_bools27 (hval 3 27 v3 rfl rfl) h3
  clear hA0 hval0 hsz0
  obtain ⟨k, hk⟩ := M.DistSome l0 a1 a2_0 a2_1 l3 w1 w2_0 w2_1
  refine (Q.punchcutlaw08_DistSome.calls k A0 c0 l0 a1 a2_0 a2_1 A3 c3 l3 true W hr0 hc0 hr3 hc3 hk).mono fun e W' ⟨he, bel⟩ => ?_
  subst he
  exact ⟨_, rfl, _, _, _, [], _, [], hW', trodAll_mk1 (shut_bool Try.underlying4 _), (trodAll_cons_mk (Below.trod laidOut (by kernel_rfl) (of_decide_eq_true (by kernel_rfl)) k0 bel lt0) (trodAll_cons_mk (shut_int Try.underlying23 w1) (trodAll_cons_mk (Below.trod laidOut (by kernel_rfl) (of_decide_eq_true (by kernel_rfl)) k2 bel lt2) (trodAll_cons_mk (Below.trod laidOut (by kernel_rfl) (of_decide_eq_true (by kernel_rfl)) k3 bel lt3) trodAll_mk0)))), rfl, bel.frame _, fun h => by cases h⟩
theorem over : Rows.distSomeRow.holds Try.pinned (OpenSpec.ofChange Rows.distSomeSpec) :=
  OpenClaim.holds_of_wide 3 Try.f3 rfl rfl rfl rfl rfl rfl rfl ⟨rfl, rfl, rfl, rfl, rfl⟩ rfl rfl rfl rfl rfl (by kernel_rfl) Try.func3 (by kernel_rfl)
    (of_decide_eq_true (by kernel_rfl)) (by unfold Func.isWrapper; first | (rw [if_pos (by decide +kernel)]; kernel_rfl) | (rw [if_neg (by decide +kernel)]; exact ⟨rfl, rfl⟩))
    (fun os started H enc _ => lifted os started H enc)
theorem proved : Rows.DistSomeSaid := over
#print axioms proved
end Go.Proofs.Ytlljpjbhndcaiaa.distSome
namespace Go.Proofs.Ytlljpjbhndcaiaa
theorem distSome_holds : Rows.DistSomeSaid := distSome.proved
end Go.Proofs.Ytlljpjbhndcaiaa
end
