/- What the proof of the law SdfSmooth leans on, part 1. -/
import Derived.Test.YtlljpjbhndcaiaaSdfSmoothC0
import Derived.Test.YtlljpjbhndcaiaaProg
import Derived.Below
import Derived.Deep.Draws
import Derived.Deep.AppendLies
import Derived.Maps.AppendAt
import Derived.OwnWalk
import Derived.Laws.BytesArg
import Derived.Laws.MakeOwn
import Derived.Laws.OwnMore
import Derived.Deep.OwnRows
import Derived.Tactics
import Derived.Lib.ConvBytes
import Derived.Laws.Slices
import Derived.WalkKit
import Derived.KernelRfl
import Derived.RowKit3
import Derived.Deep.LoopGhost
import Derived.Deep.QuietTactic
import Derived.BigQuiet
import Derived.WideLaws
import Derived.Deep.DeepCutAuto
import Derived.Deep.CutBlock
import Derived.Deep.RegionHeld3
import Derived.Laws.Rows
import Derived.Lib.AppendStr
import Derived.ArgAppend
import Derived.Laws.IdiomCopy
import Derived.OrdersHeld
import Derived.Laws.BitsLemmas
import Derived.RowKit
set_option linter.unusedVariables false
set_option linter.unusedSimpArgs false
set_option linter.unusedSectionVars false
section
namespace Go.Proofs.Ytlljpjbhndcaiaa.Q
open Go.RowKit Go.Proofs.YtlljpjbhndcaiaaW.PrintWords Go.Proofs.YtlljpjbhndcaiaaW.PrintLast Go.Proofs.YtlljpjbhndcaiaaW.PrintMore
attribute [local go_sem] max2_int min2_int max_two min_two max_three min_three max_four min_four
set_option linter.unusedVariables false
set_option linter.unusedSimpArgs false
def errW : Option Int → Value
  | none => .nilIface
  | some c => .iface 0 (.int .i64 c)
theorem errW_none : errW none = .nilIface := rfl
theorem errW_some (c : Int) : errW (some c) = .iface 0 (.int .i64 c) := rfl
theorem info5 : (Try.prog.info? 5).map (fun i => (i.zero, i.size, i.bytes)) = some (some (.int .u8 0), 1, 1) := by kernel_rfl
theorem info40 : (Try.prog.info? 40).map (fun i => (i.zero, i.size, i.bytes)) = some (some (.agg #[(.int .i64 0), (.int .i64 0), (.int .i64 0), (.int .i64 0)]), 4, 32) := by kernel_rfl
theorem info92 : (Try.prog.info? 92).map (fun i => (i.zero, i.size, i.bytes)) = some (some (.slice none 0 0), 1, 24) := by kernel_rfl
theorem info128 : (Try.prog.info? 128).map (fun i => (i.zero, i.size, i.bytes)) = some (some (.slice none 0 0), 1, 24) := by kernel_rfl
theorem info130 : (Try.prog.info? 130).map (fun i => (i.zero, i.size, i.bytes)) = some (some (.slice none 0 0), 1, 24) := by kernel_rfl
theorem info133 : (Try.prog.info? 133).map (fun i => (i.zero, i.size, i.bytes)) = some (some (.agg #[(.int .i16 0), (.int .i16 0), (.bool false)]), 3, 6) := by kernel_rfl
theorem info135 : (Try.prog.info? 135).map (fun i => (i.zero, i.size, i.bytes)) = some (some (.agg #[(.int .i64 0), (.int .i64 0), (.bool false)]), 3, 24) := by kernel_rfl
structure S32 where
  f0 : Int
  f1 : Int
def z32 : S32 := ⟨(0 : Int), (0 : Int)⟩
def k32 : Kd S32 := Kd.iso (Kd.pair (Kd.int .i64) (Kd.int .i64)) (fun x : S32 => (x.f0, x.f1))
theorem k32_open {w : World} {x : S32} {cs : List Value} (h : k32.K w x cs) : cs = [.int .i64 x.f0, .int .i64 x.f1] := by
  obtain ⟨_, _, rfl, rfl, rfl⟩ := h
  exact rfl
theorem k32_mkM (w : World) (base : Nat) (ok : Nat → Prop) (x : S32)  : k32.M w base ok x [.int .i64 x.f0, .int .i64 x.f1] := ⟨[.int .i64 x.f0], [.int .i64 x.f1], rfl, rfl, rfl⟩
structure S40 where
  f0 : S32
  f1 : S32
def z40 : S40 := ⟨z32, z32⟩
def k40 : Kd S40 := Kd.iso (Kd.pair k32 k32) (fun x : S40 => (x.f0, x.f1))
theorem k40_open {w : World} {x : S40} {cs : List Value} (h : k40.K w x cs) : cs = [.int .i64 x.f0.f0, .int .i64 x.f0.f1, .int .i64 x.f1.f0, .int .i64 x.f1.f1] := by
  obtain ⟨_, _, rfl, s0, s2⟩ := h
  obtain rfl := k32_open s0
  obtain rfl := k32_open s2
  exact rfl
theorem k40_mkM (w : World) (base : Nat) (ok : Nat → Prop) (x : S40)  : k40.M w base ok x [.int .i64 x.f0.f0, .int .i64 x.f0.f1, .int .i64 x.f1.f0, .int .i64 x.f1.f1] := ⟨[.int .i64 x.f0.f0, .int .i64 x.f0.f1], [.int .i64 x.f1.f0, .int .i64 x.f1.f1], rfl, (k32_mkM w base ok x.f0 ), (k32_mkM w base ok x.f1 )⟩
def rd_T40 (xs : List S40) (i : Int) : S40 := xs.getD i.toNat z40
theorem at_T40 {w : World} {A : Option Addr} {n : Nat} {xs : List S40} (h : Kd.C k40 w A n xs) (i : Int) (h0 : 0 ≤ i) (h1 : i < n) : ∃ ad , A = some ad ∧ w.cell? (ad.add (i.toNat * 4)) = some (.int .i64 (rd_T40 xs i).f0.f0) ∧ w.cell? ⟨(ad.add (i.toNat * 4)).block, (ad.add (i.toNat * 4)).off + 1, none⟩ = some (.int .i64 (rd_T40 xs i).f0.f1) ∧ w.cell? ⟨(ad.add (i.toNat * 4)).block, (ad.add (i.toNat * 4)).off + 2, none⟩ = some (.int .i64 (rd_T40 xs i).f1.f0) ∧ w.cell? ⟨(ad.add (i.toNat * 4)).block, (ad.add (i.toNat * 4)).off + 3, none⟩ = some (.int .i64 (rd_T40 xs i).f1.f1) := by
  obtain ⟨ad, c, e, _, hK, hc0⟩ := Kd.C_get h z40 i h0 h1
  have hc : ∀ j u, c[j]? = some u → w.cell? (ad.add (i.toNat * 4 + j)) = some u := hc0
  obtain rfl := k40_open hK
  exact ⟨ad, e, hc 0 _ rfl, by rw [← add_field _ _ 1 (by omega)]; exact hc 1 _ rfl, by rw [← add_field _ _ 2 (by omega)]; exact hc 2 _ rfl, by rw [← add_field _ _ 3 (by omega)]; exact hc 3 _ rfl⟩
structure S36 where
  f0 : Int
  f1 : Int
structure S143 where
  f0 : S32
  f1 : S32
  f2 : S32
  f3 : Bool
def z143 : S143 := ⟨z32, z32, z32, false⟩
def k143 : Kd S143 := Kd.iso (Kd.pair k32 (Kd.pair k32 (Kd.pair k32 Kd.bool))) (fun x : S143 => (x.f0, x.f1, x.f2, x.f3))
theorem k143_open {w : World} {x : S143} {cs : List Value} (h : k143.K w x cs) : cs = [.int .i64 x.f0.f0, .int .i64 x.f0.f1, .int .i64 x.f1.f0, .int .i64 x.f1.f1, .int .i64 x.f2.f0, .int .i64 x.f2.f1, .bool x.f3] := by
  obtain ⟨_, _, rfl, s0, ⟨_, _, rfl, s2, ⟨_, _, rfl, s4, rfl⟩⟩⟩ := h
  obtain rfl := k32_open s0
  obtain rfl := k32_open s2
  obtain rfl := k32_open s4
  exact rfl
theorem k143_mkM (w : World) (base : Nat) (ok : Nat → Prop) (x : S143)  : k143.M w base ok x [.int .i64 x.f0.f0, .int .i64 x.f0.f1, .int .i64 x.f1.f0, .int .i64 x.f1.f1, .int .i64 x.f2.f0, .int .i64 x.f2.f1, .bool x.f3] := ⟨[.int .i64 x.f0.f0, .int .i64 x.f0.f1], [.int .i64 x.f1.f0, .int .i64 x.f1.f1, .int .i64 x.f2.f0, .int .i64 x.f2.f1, .bool x.f3], rfl, (k32_mkM w base ok x.f0 ), ⟨[.int .i64 x.f1.f0, .int .i64 x.f1.f1], [.int .i64 x.f2.f0, .int .i64 x.f2.f1, .bool x.f3], rfl, (k32_mkM w base ok x.f1 ), ⟨[.int .i64 x.f2.f0, .int .i64 x.f2.f1], [.bool x.f3], rfl, (k32_mkM w base ok x.f2 ), rfl⟩⟩⟩
def rd_T143 (xs : List S143) (i : Int) : S143 := xs.getD i.toNat z143
theorem at_T143 {w : World} {A : Option Addr} {n : Nat} {xs : List S143} (h : Kd.C k143 w A n xs) (i : Int) (h0 : 0 ≤ i) (h1 : i < n) : ∃ ad , A = some ad ∧ w.cell? (ad.add (i.toNat * 7)) = some (.int .i64 (rd_T143 xs i).f0.f0) ∧ w.cell? ⟨(ad.add (i.toNat * 7)).block, (ad.add (i.toNat * 7)).off + 1, none⟩ = some (.int .i64 (rd_T143 xs i).f0.f1) ∧ w.cell? ⟨(ad.add (i.toNat * 7)).block, (ad.add (i.toNat * 7)).off + 2, none⟩ = some (.int .i64 (rd_T143 xs i).f1.f0) ∧ w.cell? ⟨(ad.add (i.toNat * 7)).block, (ad.add (i.toNat * 7)).off + 3, none⟩ = some (.int .i64 (rd_T143 xs i).f1.f1) ∧ w.cell? ⟨(ad.add (i.toNat * 7)).block, (ad.add (i.toNat * 7)).off + 4, none⟩ = some (.int .i64 (rd_T143 xs i).f2.f0) ∧ w.cell? ⟨(ad.add (i.toNat * 7)).block, (ad.add (i.toNat * 7)).off + 5, none⟩ = some (.int .i64 (rd_T143 xs i).f2.f1) ∧ w.cell? ⟨(ad.add (i.toNat * 7)).block, (ad.add (i.toNat * 7)).off + 6, none⟩ = some (.bool (rd_T143 xs i).f3) := by
  obtain ⟨ad, c, e, _, hK, hc0⟩ := Kd.C_get h z143 i h0 h1
  have hc : ∀ j u, c[j]? = some u → w.cell? (ad.add (i.toNat * 7 + j)) = some u := hc0
  obtain rfl := k143_open hK
  exact ⟨ad, e, hc 0 _ rfl, by rw [← add_field _ _ 1 (by omega)]; exact hc 1 _ rfl, by rw [← add_field _ _ 2 (by omega)]; exact hc 2 _ rfl, by rw [← add_field _ _ 3 (by omega)]; exact hc 3 _ rfl, by rw [← add_field _ _ 4 (by omega)]; exact hc 4 _ rfl, by rw [← add_field _ _ 5 (by omega)]; exact hc 5 _ rfl, by rw [← add_field _ _ 6 (by omega)]; exact hc 6 _ rfl⟩
def rd_L7 (xs : List (List S143)) (i : Int) : (List S143) := xs.getD i.toNat ([] : List S143)
theorem at_L7 {w : World} {A : Option Addr} {n : Nat} {xs : List (List S143)} (h : Kd.C (Kd.slice 143 k143) w A n xs) (i : Int) (h0 : 0 ≤ i) (h1 : i < n) : ∃ ad A0 c0, A = some ad ∧ w.cell? (ad.add i.toNat) = some (.slice A0 (rd_L7 xs i).length c0) ∧ (rd_L7 xs i).length ≤ c0 ∧ k143.C w A0 (rd_L7 xs i).length (rd_L7 xs i) := by
  obtain ⟨ad, c, e, _, hK, hc0⟩ := Kd.C_get h ([] : List S143) i h0 h1
  have hc : ∀ j u, c[j]? = some u → w.cell? (ad.add (i.toNat * 1 + j)) = some u := hc0
  obtain ⟨A0, c0, rfl, l0, g0⟩ := hK
  exact ⟨ad, A0, c0, e, by have hq := hc 0 _ rfl; rwa [Nat.mul_one, Nat.add_zero] at hq, l0, g0⟩
structure S135 where
  f0 : Int
  f1 : Int
  f2 : Bool
def z135 : S135 := ⟨(0 : Int), (0 : Int), false⟩
def k135 : Kd S135 := Kd.iso (Kd.pair (Kd.int .i64) (Kd.pair (Kd.int .i64) Kd.bool)) (fun x : S135 => (x.f0, x.f1, x.f2))
theorem k135_open {w : World} {x : S135} {cs : List Value} (h : k135.K w x cs) : cs = [.int .i64 x.f0, .int .i64 x.f1, .bool x.f2] := by
  obtain ⟨_, _, rfl, rfl, ⟨_, _, rfl, rfl, rfl⟩⟩ := h
  exact rfl
theorem k135_mkM (w : World) (base : Nat) (ok : Nat → Prop) (x : S135)  : k135.M w base ok x [.int .i64 x.f0, .int .i64 x.f1, .bool x.f2] := ⟨[.int .i64 x.f0], [.int .i64 x.f1, .bool x.f2], rfl, rfl, ⟨[.int .i64 x.f1], [.bool x.f2], rfl, rfl, rfl⟩⟩
def rd_T135 (xs : List S135) (i : Int) : S135 := xs.getD i.toNat z135
theorem at_T135 {w : World} {A : Option Addr} {n : Nat} {xs : List S135} (h : Kd.C k135 w A n xs) (i : Int) (h0 : 0 ≤ i) (h1 : i < n) : ∃ ad , A = some ad ∧ w.cell? (ad.add (i.toNat * 3)) = some (.int .i64 (rd_T135 xs i).f0) ∧ w.cell? ⟨(ad.add (i.toNat * 3)).block, (ad.add (i.toNat * 3)).off + 1, none⟩ = some (.int .i64 (rd_T135 xs i).f1) ∧ w.cell? ⟨(ad.add (i.toNat * 3)).block, (ad.add (i.toNat * 3)).off + 2, none⟩ = some (.bool (rd_T135 xs i).f2) := by
  obtain ⟨ad, c, e, _, hK, hc0⟩ := Kd.C_get h z135 i h0 h1
  have hc : ∀ j u, c[j]? = some u → w.cell? (ad.add (i.toNat * 3 + j)) = some u := hc0
  obtain rfl := k135_open hK
  exact ⟨ad, e, hc 0 _ rfl, by rw [← add_field _ _ 1 (by omega)]; exact hc 1 _ rfl, by rw [← add_field _ _ 2 (by omega)]; exact hc 2 _ rfl⟩
def rd_L9 (xs : List (List S135)) (i : Int) : (List S135) := xs.getD i.toNat ([] : List S135)
theorem at_L9 {w : World} {A : Option Addr} {n : Nat} {xs : List (List S135)} (h : Kd.C (Kd.slice 135 k135) w A n xs) (i : Int) (h0 : 0 ≤ i) (h1 : i < n) : ∃ ad A0 c0, A = some ad ∧ w.cell? (ad.add i.toNat) = some (.slice A0 (rd_L9 xs i).length c0) ∧ (rd_L9 xs i).length ≤ c0 ∧ k135.C w A0 (rd_L9 xs i).length (rd_L9 xs i) := by
  obtain ⟨ad, c, e, _, hK, hc0⟩ := Kd.C_get h ([] : List S135) i h0 h1
  have hc : ∀ j u, c[j]? = some u → w.cell? (ad.add (i.toNat * 1 + j)) = some u := hc0
  obtain ⟨A0, c0, rfl, l0, g0⟩ := hK
  exact ⟨ad, A0, c0, e, by have hq := hc 0 _ rfl; rwa [Nat.mul_one, Nat.add_zero] at hq, l0, g0⟩
structure S133 where
  f0 : Int
  f1 : Int
  f2 : Bool
def z133 : S133 := ⟨(0 : Int), (0 : Int), false⟩
def k133 : Kd S133 := Kd.iso (Kd.pair (Kd.int .i16) (Kd.pair (Kd.int .i16) Kd.bool)) (fun x : S133 => (x.f0, x.f1, x.f2))
theorem k133_heap : Kd.Heap k133 := Kd.heap_iso _ (Kd.heap_pair (Kd.heap_int .i16) (Kd.heap_pair (Kd.heap_int .i16) Kd.heap_bool))
theorem k133_open {w : World} {x : S133} {cs : List Value} (h : k133.K w x cs) : cs = [.int .i16 x.f0, .int .i16 x.f1, .bool x.f2] := by
  obtain ⟨_, _, rfl, rfl, ⟨_, _, rfl, rfl, rfl⟩⟩ := h
  exact rfl
theorem k133_mk (w : World) (x : S133)  : k133.K w x [.int .i16 x.f0, .int .i16 x.f1, .bool x.f2] := ⟨[.int .i16 x.f0], [.int .i16 x.f1, .bool x.f2], rfl, rfl, ⟨[.int .i16 x.f1], [.bool x.f2], rfl, rfl, rfl⟩⟩
def rd_T133 (xs : List S133) (i : Int) : S133 := xs.getD i.toNat z133
theorem at_T133 {w : World} {A : Option Addr} {n : Nat} {xs : List S133} (h : Kd.C k133 w A n xs) (i : Int) (h0 : 0 ≤ i) (h1 : i < n) : ∃ ad , A = some ad ∧ w.cell? (ad.add (i.toNat * 3)) = some (.int .i16 (rd_T133 xs i).f0) ∧ w.cell? ⟨(ad.add (i.toNat * 3)).block, (ad.add (i.toNat * 3)).off + 1, none⟩ = some (.int .i16 (rd_T133 xs i).f1) ∧ w.cell? ⟨(ad.add (i.toNat * 3)).block, (ad.add (i.toNat * 3)).off + 2, none⟩ = some (.bool (rd_T133 xs i).f2) := by
  obtain ⟨ad, c, e, _, hK, hc0⟩ := Kd.C_get h z133 i h0 h1
  have hc : ∀ j u, c[j]? = some u → w.cell? (ad.add (i.toNat * 3 + j)) = some u := hc0
  obtain rfl := k133_open hK
  exact ⟨ad, e, hc 0 _ rfl, by rw [← add_field _ _ 1 (by omega)]; exact hc 1 _ rfl, by rw [← add_field _ _ 2 (by omega)]; exact hc 2 _ rfl⟩
def rd_L12 (xs : List (List S133)) (i : Int) : (List S133) := xs.getD i.toNat ([] : List S133)
theorem at_L12 {w : World} {A : Option Addr} {n : Nat} {xs : List (List S133)} (h : Kd.C (Kd.slice 133 k133) w A n xs) (i : Int) (h0 : 0 ≤ i) (h1 : i < n) : ∃ ad A0 c0, A = some ad ∧ w.cell? (ad.add i.toNat) = some (.slice A0 (rd_L12 xs i).length c0) ∧ (rd_L12 xs i).length ≤ c0 ∧ k133.C w A0 (rd_L12 xs i).length (rd_L12 xs i) := by
  obtain ⟨ad, c, e, _, hK, hc0⟩ := Kd.C_get h ([] : List S133) i h0 h1
  have hc : ∀ j u, c[j]? = some u → w.cell? (ad.add (i.toNat * 1 + j)) = some u := hc0
  obtain ⟨A0, c0, rfl, l0, g0⟩ := hK
  exact ⟨ad, A0, c0, e, by have hq := hc 0 _ rfl; rwa [Nat.mul_one, Nat.add_zero] at hq, l0, g0⟩
structure S26 where
  f0 : Int
  f1 : Int
structure S53 where
  f0 : Int
  f1 : Int
  f2 : Int
  f3 : Int
  f4 : Int
  f5 : Int
end Go.Proofs.Ytlljpjbhndcaiaa.Q
end
section
namespace Go.Proofs.Ytlljpjbhndcaiaa.Q
open Go.RowKit Go.Proofs.YtlljpjbhndcaiaaW.PrintWords Go.Proofs.YtlljpjbhndcaiaaW.PrintLast Go.Proofs.YtlljpjbhndcaiaaW.PrintMore
attribute [local go_sem] max2_int min2_int max_two min_two max_three min_three max_four min_four
set_option linter.unusedVariables false
set_option linter.unusedSimpArgs false
def path_half.f (a0_0 : Int) (a0_1 : Int) (a0_2 : Bool) (a1_0 : Int) (a1_1 : Int) (a1_2 : Bool) : Option (Int × Int) := some (wrap64 (a0_0 + a1_0), wrap64 (a0_1 + a1_1))
set_option maxHeartbeats 8000000 in
set_option maxRecDepth 100000 in
theorem path_half.calls (a0_0 : Int) (a0_1 : Int) (a0_2 : Bool) (a1_0 : Int) (a1_1 : Int) (a1_2 : Bool) (r1 : Int) (r2 : Int) (w : World) (h : path_half.f a0_0 a0_1 a0_2 a1_0 a1_1 a1_2 = some (r1, r2)) :
    Calls Try.prog 89 #[.agg #[.int .i64 a0_0, .int .i64 a0_1, .bool a0_2], .agg #[.int .i64 a1_0, .int .i64 a1_1, .bool a1_2]] w fun e w' => e = .returned (.agg #[.int .i64 r1, .int .i64 r2]) ∧ Below w.heap.size w w' := by
  have hu135 := Try.underlying135
  have hu32 := Try.underlying32
  have HB := Aside0.mk (Below.refl w.heap.size w)
  have H : (some (wrap64 (a0_0 + a1_0), wrap64 (a0_1 + a1_1))) = some (r1, r2) := h
  clear h
  simp only [Option.some.injEq, Prod.mk.injEq] at H
  obtain ⟨rfl, rfl⟩ := H
  go_enter Try.func89, Try.ntmps89
  go_wp2_with (first | ((with_reducible refine gate_dst (N := 2) rfl ?_); refine box_event ?hg (N := 2) ?hd (cs := #[.int .i64 a0_0, .int .i64 a0_1, .bool a0_2]) (t := 135) ?hr ?_; (case hd => rfl); (case hg => rfl); (case hr => first | (go_simp; done) | (go_simp; rfl)); intro gb171 hg w3 hbox hb; have n0_ := Aside0.mk (below_step (by repeat (first | (with_reducible first | exact HB.out | apply below_alloc | apply pw_below_drewN | apply below_drew1) | exact HB.out)) hb); have n1_ := Aside0.mk (hbox); have n2_ := Aside0.mk ((by rw [hg]; exact (below_size (by repeat (first | (with_reducible first | exact HB.out | apply below_alloc | apply pw_below_drewN | apply below_drew1) | exact HB.out))) : w.heap.size ≤ gb171)); have n3_ := Aside0.mk ((by rw [hg]; exact (below_size (by repeat (first | (with_reducible first | exact HB.out | apply below_alloc | apply pw_below_drewN | apply below_drew1) | exact HB.out))) : w.heap.size ≤ gb171)); clear HB; have HB := n0_; have BK171 := n1_; have GW171 := n2_; have GE171 := n3_; clear n0_ n1_ n2_ n3_; clear hb hbox hg) | ((with_reducible refine gate_dst (N := 3) rfl ?_); refine box_event ?hg (N := 3) ?hd (cs := #[.int .i64 a1_0, .int .i64 a1_1, .bool a1_2]) (t := 135) ?hr ?_; (case hd => rfl); (case hg => rfl); (case hr => first | (go_simp; done) | (go_simp; rfl)); intro gb172 hg w4 hbox hb; have n0_ := Aside0.mk (blk_below (g := gb171) (o := .cells #[.int .i64 a0_0, .int .i64 a0_1, .bool a0_2] 135 (0, 0)) (by (with_reducible repeat (first | refine blk_drewN ?_ _ | refine blk_drew ?_ | refine blk_alloc ?_ _)); exact BK171.out) hb); have n1_ := Aside0.mk (below_step (by repeat (first | (with_reducible first | exact HB.out | apply below_alloc | apply pw_below_drewN | apply below_drew1 | refine below_set ?_ GE171.out) | exact HB.out)) hb); have n2_ := Aside0.mk (hbox); have n3_ := Aside0.mk ((by rw [hg]; exact (below_size (by repeat (first | (with_reducible first | exact HB.out | apply below_alloc | apply pw_below_drewN | apply below_drew1 | refine below_set ?_ GE171.out) | exact HB.out))) : w.heap.size ≤ gb172)); have n4_ := Aside0.mk ((by rw [hg]; exact (below_size (by repeat (first | (with_reducible first | exact HB.out | apply below_alloc | apply pw_below_drewN | apply below_drew1 | refine below_set ?_ GE171.out) | exact HB.out))) : w.heap.size ≤ gb172)); have n5_ := Aside0.mk ((by rw [hg]; exact Nat.ne_of_lt (blk_lt (g := gb171) (o := .cells #[.int .i64 a0_0, .int .i64 a0_1, .bool a0_2] 135 (0, 0)) (by (with_reducible repeat (first | refine blk_drewN ?_ _ | refine blk_drew ?_ | refine blk_alloc ?_ _)); exact BK171.out)) : gb171 ≠ gb172)); have n6_ := Aside0.mk ((by rw [hg]; exact Nat.ne_of_gt (blk_lt (g := gb171) (o := .cells #[.int .i64 a0_0, .int .i64 a0_1, .bool a0_2] 135 (0, 0)) (by (with_reducible repeat (first | refine blk_drewN ?_ _ | refine blk_drew ?_ | refine blk_alloc ?_ _)); exact BK171.out)) : gb172 ≠ gb171)); clear BK171; clear HB; have BK171 := n0_; have HB := n1_; have BK172 := n2_; have GW172 := n3_; have GE172 := n4_; have NB171_172 := n5_; have NB172_171 := n6_; clear n0_ n1_ n2_ n3_ n4_ n5_ n6_; clear hb hbox hg) | ((with_reducible refine gate_dst (N := 4) rfl ?_); refine box_event ?hg (N := 4) ?hd (cs := #[.int .i64 0, .int .i64 0]) (t := 32) ?hr ?_; (case hd => rfl); (case hg => rfl); (case hr => first | (go_simp; done) | (go_simp; rfl)); intro gb173 hg w5 hbox hb; have n0_ := Aside0.mk (blk_below (g := gb171) (o := .cells #[.int .i64 a0_0, .int .i64 a0_1, .bool a0_2] 135 (0, 0)) (by (with_reducible repeat (first | refine blk_drewN ?_ _ | refine blk_drew ?_ | refine blk_alloc ?_ _)); exact BK171.out) hb); have n1_ := Aside0.mk (blk_below (g := gb172) (o := .cells #[.int .i64 a1_0, .int .i64 a1_1, .bool a1_2] 135 (0, 0)) (by (with_reducible repeat (first | refine blk_drewN ?_ _ | refine blk_drew ?_ | refine blk_alloc ?_ _)); exact BK172.out) hb); have n2_ := Aside0.mk (below_step (by repeat (first | (with_reducible first | exact HB.out | apply below_alloc | apply pw_below_drewN | apply below_drew1 | refine below_set ?_ GE171.out | refine below_set ?_ GE172.out) | exact HB.out)) hb); have n3_ := Aside0.mk (hbox); have n4_ := Aside0.mk ((by rw [hg]; exact (below_size (by repeat (first | (with_reducible first | exact HB.out | apply below_alloc | apply pw_below_drewN | apply below_drew1 | refine below_set ?_ GE171.out | refine below_set ?_ GE172.out) | exact HB.out))) : w.heap.size ≤ gb173)); have n5_ := Aside0.mk ((by rw [hg]; exact (below_size (by repeat (first | (with_reducible first | exact HB.out | apply below_alloc | apply pw_below_drewN | apply below_drew1 | refine below_set ?_ GE171.out | refine below_set ?_ GE172.out) | exact HB.out))) : w.heap.size ≤ gb173)); have n6_ := Aside0.mk ((by rw [hg]; exact Nat.ne_of_lt (blk_lt (g := gb171) (o := .cells #[.int .i64 a0_0, .int .i64 a0_1, .bool a0_2] 135 (0, 0)) (by (with_reducible repeat (first | refine blk_drewN ?_ _ | refine blk_drew ?_ | refine blk_alloc ?_ _)); exact BK171.out)) : gb171 ≠ gb173)); have n7_ := Aside0.mk ((by rw [hg]; exact Nat.ne_of_gt (blk_lt (g := gb171) (o := .cells #[.int .i64 a0_0, .int .i64 a0_1, .bool a0_2] 135 (0, 0)) (by (with_reducible repeat (first | refine blk_drewN ?_ _ | refine blk_drew ?_ | refine blk_alloc ?_ _)); exact BK171.out)) : gb173 ≠ gb171)); have n8_ := Aside0.mk ((by rw [hg]; exact Nat.ne_of_lt (blk_lt (g := gb172) (o := .cells #[.int .i64 a1_0, .int .i64 a1_1, .bool a1_2] 135 (0, 0)) (by (with_reducible repeat (first | refine blk_drewN ?_ _ | refine blk_drew ?_ | refine blk_alloc ?_ _)); exact BK172.out)) : gb172 ≠ gb173)); have n9_ := Aside0.mk ((by rw [hg]; exact Nat.ne_of_gt (blk_lt (g := gb172) (o := .cells #[.int .i64 a1_0, .int .i64 a1_1, .bool a1_2] 135 (0, 0)) (by (with_reducible repeat (first | refine blk_drewN ?_ _ | refine blk_drew ?_ | refine blk_alloc ?_ _)); exact BK172.out)) : gb173 ≠ gb172)); clear BK171; clear BK172; clear HB; have BK171 := n0_; have BK172 := n1_; have HB := n2_; have BK173 := n3_; have GW173 := n4_; have GE173 := n5_; have NB171_173 := n6_; have NB173_171 := n7_; have NB172_173 := n8_; have NB173_172 := n9_; clear n0_ n1_ n2_ n3_ n4_ n5_ n6_ n7_ n8_ n9_; clear hb hbox hg; have hnb6 := NB171_172.out; have hnc6 := NB172_171.out; have hnb7 := NB171_173.out; have hnc7 := NB173_171.out; have hcz8_0 : w5.cell? ⟨gb171, 0, none⟩ = some (.int .i64 a0_0) := (blk_cell BK171.out 0).trans rfl; have hcz8_1 : w5.cell? ⟨gb171, 1, none⟩ = some (.int .i64 a0_1) := (blk_cell BK171.out 1).trans rfl; have hcz8_2 : w5.cell? ⟨gb171, 2, none⟩ = some (.bool a0_2) := (blk_cell BK171.out 2).trans rfl; have hfz8_0 := blk_frozen BK171.out 0; have hfz8_1 := blk_frozen BK171.out 1; have hfz8_2 := blk_frozen BK171.out 2; have hnb9 := NB172_173.out; have hnc9 := NB173_172.out; have hcz10_0 : w5.cell? ⟨gb172, 0, none⟩ = some (.int .i64 a1_0) := (blk_cell BK172.out 0).trans rfl; have hcz10_1 : w5.cell? ⟨gb172, 1, none⟩ = some (.int .i64 a1_1) := (blk_cell BK172.out 1).trans rfl; have hcz10_2 : w5.cell? ⟨gb172, 2, none⟩ = some (.bool a1_2) := (blk_cell BK172.out 2).trans rfl; have hfz10_0 := blk_frozen BK172.out 0; have hfz10_1 := blk_frozen BK172.out 1; have hfz10_2 := blk_frozen BK172.out 2; have hcz11_0 : w5.cell? ⟨gb173, 0, none⟩ = some (.int .i64 0) := (blk_cell BK173.out 0).trans rfl; have hcz11_1 : w5.cell? ⟨gb173, 1, none⟩ = some (.int .i64 0) := (blk_cell BK173.out 1).trans rfl; have hfz11_0 := blk_frozen BK173.out 0; have hfz11_1 := blk_frozen BK173.out 1))
  refine bodyPost_ret (results_cell_row rfl _ _ gb173 32 #[.int .i64 (wrap64 (a0_0 + a1_0)), .int .i64 (wrap64 (a0_1 + a1_1))] (0, 0) _ rfl (by (with_reducible repeat (first | refine blk_drewN ?_ _ | refine blk_drew ?_ | refine blk_alloc ?_ _)); refine blk_put (cs := #[.int .i64 (wrap64 (a0_0 + a1_0)), .int .i64 0]) ?_ 1 _ rfl; (with_reducible repeat (first | refine blk_drewN ?_ _ | refine blk_drew ?_ | refine blk_alloc ?_ _)); refine blk_put (cs := #[.int .i64 0, .int .i64 0]) ?_ 0 _ rfl; (with_reducible repeat (first | refine blk_drewN ?_ _ | refine blk_drew ?_ | refine blk_alloc ?_ _)); exact BK173.out) Try.underlying32 rfl (by kernel_rfl)) rfl ?_
  exact ⟨by first | rfl | (simp [errW_none, errW_some] <;> rfl) | (simp [*, errW_none, errW_some] <;> rfl), by repeat (first | (with_reducible first | exact HB.out | apply below_alloc | apply pw_below_drewN | apply below_drew1 | refine below_set ?_ GE171.out | refine below_set ?_ GE172.out | refine below_set ?_ GE173.out) | exact HB.out)⟩
end Go.Proofs.Ytlljpjbhndcaiaa.Q
end
section
namespace Go.Proofs.Ytlljpjbhndcaiaa.Q
open Go.RowKit Go.Proofs.YtlljpjbhndcaiaaW.PrintWords Go.Proofs.YtlljpjbhndcaiaaW.PrintLast Go.Proofs.YtlljpjbhndcaiaaW.PrintMore
attribute [local go_sem] max2_int min2_int max_two min_two max_three min_three max_four min_four
set_option linter.unusedVariables false
set_option linter.unusedSimpArgs false
def path_at.f (a0_0 : Int) (a0_1 : Int) (a0_2 : Bool) : Option (Int × Int) := some (wrap64 (2 * a0_0), wrap64 (2 * a0_1))
set_option maxHeartbeats 8000000 in
set_option maxRecDepth 100000 in
theorem path_at.calls (a0_0 : Int) (a0_1 : Int) (a0_2 : Bool) (r1 : Int) (r2 : Int) (w : World) (h : path_at.f a0_0 a0_1 a0_2 = some (r1, r2)) :
    Calls Try.prog 90 #[.agg #[.int .i64 a0_0, .int .i64 a0_1, .bool a0_2]] w fun e w' => e = .returned (.agg #[.int .i64 r1, .int .i64 r2]) ∧ Below w.heap.size w w' := by
  have hu135 := Try.underlying135
  have hu32 := Try.underlying32
  have HB := Aside0.mk (Below.refl w.heap.size w)
  have H : (some (wrap64 (2 * a0_0), wrap64 (2 * a0_1))) = some (r1, r2) := h
  clear h
  simp only [Option.some.injEq, Prod.mk.injEq] at H
  obtain ⟨rfl, rfl⟩ := H
  go_enter Try.func90, Try.ntmps90
  go_wp2_with (first | ((with_reducible refine gate_dst (N := 1) rfl ?_); refine box_event ?hg (N := 1) ?hd (cs := #[.int .i64 a0_0, .int .i64 a0_1, .bool a0_2]) (t := 135) ?hr ?_; (case hd => rfl); (case hg => rfl); (case hr => first | (go_simp; done) | (go_simp; rfl)); intro gb174 hg w2 hbox hb; have n0_ := Aside0.mk (below_step (by repeat (first | (with_reducible first | exact HB.out | apply below_alloc | apply pw_below_drewN | apply below_drew1) | exact HB.out)) hb); have n1_ := Aside0.mk (hbox); have n2_ := Aside0.mk ((by rw [hg]; exact (below_size (by repeat (first | (with_reducible first | exact HB.out | apply below_alloc | apply pw_below_drewN | apply below_drew1) | exact HB.out))) : w.heap.size ≤ gb174)); have n3_ := Aside0.mk ((by rw [hg]; exact (below_size (by repeat (first | (with_reducible first | exact HB.out | apply below_alloc | apply pw_below_drewN | apply below_drew1) | exact HB.out))) : w.heap.size ≤ gb174)); clear HB; have HB := n0_; have BK174 := n1_; have GW174 := n2_; have GE174 := n3_; clear n0_ n1_ n2_ n3_; clear hb hbox hg) | ((with_reducible refine gate_dst (N := 2) rfl ?_); refine box_event ?hg (N := 2) ?hd (cs := #[.int .i64 0, .int .i64 0]) (t := 32) ?hr ?_; (case hd => rfl); (case hg => rfl); (case hr => first | (go_simp; done) | (go_simp; rfl)); intro gb175 hg w3 hbox hb; have n0_ := Aside0.mk (blk_below (g := gb174) (o := .cells #[.int .i64 a0_0, .int .i64 a0_1, .bool a0_2] 135 (0, 0)) (by (with_reducible repeat (first | refine blk_drewN ?_ _ | refine blk_drew ?_ | refine blk_alloc ?_ _)); exact BK174.out) hb); have n1_ := Aside0.mk (below_step (by repeat (first | (with_reducible first | exact HB.out | apply below_alloc | apply pw_below_drewN | apply below_drew1 | refine below_set ?_ GE174.out) | exact HB.out)) hb); have n2_ := Aside0.mk (hbox); have n3_ := Aside0.mk ((by rw [hg]; exact (below_size (by repeat (first | (with_reducible first | exact HB.out | apply below_alloc | apply pw_below_drewN | apply below_drew1 | refine below_set ?_ GE174.out) | exact HB.out))) : w.heap.size ≤ gb175)); have n4_ := Aside0.mk ((by rw [hg]; exact (below_size (by repeat (first | (with_reducible first | exact HB.out | apply below_alloc | apply pw_below_drewN | apply below_drew1 | refine below_set ?_ GE174.out) | exact HB.out))) : w.heap.size ≤ gb175)); have n5_ := Aside0.mk ((by rw [hg]; exact Nat.ne_of_lt (blk_lt (g := gb174) (o := .cells #[.int .i64 a0_0, .int .i64 a0_1, .bool a0_2] 135 (0, 0)) (by (with_reducible repeat (first | refine blk_drewN ?_ _ | refine blk_drew ?_ | refine blk_alloc ?_ _)); exact BK174.out)) : gb174 ≠ gb175)); have n6_ := Aside0.mk ((by rw [hg]; exact Nat.ne_of_gt (blk_lt (g := gb174) (o := .cells #[.int .i64 a0_0, .int .i64 a0_1, .bool a0_2] 135 (0, 0)) (by (with_reducible repeat (first | refine blk_drewN ?_ _ | refine blk_drew ?_ | refine blk_alloc ?_ _)); exact BK174.out)) : gb175 ≠ gb174)); clear BK174; clear HB; have BK174 := n0_; have HB := n1_; have BK175 := n2_; have GW175 := n3_; have GE175 := n4_; have NB174_175 := n5_; have NB175_174 := n6_; clear n0_ n1_ n2_ n3_ n4_ n5_ n6_; clear hb hbox hg; have hnb4 := NB174_175.out; have hnc4 := NB175_174.out; have hcz5_0 : w3.cell? ⟨gb174, 0, none⟩ = some (.int .i64 a0_0) := (blk_cell BK174.out 0).trans rfl; have hcz5_1 : w3.cell? ⟨gb174, 1, none⟩ = some (.int .i64 a0_1) := (blk_cell BK174.out 1).trans rfl; have hcz5_2 : w3.cell? ⟨gb174, 2, none⟩ = some (.bool a0_2) := (blk_cell BK174.out 2).trans rfl; have hfz5_0 := blk_frozen BK174.out 0; have hfz5_1 := blk_frozen BK174.out 1; have hfz5_2 := blk_frozen BK174.out 2; have hcz6_0 : w3.cell? ⟨gb175, 0, none⟩ = some (.int .i64 0) := (blk_cell BK175.out 0).trans rfl; have hcz6_1 : w3.cell? ⟨gb175, 1, none⟩ = some (.int .i64 0) := (blk_cell BK175.out 1).trans rfl; have hfz6_0 := blk_frozen BK175.out 0; have hfz6_1 := blk_frozen BK175.out 1))
  refine bodyPost_ret (results_cell_row rfl _ _ gb175 32 #[.int .i64 (wrap64 (2 * a0_0)), .int .i64 (wrap64 (2 * a0_1))] (0, 0) _ rfl (by (with_reducible repeat (first | refine blk_drewN ?_ _ | refine blk_drew ?_ | refine blk_alloc ?_ _)); refine blk_put (cs := #[.int .i64 (wrap64 (2 * a0_0)), .int .i64 0]) ?_ 1 _ rfl; (with_reducible repeat (first | refine blk_drewN ?_ _ | refine blk_drew ?_ | refine blk_alloc ?_ _)); refine blk_put (cs := #[.int .i64 0, .int .i64 0]) ?_ 0 _ rfl; (with_reducible repeat (first | refine blk_drewN ?_ _ | refine blk_drew ?_ | refine blk_alloc ?_ _)); exact BK175.out) Try.underlying32 rfl (by kernel_rfl)) rfl ?_
  exact ⟨by first | rfl | (simp [errW_none, errW_some] <;> rfl) | (simp [*, errW_none, errW_some] <;> rfl), by repeat (first | (with_reducible first | exact HB.out | apply below_alloc | apply pw_below_drewN | apply below_drew1 | refine below_set ?_ GE174.out | refine below_set ?_ GE175.out) | exact HB.out)⟩
end Go.Proofs.Ytlljpjbhndcaiaa.Q
end
section
namespace Go.Proofs.Ytlljpjbhndcaiaa.Q
open Go.RowKit Go.Proofs.YtlljpjbhndcaiaaW.PrintWords Go.Proofs.YtlljpjbhndcaiaaW.PrintLast Go.Proofs.YtlljpjbhndcaiaaW.PrintMore
attribute [local go_sem] max2_int min2_int max_two min_two max_three min_three max_four min_four
set_option linter.unusedVariables false
set_option linter.unusedSimpArgs false
theorem path_i143 : (Try.prog.info? 143).map (fun i => (i.zero, i.size, i.bytes)) = some (some (.agg #[.int .i64 0, .int .i64 0, .int .i64 0, .int .i64 0, .int .i64 0, .int .i64 0, .bool false]), 7, 56) := by kernel_rfl
def path_Keep (g g' : Nat) (w W : World) : Prop := w.heap.size ≤ W.heap.size ∧ ∀ b cs t, w.heap[b]? = some (.cells cs t (0, 0)) → t ≠ 143 → b ≠ g → b ≠ g' → W.heap[b]? = some (.cells cs t (0, 0))
theorem path_Keep.refl (g g' : Nat) (w : World) : path_Keep g g' w w := ⟨Nat.le_refl _, fun _ _ _ h _ _ _ => h⟩
theorem path_Keep.below {g g' : Nat} {w W W' : World} (h : path_Keep g g' w W) (hb : Below W.heap.size W W') : path_Keep g g' w W' :=
  ⟨Nat.le_trans h.1 hb.size, fun b cs t h1 h2 h3 h4 => by
    have := h.2 b cs t h1 h2 h3 h4
    exact (hb.block _ (Array.getElem?_eq_some_iff.1 this).1).trans this⟩
theorem path_Keep.grown {g g' : Nat} {w W W' : World} {v : Value} {xs : List S143} {base : Nat} {ok : Nat → Prop} (h : path_Keep g g' w W) (hR : Kd.R k143 143 W base ok v xs) (hg : W.grownBy W' v.ownBlock) : path_Keep g g' w W' :=
  ⟨Nat.le_trans h.1 hg.size, fun b cs t h1 h2 h3 h4 => by
    have := h.2 b cs t h1 h2 h3 h4
    exact (hg.block _ (Array.getElem?_eq_some_iff.1 this).1 (Kd.R_ne hR this (fun hh => h2 hh.symm))).trans this⟩
theorem path_Keep.set {g g' q o : Nat} {w W : World} (h : path_Keep g g' w W) (hq : q = g ∨ q = g') (u : Value) : path_Keep g g' w (W.setCell ⟨q, o, none⟩ u) :=
  ⟨by simpa using h.1, fun b cs t h1 h2 h3 h4 => hset (h.2 b cs t h1 h2 h3 h4) (by rcases hq with rfl | rfl <;> assumption) u⟩
def path_seg (here : S32) (pull : Option S135) (p : S32) : S143 :=
  match pull with
  | none => ⟨here, here, p, false⟩
  | some v => ⟨here, ⟨wrap64 (2 * v.f0), wrap64 (2 * v.f1)⟩, p, true⟩
def path_St (base go gh gp : Nat) (w0 : World) (v : Value) (xs : List S143) (here : S32) (pull : Option S135) (W : World) : Prop :=
  W.heap[go]? = some (.cells #[v] 128 (0, 0)) ∧ Kd.R k143 143 W base (fun _ => True) v xs ∧ Below base w0 W ∧ W.heap[gh]? = some (.cells #[.int .i64 here.f0, .int .i64 here.f1] 32 (0, 0)) ∧
    match pull with
    | none => W.heap[gp]? = some (.cells #[.pointer none] 147 (0, 0))
    | some q => ∃ gv, W.heap[gp]? = some (.cells #[.pointer (some ⟨gv, 0, none⟩)] 147 (0, 0)) ∧ W.heap[gv]? = some (.cells #[.int .i64 q.f0, .int .i64 q.f1, .bool q.f2] 135 (0, 0))
def path_Put (base go gh gp : Nat) (w0 w : World) (ys : List S143) (p : S32) (pull : Option S135) (e : Ending) (w' : World) : Prop :=
  ∃ v' : Value, e = .returned (.tuple #[]) ∧ Aside0 (path_St base go gh gp w0 v' ys p pull w') ∧ Aside0 (path_Keep go gh w w')
theorem path_St.mk' {base go gh gp : Nat} {w0 w W' : World} {v v' : Value} {xs ys : List S143} {here p : S32} {pull : Option S135} (h : path_St base go gh gp w0 v xs here pull w) (hne : go ≠ gp ∧ gh ≠ gp) (hgv : True) (hk : path_Keep go gh w W')
    (h1 : W'.heap[go]? = some (.cells #[v'] 128 (0, 0))) (h2 : Kd.R k143 143 W' base (fun _ => True) v' ys) (h3 : Below base w0 W') (h4 : W'.heap[gh]? = some (.cells #[.int .i64 p.f0, .int .i64 p.f1] 32 (0, 0))) : path_St base go gh gp w0 v' ys p pull W' := by
  obtain ⟨a1, a2, a3, a4, a5⟩ := h
  refine ⟨h1, h2, h3, h4, ?_⟩
  cases pull with
  | none => exact hk.2 _ _ _ a5 (by decide) hne.1.symm hne.2.symm
  | some q =>
    obtain ⟨gv, b1, b2⟩ := a5
    refine ⟨gv, hk.2 _ _ _ b1 (by decide) hne.1.symm hne.2.symm, hk.2 _ _ _ b2 (by decide) ?_ ?_⟩
    · rintro rfl; rw [a1] at b2; simp at b2
    · rintro rfl; rw [a4] at b2; simp at b2
set_option maxHeartbeats 2000000 in
theorem path_end_none (px py : Int) (base go gh gp : Nat) (v : Value) (xs : List S143) (here : S32) (w0 w : World) (h : path_St base go gh gp w0 v xs here none w) (hne : go ≠ gp ∧ gh ≠ gp) (hgg : go ≠ gh) (hb : base ≤ go) (hbh : base ≤ gh) (hl : (xs.length + 1) * 56 ≤ 140737488355328) :
    Calls Try.prog 91 #[.agg #[.int .i64 px, .int .i64 py], .pointer (some ⟨gp, 0, none⟩), .pointer (some ⟨go, 0, none⟩), .pointer (some ⟨gh, 0, none⟩)] w
      (path_Put base go gh gp w0 w (xs ++ [path_seg here none ⟨px, py⟩]) ⟨px, py⟩ none) := by
  have H := Aside0.mk h
  obtain ⟨hgo, hR, hB, hgh, hgp⟩ := h
  have hgol := (Array.getElem?_eq_some_iff.1 hgo).1
  have hghl := (Array.getElem?_eq_some_iff.1 hgh).1
  obtain ⟨W0, e0, e1, f0, f1, a0, z0, q0, hs, HB, HR0, HK, hsz, hbx, hgo0, hgh0, hW0⟩ : ∃ W0 : World, W0.cell? ⟨w.heap.size, 0, none⟩ = some (.int .i64 px) ∧ W0.cell? ⟨w.heap.size, 1, none⟩ = some (.int .i64 py) ∧ W0.cell? ⟨gh, 0, none⟩ = some (.int .i64 here.f0) ∧ W0.cell? ⟨gh, 1, none⟩ = some (.int .i64 here.f1)
      ∧ W0.cell? ⟨go, 0, none⟩ = some v ∧ W0.frozen? ⟨go, 0, none⟩ = false ∧ W0.cell? ⟨gp, 0, none⟩ = some (.pointer none) ∧ base ≤ W0.heap.size ∧ Aside0 (Below base w0 W0) ∧ Aside0 (Kd.R k143 143 W0 base (fun _ => True) v xs) ∧ Aside0 (path_Keep go gh w W0) ∧ w.heap.size < W0.heap.size ∧ Aside0 (W0.heap[w.heap.size]? = some (.cells #[.int .i64 px, .int .i64 py] 32 (0, 0))) ∧ Aside0 (W0.heap[go]? = some (.cells #[v] 128 (0, 0))) ∧ Aside0 (W0.heap[gh]? = some (.cells #[.int .i64 here.f0, .int .i64 here.f1] 32 (0, 0))) ∧
      W0 = (w.alloc (.cells #[.int .i64 px, .int .i64 py] 32)) := by
    obtain ⟨q, z⟩ := cells1 hgo
    obtain ⟨q', _⟩ := cells1 hgp
    obtain ⟨r0, r1, _, _⟩ := cells2 hgh
    exact ⟨_, by go_simp, by go_simp, calloc r0 _, calloc r1 _, calloc q _, falloc q z _, calloc q' _, by simp; omega, ⟨hB.alloc (by omega) _⟩, ⟨Kd.R_below hR (balloc (Below.refl _ _) _)⟩, ⟨(path_Keep.refl _ _ _).below (balloc (Below.refl _ _) _)⟩, by simp, ⟨hnew _ _ rfl⟩, ⟨halloc hgo _⟩, ⟨halloc hgh _⟩, rfl⟩
  have HL := Aside0.mk hl
  clear hl hR hB hgo hgh hgp
  go_enter Try.func91, Try.ntmps91
  go_upto_region 1 with fail
  rw [← hW0]
  clear hW0
  go_wp2_with ((at_builtin; refine Kd.R_append k143 (w0 := w0) base rfl (.tmp 7) (.tmp 12) 128 143 (.agg #[.int .i64 0, .int .i64 0, .int .i64 0, .int .i64 0, .int .i64 0, .int .i64 0, .bool false]) 56 rfl Try.underlying128 path_i143 rfl (by decide) (by omega) v xs (path_seg here none ⟨px, py⟩) [.int .i64 here.f0, .int .i64 here.f1, .int .i64 here.f0, .int .i64 here.f1, .int .i64 px, .int .i64 py, .bool false] (fun _ => True) (fun _ => False) rfl (by first | (go_simp; done) | (go_simp; rfl)) (k143_mkM _ _ _ _) (fun _ hk => hk.elim) (fun _ _ => trivial) HR0.out HB.out (by simpa using hs) HL.out ?_; intro v1 w1 ho hb1 hgr hat; obtain ⟨A1, k1, rfl⟩ := Kd.R_slice ho; simp only [List.length_append, List.length_cons, List.length_nil, Nat.zero_add] at ho; have hk1 := HK.out.grown HR0.out hgr; have hg1 := (hgr.block go (by omega) (Kd.R_ne HR0.out hgo0.out (by decide))).trans hgo0.out; have hg2 := (hgr.block gh (by omega) (Kd.R_ne HR0.out hgh0.out (by decide))).trans hgh0.out; obtain ⟨q1, z1⟩ := cells1 hg1; obtain ⟨r0, r1, z2, z3⟩ := cells2 hg2; have hpx := (hgr.cell_far ⟨w.heap.size, 0, none⟩ (by omega) (Kd.R_ne HR0.out hbx.out (by decide))).trans e0; have hpy := (hgr.cell_far ⟨w.heap.size, 1, none⟩ (by omega) (Kd.R_ne HR0.out hbx.out (by decide))).trans e1; have HO := Aside0.mk ho; have HB1 := Aside0.mk hb1; have HK1 := Aside0.mk hk1; have HG1 := Aside0.mk hg1; have HG2 := Aside0.mk hg2; clear ho hb1 hgr hat hg1 hg2 hk1))
  go_end0
  have hk := ((HK1.out.set (o := 0) (.inl rfl) (.slice A1 (xs.length + 1) k1)).set (o := 0) (.inr rfl) (.int .i64 px)).set (o := 1) (.inr rfl) (.int .i64 py)
  have hgo2 := hset1 (x := .slice A1 (xs.length + 1) k1) HG1.out
  have hgh2 := hset (o := 0) HG2.out hgg.symm (.slice A1 (xs.length + 1) k1)
  have r1 := Kd.R_set HO.out HG1.out (by decide) 0 (.slice A1 (xs.length + 1) k1)
  have r2 := Kd.R_set r1 hgh2 (by decide) 0 (.int .i64 px)
  have r3 := Kd.R_set r2 (hset0 hgh2) (by decide) 1 (.int .i64 py)
  exact ⟨_, rfl, ⟨path_St.mk' H.out hne trivial hk (hset (hset hgo2 hgg _) hgg _) r3 (((HB1.out.setCell (p := ⟨go, 0, none⟩) hb _).setCell (p := ⟨gh, 0, none⟩) hbh _).setCell (p := ⟨gh, 1, none⟩) hbh _) (hset2 hgh2)⟩, ⟨hk⟩⟩
theorem path_cells3 {W : World} {g t : Nat} {a b c : Value} (h : W.heap[g]? = some (.cells #[a, b, c] t (0, 0))) : W.cell? ⟨g, 0, none⟩ = some a ∧ W.cell? ⟨g, 1, none⟩ = some b ∧ W.cell? ⟨g, 2, none⟩ = some c := by
  refine ⟨?_, ?_, ?_⟩ <;> simp [World.cell?, h]
set_option maxHeartbeats 8000000 in
set_option maxRecDepth 100000 in
theorem path_end_some (px py : Int) (base go gh gp : Nat) (v : Value) (xs : List S143) (here : S32) (q : S135) (w0 w : World) (h : path_St base go gh gp w0 v xs here (some q) w) (hne : go ≠ gp ∧ gh ≠ gp) (hgg : go ≠ gh) (hb : base ≤ go) (hbh : base ≤ gh) (hl : (xs.length + 1) * 56 ≤ 140737488355328) :
    Calls Try.prog 91 #[.agg #[.int .i64 px, .int .i64 py], .pointer (some ⟨gp, 0, none⟩), .pointer (some ⟨go, 0, none⟩), .pointer (some ⟨gh, 0, none⟩)] w
      (path_Put base go gh gp w0 w (xs ++ [path_seg here (some q) ⟨px, py⟩]) ⟨px, py⟩ (some q)) := by
  have H := Aside0.mk h
  obtain ⟨hgo, hR, hB, hgh, gv, hgp, hgv⟩ := h
  have hgol := (Array.getElem?_eq_some_iff.1 hgo).1
  have hghl := (Array.getElem?_eq_some_iff.1 hgh).1
  have hgvo : gv ≠ go := by rintro rfl; rw [hgo] at hgv; simp at hgv
  have hbxo : w.heap.size ≠ go := by omega
  obtain ⟨W0, q0, hbase, HB0, HR0, hK0, hbx, hgo0, hgh0, hgp0, hgv0, hW0⟩ : ∃ W0 : World, W0.cell? ⟨gp, 0, none⟩ = some (.pointer (some ⟨gv, 0, none⟩)) ∧ base ≤ W0.heap.size ∧ Aside0 (Below base w0 W0) ∧ Aside0 (Kd.R k143 143 W0 base (fun _ => True) v xs) ∧ Aside0 (path_Keep go gh w W0) ∧ Aside0 (W0.heap[w.heap.size]? = some (.cells #[.int .i64 px, .int .i64 py] 32 (0, 0))) ∧ Aside0 (W0.heap[go]? = some (.cells #[v] 128 (0, 0))) ∧ Aside0 (W0.heap[gh]? = some (.cells #[.int .i64 here.f0, .int .i64 here.f1] 32 (0, 0))) ∧ Aside0 (W0.heap[gp]? = some (.cells #[.pointer (some ⟨gv, 0, none⟩)] 147 (0, 0))) ∧ Aside0 (W0.heap[gv]? = some (.cells #[.int .i64 q.f0, .int .i64 q.f1, .bool q.f2] 135 (0, 0))) ∧
      W0 = (w.alloc (.cells #[.int .i64 px, .int .i64 py] 32)) := by
    obtain ⟨q', _⟩ := cells1 hgp
    exact ⟨_, calloc q' _, by simp; omega, ⟨hB.alloc (by omega) _⟩, ⟨Kd.R_below hR (balloc (Below.refl _ _) _)⟩, ⟨(path_Keep.refl _ _ _).below (balloc (Below.refl _ _) _)⟩, ⟨hnew _ _ rfl⟩, ⟨halloc hgo _⟩, ⟨halloc hgh _⟩, ⟨halloc hgp _⟩, ⟨halloc hgv _⟩, rfl⟩
  have HK0 := Aside0.mk (path_Keep.refl go go W0)
  have HL := Aside0.mk hl
  clear hl hR hB hgo hgh hgp hgv
  go_enter Try.func91, Try.ntmps91
  go_upto_region 1 with fail
  rw [← hW0]
  clear hW0
  go_upto_region 3 with fail
  refine region_inv (n := 11) (by kernel_rfl) [[], [], [], [2], [3], [4], [], [1, 5, 6], [7], [0, 8], [0, 1, 2, 3, 4, 5, 6, 7, 8, 9]] (fun l a W => ∃ v14 v15 v16 v17 v18 v19 v20 v21 v22 v23 : Value, a = ({ tmps := #[.agg #[.int .i64 px, .int .i64 py], .pointer (some ⟨gp, 0, none⟩), .pointer (some ⟨go, 0, none⟩), .pointer (some ⟨gh, 0, none⟩), .pointer (some ⟨w.heap.size, 0, none⟩), .pointer (some ⟨gv, 0, none⟩), .bool false, undef, undef, undef, undef, undef, undef, undef, v14, v15, v16, v17, v18, v19, v20, v21, v22, v23, undef], defers := [] } : Act) ∧ path_Keep go go W0 W ∧ Below base w0 W ∧ (l.getD 0 false = true → v14 = v) ∧ (l.getD 1 false = true → v15 = .agg #[.int .i64 here.f0, .int .i64 here.f1]) ∧ (l.getD 2 false = true → v16 = .pointer (some ⟨gv, 0, none⟩)) ∧ (l.getD 3 false = true → v17 = .pointer (some ⟨gv, 0, none⟩)) ∧ (l.getD 4 false = true → v18 = .agg #[.int .i64 q.f0, .int .i64 q.f1, .bool q.f2]) ∧ (l.getD 5 false = true → v19 = .agg #[.int .i64 (wrap64 (2 * q.f0)), .int .i64 (wrap64 (2 * q.f1))]) ∧ (l.getD 6 false = true → v20 = .agg #[.int .i64 px, .int .i64 py]) ∧ (l.getD 7 false = true → v21 = .agg #[.int .i64 here.f0, .int .i64 here.f1, .int .i64 (wrap64 (2 * q.f0)), .int .i64 (wrap64 (2 * q.f1)), .int .i64 px, .int .i64 py, .bool true]) ∧ (l.getD 10 false = false → W.heap[go]? = some (.cells #[v] 128 (0, 0))) ∧ (l.getD 8 false = false → Kd.R k143 143 W base (fun _ => True) v xs) ∧ (l.getD 8 false = true → l.getD 9 false = false → ∃ W' : World, W = W'.alloc (.cells #[.int .i64 here.f0, .int .i64 here.f1, .int .i64 (wrap64 (2 * q.f0)), .int .i64 (wrap64 (2 * q.f1)), .int .i64 px, .int .i64 py, .bool true] 143) ∧ Kd.R k143 143 W' base (fun _ => True) v xs ∧ Below base w0 W' ∧ base ≤ W'.heap.size ∧ path_Keep go go W0 W' ∧ W'.heap[go]? = some (.cells #[v] 128 (0, 0)) ∧ v22 = .slice (some ⟨W'.heap.size, 0, none⟩) 1 1) ∧ (l.getD 9 false = true → l.getD 10 false = false → ∃ A1 k1, v23 = .slice A1 (xs.length + 1) k1 ∧ Kd.R k143 143 W base (fun _ => True) (.slice A1 (xs.length + 1) k1) (xs ++ [path_seg here (some q) ⟨px, py⟩])) ∧ (l.getD 10 false = true → ∃ v1, W.heap[go]? = some (.cells #[v1] 128 (0, 0)) ∧ Kd.R k143 143 W base (fun _ => True) v1 (xs ++ [path_seg here (some q) ⟨px, py⟩])) ∧ (l.getD 9 false = true → l.getD 8 false = true) ∧ (l.getD 10 false = true → l.getD 9 false = true) ∧ (l.getD 10 false = true → l.getD 0 false = true) ∧ (l.getD 8 false = true → l.getD 5 false = true) ∧ (l.getD 7 false = true → l.getD 5 false = true)) rfl (by kernel_rfl) ?_ ⟨?_, ?_, ?_, ?_, ?_, ?_, ?_, ?_, ?_, ?_, ?_, trivial⟩ ?_
  · exact ⟨_, _, _, _, _, _, _, _, _, _, rfl, HK0.out.below (bdrew (Below.refl _ _)), HB0.out.drew, fun h => (by cases h), fun h => (by cases h), fun h => (by cases h), fun h => (by cases h), fun h => (by cases h), fun h => (by cases h), fun h => (by cases h), fun h => (by cases h), fun _ => hgo0.out, fun _ => Kd.R_below HR0.out (bdrew (Below.refl _ _)), fun h => (by cases h), fun h => (by cases h), fun h => (by cases h), fun h => (by cases h), fun h => (by cases h), fun h => (by cases h), fun h => (by cases h), fun h => (by cases h)⟩
  · rintro l a W hl ⟨v14, v15, v16, v17, v18, v19, v20, v21, v22, v23, rfl, HK, HB, h0, h1, h2, h3, h4, h5, h6, h7, hA, hR0, hR8, hR9, hF, o98, oA9, oA0, o85, o75⟩ hi hT K hK
    match l, hl with
    | [b0, b1, b2, b3, b4, b5, b6, b7, b8, b9, b10], _ =>
    have HKK := Aside0.mk hK
    clear hK
    obtain rfl : b10 = false := (by cases b10 with | false => rfl | true => exact (Bool.false_ne_true (hi.symm.trans (oA0 rfl))).elim)
    obtain ⟨c0, _⟩ := cells1 (hA rfl)
    have HA := Aside0.mk hA; have HR0' := Aside0.mk hR0; have HR8 := Aside0.mk hR8; have HR9 := Aside0.mk hR9; have HF := Aside0.mk hF; have O98 := Aside0.mk o98; have OA9 := Aside0.mk oA9; have OA0 := Aside0.mk oA0; have O85 := Aside0.mk o85; have O75 := Aside0.mk o75; have HK1 := Aside0.mk HK; have HB1 := Aside0.mk HB
    clear hA hR0 hR8 hR9 hF o98 oA9 oA0 o85 o75 HK HB
    go_wp2_with fail
    exact HKK.out _ _ ⟨_, _, _, _, _, _, _, _, _, _, rfl, HK1.out, HB1.out, fun _ => rfl, h1, h2, h3, h4, h5, h6, h7, HA.out, HR0'.out, HR8.out, HR9.out, HF.out, O98.out, OA9.out, fun _ => rfl, O85.out, O75.out⟩
  · rintro l a W hl ⟨v14, v15, v16, v17, v18, v19, v20, v21, v22, v23, rfl, HK, HB, h0, h1, h2, h3, h4, h5, h6, h7, hA, hR0, hR8, hR9, hF, o98, oA9, oA0, o85, o75⟩ hi hT K hK
    match l, hl with
    | [b0, b1, b2, b3, b4, b5, b6, b7, b8, b9, b10], _ =>
    have HKK := Aside0.mk hK
    clear hK
    obtain ⟨c0, c1, _, _⟩ := cells2 (HK.2 _ _ _ hgh0.out (by decide) hgg.symm hgg.symm)
    have HA := Aside0.mk hA; have HR0' := Aside0.mk hR0; have HR8 := Aside0.mk hR8; have HR9 := Aside0.mk hR9; have HF := Aside0.mk hF; have O98 := Aside0.mk o98; have OA9 := Aside0.mk oA9; have OA0 := Aside0.mk oA0; have O85 := Aside0.mk o85; have O75 := Aside0.mk o75; have HK1 := Aside0.mk HK; have HB1 := Aside0.mk HB
    clear hA hR0 hR8 hR9 hF o98 oA9 oA0 o85 o75 HK HB
    go_wp2_with fail
    exact HKK.out _ _ ⟨_, _, _, _, _, _, _, _, _, _, rfl, HK1.out, HB1.out, h0, fun _ => rfl, h2, h3, h4, h5, h6, h7, HA.out, HR0'.out, HR8.out, HR9.out, HF.out, O98.out, OA9.out, OA0.out, O85.out, O75.out⟩
  · rintro l a W hl ⟨v14, v15, v16, v17, v18, v19, v20, v21, v22, v23, rfl, HK, HB, h0, h1, h2, h3, h4, h5, h6, h7, hA, hR0, hR8, hR9, hF, o98, oA9, oA0, o85, o75⟩ hi hT K hK
    match l, hl with
    | [b0, b1, b2, b3, b4, b5, b6, b7, b8, b9, b10], _ =>
    have HKK := Aside0.mk hK
    clear hK
    obtain ⟨c0, _⟩ := cells1 (HK.2 _ _ _ hgp0.out (by decide) hne.1.symm hne.1.symm)
    have HA := Aside0.mk hA; have HR0' := Aside0.mk hR0; have HR8 := Aside0.mk hR8; have HR9 := Aside0.mk hR9; have HF := Aside0.mk hF; have O98 := Aside0.mk o98; have OA9 := Aside0.mk oA9; have OA0 := Aside0.mk oA0; have O85 := Aside0.mk o85; have O75 := Aside0.mk o75; have HK1 := Aside0.mk HK; have HB1 := Aside0.mk HB
    clear hA hR0 hR8 hR9 hF o98 oA9 oA0 o85 o75 HK HB
    go_wp2_with fail
    exact HKK.out _ _ ⟨_, _, _, _, _, _, _, _, _, _, rfl, HK1.out, HB1.out, h0, h1, fun _ => rfl, h3, h4, h5, h6, h7, HA.out, HR0'.out, HR8.out, HR9.out, HF.out, O98.out, OA9.out, OA0.out, O85.out, O75.out⟩
  · rintro l a W hl ⟨v14, v15, v16, v17, v18, v19, v20, v21, v22, v23, rfl, HK, HB, h0, h1, h2, h3, h4, h5, h6, h7, hA, hR0, hR8, hR9, hF, o98, oA9, oA0, o85, o75⟩ hi hT K hK
    match l, hl with
    | [b0, b1, b2, b3, b4, b5, b6, b7, b8, b9, b10], _ =>
    have HKK := Aside0.mk hK
    clear hK
    obtain rfl := (h2 (hT 2 (by decide))).symm
    have HA := Aside0.mk hA; have HR0' := Aside0.mk hR0; have HR8 := Aside0.mk hR8; have HR9 := Aside0.mk hR9; have HF := Aside0.mk hF; have O98 := Aside0.mk o98; have OA9 := Aside0.mk oA9; have OA0 := Aside0.mk oA0; have O85 := Aside0.mk o85; have O75 := Aside0.mk o75; have HK1 := Aside0.mk HK; have HB1 := Aside0.mk HB
    clear hA hR0 hR8 hR9 hF o98 oA9 oA0 o85 o75 HK HB
    go_wp2_with fail
    exact HKK.out _ _ ⟨_, _, _, _, _, _, _, _, _, _, rfl, HK1.out, HB1.out, h0, h1, fun _ => rfl, fun _ => rfl, h4, h5, h6, h7, HA.out, HR0'.out, HR8.out, HR9.out, HF.out, O98.out, OA9.out, OA0.out, O85.out, O75.out⟩
  · rintro l a W hl ⟨v14, v15, v16, v17, v18, v19, v20, v21, v22, v23, rfl, HK, HB, h0, h1, h2, h3, h4, h5, h6, h7, hA, hR0, hR8, hR9, hF, o98, oA9, oA0, o85, o75⟩ hi hT K hK
    match l, hl with
    | [b0, b1, b2, b3, b4, b5, b6, b7, b8, b9, b10], _ =>
    have HKK := Aside0.mk hK
    clear hK
    obtain rfl := (h3 (hT 3 (by decide))).symm
    obtain ⟨c0, c1, c2⟩ := path_cells3 (HK.2 _ _ _ hgv0.out (by decide) hgvo hgvo)
    have HA := Aside0.mk hA; have HR0' := Aside0.mk hR0; have HR8 := Aside0.mk hR8; have HR9 := Aside0.mk hR9; have HF := Aside0.mk hF; have O98 := Aside0.mk o98; have OA9 := Aside0.mk oA9; have OA0 := Aside0.mk oA0; have O85 := Aside0.mk o85; have O75 := Aside0.mk o75; have HK1 := Aside0.mk HK; have HB1 := Aside0.mk HB
    clear hA hR0 hR8 hR9 hF o98 oA9 oA0 o85 o75 HK HB
    go_wp2_with fail
    exact HKK.out _ _ ⟨_, _, _, _, _, _, _, _, _, _, rfl, HK1.out, HB1.out, h0, h1, h2, fun _ => rfl, fun _ => rfl, h5, h6, h7, HA.out, HR0'.out, HR8.out, HR9.out, HF.out, O98.out, OA9.out, OA0.out, O85.out, O75.out⟩
  · rintro l a W hl ⟨v14, v15, v16, v17, v18, v19, v20, v21, v22, v23, rfl, HK, HB, h0, h1, h2, h3, h4, h5, h6, h7, hA, hR0, hR8, hR9, hF, o98, oA9, oA0, o85, o75⟩ hi hT K hK
    match l, hl with
    | [b0, b1, b2, b3, b4, b5, b6, b7, b8, b9, b10], _ =>
    have HKK := Aside0.mk hK
    clear hK
    obtain rfl := (h4 (hT 4 (by decide))).symm
    obtain rfl : b5 = false := hi
    obtain rfl : b8 = false := (by cases b8 with | false => rfl | true => exact (Bool.false_ne_true (o85 rfl)).elim)
    obtain rfl : b9 = false := (by cases b9 with | false => rfl | true => exact (Bool.false_ne_true (o98 rfl)).elim)
    obtain rfl : b10 = false := (by cases b10 with | false => rfl | true => exact (Bool.false_ne_true (oA9 rfl)).elim)
    have HA := Aside0.mk (hA rfl); have HR0' := Aside0.mk (hR0 rfl); have HK1 := Aside0.mk HK; have HB1 := Aside0.mk HB
    clear hA hR0 hR8 hR9 hF o98 oA9 oA0 o85 o75 HK HB
    go_wp2_with fail
    refine (path_at.calls _ _ _ _ _ _ rfl).mono ?_
    rintro e w' ⟨rfl, hb⟩
    exact HKK.out _ _ ⟨_, _, _, _, _, _, _, _, _, _, rfl, HK1.out.below hb, HB1.out.trans (hb.mono (Nat.le_trans hbase HK1.out.1)), h0, h1, h2, h3, fun _ => rfl, fun _ => rfl, h6, h7, fun _ => (hb.block _ (Array.getElem?_eq_some_iff.1 HA.out).1).trans HA.out, fun _ => Kd.R_below HR0'.out hb, fun h => (by cases h), fun h => (by cases h), fun h => (by cases h), fun h => (by cases h), fun h => (by cases h), fun h => (by cases h), fun h => (by cases h), fun _ => rfl⟩
  · rintro l a W hl ⟨v14, v15, v16, v17, v18, v19, v20, v21, v22, v23, rfl, HK, HB, h0, h1, h2, h3, h4, h5, h6, h7, hA, hR0, hR8, hR9, hF, o98, oA9, oA0, o85, o75⟩ hi hT K hK
    match l, hl with
    | [b0, b1, b2, b3, b4, b5, b6, b7, b8, b9, b10], _ =>
    have HKK := Aside0.mk hK
    clear hK
    obtain ⟨c0, c1, _, _⟩ := cells2 (HK.2 _ _ _ hbx.out (by decide) hbxo hbxo)
    have HA := Aside0.mk hA; have HR0' := Aside0.mk hR0; have HR8 := Aside0.mk hR8; have HR9 := Aside0.mk hR9; have HF := Aside0.mk hF; have O98 := Aside0.mk o98; have OA9 := Aside0.mk oA9; have OA0 := Aside0.mk oA0; have O85 := Aside0.mk o85; have O75 := Aside0.mk o75; have HK1 := Aside0.mk HK; have HB1 := Aside0.mk HB
    clear hA hR0 hR8 hR9 hF o98 oA9 oA0 o85 o75 HK HB
    go_wp2_with fail
    exact HKK.out _ _ ⟨_, _, _, _, _, _, _, _, _, _, rfl, HK1.out, HB1.out, h0, h1, h2, h3, h4, h5, fun _ => rfl, h7, HA.out, HR0'.out, HR8.out, HR9.out, HF.out, O98.out, OA9.out, OA0.out, O85.out, O75.out⟩
  · rintro l a W hl ⟨v14, v15, v16, v17, v18, v19, v20, v21, v22, v23, rfl, HK, HB, h0, h1, h2, h3, h4, h5, h6, h7, hA, hR0, hR8, hR9, hF, o98, oA9, oA0, o85, o75⟩ hi hT K hK
    match l, hl with
    | [b0, b1, b2, b3, b4, b5, b6, b7, b8, b9, b10], _ =>
    have HKK := Aside0.mk hK
    clear hK
    obtain rfl := (h1 (hT 1 (by decide))).symm
    obtain rfl := (h5 (hT 5 (by decide))).symm
    obtain rfl := (h6 (hT 6 (by decide))).symm
    have HA := Aside0.mk hA; have HR0' := Aside0.mk hR0; have HR8 := Aside0.mk hR8; have HR9 := Aside0.mk hR9; have HF := Aside0.mk hF; have O98 := Aside0.mk o98; have OA9 := Aside0.mk oA9; have OA0 := Aside0.mk oA0; have O85 := Aside0.mk o85; have O75 := Aside0.mk o75; have HK1 := Aside0.mk HK; have HB1 := Aside0.mk HB
    clear hA hR0 hR8 hR9 hF o98 oA9 oA0 o85 o75 HK HB
    go_wp2_with fail
    exact HKK.out _ _ ⟨_, _, _, _, _, _, _, _, _, _, rfl, HK1.out, HB1.out, h0, fun _ => rfl, h2, h3, h4, fun _ => rfl, fun _ => rfl, fun _ => rfl, HA.out, HR0'.out, HR8.out, HR9.out, HF.out, O98.out, OA9.out, OA0.out, O85.out, fun _ => hT 5 (by decide)⟩
  · rintro l a W hl ⟨v14, v15, v16, v17, v18, v19, v20, v21, v22, v23, rfl, HK, HB, h0, h1, h2, h3, h4, h5, h6, h7, hA, hR0, hR8, hR9, hF, o98, oA9, oA0, o85, o75⟩ hi hT K hK
    match l, hl with
    | [b0, b1, b2, b3, b4, b5, b6, b7, b8, b9, b10], _ =>
    have HKK := Aside0.mk hK
    clear hK
    obtain rfl := (h7 (hT 7 (by decide))).symm
    obtain rfl : b8 = false := hi
    obtain rfl : b9 = false := (by cases b9 with | false => rfl | true => exact (Bool.false_ne_true (o98 rfl)).elim)
    obtain rfl : b10 = false := (by cases b10 with | false => rfl | true => exact (Bool.false_ne_true (oA9 rfl)).elim)
    have HA := Aside0.mk (hA rfl); have HR0' := Aside0.mk (hR0 rfl); have HK1 := Aside0.mk HK; have HB1 := Aside0.mk HB
    obtain rfl : b7 = true := hT 7 (by decide)
    clear hA hR0 hR8 hR9 hF o98 oA9 o85 HK HB
    have O75 := Aside0.mk o75
    clear o75
    go_wp2_with fail
    exact HKK.out _ _ ⟨_, _, _, _, _, _, _, _, _, _, rfl, HK1.out.below (balloc (Below.refl _ _) _), HB1.out.alloc (Nat.le_trans hbase HK1.out.1) _, h0, h1, h2, h3, h4, h5, h6, fun _ => rfl, fun _ => halloc HA.out _, fun h => (by cases h), fun _ _ => ⟨W, rfl, HR0'.out, HB1.out, Nat.le_trans hbase HK1.out.1, HK1.out, HA.out, rfl⟩, fun h => (by cases h), fun h => (by cases h), fun h => (by cases h), fun h => (by cases h), fun h => (by cases h), fun _ => O75.out rfl, O75.out⟩
  · rintro l a W hl ⟨v14, v15, v16, v17, v18, v19, v20, v21, v22, v23, rfl, HK, HB, h0, h1, h2, h3, h4, h5, h6, h7, hA, hR0, hR8, hR9, hF, o98, oA9, oA0, o85, o75⟩ hi hT K hK
    match l, hl with
    | [b0, b1, b2, b3, b4, b5, b6, b7, b8, b9, b10], _ =>
    have HKK := Aside0.mk hK
    clear hK
    obtain rfl := (h0 (hT 0 (by decide))).symm
    obtain rfl : b9 = false := hi
    obtain rfl : b8 = true := hT 8 (by decide)
    obtain rfl : b0 = true := hT 0 (by decide)
    obtain rfl : b10 = false := (by cases b10 with | false => rfl | true => exact (Bool.false_ne_true (oA9 rfl)).elim)
    obtain ⟨W', rfl, r1, r2, r3, r4, r5, rfl⟩ := hR8 rfl rfl
    refine Kd.R_append_step k143 (w0 := w0) base (by rfl) (.tmp 14) (.tmp 22) 128 143 (.agg #[.int .i64 0, .int .i64 0, .int .i64 0, .int .i64 0, .int .i64 0, .int .i64 0, .bool false]) 56 rfl Try.underlying128 path_i143 rfl (by decide) (by omega) v xs (path_seg here (some q) ⟨px, py⟩) [.int .i64 here.f0, .int .i64 here.f1, .int .i64 (wrap64 (2 * q.f0)), .int .i64 (wrap64 (2 * q.f1)), .int .i64 px, .int .i64 py, .bool true] (fun _ => True) (fun _ => False) rfl rfl (k143_mkM _ _ _ _) (fun _ hk => hk.elim) (fun _ _ => trivial) r1 r2 r3 HL.out ?_
    intro v1 w1 ho hb1 hgr hat
    obtain ⟨A1, k1, rfl⟩ := Kd.R_slice ho
    simp only [List.length_append, List.length_cons, List.length_nil, Nat.zero_add] at ho
    exact HKK.out _ _ ⟨_, _, _, _, _, _, _, _, _, _, rfl, r4.grown r1 hgr, hb1, fun _ => rfl, h1, h2, h3, h4, h5, h6, h7, fun _ => (hgr.block go (Array.getElem?_eq_some_iff.1 r5).1 (Kd.R_ne r1 r5 (by decide))).trans r5, fun h => (by cases h), fun _ h => (by cases h), fun _ _ => ⟨A1, k1, by simp, ho⟩, fun h => (by cases h), fun _ => rfl, fun h => (by cases h), fun h => (by cases h), o85, o75⟩
  · rintro l a W hl ⟨v14, v15, v16, v17, v18, v19, v20, v21, v22, v23, rfl, HK, HB, h0, h1, h2, h3, h4, h5, h6, h7, hA, hR0, hR8, hR9, hF, o98, oA9, oA0, o85, o75⟩ hi hT K hK
    match l, hl with
    | [b0, b1, b2, b3, b4, b5, b6, b7, b8, b9, b10], _ =>
    have HKK := Aside0.mk hK
    clear hK
    obtain rfl := (h0 (hT 0 (by decide))).symm
    obtain rfl := (h1 (hT 1 (by decide))).symm
    obtain rfl := (h2 (hT 2 (by decide))).symm
    obtain rfl := (h3 (hT 3 (by decide))).symm
    obtain rfl := (h4 (hT 4 (by decide))).symm
    obtain rfl := (h5 (hT 5 (by decide))).symm
    obtain rfl := (h6 (hT 6 (by decide))).symm
    obtain rfl := (h7 (hT 7 (by decide))).symm
    obtain rfl : b10 = false := hi
    obtain rfl : b9 = true := hT 9 (by decide)
    obtain rfl : b8 = true := hT 8 (by decide)
    obtain rfl : b0 = true := hT 0 (by decide)
    obtain ⟨A1, k1, rfl, r1⟩ := hR9 rfl rfl
    obtain ⟨c0, z0⟩ := cells1 (hA rfl)
    have HA := Aside0.mk (hA rfl); have HR1 := Aside0.mk r1; have HK1 := Aside0.mk HK; have HB1 := Aside0.mk HB; have O85 := Aside0.mk o85; have O75 := Aside0.mk o75
    clear hA hR0 hR8 hR9 hF o98 oA9 oA0 o85 o75 HK HB r1
    go_wp2_with fail
    exact HKK.out _ _ ⟨_, _, _, _, _, _, _, _, _, _, rfl, HK1.out.set (.inl rfl) _, HB1.out.setCell (p := ⟨go, 0, none⟩) hb _, fun _ => rfl, fun _ => rfl, fun _ => rfl, fun _ => rfl, fun _ => rfl, fun _ => rfl, fun _ => rfl, fun _ => rfl, fun h => (by cases h), fun h => (by cases h), fun _ h => (by cases h), fun _ h => (by cases h), fun _ => ⟨_, hset1 HA.out, Kd.R_set HR1.out HA.out (by decide) 0 _⟩, fun _ => rfl, fun _ => rfl, fun _ => rfl, O85.out, O75.out⟩
  · rintro a W ⟨v14, v15, v16, v17, v18, v19, v20, v21, v22, v23, rfl, HK, HB, h0, h1, h2, h3, h4, h5, h6, h7, hA, hR0, hR8, hR9, hF, o98, oA9, oA0, o85, o75⟩
    obtain ⟨v1, s1, s2⟩ := hF rfl
    have hgh1 := HK.2 _ _ _ hgh0.out (by decide) hgg.symm hgg.symm
    have hbx1 := HK.2 _ _ _ hbx.out (by decide) hbxo hbxo
    have KW : Aside0 (path_Keep go gh w W) := ⟨Nat.le_trans hK0.out.1 HK.1, fun b cs t h1 h2 h3 h4 => HK.2 b cs t (hK0.out.2 b cs t h1 h2 h3 h4) h2 h3 h3⟩
    obtain ⟨c0, c1, z0, z1⟩ := cells2 hgh1
    obtain ⟨d0, d1, _, _⟩ := cells2 hbx1
    have HG2 := Aside0.mk hgh1; have S1 := Aside0.mk s1; have S2 := Aside0.mk s2; have HB1 := Aside0.mk HB
    clear hA hR0 hR8 hR9 hF o98 oA9 oA0 o85 o75 HK HB s1 s2 hgh1 hbx1
    go_wp2_with fail
    go_end0
    have hk := (KW.out.set (o := 0) (.inr rfl) (.int .i64 px)).set (o := 1) (.inr rfl) (.int .i64 py)
    have r2 := Kd.R_set S2.out HG2.out (by decide) 0 (.int .i64 px)
    have r3 := Kd.R_set r2 (hset0 HG2.out) (by decide) 1 (.int .i64 py)
    exact ⟨_, rfl, ⟨path_St.mk' H.out hne trivial hk (hset (hset S1.out hgg _) hgg _) r3 ((HB1.out.setCell (p := ⟨gh, 0, none⟩) hbh _).setCell (p := ⟨gh, 1, none⟩) hbh _) (hset2 HG2.out)⟩, ⟨hk⟩⟩
theorem path_end (px py : Int) (base go gh gp : Nat) (v : Value) (xs : List S143) (here : S32) (pull : Option S135) (w0 w : World) (h : path_St base go gh gp w0 v xs here pull w) (hne : go ≠ gp ∧ gh ≠ gp) (hgg : go ≠ gh) (hb : base ≤ go) (hbh : base ≤ gh) (hl : (xs.length + 1) * 56 ≤ 140737488355328) :
    Calls Try.prog 91 #[.agg #[.int .i64 px, .int .i64 py], .pointer (some ⟨gp, 0, none⟩), .pointer (some ⟨go, 0, none⟩), .pointer (some ⟨gh, 0, none⟩)] w
      (path_Put base go gh gp w0 w (xs ++ [path_seg here pull ⟨px, py⟩]) ⟨px, py⟩ pull) := by
  cases pull with
  | none => exact path_end_none px py base go gh gp v xs here w0 w h hne hgg hb hbh hl
  | some q => exact path_end_some px py base go gh gp v xs here q w0 w h hne hgg hb hbh hl
theorem path_St.pull {base go gh gp : Nat} {w0 W : World} {v : Value} {xs : List S143} {here : S32} {pull : Option S135} (h : path_St base go gh gp w0 v xs here pull W) : ∃ x, W.heap[gp]? = some (.cells #[x] 147 (0, 0)) := by
  obtain ⟨_, _, _, _, h5⟩ := h
  cases pull with
  | none => exact ⟨_, h5⟩
  | some q => obtain ⟨gv, h6, _⟩ := h5; exact ⟨_, h6⟩
theorem path_St.setNil {base go gh gp : Nat} {w0 W : World} {v : Value} {xs : List S143} {here : S32} {pull : Option S135} (h : path_St base go gh gp w0 v xs here pull W) (hne : go ≠ gp ∧ gh ≠ gp) (hb : base ≤ gp) : path_St base go gh gp w0 v xs here none (W.setCell ⟨gp, 0, none⟩ (.pointer none)) := by
  obtain ⟨x, hx⟩ := h.pull
  obtain ⟨h1, h2, h3, h4, _⟩ := h
  exact ⟨hset h1 hne.1 _, Kd.R_set h2 hx (by decide) 0 _, h3.setCell (p := ⟨gp, 0, none⟩) hb _, hset h4 hne.2 _, hset1 hx⟩
theorem path_St.setSome {base go gh gp gv : Nat} {w0 W : World} {v : Value} {xs : List S143} {here : S32} {pull : Option S135} {q : S135} (h : path_St base go gh gp w0 v xs here pull W) (hne : go ≠ gp ∧ gh ≠ gp) (hb : base ≤ gp) (hgv : W.heap[gv]? = some (.cells #[.int .i64 q.f0, .int .i64 q.f1, .bool q.f2] 135 (0, 0))) :
    path_St base go gh gp w0 v xs here (some q) (W.setCell ⟨gp, 0, none⟩ (.pointer (some ⟨gv, 0, none⟩))) := by
  obtain ⟨x, hx⟩ := h.pull
  obtain ⟨h1, h2, h3, h4, _⟩ := h
  refine ⟨hset h1 hne.1 _, Kd.R_set h2 hx (by decide) 0 _, h3.setCell (p := ⟨gp, 0, none⟩) hb _, hset h4 hne.2 _, gv, hset1 hx, hset hgv ?_ _⟩
  rintro rfl; rw [hx] at hgv; simp at hgv
theorem path_St.below {base go gh gp : Nat} {w0 W W' : World} {v : Value} {xs : List S143} {here : S32} {pull : Option S135} (h : path_St base go gh gp w0 v xs here pull W) (hb : Below W.heap.size W W') (hbase : base ≤ W.heap.size) : path_St base go gh gp w0 v xs here pull W' := by
  obtain ⟨h1, h2, h3, h4, h5⟩ := h
  have hk : ∀ {k : Nat} {x : Obj}, W.heap[k]? = some x → W'.heap[k]? = some x := fun hx => (hb.block _ (Array.getElem?_eq_some_iff.1 hx).1).trans hx
  refine ⟨hk h1, Kd.R_below h2 hb, h3.trans (hb.mono hbase), hk h4, ?_⟩
  cases pull with
  | none => exact hk h5
  | some q => obtain ⟨gv, h6, h7⟩ := h5; exact ⟨gv, hk h6, hk h7⟩
def path_pt (v : S135) : S32 := ⟨wrap64 (2 * v.f0), wrap64 (2 * v.f1)⟩
def path_hf (a b : S135) : S32 := ⟨wrap64 (a.f0 + b.f0), wrap64 (a.f1 + b.f1)⟩
def path_F (l : List S135) : Nat := l.findIdx (fun v => v.f2)
def path_begin (l : List S135) : S32 := if path_F l < l.length then path_pt (rd_T135 l (path_F l)) else path_hf (rd_T135 l ((l.length : Int) - 1)) (rd_T135 l 0)
def path_first (l : List S135) : Nat := if path_F l < l.length then path_F l + 1 else path_F l
def path_count (l : List S135) : Nat := if path_F l < l.length then l.length - 1 else l.length
structure path_S where
  here : S32
  pull : Option S135
  out : List S143
def path_step (s : path_S) (v : S135) : path_S :=
  if v.f2 = true then ⟨path_pt v, none, s.out ++ [path_seg s.here s.pull (path_pt v)]⟩
  else match s.pull with
    | some q => ⟨path_hf q v, some v, s.out ++ [path_seg s.here s.pull (path_hf q v)]⟩
    | none => ⟨s.here, some v, s.out⟩
def path_run (l : List S135) : Nat → path_S
  | 0 => ⟨path_begin l, none, []⟩
  | k + 1 => path_step (path_run l k) (rd_T135 l (((path_first l : Int) + k) % l.length))
def path_all (l : List S135) : List S143 := (path_run l (path_count l)).out ++ [path_seg (path_run l (path_count l)).here (path_run l (path_count l)).pull (path_begin l)]
theorem path_run_len (l : List S135) : ∀ k, (path_run l k).out.length ≤ k
  | 0 => Nat.le_refl _
  | k + 1 => by
    have h := path_run_len l k
    simp only [path_run, path_step]
    split
    · simp only [List.length_append, List.length_singleton]; omega
    · split
      · simp only [List.length_append, List.length_singleton]; omega
      · exact Nat.le_trans h (by omega)
def path_Segs.f (l0 : List S135) : Option (List S143) := if l0.length ≤ 1000000 then some (if l0.length = 0 then [] else path_all l0) else none
theorem path_F_le (l : List S135) : path_F l ≤ l.length := List.findIdx_le_length
set_option maxHeartbeats 8000000 in
set_option maxRecDepth 100000 in
theorem path_Segs.calls (A0 : Option Addr) (c0 : Nat) (l0 : List S135) (r : List S143) (w : World) (hr0 : Kd.C k135 w A0 l0.length l0) (hc0 : l0.length ≤ c0) (h : path_Segs.f l0 = some r) :
    Calls Try.prog 81 #[.slice A0 l0.length c0] w fun e w' => ∃ v0_ : Value, e = .returned v0_ ∧ Kd.R k143 143 w' w.heap.size (fun _ => True) v0_ r ∧ Below w.heap.size w w' := by
  unfold path_Segs.f at h
  split at h
  case isFalse => cases h
  rename_i hlen
  obtain rfl := Option.some.inj h
  clear h
  have HR0 := Aside0.mk hr0
  clear hr0
  by_cases hz : l0.length = 0
  · rw [if_pos hz]
    have hz' : ((l0.length : Int) == 0) = true := by simp [hz]
    clear hz
    go_enter Try.func81, Try.ntmps81
    go_wp2_with fail
    go_ret
    exact ⟨_, rfl, Kd.R_nil _ _ _ _ _, Below.refl _ _⟩
  · rw [if_neg hz]
    have hz' : ((l0.length : Int) == 0) = false := by simpa using hz
    have hn : 0 < l0.length := by omega
    clear hz
    have hF := path_F_le l0
    obtain ⟨F, hFe⟩ : ∃ F, F = path_F l0 := ⟨_, rfl⟩
    rw [← hFe] at hF
    have HFE := Aside0.mk hFe
    clear hFe
    go_enter Try.func81, Try.ntmps81
    go_upto_block 0 with fail
    go_cut [4] (fun s4 W => s4 = .int .i64 F ∧ W = w)
    case first =>
      go_wp2_with fail
      go_loop [4] (fun s4 => ∃ i : Nat, i ≤ F ∧ s4 = .int .i64 i) (fun s4 => l0.length - (intOf s4).toNat)
      case atStart => exact ⟨0, Nat.zero_le _, rfl⟩
      case round =>
        obtain ⟨i, hi, rfl⟩ := hrel
        by_cases hlt : i < l0.length
        · obtain ⟨ad, rfl, x0, x1, x2⟩ := at_T135 HR0.out (i : Int) (by omega) (by omega)
          rw [Int.toNat_natCast] at x0 x1 x2
          have h0 : (0 : Int) ≤ (i : Int) := by omega
          have h1 : (i : Int) < (l0.length : Int) := by omega
          have hrd : rd_T135 l0 (i : Int) = l0[i] := by simp [rd_T135, hlt]
          by_cases hiF : i < F
          · have hb : (rd_T135 l0 (i : Int)).f2 = false := by
              rw [hrd]
              have := List.not_of_lt_findIdx (p := fun v : S135 => v.f2) (xs := l0) (i := i) (by have := HFE.out; unfold path_F at this; omega)
              simpa using this
            rw [hb] at x2
            clear hrd hb
            go_wp2_with fail
            go_round
            case rel => exact ⟨i + 1, by omega, by go_num⟩
            case measure => simp [intOf]; omega
          · obtain rfl : i = F := by omega
            have hb : (rd_T135 l0 (i : Int)).f2 = true := by
              rw [hrd]
              have e : i = l0.findIdx (fun v => v.f2) := HFE.out
              have := List.findIdx_getElem (p := fun v : S135 => v.f2) (xs := l0) (w := by omega)
              simpa [← e] using this
            rw [hb] at x2
            clear hrd hb
            go_wp2_with fail
            go_meet
            exact ⟨rfl, rfl⟩
        · obtain rfl : i = F := by omega
          obtain rfl : i = l0.length := by omega
          go_wp2_with fail
          go_meet
          exact ⟨rfl, rfl⟩
    case rest =>
      obtain ⟨rfl, rfl⟩ := hcut
      obtain ⟨w, rfl⟩ : ∃ w : World, w = wc := ⟨_, rfl⟩
      obtain ⟨ad, rfl, x0, x1, x2⟩ := at_T135 HR0.out ((l0.length : Int) - 1) (by omega) (by omega)
      obtain ⟨_, hade, y0, y1, y2⟩ := at_T135 HR0.out 0 (by omega) (by omega)
      obtain rfl := Option.some.inj hade
      clear hade
      have b0 : (0 : Int) ≤ (l0.length : Int) - 1 := by omega
      have b1 : (l0.length : Int) - 1 < (l0.length : Int) := by omega
      have b2 : (0 : Int) < (l0.length : Int) := by omega
      have b3 : (1 : Int) ≤ (l0.length : Int) := by omega
      have b4 : 1 ≤ l0.length := by omega
      obtain ⟨Z, hZ⟩ : ∃ Z, Z = rd_T135 l0 ((l0.length : Int) - 1) := ⟨_, rfl⟩
      obtain ⟨E, hE⟩ : ∃ E, E = rd_T135 l0 0 := ⟨_, rfl⟩
      rw [← hZ] at x0 x1 x2
      rw [← hE] at y0 y1 y2
      have HZ := Aside0.mk hZ; have HE := Aside0.mk hE
      clear hZ hE
      go_upto_region 7 with fail
      go_cut [6] (fun s6 W => ∃ g : Nat, s6 = .pointer (some ⟨g, 0, none⟩) ∧ w.heap.size ≤ g ∧ Aside0 (W.heap[g]? = some (.cells #[.int .i64 (path_hf Z E).f0, .int .i64 (path_hf Z E).f1] 32 (0, 0)) ∧ Below w.heap.size w W))
      case first =>
        simp only [Int.toNat_zero, Nat.zero_mul, Addr.add_zero'] at y0 y1 y2
        have en : ((l0.length : Int) - 1).toNat = l0.length - 1 := by omega
        rw [en] at x0 x1 x2
        clear en
        have hw : IntKind.i64.wrap ((l0.length : Int) - 1) = (l0.length : Int) - 1 := IntWalk.i64_in _ (by omega)
        have KS := Aside0.mk (show ∀ W : World, Below w.heap.size w W → (W.cell? (ad.add ((l0.length - 1) * 3)) = some (.int .i64 Z.f0) ∧ W.cell? ⟨(ad.add ((l0.length - 1) * 3)).block, (ad.add ((l0.length - 1) * 3)).off + 1, none⟩ = some (.int .i64 Z.f1) ∧ W.cell? ⟨(ad.add ((l0.length - 1) * 3)).block, (ad.add ((l0.length - 1) * 3)).off + 2, none⟩ = some (.bool Z.f2) ∧ W.cell? ad = some (.int .i64 E.f0) ∧ W.cell? ⟨ad.block, ad.off + 1, none⟩ = some (.int .i64 E.f1) ∧ W.cell? ⟨ad.block, ad.off + 2, none⟩ = some (.bool E.f2)) ∧ Below w.heap.size w W from fun W h =>
          ⟨⟨(h.cell (World.block_lt_of_cell? w _ x0)).trans x0, (h.cell (World.block_lt_of_cell? w _ x1)).trans x1, (h.cell (World.block_lt_of_cell? w _ x2)).trans x2, (h.cell (World.block_lt_of_cell? w _ y0)).trans y0, (h.cell (World.block_lt_of_cell? w _ y1)).trans y1, (h.cell (World.block_lt_of_cell? w _ y2)).trans y2⟩, h⟩)
        go_region_held3 (fun W => (W.cell? (ad.add ((l0.length - 1) * 3)) = some (.int .i64 Z.f0) ∧ W.cell? ⟨(ad.add ((l0.length - 1) * 3)).block, (ad.add ((l0.length - 1) * 3)).off + 1, none⟩ = some (.int .i64 Z.f1) ∧ W.cell? ⟨(ad.add ((l0.length - 1) * 3)).block, (ad.add ((l0.length - 1) * 3)).off + 2, none⟩ = some (.bool Z.f2) ∧ W.cell? ad = some (.int .i64 E.f0) ∧ W.cell? ⟨ad.block, ad.off + 1, none⟩ = some (.int .i64 E.f1) ∧ W.cell? ⟨ad.block, ad.off + 2, none⟩ = some (.bool E.f2)) ∧ Below w.heap.size w W)
          (first
            | exact KS.out _ (bdrew (Below.refl _ _))
            | (go_split_ands; refine KS.out _ ?_; (repeat (first | assumption | exact Below.refl _ _ | with_reducible refine balloc ?_ _ | (with_reducible refine bset' ?_ ?_ _; focus (first | omega | (simp; omega) | simp)) | with_reducible refine bdrew ?_ | refine bstep ?_ (by assumption))); done))
          (first | (go_at_call 89; refine (path_half.calls _ _ _ _ _ _ _ _ _ rfl).mono ?_; rintro e w' ⟨rfl, hb⟩; obtain ⟨hc, hf⟩ := bcell hb; have hq := hb.size; (try simp at hq); (try (have hy : w.heap.size < w'.heap.size := (by omega); have hny := Nat.ne_of_lt hy; have hmy := Nat.ne_of_gt hy))))
        all_goals
          go_wp2_with fail
          go_meet
          go_split_ands
          exact ⟨_, rfl, by first | omega | (simp <;> omega), ⟨by first | exact hnew _ _ rfl | exact hset2 ((hb.block _ (by simp)).trans (hnew _ _ rfl)), by assumption⟩⟩
      case rest =>
        obtain ⟨gh, rfl, hghw, HC⟩ := hcut
        obtain ⟨W1, rfl⟩ : ∃ W1 : World, W1 = wc := ⟨_, rfl⟩
        clear x0 x1 x2 y0 y1 y2 b0 b1 b3 b4
        go_upto_if 42 with fail
        go_cut [4, 5] (fun s4 s5 W => s4 = .int .i64 (path_first l0 : Nat) ∧ s5 = .int .i64 (path_count l0 : Nat) ∧ Aside0 (W.heap[gh]? = some (.cells #[.int .i64 (path_begin l0).f0, .int .i64 (path_begin l0).f1] 32 (0, 0)) ∧ Below w.heap.size w W))
        case first =>
          by_cases hFl : F < l0.length
          · have e1 : path_first l0 = F + 1 := by have h := HFE.out; unfold path_first; rw [← h, if_pos hFl]
            have e2 : path_count l0 = l0.length - 1 := by have h := HFE.out; unfold path_count; rw [← h, if_pos hFl]
            have e3 : path_begin l0 = path_pt (rd_T135 l0 F) := by have h := HFE.out; unfold path_begin; rw [← h, if_pos hFl]
            have E1 := Aside0.mk e1; have E2 := Aside0.mk e2; have E3 := Aside0.mk e3
            clear e1 e2 e3
            obtain ⟨_, hade, x0, x1, x2⟩ := at_T135 HR0.out (F : Int) (by omega) (by omega)
            obtain rfl := Option.some.inj hade
            rw [Int.toNat_natCast] at x0 x1 x2
            have hBW := HC.out.2
            replace x0 := (hBW.cell (World.block_lt_of_cell? w _ x0)).trans x0
            replace x1 := (hBW.cell (World.block_lt_of_cell? w _ x1)).trans x1
            replace x2 := (hBW.cell (World.block_lt_of_cell? w _ x2)).trans x2
            have h0 : (0 : Int) ≤ (F : Int) := by omega
            have h1 : (F : Int) < (l0.length : Int) := by omega
            clear hBW hade
            go_wp2_with fail
            refine (path_at.calls _ _ _ _ _ _ rfl).mono ?_
            rintro e w2 ⟨rfl, hb⟩
            have hg2 := (hb.block _ (Array.getElem?_eq_some_iff.1 HC.out.1).1).trans HC.out.1
            obtain ⟨q0, q1, z0, z1⟩ := cells2 hg2
            have HG := Aside0.mk hg2; have HB2 := Aside0.mk (bstep HC.out.2 hb)
            clear hb hg2 x0 x1 x2
            go_wp2_with fail
            go_meet
            exact ⟨by rw [E1.out]; go_num, by rw [E2.out]; simp; omega, ⟨by rw [E3.out]; exact hset2 HG.out, bset (bset HB2.out hghw _) hghw _⟩⟩
          · have e1 : path_first l0 = F := by have h := HFE.out; unfold path_first; rw [← h, if_neg hFl]
            have e2 : path_count l0 = l0.length := by have h := HFE.out; unfold path_count; rw [← h, if_neg hFl]
            have e3 : path_begin l0 = path_hf Z E := by have h := HFE.out; unfold path_begin; rw [← h, if_neg hFl, HZ.out, HE.out]
            have h1 : (l0.length : Int) ≤ (F : Int) := by omega
            have E1 := Aside0.mk e1; have E2 := Aside0.mk e2; have E3 := Aside0.mk e3
            clear e1 e2 e3
            go_wp2_with fail
            go_meet
            exact ⟨by rw [E1.out], by rw [E2.out], ⟨by rw [E3.out]; exact HC.out.1, HC.out.2⟩⟩
        case rest =>
          obtain ⟨rfl, rfl, HC2⟩ := hcut
          obtain ⟨W2, rfl⟩ : ∃ W2 : World, W2 = wc := ⟨_, rfl⟩
          obtain ⟨g0, g1, _, _⟩ := cells2 HC2.out.1
          have g0' := calloc g0 (.cells #[.slice none 0 0] 128)
          have g1' := calloc g1 (.cells #[.slice none 0 0] 128)
          have hghl := (Array.getElem?_eq_some_iff.1 HC2.out.1).1
          have hwW2 := HC2.out.2.size
          have hfc : path_first l0 ≤ l0.length ∧ path_count l0 ≤ l0.length := by
            have := path_F_le l0
            unfold path_first path_count
            split <;> omega
          obtain ⟨hfn, hcn⟩ := hfc
          go_wp2_with fail
          go_loopw [55] (fun s55 W => ∃ (k : Nat) (v : Value), k ≤ path_count l0 ∧ s55 = .int .i64 k ∧ Aside0 (path_St w.heap.size W2.heap.size gh (W2.heap.size + 1 + 1) w v (path_run l0 k).out (path_run l0 k).here (path_run l0 k).pull W ∧ W.heap[W2.heap.size + 1]? = some (.cells #[.int .i64 (path_begin l0).f0, .int .i64 (path_begin l0).f1] 32 (0, 0)) ∧ W2.heap.size + 1 + 1 < W.heap.size)) (fun s55 _ => path_count l0 - (intOf s55).toNat)
          case atStart =>
            refine ⟨0, .slice none 0 0, Nat.zero_le _, rfl, ⟨⟨halloc (halloc (hnew _ _ rfl) _) _, Kd.R_nil _ _ _ _ _, ?_, halloc (halloc (halloc HC2.out.1 _) _) _, hnew _ _ (by simp)⟩, halloc (hnew _ _ (by simp)) _, by simp⟩⟩
            exact ((HC2.out.2.alloc hwW2 _).alloc (by simp; omega) _).alloc (by simp; omega) _
          case round =>
            obtain ⟨k, v, hk, rfl, HR2⟩ := hrel
            clear g0 g1 g0' g1'
            obtain ⟨w3, rfl⟩ : ∃ w3 : World, w3 = wr := ⟨_, rfl⟩
            have hne1 : W2.heap.size ≠ W2.heap.size + 1 + 1 ∧ gh ≠ W2.heap.size + 1 + 1 := ⟨by omega, by omega⟩
            have hgg : W2.heap.size ≠ gh := by omega
            have hol := path_run_len l0 k
            by_cases hlt : k < path_count l0
            · obtain ⟨_, hade, x0, x1, x2⟩ := at_T135 HR0.out (((path_first l0 : Int) + k) % l0.length) (Int.emod_nonneg _ (by omega)) (Int.emod_lt_of_pos _ (by omega))
              obtain rfl := Option.some.inj hade
              have hrun : path_run l0 (k + 1) = path_step (path_run l0 k) (rd_T135 l0 (((path_first l0 : Int) + k) % l0.length)) := rfl
              have eix : (((path_first l0 : Int) + k) % l0.length).toNat = (path_first l0 + k) % l0.length := by
                rw [← Int.natCast_add, ← Int.natCast_emod, Int.toNat_natCast]
              rw [eix] at x0 x1 x2
              obtain ⟨X, hX⟩ : ∃ X, X = rd_T135 l0 (((path_first l0 : Int) + k) % l0.length) := ⟨_, rfl⟩
              rw [← hX] at x0 x1 x2 hrun
              have hBW := HR2.out.1.2.2.1
              replace x0 := (hBW.cell (World.block_lt_of_cell? w _ x0)).trans x0
              replace x1 := (hBW.cell (World.block_lt_of_cell? w _ x1)).trans x1
              replace x2 := (hBW.cell (World.block_lt_of_cell? w _ x2)).trans x2
              have j0 : (0 : Int) ≤ ((path_first l0 : Int) + k) % l0.length := Int.emod_nonneg _ (by omega)
              have j1 : ((path_first l0 : Int) + k) % l0.length < (l0.length : Int) := Int.emod_lt_of_pos _ (by omega)
              have j2 : (0 : Int) ≤ (path_first l0 : Int) + k := by omega
              have hbz := hBW.size
              have HRUN := Aside0.mk hrun
              clear hBW hade eix hX hrun
              go_upto_region 21 with fail
              obtain ⟨W4, hW4⟩ : ∃ W4 : World, W4 = w3.alloc (.cells #[.int .i64 X.f0, .int .i64 X.f1, .bool X.f2] 135) := ⟨_, rfl⟩
              have HV : Aside0 (W4.heap[w3.heap.size]? = some (.cells #[.int .i64 X.f0, .int .i64 X.f1, .bool X.f2] 135 (0, 0))) := ⟨by rw [hW4]; exact hnew _ _ rfl⟩
              have HS : Aside0 (path_St w.heap.size W2.heap.size gh (W2.heap.size + 1 + 1) w v (path_run l0 k).out (path_run l0 k).here (path_run l0 k).pull W4) := ⟨by rw [hW4]; exact HR2.out.1.below (balloc (Below.refl _ _) _) hbz⟩
              have HG : Aside0 (W4.heap[W2.heap.size + 1]? = some (.cells #[.int .i64 (path_begin l0).f0, .int .i64 (path_begin l0).f1] 32 (0, 0))) := ⟨by rw [hW4]; exact halloc HR2.out.2.1 _⟩
              have hz3 : W2.heap.size + 1 + 1 < w3.heap.size := HR2.out.2.2
              have hz4 : w3.heap.size < W4.heap.size := by rw [hW4]; simp
              rw [← hW4]
              clear hW4 HR2 x0 x1 x2
              have hgpb : w.heap.size ≤ W2.heap.size + 1 + 1 := by omega
              obtain ⟨c0', c1', c2'⟩ := path_cells3 HV.out
              obtain ⟨here, pull, out, hst⟩ : ∃ here pull out, path_run l0 k = ⟨here, pull, out⟩ := ⟨_, _, _, rfl⟩
              rw [hst] at hol HS HRUN
              simp only at hol HS
              clear hst
              cases hx : X.f2 with
              | true =>
                rw [hx] at c2'
                have hstep : path_run l0 (k + 1) = ⟨path_pt X, none, out ++ [path_seg here pull (path_pt X)]⟩ := by rw [HRUN.out]; unfold path_step; rw [if_pos hx]
                have HSTEP := Aside0.mk hstep
                clear hstep hx HRUN
                go_wp2_with fail
                refine (path_at.calls _ _ _ _ _ _ rfl).mono ?_
                rintro e w5 ⟨rfl, hb⟩
                have HS5 := Aside0.mk (HS.out.below hb (by omega))
                have HG5 := Aside0.mk ((hb.block _ (Array.getElem?_eq_some_iff.1 HG.out).1).trans HG.out)
                have hz5 := hb.size
                clear hb c0' c1' c2'
                go_wp2_with fail
                refine (path_end _ _ w.heap.size W2.heap.size gh (W2.heap.size + 1 + 1) v out here pull w w5 HS5.out hne1 hgg hwW2 hghw (by omega)).mono ?_
                rintro e w6 ⟨v', rfl, HS6, HK6⟩
                obtain ⟨x, hx⟩ := HS6.out.pull
                obtain ⟨q0, z0⟩ := cells1 hx
                have HG6 : Aside0 (w6.heap[W2.heap.size + 1]? = some (.cells #[.int .i64 (path_begin l0).f0, .int .i64 (path_begin l0).f1] 32 (0, 0))) := ⟨HK6.out.2 _ _ _ HG5.out (by decide) (by omega) (by omega)⟩
                have hz6 : W2.heap.size + 1 + 1 < w6.heap.size := (Array.getElem?_eq_some_iff.1 hx).1
                clear hx
                go_wp2_with fail
                go_roundw
                case rel =>
                  refine ⟨k + 1, v', by omega, by go_num, ⟨?_, hset HG6.out (by omega) _, by simpa using hz6⟩⟩
                  rw [HSTEP.out]
                  exact HS6.out.setNil hne1 hgpb
                case measure => simp [intOf]; omega
              | false =>
                rw [hx] at c2'
                cases pull with
                | none =>
                  have hstep : path_run l0 (k + 1) = ⟨here, some X, out⟩ := by rw [HRUN.out]; unfold path_step; rw [if_neg (by rw [hx]; decide)]
                  have HSTEP := Aside0.mk hstep
                  obtain ⟨q0, z0⟩ := cells1 HS.out.2.2.2.2
                  clear hstep hx HRUN c0' c1'
                  go_wp2_with fail
                  go_roundw
                  case rel =>
                    refine ⟨k + 1, v, by omega, by go_num, ⟨?_, hset HG.out (by omega) _, by simp; omega⟩⟩
                    rw [HSTEP.out]
                    exact HS.out.setSome hne1 hgpb HV.out
                  case measure => simp [intOf]; omega
                | some q =>
                  have hstep : path_run l0 (k + 1) = ⟨path_hf q X, some X, out ++ [path_seg here (some q) (path_hf q X)]⟩ := by rw [HRUN.out]; unfold path_step; rw [if_neg (by rw [hx]; decide)]
                  have HSTEP := Aside0.mk hstep
                  obtain ⟨gv, hgp, hgv⟩ := HS.out.2.2.2.2
                  have HGP := Aside0.mk hgp; have HGV := Aside0.mk hgv
                  obtain ⟨q0, z0⟩ := cells1 hgp
                  clear hstep HRUN hgp hgv
                  go_upto_region 25 with fail
                  have hgvo : gv ≠ W2.heap.size := by rintro rfl; have := HGV.out; rw [HS.out.1] at this; simp at this
                  have hgvh : gv ≠ gh := by rintro rfl; have := HGV.out; rw [HS.out.2.2.2.1] at this; simp at this
                  have KS := Aside0.mk (show ∀ W : World, (W.heap[W2.heap.size + 1 + 1]? = some (.cells #[.pointer (some ⟨gv, 0, none⟩)] 147 (0, 0)) ∧ W.heap[gv]? = some (.cells #[.int .i64 q.f0, .int .i64 q.f1, .bool q.f2] 135 (0, 0)) ∧ W.heap[w3.heap.size]? = some (.cells #[.int .i64 X.f0, .int .i64 X.f1, .bool X.f2] 135 (0, 0))) → (W.heap[W2.heap.size + 1 + 1]? = some (.cells #[.pointer (some ⟨gv, 0, none⟩)] 147 (0, 0)) ∧ W.heap[gv]? = some (.cells #[.int .i64 q.f0, .int .i64 q.f1, .bool q.f2] 135 (0, 0)) ∧ W.heap[w3.heap.size]? = some (.cells #[.int .i64 X.f0, .int .i64 X.f1, .bool X.f2] 135 (0, 0))) ∧ W.cell? ⟨W2.heap.size + 1 + 1, 0, none⟩ = some (.pointer (some ⟨gv, 0, none⟩)) ∧ W.cell? ⟨gv, 0, none⟩ = some (.int .i64 q.f0) ∧ W.cell? ⟨gv, 1, none⟩ = some (.int .i64 q.f1) ∧ W.cell? ⟨gv, 2, none⟩ = some (.bool q.f2) ∧ W.cell? ⟨w3.heap.size, 0, none⟩ = some (.int .i64 X.f0) ∧ W.cell? ⟨w3.heap.size, 1, none⟩ = some (.int .i64 X.f1) ∧ W.cell? ⟨w3.heap.size, 2, none⟩ = some (.bool X.f2) from fun W h => by
                    obtain ⟨r0, _⟩ := cells1 h.1
                    obtain ⟨r1, r2, r3⟩ := path_cells3 h.2.1
                    obtain ⟨r4, r5, r6⟩ := path_cells3 h.2.2
                    exact ⟨h, r0, r1, r2, r3, r4, r5, r6⟩)
                  rw [← hx] at c2'
                  go_region_held3 (fun W => (W.heap[W2.heap.size + 1 + 1]? = some (.cells #[.pointer (some ⟨gv, 0, none⟩)] 147 (0, 0)) ∧ W.heap[gv]? = some (.cells #[.int .i64 q.f0, .int .i64 q.f1, .bool q.f2] 135 (0, 0)) ∧ W.heap[w3.heap.size]? = some (.cells #[.int .i64 X.f0, .int .i64 X.f1, .bool X.f2] 135 (0, 0))) ∧ W.cell? ⟨W2.heap.size + 1 + 1, 0, none⟩ = some (.pointer (some ⟨gv, 0, none⟩)) ∧ W.cell? ⟨gv, 0, none⟩ = some (.int .i64 q.f0) ∧ W.cell? ⟨gv, 1, none⟩ = some (.int .i64 q.f1) ∧ W.cell? ⟨gv, 2, none⟩ = some (.bool q.f2) ∧ W.cell? ⟨w3.heap.size, 0, none⟩ = some (.int .i64 X.f0) ∧ W.cell? ⟨w3.heap.size, 1, none⟩ = some (.int .i64 X.f1) ∧ W.cell? ⟨w3.heap.size, 2, none⟩ = some (.bool X.f2))
                    (first
                      | exact KS.out _ ⟨HGP.out, HGV.out, HV.out⟩
                      | (go_split_ands; exact KS.out _ ⟨(hb.block _ (Array.getElem?_eq_some_iff.1 (by assumption)).1).trans (by assumption), (hb.block _ (Array.getElem?_eq_some_iff.1 (by assumption)).1).trans (by assumption), (hb.block _ (Array.getElem?_eq_some_iff.1 (by assumption)).1).trans (by assumption)⟩)
                      | (go_split_ands; exact KS.out _ ⟨hkp.out.2 _ _ _ (by assumption) (by decide) (by omega) (by omega), hkp.out.2 _ _ _ (by assumption) (by decide) hgvo hgvh, hkp.out.2 _ _ _ (by assumption) (by decide) (by omega) (by omega)⟩))
                    (first
                      | (go_at_call 89; refine (path_half.calls _ _ _ _ _ _ _ _ _ rfl).mono ?_; rintro e w' ⟨rfl, hb⟩)
                      | (go_at_call 91; refine (path_end _ _ w.heap.size W2.heap.size gh (W2.heap.size + 1 + 1) v out here (some q) w _ (HS.out.below (by (repeat (first | assumption | exact Below.refl _ _ | with_reducible refine bdrew ?_ | refine bstep ?_ (by assumption)))) (by omega)) hne1 hgg hwW2 hghw (by omega)).mono ?_; rintro e w' ⟨v', rfl, hps, hkp⟩))
                  have HV6 := Aside0.mk (hkp.out.2 _ _ _ ((hb.block _ (Array.getElem?_eq_some_iff.1 HV.out).1).trans HV.out) (by decide) (by omega) (by omega))
                  have HG6 := Aside0.mk (hkp.out.2 _ _ _ ((hb.block _ (Array.getElem?_eq_some_iff.1 HG.out).1).trans HG.out) (by decide) (by omega) (by omega))
                  obtain ⟨x, hxx⟩ := hps.out.pull
                  obtain ⟨r0, r1⟩ := cells1 hxx
                  have hz6 := (Array.getElem?_eq_some_iff.1 hxx).1
                  have HS6 := hps
                  clear hxx KS hb hkp hps q0 z0 c0' c1' c2'
                  go_wp2_with fail
                  go_roundw
                  case rel =>
                    refine ⟨k + 1, v', by omega, by go_num, ⟨?_, hset HG6.out (by omega) _, by simpa using hz6⟩⟩
                    rw [HSTEP.out]
                    exact HS6.out.setSome hne1 hgpb HV6.out
                  case measure => simp [intOf]; omega
            · obtain rfl : k = path_count l0 := by omega
              obtain ⟨hs, hg, hz3⟩ := HR2.out
              have hall : path_all l0 = (path_run l0 (path_count l0)).out ++ [path_seg (path_run l0 (path_count l0)).here (path_run l0 (path_count l0)).pull ⟨(path_begin l0).f0, (path_begin l0).f1⟩] := rfl
              have HALL := Aside0.mk hall
              obtain ⟨q0, q1, _, _⟩ := cells2 hg
              have HS := Aside0.mk hs
              clear hs hg hall HR2
              go_wp2_with fail
              refine (path_end _ _ w.heap.size W2.heap.size gh (W2.heap.size + 1 + 1) v _ _ _ w _ HS.out hne1 hgg hwW2 hghw (by omega)).mono ?_
              rintro e w6 ⟨v', rfl, HS6, HK6⟩
              obtain ⟨r0, r1⟩ := cells1 HS6.out.1
              go_wp2_with fail
              go_ret
              exact ⟨v', rfl, by rw [HALL.out]; exact HS6.out.2.1, HS6.out.2.2.1⟩
end Go.Proofs.Ytlljpjbhndcaiaa.Q
end
section
namespace Go.Proofs.Ytlljpjbhndcaiaa.Q
open Go.RowKit Go.Proofs.YtlljpjbhndcaiaaW.PrintWords Go.Proofs.YtlljpjbhndcaiaaW.PrintLast Go.Proofs.YtlljpjbhndcaiaaW.PrintMore
attribute [local go_sem] max2_int min2_int max_two min_two max_three min_three max_four min_four
set_option linter.unusedVariables false
set_option linter.unusedSimpArgs false
def flat_small.f (a0_0 : Int) (a0_1 : Int) : Option (Int × Int) := some (wrap64 (16 * a0_0), wrap64 (16 * a0_1))
set_option maxHeartbeats 8000000 in
set_option maxRecDepth 100000 in
theorem flat_small.calls (a0_0 : Int) (a0_1 : Int) (r1 : Int) (r2 : Int) (w : World) (h : flat_small.f a0_0 a0_1 = some (r1, r2)) :
    Calls Try.prog 87 #[.agg #[.int .i64 a0_0, .int .i64 a0_1]] w fun e w' => e = .returned (.agg #[.int .i64 r1, .int .i64 r2]) ∧ Below w.heap.size w w' := by
  have hu32 := Try.underlying32
  have HB := Aside0.mk (Below.refl w.heap.size w)
  have H : (some (wrap64 (16 * a0_0), wrap64 (16 * a0_1))) = some (r1, r2) := h
  clear h
  simp only [Option.some.injEq, Prod.mk.injEq] at H
  obtain ⟨rfl, rfl⟩ := H
  go_enter Try.func87, Try.ntmps87
  go_wp2_with (first | ((with_reducible refine gate_dst (N := 1) rfl ?_); refine box_event ?hg (N := 1) ?hd (cs := #[.int .i64 a0_0, .int .i64 a0_1]) (t := 32) ?hr ?_; (case hd => rfl); (case hg => rfl); (case hr => first | (go_simp; done) | (go_simp; rfl)); intro gb162 hg w2 hbox hb; have n0_ := Aside0.mk (below_step (by repeat (first | (with_reducible first | exact HB.out | apply below_alloc | apply pw_below_drewN | apply below_drew1) | exact HB.out)) hb); have n1_ := Aside0.mk (hbox); have n2_ := Aside0.mk ((by rw [hg]; exact (below_size (by repeat (first | (with_reducible first | exact HB.out | apply below_alloc | apply pw_below_drewN | apply below_drew1) | exact HB.out))) : w.heap.size ≤ gb162)); have n3_ := Aside0.mk ((by rw [hg]; exact (below_size (by repeat (first | (with_reducible first | exact HB.out | apply below_alloc | apply pw_below_drewN | apply below_drew1) | exact HB.out))) : w.heap.size ≤ gb162)); clear HB; have HB := n0_; have BK162 := n1_; have GW162 := n2_; have GE162 := n3_; clear n0_ n1_ n2_ n3_; clear hb hbox hg) | ((with_reducible refine gate_dst (N := 2) rfl ?_); refine box_event ?hg (N := 2) ?hd (cs := #[.int .i64 0, .int .i64 0]) (t := 32) ?hr ?_; (case hd => rfl); (case hg => rfl); (case hr => first | (go_simp; done) | (go_simp; rfl)); intro gb163 hg w3 hbox hb; have n0_ := Aside0.mk (blk_below (g := gb162) (o := .cells #[.int .i64 a0_0, .int .i64 a0_1] 32 (0, 0)) (by (with_reducible repeat (first | refine blk_drewN ?_ _ | refine blk_drew ?_ | refine blk_alloc ?_ _)); exact BK162.out) hb); have n1_ := Aside0.mk (below_step (by repeat (first | (with_reducible first | exact HB.out | apply below_alloc | apply pw_below_drewN | apply below_drew1 | refine below_set ?_ GE162.out) | exact HB.out)) hb); have n2_ := Aside0.mk (hbox); have n3_ := Aside0.mk ((by rw [hg]; exact (below_size (by repeat (first | (with_reducible first | exact HB.out | apply below_alloc | apply pw_below_drewN | apply below_drew1 | refine below_set ?_ GE162.out) | exact HB.out))) : w.heap.size ≤ gb163)); have n4_ := Aside0.mk ((by rw [hg]; exact (below_size (by repeat (first | (with_reducible first | exact HB.out | apply below_alloc | apply pw_below_drewN | apply below_drew1 | refine below_set ?_ GE162.out) | exact HB.out))) : w.heap.size ≤ gb163)); have n5_ := Aside0.mk ((by rw [hg]; exact Nat.ne_of_lt (blk_lt (g := gb162) (o := .cells #[.int .i64 a0_0, .int .i64 a0_1] 32 (0, 0)) (by (with_reducible repeat (first | refine blk_drewN ?_ _ | refine blk_drew ?_ | refine blk_alloc ?_ _)); exact BK162.out)) : gb162 ≠ gb163)); have n6_ := Aside0.mk ((by rw [hg]; exact Nat.ne_of_gt (blk_lt (g := gb162) (o := .cells #[.int .i64 a0_0, .int .i64 a0_1] 32 (0, 0)) (by (with_reducible repeat (first | refine blk_drewN ?_ _ | refine blk_drew ?_ | refine blk_alloc ?_ _)); exact BK162.out)) : gb163 ≠ gb162)); clear BK162; clear HB; have BK162 := n0_; have HB := n1_; have BK163 := n2_; have GW163 := n3_; have GE163 := n4_; have NB162_163 := n5_; have NB163_162 := n6_; clear n0_ n1_ n2_ n3_ n4_ n5_ n6_; clear hb hbox hg; have hnb4 := NB162_163.out; have hnc4 := NB163_162.out; have hcz5_0 : w3.cell? ⟨gb162, 0, none⟩ = some (.int .i64 a0_0) := (blk_cell BK162.out 0).trans rfl; have hcz5_1 : w3.cell? ⟨gb162, 1, none⟩ = some (.int .i64 a0_1) := (blk_cell BK162.out 1).trans rfl; have hfz5_0 := blk_frozen BK162.out 0; have hfz5_1 := blk_frozen BK162.out 1; have hcz6_0 : w3.cell? ⟨gb163, 0, none⟩ = some (.int .i64 0) := (blk_cell BK163.out 0).trans rfl; have hcz6_1 : w3.cell? ⟨gb163, 1, none⟩ = some (.int .i64 0) := (blk_cell BK163.out 1).trans rfl; have hfz6_0 := blk_frozen BK163.out 0; have hfz6_1 := blk_frozen BK163.out 1))
  refine bodyPost_ret (results_cell_row rfl _ _ gb163 32 #[.int .i64 (wrap64 (16 * a0_0)), .int .i64 (wrap64 (16 * a0_1))] (0, 0) _ rfl (by (with_reducible repeat (first | refine blk_drewN ?_ _ | refine blk_drew ?_ | refine blk_alloc ?_ _)); refine blk_put (cs := #[.int .i64 (wrap64 (16 * a0_0)), .int .i64 0]) ?_ 1 _ rfl; (with_reducible repeat (first | refine blk_drewN ?_ _ | refine blk_drew ?_ | refine blk_alloc ?_ _)); refine blk_put (cs := #[.int .i64 0, .int .i64 0]) ?_ 0 _ rfl; (with_reducible repeat (first | refine blk_drewN ?_ _ | refine blk_drew ?_ | refine blk_alloc ?_ _)); exact BK163.out) Try.underlying32 rfl (by kernel_rfl)) rfl ?_
  exact ⟨by first | rfl | (simp [errW_none, errW_some] <;> rfl) | (simp [*, errW_none, errW_some] <;> rfl), by repeat (first | (with_reducible first | exact HB.out | apply below_alloc | apply pw_below_drewN | apply below_drew1 | refine below_set ?_ GE162.out | refine below_set ?_ GE163.out) | exact HB.out)⟩
end Go.Proofs.Ytlljpjbhndcaiaa.Q
end
section
namespace Go.Proofs.Ytlljpjbhndcaiaa.Q
open Go.RowKit Go.Proofs.YtlljpjbhndcaiaaW.PrintWords Go.Proofs.YtlljpjbhndcaiaaW.PrintLast Go.Proofs.YtlljpjbhndcaiaaW.PrintMore
attribute [local go_sem] max2_int min2_int max_two min_two max_three min_three max_four min_four
set_option linter.unusedVariables false
set_option linter.unusedSimpArgs false
def flat_On.c (a b c x y z : Int) : Int := wrap64 (Int.tdiv (wrap64 (wrap64 (wrap64 (wrap64 (a * x) + wrap64 (b * y)) + wrap64 (c * z)) * 16)) 16)
def flat_On.f (a0_0 : Int) (a0_1 : Int) (a0_2 : Int) (a0_3 : Int) (a0_4 : Int) (a0_5 : Int) (a0_6 : Bool) (a1 : Int) : Option (Int × Int) :=
  some (flat_On.c (wrap64 (wrap64 (4 - a1) * wrap64 (4 - a1))) (wrap64 (wrap64 (2 * a1) * wrap64 (4 - a1))) (wrap64 (a1 * a1)) a0_0 a0_2 a0_4,
    flat_On.c (wrap64 (wrap64 (4 - a1) * wrap64 (4 - a1))) (wrap64 (wrap64 (2 * a1) * wrap64 (4 - a1))) (wrap64 (a1 * a1)) a0_1 a0_3 a0_5)
set_option maxHeartbeats 1000000 in
theorem flat_On_1 (x y z a b c : Int) (g0 g1 g2 : Nat) (w : World) (h0 : w.cell? ⟨g0, 0, none⟩ = some (.int .i64 a)) (h1 : w.cell? ⟨g1, 0, none⟩ = some (.int .i64 b)) (h2 : w.cell? ⟨g2, 0, none⟩ = some (.int .i64 c)) :
    Calls Try.prog 98 #[.int .i64 x, .int .i64 y, .int .i64 z, .pointer (some ⟨g0, 0, none⟩), .pointer (some ⟨g1, 0, none⟩), .pointer (some ⟨g2, 0, none⟩)] w fun e w' => e = .returned (.int .i64 (flat_On.c a b c x y z)) ∧ w = w' := by
  go_enter Try.func98, Try.ntmps98
  go_wp2_with fail
  go_ret
  exact ⟨rfl, rfl⟩
set_option maxHeartbeats 2000000 in
theorem flat_On.calls (a0_0 : Int) (a0_1 : Int) (a0_2 : Int) (a0_3 : Int) (a0_4 : Int) (a0_5 : Int) (a0_6 : Bool) (a1 : Int) (r1 : Int) (r2 : Int) (w : World) (h : flat_On.f a0_0 a0_1 a0_2 a0_3 a0_4 a0_5 a0_6 a1 = some (r1, r2)) :
    Calls Try.prog 88 #[.agg #[.int .i64 a0_0, .int .i64 a0_1, .int .i64 a0_2, .int .i64 a0_3, .int .i64 a0_4, .int .i64 a0_5, .bool a0_6], .int .i64 a1] w fun e w' => e = .returned (.agg #[.int .i64 r1, .int .i64 r2]) ∧ Below w.heap.size w w' := by
  simp only [flat_On.f, Option.some.injEq, Prod.mk.injEq] at h
  obtain ⟨c0, hc0⟩ : ∃ x, x = wrap64 (wrap64 (4 - a1) * wrap64 (4 - a1)) := ⟨_, rfl⟩
  obtain ⟨c1, hc1⟩ : ∃ x, x = wrap64 (wrap64 (2 * a1) * wrap64 (4 - a1)) := ⟨_, rfl⟩
  obtain ⟨c2, hc2⟩ : ∃ x, x = wrap64 (a1 * a1) := ⟨_, rfl⟩
  rw [← hc0, ← hc1, ← hc2] at h
  obtain ⟨h1, h2⟩ := h
  have H1 := Aside0.mk h1; have H2 := Aside0.mk h2; have C0 := Aside0.mk hc0; have C1 := Aside0.mk hc1; have C2 := Aside0.mk hc2
  clear h1 h2 hc0 hc1 hc2
  go_enter Try.func88, Try.ntmps88
  go_upto_region 3 with fail
  obtain ⟨W0, hS, q0, q1, z0, z1, HB, hW0⟩ : ∃ W0 : World, ((W0.cell? ⟨w.heap.size, 0, none⟩ = some (.int .i64 a0_0) ∧ W0.cell? ⟨w.heap.size, 1, none⟩ = some (.int .i64 a0_1) ∧ W0.cell? ⟨w.heap.size, 2, none⟩ = some (.int .i64 a0_2) ∧ W0.cell? ⟨w.heap.size, 3, none⟩ = some (.int .i64 a0_3) ∧ W0.cell? ⟨w.heap.size, 4, none⟩ = some (.int .i64 a0_4) ∧ W0.cell? ⟨w.heap.size, 5, none⟩ = some (.int .i64 a0_5) ∧ W0.cell? ⟨w.heap.size + 1 + 1, 0, none⟩ = some (.int .i64 c0) ∧ W0.cell? ⟨w.heap.size + 1 + 1 + 1, 0, none⟩ = some (.int .i64 c1) ∧ W0.cell? ⟨w.heap.size + 1 + 1 + 1 + 1, 0, none⟩ = some (.int .i64 c2)) ∧ w.heap.size + 1 < W0.heap.size) ∧ W0.cell? ⟨w.heap.size + 1, 0, none⟩ = some (.int .i64 0) ∧ W0.cell? ⟨w.heap.size + 1, 1, none⟩ = some (.int .i64 0) ∧ W0.frozen? ⟨w.heap.size + 1, 0, none⟩ = false ∧ W0.frozen? ⟨w.heap.size + 1, 1, none⟩ = false ∧ Below w.heap.size w W0 ∧
      W0 = ((((w.alloc (.cells #[.int .i64 a0_0, .int .i64 a0_1, .int .i64 a0_2, .int .i64 a0_3, .int .i64 a0_4, .int .i64 a0_5, .bool a0_6] 143)).alloc (.cells #[.int .i64 0, .int .i64 0] 32)).alloc (.cells #[.int .i64 (wrap64 (wrap64 (4 - a1) * wrap64 (4 - a1)))] 3)).alloc (.cells #[.int .i64 (wrap64 (wrap64 (2 * a1) * wrap64 (4 - a1)))] 3)).alloc (.cells #[.int .i64 (wrap64 (a1 * a1))] 3) := by
    refine ⟨_, ⟨⟨?_, ?_, ?_, ?_, ?_, ?_, ?_, ?_, ?_⟩, ?_⟩, ?_, ?_, ?_, ?_, balloc (balloc (balloc (balloc (balloc (Below.refl _ _) _) _) _) _) _, rfl⟩
    all_goals first | (go_simp; done) | (rw [C0.out]; go_simp; done) | (rw [C1.out]; go_simp; done) | (rw [C2.out]; go_simp; done) | (simp <;> omega)
  rw [← hW0]
  clear hW0
  go_region_held3 (fun W => (W.cell? ⟨w.heap.size, 0, none⟩ = some (.int .i64 a0_0) ∧ W.cell? ⟨w.heap.size, 1, none⟩ = some (.int .i64 a0_1) ∧ W.cell? ⟨w.heap.size, 2, none⟩ = some (.int .i64 a0_2) ∧ W.cell? ⟨w.heap.size, 3, none⟩ = some (.int .i64 a0_3) ∧ W.cell? ⟨w.heap.size, 4, none⟩ = some (.int .i64 a0_4) ∧ W.cell? ⟨w.heap.size, 5, none⟩ = some (.int .i64 a0_5) ∧ W.cell? ⟨w.heap.size + 1 + 1, 0, none⟩ = some (.int .i64 c0) ∧ W.cell? ⟨w.heap.size + 1 + 1 + 1, 0, none⟩ = some (.int .i64 c1) ∧ W.cell? ⟨w.heap.size + 1 + 1 + 1 + 1, 0, none⟩ = some (.int .i64 c2)) ∧ w.heap.size + 1 < W.heap.size)
    (first | exact hS | (go_split_ands; exact ⟨⟨by assumption, by assumption, by assumption, by assumption, by assumption, by assumption, by assumption, by assumption, by assumption⟩, by assumption⟩) | (go_split_ands; exact ⟨⟨cset (cset (by assumption) (by omega) _) (by omega) _, cset (cset (by assumption) (by omega) _) (by omega) _, cset (cset (by assumption) (by omega) _) (by omega) _, cset (cset (by assumption) (by omega) _) (by omega) _, cset (cset (by assumption) (by omega) _) (by omega) _, cset (cset (by assumption) (by omega) _) (by omega) _, cset (cset (by assumption) (by omega) _) (by omega) _, cset (cset (by assumption) (by omega) _) (by omega) _, cset (cset (by assumption) (by omega) _) (by omega) _⟩, sset (sset (by assumption) _ _) _ _⟩))
    (first | (go_at_call 98; refine (flat_On_1 _ _ _ c0 c1 c2 _ _ _ _ (by first | assumption | (go_split_ands; assumption)) (by first | assumption | (go_split_ands; assumption)) (by first | assumption | (go_split_ands; assumption))).mono ?_; rintro e w' ⟨rfl, rfl⟩))
  go_wp2_with fail
  rw [← H1.out, ← H2.out]
  exact bodyPost_ret (v := .agg #[.int .i64 (flat_On.c c0 c1 c2 a0_0 a0_2 a0_4), .int .i64 (flat_On.c c0 c1 c2 a0_1 a0_3 a0_5)]) (by simp [results, Try.results88, go_sem, q0, q1]) rfl
    ⟨rfl, bset (bset HB.drew (by omega) _) (by omega) _⟩
end Go.Proofs.Ytlljpjbhndcaiaa.Q
end
section
namespace Go.Proofs.Ytlljpjbhndcaiaa.Q
open Go.RowKit Go.Proofs.YtlljpjbhndcaiaaW.PrintWords Go.Proofs.YtlljpjbhndcaiaaW.PrintLast Go.Proofs.YtlljpjbhndcaiaaW.PrintMore
attribute [local go_sem] max2_int min2_int max_two min_two max_three min_three max_four min_four
set_option linter.unusedVariables false
set_option linter.unusedSimpArgs false
theorem flat_eqP (d : Nat) (w : World) (x0 y0 : Int) (x1 y1 : Int) :
    (Op.equalIn (d + 2) 32 (.agg #[.int .i64 x0, .int .i64 x1]) (.agg #[.int .i64 y0, .int .i64 y1])).run Try.prog w = .ok (x0 == y0 && (x1 == y1)) w := by
  refine eqA_of Try.underlying32 (by kernel_rfl) ?_
  refine eqf_cons (by rfl) (by go_simp; rfl) (by go_simp; rfl) (by go_simp) ?_
  exact eqf_last (by rfl) (by go_simp; rfl) (by go_simp; rfl) (by go_simp)
theorem flat_i40 : (Try.prog.info? 40).map (fun i => (i.zero, i.size, i.bytes)) = some (some (.agg #[.int .i64 0, .int .i64 0, .int .i64 0, .int .i64 0]), 4, 32) := by kernel_rfl
def flat_Put (base g : Nat) (w0 w : World) (v : Value) (ys : List S40) (e : Ending) (w' : World) : Prop :=
  ∃ v' : Value, e = .returned (.tuple #[]) ∧ w'.heap[g]? = some (.cells #[v'] 29 (0, 0)) ∧ Kd.R k40 40 w' base (fun k => k ≠ g) v' ys ∧ Below base w0 w' ∧ w.heap.size ≤ w'.heap.size ∧
    ∀ k, k < w.heap.size → k ≠ g → some k ≠ v.ownBlock → w'.heap[k]? = w.heap[k]?
set_option maxHeartbeats 2000000 in
theorem flat_Edges_1 (ax ay bx byy : Int) (base g : Nat) (v : Value) (xs : List S40) (w0 w : World) (hg : w.heap[g]? = some (.cells #[v] 29 (0, 0))) (hR : Kd.R k40 40 w base (fun k => k ≠ g) v xs) (hB : Below base w0 w) (hbase : base ≤ w.heap.size) (hgb : base ≤ g) (hl : (xs.length + 1) * 32 ≤ 140737488355328) :
    Calls Try.prog 86 #[.agg #[.int .i64 ax, .int .i64 ay], .agg #[.int .i64 bx, .int .i64 byy], .pointer (some ⟨g, 0, none⟩)] w
      (flat_Put base g w0 w v (if ax = bx ∧ ay = byy then xs else xs ++ [⟨⟨ax, ay⟩, ⟨bx, byy⟩⟩])) := by
  have he := @flat_eqP
  have hgl := (Array.getElem?_eq_some_iff.1 hg).1
  obtain ⟨W0, c0, c1, d0, d1, e0, z0, hs, HB, hR0, hk, hsz, hg0, hW0⟩ : ∃ W0 : World, W0.cell? ⟨w.heap.size, 0, none⟩ = some (.int .i64 ax) ∧ W0.cell? ⟨w.heap.size, 1, none⟩ = some (.int .i64 ay) ∧ W0.cell? ⟨w.heap.size + 1, 0, none⟩ = some (.int .i64 bx) ∧ W0.cell? ⟨w.heap.size + 1, 1, none⟩ = some (.int .i64 byy)
      ∧ W0.cell? ⟨g, 0, none⟩ = some v ∧ W0.frozen? ⟨g, 0, none⟩ = false ∧ base ≤ W0.heap.size ∧ Below base w0 W0 ∧ Kd.R k40 40 W0 base (fun k => k ≠ g) v xs ∧ (∀ k, k < w.heap.size → W0.heap[k]? = w.heap[k]?) ∧ w.heap.size ≤ W0.heap.size ∧ W0.heap[g]? = some (.cells #[v] 29 (0, 0)) ∧
      W0 = (w.alloc (.cells #[.int .i64 ax, .int .i64 ay] 32)).alloc (.cells #[.int .i64 bx, .int .i64 byy] 32) := by
    obtain ⟨q, z⟩ := cells1 hg
    exact ⟨_, by go_simp, by go_simp, by go_simp, by go_simp, calloc (calloc q _) _, falloc (calloc q _) (falloc q z _) _, by simp; omega, (hB.alloc hbase _).alloc (by simp; omega) _, Kd.R_below (Kd.R_below hR (balloc (Below.refl _ _) _)) (balloc (Below.refl _ _) _),
      fun k hk => by rw [Below.heap_alloc _ _ _ (by simp; omega), Below.heap_alloc _ _ _ hk], by simp; omega, halloc (halloc hg _) _, rfl⟩
  by_cases h : ax = bx ∧ ay = byy
  · rw [if_pos h]
    obtain ⟨rfl, rfl⟩ := h
    go_enter Try.func86, Try.ntmps86
    go_upto_region 1 with fail
    rw [← hW0]
    clear hW0 hg
    go_wp2_with fail
    go_end0
    exact ⟨v, rfl, hg0, hR0, HB, hsz, fun k hk' _ _ => hk k hk'⟩
  · rw [if_neg h]
    have hp : (!(ax == bx && (ay == byy))) = true := by
      by_cases h1 : ax = bx
      · have h2 : ¬ ay = byy := fun h2 => h ⟨h1, h2⟩
        simp [h2]
      · simp [h1]
    have HL := Aside0.mk hl; have HK := Aside0.mk hk; have HR := Aside0.mk hR0; have HBB := Aside0.mk HB; have HG0 := Aside0.mk hg0
    clear h hR hB hl hk hR0 HB hg0
    go_enter Try.func86, Try.ntmps86
    go_upto_region 1 with fail
    rw [← hW0]
    clear hW0 hg
    go_wp2_with ((at_builtin; refine Kd.R_append k40 (w0 := w0) base rfl (.tmp 8) (.tmp 12) 29 40 (.agg #[.int .i64 0, .int .i64 0, .int .i64 0, .int .i64 0]) 32 rfl Try.underlying29 flat_i40 rfl (by decide) (by omega) v xs (⟨⟨ax, ay⟩, ⟨bx, byy⟩⟩ : S40) [.int .i64 ax, .int .i64 ay, .int .i64 bx, .int .i64 byy] (fun k => k ≠ g) (fun _ => False) rfl (by first | (go_simp; done) | (go_simp; rfl)) (k40_mkM _ _ _ _) (fun _ hk => hk.elim) ?c1 HR.out HBB.out (by simpa using hs) HL.out ?_; (case c1 => exact fun k hk' => by omega); intro v1 w1 ho hb hgr hat; obtain ⟨A1, k1, rfl⟩ := Kd.R_slice ho; simp only [List.length_append, List.length_cons, List.length_nil, Nat.zero_add] at ho; have hg1 := (hgr.block g (Nat.lt_of_lt_of_le hgl hsz) (fun hh => HR.out.1 g hh.symm rfl)).trans HG0.out; obtain ⟨q1, z1⟩ := cells1 hg1; have HO := Aside0.mk ho; have HB1 := Aside0.mk hb; have HGR := Aside0.mk hgr; have HG1 := Aside0.mk hg1; clear ho hb hgr hat hg1))
    go_end0
    refine ⟨_, rfl, hset1 HG1.out, Kd.R_far (p := ⟨g, 0, none⟩) HO.out (fun k hk' => hk') _, HB1.out.setCell (p := ⟨g, 0, none⟩) hgb _, ?_, fun k hk' hk1 hk2 => ?_⟩
    · have := HGR.out.size; simp; omega
    · rw [Below.heap_setCell _ _ _ _ hk1, HGR.out.block k (by omega) hk2]; exact HK.out k hk'
def flat_edge (a b : S32) : List S40 := if a.f0 = b.f0 ∧ a.f1 = b.f1 then [] else [⟨a, b⟩]
def flat_sm (p : S32) : S32 := ⟨wrap64 (16 * p.f0), wrap64 (16 * p.f1)⟩
def flat_cv (s : S143) (k : Int) : S32 :=
  ⟨flat_On.c (wrap64 (wrap64 (4 - k) * wrap64 (4 - k))) (wrap64 (wrap64 (2 * k) * wrap64 (4 - k))) (wrap64 (k * k)) s.f0.f0 s.f1.f0 s.f2.f0, flat_On.c (wrap64 (wrap64 (4 - k) * wrap64 (4 - k))) (wrap64 (wrap64 (2 * k) * wrap64 (4 - k))) (wrap64 (k * k)) s.f0.f1 s.f1.f1 s.f2.f1⟩
def flat_pt (s : S143) : Nat → S32
  | 0 => flat_sm s.f0
  | k + 1 => flat_cv s ((k : Int) + 1)
def flat_chords (s : S143) : Nat → List S40
  | 0 => []
  | k + 1 => flat_chords s k ++ flat_edge (flat_pt s k) (flat_pt s (k + 1))
def flat_seg (s : S143) : List S40 := if s.f3 = true then flat_chords s 4 else flat_edge (flat_sm s.f0) (flat_sm s.f2)
theorem flat_edge_len (a b : S32) : (flat_edge a b).length ≤ 1 := by unfold flat_edge; split <;> simp
theorem flat_chords_len (s : S143) : ∀ k, (flat_chords s k).length ≤ k
  | 0 => Nat.le_refl _
  | k + 1 => by
    have := flat_chords_len s k
    have := flat_edge_len (flat_pt s k) (flat_pt s (k + 1))
    simp only [flat_chords, List.length_append]
    omega
theorem flat_seg_len (s : S143) : (flat_seg s).length ≤ 4 := by
  unfold flat_seg
  split
  · exact flat_chords_len s 4
  · exact Nat.le_trans (flat_edge_len _ _) (by omega)
theorem flat_all_len : ∀ l : List S143, (l.flatMap flat_seg).length ≤ 4 * l.length
  | [] => Nat.le_refl _
  | s :: l => by
    have := flat_all_len l
    have := flat_seg_len s
    simp only [List.flatMap_cons, List.length_append, List.length_cons]
    omega
theorem flat_take (l : List S143) (k : Nat) (h : k < l.length) : (l.take (k + 1)).flatMap flat_seg = (l.take k).flatMap flat_seg ++ flat_seg (rd_T143 l k) := by
  rw [List.take_succ_eq_append_getElem h, List.flatMap_append]
  simp [rd_T143, h]
theorem flat_put_eq (xs : List S40) (a b : S32) : (if a.f0 = b.f0 ∧ a.f1 = b.f1 then xs else xs ++ [(⟨⟨a.f0, a.f1⟩, ⟨b.f0, b.f1⟩⟩ : S40)]) = xs ++ flat_edge a b := by
  unfold flat_edge
  split <;> simp
def flat_Edges.f (l0 : List S143) : Option (List S40) := if l0.length ≤ 1000000 then some (l0.flatMap flat_seg) else none
def flat_PS (w : World) (v : Value) (xs : List S40) (W : World) : Prop :=
  W.heap[w.heap.size]? = some (.cells #[v] 29 (0, 0)) ∧ Kd.R k40 40 W w.heap.size (fun q => q ≠ w.heap.size) v xs ∧ Below w.heap.size w W
def flat_Rel (w : World) (l0 : List S143) (k : Nat) (v : Value) (W : World) : Prop := flat_PS w v ((l0.take k).flatMap flat_seg) W
theorem flat_PS.below {w W W' : World} {v : Value} {xs : List S40} (h : flat_PS w v xs W) (hb : Below W.heap.size W W') : flat_PS w v xs W' :=
  ⟨(hb.block _ (Array.getElem?_eq_some_iff.1 h.1).1).trans h.1, Kd.R_below h.2.1 hb, bstep h.2.2 hb⟩
theorem flat_PS.set2 {w W : World} {v : Value} {xs : List S40} {g : Nat} {a b : Value} (h : flat_PS w v xs W) (hg : w.heap.size < g) (hb : W.heap[g]? = some (.cells #[a, b] 32 (0, 0))) (x y : Value) : flat_PS w v xs ((W.setCell ⟨g, 0, none⟩ x).setCell ⟨g, 1, none⟩ y) := by
  obtain ⟨h1, h2, h3⟩ := h
  have ht : ∀ q, q ∈ 40 :: k40.E → q ≠ 32 := by decide
  have r1 := Kd.R_set h2 hb ht 0 x
  have hb1 : (W.setCell ⟨g, 0, none⟩ x).heap[g]? = some (.cells #[x, b] 32 (0, 0)) := by simp [World.setCell, Array.getElem?_modify, hb]
  exact ⟨hset (hset h1 (by omega) _) (by omega) _, Kd.R_set r1 hb1 ht 1 y, bset (bset h3 (by omega) _) (by omega) _⟩
theorem flat_put (w W : World) (v : Value) (xs : List S40) (ax ay bx byy : Int) (h : flat_PS w v xs W) (hl : xs.length ≤ 4000000) :
    Calls Try.prog 86 #[.agg #[.int .i64 ax, .int .i64 ay], .agg #[.int .i64 bx, .int .i64 byy], .pointer (some ⟨w.heap.size, 0, none⟩)] W
      fun e W' => ∃ v', e = .returned (.tuple #[]) ∧ Aside0 (flat_PS w v' (xs ++ flat_edge ⟨ax, ay⟩ ⟨bx, byy⟩) W') ∧ Aside0 (∀ b cs t, W.heap[b]? = some (.cells cs t (0, 0)) → t ≠ 40 → b ≠ w.heap.size → W'.heap[b]? = some (.cells cs t (0, 0))) := by
  refine (flat_Edges_1 ax ay bx byy w.heap.size w.heap.size v xs w W h.1 h.2.1 h.2.2 h.2.2.size (Nat.le_refl _) (by omega)).mono ?_
  rintro e W' ⟨v', rfl, h1, h2, h3, h4, h5⟩
  have e1 := flat_put_eq xs ⟨ax, ay⟩ ⟨bx, byy⟩
  simp only at e1
  rw [e1] at h2
  refine ⟨v', rfl, ⟨h1, h2, h3⟩, ⟨fun b cs t hb ht hne => ?_⟩⟩
  rw [h5 b (Array.getElem?_eq_some_iff.1 hb).1 hne (Kd.R_ne h.2.1 hb (fun hh => ht hh.symm))]
  exact hb
theorem flat_cells7 {W : World} {g t : Nat} {a b c d e f x : Value} (h : W.heap[g]? = some (.cells #[a, b, c, d, e, f, x] t (0, 0))) : W.cell? ⟨g, 0, none⟩ = some a ∧ W.cell? ⟨g, 1, none⟩ = some b ∧ W.cell? ⟨g, 2, none⟩ = some c ∧ W.cell? ⟨g, 3, none⟩ = some d ∧ W.cell? ⟨g, 4, none⟩ = some e ∧ W.cell? ⟨g, 5, none⟩ = some f ∧ W.cell? ⟨g, 6, none⟩ = some x := by
  refine ⟨?_, ?_, ?_, ?_, ?_, ?_, ?_⟩ <;> simp [World.cell?, h]
set_option maxHeartbeats 4000000 in
set_option maxRecDepth 100000 in
theorem flat_Edges.calls (A0 : Option Addr) (c0 : Nat) (l0 : List S143) (r : List S40) (w : World) (hr0 : Kd.C k143 w A0 l0.length l0) (hc0 : l0.length ≤ c0) (h : flat_Edges.f l0 = some r) :
    Calls Try.prog 80 #[.slice A0 l0.length c0] w fun e w' => ∃ v0_ : Value, e = .returned v0_ ∧ Kd.R k40 40 w' w.heap.size (fun _ => True) v0_ r ∧ Below w.heap.size w w' := by
  unfold flat_Edges.f at h
  split at h
  case isFalse => cases h
  rename_i hlen
  obtain rfl := Option.some.inj h
  clear h
  have HR0 := Aside0.mk hr0
  clear hr0
  go_enter Try.func80, Try.ntmps80
  go_wp2_with fail
  go_loopw [13] (fun s13 W => ∃ (k : Nat) (v : Value), k ≤ l0.length ∧ s13 = .int .i64 k ∧ Aside0 (flat_Rel w l0 k v W)) (fun s13 _ => l0.length - (intOf s13).toNat)
  case atStart =>
    exact ⟨0, .slice none 0 0, Nat.zero_le _, rfl, ⟨hnew _ _ rfl, Kd.R_nil _ _ _ _ _, balloc (Below.refl _ _) _⟩⟩
  case round =>
    obtain ⟨k, v, hk, rfl, HRel⟩ := hrel
    by_cases hlt : k < l0.length
    · obtain ⟨hg, hR, hB⟩ := HRel.out
      have htk := flat_take l0 k hlt
      have hxl := flat_all_len (l0.take k)
      rw [List.length_take, Nat.min_eq_left hk] at hxl
      obtain ⟨xs, hxs⟩ : ∃ x, x = (l0.take k).flatMap flat_seg := ⟨_, rfl⟩
      rw [← hxs] at htk hR hxl
      obtain ⟨ad, rfl, x0, x1, x2, x3, x4, x5, x6⟩ := at_T143 HR0.out (k : Int) (by omega) (by omega)
      rw [Int.toNat_natCast] at x0 x1 x2 x3 x4 x5 x6
      obtain ⟨E, hE⟩ : ∃ E, E = rd_T143 l0 k := ⟨_, rfl⟩
      rw [← hE] at x0 x1 x2 x3 x4 x5 x6 htk
      replace x0 := (hB.cell (World.block_lt_of_cell? w _ x0)).trans x0
      replace x1 := (hB.cell (World.block_lt_of_cell? w _ x1)).trans x1
      replace x2 := (hB.cell (World.block_lt_of_cell? w _ x2)).trans x2
      replace x3 := (hB.cell (World.block_lt_of_cell? w _ x3)).trans x3
      replace x4 := (hB.cell (World.block_lt_of_cell? w _ x4)).trans x4
      replace x5 := (hB.cell (World.block_lt_of_cell? w _ x5)).trans x5
      replace x6 := (hB.cell (World.block_lt_of_cell? w _ x6)).trans x6
      obtain ⟨wo, rfl⟩ : ∃ wo : World, wo = wr := ⟨_, rfl⟩
      have hk0 : (0 : Int) ≤ (k : Int) := by omega
      have hk1 : (k : Int) < (l0.length : Int) := by omega
      have hPS : flat_PS w v xs wo := ⟨hg, hR, hB⟩
      have HPS := Aside0.mk hPS; have HXS := Aside0.mk hxs; have HTK := Aside0.mk htk; have HE := Aside0.mk hE
      clear hg hR hB hxs htk hE HRel hPS
      cases hcv : E.f3 with
      | false =>
        rw [hcv] at x6
        have hseg : flat_seg E = flat_edge (flat_sm E.f0) (flat_sm E.f2) := by unfold flat_seg; rw [hcv]; rfl
        have HSEG := Aside0.mk hseg
        clear hcv hseg
        go_upto_region 7 with fail
        obtain ⟨W1, hgs, hPS1, hlt1, hW1⟩ : ∃ W1 : World, W1.heap[wo.heap.size]? = some (.cells #[.int .i64 E.f0.f0, .int .i64 E.f0.f1, .int .i64 E.f1.f0, .int .i64 E.f1.f1, .int .i64 E.f2.f0, .int .i64 E.f2.f1, .bool false] 143 (0, 0)) ∧ flat_PS w v xs W1 ∧ w.heap.size < wo.heap.size ∧ W1 = wo.alloc (.cells #[.int .i64 E.f0.f0, .int .i64 E.f0.f1, .int .i64 E.f1.f0, .int .i64 E.f1.f1, .int .i64 E.f2.f0, .int .i64 E.f2.f1, .bool false] 143) :=
          ⟨_, hnew _ _ rfl, HPS.out.below (balloc (Below.refl _ _) _), (Array.getElem?_eq_some_iff.1 HPS.out.1).1, rfl⟩
        rw [← hW1]
        clear hW1
        have KS := Aside0.mk (show ∀ W : World, W.heap[wo.heap.size]? = some (.cells #[.int .i64 E.f0.f0, .int .i64 E.f0.f1, .int .i64 E.f1.f0, .int .i64 E.f1.f1, .int .i64 E.f2.f0, .int .i64 E.f2.f1, .bool false] 143 (0, 0)) → W.heap[wo.heap.size]? = some (.cells #[.int .i64 E.f0.f0, .int .i64 E.f0.f1, .int .i64 E.f1.f0, .int .i64 E.f1.f1, .int .i64 E.f2.f0, .int .i64 E.f2.f1, .bool false] 143 (0, 0)) ∧ W.cell? ⟨wo.heap.size, 0, none⟩ = some (.int .i64 E.f0.f0) ∧ W.cell? ⟨wo.heap.size, 1, none⟩ = some (.int .i64 E.f0.f1) ∧ W.cell? ⟨wo.heap.size, 4, none⟩ = some (.int .i64 E.f2.f0) ∧ W.cell? ⟨wo.heap.size, 5, none⟩ = some (.int .i64 E.f2.f1) from fun W h => by
          obtain ⟨y0, y1, _, _, y4, y5, _⟩ := flat_cells7 h
          exact ⟨h, y0, y1, y4, y5⟩)
        have HPS1 := Aside0.mk hPS1; have HGS := Aside0.mk hgs
        have hgl := (Array.getElem?_eq_some_iff.1 hgs).1
        clear hPS1 hgs
        go_region_held3 (fun W => W.heap[wo.heap.size]? = some (.cells #[.int .i64 E.f0.f0, .int .i64 E.f0.f1, .int .i64 E.f1.f0, .int .i64 E.f1.f1, .int .i64 E.f2.f0, .int .i64 E.f2.f1, .bool false] 143 (0, 0)) ∧ W.cell? ⟨wo.heap.size, 0, none⟩ = some (.int .i64 E.f0.f0) ∧ W.cell? ⟨wo.heap.size, 1, none⟩ = some (.int .i64 E.f0.f1) ∧ W.cell? ⟨wo.heap.size, 4, none⟩ = some (.int .i64 E.f2.f0) ∧ W.cell? ⟨wo.heap.size, 5, none⟩ = some (.int .i64 E.f2.f1))
          (first
            | exact KS.out _ HGS.out
            | (go_split_ands; exact KS.out _ ((hb.block _ (Array.getElem?_eq_some_iff.1 (by assumption)).1).trans (by assumption)))
            | (go_split_ands; exact KS.out _ (hkp.out _ _ _ (by assumption) (by decide) (by omega))))
          (first
            | (go_at_call 87; refine (flat_small.calls _ _ _ _ _ rfl).mono ?_; rintro e w' ⟨rfl, hb⟩)
            | (go_at_call 86; refine (flat_put w _ v xs _ _ _ _ (HPS1.out.below (by (repeat (first | assumption | exact Below.refl _ _ | with_reducible refine bdrew ?_ | refine bstep ?_ (by assumption))))) (by omega)).mono ?_; rintro e w' ⟨v', rfl, hps', hkp⟩))
        clear KS
        go_wp2_with fail
        go_roundw
        case rel => exact ⟨k + 1, v', by omega, by go_num, ⟨by unfold flat_Rel; rw [HTK.out, HSEG.out]; exact hps'.out⟩⟩
        case measure => simp [intOf]; omega
      | true =>
        rw [hcv] at x6
        have hseg : flat_seg E = flat_chords E 4 := by unfold flat_seg; rw [hcv]; rfl
        have HSEG := Aside0.mk hseg
        clear hcv hseg
        have hgl0 := (Array.getElem?_eq_some_iff.1 HPS.out.1).1
        obtain ⟨W1, hW1⟩ : ∃ W1 : World, W1 = wo.alloc (.cells #[.int .i64 E.f0.f0, .int .i64 E.f0.f1, .int .i64 E.f1.f0, .int .i64 E.f1.f1, .int .i64 E.f2.f0, .int .i64 E.f2.f1, .bool true] 143) := ⟨_, rfl⟩
        have HGS : Aside0 (W1.heap[wo.heap.size]? = some (.cells #[.int .i64 E.f0.f0, .int .i64 E.f0.f1, .int .i64 E.f1.f0, .int .i64 E.f1.f1, .int .i64 E.f2.f0, .int .i64 E.f2.f1, .bool true] 143 (0, 0))) := ⟨by rw [hW1]; exact hnew _ _ rfl⟩
        have HPS1 : Aside0 (flat_PS w v xs W1) := ⟨by rw [hW1]; exact HPS.out.below (balloc (Below.refl _ _) _)⟩
        go_upto_region 8 with fail
        rw [← hW1]
        clear hW1
        obtain ⟨y0, y1, y2, y3, y4, y5, y6⟩ := flat_cells7 HGS.out
        go_wp2_with fail
        refine (flat_small.calls _ _ _ _ _ rfl).mono ?_
        rintro e w2 ⟨rfl, hb⟩
        have HGS2 : Aside0 (w2.heap[wo.heap.size]? = some (.cells #[.int .i64 E.f0.f0, .int .i64 E.f0.f1, .int .i64 E.f1.f0, .int .i64 E.f1.f1, .int .i64 E.f2.f0, .int .i64 E.f2.f1, .bool true] 143 (0, 0))) := ⟨(hb.block _ (Array.getElem?_eq_some_iff.1 HGS.out).1).trans HGS.out⟩
        have HPS2 : Aside0 (flat_PS w v xs w2) := ⟨HPS1.out.below hb⟩
        clear hb y0 y1 y2 y3 y4 y5 y6 x0 x1 x2 x3 x4 x5 x6 HGS HPS1
        go_wp2_with fail
        have hz2 := (Array.getElem?_eq_some_iff.1 HGS2.out).1
        go_loopw [8] (fun s8 W => ∃ (m : Nat) (v' : Value), m ≤ 4 ∧ s8 = .int .i64 (m + 1 : Nat) ∧ Aside0 (flat_PS w v' (xs ++ flat_chords E m) W ∧ W.heap[wo.heap.size]? = some (.cells #[.int .i64 E.f0.f0, .int .i64 E.f0.f1, .int .i64 E.f1.f0, .int .i64 E.f1.f1, .int .i64 E.f2.f0, .int .i64 E.f2.f1, .bool true] 143 (0, 0)) ∧ W.heap[w2.heap.size]? = some (.cells #[.int .i64 (flat_pt E m).f0, .int .i64 (flat_pt E m).f1] 32 (0, 0)))) (fun s8 _ => 5 - (intOf s8).toNat)
        case atStart =>
          exact ⟨0, v, by omega, rfl, ⟨by rw [flat_chords, List.append_nil]; exact HPS2.out.below (balloc (Below.refl _ _) _), halloc HGS2.out _, hnew _ _ rfl⟩⟩
        case round =>
          obtain ⟨m, v', hm, rfl, HR2⟩ := hrel
          obtain ⟨p1, p2, p3⟩ := HR2.out
          have hcl := flat_chords_len E m
          by_cases hm4 : m < 4
          · obtain ⟨y0, y1, y2, y3, y4, y5, y6⟩ := flat_cells7 p2
            have hb2 := (Array.getElem?_eq_some_iff.1 p2).1
            have hb3 := (Array.getElem?_eq_some_iff.1 p3).1
            have hPw := (Array.getElem?_eq_some_iff.1 p1.1).1
            have HP1 := Aside0.mk p1; have HP2 := Aside0.mk p2; have HP3 := Aside0.mk p3
            clear p1 p2 p3
            obtain ⟨w3, rfl⟩ : ∃ w3 : World, w3 = wr := ⟨_, rfl⟩
            have e1 : ((m + 1 : Nat) : Int) ≤ 4 := by omega
            go_wp2_with fail
            obtain ⟨px, hpx⟩ : ∃ x, x = (flat_pt E (m + 1)).f0 := ⟨_, rfl⟩
            obtain ⟨py, hpy⟩ : ∃ x, x = (flat_pt E (m + 1)).f1 := ⟨_, rfl⟩
            have HPX := Aside0.mk hpx; have HPY := Aside0.mk hpy
            clear hpx hpy
            refine (flat_On.calls _ _ _ _ _ _ _ _ px py _ (by rw [HPX.out, HPY.out]; rfl)).mono ?_
            rintro e w4 ⟨rfl, hb⟩
            obtain ⟨w5, hw5⟩ : ∃ w5 : World, w5 = w4.alloc (.cells #[.int .i64 px, .int .i64 py] 32) := ⟨_, rfl⟩
            have q1 : Aside0 (flat_PS w v' (xs ++ flat_chords E m) w5) := ⟨by rw [hw5]; exact (HP1.out.below hb).below (balloc (Below.refl _ _) _)⟩
            have q2 : Aside0 (w5.heap[wo.heap.size]? = some (.cells #[.int .i64 E.f0.f0, .int .i64 E.f0.f1, .int .i64 E.f1.f0, .int .i64 E.f1.f1, .int .i64 E.f2.f0, .int .i64 E.f2.f1, .bool true] 143 (0, 0))) := ⟨by rw [hw5]; exact halloc ((hb.block _ hb2).trans HP2.out) _⟩
            have q3 : Aside0 (w5.heap[w2.heap.size]? = some (.cells #[.int .i64 (flat_pt E m).f0, .int .i64 (flat_pt E m).f1] 32 (0, 0))) := ⟨by rw [hw5]; exact halloc ((hb.block _ hb3).trans HP3.out) _⟩
            have q4 : Aside0 (w5.heap[w4.heap.size]? = some (.cells #[.int .i64 px, .int .i64 py] 32 (0, 0))) := ⟨by rw [hw5]; exact hnew _ _ rfl⟩
            have hz4 := hb.size
            have hne42 : w4.heap.size ≠ w2.heap.size := by omega
            clear hb y0 y1 y2 y3 y4 y5 y6 HP1 HP2 HP3
            go_upto_region 13 with fail
            rw [← hw5]
            clear hw5
            obtain ⟨h0, h1, _, _⟩ := cells2 q3.out
            obtain ⟨n0, n1, _, _⟩ := cells2 q4.out
            go_wp2_with fail
            refine (flat_put w w5 v' (xs ++ flat_chords E m) _ _ _ _ q1.out (by simp only [List.length_append]; omega)).mono ?_
            rintro e w6 ⟨v2, rfl, hps2, hk2⟩
            have r2 : Aside0 (w6.heap[wo.heap.size]? = some (.cells #[.int .i64 E.f0.f0, .int .i64 E.f0.f1, .int .i64 E.f1.f0, .int .i64 E.f1.f1, .int .i64 E.f2.f0, .int .i64 E.f2.f1, .bool true] 143 (0, 0))) := ⟨hk2.out _ _ _ q2.out (by decide) (by omega)⟩
            have r3 := hk2.out _ _ _ q3.out (by decide) (by omega)
            have r4 := hk2.out _ _ _ q4.out (by decide) (by omega)
            obtain ⟨n0', n1', _, _⟩ := cells2 r4
            obtain ⟨h0', h1', z0', z1'⟩ := cells2 r3
            have R3 := Aside0.mk r3
            clear h0 h1 n0 n1 q1 q2 q3 q4 r3 r4 hk2
            go_wp2_with fail
            go_roundw
            case rel =>
              refine ⟨m + 1, v2, by omega, by go_num, ⟨?_, ?_, ?_⟩⟩
              · have e2 : flat_chords E (m + 1) = flat_chords E m ++ flat_edge (flat_pt E m) (flat_pt E (m + 1)) := rfl
                rw [e2, ← List.append_assoc]
                have h := hps2.out
                rw [HPX.out, HPY.out] at h
                exact flat_PS.set2 h (by omega) R3.out _ _
              · exact hset (hset r2.out (by omega) _) (by omega) _
              · rw [← HPX.out, ← HPY.out]; exact hset2 R3.out
            case measure => simp [intOf]; omega
          · obtain rfl : m = 4 := by omega
            have HP1 := Aside0.mk p1
            clear p1 p2 p3
            go_wp2_with fail
            go_roundw
            case rel => exact ⟨k + 1, v', by omega, by go_num, ⟨by unfold flat_Rel; rw [HTK.out, HSEG.out]; exact HP1.out⟩⟩
            case measure => simp [intOf]; omega
    · obtain rfl : k = l0.length := by omega
      obtain ⟨hg, hR, hB⟩ := HRel.out
      rw [List.take_length] at hR
      obtain ⟨q, z⟩ := cells1 hg
      go_wp2_with fail
      go_ret
      exact ⟨v, rfl, Kd.R_mono hR (fun _ _ => trivial), hB⟩
end Go.Proofs.Ytlljpjbhndcaiaa.Q
end
section
namespace Go.Proofs.Ytlljpjbhndcaiaa.Q
open Go.RowKit Go.Proofs.YtlljpjbhndcaiaaW.PrintWords Go.Proofs.YtlljpjbhndcaiaaW.PrintLast Go.Proofs.YtlljpjbhndcaiaaW.PrintMore
attribute [local go_sem] max2_int min2_int max_two min_two max_three min_three max_four min_four
set_option linter.unusedVariables false
set_option linter.unusedSimpArgs false
def flat_All.l0 : Nat → List (S40) → List (List (S143)) → Int → Int → Option ((List (S40)))
  | 0, _, _, _, _ => none
  | k + 1, x3, x6, x7, x8 => if x8 < x7 then (if 0 ≤ x8 then (if x8 < (x6.length : Int) then ((flat_Edges.f (rd_L7 x6 x8)).bind fun t165 => (if x3.length + t165.length < 4398046511104 then (flat_All.l0 k (x3 ++ t165) x6 x7 (wrap64 (x8 + 1))) else (none))) else (none)) else (none)) else (some x3)
def flat_All.f (k : Nat) (l0 : List (List (S143))) : Option ((List (S40))) := flat_All.l0 k ([] : List (S40)) l0 (l0.length : Int) 0
theorem flat_All.mono_l : ∀ k, (∀ y0 y1 y2 y3, LeO (flat_All.l0 k y0 y1 y2 y3) (flat_All.l0 (k + 1) y0 y1 y2 y3))
  | 0 => fun _ _ _ _ r h => by simp [flat_All.l0] at h
  | k + 1 => by
    have ih0 := flat_All.mono_l k
    · intro y0 y1 y2 y3
      unfold flat_All.l0
      repeat' first
      | (with_reducible exact ih0 _ _ _ _)
      | (with_reducible exact LeO.refl _)
      | (with_reducible exact LeO.none _)
      | (with_reducible refine LeO.ite ?_ ?_)
      | (with_reducible refine LeO.bind ?_ (fun _ => ?_))
      | exact ih0 _ _ _ _
      | exact LeO.none _
      | refine LeO.ite ?_ ?_
      | refine LeO.bind ?_ (fun _ => ?_)
theorem flat_All.mono : ∀ a0 k, LeO (flat_All.f k a0) (flat_All.f (k + 1) a0) := by
  intro a0 k
  have ih0 := flat_All.mono_l k
  unfold flat_All.f
  repeat' first
      | (with_reducible exact ih0 _ _ _ _)
      | (with_reducible exact LeO.refl _)
      | (with_reducible exact LeO.none _)
      | (with_reducible refine LeO.ite ?_ ?_)
      | (with_reducible refine LeO.bind ?_ (fun _ => ?_))
      | exact ih0 _ _ _ _
      | exact LeO.none _
      | refine LeO.ite ?_ ?_
      | refine LeO.bind ?_ (fun _ => ?_)
set_option maxHeartbeats 8000000 in
set_option maxRecDepth 100000 in
theorem flat_All.calls (k : Nat) (A0 : Option Addr) (c0 : Nat) (l0 : List (List (S143))) (r : List (S40)) (w : World) (hr0 : Kd.C (Kd.slice 143 k143) w A0 l0.length l0) (hc0 : l0.length ≤ c0) (h : flat_All.f k l0 = some r) :
    Calls Try.prog 55 #[.slice A0 l0.length c0] w fun e w' => ∃ v0_ : Value, e = .returned (v0_) ∧ Kd.R k40 40 w' w.heap.size (fun _ => True) v0_ r ∧ Below w.heap.size w w' := by
  have HR0 := Aside0.mk hr0
  have HC0 := Aside0.mk hc0
  clear hr0 hc0
  have HB := Aside0.mk (Below.refl w.heap.size w)
  have H : (flat_All.l0 k ([] : List (S40)) l0 (l0.length : Int) 0) = some r := h
  clear h
  have H' := Aside0.mk H
  clear H
  go_enter Try.func55, Try.ntmps55
  go_wp2
  go_loopg [3, 8] k (fun kq v3 v8 w' => ∃ (x3_1 : List (S40)) (x8_1 : Int), v8 = .int .i64 x8_1 ∧ Aside0 (flat_All.l0 kq x3_1 l0 (l0.length : Int) x8_1 = some r) ∧ Aside0 (kq ≤ k) ∧ Aside0 (Kd.R k40 40 w' w.heap.size (fun _ => True) v3 x3_1) ∧ Aside0 (Below w.heap.size w w'))
  case atStart => exact ⟨(([] : List (S40))), (0), (by first | rfl | (simp; done) | (simp [*]; done)), H', ⟨Nat.le_refl _⟩, ⟨by first | exact Kd.R_nil _ _ _ _ _ | exact Kd.N_nil _ _ _ _ _ | exact Kd.V_nil _ _ _ _ _ | exact Kd.Q_nil _ _ _ _ _ | exact Kd.S_nil _ _ _ _ _⟩, ⟨by repeat (first | (with_reducible first | exact HB.out | apply below_alloc | apply pw_below_drewN | apply below_drew1) | exact HB.out)⟩⟩
  case round =>
    clear H'
    obtain ⟨x3_1, x8_1, rfl, HA, HK1, HO_3, HB⟩ := hrel
    cases gk with
    | zero => exact absurd HA.out (by simp [flat_All.l0])
    | succ k1 =>
      have H := HA.out
      clear HA
      simp only [flat_All.l0] at H
      by_cases c2 : x8_1 < (l0.length : Int)
      · rw [if_pos c2] at H
        have c2b0 : decide (x8_1 < (l0.length : Int)) = true := decide_eq_true c2
        clear c2
        by_cases c3 : 0 ≤ x8_1
        · rw [if_pos c3] at H
          have c3b0 : decide (0 ≤ x8_1) = true := decide_eq_true c3
          clear c3
          by_cases c4 : x8_1 < (l0.length : Int)
          · rw [if_pos c4] at H
            have c4b0 : decide (x8_1 < (l0.length : Int)) = true := decide_eq_true c4
            clear c4
            replace H := Option.bind_eq_some_iff.mp H
            obtain ⟨t165, A50, H⟩ := H
            replace H : (if x3_1.length + t165.length < 4398046511104 then (flat_All.l0 k1 (x3_1 ++ t165) l0 (l0.length : Int) (wrap64 (x8_1 + 1))) else (none)) = some r := H
            have A5 := Aside0.mk A50
            clear A50
            by_cases c6 : x3_1.length + t165.length < 4398046511104
            · rw [if_pos c6] at H
              have LMc6 := Aside0.mk c6
              clear c6
              obtain ⟨y168, hy168⟩ : ∃ y_ : List (S40), y_ = (x3_1 ++ t165) := ⟨_, rfl⟩
              replace H : (flat_All.l0 k1 y168 l0 (l0.length : Int) (wrap64 (x8_1 + 1))) = some r := by first | (rw [hy168]; with_reducible exact H) | (have H2_ := (Option.bind_some _ _).symm.trans H; rw [hy168]; with_reducible exact H2_) | (have H2_ := (Option.bind_some _ _).symm.trans H; with_reducible exact H2_) | with_reducible exact H | (rw [hy168]; exact H) | exact H
              have Ny168 := Aside0.mk hy168
              clear hy168
              have H' := Aside0.mk H
              clear H
              have p164 : 0 ≤ (x8_1 : Int) := of_decide_eq_true (by first | (with_reducible assumption) | assumption)
              have q164 : x8_1 < (l0.length : Int) := of_decide_eq_true (by first | (with_reducible assumption) | assumption)
              obtain ⟨ad164, A164_0, c164_0, e164, hx164_0, hl164_0, hi164_0⟩ := at_L7 HR0.out x8_1 p164 q164
              cases e164
              replace hx164_0 := (HB.out.cell (World.block_lt_of_cell? w _ hx164_0)).trans hx164_0
              have HR164_0 := Aside0.mk hi164_0
              have HC164_0 := Aside0.mk hl164_0
              clear hi164_0 hl164_0
              replace p164 := eq_true p164
              replace q164 := eq_true q164
              go_wp2_with (first | ((with_reducible refine gate_callee (f := 80) rfl ?_); refine goesL_ (some 14) rfl rfl Try.func80 (by kernel_rfl) rfl #[.slice A164_0 (rd_L7 l0 x8_1).length c164_0] rfl (by (try simp only [List.map_toArray, List.map_cons, List.map_nil]); first | done | rfl | (simp only [List.length_drop, List.length_take]; rfl)) ?_; (with_reducible refine (flat_Edges.calls _ _ (rd_L7 l0 x8_1) t165 _ ?side1 ?side2 A5.out).mono ?_); (case side1 => repeat (first | exact (Kd.C_below HR164_0.out HB.out) | (with_reducible refine Kd.C_alloc ?_ _) | (with_reducible refine Kd.C_drewN ?_ _) | (with_reducible refine Kd.C_drew ?_))); (case side2 => exact HC164_0.out); rintro e w7 ⟨v166, rfl, ho0, hb⟩; refine ⟨_, rfl, ?_⟩; have n0_ := Aside0.mk (Kd.R_elder' (by (with_reducible repeat (first | apply Kd.R_alloc | apply Kd.R_drewN | apply Kd.R_drew)); exact HO_3.out) (Kd.R_base ho0) hb); have n1_ := Aside0.mk (Kd.R_lower (Kd.R_new' ho0 (Kd.R_lt (by (with_reducible repeat (first | apply Kd.R_alloc | apply Kd.R_drewN | apply Kd.R_drew)); exact HO_3.out))) (below_size (by repeat (first | (with_reducible first | exact HB.out | apply below_alloc | apply pw_below_drewN | apply below_drew1) | exact HB.out)))); have n2_ := Aside0.mk (below_step (by repeat (first | (with_reducible first | exact HB.out | apply below_alloc | apply pw_below_drewN | apply below_drew1) | exact HB.out)) hb); clear HO_3; clear HB; have HO_3 := n0_; have HO167 := n1_; have HB := n2_; clear n0_ n1_ n2_; (try clear hb); (try clear hb2); (try clear hk); (try clear hi); (try clear ho0); obtain ⟨Ao9, co9, eo9⟩ := Kd.R_slice HO167.out; subst eo9) | ((with_reducible refine gate_builtin (b := .append) (xs := #[.tmp 12, .tmp 14]) rfl ?_); at_builtin; refine Kd.R_append_rows k40 (w0 := w) w.heap.size rfl (.tmp 12) (.tmp 14) 29 40 (.agg #[(.int .i64 0), (.int .i64 0), (.int .i64 0), (.int .i64 0)]) 32 rfl Try.underlying29 info40 rfl (by decide) (by omega) u3 x3_1 t165 _ _ _ (fun k_ => some k_ ≠ (.slice Ao9 t165.length co9 : Value).ownBlock) (fun _ => False) rfl rfl ?aO ?aR (fun _ _ h => h) (fun _ h => h.elim) ?aF ?aB ?aS ?aL ?_; (case aR => repeat (first | exact (Kd.R_reads' HO167.out).2.2 | (with_reducible refine Kd.C_alloc ?_ _) | (with_reducible refine Kd.C_drewN ?_ _) | (with_reducible refine Kd.C_drew ?_))); (case aB => exact (by repeat (first | (with_reducible first | exact HB.out | apply below_alloc | apply pw_below_drewN | apply below_drew1) | exact HB.out))); (case aF => exact (fun k_ hk => Kd.fresh' (Kd.R_lt (by (with_reducible repeat (first | apply Kd.R_alloc | apply Kd.R_drewN | apply Kd.R_drew)); exact HO167.out)) k_ hk)); (case aO => exact (by (with_reducible repeat (first | apply Kd.R_alloc | apply Kd.R_drewN | apply Kd.R_drew)); exact Kd.R_mono HO_3.out (fun _ hk => hk.2))); (case aS => exact (below_size (by repeat (first | (with_reducible first | exact HB.out | apply below_alloc | apply pw_below_drewN | apply below_drew1) | exact HB.out)))); (case aL => have := LMc6.out; omega); intro v169 w8 ho hb hg hat; rw [← Ny168.out] at ho; have n0_ := Aside0.mk (Kd.R_after (ok := (fun _ => True)) (by (with_reducible repeat (first | apply Kd.R_alloc | apply Kd.R_drewN | apply Kd.R_drew)); exact HO167.out) hg hat); have n1_ := Aside0.mk (hb); have n2_ := Aside0.mk (ho); clear HO167; clear HB; clear HO_3; have HO167 := n0_; have HB := n1_; have HO170 := n2_; clear n0_ n1_ n2_; clear ho hb hg hat))
              go_roundg k1
              case measure => have := HK1.out; omega
              case rel => exact ⟨(y168), (wrap64 (x8_1 + 1)), (by first | rfl | (simp; done) | (simp [*]; done)), H', ⟨by have := HK1.out; omega⟩, ⟨by (with_reducible repeat (first | apply Kd.R_alloc | apply Kd.R_drewN | apply Kd.R_drew)); exact Kd.R_mono HO170.out (fun _ hk => trivial)⟩, ⟨by repeat (first | (with_reducible first | exact HB.out | apply below_alloc | apply pw_below_drewN | apply below_drew1) | exact HB.out)⟩⟩
            · rw [if_neg c6] at H
              exact absurd H (by simp)
          · rw [if_neg c4] at H
            exact absurd H (by simp)
        · rw [if_neg c3] at H
          exact absurd H (by simp)
      · rw [if_neg c2] at H
        have c2b0 : decide (x8_1 < (l0.length : Int)) = false := decide_eq_false c2
        clear c2
        obtain rfl := Option.some.inj H
        go_wp2
        go_ret
        exact ⟨_, by first | rfl | (simp [errW_none, errW_some] <;> rfl) | (simp [*, errW_none, errW_some] <;> rfl), by (with_reducible repeat (first | apply Kd.R_alloc | apply Kd.R_drewN | apply Kd.R_drew)); exact HO_3.out, by repeat (first | (with_reducible first | exact HB.out | apply below_alloc | apply pw_below_drewN | apply below_drew1) | exact HB.out)⟩
end Go.Proofs.Ytlljpjbhndcaiaa.Q
end
section
namespace Go.Proofs.Ytlljpjbhndcaiaa.Q
open Go.RowKit Go.Proofs.YtlljpjbhndcaiaaW.PrintWords Go.Proofs.YtlljpjbhndcaiaaW.PrintLast Go.Proofs.YtlljpjbhndcaiaaW.PrintMore
attribute [local go_sem] max2_int min2_int max_two min_two max_three min_three max_four min_four
set_option linter.unusedVariables false
set_option linter.unusedSimpArgs false
def path_All.l0 : Nat → List (List (S143)) → List (List (S135)) → Int → Int → Option ((List (List (S143))))
  | 0, _, _, _, _ => none
  | k + 1, x3, x7, x8, x9 => if x9 < x8 then (if 0 ≤ x9 then (if x9 < (x7.length : Int) then ((path_Segs.f (rd_L9 x7 x9)).bind fun t178 => (if x3.length < 5864062014805 then (path_All.l0 k (x3 ++ [t178]) x7 x8 (wrap64 (x9 + 1))) else (none))) else (none)) else (none)) else (some x3)
def path_All.f (k : Nat) (l0_0 : List (List (S135))) : Option ((List (List (S143)))) := path_All.l0 k ([] : List (List (S143))) l0_0 (l0_0.length : Int) 0
theorem path_All.mono_l : ∀ k, (∀ y0 y1 y2 y3, LeO (path_All.l0 k y0 y1 y2 y3) (path_All.l0 (k + 1) y0 y1 y2 y3))
  | 0 => fun _ _ _ _ r h => by simp [path_All.l0] at h
  | k + 1 => by
    have ih0 := path_All.mono_l k
    · intro y0 y1 y2 y3
      unfold path_All.l0
      repeat' first
      | (with_reducible exact ih0 _ _ _ _)
      | (with_reducible exact LeO.refl _)
      | (with_reducible exact LeO.none _)
      | (with_reducible refine LeO.ite ?_ ?_)
      | (with_reducible refine LeO.bind ?_ (fun _ => ?_))
      | exact ih0 _ _ _ _
      | exact LeO.none _
      | refine LeO.ite ?_ ?_
      | refine LeO.bind ?_ (fun _ => ?_)
theorem path_All.mono : ∀ a0 k, LeO (path_All.f k a0) (path_All.f (k + 1) a0) := by
  intro a0 k
  have ih0 := path_All.mono_l k
  unfold path_All.f
  repeat' first
      | (with_reducible exact ih0 _ _ _ _)
      | (with_reducible exact LeO.refl _)
      | (with_reducible exact LeO.none _)
      | (with_reducible refine LeO.ite ?_ ?_)
      | (with_reducible refine LeO.bind ?_ (fun _ => ?_))
      | exact ih0 _ _ _ _
      | exact LeO.none _
      | refine LeO.ite ?_ ?_
      | refine LeO.bind ?_ (fun _ => ?_)
set_option maxHeartbeats 8000000 in
set_option maxRecDepth 100000 in
theorem path_All.calls (k : Nat) (A0_0 : Option Addr) (c0_0 : Nat) (l0_0 : List (List (S135))) (r : List (List (S143))) (w : World) (hr0_0 : Kd.C (Kd.slice 135 k135) w A0_0 l0_0.length l0_0) (hc0_0 : l0_0.length ≤ c0_0) (h : path_All.f k l0_0 = some r) :
    Calls Try.prog 56 #[.agg #[.slice A0_0 l0_0.length c0_0]] w fun e w' => ∃ v0_ : Value, e = .returned (v0_) ∧ Kd.S (Kd.slice 143 k143) 128 w' w.heap.size (fun _ => True) v0_ r ∧ Below w.heap.size w w' := by
  have hu98 := Try.underlying98
  have HR0_0 := Aside0.mk hr0_0
  have HC0_0 := Aside0.mk hc0_0
  clear hr0_0 hc0_0
  have HB := Aside0.mk (Below.refl w.heap.size w)
  have H : (path_All.l0 k ([] : List (List (S143))) l0_0 (l0_0.length : Int) 0) = some r := h
  clear h
  have H' := Aside0.mk H
  clear H
  go_enter Try.func56, Try.ntmps56
  go_wp2_with (first | ((with_reducible refine gate_dst (N := 1) rfl ?_); refine box_event ?hg (N := 1) ?hd (cs := #[.slice A0_0 l0_0.length c0_0]) (t := 98) ?hr ?_; (case hd => rfl); (case hg => rfl); (case hr => first | (go_simp; done) | (go_simp; rfl)); intro gb176 hg w2 hbox hb; have n0_ := Aside0.mk (below_step (by repeat (first | (with_reducible first | exact HB.out | apply below_alloc | apply pw_below_drewN | apply below_drew1) | exact HB.out)) hb); have n1_ := Aside0.mk (hbox); have n2_ := Aside0.mk ((by rw [hg]; exact (below_size (by repeat (first | (with_reducible first | exact HB.out | apply below_alloc | apply pw_below_drewN | apply below_drew1) | exact HB.out))) : w.heap.size ≤ gb176)); have n3_ := Aside0.mk ((by rw [hg]; exact (below_size (by repeat (first | (with_reducible first | exact HB.out | apply below_alloc | apply pw_below_drewN | apply below_drew1) | exact HB.out))) : w.heap.size ≤ gb176)); clear HB; have HB := n0_; have BK176 := n1_; have GW176 := n2_; have GE176 := n3_; clear n0_ n1_ n2_ n3_; clear hb hbox hg; have hcz3_0 : w2.cell? ⟨gb176, 0, none⟩ = some (.slice A0_0 l0_0.length c0_0) := (blk_cell BK176.out 0).trans rfl; have hfz3_0 := blk_frozen BK176.out 0))
  go_loopg [3, 9] k (fun kq v3 v9 w' => ∃ (x3_1 : List (List (S143))) (x9_1 : Int), v9 = .int .i64 x9_1 ∧ Aside0 (path_All.l0 kq x3_1 l0_0 (l0_0.length : Int) x9_1 = some r) ∧ Aside0 (kq ≤ k) ∧ Aside0 (Kd.S (Kd.slice 143 k143) 128 w' w.heap.size (fun _ => True) v3 x3_1) ∧ Aside0 (w'.heap[gb176]? = some (.cells #[(.slice A0_0 l0_0.length c0_0)] 98 (0, 0))) ∧ Aside0 (Below w.heap.size w w'))
  case atStart => exact ⟨(([] : List (List (S143)))), (0), (by first | rfl | (simp; done) | (simp [*]; done)), H', ⟨Nat.le_refl _⟩, ⟨by first | exact Kd.S_nil _ _ _ _ _ | exact Kd.N_nil _ _ _ _ _ | exact Kd.V_nil _ _ _ _ _ | exact Kd.Q_nil _ _ _ _ _ | exact Kd.R_nil _ _ _ _ _⟩, ⟨by (with_reducible repeat (first | refine blk_drewN ?_ _ | refine blk_drew ?_ | refine blk_alloc ?_ _)); exact BK176.out⟩, ⟨by repeat (first | (with_reducible first | exact HB.out | apply below_alloc | apply pw_below_drewN | apply below_drew1 | refine below_set ?_ GE176.out) | exact HB.out)⟩⟩
  case round =>
    clear H'
    try clear p2
    try clear hcz3_0
    try clear hfz3_0
    obtain ⟨x3_1, x9_1, rfl, HA, HK1, HO_3, BK176, HB⟩ := hrel
    cases gk with
    | zero => exact absurd HA.out (by simp [path_All.l0])
    | succ k1 =>
      have H := HA.out
      clear HA
      simp only [path_All.l0] at H
      by_cases c4 : x9_1 < (l0_0.length : Int)
      · rw [if_pos c4] at H
        have c4b0 : decide (x9_1 < (l0_0.length : Int)) = true := decide_eq_true c4
        clear c4
        by_cases c5 : 0 ≤ x9_1
        · rw [if_pos c5] at H
          have c5b0 : decide (0 ≤ x9_1) = true := decide_eq_true c5
          clear c5
          by_cases c6 : x9_1 < (l0_0.length : Int)
          · rw [if_pos c6] at H
            have c6b0 : decide (x9_1 < (l0_0.length : Int)) = true := decide_eq_true c6
            clear c6
            replace H := Option.bind_eq_some_iff.mp H
            obtain ⟨t178, A70, H⟩ := H
            replace H : (if x3_1.length < 5864062014805 then (path_All.l0 k1 (x3_1 ++ [t178]) l0_0 (l0_0.length : Int) (wrap64 (x9_1 + 1))) else (none)) = some r := H
            have A7 := Aside0.mk A70
            clear A70
            by_cases c8 : x3_1.length < 5864062014805
            · rw [if_pos c8] at H
              have LMc8 := Aside0.mk c8
              clear c8
              obtain ⟨y181, hy181⟩ : ∃ y_ : List (List (S143)), y_ = (x3_1 ++ [t178]) := ⟨_, rfl⟩
              replace H : (path_All.l0 k1 y181 l0_0 (l0_0.length : Int) (wrap64 (x9_1 + 1))) = some r := by first | (rw [hy181]; with_reducible exact H) | (have H2_ := (Option.bind_some _ _).symm.trans H; rw [hy181]; with_reducible exact H2_) | (have H2_ := (Option.bind_some _ _).symm.trans H; with_reducible exact H2_) | with_reducible exact H | (rw [hy181]; exact H) | exact H
              have Ny181 := Aside0.mk hy181
              clear hy181
              have H' := Aside0.mk H
              clear H
              have p177 : 0 ≤ (x9_1 : Int) := of_decide_eq_true (by first | (with_reducible assumption) | assumption)
              have q177 : x9_1 < (l0_0.length : Int) := of_decide_eq_true (by first | (with_reducible assumption) | assumption)
              obtain ⟨ad177, A177_0, c177_0, e177, hx177_0, hl177_0, hi177_0⟩ := at_L9 HR0_0.out x9_1 p177 q177
              cases e177
              replace hx177_0 := (HB.out.cell (World.block_lt_of_cell? w _ hx177_0)).trans hx177_0
              have HR177_0 := Aside0.mk hi177_0
              have HC177_0 := Aside0.mk hl177_0
              clear hi177_0 hl177_0
              replace p177 := eq_true p177
              replace q177 := eq_true q177
              go_wp2_with (first | ((with_reducible refine gate_callee (f := 81) rfl ?_); refine goesL_ (some 15) rfl rfl Try.func81 (by kernel_rfl) rfl #[.slice A177_0 (rd_L9 l0_0 x9_1).length c177_0] rfl (by (try simp only [List.map_toArray, List.map_cons, List.map_nil]); first | done | rfl | (simp only [List.length_drop, List.length_take]; rfl)) ?_; (with_reducible refine (path_Segs.calls _ _ (rd_L9 l0_0 x9_1) t178 _ ?side1 ?side2 A7.out).mono ?_); (case side1 => repeat (first | exact (Kd.C_below HR177_0.out HB.out) | (with_reducible refine Kd.C_alloc ?_ _) | (with_reducible refine Kd.C_drewN ?_ _) | (with_reducible refine Kd.C_drew ?_))); (case side2 => exact HC177_0.out); rintro e w9 ⟨v179, rfl, ho0, hb⟩; refine ⟨_, rfl, ?_⟩; have n0_ := Aside0.mk (Kd.S_elder' (by (with_reducible repeat (first | apply Kd.S_alloc | apply Kd.S_drewN | apply Kd.S_drew)); exact HO_3.out) (Kd.R_base ho0) hb); have n1_ := Aside0.mk (Kd.R_lower ho0 (below_size (by repeat (first | (with_reducible first | exact HB.out | apply below_alloc | apply pw_below_drewN | apply below_drew1 | refine below_set ?_ GE176.out) | exact HB.out)))); have n2_ := Aside0.mk (blk_below (g := gb176) (o := .cells #[.slice (some ad177) l0_0.length c0_0] 98 (0, 0)) (by (with_reducible repeat (first | refine blk_drewN ?_ _ | refine blk_drew ?_ | refine blk_alloc ?_ _)); exact BK176.out) hb); have n3_ := Aside0.mk (below_step (by repeat (first | (with_reducible first | exact HB.out | apply below_alloc | apply pw_below_drewN | apply below_drew1 | refine below_set ?_ GE176.out) | exact HB.out)) hb); clear HO_3; clear BK176; clear HB; have HO_3 := n0_; have HO180 := n1_; have BK176 := n2_; have HB := n3_; clear n0_ n1_ n2_ n3_; (try clear hb); (try clear hb2); (try clear hk); (try clear hi); (try clear ho0); obtain ⟨Ao11, co11, eo11⟩ := Kd.R_slice HO180.out; subst eo11) | ((with_reducible refine gate_builtin (b := .append) (xs := #[.tmp 13, .tmp 16]) rfl ?_); at_builtin; refine Kd.S_append (Kd.slice 143 k143) (w0 := w) w.heap.size rfl (.tmp 13) (.tmp 16) 94 128 (.slice none 0 0) 24 rfl Try.underlying94 info128 rfl (by decide) (by omega) u3 x3_1 t178 [.slice Ao11 t178.length co11] (fun _ => True) (fun k_ => some k_ = (.slice Ao11 t178.length co11 : Value).ownBlock) rfl rfl ?aP (fun k_ hk_ => ((Kd.R_mono (ok' := fun k_ => ((fun _ => True)) k_ ∧ some k_ ≠ (u3 : Value).ownBlock) (Kd.R_apart' (HO180.out) (Kd.S_typed HO_3.out) (by decide)) (fun k_ hk => ⟨trivial, hk.2⟩))).1 k_ hk_.symm) ?aF ?aO ?aB ?aS ?aL ?_; (case aP => exact Kd.M_row (Kd.R_mono (Kd.R_tight rfl (Kd.R_mono (ok' := fun k_ => ((fun _ => True)) k_ ∧ some k_ ≠ (u3 : Value).ownBlock) (Kd.R_apart' (HO180.out) (Kd.S_typed HO_3.out) (by decide)) (fun k_ hk => ⟨trivial, hk.2⟩))) (fun _ h_ => h_))); (case aB => exact (by repeat (first | (with_reducible first | exact HB.out | apply below_alloc | apply pw_below_drewN | apply below_drew1 | refine below_set ?_ GE176.out) | exact HB.out))); (case aF => exact (fun _ _ => trivial)); (case aO => exact (by (with_reducible repeat (first | apply Kd.S_alloc | apply Kd.S_drewN | apply Kd.S_drew)); exact Kd.S_mono HO_3.out (fun k_ hk => ⟨trivial, fun e_ => hk.2 e_⟩))); (case aS => exact (below_size (by repeat (first | (with_reducible first | exact HB.out | apply below_alloc | apply pw_below_drewN | apply below_drew1 | refine below_set ?_ GE176.out) | exact HB.out)))); (case aL => have := LMc8.out; omega); intro v182 w10 ho hb hg hat; rw [← Ny181.out] at ho; have n0_ := Aside0.mk (blk_grown (g := gb176) (o := .cells #[.slice (some ad177) l0_0.length c0_0] 98 (0, 0)) (by (with_reducible repeat (first | refine blk_drewN ?_ _ | refine blk_drew ?_ | refine blk_alloc ?_ _)); exact BK176.out) hg (Kd.S_ne HO_3.out BK176.out (by decide))); have n1_ := Aside0.mk (hb); have n2_ := Aside0.mk (ho); clear BK176; clear HB; clear HO_3; clear HO180; have BK176 := n0_; have HB := n1_; have HO183 := n2_; clear n0_ n1_ n2_; clear ho hb hg hat))
              go_roundg k1
              case measure => have := HK1.out; omega
              case rel => exact ⟨(y181), (wrap64 (x9_1 + 1)), (by first | rfl | (simp; done) | (simp [*]; done)), H', ⟨by have := HK1.out; omega⟩, ⟨by (with_reducible repeat (first | apply Kd.S_alloc | apply Kd.S_drewN | apply Kd.S_drew)); exact HO183.out⟩, ⟨by (with_reducible repeat (first | refine blk_drewN ?_ _ | refine blk_drew ?_ | refine blk_alloc ?_ _)); exact BK176.out⟩, ⟨by repeat (first | (with_reducible first | exact HB.out | apply below_alloc | apply pw_below_drewN | apply below_drew1 | refine below_set ?_ GE176.out) | exact HB.out)⟩⟩
            · rw [if_neg c8] at H
              exact absurd H (by simp)
          · rw [if_neg c6] at H
            exact absurd H (by simp)
        · rw [if_neg c5] at H
          exact absurd H (by simp)
      · rw [if_neg c4] at H
        have c4b0 : decide (x9_1 < (l0_0.length : Int)) = false := decide_eq_false c4
        clear c4
        obtain rfl := Option.some.inj H
        go_wp2
        go_ret
        exact ⟨_, by first | rfl | (simp [errW_none, errW_some] <;> rfl) | (simp [*, errW_none, errW_some] <;> rfl), by (with_reducible repeat (first | apply Kd.S_alloc | apply Kd.S_drewN | apply Kd.S_drew)); exact HO_3.out, by repeat (first | (with_reducible first | exact HB.out | apply below_alloc | apply pw_below_drewN | apply below_drew1 | refine below_set ?_ GE176.out) | exact HB.out)⟩
end Go.Proofs.Ytlljpjbhndcaiaa.Q
end
section
namespace Go.Proofs.Ytlljpjbhndcaiaa.Q
open Go.RowKit Go.Proofs.YtlljpjbhndcaiaaW.PrintWords Go.Proofs.YtlljpjbhndcaiaaW.PrintLast Go.Proofs.YtlljpjbhndcaiaaW.PrintMore
attribute [local go_sem] max2_int min2_int max_two min_two max_three min_three max_four min_four
set_option linter.unusedVariables false
set_option linter.unusedSimpArgs false
mutual
def punchcutlaw04_Outline.l0 : Nat → Int → List (List (S133)) → Int → Int → List (List (S135)) → Option ((List (List (S135))))
  | 0, _, _, _, _, _ => none
  | k + 1, x4, x14, x15, x16, x186000 => if x16 < x15 then (if 0 ≤ x16 then (if x16 < (x14.length : Int) then (if 0 ≤ (mn (mn ((rd_L12 x14 x16).length : Int) 12) x4) then (if (mn (mn ((rd_L12 x14 x16).length : Int) 12) x4) ≤ ((rd_L12 x14 x16).length : Int) then ((some ((rd_L12 x14 x16).take ((mn (mn ((rd_L12 x14 x16).length : Int) 12) x4) : Int).toNat : List (S133))).bind fun y191 => (punchcutlaw04_Outline.l1 k x4 ([] : List (S135)) x14 x15 x16 y191 (y191.length : Int) 0 x186000)) else (none)) else (none)) else (none)) else (none)) else (some x186000)
def punchcutlaw04_Outline.l1 : Nat → Int → List (S135) → List (List (S133)) → Int → Int → List (S133) → Int → Int → List (List (S135)) → Option ((List (List (S135))))
  | 0, _, _, _, _, _, _, _, _, _ => none
  | k + 1, x4, x7, x14, x15, x16, x25, x26, x27, x186000 => if x27 < x26 then (if 0 ≤ x27 then (if x27 < (x25.length : Int) then (if x7.length < 5864062014805 then (punchcutlaw04_Outline.l1 k x4 (x7 ++ [(⟨Int.tmod (wrap64 ((rd_T133 x25 x27).f0)) 256, Int.tmod (wrap64 ((rd_T133 x25 x27).f1)) 256, (rd_T133 x25 x27).f2⟩ : S135)]) x14 x15 x16 x25 x26 (wrap64 (x27 + 1)) x186000) else (none)) else (none)) else (none)) else (if (x7.length : Int) > 0 then (if x186000.length < 5864062014805 then (punchcutlaw04_Outline.l0 k (wrap64 (x4 - (x7.length : Int))) x14 x15 (wrap64 (x16 + 1)) (x186000 ++ [x7])) else (none)) else (punchcutlaw04_Outline.l0 k (wrap64 (x4 - (x7.length : Int))) x14 x15 (wrap64 (x16 + 1)) x186000))
end
def punchcutlaw04_Outline.f (k : Nat) (l0 : List (List (S133))) : Option ((List (List (S135)))) := if 0 ≤ (mn (l0.length : Int) 8) then (if (mn (l0.length : Int) 8) ≤ (l0.length : Int) then ((some (l0.take ((mn (l0.length : Int) 8) : Int).toNat : List (List (S133)))).bind fun y186 => (punchcutlaw04_Outline.l0 k 64 y186 (y186.length : Int) 0 ([] : List (List (S135))))) else (none)) else (none)
theorem punchcutlaw04_Outline.mono_l : ∀ k, (∀ y0 y1 y2 y3 y4, LeO (punchcutlaw04_Outline.l0 k y0 y1 y2 y3 y4) (punchcutlaw04_Outline.l0 (k + 1) y0 y1 y2 y3 y4)) ∧ (∀ y0 y1 y2 y3 y4 y5 y6 y7 y8, LeO (punchcutlaw04_Outline.l1 k y0 y1 y2 y3 y4 y5 y6 y7 y8) (punchcutlaw04_Outline.l1 (k + 1) y0 y1 y2 y3 y4 y5 y6 y7 y8))
  | 0 => ⟨fun _ _ _ _ _ r h => by simp [punchcutlaw04_Outline.l0] at h, fun _ _ _ _ _ _ _ _ _ r h => by simp [punchcutlaw04_Outline.l1] at h⟩
  | k + 1 => by
    obtain ⟨ih0, ih1⟩ := punchcutlaw04_Outline.mono_l k
    refine ⟨?_, ?_⟩
    · intro y0 y1 y2 y3 y4
      unfold punchcutlaw04_Outline.l0
      repeat' first
      | (with_reducible exact ih0 _ _ _ _ _)
      | (with_reducible exact ih1 _ _ _ _ _ _ _ _ _)
      | (with_reducible exact LeO.refl _)
      | (with_reducible exact LeO.none _)
      | (with_reducible refine LeO.ite ?_ ?_)
      | (with_reducible refine LeO.bind ?_ (fun _ => ?_))
      | exact ih0 _ _ _ _ _
      | exact ih1 _ _ _ _ _ _ _ _ _
      | exact LeO.none _
      | refine LeO.ite ?_ ?_
      | refine LeO.bind ?_ (fun _ => ?_)
    · intro y0 y1 y2 y3 y4 y5 y6 y7 y8
      unfold punchcutlaw04_Outline.l1
      repeat' first
      | (with_reducible exact ih0 _ _ _ _ _)
      | (with_reducible exact ih1 _ _ _ _ _ _ _ _ _)
      | (with_reducible exact LeO.refl _)
      | (with_reducible exact LeO.none _)
      | (with_reducible refine LeO.ite ?_ ?_)
      | (with_reducible refine LeO.bind ?_ (fun _ => ?_))
      | exact ih0 _ _ _ _ _
      | exact ih1 _ _ _ _ _ _ _ _ _
      | exact LeO.none _
      | refine LeO.ite ?_ ?_
      | refine LeO.bind ?_ (fun _ => ?_)
theorem punchcutlaw04_Outline.mono : ∀ a0 k, LeO (punchcutlaw04_Outline.f k a0) (punchcutlaw04_Outline.f (k + 1) a0) := by
  intro a0 k
  obtain ⟨ih0, ih1⟩ := punchcutlaw04_Outline.mono_l k
  unfold punchcutlaw04_Outline.f
  repeat' first
      | (with_reducible exact ih0 _ _ _ _ _)
      | (with_reducible exact ih1 _ _ _ _ _ _ _ _ _)
      | (with_reducible exact LeO.refl _)
      | (with_reducible exact LeO.none _)
      | (with_reducible refine LeO.ite ?_ ?_)
      | (with_reducible refine LeO.bind ?_ (fun _ => ?_))
      | exact ih0 _ _ _ _ _
      | exact ih1 _ _ _ _ _ _ _ _ _
      | exact LeO.none _
      | refine LeO.ite ?_ ?_
      | refine LeO.bind ?_ (fun _ => ?_)
set_option maxHeartbeats 8000000 in
set_option maxRecDepth 100000 in
theorem punchcutlaw04_Outline.calls (k : Nat) (A0 : Option Addr) (c0 : Nat) (l0 : List (List (S133))) (r : List (List (S135))) (w : World) (hr0 : Kd.C (Kd.slice 133 k133) w A0 l0.length l0) (hc0 : l0.length ≤ c0) (h : punchcutlaw04_Outline.f k l0 = some r) :
    Calls Try.prog 57 #[.slice A0 l0.length c0] w fun e w' => ∃ v0_ : Value, e = .returned (.agg #[v0_]) ∧ Kd.S (Kd.slice 135 k135) 130 w' w.heap.size (fun _ => True) v0_ r ∧ Below w.heap.size w w' := by
  have hu98 := Try.underlying98
  have hu133 := Try.underlying133
  have hu135 := Try.underlying135
  have HR0 := Aside0.mk hr0
  have HC0 := Aside0.mk hc0
  clear hr0 hc0
  have HB := Aside0.mk (Below.refl w.heap.size w)
  have H : (if 0 ≤ (mn (l0.length : Int) 8) then (if (mn (l0.length : Int) 8) ≤ (l0.length : Int) then ((some (l0.take ((mn (l0.length : Int) 8) : Int).toNat : List (List (S133)))).bind fun y186 => (punchcutlaw04_Outline.l0 k 64 y186 (y186.length : Int) 0 ([] : List (List (S135))))) else (none)) else (none)) = some r := h
  clear h
  obtain ⟨ji2, hji2⟩ : ∃ j_ : Int, (mn (l0.length : Int) 8) = j_ := ⟨_, rfl⟩
  replace H : (if 0 ≤ (ji2) then (if (ji2) ≤ (l0.length : Int) then ((some (l0.take ((ji2) : Int).toNat : List (List (S133)))).bind fun y186 => (punchcutlaw04_Outline.l0 k 64 y186 (y186.length : Int) 0 ([] : List (List (S135))))) else (none)) else (none)) = some r := by first | (rw [hji2] at H; exact H) | (simp only [hji2] at H ⊢; exact H)
  (try (have hji2h : ji2 ≤ 8 := by (rw [← hji2]; unfold mn; (repeat' split) <;> omega)))
  (try (have hji2g : ji2 ≤ 64 := by omega))
  (try (have hji2l : 0 ≤ ji2 := by (rw [← hji2]; unfold mn; (repeat' split) <;> omega)))
  (try (have hji2m : 0 ≤ ji2 := by omega))
  have hji2_ : (if 8 < (l0.length : Int) then 8 else (l0.length : Int)) = ji2 := hji2
  by_cases c3 : 0 ≤ (ji2)
  · rw [if_pos c3] at H
    have c3b0 := eq_true c3
    have c3b1 : decide (0 ≤ (ji2)) = true := decide_eq_true c3
    clear c3
    by_cases c4 : (ji2) ≤ (l0.length : Int)
    · rw [if_pos c4] at H
      have c4b0 := eq_true c4
      have c4b1 : decide ((ji2) ≤ (l0.length : Int)) = true := decide_eq_true c4
      clear c4
      obtain ⟨y186, hy186⟩ : ∃ y_ : List (List (S133)), y_ = (l0.take ((ji2) : Int).toNat) := ⟨_, rfl⟩
      replace H : (punchcutlaw04_Outline.l0 k 64 y186 (y186.length : Int) 0 ([] : List (List (S135)))) = some r := by first | (rw [hy186]; with_reducible exact H) | (have H2_ := (Option.bind_some _ _).symm.trans H; rw [hy186]; with_reducible exact H2_) | (have H2_ := (Option.bind_some _ _).symm.trans H; with_reducible exact H2_) | with_reducible exact H | (rw [hy186]; exact H) | exact H
      have Ny186 := Aside0.mk hy186
      clear hy186
      have H' := Aside0.mk H
      clear H
      go_enter Try.func57, Try.ntmps57
      go_wp2_with (first | ((with_reducible refine gate_dst (N := 2) rfl ?_); refine box_event ?hg (N := 2) ?hd (cs := #[.slice none 0 0]) (t := 98) ?hr ?_; (case hd => rfl); (case hg => rfl); (case hr => first | (go_simp; done) | (go_simp; rfl)); intro gb184 hg w5 hbox hb; have n0_ := Aside0.mk (below_step (by repeat (first | (with_reducible first | exact HB.out | apply below_alloc | apply pw_below_drewN | apply below_drew1) | exact HB.out)) hb); have n1_ := Aside0.mk (hbox); have n2_ := Aside0.mk ((by rw [hg]; exact (below_size (by repeat (first | (with_reducible first | exact HB.out | apply below_alloc | apply pw_below_drewN | apply below_drew1) | exact HB.out))) : w.heap.size ≤ gb184)); have n3_ := Aside0.mk ((by rw [hg]; exact (below_size (by repeat (first | (with_reducible first | exact HB.out | apply below_alloc | apply pw_below_drewN | apply below_drew1) | exact HB.out))) : w.heap.size ≤ gb184)); clear HB; have HB := n0_; have BK184 := n1_; have GW184 := n2_; have GE184 := n3_; clear n0_ n1_ n2_ n3_; clear hb hbox hg) | ((with_reducible refine gate_dst (N := 3) rfl ?_); refine box_event ?hg (N := 3) ?hd (cs := #[.slice none 0 0]) (t := 98) ?hr ?_; (case hd => rfl); (case hg => rfl); (case hr => first | (go_simp; done) | (go_simp; rfl)); intro gb185 hg w6 hbox hb; have n0_ := Aside0.mk (blk_below (g := gb184) (o := .cells #[.slice none 0 0] 98 (0, 0)) (by (with_reducible repeat (first | refine blk_drewN ?_ _ | refine blk_drew ?_ | refine blk_alloc ?_ _)); exact BK184.out) hb); have n1_ := Aside0.mk (below_step (by repeat (first | (with_reducible first | exact HB.out | apply below_alloc | apply pw_below_drewN | apply below_drew1 | refine below_set ?_ GE184.out) | exact HB.out)) hb); have n2_ := Aside0.mk (hbox); have n3_ := Aside0.mk ((by rw [hg]; exact (below_size (by repeat (first | (with_reducible first | exact HB.out | apply below_alloc | apply pw_below_drewN | apply below_drew1 | refine below_set ?_ GE184.out) | exact HB.out))) : w.heap.size ≤ gb185)); have n4_ := Aside0.mk ((by rw [hg]; exact (below_size (by repeat (first | (with_reducible first | exact HB.out | apply below_alloc | apply pw_below_drewN | apply below_drew1 | refine below_set ?_ GE184.out) | exact HB.out))) : w.heap.size ≤ gb185)); have n5_ := Aside0.mk ((by rw [hg]; exact Nat.ne_of_lt (blk_lt (g := gb184) (o := .cells #[.slice none 0 0] 98 (0, 0)) (by (with_reducible repeat (first | refine blk_drewN ?_ _ | refine blk_drew ?_ | refine blk_alloc ?_ _)); exact BK184.out)) : gb184 ≠ gb185)); have n6_ := Aside0.mk ((by rw [hg]; exact Nat.ne_of_gt (blk_lt (g := gb184) (o := .cells #[.slice none 0 0] 98 (0, 0)) (by (with_reducible repeat (first | refine blk_drewN ?_ _ | refine blk_drew ?_ | refine blk_alloc ?_ _)); exact BK184.out)) : gb185 ≠ gb184)); clear BK184; clear HB; have BK184 := n0_; have HB := n1_; have BK185 := n2_; have GW185 := n3_; have GE185 := n4_; have NB184_185 := n5_; have NB185_184 := n6_; clear n0_ n1_ n2_ n3_ n4_ n5_ n6_; clear hb hbox hg; have q7 : ((ji2) : Int) ≤ ((l0.length : Int) : Int) := of_decide_eq_true (by first | (with_reducible assumption) | assumption); obtain ⟨i07, hi07, _, hsz7, _⟩ := info_parts info92; have hroom7 : l0.length ≤ c0 := HC0.out; have hC7 : Kd.C (Kd.slice 133 k133) _ A0 l0.length l0 := HR0.out; have hcut7 := cut_to (P := Try.prog) 22 92 .i64 Try.underlying22 hi07 A0 l0.length c0 (ji2) (of_decide_eq_true (by first | (with_reducible assumption) | assumption)) q7 hroom7; have hr7 := Kd.C_take (m := ((ji2) : Int).toNat) hC7 (by omega); have hy7 : y186.length = ((ji2) : Int).toNat := (by rw [Ny186.out, List.length_take]; omega); rw [← Ny186.out] at hr7; rw [← hy7] at hcut7; have HR189 := Aside0.mk hr7; have HC189 := Aside0.mk (show y186.length ≤ c0 from by omega); clear hr7 hC7 hroom7 hi07 hsz7; have KY7 := Aside0.mk hy7; clear hy7; replace q7 := eq_true q7))
      go_loopg [4, 16] k (fun kq v4 v16 w' => ∃ (x4_1 : Int) (x16_1 : Int) (x186000_1 : List (List (S135))) (u186000 : Value), v4 = .int .i64 x4_1 ∧ v16 = .int .i64 x16_1 ∧ Aside0 (punchcutlaw04_Outline.l0 kq x4_1 y186 (y186.length : Int) x16_1 x186000_1 = some r) ∧ Aside0 (kq ≤ k) ∧ Aside0 (Kd.S (Kd.slice 135 k135) 130 w' w.heap.size (fun _ => True) u186000 x186000_1) ∧ Aside0 (w'.heap[gb184]? = some (.cells #[(.slice none 0 0)] 98 (0, 0))) ∧ Aside0 (w'.heap[gb185]? = some (.cells #[u186000] 98 (0, 0))) ∧ Aside0 (Below w.heap.size w w'))
      case atStart => exact ⟨(64), (0), (([] : List (List (S135)))), (.slice none 0 0), (by first | rfl | (simp; done) | (simp [*]; done)), (by first | rfl | (simp; done) | (simp [*]; done)), H', ⟨Nat.le_refl _⟩, ⟨by first | exact Kd.S_nil _ _ _ _ _ | exact Kd.N_nil _ _ _ _ _ | exact Kd.V_nil _ _ _ _ _ | exact Kd.Q_nil _ _ _ _ _ | exact Kd.R_nil _ _ _ _ _⟩, ⟨by (with_reducible repeat (first | refine blk_drewN ?_ _ | refine blk_drew ?_ | refine blk_alloc ?_ _)); exact BK184.out⟩, ⟨by (with_reducible repeat (first | refine blk_drewN ?_ _ | refine blk_drew ?_ | refine blk_alloc ?_ _)); exact BK185.out⟩, ⟨by repeat (first | (with_reducible first | exact HB.out | apply below_alloc | apply pw_below_drewN | apply below_drew1 | refine below_set ?_ GE184.out | refine below_set ?_ GE185.out) | exact HB.out)⟩⟩
      case round =>
        clear H'
        try clear p2
        try clear c3
        try clear c3b0
        try clear c3b1
        try clear c4
        try clear c4b0
        try clear c4b1
        try clear c5
        try clear q7
        try clear q7
        obtain ⟨x4_1, x16_1, x186000_1, u186000, rfl, rfl, HA, HK1, HO_186000, BK184, BK185, HB⟩ := hrel
        cases gk with
        | zero => exact absurd HA.out (by simp [punchcutlaw04_Outline.l0])
        | succ k1 =>
          have H := HA.out
          clear HA
          simp only [punchcutlaw04_Outline.l0] at H
          by_cases c8 : x16_1 < (y186.length : Int)
          · rw [if_pos c8] at H
            have c8b0 : decide (x16_1 < (y186.length : Int)) = true := decide_eq_true c8
            clear c8
            by_cases c9 : 0 ≤ x16_1
            · rw [if_pos c9] at H
              have c9b0 : decide (0 ≤ x16_1) = true := decide_eq_true c9
              clear c9
              by_cases c10 : x16_1 < (y186.length : Int)
              · rw [if_pos c10] at H
                have c10b0 : decide (x16_1 < (y186.length : Int)) = true := decide_eq_true c10
                clear c10
                obtain ⟨ji11, hji11⟩ : ∃ j_ : Int, (mn ((rd_L12 y186 x16_1).length : Int) 12) = j_ := ⟨_, rfl⟩
                replace H : (if 0 ≤ (mn (ji11) x4_1) then (if (mn (ji11) x4_1) ≤ ((rd_L12 y186 x16_1).length : Int) then ((some ((rd_L12 y186 x16_1).take ((mn (ji11) x4_1) : Int).toNat : List (S133))).bind fun y191 => (punchcutlaw04_Outline.l1 k1 x4_1 ([] : List (S135)) y186 (y186.length : Int) x16_1 y191 (y191.length : Int) 0 x186000_1)) else (none)) else (none)) = some r := by first | (rw [hji11] at H; exact H) | (simp only [hji11] at H ⊢; exact H)
                have hji11_ : (if 12 < ((rd_L12 y186 x16_1).length : Int) then 12 else ((rd_L12 y186 x16_1).length : Int)) = ji11 := hji11
                obtain ⟨ji12, hji12⟩ : ∃ j_ : Int, (mn (ji11) x4_1) = j_ := ⟨_, rfl⟩
                replace H : (if 0 ≤ (ji12) then (if (ji12) ≤ ((rd_L12 y186 x16_1).length : Int) then ((some ((rd_L12 y186 x16_1).take ((ji12) : Int).toNat : List (S133))).bind fun y191 => (punchcutlaw04_Outline.l1 k1 x4_1 ([] : List (S135)) y186 (y186.length : Int) x16_1 y191 (y191.length : Int) 0 x186000_1)) else (none)) else (none)) = some r := by first | (rw [hji12] at H; exact H) | (simp only [hji12] at H ⊢; exact H)
                have hji12_ : (if x4_1 < (ji11) then x4_1 else (ji11)) = ji12 := hji12
                by_cases c13 : 0 ≤ (ji12)
                · rw [if_pos c13] at H
                  have c13b0 := eq_true c13
                  have c13b1 : decide (0 ≤ (ji12)) = true := decide_eq_true c13
                  clear c13
                  by_cases c14 : (ji12) ≤ ((rd_L12 y186 x16_1).length : Int)
                  · rw [if_pos c14] at H
                    have c14b0 := eq_true c14
                    have c14b1 : decide ((ji12) ≤ ((rd_L12 y186 x16_1).length : Int)) = true := decide_eq_true c14
                    clear c14
                    obtain ⟨y191, hy191⟩ : ∃ y_ : List (S133), y_ = ((rd_L12 y186 x16_1).take ((ji12) : Int).toNat) := ⟨_, rfl⟩
                    replace H : (punchcutlaw04_Outline.l1 k1 x4_1 ([] : List (S135)) y186 (y186.length : Int) x16_1 y191 (y191.length : Int) 0 x186000_1) = some r := by first | (rw [hy191]; with_reducible exact H) | (have H2_ := (Option.bind_some _ _).symm.trans H; rw [hy191]; with_reducible exact H2_) | (have H2_ := (Option.bind_some _ _).symm.trans H; with_reducible exact H2_) | with_reducible exact H | (rw [hy191]; exact H) | exact H
                    have Ny191 := Aside0.mk hy191
                    clear hy191
                    have H' := Aside0.mk H
                    clear H
                    have p190 : 0 ≤ (x16_1 : Int) := of_decide_eq_true (by first | (with_reducible assumption) | assumption)
                    have q190 : x16_1 < (y186.length : Int) := of_decide_eq_true (by first | (with_reducible assumption) | assumption)
                    obtain ⟨ad190, A190_0, c190_0, e190, hx190_0, hl190_0, hi190_0⟩ := at_L12 HR189.out x16_1 p190 q190
                    cases e190
                    replace hx190_0 := (HB.out.cell (World.block_lt_of_cell? w _ hx190_0)).trans hx190_0
                    have HR190_0 := Aside0.mk hi190_0
                    have HC190_0 := Aside0.mk hl190_0
                    clear hi190_0 hl190_0
                    replace p190 := eq_true p190
                    replace q190 := eq_true q190
                    have q15 : ((ji12) : Int) ≤ (((rd_L12 y186 x16_1).length : Int) : Int) := of_decide_eq_true (by first | (with_reducible assumption) | assumption)
                    obtain ⟨i015, hi015, _, hsz15, _⟩ := info_parts info133
                    have hroom15 : (rd_L12 y186 x16_1).length ≤ c190_0 := HC190_0.out
                    have hC15 : Kd.C k133 _ A190_0 (rd_L12 y186 x16_1).length (rd_L12 y186 x16_1) := HR190_0.out
                    have hcut15 := cut_to (P := Try.prog) 92 133 .i64 Try.underlying92 hi015 A190_0 (rd_L12 y186 x16_1).length c190_0 (ji12) (of_decide_eq_true (by first | (with_reducible assumption) | assumption)) q15 hroom15
                    have hr15 := Kd.C_take (m := ((ji12) : Int).toNat) hC15 (by omega)
                    have hy15 : y191.length = ((ji12) : Int).toNat := (by rw [Ny191.out, List.length_take]; omega)
                    rw [← Ny191.out] at hr15
                    rw [← hy15] at hcut15
                    have HR194 := Aside0.mk hr15
                    have HC194 := Aside0.mk (show y191.length ≤ c190_0 from by omega)
                    clear hr15 hC15 hroom15 hi015 hsz15
                    have KY15 := Aside0.mk hy15
                    clear hy15
                    replace q15 := eq_true q15
                    go_wp2
                    go_loopg [7, 27] k1 (fun kq v7 v27 w' => ∃ (x7_2 : List (S135)) (x27_2 : Int), v27 = .int .i64 x27_2 ∧ Aside0 (punchcutlaw04_Outline.l1 kq x4_1 x7_2 y186 (y186.length : Int) x16_1 y191 (y191.length : Int) x27_2 x186000_1 = some r) ∧ Aside0 (kq ≤ k1) ∧ Aside0 (Kd.R k135 135 w' w.heap.size (fun _ => True) v7 x7_2) ∧ Aside0 (Kd.S (Kd.slice 135 k135) 130 w' w.heap.size (fun k_ => some k_ ≠ (v7 : Value).ownBlock) u186000 x186000_1) ∧ Aside0 (w'.heap[gb184]? = some (.cells #[(.slice none 0 0)] 98 (0, 0))) ∧ Aside0 (w'.heap[gb185]? = some (.cells #[u186000] 98 (0, 0))) ∧ Aside0 (Below w.heap.size w w'))
                    case atStart => exact ⟨(([] : List (S135))), (0), (by first | rfl | (simp; done) | (simp [*]; done)), H', ⟨Nat.le_refl _⟩, ⟨by first | exact Kd.R_nil _ _ _ _ _ | exact Kd.N_nil _ _ _ _ _ | exact Kd.V_nil _ _ _ _ _ | exact Kd.Q_nil _ _ _ _ _ | exact Kd.S_nil _ _ _ _ _⟩, ⟨by (with_reducible repeat (first | apply Kd.S_alloc | apply Kd.S_drewN | apply Kd.S_drew)); exact Kd.S_mono HO_186000.out (fun _ hk => (by simp [Value.ownBlock]))⟩, ⟨by (with_reducible repeat (first | refine blk_drewN ?_ _ | refine blk_drew ?_ | refine blk_alloc ?_ _)); exact BK184.out⟩, ⟨by (with_reducible repeat (first | refine blk_drewN ?_ _ | refine blk_drew ?_ | refine blk_alloc ?_ _)); exact BK185.out⟩, ⟨by repeat (first | (with_reducible first | exact HB.out | apply below_alloc | apply pw_below_drewN | apply below_drew1 | refine below_set ?_ GE184.out | refine below_set ?_ GE185.out) | exact HB.out)⟩⟩
                    case round =>
                      clear H'
                      try clear c1
                      try clear p1
                      try clear q1
                      try clear hx1
                      try clear p2
                      try clear c3
                      try clear c3b0
                      try clear c3b1
                      try clear c4
                      try clear c4b0
                      try clear c4b1
                      try clear c5
                      try clear q7
                      try clear c8
                      try clear c8b0
                      try clear c9
                      try clear c9b0
                      try clear c10
                      try clear c10b0
                      try clear c13
                      try clear c13b0
                      try clear c13b1
                      try clear c14
                      try clear c14b0
                      try clear c14b1
                      try clear q15
                      try clear hx190_0
                      try clear p190
                      try clear p2
                      try clear q15
                      try clear q190
                      try clear q7
                      obtain ⟨x7_2, x27_2, rfl, HA, HK2, HO_7, HO_186000, BK184, BK185, HB⟩ := hrel
                      cases gk with
                      | zero => exact absurd HA.out (by simp [punchcutlaw04_Outline.l1])
                      | succ k2 =>
                        have H := HA.out
                        clear HA
                        simp only [punchcutlaw04_Outline.l1] at H
                        by_cases c16 : x27_2 < (y191.length : Int)
                        · rw [if_pos c16] at H
                          have c16b0 : decide (x27_2 < (y191.length : Int)) = true := decide_eq_true c16
                          clear c16
                          by_cases c17 : 0 ≤ x27_2
                          · rw [if_pos c17] at H
                            have c17b0 : decide (0 ≤ x27_2) = true := decide_eq_true c17
                            clear c17
                            by_cases c18 : x27_2 < (y191.length : Int)
                            · rw [if_pos c18] at H
                              have c18b0 : decide (x27_2 < (y191.length : Int)) = true := decide_eq_true c18
                              clear c18
                              by_cases c19 : x7_2.length < 5864062014805
                              · rw [if_pos c19] at H
                                have LMc19 := Aside0.mk c19
                                clear c19
                                obtain ⟨y197, hy197⟩ : ∃ y_ : List (S135), y_ = (x7_2 ++ [(⟨Int.tmod (wrap64 ((rd_T133 y191 x27_2).f0)) 256, Int.tmod (wrap64 ((rd_T133 y191 x27_2).f1)) 256, (rd_T133 y191 x27_2).f2⟩ : S135)]) := ⟨_, rfl⟩
                                replace H : (punchcutlaw04_Outline.l1 k2 x4_1 y197 y186 (y186.length : Int) x16_1 y191 (y191.length : Int) (wrap64 (x27_2 + 1)) x186000_1) = some r := by first | (rw [hy197]; with_reducible exact H) | (have H2_ := (Option.bind_some _ _).symm.trans H; rw [hy197]; with_reducible exact H2_) | (have H2_ := (Option.bind_some _ _).symm.trans H; with_reducible exact H2_) | with_reducible exact H | (rw [hy197]; exact H) | exact H
                                have Ny197 := Aside0.mk hy197
                                clear hy197
                                have H' := Aside0.mk H
                                clear H
                                have p195 : 0 ≤ (x27_2 : Int) := of_decide_eq_true (by first | (with_reducible assumption) | assumption)
                                have q195 : x27_2 < (y191.length : Int) := of_decide_eq_true (by first | (with_reducible assumption) | assumption)
                                obtain ⟨ad195, e195, hx195_0, hx195_1, hx195_2⟩ := at_T133 HR194.out x27_2 p195 q195
                                cases e195
                                replace hx195_0 := (HB.out.cell (World.block_lt_of_cell? w _ hx195_0)).trans hx195_0
                                replace hx195_1 := (HB.out.cell (World.block_lt_of_cell? w _ hx195_1)).trans hx195_1
                                replace hx195_2 := (HB.out.cell (World.block_lt_of_cell? w _ hx195_2)).trans hx195_2
                                replace p195 := eq_true p195
                                replace q195 := eq_true q195
                                go_wp2_with (first | ((with_reducible refine gate_dst (N := 9) rfl ?_); refine box_event ?hg (N := 9) ?hd (cs := #[.int .i16 0, .int .i16 0, .bool false]) (t := 133) ?hr ?_; (case hd => rfl); (case hg => rfl); (case hr => first | (go_simp; done) | (go_simp; rfl)); intro gb196 hg w20 hbox hb; have n0_ := Aside0.mk (Kd.R_below (by (with_reducible repeat (first | apply Kd.R_alloc | apply Kd.R_drewN | apply Kd.R_drew)); exact HO_7.out) hb); have n1_ := Aside0.mk (Kd.S_below (by (with_reducible repeat (first | apply Kd.S_alloc | apply Kd.S_drewN | apply Kd.S_drew)); exact HO_186000.out) hb); have n2_ := Aside0.mk (blk_below (g := gb184) (o := .cells #[.slice none 0 0] 98 (0, 0)) (by (with_reducible repeat (first | refine blk_drewN ?_ _ | refine blk_drew ?_ | refine blk_alloc ?_ _)); exact BK184.out) hb); have n3_ := Aside0.mk (blk_below (g := gb185) (o := .cells #[u186000] 98 (0, 0)) (by (with_reducible repeat (first | refine blk_drewN ?_ _ | refine blk_drew ?_ | refine blk_alloc ?_ _)); exact BK185.out) hb); have n4_ := Aside0.mk (below_step (by repeat (first | (with_reducible first | exact HB.out | apply below_alloc | apply pw_below_drewN | apply below_drew1 | refine below_set ?_ GE184.out | refine below_set ?_ GE185.out) | exact HB.out)) hb); have n5_ := Aside0.mk (hbox); have n6_ := Aside0.mk ((by rw [hg]; exact (below_size (by repeat (first | (with_reducible first | exact HB.out | apply below_alloc | apply pw_below_drewN | apply below_drew1 | refine below_set ?_ GE184.out | refine below_set ?_ GE185.out) | exact HB.out))) : w.heap.size ≤ gb196)); have n7_ := Aside0.mk ((by rw [hg]; exact (below_size (by repeat (first | (with_reducible first | exact HB.out | apply below_alloc | apply pw_below_drewN | apply below_drew1 | refine below_set ?_ GE184.out | refine below_set ?_ GE185.out) | exact HB.out))) : w.heap.size ≤ gb196)); have n8_ := Aside0.mk ((by rw [hg]; exact Nat.ne_of_lt (blk_lt (g := gb184) (o := .cells #[.slice none 0 0] 98 (0, 0)) (by (with_reducible repeat (first | refine blk_drewN ?_ _ | refine blk_drew ?_ | refine blk_alloc ?_ _)); exact BK184.out)) : gb184 ≠ gb196)); have n9_ := Aside0.mk ((by rw [hg]; exact Nat.ne_of_gt (blk_lt (g := gb184) (o := .cells #[.slice none 0 0] 98 (0, 0)) (by (with_reducible repeat (first | refine blk_drewN ?_ _ | refine blk_drew ?_ | refine blk_alloc ?_ _)); exact BK184.out)) : gb196 ≠ gb184)); have n10_ := Aside0.mk ((by rw [hg]; exact Nat.ne_of_lt (blk_lt (g := gb185) (o := .cells #[u186000] 98 (0, 0)) (by (with_reducible repeat (first | refine blk_drewN ?_ _ | refine blk_drew ?_ | refine blk_alloc ?_ _)); exact BK185.out)) : gb185 ≠ gb196)); have n11_ := Aside0.mk ((by rw [hg]; exact Nat.ne_of_gt (blk_lt (g := gb185) (o := .cells #[u186000] 98 (0, 0)) (by (with_reducible repeat (first | refine blk_drewN ?_ _ | refine blk_drew ?_ | refine blk_alloc ?_ _)); exact BK185.out)) : gb196 ≠ gb185)); clear HO_7; clear HO_186000; clear BK184; clear BK185; clear HB; have HO_7 := n0_; have HO_186000 := n1_; have BK184 := n2_; have BK185 := n3_; have HB := n4_; have BK196 := n5_; have GW196 := n6_; have GE196 := n7_; have NB184_196 := n8_; have NB196_184 := n9_; have NB185_196 := n10_; have NB196_185 := n11_; clear n0_ n1_ n2_ n3_ n4_ n5_ n6_ n7_ n8_ n9_ n10_ n11_; clear hb hbox hg; have hnb21 := NB196_184.out; have hnc21 := NB184_196.out; have hnb22 := NB196_185.out; have hnc22 := NB185_196.out; have hcz23_0 : w20.cell? ⟨gb196, 0, none⟩ = some (.int .i16 0) := (blk_cell BK196.out 0).trans rfl; have hcz23_1 : w20.cell? ⟨gb196, 1, none⟩ = some (.int .i16 0) := (blk_cell BK196.out 1).trans rfl; have hcz23_2 : w20.cell? ⟨gb196, 2, none⟩ = some (.bool false) := (blk_cell BK196.out 2).trans rfl; have hfz23_0 := blk_frozen BK196.out 0; have hfz23_1 := blk_frozen BK196.out 1; have hfz23_2 := blk_frozen BK196.out 2) | ((with_reducible refine gate_builtin (b := .append) (xs := #[.tmp 31, .tmp 43]) rfl ?_); at_builtin; refine Kd.R_append k135 (w0 := w) w.heap.size rfl (.tmp 31) (.tmp 43) 130 135 (.agg #[(.int .i64 0), (.int .i64 0), (.bool false)]) 24 rfl Try.underlying130 info135 rfl (by decide) (by omega) u7 x7_2 (⟨Int.tmod (wrap64 ((rd_T133 y191 x27_2).f0)) 256, Int.tmod (wrap64 ((rd_T133 y191 x27_2).f1)) 256, (rd_T133 y191 x27_2).f2⟩ : S135) [.int .i64 (Int.tmod (wrap64 ((rd_T133 y191 x27_2).f0)) 256), .int .i64 (Int.tmod (wrap64 ((rd_T133 y191 x27_2).f1)) 256), .bool ((rd_T133 y191 x27_2).f2)] (fun _ => True) (fun _ => False) rfl (by first | (go_simp; done) | (go_simp; rfl)) ?aP (fun _ hk => hk.elim) ?aF ?aO ?aB ?aS ?aL ?_; (case aP => exact k135_mkM _ _ _ (⟨Int.tmod (wrap64 ((rd_T133 y191 x27_2).f0)) 256, Int.tmod (wrap64 ((rd_T133 y191 x27_2).f1)) 256, (rd_T133 y191 x27_2).f2⟩ : S135)); (case aB => exact (by repeat (first | (with_reducible first | exact HB.out | apply below_alloc | apply pw_below_drewN | apply below_drew1 | refine below_set ?_ GE184.out | refine below_set ?_ GE185.out | refine below_set ?_ GE196.out) | exact HB.out))); (case aF => exact (fun _ _ => trivial)); (case aO => exact (by (with_reducible repeat (first | apply Kd.R_alloc | apply Kd.R_drewN | apply Kd.R_drew)); exact Kd.R_mono (Kd.R_far (p := ⟨gb196, 2, none⟩) (Kd.R_far (p := ⟨gb196, 1, none⟩) (Kd.R_far (p := ⟨gb196, 0, none⟩) (Kd.R_types HO_7.out BK196.out (by decide)) (fun _ hk => hk.2) (.int .i16 ((rd_T133 y191 x27_2).f0))) (fun _ hk => hk.2) (.int .i16 ((rd_T133 y191 x27_2).f1))) (fun _ hk => hk.2) (.bool ((rd_T133 y191 x27_2).f2))) (fun _ hk => trivial))); (case aS => exact (below_size (by repeat (first | (with_reducible first | exact HB.out | apply below_alloc | apply pw_below_drewN | apply below_drew1 | refine below_set ?_ GE184.out | refine below_set ?_ GE185.out | refine below_set ?_ GE196.out) | exact HB.out)))); (case aL => have := LMc19.out; omega); intro v198 w24 ho hb hg hat; rw [← Ny197.out] at ho; have n0_ := Aside0.mk (Kd.S_after (ok := (fun _ => True)) (by (with_reducible repeat (first | apply Kd.S_alloc | apply Kd.S_drewN | apply Kd.S_drew)); exact Kd.S_mono (Kd.S_far (p := ⟨gb196, 2, none⟩) (Kd.S_far (p := ⟨gb196, 1, none⟩) (Kd.S_far (p := ⟨gb196, 0, none⟩) (Kd.S_types HO_186000.out BK196.out (by decide)) (fun _ hk => hk.2) (.int .i16 ((rd_T133 y191 x27_2).f0))) (fun _ hk => hk.2) (.int .i16 ((rd_T133 y191 x27_2).f1))) (fun _ hk => hk.2) (.bool ((rd_T133 y191 x27_2).f2))) (fun _ hk => ⟨trivial, hk.1⟩)) hg hat); have n1_ := Aside0.mk (blk_grown (g := gb184) (o := .cells #[.slice none 0 0] 98 (0, 0)) (by (with_reducible repeat (first | refine blk_drewN ?_ _ | refine blk_drew ?_ | refine blk_alloc ?_ _)); refine blk_far ?_ NB184_196.out _; (with_reducible repeat (first | refine blk_drewN ?_ _ | refine blk_drew ?_ | refine blk_alloc ?_ _)); refine blk_far ?_ NB184_196.out _; (with_reducible repeat (first | refine blk_drewN ?_ _ | refine blk_drew ?_ | refine blk_alloc ?_ _)); refine blk_far ?_ NB184_196.out _; (with_reducible repeat (first | refine blk_drewN ?_ _ | refine blk_drew ?_ | refine blk_alloc ?_ _)); exact BK184.out) hg (Kd.R_ne HO_7.out BK184.out (by decide))); have n2_ := Aside0.mk (blk_grown (g := gb185) (o := .cells #[u186000] 98 (0, 0)) (by (with_reducible repeat (first | refine blk_drewN ?_ _ | refine blk_drew ?_ | refine blk_alloc ?_ _)); refine blk_far ?_ NB185_196.out _; (with_reducible repeat (first | refine blk_drewN ?_ _ | refine blk_drew ?_ | refine blk_alloc ?_ _)); refine blk_far ?_ NB185_196.out _; (with_reducible repeat (first | refine blk_drewN ?_ _ | refine blk_drew ?_ | refine blk_alloc ?_ _)); refine blk_far ?_ NB185_196.out _; (with_reducible repeat (first | refine blk_drewN ?_ _ | refine blk_drew ?_ | refine blk_alloc ?_ _)); exact BK185.out) hg (Kd.R_ne HO_7.out BK185.out (by decide))); have n3_ := Aside0.mk (blk_grown (g := gb196) (o := .cells #[.int .i16 ((rd_T133 y191 x27_2).f0), .int .i16 ((rd_T133 y191 x27_2).f1), .bool ((rd_T133 y191 x27_2).f2)] 133 (0, 0)) (by (with_reducible repeat (first | refine blk_drewN ?_ _ | refine blk_drew ?_ | refine blk_alloc ?_ _)); refine blk_put (cs := #[.int .i16 ((rd_T133 y191 x27_2).f0), .int .i16 ((rd_T133 y191 x27_2).f1), .bool false]) ?_ 2 _ rfl; (with_reducible repeat (first | refine blk_drewN ?_ _ | refine blk_drew ?_ | refine blk_alloc ?_ _)); refine blk_put (cs := #[.int .i16 ((rd_T133 y191 x27_2).f0), .int .i16 0, .bool false]) ?_ 1 _ rfl; (with_reducible repeat (first | refine blk_drewN ?_ _ | refine blk_drew ?_ | refine blk_alloc ?_ _)); refine blk_put (cs := #[.int .i16 0, .int .i16 0, .bool false]) ?_ 0 _ rfl; (with_reducible repeat (first | refine blk_drewN ?_ _ | refine blk_drew ?_ | refine blk_alloc ?_ _)); exact BK196.out) hg (Kd.R_ne HO_7.out BK196.out (by decide))); have n4_ := Aside0.mk (hb); have n5_ := Aside0.mk (ho); clear HO_186000; clear BK184; clear BK185; clear BK196; clear HB; clear HO_7; have HO_186000 := n0_; have BK184 := n1_; have BK185 := n2_; have BK196 := n3_; have HB := n4_; have HO199 := n5_; clear n0_ n1_ n2_ n3_ n4_ n5_; clear ho hb hg hat))
                                go_roundg k2
                                case measure => have := HK1.out; have := HK2.out; omega
                                case rel => exact ⟨(y197), (wrap64 (x27_2 + 1)), (by first | rfl | (simp; done) | (simp [*]; done)), H', ⟨by have := HK1.out; have := HK2.out; omega⟩, ⟨by (with_reducible repeat (first | apply Kd.R_alloc | apply Kd.R_drewN | apply Kd.R_drew)); exact HO199.out⟩, ⟨by (with_reducible repeat (first | apply Kd.S_alloc | apply Kd.S_drewN | apply Kd.S_drew)); exact Kd.S_mono HO_186000.out (fun _ hk => hk.2)⟩, ⟨by (with_reducible repeat (first | refine blk_drewN ?_ _ | refine blk_drew ?_ | refine blk_alloc ?_ _)); exact BK184.out⟩, ⟨by (with_reducible repeat (first | refine blk_drewN ?_ _ | refine blk_drew ?_ | refine blk_alloc ?_ _)); exact BK185.out⟩, ⟨by repeat (first | (with_reducible first | exact HB.out | apply below_alloc | apply pw_below_drewN | apply below_drew1 | refine below_set ?_ GE184.out | refine below_set ?_ GE185.out | refine below_set ?_ GE196.out) | exact HB.out)⟩⟩
                              · rw [if_neg c19] at H
                                exact absurd H (by simp)
                            · rw [if_neg c18] at H
                              exact absurd H (by simp)
                          · rw [if_neg c17] at H
                            exact absurd H (by simp)
                        · rw [if_neg c16] at H
                          have c16b0 : decide (x27_2 < (y191.length : Int)) = false := decide_eq_false c16
                          clear c16
                          by_cases c25 : (x7_2.length : Int) > 0
                          · rw [if_pos c25] at H
                            have c25b0 : decide (0 < (x7_2.length : Int)) = true := decide_eq_true c25
                            have c25b1 : decide (0 < x7_2.length) = true := decide_eq_true (by omega)
                            clear c25
                            by_cases c26 : x186000_1.length < 5864062014805
                            · rw [if_pos c26] at H
                              have LMc26 := Aside0.mk c26
                              clear c26
                              obtain ⟨y200, hy200⟩ : ∃ y_ : List (List (S135)), y_ = (x186000_1 ++ [x7_2]) := ⟨_, rfl⟩
                              replace H : (punchcutlaw04_Outline.l0 k2 (wrap64 (x4_1 - (x7_2.length : Int))) y186 (y186.length : Int) (wrap64 (x16_1 + 1)) y200) = some r := by first | (rw [hy200]; with_reducible exact H) | (have H2_ := (Option.bind_some _ _).symm.trans H; rw [hy200]; with_reducible exact H2_) | (have H2_ := (Option.bind_some _ _).symm.trans H; with_reducible exact H2_) | with_reducible exact H | (rw [hy200]; exact H) | exact H
                              have Ny200 := Aside0.mk hy200
                              clear hy200
                              have H' := Aside0.mk H
                              clear H
                              obtain ⟨Ao27, co27, eo27⟩ := Kd.R_slice HO_7.out
                              subst eo27
                              have hnb28 := NB185_184.out
                              have hnc28 := NB184_185.out
                              have hcz29_0 : wr.cell? ⟨gb185, 0, none⟩ = some (u186000) := (blk_cell BK185.out 0).trans rfl
                              have hfz29_0 := blk_frozen BK185.out 0
                              go_wp2_with (first | ((with_reducible refine gate_builtin (b := .append) (xs := #[.tmp 54, .tmp 56]) rfl ?_); at_builtin; refine Kd.S_append (Kd.slice 135 k135) (w0 := w) w.heap.size rfl (.tmp 54) (.tmp 56) 96 130 (.slice none 0 0) 24 rfl Try.underlying96 info130 rfl (by decide) (by omega) u186000 x186000_1 x7_2 [.slice Ao27 x7_2.length co27] (fun _ => True) (fun k_ => some k_ = (.slice Ao27 x7_2.length co27 : Value).ownBlock) rfl rfl ?aP (fun k_ hk_ => ((Kd.R_mono (ok' := fun k_ => ((fun _ => True)) k_ ∧ some k_ ≠ (u186000 : Value).ownBlock) (Kd.R_apart' (HO_7.out) (Kd.S_typed HO_186000.out) (by decide)) (fun k_ hk => ⟨trivial, hk.2⟩))).1 k_ hk_.symm) ?aF ?aO ?aB ?aS ?aL ?_; (case aP => exact Kd.M_row (Kd.R_mono (Kd.R_tight rfl (Kd.R_mono (ok' := fun k_ => ((fun _ => True)) k_ ∧ some k_ ≠ (u186000 : Value).ownBlock) (Kd.R_apart' (HO_7.out) (Kd.S_typed HO_186000.out) (by decide)) (fun k_ hk => ⟨trivial, hk.2⟩))) (fun _ h_ => h_))); (case aB => exact (by repeat (first | (with_reducible first | exact HB.out | apply below_alloc | apply pw_below_drewN | apply below_drew1 | refine below_set ?_ GE184.out | refine below_set ?_ GE185.out) | exact HB.out))); (case aF => exact (fun _ _ => trivial)); (case aO => exact (by (with_reducible repeat (first | apply Kd.S_alloc | apply Kd.S_drewN | apply Kd.S_drew)); exact Kd.S_mono HO_186000.out (fun k_ hk => ⟨trivial, fun e_ => hk e_⟩))); (case aS => exact (below_size (by repeat (first | (with_reducible first | exact HB.out | apply below_alloc | apply pw_below_drewN | apply below_drew1 | refine below_set ?_ GE184.out | refine below_set ?_ GE185.out) | exact HB.out)))); (case aL => have := LMc26.out; omega); intro v201 w30 ho hb hg hat; rw [← Ny200.out] at ho; have n0_ := Aside0.mk (blk_grown (g := gb184) (o := .cells #[.slice none 0 0] 98 (0, 0)) (by (with_reducible repeat (first | refine blk_drewN ?_ _ | refine blk_drew ?_ | refine blk_alloc ?_ _)); exact BK184.out) hg (Kd.S_ne HO_186000.out BK184.out (by decide))); have n1_ := Aside0.mk (blk_grown (g := gb185) (o := .cells #[u186000] 98 (0, 0)) (by (with_reducible repeat (first | refine blk_drewN ?_ _ | refine blk_drew ?_ | refine blk_alloc ?_ _)); exact BK185.out) hg (Kd.S_ne HO_186000.out BK185.out (by decide))); have n2_ := Aside0.mk (hb); have n3_ := Aside0.mk (ho); clear BK184; clear BK185; clear HB; clear HO_186000; clear HO_7; have BK184 := n0_; have BK185 := n1_; have HB := n2_; have HO202 := n3_; clear n0_ n1_ n2_ n3_; clear ho hb hg hat; obtain ⟨Ao31, co31, eo31⟩ := Kd.S_slice HO202.out; subst eo31; have hcz32_0 : w30.cell? ⟨gb185, 0, none⟩ = some (u186000) := (blk_cell BK185.out 0).trans rfl; have hfz32_0 := blk_frozen BK185.out 0))
                              go_roundg k2
                              case measure => have := HK1.out; have := HK2.out; omega
                              case rel => exact ⟨(wrap64 (x4_1 - (x7_2.length : Int))), (wrap64 (x16_1 + 1)), (y200), (.slice Ao31 y200.length co31), (by first | rfl | (simp; done) | (simp [*]; done)), (by first | rfl | (simp; done) | (simp [*]; done)), H', ⟨by have := HK1.out; have := HK2.out; omega⟩, ⟨by (with_reducible repeat (first | apply Kd.S_alloc | apply Kd.S_drewN | apply Kd.S_drew)); exact Kd.S_mono (Kd.S_far (p := ⟨gb185, 0, none⟩) (Kd.S_types HO202.out BK185.out (by decide)) (fun _ hk => hk.2) (.slice Ao31 y200.length co31)) (fun _ hk => trivial)⟩, ⟨by (with_reducible repeat (first | refine blk_drewN ?_ _ | refine blk_drew ?_ | refine blk_alloc ?_ _)); refine blk_far ?_ NB184_185.out _; (with_reducible repeat (first | refine blk_drewN ?_ _ | refine blk_drew ?_ | refine blk_alloc ?_ _)); exact BK184.out⟩, ⟨by (with_reducible repeat (first | refine blk_drewN ?_ _ | refine blk_drew ?_ | refine blk_alloc ?_ _)); refine blk_put (cs := #[u186000]) ?_ 0 _ rfl; (with_reducible repeat (first | refine blk_drewN ?_ _ | refine blk_drew ?_ | refine blk_alloc ?_ _)); exact BK185.out⟩, ⟨by repeat (first | (with_reducible first | exact HB.out | apply below_alloc | apply pw_below_drewN | apply below_drew1 | refine below_set ?_ GE184.out | refine below_set ?_ GE185.out) | exact HB.out)⟩⟩
                            · rw [if_neg c26] at H
                              exact absurd H (by simp)
                          · rw [if_neg c25] at H
                            have c25b0 : decide (0 < (x7_2.length : Int)) = false := decide_eq_false c25
                            have c25b1 : decide (0 < x7_2.length) = false := decide_eq_false (by omega)
                            clear c25
                            have H' := Aside0.mk H
                            clear H
                            obtain ⟨Ao33, co33, eo33⟩ := Kd.R_slice HO_7.out
                            subst eo33
                            go_wp2
                            go_roundg k2
                            case measure => have := HK1.out; have := HK2.out; omega
                            case rel => exact ⟨(wrap64 (x4_1 - (x7_2.length : Int))), (wrap64 (x16_1 + 1)), (x186000_1), (u186000), (by first | rfl | (simp; done) | (simp [*]; done)), (by first | rfl | (simp; done) | (simp [*]; done)), H', ⟨by have := HK1.out; have := HK2.out; omega⟩, ⟨by (with_reducible repeat (first | apply Kd.S_alloc | apply Kd.S_drewN | apply Kd.S_drew)); exact Kd.S_mono HO_186000.out (fun _ hk => trivial)⟩, ⟨by (with_reducible repeat (first | refine blk_drewN ?_ _ | refine blk_drew ?_ | refine blk_alloc ?_ _)); exact BK184.out⟩, ⟨by (with_reducible repeat (first | refine blk_drewN ?_ _ | refine blk_drew ?_ | refine blk_alloc ?_ _)); exact BK185.out⟩, ⟨by repeat (first | (with_reducible first | exact HB.out | apply below_alloc | apply pw_below_drewN | apply below_drew1 | refine below_set ?_ GE184.out | refine below_set ?_ GE185.out) | exact HB.out)⟩⟩
                  · rw [if_neg c14] at H
                    exact absurd H (by simp)
                · rw [if_neg c13] at H
                  exact absurd H (by simp)
              · rw [if_neg c10] at H
                exact absurd H (by simp)
            · rw [if_neg c9] at H
              exact absurd H (by simp)
          · rw [if_neg c8] at H
            have c8b0 : decide (x16_1 < (y186.length : Int)) = false := decide_eq_false c8
            clear c8
            obtain rfl := Option.some.inj H
            have hnb34 := NB185_184.out
            have hnc34 := NB184_185.out
            have hcz35_0 : wr.cell? ⟨gb185, 0, none⟩ = some (u186000) := (blk_cell BK185.out 0).trans rfl
            have hfz35_0 := blk_frozen BK185.out 0
            obtain ⟨Ao36, co36, eo36⟩ := Kd.S_slice HO_186000.out
            subst eo36
            have hcz37_0 : wr.cell? ⟨gb184, 0, none⟩ = some (.slice none 0 0) := (blk_cell BK184.out 0).trans rfl
            have hfz37_0 := blk_frozen BK184.out 0
            go_wp2
            refine bodyPost_ret (results_cell_row rfl _ _ gb184 98 #[.slice Ao36 x186000_1.length co36] (0, 0) _ rfl (by (with_reducible repeat (first | refine blk_drewN ?_ _ | refine blk_drew ?_ | refine blk_alloc ?_ _)); refine blk_put (cs := #[.slice none 0 0]) ?_ 0 _ rfl; (with_reducible repeat (first | refine blk_drewN ?_ _ | refine blk_drew ?_ | refine blk_alloc ?_ _)); exact BK184.out) Try.underlying98 rfl (by kernel_rfl)) rfl ?_
            exact ⟨_, by first | rfl | (simp [errW_none, errW_some] <;> rfl) | (simp only [← hji2]; first | rfl | (simp [errW_none, errW_some] <;> rfl)) | (simp [*, errW_none, errW_some] <;> rfl), by (with_reducible repeat (first | apply Kd.S_alloc | apply Kd.S_drewN | apply Kd.S_drew)); exact Kd.S_mono (Kd.S_far (p := ⟨gb184, 0, none⟩) (Kd.S_types HO_186000.out BK184.out (by decide)) (fun _ hk => hk.2) (.slice Ao36 x186000_1.length co36)) (fun _ hk => trivial), by repeat (first | (with_reducible first | exact HB.out | apply below_alloc | apply pw_below_drewN | apply below_drew1 | refine below_set ?_ GE184.out | refine below_set ?_ GE185.out) | exact HB.out)⟩
    · rw [if_neg c4] at H
      exact absurd H (by simp)
  · rw [if_neg c3] at H
    exact absurd H (by simp)
end Go.Proofs.Ytlljpjbhndcaiaa.Q
end
section
namespace Go.Proofs.Ytlljpjbhndcaiaa.Q
open Go.RowKit Go.Proofs.YtlljpjbhndcaiaaW.PrintWords Go.Proofs.YtlljpjbhndcaiaaW.PrintLast Go.Proofs.YtlljpjbhndcaiaaW.PrintMore
attribute [local go_sem] max2_int min2_int max_two min_two max_three min_three max_four min_four
set_option linter.unusedVariables false
set_option linter.unusedSimpArgs false
def punchcutlaw06_Glyph.l0 : Nat → List (List (S133)) → List (List (S133)) → Int → Int → Option ((List (S40)))
  | 0, _, _, _, _ => none
  | k + 1, x3, x10, x11, x12 => if x12 < x11 then (if 0 ≤ x12 then (if x12 < (x10.length : Int) then (if 0 ≤ (mn ((rd_L12 x10 x12).length : Int) 6) then (if (mn ((rd_L12 x10 x12).length : Int) 6) ≤ ((rd_L12 x10 x12).length : Int) then (if x3.length < 5864062014805 then (punchcutlaw06_Glyph.l0 k (x3 ++ [((rd_L12 x10 x12).take ((mn ((rd_L12 x10 x12).length : Int) 6) : Int).toNat)]) x10 x11 (wrap64 (x12 + 1))) else (none)) else (none)) else (none)) else (none)) else (none)) else ((punchcutlaw04_Outline.f k x3).bind fun t217 => ((path_All.f k t217).bind fun t220 => ((flat_All.f k t220).bind fun t223 => (some t223))))
def punchcutlaw06_Glyph.f (k : Nat) (l0 : List (List (S133))) : Option ((List (S40))) := if 0 ≤ (mn (l0.length : Int) 3) then (if (mn (l0.length : Int) 3) ≤ (l0.length : Int) then ((some (l0.take ((mn (l0.length : Int) 3) : Int).toNat : List (List (S133)))).bind fun y203 => (punchcutlaw06_Glyph.l0 k ([] : List (List (S133))) y203 (y203.length : Int) 0)) else (none)) else (none)
theorem punchcutlaw06_Glyph.mono_l : ∀ k, (∀ y0 y1 y2 y3, LeO (punchcutlaw06_Glyph.l0 k y0 y1 y2 y3) (punchcutlaw06_Glyph.l0 (k + 1) y0 y1 y2 y3))
  | 0 => fun _ _ _ _ r h => by simp [punchcutlaw06_Glyph.l0] at h
  | k + 1 => by
    have ih0 := punchcutlaw06_Glyph.mono_l k
    · intro y0 y1 y2 y3
      unfold punchcutlaw06_Glyph.l0
      repeat' first
      | (with_reducible exact ih0 _ _ _ _)
      | (with_reducible exact flat_All.mono _ _)
      | (with_reducible exact path_All.mono _ _)
      | (with_reducible exact punchcutlaw04_Outline.mono _ _)
      | (with_reducible exact LeO.refl _)
      | (with_reducible exact LeO.none _)
      | (with_reducible refine LeO.ite ?_ ?_)
      | (with_reducible refine LeO.bind ?_ (fun _ => ?_))
      | exact ih0 _ _ _ _
      | exact flat_All.mono _ _
      | exact path_All.mono _ _
      | exact punchcutlaw04_Outline.mono _ _
      | exact LeO.none _
      | refine LeO.ite ?_ ?_
      | refine LeO.bind ?_ (fun _ => ?_)
theorem punchcutlaw06_Glyph.mono : ∀ a0 k, LeO (punchcutlaw06_Glyph.f k a0) (punchcutlaw06_Glyph.f (k + 1) a0) := by
  intro a0 k
  have ih0 := punchcutlaw06_Glyph.mono_l k
  unfold punchcutlaw06_Glyph.f
  repeat' first
      | (with_reducible exact ih0 _ _ _ _)
      | (with_reducible exact flat_All.mono _ _)
      | (with_reducible exact path_All.mono _ _)
      | (with_reducible exact punchcutlaw04_Outline.mono _ _)
      | (with_reducible exact LeO.refl _)
      | (with_reducible exact LeO.none _)
      | (with_reducible refine LeO.ite ?_ ?_)
      | (with_reducible refine LeO.bind ?_ (fun _ => ?_))
      | exact ih0 _ _ _ _
      | exact flat_All.mono _ _
      | exact path_All.mono _ _
      | exact punchcutlaw04_Outline.mono _ _
      | exact LeO.none _
      | refine LeO.ite ?_ ?_
      | refine LeO.bind ?_ (fun _ => ?_)
set_option maxHeartbeats 8000000 in
set_option maxRecDepth 100000 in
theorem punchcutlaw06_Glyph.calls (k : Nat) (P0_ : Nat → Prop) (A0 : Option Addr) (c0 : Nat) (l0 : List (List (S133))) (r : List (S40)) (w : World) (hs0 : Kd.V (Kd.slice 133 k133) 92 w w.heap.size (fun k_ => P0_ k_) (.slice A0 l0.length c0) l0) (h : punchcutlaw06_Glyph.f k l0 = some r) :
    Calls Try.prog 19 #[.slice A0 l0.length c0] w fun e w' => ∃ v0_ : Value, e = .returned (v0_) ∧ Kd.R k40 40 w' w.heap.size (fun k_ => (w.heap.size ≤ k_)) v0_ r ∧ Below w.heap.size w w' := by
  have HO0 := Aside0.mk (show Kd.V (Kd.slice 133 k133) 92 w w.heap.size (fun k_ => (P0_ k_ ∨ w.heap.size ≤ k_)) (.slice A0 l0.length c0) l0 from Kd.V_mono hs0 (fun k_ hk => .inl hk))
  have HB := Aside0.mk (Below.refl w.heap.size w)
  have H : (if 0 ≤ (mn (l0.length : Int) 3) then (if (mn (l0.length : Int) 3) ≤ (l0.length : Int) then ((some (l0.take ((mn (l0.length : Int) 3) : Int).toNat : List (List (S133)))).bind fun y203 => (punchcutlaw06_Glyph.l0 k ([] : List (List (S133))) y203 (y203.length : Int) 0)) else (none)) else (none)) = some r := h
  clear h
  obtain ⟨ji2, hji2⟩ : ∃ j_ : Int, (mn (l0.length : Int) 3) = j_ := ⟨_, rfl⟩
  replace H : (if 0 ≤ (ji2) then (if (ji2) ≤ (l0.length : Int) then ((some (l0.take ((ji2) : Int).toNat : List (List (S133)))).bind fun y203 => (punchcutlaw06_Glyph.l0 k ([] : List (List (S133))) y203 (y203.length : Int) 0)) else (none)) else (none)) = some r := by first | (rw [hji2] at H; exact H) | (simp only [hji2] at H ⊢; exact H)
  (try (have hji2h : ji2 ≤ 3 := by (rw [← hji2]; unfold mn; (repeat' split) <;> omega)))
  (try (have hji2g : ji2 ≤ 64 := by omega))
  (try (have hji2l : 0 ≤ ji2 := by (rw [← hji2]; unfold mn; (repeat' split) <;> omega)))
  (try (have hji2m : 0 ≤ ji2 := by omega))
  have hji2_ : (if 3 < (l0.length : Int) then 3 else (l0.length : Int)) = ji2 := hji2
  by_cases c3 : 0 ≤ (ji2)
  · rw [if_pos c3] at H
    have c3b0 := eq_true c3
    have c3b1 : decide (0 ≤ (ji2)) = true := decide_eq_true c3
    clear c3
    by_cases c4 : (ji2) ≤ (l0.length : Int)
    · rw [if_pos c4] at H
      have c4b0 := eq_true c4
      have c4b1 : decide ((ji2) ≤ (l0.length : Int)) = true := decide_eq_true c4
      clear c4
      obtain ⟨y203, hy203⟩ : ∃ y_ : List (List (S133)), y_ = (l0.take ((ji2) : Int).toNat) := ⟨_, rfl⟩
      replace H : (punchcutlaw06_Glyph.l0 k ([] : List (List (S133))) y203 (y203.length : Int) 0) = some r := by first | (rw [hy203]; with_reducible exact H) | (have H2_ := (Option.bind_some _ _).symm.trans H; rw [hy203]; with_reducible exact H2_) | (have H2_ := (Option.bind_some _ _).symm.trans H; with_reducible exact H2_) | with_reducible exact H | (rw [hy203]; exact H) | exact H
      have Ny203 := Aside0.mk hy203
      clear hy203
      have H' := Aside0.mk H
      clear H
      have q5 : ((ji2) : Int) ≤ ((l0.length : Int) : Int) := of_decide_eq_true (by first | (with_reducible assumption) | assumption)
      obtain ⟨i05, hi05, _, hsz5, _⟩ := info_parts info92
      have hroom5 : l0.length ≤ c0 := (Kd.V_reads' HO0.out).2.1
      have hC5 : Kd.F (Kd.slice 133 k133) _ _ A0 l0.length l0 := (Kd.V_at (base := w.heap.size) HO0.out).2.2
      have hcut5 := cut_to (P := Try.prog) 22 92 .i64 Try.underlying22 hi05 A0 l0.length c0 (ji2) (of_decide_eq_true (by first | (with_reducible assumption) | assumption)) q5 hroom5
      have hr5 := Kd.F_take (m := ((ji2) : Int).toNat) hC5 (by omega)
      have hy5 : y203.length = ((ji2) : Int).toNat := (by rw [Ny203.out, List.length_take]; omega)
      rw [← Ny203.out] at hr5
      rw [← hy5] at hcut5
      have HO207 := Aside0.mk (show Kd.V (Kd.slice 133 k133) 92 _ w.heap.size _ (.slice A0 y203.length c0) y203 from Kd.V_mk (by omega) hr5)
      have HC207 := Aside0.mk (show y203.length ≤ c0 from by omega)
      clear hr5 hC5 hroom5 hi05 hsz5
      have KY5 := Aside0.mk hy5
      clear hy5
      replace q5 := eq_true q5
      go_enter Try.func19, Try.ntmps19
      go_wp2
      go_loopg [3, 12] k (fun kq v3 v12 w' => ∃ (x3_1 : List (List (S133))) (x12_1 : Int), v12 = .int .i64 x12_1 ∧ Aside0 (punchcutlaw06_Glyph.l0 kq x3_1 y203 (y203.length : Int) x12_1 = some r) ∧ Aside0 (kq ≤ k) ∧ Aside0 (Kd.N (Kd.slice 133 k133) 92 w' w.heap.size (fun k_ => (P0_ k_ ∨ w.heap.size ≤ k_)) v3 x3_1) ∧ Aside0 (Kd.V (Kd.slice 133 k133) 92 w' w.heap.size (fun k_ => (P0_ k_ ∨ w.heap.size ≤ k_) ∧ some k_ ≠ (v3 : Value).ownBlock) (.slice A0 y203.length c0) y203) ∧ Aside0 (Below w.heap.size w w'))
      case atStart => exact ⟨(([] : List (List (S133)))), (0), (by first | rfl | (simp; done) | (simp [*]; done)), H', ⟨Nat.le_refl _⟩, ⟨by first | exact Kd.S_nil _ _ _ _ _ | exact Kd.N_nil _ _ _ _ _ | exact Kd.V_nil _ _ _ _ _ | exact Kd.Q_nil _ _ _ _ _ | exact Kd.R_nil _ _ _ _ _⟩, ⟨by (with_reducible repeat (first | apply Kd.V_alloc | apply Kd.V_drewN | apply Kd.V_drew)); exact Kd.V_mono HO207.out (fun _ hk => ⟨hk, (by simp [Value.ownBlock])⟩)⟩, ⟨by repeat (first | (with_reducible first | exact HB.out | apply below_alloc | apply pw_below_drewN | apply below_drew1) | exact HB.out)⟩⟩
      case round =>
        clear H'
        try clear c1
        try clear p2
        try clear c3
        try clear c3b0
        try clear c3b1
        try clear c4
        try clear c4b0
        try clear c4b1
        try clear q5
        try clear q5
        obtain ⟨x3_1, x12_1, rfl, HA, HK1, HO_3, HO_10, HB⟩ := hrel
        cases gk with
        | zero => exact absurd HA.out (by simp [punchcutlaw06_Glyph.l0])
        | succ k1 =>
          have H := HA.out
          clear HA
          simp only [punchcutlaw06_Glyph.l0] at H
          by_cases c6 : x12_1 < (y203.length : Int)
          · rw [if_pos c6] at H
            have c6b0 : decide (x12_1 < (y203.length : Int)) = true := decide_eq_true c6
            clear c6
            by_cases c7 : 0 ≤ x12_1
            · rw [if_pos c7] at H
              have c7b0 : decide (0 ≤ x12_1) = true := decide_eq_true c7
              clear c7
              by_cases c8 : x12_1 < (y203.length : Int)
              · rw [if_pos c8] at H
                have c8b0 : decide (x12_1 < (y203.length : Int)) = true := decide_eq_true c8
                clear c8
                obtain ⟨ji9, hji9⟩ : ∃ j_ : Int, (mn ((rd_L12 y203 x12_1).length : Int) 6) = j_ := ⟨_, rfl⟩
                replace H : (if 0 ≤ (ji9) then (if (ji9) ≤ ((rd_L12 y203 x12_1).length : Int) then (if x3_1.length < 5864062014805 then (punchcutlaw06_Glyph.l0 k1 (x3_1 ++ [((rd_L12 y203 x12_1).take ((ji9) : Int).toNat)]) y203 (y203.length : Int) (wrap64 (x12_1 + 1))) else (none)) else (none)) else (none)) = some r := by first | (rw [hji9] at H; exact H) | (simp only [hji9] at H ⊢; exact H)
                have hji9_ : (if 6 < ((rd_L12 y203 x12_1).length : Int) then 6 else ((rd_L12 y203 x12_1).length : Int)) = ji9 := hji9
                by_cases c10 : 0 ≤ (ji9)
                · rw [if_pos c10] at H
                  have c10b0 := eq_true c10
                  have c10b1 : decide (0 ≤ (ji9)) = true := decide_eq_true c10
                  clear c10
                  by_cases c11 : (ji9) ≤ ((rd_L12 y203 x12_1).length : Int)
                  · rw [if_pos c11] at H
                    have c11b0 := eq_true c11
                    have c11b1 : decide ((ji9) ≤ ((rd_L12 y203 x12_1).length : Int)) = true := decide_eq_true c11
                    clear c11
                    obtain ⟨y209, hy209⟩ : ∃ y_ : List (S133), y_ = ((rd_L12 y203 x12_1).take ((ji9) : Int).toNat) := ⟨_, rfl⟩
                    replace H : (if x3_1.length < 5864062014805 then (punchcutlaw06_Glyph.l0 k1 (x3_1 ++ [y209]) y203 (y203.length : Int) (wrap64 (x12_1 + 1))) else (none)) = some r := by first | (rw [hy209]; with_reducible exact H) | (have H2_ := (Option.bind_some _ _).symm.trans H; rw [hy209]; with_reducible exact H2_) | (have H2_ := (Option.bind_some _ _).symm.trans H; with_reducible exact H2_) | with_reducible exact H | (rw [hy209]; exact H) | exact H
                    have Ny209 := Aside0.mk hy209
                    clear hy209
                    by_cases c12 : x3_1.length < 5864062014805
                    · rw [if_pos c12] at H
                      have LMc12 := Aside0.mk c12
                      clear c12
                      obtain ⟨y214, hy214⟩ : ∃ y_ : List (List (S133)), y_ = (x3_1 ++ [y209]) := ⟨_, rfl⟩
                      replace H : (punchcutlaw06_Glyph.l0 k1 y214 y203 (y203.length : Int) (wrap64 (x12_1 + 1))) = some r := by first | (rw [hy214]; with_reducible exact H) | (have H2_ := (Option.bind_some _ _).symm.trans H; rw [hy214]; with_reducible exact H2_) | (have H2_ := (Option.bind_some _ _).symm.trans H; with_reducible exact H2_) | with_reducible exact H | (rw [hy214]; exact H) | exact H
                      have Ny214 := Aside0.mk hy214
                      clear hy214
                      have H' := Aside0.mk H
                      clear H
                      have p208 : 0 ≤ (x12_1 : Int) := of_decide_eq_true (by first | (with_reducible assumption) | assumption)
                      have q208 : x12_1 < (y203.length : Int) := of_decide_eq_true (by first | (with_reducible assumption) | assumption)
                      obtain ⟨ad208, A208_0, c208_0, e208, hx208_0, hl208_0, hi208_0⟩ := at_L12 (Kd.V_reads' HO_10.out).2.2 x12_1 p208 q208
                      cases e208
                      obtain ⟨ce208, hce208, hMe208, hcc208⟩ := Kd.V_get HO_10.out [] x12_1 p208 (by first | exact q208 | exact of_decide_eq_true (by first | (with_reducible assumption) | assumption) | (have e_ := (Kd.V_reads' HO_10.out).1; omega))
                      obtain ⟨ua208_0, uc208_0, rfl, ul208_0, ge208_0⟩ := Kd.FK_slice_open hMe208
                      have hv208_0 := hcc208 0 _ rfl
                      rw [Nat.add_zero, show ((Kd.slice 133 k133)).sz = 1 from rfl, Nat.mul_one] at hv208_0
                      replace hv208_0 := Option.some.inj (hv208_0.symm.trans hx208_0)
                      injection hv208_0 with hva_ hvn_ hvc_
                      rw [hva_] at ge208_0
                      rw [hvc_] at ul208_0
                      have HL208_0 := Aside0.mk (show Kd.V k133 133 _ w.heap.size _ _ (rd_L12 y203 x12_1) from Kd.V_mk ul208_0 ge208_0)
                      clear hva_ hvn_ hvc_ ge208_0 ul208_0
                      clear hcc208 hce208
                      have HR208_0 := Aside0.mk hi208_0
                      have HC208_0 := Aside0.mk hl208_0
                      clear hi208_0 hl208_0
                      replace p208 := eq_true p208
                      replace q208 := eq_true q208
                      have q13 : ((ji9) : Int) ≤ (((rd_L12 y203 x12_1).length : Int) : Int) := of_decide_eq_true (by first | (with_reducible assumption) | assumption)
                      obtain ⟨i013, hi013, _, hsz13, _⟩ := info_parts info133
                      have hroom13 : (rd_L12 y203 x12_1).length ≤ c208_0 := HC208_0.out
                      have hC13 : Kd.F k133 _ _ A208_0 (rd_L12 y203 x12_1).length (rd_L12 y203 x12_1) := (Kd.V_at (base := w.heap.size) HL208_0.out).2.2
                      have hcut13 := cut_to (P := Try.prog) 92 133 .i64 Try.underlying92 hi013 A208_0 (rd_L12 y203 x12_1).length c208_0 (ji9) (of_decide_eq_true (by first | (with_reducible assumption) | assumption)) q13 hroom13
                      have hr13 := Kd.F_take (m := ((ji9) : Int).toNat) hC13 (by omega)
                      have hy13 : y209.length = ((ji9) : Int).toNat := (by rw [Ny209.out, List.length_take]; omega)
                      rw [← Ny209.out] at hr13
                      rw [← hy13] at hcut13
                      have HO213 := Aside0.mk (show Kd.V k133 133 _ w.heap.size _ (.slice A208_0 y209.length c208_0) y209 from Kd.V_mk (by omega) hr13)
                      have HC213 := Aside0.mk (show y209.length ≤ c208_0 from by omega)
                      clear hr13 hC13 hroom13 hi013 hsz13
                      have KY13 := Aside0.mk hy13
                      clear hy13
                      replace q13 := eq_true q13
                      go_wp2_with (first | ((with_reducible refine gate_builtin (b := .append) (xs := #[.tmp 16, .tmp 22]) rfl ?_); at_builtin; refine Kd.N_append (Kd.slice 133 k133) (w0 := w) w.heap.size rfl (.tmp 16) (.tmp 22) 22 92 (.slice none 0 0) 24 rfl Try.underlying22 info92 rfl (by decide) (by omega) u3 x3_1 y209 [.slice A208_0 y209.length c208_0] (fun k_ => (P0_ k_ ∨ w.heap.size ≤ k_)) (fun k_ => ((fun k_ => (P0_ k_ ∨ w.heap.size ≤ k_))) k_ ∧ some k_ ≠ (u3 : Value).ownBlock) rfl rfl ?aP (fun _ hk => hk) ?aF ?aO ?aB ?aS ?aL ?_; (case aP => exact (Kd.FK_slice_mk (Kd.V_reads' (Kd.V_mono (ok' := (fun k_ => ((fun k_ => (P0_ k_ ∨ w.heap.size ≤ k_))) k_ ∧ some k_ ≠ (u3 : Value).ownBlock)) (HO213.out) (fun k_ hk => ⟨hk.1, hk.2⟩))).2.1 (Kd.V_F (Kd.V_mono (ok' := (fun k_ => ((fun k_ => (P0_ k_ ∨ w.heap.size ≤ k_))) k_ ∧ some k_ ≠ (u3 : Value).ownBlock)) (HO213.out) (fun k_ hk => ⟨hk.1, hk.2⟩))))); (case aB => exact (by repeat (first | (with_reducible first | exact HB.out | apply below_alloc | apply pw_below_drewN | apply below_drew1) | exact HB.out))); (case aF => exact (fun k_ hk => (.inr (Nat.le_trans (below_size (by repeat (first | (with_reducible first | exact HB.out | apply below_alloc | apply pw_below_drewN | apply below_drew1) | exact HB.out))) hk)))); (case aO => exact (by (with_reducible repeat (first | apply Kd.N_alloc | apply Kd.N_drewN | apply Kd.N_drew)); exact HO_3.out)); (case aS => exact (below_size (by repeat (first | (with_reducible first | exact HB.out | apply below_alloc | apply pw_below_drewN | apply below_drew1) | exact HB.out)))); (case aL => have := LMc12.out; omega); intro v215 w14 ho hb hg hat; rw [← Ny214.out] at ho; have n0_ := Aside0.mk (Kd.V_afterv (ok := (fun k_ => (P0_ k_ ∨ w.heap.size ≤ k_))) (by (with_reducible repeat (first | apply Kd.V_alloc | apply Kd.V_drewN | apply Kd.V_drew)); exact HO_10.out) hg hat); have n1_ := Aside0.mk (Kd.V_afterv (ok := (fun k_ => (P0_ k_ ∨ w.heap.size ≤ k_))) (by (with_reducible repeat (first | apply Kd.V_alloc | apply Kd.V_drewN | apply Kd.V_drew)); exact HL208_0.out) hg hat); have n2_ := Aside0.mk (Kd.V_afterv (ok := (fun k_ => (P0_ k_ ∨ w.heap.size ≤ k_))) (by (with_reducible repeat (first | apply Kd.V_alloc | apply Kd.V_drewN | apply Kd.V_drew)); exact HO213.out) hg hat); have n3_ := Aside0.mk (hb); have n4_ := Aside0.mk (ho); clear HO_10; clear HL208_0; clear HO213; clear HB; clear HO_3; have HO_10 := n0_; have HL208_0 := n1_; have HO213 := n2_; have HB := n3_; have HO216 := n4_; clear n0_ n1_ n2_ n3_ n4_; clear ho hb hg hat))
                      go_roundg k1
                      case measure => have := HK1.out; omega
                      case rel => exact ⟨(y214), (wrap64 (x12_1 + 1)), (by first | rfl | (simp; done) | (simp [*]; done)), H', ⟨by have := HK1.out; omega⟩, ⟨by (with_reducible repeat (first | apply Kd.N_alloc | apply Kd.N_drewN | apply Kd.N_drew)); exact HO216.out⟩, ⟨by (with_reducible repeat (first | apply Kd.V_alloc | apply Kd.V_drewN | apply Kd.V_drew)); exact HO_10.out⟩, ⟨by repeat (first | (with_reducible first | exact HB.out | apply below_alloc | apply pw_below_drewN | apply below_drew1) | exact HB.out)⟩⟩
                    · rw [if_neg c12] at H
                      exact absurd H (by simp)
                  · rw [if_neg c11] at H
                    exact absurd H (by simp)
                · rw [if_neg c10] at H
                  exact absurd H (by simp)
              · rw [if_neg c8] at H
                exact absurd H (by simp)
            · rw [if_neg c7] at H
              exact absurd H (by simp)
          · rw [if_neg c6] at H
            have c6b0 : decide (x12_1 < (y203.length : Int)) = false := decide_eq_false c6
            clear c6
            replace H := Option.bind_eq_some_iff.mp H
            obtain ⟨t217, A150, H⟩ := H
            replace H : ((path_All.f k1 t217).bind fun t220 => ((flat_All.f k1 t220).bind fun t223 => (some t223))) = some r := H
            have A15 := Aside0.mk A150
            clear A150
            replace H := Option.bind_eq_some_iff.mp H
            obtain ⟨t220, A160, H⟩ := H
            replace H : ((flat_All.f k1 t220).bind fun t223 => (some t223)) = some r := H
            have A16 := Aside0.mk A160
            clear A160
            replace H := Option.bind_eq_some_iff.mp H
            obtain ⟨t223, A170, H⟩ := H
            replace H : (some t223) = some r := H
            have A17 := Aside0.mk A170
            clear A170
            obtain rfl := Option.some.inj H
            obtain ⟨Ao18, co18, eo18⟩ := Kd.N_slice HO_3.out
            subst eo18
            go_wp2_with (first | ((with_reducible refine gate_callee (f := 57) rfl ?_); refine goesL_ (some 26) rfl rfl Try.func57 (by kernel_rfl) rfl #[.slice Ao18 x3_1.length co18] rfl (by (try simp only [List.map_toArray, List.map_cons, List.map_nil]); first | done | rfl | (simp only [List.length_drop, List.length_take]; rfl)) ?_; (with_reducible refine (punchcutlaw04_Outline.calls k1 _ _ x3_1 t217 _ ?side1 ?side2 A15.out).mono ?_); (case side1 => repeat (first | exact (Kd.N_reads' HO_3.out).2.2 | (with_reducible refine Kd.C_alloc ?_ _) | (with_reducible refine Kd.C_drewN ?_ _) | (with_reducible refine Kd.C_drew ?_))); (case side2 => exact (Kd.N_reads' HO_3.out).2.1); rintro e w19 ⟨v218, rfl, ho0, hb⟩; refine ⟨_, rfl, ?_⟩; have n0_ := Aside0.mk (Kd.N_elder' (by (with_reducible repeat (first | apply Kd.N_alloc | apply Kd.N_drewN | apply Kd.N_drew)); exact HO_3.out) (Kd.S_base ho0) hb); have n1_ := Aside0.mk (Kd.V_elder' (by (with_reducible repeat (first | apply Kd.V_alloc | apply Kd.V_drewN | apply Kd.V_drew)); exact HO_10.out) (Kd.S_base ho0) hb); have n2_ := Aside0.mk (Kd.N_lower (Kd.N_mono (ok' := fun k_ => (P0_ k_ ∨ w.heap.size ≤ k_) ∧ some k_ ≠ (.slice Ao18 x3_1.length co18 : Value).ownBlock) (Kd.S_N (Kd.S_bound ho0)) (fun k_ hk_ => ⟨(.inr (Nat.le_trans (below_size (by repeat (first | (with_reducible first | exact HB.out | apply below_alloc | apply pw_below_drewN | apply below_drew1) | exact HB.out))) hk_.2.1)), (Kd.fresh' (Kd.N_lt (by (with_reducible repeat (first | apply Kd.N_alloc | apply Kd.N_drewN | apply Kd.N_drew)); exact HO_3.out)) k_ hk_.2.1)⟩)) (below_size (by repeat (first | (with_reducible first | exact HB.out | apply below_alloc | apply pw_below_drewN | apply below_drew1) | exact HB.out)))); have n3_ := Aside0.mk (below_step (by repeat (first | (with_reducible first | exact HB.out | apply below_alloc | apply pw_below_drewN | apply below_drew1) | exact HB.out)) hb); clear HO_3; clear HO_10; clear HB; have HO_3 := n0_; have HO_10 := n1_; have HO219 := n2_; have HB := n3_; clear n0_ n1_ n2_ n3_; (try clear hb); (try clear hb2); (try clear hk); (try clear hi); (try clear ho0); obtain ⟨Ao20, co20, eo20⟩ := Kd.N_slice HO219.out; subst eo20) | ((with_reducible refine gate_callee (f := 56) rfl ?_); refine goesL_ (some 27) rfl rfl Try.func56 (by kernel_rfl) rfl #[.agg #[.slice Ao20 t217.length co20]] rfl (by (try simp only [List.map_toArray, List.map_cons, List.map_nil]); first | done | rfl | (simp only [List.length_drop, List.length_take]; rfl)) ?_; (with_reducible refine (path_All.calls k1 _ _ t217 t220 _ ?side1 ?side2 A16.out).mono ?_); (case side1 => repeat (first | exact (Kd.N_reads' HO219.out).2.2 | (with_reducible refine Kd.C_alloc ?_ _) | (with_reducible refine Kd.C_drewN ?_ _) | (with_reducible refine Kd.C_drew ?_))); (case side2 => exact (Kd.N_reads' HO219.out).2.1); rintro e w21 ⟨v221, rfl, ho0, hb⟩; refine ⟨_, rfl, ?_⟩; have n0_ := Aside0.mk (Kd.N_elder' (by (with_reducible repeat (first | apply Kd.N_alloc | apply Kd.N_drewN | apply Kd.N_drew)); exact HO_3.out) (Kd.S_base ho0) hb); have n1_ := Aside0.mk (Kd.V_elder' (by (with_reducible repeat (first | apply Kd.V_alloc | apply Kd.V_drewN | apply Kd.V_drew)); exact HO_10.out) (Kd.S_base ho0) hb); have n2_ := Aside0.mk (Kd.N_elder' (by (with_reducible repeat (first | apply Kd.N_alloc | apply Kd.N_drewN | apply Kd.N_drew)); exact HO219.out) (Kd.S_base ho0) hb); have n3_ := Aside0.mk (Kd.N_lower (Kd.N_mono (ok' := fun k_ => (P0_ k_ ∨ w.heap.size ≤ k_) ∧ some k_ ≠ (.slice Ao18 x3_1.length co18 : Value).ownBlock ∧ some k_ ≠ (.slice Ao20 t217.length co20 : Value).ownBlock) (Kd.S_N (Kd.S_bound ho0)) (fun k_ hk_ => ⟨(.inr (Nat.le_trans (below_size (by repeat (first | (with_reducible first | exact HB.out | apply below_alloc | apply pw_below_drewN | apply below_drew1) | exact HB.out))) hk_.2.1)), (Kd.fresh' (Kd.N_lt (by (with_reducible repeat (first | apply Kd.N_alloc | apply Kd.N_drewN | apply Kd.N_drew)); exact HO_3.out)) k_ hk_.2.1), (Kd.fresh' (Kd.N_lt (by (with_reducible repeat (first | apply Kd.N_alloc | apply Kd.N_drewN | apply Kd.N_drew)); exact HO219.out)) k_ hk_.2.1)⟩)) (below_size (by repeat (first | (with_reducible first | exact HB.out | apply below_alloc | apply pw_below_drewN | apply below_drew1) | exact HB.out)))); have n4_ := Aside0.mk (below_step (by repeat (first | (with_reducible first | exact HB.out | apply below_alloc | apply pw_below_drewN | apply below_drew1) | exact HB.out)) hb); clear HO_3; clear HO_10; clear HO219; clear HB; have HO_3 := n0_; have HO_10 := n1_; have HO219 := n2_; have HO222 := n3_; have HB := n4_; clear n0_ n1_ n2_ n3_ n4_; (try clear hb); (try clear hb2); (try clear hk); (try clear hi); (try clear ho0); obtain ⟨Ao22, co22, eo22⟩ := Kd.N_slice HO222.out; subst eo22) | ((with_reducible refine gate_callee (f := 55) rfl ?_); refine goesL_ (some 28) rfl rfl Try.func55 (by kernel_rfl) rfl #[.slice Ao22 t220.length co22] rfl (by (try simp only [List.map_toArray, List.map_cons, List.map_nil]); first | done | rfl | (simp only [List.length_drop, List.length_take]; rfl)) ?_; (with_reducible refine (flat_All.calls k1 _ _ t220 t223 _ ?side1 ?side2 A17.out).mono ?_); (case side1 => repeat (first | exact (Kd.N_reads' HO222.out).2.2 | (with_reducible refine Kd.C_alloc ?_ _) | (with_reducible refine Kd.C_drewN ?_ _) | (with_reducible refine Kd.C_drew ?_))); (case side2 => exact (Kd.N_reads' HO222.out).2.1); rintro e w23 ⟨v224, rfl, ho0, hb⟩; refine ⟨_, rfl, ?_⟩; have n0_ := Aside0.mk (Kd.N_elder' (by (with_reducible repeat (first | apply Kd.N_alloc | apply Kd.N_drewN | apply Kd.N_drew)); exact HO_3.out) (Kd.R_base ho0) hb); have n1_ := Aside0.mk (Kd.V_elder' (by (with_reducible repeat (first | apply Kd.V_alloc | apply Kd.V_drewN | apply Kd.V_drew)); exact HO_10.out) (Kd.R_base ho0) hb); have n2_ := Aside0.mk (Kd.N_elder' (by (with_reducible repeat (first | apply Kd.N_alloc | apply Kd.N_drewN | apply Kd.N_drew)); exact HO219.out) (Kd.R_base ho0) hb); have n3_ := Aside0.mk (Kd.N_elder' (by (with_reducible repeat (first | apply Kd.N_alloc | apply Kd.N_drewN | apply Kd.N_drew)); exact HO222.out) (Kd.R_base ho0) hb); have n4_ := Aside0.mk (Kd.R_lower (Kd.R_newM (M := fun k_ => (w.heap.size ≤ k_)) ho0 (below_size (by repeat (first | (with_reducible first | exact HB.out | apply below_alloc | apply pw_below_drewN | apply below_drew1) | exact HB.out))) (fun k_ h_ => h_)) (below_size (by repeat (first | (with_reducible first | exact HB.out | apply below_alloc | apply pw_below_drewN | apply below_drew1) | exact HB.out)))); have n5_ := Aside0.mk (below_step (by repeat (first | (with_reducible first | exact HB.out | apply below_alloc | apply pw_below_drewN | apply below_drew1) | exact HB.out)) hb); clear HO_3; clear HO_10; clear HO219; clear HO222; clear HB; have HO_3 := n0_; have HO_10 := n1_; have HO219 := n2_; have HO222 := n3_; have HO225 := n4_; have HB := n5_; clear n0_ n1_ n2_ n3_ n4_ n5_; (try clear hb); (try clear hb2); (try clear hk); (try clear hi); (try clear ho0)))
            go_ret
            exact ⟨_, by first | rfl | (simp [errW_none, errW_some] <;> rfl) | (simp only [← hji2]; first | rfl | (simp [errW_none, errW_some] <;> rfl)) | (simp [*, errW_none, errW_some] <;> rfl), by (with_reducible repeat (first | apply Kd.R_alloc | apply Kd.R_drewN | apply Kd.R_drew)); exact Kd.R_mono HO225.out (fun _ hk => hk.1), by repeat (first | (with_reducible first | exact HB.out | apply below_alloc | apply pw_below_drewN | apply below_drew1) | exact HB.out)⟩
    · rw [if_neg c4] at H
      exact absurd H (by simp)
  · rw [if_neg c3] at H
    exact absurd H (by simp)
end Go.Proofs.Ytlljpjbhndcaiaa.Q
end
section
namespace Go.Proofs.Ytlljpjbhndcaiaa.Q
open Go.RowKit Go.Proofs.YtlljpjbhndcaiaaW.PrintWords Go.Proofs.YtlljpjbhndcaiaaW.PrintLast Go.Proofs.YtlljpjbhndcaiaaW.PrintMore
attribute [local go_sem] max2_int min2_int max_two min_two max_three min_three max_four min_four
set_option linter.unusedVariables false
set_option linter.unusedSimpArgs false
def punchcutlaw09_Spec_Grid.f (a0_0 : Int) (a0_1 : Int) (a0_2 : Int) (a0_3 : Int) (a0_4 : Int) (a0_5 : Int) : Option (Int × Int × Int × Int × Int × Int) := some (wrap64 ((wrap64 (a0_0)) - 128), wrap64 ((wrap64 (a0_1)) - 128), wrap64 (1 + (wrap64 (Int.tmod a0_2 16))), wrap64 (1 + (wrap64 (Int.tmod a0_3 10))), wrap64 (1 + (wrap64 (Int.tmod a0_4 10))), wrap64 (1 + (wrap64 (Int.tmod a0_5 64))))
set_option maxHeartbeats 8000000 in
set_option maxRecDepth 100000 in
theorem punchcutlaw09_Spec_Grid.calls (a0_0 : Int) (a0_1 : Int) (a0_2 : Int) (a0_3 : Int) (a0_4 : Int) (a0_5 : Int) (r1 : Int) (r2 : Int) (r3 : Int) (r4 : Int) (r5 : Int) (r6 : Int) (w : World) (h : punchcutlaw09_Spec_Grid.f a0_0 a0_1 a0_2 a0_3 a0_4 a0_5 = some (r1, r2, r3, r4, r5, r6)) :
    Calls Try.prog 30 #[.agg #[.int .u8 a0_0, .int .u8 a0_1, .int .u8 a0_2, .int .u8 a0_3, .int .u8 a0_4, .int .u8 a0_5]] w fun e w' => e = .returned (.agg #[.int .i64 r1, .int .i64 r2, .int .i64 r3, .int .i64 r4, .int .i64 r5, .int .i64 r6]) ∧ Below w.heap.size w w' := by
  have hu50 := Try.underlying50
  have hu53 := Try.underlying53
  have HB := Aside0.mk (Below.refl w.heap.size w)
  have H : (some (wrap64 ((wrap64 (a0_0)) - 128), wrap64 ((wrap64 (a0_1)) - 128), wrap64 (1 + (wrap64 (Int.tmod a0_2 16))), wrap64 (1 + (wrap64 (Int.tmod a0_3 10))), wrap64 (1 + (wrap64 (Int.tmod a0_4 10))), wrap64 (1 + (wrap64 (Int.tmod a0_5 64))))) = some (r1, r2, r3, r4, r5, r6) := h
  clear h
  simp only [Option.some.injEq, Prod.mk.injEq] at H
  obtain ⟨rfl, rfl, rfl, rfl, rfl, rfl⟩ := H
  go_enter Try.func30, Try.ntmps30
  go_wp2_with (first | ((with_reducible refine gate_dst (N := 1) rfl ?_); refine box_event ?hg (N := 1) ?hd (cs := #[.int .u8 a0_0, .int .u8 a0_1, .int .u8 a0_2, .int .u8 a0_3, .int .u8 a0_4, .int .u8 a0_5]) (t := 50) ?hr ?_; (case hd => rfl); (case hg => rfl); (case hr => first | (go_simp; done) | (go_simp; rfl)); intro gb231 hg w2 hbox hb; have n0_ := Aside0.mk (below_step (by repeat (first | (with_reducible first | exact HB.out | apply below_alloc | apply pw_below_drewN | apply below_drew1) | exact HB.out)) hb); have n1_ := Aside0.mk (hbox); have n2_ := Aside0.mk ((by rw [hg]; exact (below_size (by repeat (first | (with_reducible first | exact HB.out | apply below_alloc | apply pw_below_drewN | apply below_drew1) | exact HB.out))) : w.heap.size ≤ gb231)); have n3_ := Aside0.mk ((by rw [hg]; exact (below_size (by repeat (first | (with_reducible first | exact HB.out | apply below_alloc | apply pw_below_drewN | apply below_drew1) | exact HB.out))) : w.heap.size ≤ gb231)); clear HB; have HB := n0_; have BK231 := n1_; have GW231 := n2_; have GE231 := n3_; clear n0_ n1_ n2_ n3_; clear hb hbox hg) | ((with_reducible refine gate_dst (N := 2) rfl ?_); refine box_event ?hg (N := 2) ?hd (cs := #[.int .i64 0, .int .i64 0, .int .i64 0, .int .i64 0, .int .i64 0, .int .i64 0]) (t := 53) ?hr ?_; (case hd => rfl); (case hg => rfl); (case hr => first | (go_simp; done) | (go_simp; rfl)); intro gb232 hg w3 hbox hb; have n0_ := Aside0.mk (blk_below (g := gb231) (o := .cells #[.int .u8 a0_0, .int .u8 a0_1, .int .u8 a0_2, .int .u8 a0_3, .int .u8 a0_4, .int .u8 a0_5] 50 (0, 0)) (by (with_reducible repeat (first | refine blk_drewN ?_ _ | refine blk_drew ?_ | refine blk_alloc ?_ _)); exact BK231.out) hb); have n1_ := Aside0.mk (below_step (by repeat (first | (with_reducible first | exact HB.out | apply below_alloc | apply pw_below_drewN | apply below_drew1 | refine below_set ?_ GE231.out) | exact HB.out)) hb); have n2_ := Aside0.mk (hbox); have n3_ := Aside0.mk ((by rw [hg]; exact (below_size (by repeat (first | (with_reducible first | exact HB.out | apply below_alloc | apply pw_below_drewN | apply below_drew1 | refine below_set ?_ GE231.out) | exact HB.out))) : w.heap.size ≤ gb232)); have n4_ := Aside0.mk ((by rw [hg]; exact (below_size (by repeat (first | (with_reducible first | exact HB.out | apply below_alloc | apply pw_below_drewN | apply below_drew1 | refine below_set ?_ GE231.out) | exact HB.out))) : w.heap.size ≤ gb232)); have n5_ := Aside0.mk ((by rw [hg]; exact Nat.ne_of_lt (blk_lt (g := gb231) (o := .cells #[.int .u8 a0_0, .int .u8 a0_1, .int .u8 a0_2, .int .u8 a0_3, .int .u8 a0_4, .int .u8 a0_5] 50 (0, 0)) (by (with_reducible repeat (first | refine blk_drewN ?_ _ | refine blk_drew ?_ | refine blk_alloc ?_ _)); exact BK231.out)) : gb231 ≠ gb232)); have n6_ := Aside0.mk ((by rw [hg]; exact Nat.ne_of_gt (blk_lt (g := gb231) (o := .cells #[.int .u8 a0_0, .int .u8 a0_1, .int .u8 a0_2, .int .u8 a0_3, .int .u8 a0_4, .int .u8 a0_5] 50 (0, 0)) (by (with_reducible repeat (first | refine blk_drewN ?_ _ | refine blk_drew ?_ | refine blk_alloc ?_ _)); exact BK231.out)) : gb232 ≠ gb231)); clear BK231; clear HB; have BK231 := n0_; have HB := n1_; have BK232 := n2_; have GW232 := n3_; have GE232 := n4_; have NB231_232 := n5_; have NB232_231 := n6_; clear n0_ n1_ n2_ n3_ n4_ n5_ n6_; clear hb hbox hg; have hnb4 := NB231_232.out; have hnc4 := NB232_231.out; have hcz5_0 : w3.cell? ⟨gb231, 0, none⟩ = some (.int .u8 a0_0) := (blk_cell BK231.out 0).trans rfl; have hcz5_1 : w3.cell? ⟨gb231, 1, none⟩ = some (.int .u8 a0_1) := (blk_cell BK231.out 1).trans rfl; have hcz5_2 : w3.cell? ⟨gb231, 2, none⟩ = some (.int .u8 a0_2) := (blk_cell BK231.out 2).trans rfl; have hcz5_3 : w3.cell? ⟨gb231, 3, none⟩ = some (.int .u8 a0_3) := (blk_cell BK231.out 3).trans rfl; have hcz5_4 : w3.cell? ⟨gb231, 4, none⟩ = some (.int .u8 a0_4) := (blk_cell BK231.out 4).trans rfl; have hcz5_5 : w3.cell? ⟨gb231, 5, none⟩ = some (.int .u8 a0_5) := (blk_cell BK231.out 5).trans rfl; have hfz5_0 := blk_frozen BK231.out 0; have hfz5_1 := blk_frozen BK231.out 1; have hfz5_2 := blk_frozen BK231.out 2; have hfz5_3 := blk_frozen BK231.out 3; have hfz5_4 := blk_frozen BK231.out 4; have hfz5_5 := blk_frozen BK231.out 5; have hcz6_0 : w3.cell? ⟨gb232, 0, none⟩ = some (.int .i64 0) := (blk_cell BK232.out 0).trans rfl; have hcz6_1 : w3.cell? ⟨gb232, 1, none⟩ = some (.int .i64 0) := (blk_cell BK232.out 1).trans rfl; have hcz6_2 : w3.cell? ⟨gb232, 2, none⟩ = some (.int .i64 0) := (blk_cell BK232.out 2).trans rfl; have hcz6_3 : w3.cell? ⟨gb232, 3, none⟩ = some (.int .i64 0) := (blk_cell BK232.out 3).trans rfl; have hcz6_4 : w3.cell? ⟨gb232, 4, none⟩ = some (.int .i64 0) := (blk_cell BK232.out 4).trans rfl; have hcz6_5 : w3.cell? ⟨gb232, 5, none⟩ = some (.int .i64 0) := (blk_cell BK232.out 5).trans rfl; have hfz6_0 := blk_frozen BK232.out 0; have hfz6_1 := blk_frozen BK232.out 1; have hfz6_2 := blk_frozen BK232.out 2; have hfz6_3 := blk_frozen BK232.out 3; have hfz6_4 := blk_frozen BK232.out 4; have hfz6_5 := blk_frozen BK232.out 5))
  refine bodyPost_ret (results_cell_row rfl _ _ gb232 53 #[.int .i64 (wrap64 ((wrap64 (a0_0)) - 128)), .int .i64 (wrap64 ((wrap64 (a0_1)) - 128)), .int .i64 (wrap64 (1 + (wrap64 (Int.tmod a0_2 16)))), .int .i64 (wrap64 (1 + (wrap64 (Int.tmod a0_3 10)))), .int .i64 (wrap64 (1 + (wrap64 (Int.tmod a0_4 10)))), .int .i64 (wrap64 (1 + (wrap64 (Int.tmod a0_5 64))))] (0, 0) _ rfl (by (with_reducible repeat (first | refine blk_drewN ?_ _ | refine blk_drew ?_ | refine blk_alloc ?_ _)); refine blk_put (cs := #[.int .i64 (wrap64 ((wrap64 (a0_0)) - 128)), .int .i64 (wrap64 ((wrap64 (a0_1)) - 128)), .int .i64 (wrap64 (1 + (wrap64 (Int.tmod a0_2 16)))), .int .i64 (wrap64 (1 + (wrap64 (Int.tmod a0_3 10)))), .int .i64 (wrap64 (1 + (wrap64 (Int.tmod a0_4 10)))), .int .i64 0]) ?_ 5 _ rfl; (with_reducible repeat (first | refine blk_drewN ?_ _ | refine blk_drew ?_ | refine blk_alloc ?_ _)); refine blk_put (cs := #[.int .i64 (wrap64 ((wrap64 (a0_0)) - 128)), .int .i64 (wrap64 ((wrap64 (a0_1)) - 128)), .int .i64 (wrap64 (1 + (wrap64 (Int.tmod a0_2 16)))), .int .i64 (wrap64 (1 + (wrap64 (Int.tmod a0_3 10)))), .int .i64 0, .int .i64 0]) ?_ 4 _ rfl; (with_reducible repeat (first | refine blk_drewN ?_ _ | refine blk_drew ?_ | refine blk_alloc ?_ _)); refine blk_put (cs := #[.int .i64 (wrap64 ((wrap64 (a0_0)) - 128)), .int .i64 (wrap64 ((wrap64 (a0_1)) - 128)), .int .i64 (wrap64 (1 + (wrap64 (Int.tmod a0_2 16)))), .int .i64 0, .int .i64 0, .int .i64 0]) ?_ 3 _ rfl; (with_reducible repeat (first | refine blk_drewN ?_ _ | refine blk_drew ?_ | refine blk_alloc ?_ _)); refine blk_put (cs := #[.int .i64 (wrap64 ((wrap64 (a0_0)) - 128)), .int .i64 (wrap64 ((wrap64 (a0_1)) - 128)), .int .i64 0, .int .i64 0, .int .i64 0, .int .i64 0]) ?_ 2 _ rfl; (with_reducible repeat (first | refine blk_drewN ?_ _ | refine blk_drew ?_ | refine blk_alloc ?_ _)); refine blk_put (cs := #[.int .i64 (wrap64 ((wrap64 (a0_0)) - 128)), .int .i64 0, .int .i64 0, .int .i64 0, .int .i64 0, .int .i64 0]) ?_ 1 _ rfl; (with_reducible repeat (first | refine blk_drewN ?_ _ | refine blk_drew ?_ | refine blk_alloc ?_ _)); refine blk_put (cs := #[.int .i64 0, .int .i64 0, .int .i64 0, .int .i64 0, .int .i64 0, .int .i64 0]) ?_ 0 _ rfl; (with_reducible repeat (first | refine blk_drewN ?_ _ | refine blk_drew ?_ | refine blk_alloc ?_ _)); exact BK232.out) Try.underlying53 rfl (by kernel_rfl)) rfl ?_
  exact ⟨by first | rfl | (simp [errW_none, errW_some] <;> rfl) | (simp [*, errW_none, errW_some] <;> rfl), by repeat (first | (with_reducible first | exact HB.out | apply below_alloc | apply pw_below_drewN | apply below_drew1 | refine below_set ?_ GE231.out | refine below_set ?_ GE232.out) | exact HB.out)⟩
end Go.Proofs.Ytlljpjbhndcaiaa.Q
end
section
namespace Go.Proofs.Ytlljpjbhndcaiaa.Q
open Go.RowKit Go.Proofs.YtlljpjbhndcaiaaW.PrintWords Go.Proofs.YtlljpjbhndcaiaaW.PrintLast Go.Proofs.YtlljpjbhndcaiaaW.PrintMore
attribute [local go_sem] max2_int min2_int max_two min_two max_three min_three max_four min_four
set_option linter.unusedVariables false
set_option linter.unusedSimpArgs false
def wide_Mul.f (a0 : Int) (a1 : Int) : Option (Int × Int) := some (IntKind.u64.wrap ((IntKind.u64.wrap ((IntKind.u64.wrap ((IntKind.u64.wrap ((a0 / 4294967296) * (a1 / 4294967296))) + ((IntKind.u64.wrap ((a0 / 4294967296) * (Go.bits .and .u64 a1 4294967295))) / 4294967296))) + ((IntKind.u64.wrap ((Go.bits .and .u64 a0 4294967295) * (a1 / 4294967296))) / 4294967296))) + ((IntKind.u64.wrap ((IntKind.u64.wrap (((IntKind.u64.wrap ((Go.bits .and .u64 a0 4294967295) * (Go.bits .and .u64 a1 4294967295))) / 4294967296) + (Go.bits .and .u64 (IntKind.u64.wrap ((a0 / 4294967296) * (Go.bits .and .u64 a1 4294967295))) 4294967295))) + (Go.bits .and .u64 (IntKind.u64.wrap ((Go.bits .and .u64 a0 4294967295) * (a1 / 4294967296))) 4294967295))) / 4294967296)), IntKind.u64.wrap (a0 * a1))
set_option maxHeartbeats 8000000 in
set_option maxRecDepth 100000 in
theorem wide_Mul.calls (a0 : Int) (a1 : Int) (r1 : Int) (r2 : Int) (w : World) (h : wide_Mul.f a0 a1 = some (r1, r2)) :
    Calls Try.prog 78 #[.int .u64 a0, .int .u64 a1] w fun e w' => e = .returned (.agg #[.int .u64 r1, .int .u64 r2]) ∧ Below w.heap.size w w' := by
  have hu125 := Try.underlying125
  have HB := Aside0.mk (Below.refl w.heap.size w)
  have H : (some (IntKind.u64.wrap ((IntKind.u64.wrap ((IntKind.u64.wrap ((IntKind.u64.wrap ((a0 / 4294967296) * (a1 / 4294967296))) + ((IntKind.u64.wrap ((a0 / 4294967296) * (Go.bits .and .u64 a1 4294967295))) / 4294967296))) + ((IntKind.u64.wrap ((Go.bits .and .u64 a0 4294967295) * (a1 / 4294967296))) / 4294967296))) + ((IntKind.u64.wrap ((IntKind.u64.wrap (((IntKind.u64.wrap ((Go.bits .and .u64 a0 4294967295) * (Go.bits .and .u64 a1 4294967295))) / 4294967296) + (Go.bits .and .u64 (IntKind.u64.wrap ((a0 / 4294967296) * (Go.bits .and .u64 a1 4294967295))) 4294967295))) + (Go.bits .and .u64 (IntKind.u64.wrap ((Go.bits .and .u64 a0 4294967295) * (a1 / 4294967296))) 4294967295))) / 4294967296)), IntKind.u64.wrap (a0 * a1))) = some (r1, r2) := h
  clear h
  simp only [Option.some.injEq, Prod.mk.injEq] at H
  obtain ⟨rfl, rfl⟩ := H
  go_enter Try.func78, Try.ntmps78
  go_wp2_with (first | ((with_reducible refine gate_dst (N := 4) rfl ?_); refine box_event ?hg (N := 4) ?hd (cs := #[.int .u64 0, .int .u64 0]) (t := 125) ?hr ?_; (case hd => rfl); (case hg => rfl); (case hr => first | (go_simp; done) | (go_simp; rfl)); intro gb101 hg w3 hbox hb; have n0_ := Aside0.mk (below_step (by repeat (first | (with_reducible first | exact HB.out | apply below_alloc | apply pw_below_drewN | apply below_drew1) | exact HB.out)) hb); have n1_ := Aside0.mk (hbox); have n2_ := Aside0.mk ((by rw [hg]; exact (below_size (by repeat (first | (with_reducible first | exact HB.out | apply below_alloc | apply pw_below_drewN | apply below_drew1) | exact HB.out))) : w.heap.size ≤ gb101)); have n3_ := Aside0.mk ((by rw [hg]; exact (below_size (by repeat (first | (with_reducible first | exact HB.out | apply below_alloc | apply pw_below_drewN | apply below_drew1) | exact HB.out))) : w.heap.size ≤ gb101)); clear HB; have HB := n0_; have BK101 := n1_; have GW101 := n2_; have GE101 := n3_; clear n0_ n1_ n2_ n3_; clear hb hbox hg; have hcz4_0 : w3.cell? ⟨gb101, 0, none⟩ = some (.int .u64 0) := (blk_cell BK101.out 0).trans rfl; have hcz4_1 : w3.cell? ⟨gb101, 1, none⟩ = some (.int .u64 0) := (blk_cell BK101.out 1).trans rfl; have hfz4_0 := blk_frozen BK101.out 0; have hfz4_1 := blk_frozen BK101.out 1))
  refine bodyPost_ret (results_cell_row rfl _ _ gb101 125 #[.int .u64 (IntKind.u64.wrap ((IntKind.u64.wrap ((IntKind.u64.wrap ((IntKind.u64.wrap ((a0 / 4294967296) * (a1 / 4294967296))) + ((IntKind.u64.wrap ((a0 / 4294967296) * (Go.bits .and .u64 a1 4294967295))) / 4294967296))) + ((IntKind.u64.wrap ((Go.bits .and .u64 a0 4294967295) * (a1 / 4294967296))) / 4294967296))) + ((IntKind.u64.wrap ((IntKind.u64.wrap (((IntKind.u64.wrap ((Go.bits .and .u64 a0 4294967295) * (Go.bits .and .u64 a1 4294967295))) / 4294967296) + (Go.bits .and .u64 (IntKind.u64.wrap ((a0 / 4294967296) * (Go.bits .and .u64 a1 4294967295))) 4294967295))) + (Go.bits .and .u64 (IntKind.u64.wrap ((Go.bits .and .u64 a0 4294967295) * (a1 / 4294967296))) 4294967295))) / 4294967296))), .int .u64 (IntKind.u64.wrap (a0 * a1))] (0, 0) _ rfl (by (with_reducible repeat (first | refine blk_drewN ?_ _ | refine blk_drew ?_ | refine blk_alloc ?_ _)); refine blk_put (cs := #[.int .u64 (IntKind.u64.wrap ((IntKind.u64.wrap ((IntKind.u64.wrap ((IntKind.u64.wrap ((a0 / 4294967296) * (a1 / 4294967296))) + ((IntKind.u64.wrap ((a0 / 4294967296) * (Go.bits .and .u64 a1 4294967295))) / 4294967296))) + ((IntKind.u64.wrap ((Go.bits .and .u64 a0 4294967295) * (a1 / 4294967296))) / 4294967296))) + ((IntKind.u64.wrap ((IntKind.u64.wrap (((IntKind.u64.wrap ((Go.bits .and .u64 a0 4294967295) * (Go.bits .and .u64 a1 4294967295))) / 4294967296) + (Go.bits .and .u64 (IntKind.u64.wrap ((a0 / 4294967296) * (Go.bits .and .u64 a1 4294967295))) 4294967295))) + (Go.bits .and .u64 (IntKind.u64.wrap ((Go.bits .and .u64 a0 4294967295) * (a1 / 4294967296))) 4294967295))) / 4294967296))), .int .u64 0]) ?_ 1 _ rfl; (with_reducible repeat (first | refine blk_drewN ?_ _ | refine blk_drew ?_ | refine blk_alloc ?_ _)); refine blk_put (cs := #[.int .u64 0, .int .u64 0]) ?_ 0 _ rfl; (with_reducible repeat (first | refine blk_drewN ?_ _ | refine blk_drew ?_ | refine blk_alloc ?_ _)); exact BK101.out) Try.underlying125 rfl (by kernel_rfl)) rfl ?_
  exact ⟨by first | rfl | (simp [errW_none, errW_some] <;> rfl) | (simp [*, errW_none, errW_some] <;> rfl), by repeat (first | (with_reducible first | exact HB.out | apply below_alloc | apply pw_below_drewN | apply below_drew1 | refine below_set ?_ GE101.out) | exact HB.out)⟩
end Go.Proofs.Ytlljpjbhndcaiaa.Q
end
section
namespace Go.Proofs.Ytlljpjbhndcaiaa.Q
open Go.RowKit Go.Proofs.YtlljpjbhndcaiaaW.PrintWords Go.Proofs.YtlljpjbhndcaiaaW.PrintLast Go.Proofs.YtlljpjbhndcaiaaW.PrintMore
attribute [local go_sem] max2_int min2_int max_two min_two max_three min_three max_four min_four
set_option linter.unusedVariables false
set_option linter.unusedSimpArgs false
mutual
def root_Sqrt.l0 : Nat → Int → Int → Int → Option (Int)
  | 0, _, _, _ => none
  | k + 1, x0, x3, x4 => if x0 > 0 then (root_Sqrt.j1 k x0 x3 x4 (decide (x3 < (wrap64 (x4 - 1))))) else (root_Sqrt.j1 k x0 x3 x4 false)
def root_Sqrt.j1 : Nat → Int → Int → Int → Bool → Option (Int)
  | 0, _, _, _, _ => none
  | k + 1, x0, x3, x4, x13 => if x13 = true then (if (wrap64 ((wrap64 (Int.tdiv (wrap64 (x3 + x4)) 2)) * (wrap64 (Int.tdiv (wrap64 (x3 + x4)) 2)))) ≤ x0 then (root_Sqrt.l0 k x0 (wrap64 (Int.tdiv (wrap64 (x3 + x4)) 2)) x4) else (root_Sqrt.l0 k x0 x3 (wrap64 (Int.tdiv (wrap64 (x3 + x4)) 2)))) else (some x3)
end
def root_Sqrt.f (k : Nat) (a0 : Int) : Option (Int) := root_Sqrt.l0 k a0 0 3037000500
theorem root_Sqrt.mono_l : ∀ k, (∀ y0 y1 y2, LeO (root_Sqrt.l0 k y0 y1 y2) (root_Sqrt.l0 (k + 1) y0 y1 y2)) ∧ (∀ y0 y1 y2 y3, LeO (root_Sqrt.j1 k y0 y1 y2 y3) (root_Sqrt.j1 (k + 1) y0 y1 y2 y3))
  | 0 => ⟨fun _ _ _ r h => by simp [root_Sqrt.l0] at h, fun _ _ _ _ r h => by simp [root_Sqrt.j1] at h⟩
  | k + 1 => by
    obtain ⟨ih0, ih1⟩ := root_Sqrt.mono_l k
    refine ⟨?_, ?_⟩
    · intro y0 y1 y2
      unfold root_Sqrt.l0
      repeat' first
      | (with_reducible exact ih0 _ _ _)
      | (with_reducible exact ih1 _ _ _ _)
      | (with_reducible exact LeO.refl _)
      | (with_reducible exact LeO.none _)
      | (with_reducible refine LeO.ite ?_ ?_)
      | (with_reducible refine LeO.bind ?_ (fun _ => ?_))
      | exact ih0 _ _ _
      | exact ih1 _ _ _ _
      | exact LeO.none _
      | refine LeO.ite ?_ ?_
      | refine LeO.bind ?_ (fun _ => ?_)
    · intro y0 y1 y2 y3
      unfold root_Sqrt.j1
      repeat' first
      | (with_reducible exact ih0 _ _ _)
      | (with_reducible exact ih1 _ _ _ _)
      | (with_reducible exact LeO.refl _)
      | (with_reducible exact LeO.none _)
      | (with_reducible refine LeO.ite ?_ ?_)
      | (with_reducible refine LeO.bind ?_ (fun _ => ?_))
      | exact ih0 _ _ _
      | exact ih1 _ _ _ _
      | exact LeO.none _
      | refine LeO.ite ?_ ?_
      | refine LeO.bind ?_ (fun _ => ?_)
theorem root_Sqrt.mono : ∀ a0 k, LeO (root_Sqrt.f k a0) (root_Sqrt.f (k + 1) a0) := by
  intro a0 k
  obtain ⟨ih0, ih1⟩ := root_Sqrt.mono_l k
  unfold root_Sqrt.f
  repeat' first
      | (with_reducible exact ih0 _ _ _)
      | (with_reducible exact ih1 _ _ _ _)
      | (with_reducible exact LeO.refl _)
      | (with_reducible exact LeO.none _)
      | (with_reducible refine LeO.ite ?_ ?_)
      | (with_reducible refine LeO.bind ?_ (fun _ => ?_))
      | exact ih0 _ _ _
      | exact ih1 _ _ _ _
      | exact LeO.none _
      | refine LeO.ite ?_ ?_
      | refine LeO.bind ?_ (fun _ => ?_)
set_option maxHeartbeats 8000000 in
set_option maxRecDepth 100000 in
theorem root_Sqrt.calls (k : Nat) (a0 : Int) (r : Int) (w : World) (h : root_Sqrt.f k a0 = some r) :
    Calls Try.prog 27 #[.int .i64 a0] w fun e w' => e = .returned (.int .i64 r) ∧ Drawn0 w w' := by
  have H : (root_Sqrt.l0 k a0 0 3037000500) = some r := h
  clear h
  have H' := Aside0.mk H
  clear H
  go_enter Try.func27, Try.ntmps27
  go_wp2
  go_loopg [3, 4] k (fun kq v3 v4 w' => ∃ (x3_1 : Int) (x4_1 : Int), v3 = .int .i64 x3_1 ∧ v4 = .int .i64 x4_1 ∧ Aside0 (root_Sqrt.l0 kq a0 x3_1 x4_1 = some r) ∧ Aside0 (kq ≤ k) ∧ Drawn0 w w')
  case atStart => exact ⟨(0), (3037000500), (by first | rfl | (simp; done) | (simp [*]; done)), (by first | rfl | (simp; done) | (simp [*]; done)), H', ⟨Nat.le_refl _⟩, by repeat (first | exact Drawn0.refl _ | apply Drawn0.step)⟩
  case round =>
    clear H'
    obtain ⟨x3_1, x4_1, rfl, rfl, HA, HK1, ⟨m1, rfl⟩⟩ := hrel
    cases gk with
    | zero => exact absurd HA.out (by simp [root_Sqrt.l0])
    | succ k1 =>
      have H := HA.out
      clear HA
      simp only [root_Sqrt.l0] at H
      have HC2 := Aside0.mk H
      clear H
      go_upto_region 2 with (fail)
      go_cut [13] (fun v13 wc => ∃ (kq : Nat) (x13_1 : Bool), v13 = .bool x13_1 ∧ Aside0 (root_Sqrt.j1 kq a0 x3_1 x4_1 x13_1 = some r) ∧ Aside0 (kq ≤ k1) ∧ Drawn0 w wc)
      case first =>
        have H := HC2.out
        clear HC2
        by_cases c3 : a0 > 0
        · rw [if_pos c3] at H
          have c3b0 : decide (0 < a0) = true := decide_eq_true c3
          clear c3
          (first | rw [c3b0] | (simp only [i64_w, i32_w]; rw [c3b0]) | skip)
          have H' := Aside0.mk H
          clear H
          go_wp2
          go_meet
          case rel => exact ⟨_, (decide (x3_1 < (wrap64 (x4_1 - 1)))), (by first | rfl | (simp; done) | (simp [*]; done)), H', ⟨by have := HK1.out; first | omega | exact Nat.le_refl _⟩, by repeat (first | exact Drawn0.refl _ | apply Drawn0.step)⟩
        · rw [if_neg c3] at H
          have c3b0 : decide (0 < a0) = false := decide_eq_false c3
          clear c3
          (first | rw [c3b0] | (simp only [i64_w, i32_w]; rw [c3b0]) | skip)
          have H' := Aside0.mk H
          clear H
          go_wp2
          go_meet
          case rel => exact ⟨_, (false), (by first | rfl | (simp; done) | (simp [*]; done)), H', ⟨by have := HK1.out; first | omega | exact Nat.le_refl _⟩, by repeat (first | exact Drawn0.refl _ | apply Drawn0.step)⟩
      case rest =>
        clear HC2
        try clear c2
        try clear p2
        try clear c3
        try clear c3b0
        obtain ⟨kq, x13_1, rfl, HA, HJ1, ⟨mc1, rfl⟩⟩ := hcut
        cases kq with
        | zero => exact absurd HA.out (by simp [root_Sqrt.j1])
        | succ kj1 =>
          have H := HA.out
          clear HA
          simp only [root_Sqrt.j1] at H
          by_cases c4 : x13_1 = true
          · subst c4
            have H1 : (if (wrap64 ((wrap64 (Int.tdiv (wrap64 (x3_1 + x4_1)) 2)) * (wrap64 (Int.tdiv (wrap64 (x3_1 + x4_1)) 2)))) ≤ a0 then (root_Sqrt.l0 kj1 a0 (wrap64 (Int.tdiv (wrap64 (x3_1 + x4_1)) 2)) x4_1) else (root_Sqrt.l0 kj1 a0 x3_1 (wrap64 (Int.tdiv (wrap64 (x3_1 + x4_1)) 2)))) = some r := by rw [if_pos rfl] at H; exact H
            clear H
            have H := H1
            clear H1
            by_cases c5 : (wrap64 ((wrap64 (Int.tdiv (wrap64 (x3_1 + x4_1)) 2)) * (wrap64 (Int.tdiv (wrap64 (x3_1 + x4_1)) 2)))) ≤ a0
            · rw [if_pos c5] at H
              have c5b0 : decide ((wrap64 ((wrap64 (Int.tdiv (wrap64 (x3_1 + x4_1)) 2)) * (wrap64 (Int.tdiv (wrap64 (x3_1 + x4_1)) 2)))) ≤ a0) = true := decide_eq_true c5
              clear c5
              have H' := Aside0.mk H
              clear H
              go_wp2
              go_roundg kj1
              case measure => have := HK1.out; have := HJ1.out; omega
              case rel => exact ⟨(wrap64 (Int.tdiv (wrap64 (x3_1 + x4_1)) 2)), (x4_1), (by first | rfl | (simp; done) | (simp [*]; done)), (by first | rfl | (simp; done) | (simp [*]; done)), H', ⟨by have := HK1.out; have := HJ1.out; omega⟩, by repeat (first | exact Drawn0.refl _ | apply Drawn0.step)⟩
            · rw [if_neg c5] at H
              have c5b0 : decide ((wrap64 ((wrap64 (Int.tdiv (wrap64 (x3_1 + x4_1)) 2)) * (wrap64 (Int.tdiv (wrap64 (x3_1 + x4_1)) 2)))) ≤ a0) = false := decide_eq_false c5
              clear c5
              have H' := Aside0.mk H
              clear H
              go_wp2
              go_roundg kj1
              case measure => have := HK1.out; have := HJ1.out; omega
              case rel => exact ⟨(x3_1), (wrap64 (Int.tdiv (wrap64 (x3_1 + x4_1)) 2)), (by first | rfl | (simp; done) | (simp [*]; done)), (by first | rfl | (simp; done) | (simp [*]; done)), H', ⟨by have := HK1.out; have := HJ1.out; omega⟩, by repeat (first | exact Drawn0.refl _ | apply Drawn0.step)⟩
          · replace c4 := Bool.eq_false_iff.mpr c4
            subst c4
            have H1 : (some x3_1) = some r := by rw [if_neg (show ¬ (false = true) by decide)] at H; exact H
            clear H
            have H := H1
            clear H1
            obtain rfl := Option.some.inj H
            go_wp2
            go_ret
            exact ⟨by first | rfl | (simp; done) | (simp [*]; done), by repeat (first | exact Drawn0.refl _ | apply Drawn0.step)⟩
end Go.Proofs.Ytlljpjbhndcaiaa.Q
end
section
namespace Go.Proofs.Ytlljpjbhndcaiaa.Q
open Go.RowKit Go.Proofs.YtlljpjbhndcaiaaW.PrintWords Go.Proofs.YtlljpjbhndcaiaaW.PrintLast Go.Proofs.YtlljpjbhndcaiaaW.PrintMore
attribute [local go_sem] max2_int min2_int max_two min_two max_three min_three max_four min_four
set_option linter.unusedVariables false
set_option linter.unusedSimpArgs false
def wide_Pair_Div.l0 : Nat → Int → Int → Int → Int → Int → Int → Option (Int × Int × Int)
  | 0, _, _, _, _, _, _ => none
  | k + 1, x1, x7, x8, x9, x121000, x121001 => if x9 ≥ 0 then (if 0 ≤ x9 then (if (x8 / 9223372036854775808) = 1 then (wide_Pair_Div.l0 k x1 (Go.bits .or .u64 x7 (shl .u64 1 x9)) (IntKind.u64.wrap ((Go.bits .or .u64 (IntKind.u64.wrap (x8 * 2)) (Go.bits .and .u64 (shr .u64 x121001 x9) 1)) - x1)) (wrap64 (x9 - 1)) x121000 x121001) else (if (Go.bits .or .u64 (IntKind.u64.wrap (x8 * 2)) (Go.bits .and .u64 (shr .u64 x121001 x9) 1)) ≥ x1 then (wide_Pair_Div.l0 k x1 (Go.bits .or .u64 x7 (shl .u64 1 x9)) (IntKind.u64.wrap ((Go.bits .or .u64 (IntKind.u64.wrap (x8 * 2)) (Go.bits .and .u64 (shr .u64 x121001 x9) 1)) - x1)) (wrap64 (x9 - 1)) x121000 x121001) else (wide_Pair_Div.l0 k x1 x7 (Go.bits .or .u64 (IntKind.u64.wrap (x8 * 2)) (Go.bits .and .u64 (shr .u64 x121001 x9) 1)) (wrap64 (x9 - 1)) x121000 x121001))) else (none)) else (some (x7, x8, 0))
def wide_Pair_Div.f (k : Nat) (a0_0 : Int) (a0_1 : Int) (a1 : Int) : Option (Int × Int × Int) := if a0_0 ≥ a1 then (some (0, 0, 10)) else (wide_Pair_Div.l0 k a1 0 a0_0 63 a0_0 a0_1)
theorem wide_Pair_Div.mono_l : ∀ k, (∀ y0 y1 y2 y3 y4 y5, LeO (wide_Pair_Div.l0 k y0 y1 y2 y3 y4 y5) (wide_Pair_Div.l0 (k + 1) y0 y1 y2 y3 y4 y5))
  | 0 => fun _ _ _ _ _ _ r h => by simp [wide_Pair_Div.l0] at h
  | k + 1 => by
    have ih0 := wide_Pair_Div.mono_l k
    · intro y0 y1 y2 y3 y4 y5
      unfold wide_Pair_Div.l0
      repeat' first
      | (with_reducible exact ih0 _ _ _ _ _ _)
      | (with_reducible exact LeO.refl _)
      | (with_reducible exact LeO.none _)
      | (with_reducible refine LeO.ite ?_ ?_)
      | (with_reducible refine LeO.bind ?_ (fun _ => ?_))
      | exact ih0 _ _ _ _ _ _
      | exact LeO.none _
      | refine LeO.ite ?_ ?_
      | refine LeO.bind ?_ (fun _ => ?_)
theorem wide_Pair_Div.mono : ∀ a0 a1 a2 k, LeO (wide_Pair_Div.f k a0 a1 a2) (wide_Pair_Div.f (k + 1) a0 a1 a2) := by
  intro a0 a1 a2 k
  have ih0 := wide_Pair_Div.mono_l k
  unfold wide_Pair_Div.f
  repeat' first
      | (with_reducible exact ih0 _ _ _ _ _ _)
      | (with_reducible exact LeO.refl _)
      | (with_reducible exact LeO.none _)
      | (with_reducible refine LeO.ite ?_ ?_)
      | (with_reducible refine LeO.bind ?_ (fun _ => ?_))
      | exact ih0 _ _ _ _ _ _
      | exact LeO.none _
      | refine LeO.ite ?_ ?_
      | refine LeO.bind ?_ (fun _ => ?_)
set_option maxHeartbeats 8000000 in
set_option maxRecDepth 100000 in
theorem wide_Pair_Div.calls (k : Nat) (a0_0 : Int) (a0_1 : Int) (a1 : Int) (r1 : Int) (r2 : Int) (r3 : Int) (w : World) (h : wide_Pair_Div.f k a0_0 a0_1 a1 = some (r1, r2, r3)) :
    Calls Try.prog 79 #[.agg #[.int .u64 a0_0, .int .u64 a0_1], .int .u64 a1] w fun e w' => e = .returned (.tuple #[.int .u64 r1, .int .u64 r2, .int .i64 r3]) ∧ Below w.heap.size w w' := by
  have hu125 := Try.underlying125
  have HB := Aside0.mk (Below.refl w.heap.size w)
  have H : (if a0_0 ≥ a1 then (some (0, 0, 10)) else (wide_Pair_Div.l0 k a1 0 a0_0 63 a0_0 a0_1)) = some (r1, r2, r3) := h
  clear h
  by_cases c3 : a0_0 ≥ a1
  · rw [if_pos c3] at H
    have c3b0 : decide (a1 ≤ a0_0) = true := decide_eq_true c3
    clear c3
    simp only [Option.some.injEq, Prod.mk.injEq] at H
    obtain ⟨rfl, rfl, rfl⟩ := H
    go_enter Try.func79, Try.ntmps79
    go_wp2_with (first | ((with_reducible refine gate_dst (N := 2) rfl ?_); refine box_event ?hg (N := 2) ?hd (cs := #[.int .u64 a0_0, .int .u64 a0_1]) (t := 125) ?hr ?_; (case hd => rfl); (case hg => rfl); (case hr => first | (go_simp; done) | (go_simp; rfl)); intro gb120 hg w4 hbox hb; have n0_ := Aside0.mk (below_step (by repeat (first | (with_reducible first | exact HB.out | apply below_alloc | apply pw_below_drewN | apply below_drew1) | exact HB.out)) hb); have n1_ := Aside0.mk (hbox); have n2_ := Aside0.mk ((by rw [hg]; exact (below_size (by repeat (first | (with_reducible first | exact HB.out | apply below_alloc | apply pw_below_drewN | apply below_drew1) | exact HB.out))) : w.heap.size ≤ gb120)); have n3_ := Aside0.mk ((by rw [hg]; exact (below_size (by repeat (first | (with_reducible first | exact HB.out | apply below_alloc | apply pw_below_drewN | apply below_drew1) | exact HB.out))) : w.heap.size ≤ gb120)); clear HB; have HB := n0_; have BK120 := n1_; have GW120 := n2_; have GE120 := n3_; clear n0_ n1_ n2_ n3_; clear hb hbox hg; have hcz5_0 : w4.cell? ⟨gb120, 0, none⟩ = some (.int .u64 a0_0) := (blk_cell BK120.out 0).trans rfl; have hcz5_1 : w4.cell? ⟨gb120, 1, none⟩ = some (.int .u64 a0_1) := (blk_cell BK120.out 1).trans rfl; have hfz5_0 := blk_frozen BK120.out 0; have hfz5_1 := blk_frozen BK120.out 1))
    go_ret3
    exact ⟨by first | rfl | (simp [errW_none, errW_some] <;> rfl) | (simp [*, errW_none, errW_some] <;> rfl), by repeat (first | (with_reducible first | exact HB.out | apply below_alloc | apply pw_below_drewN | apply below_drew1 | refine below_set ?_ GE120.out) | exact HB.out)⟩
  · rw [if_neg c3] at H
    have c3b0 : decide (a1 ≤ a0_0) = false := decide_eq_false c3
    clear c3
    have H' := Aside0.mk H
    clear H
    go_enter Try.func79, Try.ntmps79
    go_wp2_with (first | ((with_reducible refine gate_dst (N := 2) rfl ?_); refine box_event ?hg (N := 2) ?hd (cs := #[.int .u64 a0_0, .int .u64 a0_1]) (t := 125) ?hr ?_; (case hd => rfl); (case hg => rfl); (case hr => first | (go_simp; done) | (go_simp; rfl)); intro gb120 hg w6 hbox hb; have n0_ := Aside0.mk (below_step (by repeat (first | (with_reducible first | exact HB.out | apply below_alloc | apply pw_below_drewN | apply below_drew1) | exact HB.out)) hb); have n1_ := Aside0.mk (hbox); have n2_ := Aside0.mk ((by rw [hg]; exact (below_size (by repeat (first | (with_reducible first | exact HB.out | apply below_alloc | apply pw_below_drewN | apply below_drew1) | exact HB.out))) : w.heap.size ≤ gb120)); have n3_ := Aside0.mk ((by rw [hg]; exact (below_size (by repeat (first | (with_reducible first | exact HB.out | apply below_alloc | apply pw_below_drewN | apply below_drew1) | exact HB.out))) : w.heap.size ≤ gb120)); clear HB; have HB := n0_; have BK120 := n1_; have GW120 := n2_; have GE120 := n3_; clear n0_ n1_ n2_ n3_; clear hb hbox hg; have hcz7_0 : w6.cell? ⟨gb120, 0, none⟩ = some (.int .u64 a0_0) := (blk_cell BK120.out 0).trans rfl; have hcz7_1 : w6.cell? ⟨gb120, 1, none⟩ = some (.int .u64 a0_1) := (blk_cell BK120.out 1).trans rfl; have hfz7_0 := blk_frozen BK120.out 0; have hfz7_1 := blk_frozen BK120.out 1))
    go_loopg [7, 8, 9] k (fun kq v7 v8 v9 w' => ∃ (x7_1 : Int) (x8_1 : Int) (x9_1 : Int), v7 = .int .u64 x7_1 ∧ v8 = .int .u64 x8_1 ∧ v9 = .int .i64 x9_1 ∧ Aside0 (wide_Pair_Div.l0 kq a1 x7_1 x8_1 x9_1 a0_0 a0_1 = some (r1, r2, r3)) ∧ Aside0 (kq ≤ k) ∧ Aside0 (w'.heap[gb120]? = some (.cells #[.int .u64 a0_0, .int .u64 a0_1] 125 (0, 0))) ∧ Aside0 (Below w.heap.size w w'))
    case atStart => exact ⟨(0), (a0_0), (63), (by first | rfl | (simp; done) | (simp [*]; done)), (by first | rfl | (simp; done) | (simp [*]; done)), (by first | rfl | (simp; done) | (simp [*]; done)), H', ⟨Nat.le_refl _⟩, ⟨by (with_reducible repeat (first | refine blk_drewN ?_ _ | refine blk_drew ?_ | refine blk_alloc ?_ _)); exact BK120.out⟩, ⟨by repeat (first | (with_reducible first | exact HB.out | apply below_alloc | apply pw_below_drewN | apply below_drew1 | refine below_set ?_ GE120.out) | exact HB.out)⟩⟩
    case round =>
      clear H'
      try clear p2
      try clear c3
      try clear c3b0
      try clear c7
      try clear hcz5_0
      try clear hcz5_1
      try clear hcz7_0
      try clear hcz7_1
      try clear hfz5_0
      try clear hfz5_1
      try clear hfz7_0
      try clear hfz7_1
      obtain ⟨x7_1, x8_1, x9_1, rfl, rfl, rfl, HA, HK1, BK120, HB⟩ := hrel
      cases gk with
      | zero => exact absurd HA.out (by simp [wide_Pair_Div.l0])
      | succ k1 =>
        have H := HA.out
        clear HA
        simp only [wide_Pair_Div.l0] at H
        by_cases c8 : x9_1 ≥ 0
        · rw [if_pos c8] at H
          have c8b0 : decide (0 ≤ x9_1) = true := decide_eq_true c8
          clear c8
          by_cases c9 : 0 ≤ x9_1
          · rw [if_pos c9] at H
            have c9b0 := eq_true c9
            have c9b1 : decide (0 ≤ x9_1) = true := decide_eq_true c9
            clear c9
            obtain ⟨ji10, hji10⟩ : ∃ j_ : Int, (shr .u64 a0_1 x9_1) = j_ := ⟨_, rfl⟩
            replace H : (if (x8_1 / 9223372036854775808) = 1 then (wide_Pair_Div.l0 k1 a1 (Go.bits .or .u64 x7_1 (shl .u64 1 x9_1)) (IntKind.u64.wrap ((Go.bits .or .u64 (IntKind.u64.wrap (x8_1 * 2)) (Go.bits .and .u64 (ji10) 1)) - a1)) (wrap64 (x9_1 - 1)) a0_0 a0_1) else (if (Go.bits .or .u64 (IntKind.u64.wrap (x8_1 * 2)) (Go.bits .and .u64 (ji10) 1)) ≥ a1 then (wide_Pair_Div.l0 k1 a1 (Go.bits .or .u64 x7_1 (shl .u64 1 x9_1)) (IntKind.u64.wrap ((Go.bits .or .u64 (IntKind.u64.wrap (x8_1 * 2)) (Go.bits .and .u64 (ji10) 1)) - a1)) (wrap64 (x9_1 - 1)) a0_0 a0_1) else (wide_Pair_Div.l0 k1 a1 x7_1 (Go.bits .or .u64 (IntKind.u64.wrap (x8_1 * 2)) (Go.bits .and .u64 (ji10) 1)) (wrap64 (x9_1 - 1)) a0_0 a0_1))) = some (r1, r2, r3) := by first | (rw [hji10] at H; exact H) | (simp only [hji10] at H ⊢; exact H)
            have hji10_ : (a0_1 / 2 ^ min x9_1.toNat 64) = ji10 := hji10
            have hji10z : x9_1 ≤ 64 → (a0_1 / 2 ^ x9_1.toNat) = ji10 := shr_small hji10
            by_cases c11 : (x8_1 / 9223372036854775808) = 1
            · rw [if_pos c11] at H
              have c11b0 : ((x8_1 / 9223372036854775808) == 1) = true := beq_iff_eq.mpr c11
              have c11b1 : ((x8_1 / 9223372036854775808) != 1) = false := bne_eq_false_iff_eq.mpr c11
              clear c11
              have c12b0 := eq_true (of_decide_eq_true (by first | (with_reducible assumption) | assumption) : 0 ≤ x9_1)
              obtain ⟨ji13, hji13⟩ : ∃ j_ : Int, (shl .u64 1 x9_1) = j_ := ⟨_, rfl⟩
              replace H : (wide_Pair_Div.l0 k1 a1 (Go.bits .or .u64 x7_1 (ji13)) (IntKind.u64.wrap ((Go.bits .or .u64 (IntKind.u64.wrap (x8_1 * 2)) (Go.bits .and .u64 (ji10) 1)) - a1)) (wrap64 (x9_1 - 1)) a0_0 a0_1) = some (r1, r2, r3) := by first | (rw [hji13] at H; exact H) | (simp only [hji13] at H ⊢; exact H)
              have hji13_ : (IntKind.u64.wrap (1 * 2 ^ min x9_1.toNat 64)) = ji13 := hji13
              have hji13z : x9_1 ≤ 64 → (IntKind.u64.wrap (1 * 2 ^ x9_1.toNat)) = ji13 := shl_small hji13
              have hji13u : (IntKind.u64.wrap (2 ^ min x9_1.toNat 64)) = ji13 := by have h_ := hji13_; rw [Int.one_mul] at h_; exact h_
              have hji13v : x9_1 ≤ 64 → (IntKind.u64.wrap (2 ^ x9_1.toNat)) = ji13 := fun hle_ => by have h_ := hji13z hle_; rw [Int.one_mul] at h_; exact h_
              have H' := Aside0.mk H
              clear H
              have hcz14_0 : wr.cell? ⟨gb120, 0, none⟩ = some (.int .u64 a0_0) := (blk_cell BK120.out 0).trans rfl
              have hcz14_1 : wr.cell? ⟨gb120, 1, none⟩ = some (.int .u64 a0_1) := (blk_cell BK120.out 1).trans rfl
              have hfz14_0 := blk_frozen BK120.out 0
              have hfz14_1 := blk_frozen BK120.out 1
              go_wp2
              go_roundg k1
              case measure => have := HK1.out; omega
              case rel => exact ⟨(Go.bits .or .u64 x7_1 (ji13)), (IntKind.u64.wrap ((Go.bits .or .u64 (IntKind.u64.wrap (x8_1 * 2)) (Go.bits .and .u64 (ji10) 1)) - a1)), (wrap64 (x9_1 - 1)), (by first | rfl | (simp; done) | (simp only [← hji13] <;> (first | rfl | simp)) | (simp [*]; done)), (by first | rfl | (simp; done) | (simp only [← hji10] <;> (first | rfl | simp)) | (simp [*]; done)), (by first | rfl | (simp; done) | (simp [*]; done)), H', ⟨by have := HK1.out; omega⟩, ⟨by (with_reducible repeat (first | refine blk_drewN ?_ _ | refine blk_drew ?_ | refine blk_alloc ?_ _)); exact BK120.out⟩, ⟨by repeat (first | (with_reducible first | exact HB.out | apply below_alloc | apply pw_below_drewN | apply below_drew1 | refine below_set ?_ GE120.out) | exact HB.out)⟩⟩
            · rw [if_neg c11] at H
              have c11b0 : ((x8_1 / 9223372036854775808) == 1) = false := beq_eq_false_iff_ne.mpr c11
              have c11b1 : ((x8_1 / 9223372036854775808) != 1) = true := bne_iff_ne.mpr c11
              by_cases c15 : (Go.bits .or .u64 (IntKind.u64.wrap (x8_1 * 2)) (Go.bits .and .u64 (ji10) 1)) ≥ a1
              · rw [if_pos c15] at H
                have c15b0 : decide (a1 ≤ (Go.bits .or .u64 (IntKind.u64.wrap (x8_1 * 2)) (Go.bits .and .u64 (ji10) 1))) = true := decide_eq_true c15
                clear c15
                have c16b0 := eq_true (of_decide_eq_true (by first | (with_reducible assumption) | assumption) : 0 ≤ x9_1)
                obtain ⟨ji17, hji17⟩ : ∃ j_ : Int, (shl .u64 1 x9_1) = j_ := ⟨_, rfl⟩
                replace H : (wide_Pair_Div.l0 k1 a1 (Go.bits .or .u64 x7_1 (ji17)) (IntKind.u64.wrap ((Go.bits .or .u64 (IntKind.u64.wrap (x8_1 * 2)) (Go.bits .and .u64 (ji10) 1)) - a1)) (wrap64 (x9_1 - 1)) a0_0 a0_1) = some (r1, r2, r3) := by first | (rw [hji17] at H; exact H) | (simp only [hji17] at H ⊢; exact H)
                have hji17_ : (IntKind.u64.wrap (1 * 2 ^ min x9_1.toNat 64)) = ji17 := hji17
                have hji17z : x9_1 ≤ 64 → (IntKind.u64.wrap (1 * 2 ^ x9_1.toNat)) = ji17 := shl_small hji17
                have hji17u : (IntKind.u64.wrap (2 ^ min x9_1.toNat 64)) = ji17 := by have h_ := hji17_; rw [Int.one_mul] at h_; exact h_
                have hji17v : x9_1 ≤ 64 → (IntKind.u64.wrap (2 ^ x9_1.toNat)) = ji17 := fun hle_ => by have h_ := hji17z hle_; rw [Int.one_mul] at h_; exact h_
                have H' := Aside0.mk H
                clear H
                have hcz18_0 : wr.cell? ⟨gb120, 0, none⟩ = some (.int .u64 a0_0) := (blk_cell BK120.out 0).trans rfl
                have hcz18_1 : wr.cell? ⟨gb120, 1, none⟩ = some (.int .u64 a0_1) := (blk_cell BK120.out 1).trans rfl
                have hfz18_0 := blk_frozen BK120.out 0
                have hfz18_1 := blk_frozen BK120.out 1
                go_wp2
                go_roundg k1
                case measure => have := HK1.out; omega
                case rel => exact ⟨(Go.bits .or .u64 x7_1 (ji17)), (IntKind.u64.wrap ((Go.bits .or .u64 (IntKind.u64.wrap (x8_1 * 2)) (Go.bits .and .u64 (ji10) 1)) - a1)), (wrap64 (x9_1 - 1)), (by first | rfl | (simp; done) | (simp only [← hji17] <;> (first | rfl | simp)) | (simp [*]; done)), (by first | rfl | (simp; done) | (simp only [← hji10] <;> (first | rfl | simp)) | (simp [*]; done)), (by first | rfl | (simp; done) | (simp [*]; done)), H', ⟨by have := HK1.out; omega⟩, ⟨by (with_reducible repeat (first | refine blk_drewN ?_ _ | refine blk_drew ?_ | refine blk_alloc ?_ _)); exact BK120.out⟩, ⟨by repeat (first | (with_reducible first | exact HB.out | apply below_alloc | apply pw_below_drewN | apply below_drew1 | refine below_set ?_ GE120.out) | exact HB.out)⟩⟩
              · rw [if_neg c15] at H
                have c15b0 : decide (a1 ≤ (Go.bits .or .u64 (IntKind.u64.wrap (x8_1 * 2)) (Go.bits .and .u64 (ji10) 1))) = false := decide_eq_false c15
                clear c15
                have H' := Aside0.mk H
                clear H
                have hcz19_0 : wr.cell? ⟨gb120, 0, none⟩ = some (.int .u64 a0_0) := (blk_cell BK120.out 0).trans rfl
                have hcz19_1 : wr.cell? ⟨gb120, 1, none⟩ = some (.int .u64 a0_1) := (blk_cell BK120.out 1).trans rfl
                have hfz19_0 := blk_frozen BK120.out 0
                have hfz19_1 := blk_frozen BK120.out 1
                go_wp2
                go_roundg k1
                case measure => have := HK1.out; omega
                case rel => exact ⟨(x7_1), (Go.bits .or .u64 (IntKind.u64.wrap (x8_1 * 2)) (Go.bits .and .u64 (ji10) 1)), (wrap64 (x9_1 - 1)), (by first | rfl | (simp; done) | (simp [*]; done)), (by first | rfl | (simp; done) | (simp only [← hji10] <;> (first | rfl | simp)) | (simp [*]; done)), (by first | rfl | (simp; done) | (simp [*]; done)), H', ⟨by have := HK1.out; omega⟩, ⟨by (with_reducible repeat (first | refine blk_drewN ?_ _ | refine blk_drew ?_ | refine blk_alloc ?_ _)); exact BK120.out⟩, ⟨by repeat (first | (with_reducible first | exact HB.out | apply below_alloc | apply pw_below_drewN | apply below_drew1 | refine below_set ?_ GE120.out) | exact HB.out)⟩⟩
          · rw [if_neg c9] at H
            exact absurd H (by simp)
        · rw [if_neg c8] at H
          have c8b0 : decide (0 ≤ x9_1) = false := decide_eq_false c8
          clear c8
          simp only [Option.some.injEq, Prod.mk.injEq] at H
          obtain ⟨rfl, rfl, rfl⟩ := H
          go_wp2
          go_ret3
          exact ⟨by first | rfl | (simp [errW_none, errW_some] <;> rfl) | (simp [*, errW_none, errW_some] <;> rfl), by repeat (first | (with_reducible first | exact HB.out | apply below_alloc | apply pw_below_drewN | apply below_drew1 | refine below_set ?_ GE120.out) | exact HB.out)⟩
end Go.Proofs.Ytlljpjbhndcaiaa.Q
end
