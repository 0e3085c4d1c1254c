/- What the proof of the law SdfTexel leans on, part 5. -/
import Derived.Test.YtlljpjbhndcaiaaSdfTexelC4
set_option linter.unusedVariables false
set_option linter.unusedSimpArgs false
set_option linter.unusedSectionVars false
section
set_option linter.unusedVariables false
set_option linter.unusedSimpArgs false
namespace Go.Proofs.Ytlljpjbhndcaiaa.M
open Go.RowKit Go.Proofs.Ytlljpjbhndcaiaa.Q Go.Proofs.YtlljpjbhndcaiaaW.PrintWords Go.Proofs.YtlljpjbhndcaiaaW.PrintLast Go.Proofs.YtlljpjbhndcaiaaW.PrintMore Go.Proofs.Ytlljpjbhndcaiaa.Geo
structure GridIn (X Y P W H S : Int) : Prop where
  x : -255 ≤ X ∧ X ≤ 255
  y : -255 ≤ Y ∧ Y ≤ 255
  p : 1 ≤ P ∧ P ≤ 16
  w : 1 ≤ W ∧ W ≤ 24
  h : 1 ≤ H ∧ H ≤ 24
  s : 1 ≤ S ∧ S ≤ 64
theorem check_in {X Y P W H S : Int} (g : GridIn X Y P W H S) : grid_Check.f X Y P W H S = some 0 := by
  obtain ⟨x, y, p, w, h, s⟩ := g
  unfold grid_Check.f
  rw [if_pos ⟨w, h⟩, if_pos ⟨x, y, p, s⟩]
def at1 (P F n : Int) : Int := F * 32 + n * P * 32 + P * 16
def centre (X Y P i k : Int) : Pt := ⟨at1 P X i, at1 P Y k⟩
theorem c_eq {P F n : Int} (hP : 1 ≤ P ∧ P ≤ 16) (hF : -255 ≤ F ∧ F ≤ 255) (hn : 0 ≤ n ∧ n ≤ 24) : grid_Centre.c P F n = at1 P F n ∧ Mid (at1 P F n) := by
  have m := mul_bound (a := n) (b := P) (n := 24) (m := 16) hn.1 hn.2 (by omega) hP.2
  unfold grid_Centre.c at1 Mid
  have e : Int.tdiv (P * 32) 2 = P * 16 := by
    rw [show P * 32 = P * 16 * 2 by omega, Int.mul_tdiv_cancel _ (by omega)]
  rw [w64 (n := P * 32) (by omega) (by omega), e, w64 (n := P * 16) (by omega) (by omega), w64 (n := n * P) (by omega) (by omega), w64 (n := n * P * 32) (by omega) (by omega), w64 (n := F * 32) (by omega) (by omega), w64 (n := F * 32 + n * P * 32) (by omega) (by omega), w64 (n := F * 32 + n * P * 32 + P * 16) (by omega) (by omega)]
  exact ⟨rfl, by omega⟩
theorem centre_eq {X Y P W H S i k : Int} (g : GridIn X Y P W H S) (hi : 0 ≤ i ∧ i ≤ 24) (hk : 0 ≤ k ∧ k ≤ 24) : grid_Centre.f X Y P W H S i k = some ((centre X Y P i k).x, (centre X Y P i k).y) ∧ PtIn (centre X Y P i k) := by
  obtain ⟨a, b⟩ := c_eq g.p g.x hi
  obtain ⟨c, d⟩ := c_eq g.p g.y hk
  unfold grid_Centre.f
  rw [a, c]
  exact ⟨rfl, b, d⟩
def code (S s a : Int) : Int := if a < 256 * S then 128 + s * (a * 127 / (256 * S)) else 128 + s * 127
theorem code_part {S a : Int} (hS : 1 ≤ S ∧ S ≤ 64) (ha : 0 ≤ a) (h : a < 256 * S) : 0 ≤ a * 127 / (256 * S) ∧ a * 127 / (256 * S) ≤ 126 := by
  refine ⟨Int.ediv_nonneg (by omega) (by omega), ?_⟩
  have := Int.ediv_lt_of_lt_mul (a := a * 127) (b := 127) (c := 256 * S) (by omega) (by omega)
  omega
theorem code_bound {S s a : Int} (hS : 1 ≤ S ∧ S ≤ 64) (hs : s = -1 ∨ s = 0 ∨ s = 1) (ha : 0 ≤ a) : 1 ≤ code S s a ∧ code S s a ≤ 255 := by
  unfold code
  split
  · rename_i h
    have := code_part hS ha h
    rcases hs with rfl | rfl | rfl <;> omega
  · rcases hs with rfl | rfl | rfl <;> omega
theorem code_eq {X Y P W H S : Int} (g : GridIn X Y P W H S) {s a : Int} (hs : s = -1 ∨ s = 0 ∨ s = 1) (ha : 0 ≤ a) : grid_Code.f X Y P W H S s a = some (code S s a) := by
  have hS := g.s
  have hb := code_bound hS hs ha
  unfold grid_Code.f code at *
  rw [w64 (n := 256 * S) (by omega) (by omega)]
  by_cases h : a < 256 * S
  · have hp := code_part hS ha h
    rw [if_pos h, if_neg (by omega), if_pos h]
    rw [if_pos h] at hb
    rw [w64 (n := a * 127) (by omega) (by omega), Int.tdiv_eq_ediv_of_nonneg (by omega)]
    generalize a * 127 / (256 * S) = q at *
    have hq : -126 ≤ s * q ∧ s * q ≤ 126 := by rcases hs with rfl | rfl | rfl <;> omega
    rw [w64 (n := q) (by omega) (by omega), w64 (n := s * q) (by omega) (by omega), w64 (n := 128 + s * q) (by omega) (by omega)]
    congr 1
    omega
  · rw [if_neg h, if_neg h]
    rw [if_neg h] at hb
    have hq : -127 ≤ s * 127 ∧ s * 127 ≤ 127 := by rcases hs with rfl | rfl | rfl <;> omega
    rw [w64 (n := s * 127) (by omega) (by omega), w64 (n := 128 + s * 127) (by omega) (by omega)]
    congr 1
    omega
theorem sign_cases (es : List S40) (p : Pt) : sign es p = -1 ∨ sign es p = 0 ∨ sign es p = 1 := by
  unfold sign
  repeat' split
  all_goals simp
noncomputable def eight (es : List S40) (p : Pt) : Int := Classical.epsilon (Is8 es p)
theorem eight_is {es : List S40} {p : Pt} {v : Int} (h : Is8 es p v) : eight es p = v := Is8.unique (Classical.epsilon_spec (p := Is8 es p) ⟨v, h⟩) h
theorem eight_ret (es : List S40) (p : Pt) (hes : AllIn es) (hp : PtIn p) (hl : es.length < 9000000000000000000) (hne : es ≠ []) : Is8 es p (eight es p) ∧ Ret (fun k => dist_Eight.f k es p.x p.y) (eight es p) := by
  obtain ⟨v, h1, h2⟩ := eight_eq es p hes hp hl hne
  rw [eight_is h1]
  exact ⟨h1, h2⟩
open Classical in
noncomputable def tx (es : List S40) (X Y P S i k : Int) : Int := if es = [] then 1 else code S (sign es (centre X Y P i k)) (eight es (centre X Y P i k))
theorem texel_eq (es : List S40) (hes : AllIn es) (hl : es.length < 9000000000000000000) {X Y P W H S i k : Int} (g : GridIn X Y P W H S) (hi : 0 ≤ i ∧ i ≤ 24) (hk : 0 ≤ k ∧ k ≤ 24) :
    Ret (fun f => sdf_Texel.f f es X Y P W H S i k) (tx es X Y P S i k) := by
  obtain ⟨ec, hp⟩ := centre_eq (X := X) (Y := Y) (P := P) (W := W) (H := H) (S := S) g hi hk
  have hS := g.s
  unfold sdf_Texel.f tx
  rw [ec]
  refine Ret.bind (Ret.const rfl) ?_
  by_cases h : es = []
  · subst h
    refine Ret.bind (eight_nil _) ?_
    simp only [if_pos (show (-1 : Int) < 0 by omega)]
    rw [w64 (n := 256 * S) (by omega) (by omega), code_eq g (.inl rfl) (by omega)]
    refine Ret.const ?_
    simp [code]
  · obtain ⟨h8, hr⟩ := eight_ret es _ hes hp hl h
    refine Ret.bind hr ?_
    simp only [if_neg h, if_neg (show ¬ eight es (centre X Y P i k) < 0 by have := h8.1; omega)]
    refine Ret.bind (sign_eq es _ hp hes hl) ?_
    rw [code_eq g (sign_cases _ _) h8.1]
    exact Ret.const rfl
noncomputable def rowOf (es : List S40) (X Y P S k : Int) (n : Nat) : List Int := (List.range n).map fun i : Nat => tx es X Y P S (i : Int) k
theorem rowOf_succ (es : List S40) (X Y P S k : Int) (i : Int) (h0 : 0 ≤ i) : rowOf es X Y P S k (i + 1).toNat = rowOf es X Y P S k i.toNat ++ [tx es X Y P S i k] := by
  have e : (i + 1).toNat = i.toNat + 1 := by omega
  unfold rowOf
  rw [e, List.range_succ, List.map_append]
  simp only [List.map_cons, List.map_nil]
  rw [show ((i.toNat : Nat) : Int) = i by omega]
theorem rowOf_len (es : List S40) (X Y P S k : Int) (n : Nat) : (rowOf es X Y P S k n).length = n := by simp [rowOf]
theorem row_l0 (es : List S40) (hes : AllIn es) (hl : es.length < 9000000000000000000) {X Y P W H S k : Int} (g : GridIn X Y P W H S) (hk : 0 ≤ k ∧ k ≤ 24) : ∀ (m : Nat) (i : Int), W.toNat - i.toNat ≤ m → 0 ≤ i → i ≤ W →
    Ret (fun f => sdf_Row.l0 f es k (rowOf es X Y P S k i.toNat) i X Y P W H S) (rowOf es X Y P S k W.toNat) := by
  have hW := g.w
  intro m
  induction m with
  | zero =>
    intro i hm h0 h1
    obtain rfl : i = W := by omega
    refine Ret.succ (Ret.congr (Ret.const rfl) fun f => ?_)
    show sdf_Row.l0 (f + 1) _ _ _ _ _ _ _ _ _ _ = _
    rw [sdf_Row.l0, if_neg (by omega)]
  | succ m ih =>
    intro i hm h0 h1
    by_cases hz : i < W
    · have hI := ih (i + 1) (by omega) (by omega) (by omega)
      rw [rowOf_succ _ _ _ _ _ _ _ h0] at hI
      have ht := texel_eq es hes hl (i := i) (k := k) g (by omega) hk
      refine Ret.succ (Ret.congr (Ret.bind ht (h := fun f t243 => if (rowOf es X Y P S k i.toNat).length < 140737488355328 then sdf_Row.l0 f es k (rowOf es X Y P S k i.toNat ++ [t243]) (wrap64 (i + 1)) X Y P W H S else none) ?_) fun f => ?_)
      · simp only [rowOf_len, if_pos (show i.toNat < 140737488355328 by omega), w64 (n := i + 1) (by omega) (by omega)]
        exact hI
      · show sdf_Row.l0 (f + 1) _ _ _ _ _ _ _ _ _ _ = _
        rw [sdf_Row.l0, if_pos hz]
    · obtain rfl : i = W := by omega
      refine Ret.succ (Ret.congr (Ret.const rfl) fun f => ?_)
      show sdf_Row.l0 (f + 1) _ _ _ _ _ _ _ _ _ _ = _
      rw [sdf_Row.l0, if_neg hz]
theorem row_eq (es : List S40) (hes : AllIn es) (hl : es.length < 9000000000000000000) {X Y P W H S k : Int} (g : GridIn X Y P W H S) (hk : 0 ≤ k ∧ k ≤ 24) : Ret (fun f => sdf_Row.f f es X Y P W H S k) (rowOf es X Y P S k W.toNat) :=
  row_l0 es hes hl g hk _ 0 (Nat.le_refl _) (by omega) (by have := g.w; omega)
noncomputable def fieldOf (es : List S40) (X Y P W S : Int) (n : Nat) : List Int := (List.range n).flatMap fun k : Nat => rowOf es X Y P S (k : Int) W.toNat
theorem fieldOf_succ (es : List S40) (X Y P W S : Int) (k : Int) (h0 : 0 ≤ k) : fieldOf es X Y P W S (k + 1).toNat = fieldOf es X Y P W S k.toNat ++ rowOf es X Y P S k W.toNat := by
  have e : (k + 1).toNat = k.toNat + 1 := by omega
  unfold fieldOf
  rw [e, List.range_succ, List.flatMap_append]
  simp only [List.flatMap_cons, List.flatMap_nil, List.append_nil]
  rw [show ((k.toNat : Nat) : Int) = k by omega]
theorem fieldOf_len (es : List S40) (X Y P W S : Int) (n : Nat) : (fieldOf es X Y P W S n).length = n * W.toNat := by
  induction n with
  | zero => simp [fieldOf]
  | succ n ih =>
    have := fieldOf_succ es X Y P W S n (by omega)
    rw [show ((n : Int) + 1).toNat = n + 1 by omega, show ((n : Int)).toNat = n by omega] at this
    rw [this, List.length_append, ih, rowOf_len, Nat.succ_mul]
theorem make_l0 (es : List S40) (hes : AllIn es) (hl : es.length < 9000000000000000000) {X Y P W H S : Int} (g : GridIn X Y P W H S) : ∀ (m : Nat) (k : Int), H.toNat - k.toNat ≤ m → 0 ≤ k → k ≤ H →
    Ret (fun f => sdf_Make.l0 f es k X Y P W H S W H (fieldOf es X Y P W S k.toNat)) (W, H, fieldOf es X Y P W S H.toNat, 0) := by
  have hW := g.w
  have hH := g.h
  intro m
  induction m with
  | zero =>
    intro k hm h0 h1
    obtain rfl : k = H := by omega
    refine Ret.succ (Ret.congr (Ret.const rfl) fun f => ?_)
    show sdf_Make.l0 (f + 1) _ _ _ _ _ _ _ _ _ _ _ = _
    rw [sdf_Make.l0, if_neg (by omega)]
  | succ m ih =>
    intro k hm h0 h1
    by_cases hz : k < H
    · have hI := ih (k + 1) (by omega) (by omega) (by omega)
      rw [fieldOf_succ _ _ _ _ _ _ _ h0] at hI
      have ht := row_eq es hes hl (k := k) g (by omega)
      have hlen : (fieldOf es X Y P W S k.toNat).length + (rowOf es X Y P S k W.toNat).length < 140737488355328 := by
        rw [fieldOf_len, rowOf_len]
        have : k.toNat * W.toNat ≤ 24 * 24 := Nat.mul_le_mul (by omega) (by omega)
        omega
      refine Ret.succ (Ret.congr (Ret.bind ht (h := fun f t251 => if (fieldOf es X Y P W S k.toNat).length + t251.length < 140737488355328 then sdf_Make.l0 f es (wrap64 (k + 1)) X Y P W H S W H (fieldOf es X Y P W S k.toNat ++ t251) else none) ?_) fun f => ?_)
      · simp only [if_pos hlen, w64 (n := k + 1) (by omega) (by omega)]
        exact hI
      · show sdf_Make.l0 (f + 1) _ _ _ _ _ _ _ _ _ _ _ = _
        rw [sdf_Make.l0, if_pos hz]
    · obtain rfl : k = H := by omega
      refine Ret.succ (Ret.congr (Ret.const rfl) fun f => ?_)
      show sdf_Make.l0 (f + 1) _ _ _ _ _ _ _ _ _ _ _ = _
      rw [sdf_Make.l0, if_neg hz]
theorem make_eq (es : List S40) (hes : AllIn es) (hl : es.length < 9000000000000000000) {X Y P W H S : Int} (g : GridIn X Y P W H S) : Ret (fun f => sdf_Make.f f es X Y P W H S) (W, H, fieldOf es X Y P W S H.toNat, 0) := by
  have h := make_l0 es hes hl g _ 0 (Nat.le_refl _) (by omega) (by have := g.h; omega)
  refine Ret.congr h fun f => ?_
  unfold sdf_Make.f
  rw [check_in g]
  rfl
theorem make_bad (es : List S40) {X Y P W H S e : Int} (he : e ≠ 0) (h : grid_Check.f X Y P W H S = some e) : Ret (fun f => sdf_Make.f f es X Y P W H S) (0, 0, [], e) := by
  refine Ret.congr (Ret.const rfl) fun f => ?_
  unfold sdf_Make.f
  rw [h]
  simp [he]
end Go.Proofs.Ytlljpjbhndcaiaa.M
end
section
set_option linter.unusedVariables false
set_option linter.unusedSimpArgs false
namespace Go.Proofs.Ytlljpjbhndcaiaa.M
open Go.RowKit Go.Proofs.Ytlljpjbhndcaiaa.Q Go.Proofs.YtlljpjbhndcaiaaW.PrintWords Go.Proofs.YtlljpjbhndcaiaaW.PrintLast Go.Proofs.YtlljpjbhndcaiaaW.PrintMore Go.Proofs.Ytlljpjbhndcaiaa.Geo
def tri : List S40 := [(⟨(⟨0, 0⟩ : S32), (⟨320, 0⟩ : S32)⟩ : S40), (⟨(⟨320, 0⟩ : S32), (⟨0, 320⟩ : S32)⟩ : S40), (⟨(⟨0, 320⟩ : S32), (⟨0, 0⟩ : S32)⟩ : S40)]
theorem tri_in : AllIn tri := by
  intro e he
  simp only [tri, List.mem_cons, List.mem_nil_iff, or_false] at he
  rcases he with rfl | rfl | rfl <;> (unfold EdIn Small; simp)
theorem tri_grid : GridIn (-2) (-2) 2 4 4 8 := ⟨by omega, by omega, by omega, by omega, by omega, by omega⟩
theorem tri_8a : Is8 tri (centre (-2) (-2) 2 0 0) 362 := by
  refine ⟨by omega, ⟨_, List.mem_cons_self, by decide +kernel⟩, fun e he => ?_⟩
  simp only [tri, List.mem_cons, List.mem_nil_iff, or_false] at he
  rcases he with rfl | rfl | rfl <;> decide +kernel
theorem tri_8b : Is8 tri (centre (-2) (-2) 2 1 1) 256 := by
  refine ⟨by omega, ⟨_, List.mem_cons_self, by decide +kernel⟩, fun e he => ?_⟩
  simp only [tri, List.mem_cons, List.mem_nil_iff, or_false] at he
  rcases he with rfl | rfl | rfl <;> decide +kernel
theorem tri_sa : sign tri (centre (-2) (-2) 2 0 0) = -1 := by decide +kernel
theorem tri_sb : sign tri (centre (-2) (-2) 2 1 1) = 1 := by decide +kernel
theorem tri_a : tx tri (-2) (-2) 2 8 0 0 = 106 := by
  unfold tx
  rw [if_neg (by simp [tri]), tri_sa, eight_is tri_8a]
  decide
theorem tri_b : tx tri (-2) (-2) 2 8 1 1 = 143 := by
  unfold tx
  rw [if_neg (by simp [tri]), tri_sb, eight_is tri_8b]
  decide
theorem fieldOf_get (es : List S40) (X Y P W S : Int) (hW : 0 ≤ W) : ∀ (n : Nat) (i k : Int), 0 ≤ i → i < W → 0 ≤ k → k < n → (fieldOf es X Y P W S n).getD (k * W + i).toNat 0 = tx es X Y P S i k := by
  intro n
  induction n with
  | zero => intro i k h0 h1 h2 h3; omega
  | succ n ih =>
    intro i k h0 h1 h2 h3
    have hs := fieldOf_succ es X Y P W S n (by omega)
    rw [show ((n : Int) + 1).toNat = n + 1 by omega, show ((n : Int)).toNat = n by omega] at hs
    rw [hs]
    have hl := fieldOf_len es X Y P W S n
    have hkW : 0 ≤ k * W := Int.mul_nonneg h2 hW
    by_cases hk : k < n
    · have hlt : (k + 1) * W ≤ n * W := Int.mul_le_mul_of_nonneg_right (by omega) hW
      have e : (k + 1) * W = k * W + W := by grind
      have hlN : ((n * W.toNat : Nat) : Int) = n * W := by rw [Int.natCast_mul, Int.toNat_of_nonneg hW]
      rw [List.getD_eq_getElem?_getD, List.getElem?_append_left (by rw [hl]; omega), ← List.getD_eq_getElem?_getD]
      exact ih i k h0 h1 h2 hk
    · obtain rfl : k = n := by omega
      have hlN : ((n * W.toNat : Nat) : Int) = n * W := by rw [Int.natCast_mul, Int.toNat_of_nonneg hW]
      rw [List.getD_eq_getElem?_getD, List.getElem?_append_right (by rw [hl]; omega), hl, show (n * W + i).toNat - n * W.toNat = i.toNat by omega]
      unfold rowOf
      rw [List.getElem?_map, List.getElem?_range (by omega)]
      simp only [Option.map_some, Option.getD_some]
      rw [show ((i.toNat : Nat) : Int) = i by omega]
theorem awake10_eq : Ret (fun k => punchcutlaw10_awake.f k) true := by
  have h1 := make_eq tri tri_in (by simp [tri]) tri_grid
  have h2 := make_bad tri (X := 0) (Y := 0) (P := 0) (W := 0) (H := 0) (S := 0) (e := 6) (by omega) (by decide)
  have hl := fieldOf_len tri (-2) (-2) 2 4 8 4
  have g0 := fieldOf_get tri (-2) (-2) 2 4 8 (by omega) 4 0 0 (by omega) (by omega) (by omega) (by omega)
  have g5 := fieldOf_get tri (-2) (-2) 2 4 8 (by omega) 4 1 1 (by omega) (by omega) (by omega) (by omega)
  rw [tri_a] at g0
  rw [tri_b] at g5
  have e0 : rd (fieldOf tri (-2) (-2) 2 4 8 (Int.toNat 4)) 0 = 106 := g0
  have e5 : rd (fieldOf tri (-2) (-2) 2 4 8 (Int.toNat 4)) 5 = 143 := g5
  unfold punchcutlaw10_awake.f
  refine Ret.bind (a := tri) (Ret.const rfl) (Ret.bind h1 (Ret.bind h2 (Ret.const ?_)))
  have hl2 : ((fieldOf tri (-2) (-2) 2 4 8 (Int.toNat 4)).length : Int) = 16 := by rw [show Int.toNat 4 = 4 from rfl, hl]; rfl
  simp only [e0, e5, hl2]
  simp
end Go.Proofs.Ytlljpjbhndcaiaa.M
end
section
set_option linter.unusedVariables false
set_option linter.unusedSimpArgs false
namespace Go.Proofs.Ytlljpjbhndcaiaa.M
open Go.RowKit Go.Proofs.Ytlljpjbhndcaiaa.Q Go.Proofs.YtlljpjbhndcaiaaW.PrintWords Go.Proofs.YtlljpjbhndcaiaaW.PrintLast Go.Proofs.YtlljpjbhndcaiaaW.PrintMore Go.Proofs.Ytlljpjbhndcaiaa.Geo
theorem wf_u8 {a : Int} (h : (Lit.int .u8 a).wf = true) : 0 ≤ a ∧ a ≤ 255 := by
  simpa [Lit.wf, IntKind.min, IntKind.max, IntKind.signed, IntKind.bits, Bool.and_eq_true, decide_eq_true_eq] using h
theorem spec_eq {a b c d e f : Int} (ha : (Lit.int .u8 a).wf = true) (hb : (Lit.int .u8 b).wf = true) (hc : (Lit.int .u8 c).wf = true) (hd : (Lit.int .u8 d).wf = true) (he : (Lit.int .u8 e).wf = true) (hf : (Lit.int .u8 f).wf = true) :
    ∃ X Y P W H S, punchcutlaw09_Spec_Grid.f a b c d e f = some (X, Y, P, W, H, S) ∧ GridIn X Y P W H S ∧ (-128 ≤ X ∧ X ≤ 127) ∧ (-128 ≤ Y ∧ Y ≤ 127) ∧ W ≤ 10 ∧ H ≤ 10 := by
  have a1 := wf_u8 ha
  have b1 := wf_u8 hb
  have c1 := wf_u8 hc
  have d1 := wf_u8 hd
  have e1 := wf_u8 he
  have f1 := wf_u8 hf
  refine ⟨_, _, _, _, _, _, rfl, ?_⟩
  rw [Int.tmod_eq_emod_of_nonneg (a := c) c1.1, Int.tmod_eq_emod_of_nonneg (a := d) d1.1, Int.tmod_eq_emod_of_nonneg (a := e) e1.1, Int.tmod_eq_emod_of_nonneg (a := f) f1.1]
  rw [w64 (n := a) (by omega) (by omega), w64 (n := b) (by omega) (by omega), w64 (n := a - 128) (by omega) (by omega), w64 (n := b - 128) (by omega) (by omega), w64 (n := c % 16) (by omega) (by omega), w64 (n := d % 10) (by omega) (by omega), w64 (n := e % 10) (by omega) (by omega), w64 (n := f % 64) (by omega) (by omega)]
  rw [w64 (n := 1 + c % 16) (by omega) (by omega), w64 (n := 1 + d % 10) (by omega) (by omega), w64 (n := 1 + e % 10) (by omega) (by omega), w64 (n := 1 + f % 64) (by omega) (by omega)]
  exact ⟨⟨by omega, by omega, by omega, by omega, by omega, by omega⟩, by omega, by omega, by omega, by omega⟩
theorem few {es : List S40} {n : Nat} (h : Glyph es n) (hn : n ≤ 1000000) : es.length < 9000000000000000000 := by have := h.few; omega
end Go.Proofs.Ytlljpjbhndcaiaa.M
end
section
set_option linter.unusedVariables false
set_option linter.unusedSimpArgs false
namespace Go.Proofs.Ytlljpjbhndcaiaa.M
open Go.RowKit Go.Proofs.Ytlljpjbhndcaiaa.Q Go.Proofs.YtlljpjbhndcaiaaW.PrintWords Go.Proofs.YtlljpjbhndcaiaaW.PrintLast Go.Proofs.YtlljpjbhndcaiaaW.PrintMore Go.Proofs.Ytlljpjbhndcaiaa.Geo
theorem field_tx (es : List S40) (hes : AllIn es) (hl : es.length < 9000000000000000000) {X Y P W H S i k : Int} (g : GridIn X Y P W H S) (hi : 0 ≤ i ∧ i ≤ 24) (hk : 0 ≤ k ∧ k ≤ 24) {α : Type} (F : Nat → Int → Option α) (r : α) (hF : Ret (fun n => F n (tx es X Y P S i k)) r) :
    Ret (fun n => (grid_Centre.f X Y P W H S i k).bind fun bt321 => (if (es.length : Int) > 0 then ((dist_Sign.f n es bt321.1 bt321.2).bind fun t324 => ((dist_Eight.f n es bt321.1 bt321.2).bind fun t325 => ((grid_Code.f X Y P W H S t324 t325).bind fun t326 => F n t326))) else F n 1)) r := by
  obtain ⟨ec, hp⟩ := centre_eq (X := X) (Y := Y) (P := P) (W := W) (H := H) (S := S) g hi hk
  rw [ec]
  refine Ret.bind (Ret.const rfl) ?_
  by_cases h : es = []
  · subst h
    simp only [List.length_nil, if_neg (show ¬ (((0 : Nat) : Int) > 0) by omega)]
    unfold tx at hF
    simp only [if_true] at hF
    exact hF
  · have hpos : 0 < es.length := List.length_pos_iff.2 h
    obtain ⟨h8, hr⟩ := eight_ret es _ hes hp hl h
    simp only [if_pos (show (es.length : Int) > 0 by omega)]
    refine Ret.bind (sign_eq es _ hp hes hl) (Ret.bind hr ?_)
    rw [code_eq g (sign_cases _ _) h8.1]
    refine Ret.bind (Ret.const rfl) ?_
    unfold tx at hF
    simp only [if_neg h] at hF
    exact hF
theorem field_l1 (es : List S40) (hes : AllIn es) (hl : es.length < 9000000000000000000) {X Y P W H S k : Int} (g : GridIn X Y P W H S) (hk : 0 ≤ k ∧ k ≤ 24) (acc : List Int) (ha : acc.length ≤ 1000) (r : Int × Int × List Int)
    (hr : Ret (fun n => punchcutlaw10_Field.l0 n es (k + 1) X Y P W H S W H (acc ++ rowOf es X Y P S k W.toNat)) r) : ∀ (m : Nat) (i : Int), W.toNat - i.toNat ≤ m → 0 ≤ i → i ≤ W →
    Ret (fun n => punchcutlaw10_Field.l1 n es k i X Y P W H S W H (acc ++ rowOf es X Y P S k i.toNat)) r := by
  have hW := g.w
  intro m
  induction m with
  | zero =>
    intro i hm h0 h1
    obtain rfl : i = W := by omega
    refine Ret.succ (Ret.congr hr fun n => ?_)
    show punchcutlaw10_Field.l1 (n + 1) _ _ _ _ _ _ _ _ _ _ _ _ = _
    rw [punchcutlaw10_Field.l1, if_neg (by omega), w64 (n := k + 1) (by omega) (by omega)]
  | succ m ih =>
    intro i hm h0 h1
    by_cases hz : i < W
    · have hI := ih (i + 1) (by omega) (by omega) (by omega)
      rw [rowOf_succ _ _ _ _ _ _ _ h0, ← List.append_assoc] at hI
      have hln : (acc ++ rowOf es X Y P S k i.toNat).length < 140737488355328 := by rw [List.length_append, rowOf_len]; omega
      refine Ret.succ (Ret.congr (field_tx es hes hl (i := i) (k := k) g (by omega) hk (fun n c => if (acc ++ rowOf es X Y P S k i.toNat).length < 140737488355328 then punchcutlaw10_Field.l1 n es k (wrap64 (i + 1)) X Y P W H S W H (acc ++ rowOf es X Y P S k i.toNat ++ [c]) else none) r ?_) fun n => ?_)
      · simp only [if_pos hln, w64 (n := i + 1) (by omega) (by omega)]
        exact hI
      · show punchcutlaw10_Field.l1 (n + 1) _ _ _ _ _ _ _ _ _ _ _ _ = _
        rw [punchcutlaw10_Field.l1, if_pos hz]
    · obtain rfl : i = W := by omega
      refine Ret.succ (Ret.congr hr fun n => ?_)
      show punchcutlaw10_Field.l1 (n + 1) _ _ _ _ _ _ _ _ _ _ _ _ = _
      rw [punchcutlaw10_Field.l1, if_neg hz, w64 (n := k + 1) (by omega) (by omega)]
theorem field_l0 (es : List S40) (hes : AllIn es) (hl : es.length < 9000000000000000000) {X Y P W H S : Int} (g : GridIn X Y P W H S) : ∀ (m : Nat) (k : Int), H.toNat - k.toNat ≤ m → 0 ≤ k → k ≤ H →
    Ret (fun n => punchcutlaw10_Field.l0 n es k X Y P W H S W H (fieldOf es X Y P W S k.toNat)) (W, H, fieldOf es X Y P W S H.toNat) := by
  have hW := g.w
  have hH := g.h
  intro m
  induction m with
  | zero =>
    intro k hm h0 h1
    obtain rfl : k = H := by omega
    refine Ret.succ (Ret.congr (Ret.const rfl) fun n => ?_)
    show punchcutlaw10_Field.l0 (n + 1) _ _ _ _ _ _ _ _ _ _ _ = _
    rw [punchcutlaw10_Field.l0, if_neg (by omega)]
  | succ m ih =>
    intro k hm h0 h1
    by_cases hz : k < H
    · have hI := ih (k + 1) (by omega) (by omega) (by omega)
      rw [fieldOf_succ _ _ _ _ _ _ _ h0] at hI
      have hln : (fieldOf es X Y P W S k.toNat).length ≤ 1000 := by
        rw [fieldOf_len]
        have : k.toNat * W.toNat ≤ 24 * 24 := Nat.mul_le_mul (by omega) (by omega)
        omega
      have h := field_l1 es hes hl (k := k) g (by omega) _ hln _ hI _ 0 (Nat.le_refl _) (by omega) (by omega)
      rw [show rowOf es X Y P S k (Int.toNat 0) = [] from rfl, List.append_nil] at h
      refine Ret.succ (Ret.congr h fun n => ?_)
      show punchcutlaw10_Field.l0 (n + 1) _ _ _ _ _ _ _ _ _ _ _ = _
      rw [punchcutlaw10_Field.l0, if_pos hz]
    · obtain rfl : k = H := by omega
      refine Ret.succ (Ret.congr (Ret.const rfl) fun n => ?_)
      show punchcutlaw10_Field.l0 (n + 1) _ _ _ _ _ _ _ _ _ _ _ = _
      rw [punchcutlaw10_Field.l0, if_neg hz]
theorem field_eq (es : List S40) (hes : AllIn es) (hl : es.length < 9000000000000000000) {X Y P W H S : Int} (g : GridIn X Y P W H S) : Ret (fun n => punchcutlaw10_Field.f n es X Y P W H S) (W, H, fieldOf es X Y P W S H.toNat) :=
  field_l0 es hes hl g _ 0 (Nat.le_refl _) (by omega) (by have := g.h; omega)
end Go.Proofs.Ytlljpjbhndcaiaa.M
end
section
set_option linter.unusedVariables false
set_option linter.unusedSimpArgs false
namespace Go.Proofs.Ytlljpjbhndcaiaa.M
open Go.RowKit Go.Proofs.Ytlljpjbhndcaiaa.Q Go.Proofs.YtlljpjbhndcaiaaW.PrintWords Go.Proofs.YtlljpjbhndcaiaaW.PrintLast Go.Proofs.YtlljpjbhndcaiaaW.PrintMore Go.Proofs.Ytlljpjbhndcaiaa.Geo
theorem fieldOf_row (es : List S40) (X Y P W S : Int) (hW : 0 ≤ W) : ∀ (n : Nat) (k : Int), 0 ≤ k → k < n → ((fieldOf es X Y P W S n).drop (k * W).toNat).take W.toNat = rowOf es X Y P S k W.toNat := by
  intro n
  induction n with
  | zero => intro k h0 h1; omega
  | succ n ih =>
    intro k h0 h1
    have hs := fieldOf_succ es X Y P W S n (by omega)
    rw [show ((n : Int) + 1).toNat = n + 1 by omega, show ((n : Int)).toNat = n by omega] at hs
    rw [hs]
    have hl := fieldOf_len es X Y P W S n
    have hkW : 0 ≤ k * W := Int.mul_nonneg h0 hW
    have hlN : ((n * W.toNat : Nat) : Int) = n * W := by rw [Int.natCast_mul, Int.toNat_of_nonneg hW]
    by_cases hk : k < n
    · have hlt : (k + 1) * W ≤ n * W := Int.mul_le_mul_of_nonneg_right (by omega) hW
      have e : (k + 1) * W = k * W + W := by grind
      rw [List.drop_append_of_le_length (by rw [hl]; omega), List.take_append_of_le_length (by rw [List.length_drop, hl]; omega)]
      exact ih k h0 hk
    · obtain rfl : k = n := by omega
      rw [List.drop_left' (by rw [hl]; omega), List.take_of_length_le (by rw [rowOf_len]; omega)]
theorem SdfTexel (l0 : List (List S133)) (a1_0 a1_1 a1_2 a1_3 a1_4 a1_5 a2 a3 : Int) (h0 : (Lit.int .u8 a1_0).wf = true) (h1 : (Lit.int .u8 a1_1).wf = true) (h2 : (Lit.int .u8 a1_2).wf = true) (h3 : (Lit.int .u8 a1_3).wf = true) (h4 : (Lit.int .u8 a1_4).wf = true) (h5 : (Lit.int .u8 a1_5).wf = true) (h6 : (Lit.int .u8 a2).wf = true) (h7 : (Lit.int .u8 a3).wf = true) :
    ∃ k, punchcutlaw10_SdfTexel_.f k l0 a1_0 a1_1 a1_2 a1_3 a1_4 a1_5 a2 a3 = some true := by
  refine Ret.of ?_
  obtain ⟨es, he, hg⟩ := glyph_eq l0
  obtain ⟨X, Y, P, W, H, S, hs, g, _, _, hW, hH⟩ := spec_eq h0 h1 h2 h3 h4 h5
  have b2 := wf_u8 h6
  have b3 := wf_u8 h7
  have gw := g.w
  have gh := g.h
  have ma := tmod_in (x := a2) (m := W) b2.1 (by omega)
  have mb := tmod_in (x := a3) (m := H) b3.1 (by omega)
  unfold punchcutlaw10_SdfTexel_.f
  refine Ret.bind awake10_eq ?_
  simp only [if_true]
  refine Ret.bind hg ?_
  rw [hs]
  refine Ret.bind (Ret.const rfl) ?_
  refine Ret.bind (field_eq es he.small (few he (by omega)) g) ?_
  refine Ret.bind (texel_eq es he.small (few he (by omega)) (i := Int.tmod a2 W) (k := Int.tmod a3 H) g (by omega) (by omega)) ?_
  refine Ret.bind (row_eq es he.small (few he (by omega)) (k := Int.tmod a3 H) g (by omega)) (Ret.const ?_)
  have e1 : ((fieldOf es X Y P W S H.toNat).length : Int) = H * W := by
    rw [fieldOf_len, Int.natCast_mul, Int.toNat_of_nonneg (by omega), Int.toNat_of_nonneg (by omega)]
  have e2 : rd (fieldOf es X Y P W S H.toNat) (Int.tmod a3 H * W + Int.tmod a2 W) = tx es X Y P S (Int.tmod a2 W) (Int.tmod a3 H) :=
    fieldOf_get es X Y P W S (by omega) H.toNat _ _ ma.1 ma.2 mb.1 (by omega)
  have e3 := fieldOf_row es X Y P W S (by omega) H.toNat (Int.tmod a3 H) mb.1 (by omega)
  rw [if_pos]
  exact ⟨⟨b2, b3, ⟨by simp only; omega, by simp only; omega⟩, ⟨by simp only; omega, by simp only; omega⟩⟩, e1, e2, e3.symm⟩
end Go.Proofs.Ytlljpjbhndcaiaa.M
end
