/- What is known of memory while a function of the reference runs (its boxed intervals), and the contracts of its small functions in the words of the plain functions. -/
import Derived.Test.YtoalomjmmlnclaaRefB
import Derived.Test.YtoalomjmmlnclaaIvlSpec
namespace Go.Proofs.Ytoalomjmmlnclaa.Ivl5
open Go.RowKit Go.Proofs.Ytoalomjmmlnclaa.PIntervalApply Go.Proofs.YtoalomjmmlnclaaW.PrintWords Go.Proofs.YtoalomjmmlnclaaW.PrintLast
open Go.Proofs.Ytoalomjmmlnclaa.M
set_option linter.unusedVariables false
set_option linter.unusedSimpArgs false

/-- n Bools, by the digits of a number: what has come up in a region. -/
def bl (n m : Nat) : Array Bool := ((List.range n).map (fun i => m / 2 ^ i % 2 == 1)).toArray

/-! #### what is known of memory while a function runs, in one fact -/
/-- Some boxed intervals (where, Lo, Hi) lie in memory, and nothing that existed has changed. -/
structure Bx (w : World) (L : List (Nat × Int × Int)) (W : World) : Prop where
  blk : ∀ (n : Nat) (g : Nat) (a b : Int), L[n]? = some (g, a, b) → W.heap[g]? = some (.cells #[.int .i32 a, .int .i32 b] 51 (0, 0))
  below : Below w.heap.size w W
/-- The boxes' cells, one by one. -/
def Cl : List (Nat × Int × Int) → World → Prop
  | [], _ => True
  | x :: L, W => W.cell? ⟨x.1, 0, none⟩ = some (.int .i32 x.2.1) ∧ W.cell? ⟨x.1, 1, none⟩ = some (.int .i32 x.2.2) ∧ W.frozen? ⟨x.1, 0, none⟩ = false ∧ W.frozen? ⟨x.1, 1, none⟩ = false ∧ Cl L W
section
variable {w W W' : World} {L : List (Nat × Int × Int)} {g : Nat} {a b : Int}
theorem Bx.bk (h : Bx w L W) (n : Nat) (hx : L[n]? = some (g, a, b)) : W.heap[g]? = some (.cells #[.int .i32 a, .int .i32 b] 51 (0, 0)) := h.blk n g a b hx
theorem Bx.c0 (h : Bx w L W) (n : Nat) (hx : L[n]? = some (g, a, b)) : W.cell? ⟨g, 0, none⟩ = some (.int .i32 a) := (blk_cell (h.blk n g a b hx) 0).trans rfl
theorem Bx.c1 (h : Bx w L W) (n : Nat) (hx : L[n]? = some (g, a, b)) : W.cell? ⟨g, 1, none⟩ = some (.int .i32 b) := (blk_cell (h.blk n g a b hx) 1).trans rfl
theorem Bx.cl (h : Bx w L W) : Cl L W := by
  have all : ∀ (M : List (Nat × Int × Int)), (∀ (n g : Nat) (a b : Int), M[n]? = some (g, a, b) → W.heap[g]? = some (.cells #[.int .i32 a, .int .i32 b] 51 (0, 0))) → Cl M W := by
    intro M
    induction M with
    | nil => exact fun _ => trivial
    | cons x M ih =>
      intro hM
      obtain ⟨g, a, b⟩ := x
      have hb := hM 0 g a b rfl
      exact ⟨(blk_cell hb 0).trans rfl, (blk_cell hb 1).trans rfl, blk_frozen hb 0, blk_frozen hb 1, ih (fun n g a b hn => hM (n + 1) g a b hn)⟩
  exact all L h.blk
theorem Bx.step (h : Bx w L W) (hb : Below W.heap.size W W') : Bx w L W' := ⟨fun n g a b hn => blk_below (h.blk n g a b hn) hb, below_step h.below hb⟩
theorem Bx.drew (h : Bx w L W) : Bx w L W.drew := ⟨fun n g a b hn => blk_drew (h.blk n g a b hn), below_drew1 h.below⟩
theorem Bx.drewN (h : Bx w L W) (m : Nat) : Bx w L (W.drewN m) := ⟨fun n g a b hn => blk_drewN (h.blk n g a b hn) m, pw_below_drewN h.below m⟩
theorem Bx.zero (w : World) : Bx w [] w := ⟨fun n g a b hn => by simp at hn, Below.refl _ _⟩
theorem Bx.box (h : Bx w L W) (hg : W.heap.size = g) (a b : Int) : Bx w (L ++ [(g, a, b)]) (W.alloc (.cells #[.int .i32 a, .int .i32 b] 51)) := by
  refine ⟨fun n g' a' b' hn => ?_, below_alloc h.below _⟩
  rcases Nat.lt_or_ge n L.length with hl | hl
  · rw [List.getElem?_append_left hl] at hn
    exact blk_alloc (h.blk n g' a' b' hn) _
  · rw [List.getElem?_append_right hl] at hn
    rcases Nat.eq_zero_or_pos (n - L.length) with e | e
    · rw [e] at hn
      simp at hn
      obtain ⟨rfl, rfl, rfl⟩ := hn
      rw [← hg]; exact blk_new _ _
    · rw [List.getElem?_eq_none (by simp; omega)] at hn
      cases hn
theorem Bx.alloc (h : Bx w L W) (o : Obj) : Bx w L (W.alloc o) := ⟨fun n g a b hn => blk_alloc (h.blk n g a b hn) o, below_alloc h.below o⟩
theorem Bx.take (h : Bx w L W) (k : Nat) : Bx w (L.take k) W := by
  refine ⟨fun n g a b hn => ?_, h.below⟩
  rw [List.getElem?_take] at hn
  split at hn
  · exact h.blk n g a b hn
  · cases hn
theorem Bx.start1 (w : World) (a b : Int) : Bx w [(w.heap.size, a, b)] (w.alloc (.cells #[.int .i32 a, .int .i32 b] 51)) := (Bx.zero w).box rfl a b
theorem Bx.start2 (w : World) (a b c d : Int) : Bx w [(w.heap.size, a, b), (w.heap.size + 1, c, d)] ((w.alloc (.cells #[.int .i32 a, .int .i32 b] 51)).alloc (.cells #[.int .i32 c, .int .i32 d] 51)) :=
  ((Bx.zero w).box rfl a b).box (by simp) c d
theorem Bx.start3 (w : World) (a b c d e f : Int) : Bx w [(w.heap.size, a, b), (w.heap.size + 1, c, d), (w.heap.size + 1 + 1, e, f)] (((w.alloc (.cells #[.int .i32 a, .int .i32 b] 51)).alloc (.cells #[.int .i32 c, .int .i32 d] 51)).alloc (.cells #[.int .i32 e, .int .i32 f] 51)) :=
  (Bx.start2 w a b c d).box (by simp) e f
theorem Bx.start4 (w : World) (a b c d e f i j : Int) : Bx w [(w.heap.size, a, b), (w.heap.size + 1, c, d), (w.heap.size + 1 + 1, e, f), (w.heap.size + 1 + 1 + 1, i, j)] ((((w.alloc (.cells #[.int .i32 a, .int .i32 b] 51)).alloc (.cells #[.int .i32 c, .int .i32 d] 51)).alloc (.cells #[.int .i32 e, .int .i32 f] 51)).alloc (.cells #[.int .i32 i, .int .i32 j] 51)) :=
  (Bx.start3 w a b c d e f).box (by simp) i j
/-- A box is written anew; the others lie elsewhere. -/
theorem Bx.put (h : Bx w L W) (n : Nat) (hx : L[n]? = some (g, a, b)) (hd : ∀ (m g' : Nat) (a' b' : Int), L[m]? = some (g', a', b') → m ≠ n → g' ≠ g) (hg : w.heap.size ≤ g) (u v : Int) :
    Bx w (L.set n (g, u, v)) ((W.setCell ⟨g, 0, none⟩ (.int .i32 u)).setCell ⟨g, 1, none⟩ (.int .i32 v)) := by
  refine ⟨fun m g' a' b' hm => ?_, below_set (below_set h.below hg) hg⟩
  by_cases e : m = n
  · subst e
    have hl : m < L.length := by
      rcases Nat.lt_or_ge m L.length with hl | hl
      · exact hl
      · rw [List.getElem?_eq_none hl] at hx; cases hx
    rw [List.getElem?_set_self hl] at hm
    simp at hm
    obtain ⟨rfl, rfl, rfl⟩ := hm
    exact blk_put (cs := #[.int .i32 u, .int .i32 b]) (blk_put (cs := #[.int .i32 a, .int .i32 b]) (h.blk m g a b hx) 0 _ rfl) 1 _ rfl
  · rw [List.getElem?_set_ne (Ne.symm e)] at hm
    have hne := hd m g' a' b' hm e
    exact blk_far (blk_far (h.blk m g' a' b' hm) (p := ⟨g, 0, none⟩) hne _) (p := ⟨g, 1, none⟩) hne _
/-- The result's box is written, and told. -/
theorem Bx.ret (h : Bx w L W) (n : Nat) (hx : L[n]? = some (g, a, b)) (hg : w.heap.size ≤ g) (u v : Int) :
    ((W.setCell ⟨g, 0, none⟩ (.int .i32 u)).setCell ⟨g, 1, none⟩ (.int .i32 v)).heap[g]? = some (.cells #[.int .i32 u, .int .i32 v] 51 (0, 0)) ∧ Below w.heap.size w ((W.setCell ⟨g, 0, none⟩ (.int .i32 u)).setCell ⟨g, 1, none⟩ (.int .i32 v)) :=
  ⟨blk_put (cs := #[.int .i32 u, .int .i32 b]) (blk_put (cs := #[.int .i32 a, .int .i32 b]) (h.blk n g a b hx) 0 _ rfl) 1 _ rfl, below_set (below_set h.below hg) hg⟩
end

section
variable {w W : World} {L : List (Nat × Int × Int)} {g : Nat} {a b : Int}
/-- One bound of a box is written anew. -/
theorem Bx.put0 (h : Bx w L W) (n : Nat) (hx : L[n]? = some (g, a, b)) (hd : ∀ (m g' : Nat) (a' b' : Int), L[m]? = some (g', a', b') → m ≠ n → g' ≠ g) (hg : w.heap.size ≤ g) (u : Int) : Bx w (L.set n (g, u, b)) (W.setCell ⟨g, 0, none⟩ (.int .i32 u)) := by
  refine ⟨fun m g' a' b' hm => ?_, below_set h.below hg⟩
  by_cases e : m = n
  · subst e
    rw [List.getElem?_set_self (List.getElem?_eq_some_iff.1 hx).1] at hm
    simp at hm
    obtain ⟨rfl, rfl, rfl⟩ := hm
    exact blk_put (cs := #[.int .i32 a, .int .i32 b]) (h.blk m g a b hx) 0 _ rfl
  · rw [List.getElem?_set_ne (Ne.symm e)] at hm
    exact blk_far (h.blk m g' a' b' hm) (p := ⟨g, 0, none⟩) (hd m g' a' b' hm e) _
theorem Bx.put1 (h : Bx w L W) (n : Nat) (hx : L[n]? = some (g, a, b)) (hd : ∀ (m g' : Nat) (a' b' : Int), L[m]? = some (g', a', b') → m ≠ n → g' ≠ g) (hg : w.heap.size ≤ g) (u : Int) : Bx w (L.set n (g, a, u)) (W.setCell ⟨g, 1, none⟩ (.int .i32 u)) := by
  refine ⟨fun m g' a' b' hm => ?_, below_set h.below hg⟩
  by_cases e : m = n
  · subst e
    rw [List.getElem?_set_self (List.getElem?_eq_some_iff.1 hx).1] at hm
    simp at hm
    obtain ⟨rfl, rfl, rfl⟩ := hm
    exact blk_put (cs := #[.int .i32 a, .int .i32 b]) (h.blk m g a b hx) 1 _ rfl
  · rw [List.getElem?_set_ne (Ne.symm e)] at hm
    exact blk_far (h.blk m g' a' b' hm) (p := ⟨g, 1, none⟩) (hd m g' a' b' hm e) _
end

/-! #### the small functions -/
theorem full_c (w : World) : Calls Try.prog 65 #[] w fun e w' => e = .returned (.agg #[.int .i32 (-2147483648), .int .i32 2147483647]) ∧ Below w.heap.size w w' := ontimeref27_Full.calls _ _ w rfl
theorem none_c (w : World) : Calls Try.prog 67 #[] w fun e w' => e = .returned (.agg #[.int .i32 1, .int .i32 0]) ∧ Below w.heap.size w w' := ontimeref27_Empty.calls _ _ w rfl
theorem isE_c (a b : Int) (r : Bool) (h : decide (b < a) = r) (w : World) : Calls Try.prog 66 #[.agg #[.int .i32 a, .int .i32 b]] w fun e w' => e = .returned (.bool r) ∧ Below w.heap.size w w' := ontimeref27_empty.calls a b r w (by rw [← h]; rfl)
theorem single_c (a b : Int) (r : Bool) (h : (a == b) = r) (w : World) : Calls Try.prog 68 #[.agg #[.int .i32 a, .int .i32 b]] w fun e w' => e = .returned (.bool r) ∧ Below w.heap.size w w' := ontimeref27_single.calls a b r w (by rw [← h]; rfl)
theorem has_c (a b n : Int) (r : Bool) (h : hasv a b n = r) (w : World) : Calls Try.prog 76 #[.agg #[.int .i32 a, .int .i32 b], .int .i32 n] w fun e w' => e = .returned (.bool r) ∧ Below w.heap.size w w' :=
  ontimeref27_Has.calls a b n r w (by
    rw [← h]; unfold ontimeref27_Has.f hasv
    by_cases h1 : a ≤ n
    · rw [if_pos h1]; exact congrArg some (decide_eq_decide.mpr (by omega))
    · rw [if_neg h1]; exact congrArg some (decide_eq_false (by omega)).symm)
theorem least_c (a b r : Int) (h : min a b = r) (w : World) : Calls Try.prog 84 #[.int .i64 a, .int .i64 b] w fun e w' => e = .returned (.int .i64 r) ∧ Below w.heap.size w w' :=
  (ontimeref27_least.calls a b r w (by rw [← h]; unfold ontimeref27_least.f; split <;> (apply congrArg some; omega))).mono fun e w' ⟨h1, h2⟩ => ⟨h1, h2.below⟩
theorem most_c (a b r : Int) (h : max a b = r) (w : World) : Calls Try.prog 85 #[.int .i64 a, .int .i64 b] w fun e w' => e = .returned (.int .i64 r) ∧ Below w.heap.size w w' :=
  (ontimeref27_most.calls a b r w (by rw [← h]; unfold ontimeref27_most.f; split <;> (apply congrArg some; omega))).mono fun e w' ⟨h1, h2⟩ => ⟨h1, h2.below⟩
theorem truth_c (a b : Bool) (r s : Int) (h : truthv a b = (r, s)) (w : World) : Calls Try.prog 75 #[.bool a, .bool b] w fun e w' => e = .returned (.agg #[.int .i32 r, .int .i32 s]) ∧ Below w.heap.size w w' :=
  ontimeref27_truth.calls a b r s w (by rw [← h]; cases a <;> cases b <;> rfl)
theorem plain_c (a b : Int) (w : World) : Calls Try.prog 40 #[.agg #[.int .i32 a, .int .i32 b]] w fun e w' => e = .returned (.agg #[.int .i32 a, .int .i32 b]) ∧ Below w.heap.size w w' := ontimelaw27_plain.calls a b a b w rfl
/-! #### ones -/
theorem ones_l (m : Int) (hm : I32 m) (d : Nat) : ∀ (k j : Nat), j + d = 32 → (∀ i : Nat, i < j → (2 : Int) ^ i - 1 < m) → d + 1 < k → ontimeref27_ones.l0 k m ((2 : Int) ^ j) = some (maskv m) := by
  have hm' := hm
  unfold I32 at hm'
  have val : ∀ j : Nat, j ≤ 32 → (1 : Int) ≤ 2 ^ j ∧ (2 : Int) ^ j ≤ 4294967296 := by
    intro j hj
    have h1 : (2 : Nat) ^ j ≤ 2 ^ 32 := Nat.pow_le_pow_right (by decide) hj
    have h2 : 1 ≤ (2 : Nat) ^ j := Nat.one_le_two_pow
    have e : ((2 ^ j : Nat) : Int) = (2 : Int) ^ j := by simp
    omega
  have stop : ∀ (k j : Nat), j ≤ 32 → (∀ i : Nat, i < j → (2 : Int) ^ i - 1 < m) → ¬ (2 : Int) ^ j - 1 < m → ontimeref27_ones.l0 (k + 1) m ((2 : Int) ^ j) = some (maskv m) := by
    intro k j hj hlow hstop
    have hv := val j hj
    rw [ontimeref27_ones.l0, w64 (x := m) (by omega), w64 (x := (2 : Int) ^ j - 1) (by omega), if_neg hstop]
    clear hv
    congr 1
    unfold maskv
    by_cases h0 : m ≤ 0
    · rw [if_pos h0]
      have e : j = 0 := by
        rcases Nat.eq_zero_or_pos j with e | e
        · exact e
        · have := hlow 0 e; simp at this; omega
      subst e; decide +kernel
    · rw [if_neg h0]
      have hj0 : 0 < j := by
        rcases Nat.eq_zero_or_pos j with e | e
        · subst e; simp at hstop; omega
        · exact e
      have lo := hlow (j - 1) (by omega)
      have en : ∀ i : Nat, ((2 ^ i : Nat) : Int) = (2 : Int) ^ i := fun i => by simp
      have h1 : 2 ^ (j - 1) ≤ m.toNat := by have := en (j - 1); omega
      have h2 : m.toNat < 2 ^ j := by have := en j; omega
      have e : m.toNat.log2 = j - 1 := by
        rw [Nat.log2_eq_iff (by omega)]
        exact ⟨h1, by rw [show j - 1 + 1 = j by omega]; exact h2⟩
      rw [e, show j - 1 + 1 = j by omega]
      have hj31 : j ≤ 31 := by
        by_cases c : j = 32
        · subst c
          have := hlow 31 (by decide)
          simp at this
          omega
        · omega
      have h3 : (2 : Nat) ^ j ≤ 2 ^ 31 := Nat.pow_le_pow_right (by decide) hj31
      have h4 := en j
      have h5 := val j hj
      exact w32 (by unfold I32; omega)
  induction d with
  | zero =>
    intro k j hj hlow hk
    obtain ⟨k, rfl⟩ : ∃ n, k = n + 1 := ⟨k - 1, by omega⟩
    have e : j = 32 := by omega
    subst e
    exact stop k 32 (by omega) hlow (by simp; omega)
  | succ d ih =>
    intro k j hj hlow hk
    obtain ⟨k, rfl⟩ : ∃ n, k = n + 1 := ⟨k - 1, by omega⟩
    by_cases c : (2 : Int) ^ j - 1 < m
    · have hv := val j (by omega)
      rw [ontimeref27_ones.l0, w64 (x := m) (by omega), w64 (x := (2 : Int) ^ j - 1) (by omega), if_pos c]
      have e : wrap64 (2 * (2 : Int) ^ j) = (2 : Int) ^ (j + 1) := by
        rw [Int.pow_succ]; generalize (2 : Int) ^ j = p at *; unfold wrap64; omega
      rw [e]
      exact ih k (j + 1) (by omega) (fun i hi => by
        rcases Nat.lt_or_ge i j with h | h
        · exact hlow i h
        · have : i = j := by omega
          subst this; exact c) (by omega)
    · exact stop k j (by omega) hlow c
theorem ones_c (n r : Int) (hn : I32 n) (h : maskv n = r) (w : World) : Calls Try.prog 87 #[.int .i32 n] w fun e w' => e = .returned (.int .i32 r) ∧ Below w.heap.size w w' :=
  (ontimeref27_ones.calls 40 n r w (by rw [← h]; exact ones_l n hn 32 40 0 rfl (fun i hi => absurd hi (Nat.not_lt_zero i)) (by decide))).mono fun e w' ⟨h1, h2⟩ => ⟨h1, h2.below⟩
/-! #### hull -/
theorem hull_end (k : Nat) (l : List Int) (lo hi i : Int) (h : ¬ i < (l.length : Int)) (hlo : lo ≤ hi) : ontimeref27_hull.l0 (k + 1) l lo hi i = some (clip lo hi) := by
  rw [ontimeref27_hull.l0, if_neg h]
  unfold clip ontimeref27_Full.f
  by_cases h1 : lo < -2147483648
  · simp [h1, fullv]
  · by_cases h2 : 2147483647 < hi
    · simp [h1, h2, fullv]
    · rw [if_neg h1, if_neg h2, if_neg (by omega), w32 (by unfold I32; omega), w32 (by unfold I32; omega)]
theorem hull_step (k : Nat) (l : List Int) (lo hi i : Int) (h0 : 0 ≤ i) (h : i < (l.length : Int)) (hl : l.length < 100) : ontimeref27_hull.l0 (k + 1) l lo hi i = ontimeref27_hull.l0 k l (min lo (rd l i)) (max hi (rd l i)) (i + 1) := by
  rw [ontimeref27_hull.l0, if_pos h, if_pos h0]
  have e1 : ontimeref27_least.f lo (rd l i) = some (min lo (rd l i)) := by unfold ontimeref27_least.f; split <;> (apply congrArg some; omega)
  have e2 : ontimeref27_most.f hi (rd l i) = some (max hi (rd l i)) := by unfold ontimeref27_most.f; split <;> (apply congrArg some; omega)
  rw [e1, e2, w64 (by omega)]; rfl
theorem hull_f4 (k : Nat) (p q r s : Int) : ontimeref27_hull.f (k + 6) [p, q, r, s] = some (hull4 p q r s) := by
  unfold ontimeref27_hull.f
  rw [if_pos (by simp)]
  rw [hull_step _ _ _ _ _ (by decide) (by simp) (by simp), hull_step _ _ _ _ _ (by decide) (by simp) (by simp), hull_step _ _ _ _ _ (by decide) (by simp) (by simp), hull_step _ _ _ _ _ (by decide) (by simp) (by simp)]
  show ontimeref27_hull.l0 (k + 1 + 1) [p, q, r, s] (min (min (min (min p p) q) r) s) (max (max (max (max p p) q) r) s) 4 = _
  rw [hull_end _ _ _ _ _ (by simp) (by omega)]
  unfold hull4
  rw [show min p p = p by omega, show max p p = p by omega]
theorem hull_f2 (k : Nat) (p q : Int) : ontimeref27_hull.f (k + 4) [p, q] = some (hull2 p q) := by
  unfold ontimeref27_hull.f
  rw [if_pos (by simp)]
  rw [hull_step _ _ _ _ _ (by decide) (by simp) (by simp), hull_step _ _ _ _ _ (by decide) (by simp) (by simp)]
  show ontimeref27_hull.l0 (k + 1 + 1) [p, q] (min (min p p) q) (max (max p p) q) 2 = _
  rw [hull_end _ _ _ _ _ (by simp) (by omega)]
  unfold hull2
  rw [show min p p = p by omega, show max p p = p by omega]
theorem hull_f8 (k : Nat) (p q r s t u v x : Int) : ontimeref27_hull.f (k + 10) [p, q, r, s, t, u, v, x] = some (clip (min (min (min (min p q) r) s) (min (min (min t u) v) x)) (max (max (max (max p q) r) s) (max (max (max t u) v) x))) := by
  unfold ontimeref27_hull.f
  rw [if_pos (by simp)]
  rw [hull_step _ _ _ _ _ (by decide) (by simp) (by simp), hull_step _ _ _ _ _ (by decide) (by simp) (by simp), hull_step _ _ _ _ _ (by decide) (by simp) (by simp), hull_step _ _ _ _ _ (by decide) (by simp) (by simp), hull_step _ _ _ _ _ (by decide) (by simp) (by simp), hull_step _ _ _ _ _ (by decide) (by simp) (by simp), hull_step _ _ _ _ _ (by decide) (by simp) (by simp), hull_step _ _ _ _ _ (by decide) (by simp) (by simp)]
  show ontimeref27_hull.l0 (k + 1 + 1) [p, q, r, s, t, u, v, x] (min (min (min (min (min (min (min (min p p) q) r) s) t) u) v) x) (max (max (max (max (max (max (max (max p p) q) r) s) t) u) v) x) 8 = _
  rw [hull_end _ _ _ _ _ (by simp) (by omega)]
  simp only [Int.min_self, Int.max_self, Int.min_assoc, Int.max_assoc]
/-! #### corners -/
theorem corners_f (k : Nat) (op a b c d p q r s : Int) (ha : I32 a) (hb : I32 b) (hc : I32 c) (hd : I32 d) (e0 : ontimeref27_exact.f op a c = some p) (e1 : ontimeref27_exact.f op a d = some q) (e2 : ontimeref27_exact.f op b c = some r) (e3 : ontimeref27_exact.f op b d = some s) :
    ontimeref27_corners.f (k + 10) op a b c d = some [p, q, r, s] := by
  have w1 : wrap64 a = a := w64 (by unfold I32 at ha; omega)
  have w2 : wrap64 b = b := w64 (by unfold I32 at hb; omega)
  have w3 : wrap64 c = c := w64 (by unfold I32 at hc; omega)
  have w4 : wrap64 d = d := w64 (by unfold I32 at hd; omega)
  unfold ontimeref27_corners.f
  rw [w1, w2, w3, w4]
  simp [ontimeref27_corners.l0, ontimeref27_corners.l1, rd, rdOf, e0, e1, e2, e3, wrap64]
theorem hull2_c (p q r s : Int) (h : hull2 p q = (r, s)) (w : World) (g : Nat) (c0 : w.cell? ⟨g, 0, none⟩ = some (.int .i64 p)) (c1 : w.cell? ⟨g, 1, none⟩ = some (.int .i64 q)) :
    Calls Try.prog 69 #[.slice (some ⟨g, 0, none⟩) 2 2] w fun e w' => e = .returned (.agg #[.int .i32 r, .int .i32 s]) ∧ Below w.heap.size w w' :=
  ontimeref27_hull.calls 4 (some ⟨g, 0, none⟩) 2 [p, q] r s w (Kd.C_of_reads (d := (0 : Int)) (h1 := fun _ => rfl) ⟨rfl, by simp, fun _ => ⟨_, rfl, fun j hj => by
    rcases (show j = 0 ∨ j = 1 by simp at hj; omega) with rfl | rfl
    · exact c0
    · exact c1⟩⟩) (Nat.le_refl _) (by rw [hull_f2 0, h])
theorem pow_bound (n : Int) (h0 : 0 ≤ n) (h1 : n < 32) : (1 : Int) ≤ 2 ^ n.toNat ∧ (2 : Int) ^ n.toNat ≤ 2147483648 := by
  have h : (2 : Nat) ^ n.toNat ≤ 2 ^ 31 := Nat.pow_le_pow_right (by decide) (by omega)
  have h' : 1 ≤ (2 : Nat) ^ n.toNat := Nat.one_le_two_pow
  have e : ((2 ^ n.toNat : Nat) : Int) = (2 : Int) ^ n.toNat := by simp
  rw [← e]
  omega
theorem mul_pow_bound (a p : Int) (ha : I32 a) (hp : 1 ≤ p ∧ p ≤ 2147483648) : -4611686018427387904 ≤ a * p ∧ a * p ≤ 4611686018427387904 := by
  have h : (a * p).natAbs ≤ 2147483648 * 2147483648 := by
    rw [Int.natAbs_mul]
    exact Nat.mul_le_mul (by unfold I32 at ha; omega) (by omega)
  omega

end Go.Proofs.Ytoalomjmmlnclaa.Ivl5
