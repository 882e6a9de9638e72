/- The reference of chapter 03: what its Apply answers, in the plain function's words (wv). No condition but that both operands are words. -/
import Derived.Test.YtoalomjmmlnclaaRefA
import Derived.Test.YtoalomjmmlnclaaIvlSpec
namespace Go.Proofs.Ytoalomjmmlnclaa.Ivl5
open Go.RowKit Go.Proofs.Ytoalomjmmlnclaa.PIntervalApply Go.Proofs.YtoalomjmmlnclaaW.PrintWords Go.Proofs.YtoalomjmmlnclaaW.PrintLast
open Go.Proofs.Ytoalomjmmlnclaa.M
set_option linter.unusedVariables false
set_option linter.unusedSimpArgs false

theorem wrap_f (n : Int) : ontimeref03_Wrap.f n = some (wrap32 n) := wrap_by_hand n

theorem bit_l (d : Nat) : ∀ (k A : Nat), A < 4294967296 → d < 64 → d < k → ontimeref03_bit.l0 k (d : Int) (A : Int) = some ((bitn A d : Nat) : Int) := by
  induction d with
  | zero =>
    intro k A _ _ hk
    obtain ⟨k, rfl⟩ : ∃ m, k = m + 1 := ⟨k - 1, by omega⟩
    rw [ontimeref03_bit.l0, if_neg (by simp), Int.tmod_eq_emod_of_nonneg (by omega)]
    unfold bitn
    simp
  | succ d ih =>
    intro k A hA hd hk
    obtain ⟨k, rfl⟩ : ∃ m, k = m + 1 := ⟨k - 1, by omega⟩
    rw [ontimeref03_bit.l0, if_pos (by omega), Int.tdiv_eq_ediv_of_nonneg (by omega)]
    have e1 : wrap64 (((d + 1 : Nat) : Int) - 1) = (d : Int) := by unfold wrap64; omega
    have e2 : wrap64 ((A : Int) / 2) = ((A / 2 : Nat) : Int) := by unfold wrap64; omega
    rw [e1, e2, ih k (A / 2) (by omega) (by omega) (by omega)]
    unfold bitn
    rw [Nat.div_div_eq_div_mul, Nat.pow_succ, Nat.mul_comm 2]

theorem bit_f (k : Nat) (x : Int) (i : Nat) (hx : I32 x) (hi : i < 64) (hk : i + 1 < k) : ontimeref03_bit.f k x i = some ((bitn (x % 4294967296).toNat i : Nat) : Int) := by
  obtain ⟨k, rfl⟩ : ∃ m, k = m + 1 := ⟨k - 1, by omega⟩
  unfold ontimeref03_bit.f
  unfold I32 at hx
  rw [w64 (by omega)]
  by_cases h : x < 0
  · rw [if_pos h, ontimeref03_bit.j0]
    have e : wrap64 (x + 4294967296) = (((x % 4294967296).toNat : Nat) : Int) := by unfold wrap64; omega
    rw [e]; exact bit_l i k _ (by omega) hi (by omega)
  · rw [if_neg h, ontimeref03_bit.j0]
    have e : x = (((x % 4294967296).toNat : Nat) : Int) := by omega
    have h2 := bit_l i k (x % 4294967296).toNat (by omega) hi (by omega)
    rwa [← e] at h2

/-- Where the reference sets a bit. -/
def hit (op : Int) (s : Nat) : Bool := if op = 11 then s == 2 else if op = 12 then decide (1 ≤ s) else s == 1
theorem bits_step (k : Nat) (op x y n p : Int) (i : Nat) (hop : op = 11 ∨ op = 12 ∨ op = 13) (hx : I32 x) (hy : I32 y) (hi : i < 32) (hk : i + 1 < k) :
    ontimeref03_bits.l0 (k + 1) op x y n p i =
      if hit op (bitn (x % 4294967296).toNat i + bitn (y % 4294967296).toNat i) = true then ontimeref03_bits.l0 k op x y (wrap64 (n + p)) (wrap64 (2 * p)) (wrap64 ((i : Int) + 1))
      else ontimeref03_bits.l0 k op x y n (wrap64 (2 * p)) (wrap64 ((i : Int) + 1)) := by
  rw [ontimeref03_bits.l0, if_pos (by omega), bit_f k x i hx (by omega) hk, bit_f k y i hy (by omega) hk]
  simp only [Option.bind_some]
  have h1 := bitn_lt (x % 4294967296).toNat i
  have h2 := bitn_lt (y % 4294967296).toNat i
  generalize bitn (x % 4294967296).toNat i = a at *
  generalize bitn (y % 4294967296).toNat i = b at *
  have e : wrap64 ((a : Int) + (b : Int)) = ((a + b : Nat) : Int) := by unfold wrap64; omega
  rw [e]
  generalize a + b = s
  unfold hit
  rcases hop with rfl | rfl | rfl
  · by_cases c : s = 2
    · simp [c]
    · simp [c]; omega
  · by_cases c : 1 ≤ s
    · simp [c]; omega
    · simp [c]; omega
  · by_cases c : s = 1
    · simp [c]
    · simp [c]; omega

theorem bits_l (op x y : Int) (R : Nat) (hop : op = 11 ∨ op = 12 ∨ op = 13) (hx : I32 x) (hy : I32 y)
    (hR : ∀ i, bitn R i = if hit op (bitn (x % 4294967296).toNat i + bitn (y % 4294967296).toNat i) = true then 1 else 0) (d : Nat) :
    ∀ (k i : Nat), i + d = 32 → d + 40 ≤ k → ontimeref03_bits.l0 k op x y ((R % 2 ^ i : Nat) : Int) ((2 ^ i : Nat) : Int) i = some (wrap32 ((R % 2 ^ 32 : Nat) : Int)) := by
  induction d with
  | zero =>
    intro k i hi hk
    obtain ⟨k, rfl⟩ : ∃ m, k = m + 1 := ⟨k - 1, by omega⟩
    have e : i = 32 := by omega
    subst e
    rw [ontimeref03_bits.l0, if_neg (by omega), wrap_f]
    rfl
  | succ d ih =>
    intro k i hi hk
    obtain ⟨k, rfl⟩ : ∃ m, k = m + 1 := ⟨k - 1, by omega⟩
    have hp : 2 ^ i ≤ 2 ^ 31 := Nat.pow_le_pow_right (by decide) (by omega)
    have hn : R % 2 ^ i < 2 ^ i := Nat.mod_lt _ (Nat.two_pow_pos i)
    have hs := mod_succ R i
    have e1 : wrap64 ((i : Int) + 1) = ((i + 1 : Nat) : Int) := by unfold wrap64; omega
    have e2 : wrap64 (2 * ((2 ^ i : Nat) : Int)) = ((2 ^ (i + 1) : Nat) : Int) := by
      rw [Nat.pow_succ]; generalize 2 ^ i = p at *; unfold wrap64; omega
    have e3 : wrap64 (((R % 2 ^ i : Nat) : Int) + ((2 ^ i : Nat) : Int)) = ((R % 2 ^ i + 2 ^ i : Nat) : Int) := by
      generalize 2 ^ i = p at *; generalize R % p = n at *; unfold wrap64; omega
    rw [bits_step k op x y _ _ i hop hx hy (by omega) (by omega), e1, e2, e3]
    have hb := hR i
    by_cases c : hit op (bitn (x % 4294967296).toNat i + bitn (y % 4294967296).toNat i) = true
    · rw [if_pos c] at hb ⊢
      rw [hb, Nat.one_mul] at hs
      rw [← hs]
      exact ih k (i + 1) (by omega) (by omega)
    · rw [if_neg c] at hb ⊢
      simp only [hb, Nat.zero_mul, Nat.add_zero] at hs
      rw [← hs]
      exact ih k (i + 1) (by omega) (by omega)

theorem bits_f (op x y : Int) (R : Nat) (hop : op = 11 ∨ op = 12 ∨ op = 13) (hx : I32 x) (hy : I32 y)
    (hR : ∀ i, bitn R i = if hit op (bitn (x % 4294967296).toNat i + bitn (y % 4294967296).toNat i) = true then 1 else 0) (hR' : R < 2 ^ 32) (k : Nat) (hk : 72 ≤ k) :
    ontimeref03_bits.f k op x y = some (wrap32 (R : Int)) := by
  have h := bits_l op x y R hop hx hy hR 32 k 0 rfl hk
  rw [Nat.mod_eq_of_lt hR', Nat.pow_zero, Nat.mod_one] at h
  exact h

theorem toNat_lt (x : Int) : (x % 4294967296).toNat < 2 ^ 32 := by omega
theorem bits_and (x y : Int) (hx : I32 x) (hy : I32 y) (k : Nat) (hk : 72 ≤ k) : ontimeref03_bits.f k 11 x y = some (Go.bits .and .i32 x y) := by
  rw [and_nat]
  refine bits_f 11 x y _ (.inl rfl) hx hy (fun i => ?_) (Nat.and_lt_two_pow _ (toNat_lt y)) k hk
  rw [bitn_and]; simp [hit]
theorem bits_or (x y : Int) (hx : I32 x) (hy : I32 y) (k : Nat) (hk : 72 ≤ k) : ontimeref03_bits.f k 12 x y = some (Go.bits .or .i32 x y) := by
  rw [or_nat]
  refine bits_f 12 x y _ (.inr (.inl rfl)) hx hy (fun i => ?_) (Nat.or_lt_two_pow (toNat_lt x) (toNat_lt y)) k hk
  rw [bitn_or]; simp [hit]
theorem bits_xor (x y : Int) (hx : I32 x) (hy : I32 y) (k : Nat) (hk : 72 ≤ k) : ontimeref03_bits.f k 13 x y = some (Go.bits .xor .i32 x y) := by
  rw [xor_nat]
  refine bits_f 13 x y _ (.inr (.inr rfl)) hx hy (fun i => ?_) (Nat.xor_lt_two_pow (toNat_lt x) (toNat_lt y)) k hk
  rw [bitn_xor]; simp [hit]

theorem shift_left (by_ : Int) (hb : by_ < 64) (d : Nat) : ∀ (k : Nat) (x i : Int), I32 x → 0 ≤ i → by_ - i = d → d < k → ontimeref03_Shift.l0 k x by_ true i = some (wrap32 (x * 2 ^ d)) := by
  induction d with
  | zero =>
    intro k x i hx h0 hi hk
    obtain ⟨k, rfl⟩ : ∃ m, k = m + 1 := ⟨k - 1, by omega⟩
    rw [ontimeref03_Shift.l0, if_neg (by omega), Int.pow_zero, Int.mul_one, w32 hx]
  | succ d ih =>
    intro k x i hx h0 hi hk
    obtain ⟨k, rfl⟩ : ∃ m, k = m + 1 := ⟨k - 1, by omega⟩
    rw [ontimeref03_Shift.l0, if_pos (by omega), if_pos rfl, wrap_f, Option.bind_some]
    have e1 : wrap64 (i + 1) = i + 1 := w64 (by omega)
    have e2 : wrap64 (2 * wrap64 x) = 2 * x := by unfold I32 at hx; unfold wrap64; omega
    rw [e1, e2, ih k _ (i + 1) (I32_wrap _) (by omega) (by omega) (by omega)]
    congr 1
    apply w32_congr
    rw [Int.mul_emod, w32_emod, ← Int.mul_emod, Int.pow_succ, Int.mul_comm 2 x, Int.mul_assoc, Int.mul_comm 2]

theorem shift_right (by_ : Int) (hb : by_ < 64) (d : Nat) : ∀ (k : Nat) (x i : Int), I32 x → 0 ≤ i → by_ - i = d → d + 4 < k → ontimeref03_Shift.l0 k x by_ false i = some (x / 2 ^ d) := by
  induction d with
  | zero =>
    intro k x i hx h0 hi hk
    obtain ⟨k, rfl⟩ : ∃ m, k = m + 1 := ⟨k - 1, by omega⟩
    rw [ontimeref03_Shift.l0, if_neg (by omega), Int.pow_zero, Int.ediv_one]
  | succ d ih =>
    intro k x i hx h0 hi hk
    obtain ⟨k, rfl⟩ : ∃ m, k = m + 1 := ⟨k - 1, by omega⟩
    have hbit := bit_f k x 0 hx (by decide) (by omega)
    rw [ontimeref03_Shift.l0, if_pos (by omega), if_neg (by decide)]
    rw [show ((0 : Nat) : Int) = 0 from rfl] at hbit
    rw [hbit, Option.bind_some]
    have e1 : wrap64 (i + 1) = i + 1 := w64 (by omega)
    have hb0 : ((bitn (x % 4294967296).toNat 0 : Nat) : Int) = x % 2 := by unfold bitn; simp; omega
    unfold I32 at hx
    have e2 : wrap64 (wrap64 x - x % 2) = x - x % 2 := by unfold wrap64; omega
    have e3 : (x - x % 2).tdiv 2 = x / 2 := by
      rw [Int.tdiv_eq_ediv_of_dvd (by omega)]; omega
    have e4 : wrap32 (wrap64 (x / 2)) = x / 2 := by unfold wrap32 wrap64; omega
    rw [e1, hb0, e2, e3, e4, ih k _ (i + 1) (by unfold I32; omega) (by omega) (by omega) (by omega)]
    rw [Int.ediv_ediv_of_nonneg (by decide), Int.pow_succ, Int.mul_comm 2]

theorem count_f (y : Int) (hy : I32 y) : ontimeref03_count.f y = some (y % 32) := by
  unfold I32 at hy
  unfold ontimeref03_count.f
  rw [w64 (by omega)]
  have hm : (Int.tmod y 32 = y % 32 ∧ 0 ≤ Int.tmod y 32) ∨ (Int.tmod y 32 = y % 32 - 32) := by
    rw [Int.tmod_eq_emod]
    split
    · left; constructor <;> omega
    · right; simp
  generalize Int.tmod y 32 = m at hm
  split
  · congr 1; unfold wrap64; omega
  · congr 1; omega

theorem beq_dec (x y : Int) : (x == y) = decide (x = y) := rfl
theorem bne_dec (x y : Int) : (x != y) = decide (x ≠ y) := by by_cases h : x = y <;> simp [h]
theorem ref_truth (b : Bool) : ontimeref03_truth.f b = some (tr b) := by cases b <;> rfl

theorem mod_by_hand (x y : Int) (hx : I32 x) (hy : I32 y) (h0 : y ≠ 0) :
    wrap32 (wrap64 (x - wrap64 (wrap64 (wrap32 (wrap64 (x.tdiv y))) * y))) = x.tmod y := by
  have hb := tdiv_bound x y
  have hm := Int.tmod_add_mul_tdiv x y
  have hl : (x.tmod y).natAbs < y.natAbs := by
    rw [Int.natAbs_tmod]; exact Nat.mod_lt _ (by omega)
  unfold I32 at hx hy
  have e1 : wrap64 (x.tdiv y) = x.tdiv y := w64 (by omega)
  rw [e1]
  generalize hq : x.tdiv y = q at *
  by_cases c : q = 2147483648
  · have hy' : y = -1 := by
      by_cases h1 : y = -1
      · exact h1
      · exfalso
        have h2 : y = 1 ∨ 2 ≤ y.natAbs := by omega
        rcases h2 with h2 | h2
        · subst h2; rw [Int.tdiv_one] at hq; omega
        · have h3 : q.natAbs = x.natAbs / y.natAbs := by rw [← hq]; exact Int.natAbs_tdiv x y
          have h4 : x.natAbs / y.natAbs ≤ x.natAbs / 2 := Nat.div_le_div_left h2 (by decide)
          omega
    subst hy' c
    have hx' : x = -2147483648 := by rw [Int.tdiv_neg, Int.tdiv_one] at hq; omega
    subst hx'
    decide +kernel
  · have hq' : I32 q := by unfold I32; omega
    have hp := mul_bound hq' (show I32 y from hy)
    rw [w32 hq', w64 (x := q) (by unfold I32 at hq'; omega), w64 (x := q * y) (by omega)]
    rw [Int.mul_comm q y] at *
    generalize y * q = p at *
    unfold wrap32 wrap64
    omega


theorem wrap_c (n r : Int) (h : wrap32 n = r) (w : World) : Calls Try.prog 46 #[.int .i64 n] w fun e w' => e = .returned (.int .i32 r) ∧ Below w.heap.size w w' :=
  (ontimeref03_Wrap.calls n r w (by rw [wrap_f, h])).mono fun e w' ⟨h1, h2⟩ => ⟨h1, h2.below⟩
theorem tr_c (b : Bool) (r : Int) (h : tr b = r) (w : World) : Calls Try.prog 50 #[.bool b] w fun e w' => e = .returned (.int .i32 r) ∧ Below w.heap.size w w' :=
  (ontimeref03_truth.calls b r w (by rw [ref_truth, h])).mono fun e w' ⟨h1, h2⟩ => ⟨h1, h2.below⟩
theorem count_c (y : Int) (hy : I32 y) (w : World) : Calls Try.prog 49 #[.int .i32 y] w fun e w' => e = .returned (.int .i64 (y % 32)) ∧ Below w.heap.size w w' :=
  (ontimeref03_count.calls y (y % 32) w (count_f y hy)).mono fun e w' ⟨h1, h2⟩ => ⟨h1, h2.below⟩
theorem left_c (x y : Int) (hx : I32 x) (w : World) : Calls Try.prog 48 #[.int .i32 x, .int .i64 (y % 32), .bool true] w fun e w' => e = .returned (.int .i32 (wrap32 (x * 2 ^ (y % 32).toNat))) ∧ Below w.heap.size w w' :=
  (ontimeref03_Shift.calls 90 x (y % 32) true _ w (shift_left (y % 32) (by omega) (y % 32).toNat 90 x 0 hx (by decide) (by omega) (by omega))).mono fun e w' ⟨h1, h2⟩ => ⟨h1, h2.below⟩
theorem right_c (x y : Int) (hx : I32 x) (w : World) : Calls Try.prog 48 #[.int .i32 x, .int .i64 (y % 32), .bool false] w fun e w' => e = .returned (.int .i32 (x / 2 ^ (y % 32).toNat)) ∧ Below w.heap.size w w' :=
  (ontimeref03_Shift.calls 90 x (y % 32) false _ w (shift_right (y % 32) (by omega) (y % 32).toNat 90 x 0 hx (by decide) (by omega) (by omega))).mono fun e w' ⟨h1, h2⟩ => ⟨h1, h2.below⟩
theorem bits_c (op x y r : Int) (h : ontimeref03_bits.f 72 op x y = some r) (w : World) : Calls Try.prog 47 #[.int .u8 op, .int .i32 x, .int .i32 y] w fun e w' => e = .returned (.int .i32 r) ∧ Below w.heap.size w w' :=
  (ontimeref03_bits.calls 72 op x y r w h).mono fun e w' ⟨h1, h2⟩ => ⟨h1, h2.below⟩

set_option maxHeartbeats 4000000 in
set_option maxRecDepth 100000 in
theorem op6 (x y : Int) (hx : Aside0 (I32 x)) (hy : Aside0 (I32 y)) (w : World) : Calls Try.prog 20 #[.int .u8 6, .int .i32 x, .int .i32 y] w fun e w' => e = .returned (.tuple #[.int .i32 (wrap32 (x + y)), .int .i64 0]) ∧ Below w.heap.size w w' := by
  have ex := Aside0.mk (show wrap64 x = x from w64 (by have := hx.out; unfold I32 at this; omega))
  have ey := Aside0.mk (show wrap64 y = y from w64 (by have := hy.out; unfold I32 at this; omega))
  have HB := Aside0.mk (Below.refl w.heap.size w)
  go_enter Try.func20, Try.ntmps20
  go_wp2_with fail
  (with_reducible refine (wrap_c _ (wrap32 (x + y)) (by have h1 := hx.out; have h2 := hy.out; rw [ex.out, ey.out]; unfold I32 at h1 h2; rw [w64 (by omega)]) _).mono ?_); rintro e w' ⟨rfl, hb⟩
  replace HB := Aside0.mk (below_step HB.out hb)
  clear hb
  go_wp2_with fail
  skip
  go_ret2
  exact ⟨by first | rfl | (simp; done) | (simp [*]; done), HB.out⟩

set_option maxHeartbeats 4000000 in
set_option maxRecDepth 100000 in
theorem op7 (x y : Int) (hx : Aside0 (I32 x)) (hy : Aside0 (I32 y)) (w : World) : Calls Try.prog 20 #[.int .u8 7, .int .i32 x, .int .i32 y] w fun e w' => e = .returned (.tuple #[.int .i32 (wrap32 (x - y)), .int .i64 0]) ∧ Below w.heap.size w w' := by
  have ex := Aside0.mk (show wrap64 x = x from w64 (by have := hx.out; unfold I32 at this; omega))
  have ey := Aside0.mk (show wrap64 y = y from w64 (by have := hy.out; unfold I32 at this; omega))
  have HB := Aside0.mk (Below.refl w.heap.size w)
  go_enter Try.func20, Try.ntmps20
  go_wp2_with fail
  (with_reducible refine (wrap_c _ (wrap32 (x - y)) (by have h1 := hx.out; have h2 := hy.out; rw [ex.out, ey.out]; unfold I32 at h1 h2; rw [w64 (by omega)]) _).mono ?_); rintro e w' ⟨rfl, hb⟩
  replace HB := Aside0.mk (below_step HB.out hb)
  clear hb
  go_wp2_with fail
  skip
  go_ret2
  exact ⟨by first | rfl | (simp; done) | (simp [*]; done), HB.out⟩

set_option maxHeartbeats 4000000 in
set_option maxRecDepth 100000 in
theorem op8 (x y : Int) (hx : Aside0 (I32 x)) (hy : Aside0 (I32 y)) (w : World) : Calls Try.prog 20 #[.int .u8 8, .int .i32 x, .int .i32 y] w fun e w' => e = .returned (.tuple #[.int .i32 (wrap32 (x * y)), .int .i64 0]) ∧ Below w.heap.size w w' := by
  have ex := Aside0.mk (show wrap64 x = x from w64 (by have := hx.out; unfold I32 at this; omega))
  have ey := Aside0.mk (show wrap64 y = y from w64 (by have := hy.out; unfold I32 at this; omega))
  have HB := Aside0.mk (Below.refl w.heap.size w)
  go_enter Try.func20, Try.ntmps20
  go_wp2_with fail
  (with_reducible refine (wrap_c _ (wrap32 (x * y)) (by have h1 := hx.out; have h2 := hy.out; rw [ex.out, ey.out]; have := mul_bound h1 h2; rw [w64 (by omega)]) _).mono ?_); rintro e w' ⟨rfl, hb⟩
  replace HB := Aside0.mk (below_step HB.out hb)
  clear hb
  go_wp2_with fail
  skip
  go_ret2
  exact ⟨by first | rfl | (simp; done) | (simp [*]; done), HB.out⟩

set_option maxHeartbeats 4000000 in
set_option maxRecDepth 100000 in
theorem op9 (x y : Int) (hx : Aside0 (I32 x)) (hy : Aside0 (I32 y)) (h0 : Aside0 (y ≠ 0)) (k0 : (wrap64 y == 0) = false) (k1 : ¬ wrap64 y = 0) (w : World) : Calls Try.prog 20 #[.int .u8 9, .int .i32 x, .int .i32 y] w fun e w' => e = .returned (.tuple #[.int .i32 (wrap32 (x.tdiv y)), .int .i64 0]) ∧ Below w.heap.size w w' := by
  have ex := Aside0.mk (show wrap64 x = x from w64 (by have := hx.out; unfold I32 at this; omega))
  have ey := Aside0.mk (show wrap64 y = y from w64 (by have := hy.out; unfold I32 at this; omega))
  have HB := Aside0.mk (Below.refl w.heap.size w)
  go_enter Try.func20, Try.ntmps20
  go_wp2_with fail
  (with_reducible refine (wrap_c _ (wrap32 (x.tdiv y)) (by have h1 := hx.out; have h2 := hy.out; rw [ex.out, ey.out]; have := tdiv_bound x y; unfold I32 at h1 h2; rw [w64 (by omega)]) _).mono ?_); rintro e w' ⟨rfl, hb⟩
  replace HB := Aside0.mk (below_step HB.out hb)
  clear hb
  go_wp2_with fail
  skip
  go_ret2
  exact ⟨by first | rfl | (simp; done) | (simp [*]; done), HB.out⟩

set_option maxHeartbeats 4000000 in
set_option maxRecDepth 100000 in
theorem op10 (x y : Int) (hx : Aside0 (I32 x)) (hy : Aside0 (I32 y)) (h0 : Aside0 (y ≠ 0)) (k0 : (wrap64 y == 0) = false) (k1 : ¬ wrap64 y = 0) (w : World) : Calls Try.prog 20 #[.int .u8 10, .int .i32 x, .int .i32 y] w fun e w' => e = .returned (.tuple #[.int .i32 (x.tmod y), .int .i64 0]) ∧ Below w.heap.size w w' := by
  have ex := Aside0.mk (show wrap64 x = x from w64 (by have := hx.out; unfold I32 at this; omega))
  have ey := Aside0.mk (show wrap64 y = y from w64 (by have := hy.out; unfold I32 at this; omega))
  have HB := Aside0.mk (Below.refl w.heap.size w)
  go_enter Try.func20, Try.ntmps20
  go_wp2_with fail
  (with_reducible refine (wrap_c _ (wrap32 (wrap64 (x.tdiv y))) (by rw [ex.out, ey.out]) _).mono ?_); rintro e w' ⟨rfl, hb⟩
  replace HB := Aside0.mk (below_step HB.out hb)
  clear hb
  go_wp2_with fail
  (with_reducible refine (wrap_c _ (x.tmod y) (by rw [ex.out, ey.out]; exact mod_by_hand x y hx.out hy.out h0.out) _).mono ?_); rintro e w' ⟨rfl, hb⟩
  replace HB := Aside0.mk (below_step HB.out hb)
  clear hb
  go_wp2_with fail
  skip
  go_ret2
  exact ⟨by first | rfl | (simp; done) | (simp [*]; done), HB.out⟩

set_option maxHeartbeats 4000000 in
set_option maxRecDepth 100000 in
theorem op9z (x y : Int) (hx : Aside0 (I32 x)) (hy : Aside0 (I32 y)) (k0 : (wrap64 y == 0) = true) (w : World) : Calls Try.prog 20 #[.int .u8 9, .int .i32 x, .int .i32 y] w fun e w' => e = .returned (.tuple #[.int .i32 (0), .int .i64 9]) ∧ Below w.heap.size w w' := by
  have ex := Aside0.mk (show wrap64 x = x from w64 (by have := hx.out; unfold I32 at this; omega))
  have ey := Aside0.mk (show wrap64 y = y from w64 (by have := hy.out; unfold I32 at this; omega))
  have HB := Aside0.mk (Below.refl w.heap.size w)
  go_enter Try.func20, Try.ntmps20
  go_wp2_with fail
  skip
  go_ret2
  exact ⟨by first | rfl | (simp; done) | (simp [*]; done), HB.out⟩

set_option maxHeartbeats 4000000 in
set_option maxRecDepth 100000 in
theorem op10z (x y : Int) (hx : Aside0 (I32 x)) (hy : Aside0 (I32 y)) (k0 : (wrap64 y == 0) = true) (w : World) : Calls Try.prog 20 #[.int .u8 10, .int .i32 x, .int .i32 y] w fun e w' => e = .returned (.tuple #[.int .i32 (0), .int .i64 9]) ∧ Below w.heap.size w w' := by
  have ex := Aside0.mk (show wrap64 x = x from w64 (by have := hx.out; unfold I32 at this; omega))
  have ey := Aside0.mk (show wrap64 y = y from w64 (by have := hy.out; unfold I32 at this; omega))
  have HB := Aside0.mk (Below.refl w.heap.size w)
  go_enter Try.func20, Try.ntmps20
  go_wp2_with fail
  skip
  go_ret2
  exact ⟨by first | rfl | (simp; done) | (simp [*]; done), HB.out⟩

set_option maxHeartbeats 4000000 in
set_option maxRecDepth 100000 in
theorem op11 (x y : Int) (hx : Aside0 (I32 x)) (hy : Aside0 (I32 y)) (w : World) : Calls Try.prog 20 #[.int .u8 11, .int .i32 x, .int .i32 y] w fun e w' => e = .returned (.tuple #[.int .i32 (Go.bits .and .i32 x y), .int .i64 0]) ∧ Below w.heap.size w w' := by
  have ex := Aside0.mk (show wrap64 x = x from w64 (by have := hx.out; unfold I32 at this; omega))
  have ey := Aside0.mk (show wrap64 y = y from w64 (by have := hy.out; unfold I32 at this; omega))
  have HB := Aside0.mk (Below.refl w.heap.size w)
  go_enter Try.func20, Try.ntmps20
  go_wp2_with fail
  (with_reducible refine (bits_c _ _ _ _ (bits_and x y hx.out hy.out 72 (by decide)) _).mono ?_); rintro e w' ⟨rfl, hb⟩
  replace HB := Aside0.mk (below_step HB.out hb)
  clear hb
  go_wp2_with fail
  skip
  go_ret2
  exact ⟨by first | rfl | (simp; done) | (simp [*]; done), HB.out⟩

set_option maxHeartbeats 4000000 in
set_option maxRecDepth 100000 in
theorem op12 (x y : Int) (hx : Aside0 (I32 x)) (hy : Aside0 (I32 y)) (w : World) : Calls Try.prog 20 #[.int .u8 12, .int .i32 x, .int .i32 y] w fun e w' => e = .returned (.tuple #[.int .i32 (Go.bits .or .i32 x y), .int .i64 0]) ∧ Below w.heap.size w w' := by
  have ex := Aside0.mk (show wrap64 x = x from w64 (by have := hx.out; unfold I32 at this; omega))
  have ey := Aside0.mk (show wrap64 y = y from w64 (by have := hy.out; unfold I32 at this; omega))
  have HB := Aside0.mk (Below.refl w.heap.size w)
  go_enter Try.func20, Try.ntmps20
  go_wp2_with fail
  (with_reducible refine (bits_c _ _ _ _ (bits_or x y hx.out hy.out 72 (by decide)) _).mono ?_); rintro e w' ⟨rfl, hb⟩
  replace HB := Aside0.mk (below_step HB.out hb)
  clear hb
  go_wp2_with fail
  skip
  go_ret2
  exact ⟨by first | rfl | (simp; done) | (simp [*]; done), HB.out⟩

set_option maxHeartbeats 4000000 in
set_option maxRecDepth 100000 in
theorem op13 (x y : Int) (hx : Aside0 (I32 x)) (hy : Aside0 (I32 y)) (w : World) : Calls Try.prog 20 #[.int .u8 13, .int .i32 x, .int .i32 y] w fun e w' => e = .returned (.tuple #[.int .i32 (Go.bits .xor .i32 x y), .int .i64 0]) ∧ Below w.heap.size w w' := by
  have ex := Aside0.mk (show wrap64 x = x from w64 (by have := hx.out; unfold I32 at this; omega))
  have ey := Aside0.mk (show wrap64 y = y from w64 (by have := hy.out; unfold I32 at this; omega))
  have HB := Aside0.mk (Below.refl w.heap.size w)
  go_enter Try.func20, Try.ntmps20
  go_wp2_with fail
  (with_reducible refine (bits_c _ _ _ _ (bits_xor x y hx.out hy.out 72 (by decide)) _).mono ?_); rintro e w' ⟨rfl, hb⟩
  replace HB := Aside0.mk (below_step HB.out hb)
  clear hb
  go_wp2_with fail
  skip
  go_ret2
  exact ⟨by first | rfl | (simp; done) | (simp [*]; done), HB.out⟩

set_option maxHeartbeats 4000000 in
set_option maxRecDepth 100000 in
theorem op14 (x y : Int) (hx : Aside0 (I32 x)) (hy : Aside0 (I32 y)) (w : World) : Calls Try.prog 20 #[.int .u8 14, .int .i32 x, .int .i32 y] w fun e w' => e = .returned (.tuple #[.int .i32 (wrap32 (x * 2 ^ (y % 32).toNat)), .int .i64 0]) ∧ Below w.heap.size w w' := by
  have ex := Aside0.mk (show wrap64 x = x from w64 (by have := hx.out; unfold I32 at this; omega))
  have ey := Aside0.mk (show wrap64 y = y from w64 (by have := hy.out; unfold I32 at this; omega))
  have HB := Aside0.mk (Below.refl w.heap.size w)
  go_enter Try.func20, Try.ntmps20
  go_wp2_with fail
  (with_reducible refine (count_c _ hy.out _).mono ?_); rintro e w' ⟨rfl, hb⟩
  replace HB := Aside0.mk (below_step HB.out hb)
  clear hb
  go_wp2_with fail
  (with_reducible refine (left_c _ _ hx.out _).mono ?_); rintro e w' ⟨rfl, hb⟩
  replace HB := Aside0.mk (below_step HB.out hb)
  clear hb
  go_wp2_with fail
  skip
  go_ret2
  exact ⟨by first | rfl | (simp; done) | (simp [*]; done), HB.out⟩

set_option maxHeartbeats 4000000 in
set_option maxRecDepth 100000 in
theorem op15 (x y : Int) (hx : Aside0 (I32 x)) (hy : Aside0 (I32 y)) (w : World) : Calls Try.prog 20 #[.int .u8 15, .int .i32 x, .int .i32 y] w fun e w' => e = .returned (.tuple #[.int .i32 (x / 2 ^ (y % 32).toNat), .int .i64 0]) ∧ Below w.heap.size w w' := by
  have ex := Aside0.mk (show wrap64 x = x from w64 (by have := hx.out; unfold I32 at this; omega))
  have ey := Aside0.mk (show wrap64 y = y from w64 (by have := hy.out; unfold I32 at this; omega))
  have HB := Aside0.mk (Below.refl w.heap.size w)
  go_enter Try.func20, Try.ntmps20
  go_wp2_with fail
  (with_reducible refine (count_c _ hy.out _).mono ?_); rintro e w' ⟨rfl, hb⟩
  replace HB := Aside0.mk (below_step HB.out hb)
  clear hb
  go_wp2_with fail
  (with_reducible refine (right_c _ _ hx.out _).mono ?_); rintro e w' ⟨rfl, hb⟩
  replace HB := Aside0.mk (below_step HB.out hb)
  clear hb
  go_wp2_with fail
  skip
  go_ret2
  exact ⟨by first | rfl | (simp; done) | (simp [*]; done), HB.out⟩

set_option maxHeartbeats 4000000 in
set_option maxRecDepth 100000 in
theorem op16 (x y : Int) (hx : Aside0 (I32 x)) (hy : Aside0 (I32 y)) (w : World) : Calls Try.prog 20 #[.int .u8 16, .int .i32 x, .int .i32 y] w fun e w' => e = .returned (.tuple #[.int .i32 (tr (x == y)), .int .i64 0]) ∧ Below w.heap.size w w' := by
  have ex := Aside0.mk (show wrap64 x = x from w64 (by have := hx.out; unfold I32 at this; omega))
  have ey := Aside0.mk (show wrap64 y = y from w64 (by have := hy.out; unfold I32 at this; omega))
  have HB := Aside0.mk (Below.refl w.heap.size w)
  go_enter Try.func20, Try.ntmps20
  go_wp2_with fail
  (with_reducible refine (tr_c _ (tr (x == y)) (by rw [ex.out, ey.out]) _).mono ?_); rintro e w' ⟨rfl, hb⟩
  replace HB := Aside0.mk (below_step HB.out hb)
  clear hb
  go_wp2_with fail
  skip
  go_ret2
  exact ⟨by first | rfl | (simp; done) | (simp [*]; done), HB.out⟩

set_option maxHeartbeats 4000000 in
set_option maxRecDepth 100000 in
theorem op17 (x y : Int) (hx : Aside0 (I32 x)) (hy : Aside0 (I32 y)) (w : World) : Calls Try.prog 20 #[.int .u8 17, .int .i32 x, .int .i32 y] w fun e w' => e = .returned (.tuple #[.int .i32 (tr (x != y)), .int .i64 0]) ∧ Below w.heap.size w w' := by
  have ex := Aside0.mk (show wrap64 x = x from w64 (by have := hx.out; unfold I32 at this; omega))
  have ey := Aside0.mk (show wrap64 y = y from w64 (by have := hy.out; unfold I32 at this; omega))
  have HB := Aside0.mk (Below.refl w.heap.size w)
  go_enter Try.func20, Try.ntmps20
  go_wp2_with fail
  (with_reducible refine (tr_c _ (tr (x != y)) (by rw [ex.out, ey.out]) _).mono ?_); rintro e w' ⟨rfl, hb⟩
  replace HB := Aside0.mk (below_step HB.out hb)
  clear hb
  go_wp2_with fail
  skip
  go_ret2
  exact ⟨by first | rfl | (simp; done) | (simp [*]; done), HB.out⟩

set_option maxHeartbeats 4000000 in
set_option maxRecDepth 100000 in
theorem op18 (x y : Int) (hx : Aside0 (I32 x)) (hy : Aside0 (I32 y)) (w : World) : Calls Try.prog 20 #[.int .u8 18, .int .i32 x, .int .i32 y] w fun e w' => e = .returned (.tuple #[.int .i32 (tr (decide (x < y))), .int .i64 0]) ∧ Below w.heap.size w w' := by
  have ex := Aside0.mk (show wrap64 x = x from w64 (by have := hx.out; unfold I32 at this; omega))
  have ey := Aside0.mk (show wrap64 y = y from w64 (by have := hy.out; unfold I32 at this; omega))
  have HB := Aside0.mk (Below.refl w.heap.size w)
  go_enter Try.func20, Try.ntmps20
  go_wp2_with fail
  (with_reducible refine (tr_c _ (tr (decide (x < y))) (by rw [ex.out, ey.out]) _).mono ?_); rintro e w' ⟨rfl, hb⟩
  replace HB := Aside0.mk (below_step HB.out hb)
  clear hb
  go_wp2_with fail
  skip
  go_ret2
  exact ⟨by first | rfl | (simp; done) | (simp [*]; done), HB.out⟩

set_option maxHeartbeats 4000000 in
set_option maxRecDepth 100000 in
theorem op19 (x y : Int) (hx : Aside0 (I32 x)) (hy : Aside0 (I32 y)) (w : World) : Calls Try.prog 20 #[.int .u8 19, .int .i32 x, .int .i32 y] w fun e w' => e = .returned (.tuple #[.int .i32 (tr (decide (x ≤ y))), .int .i64 0]) ∧ Below w.heap.size w w' := by
  have ex := Aside0.mk (show wrap64 x = x from w64 (by have := hx.out; unfold I32 at this; omega))
  have ey := Aside0.mk (show wrap64 y = y from w64 (by have := hy.out; unfold I32 at this; omega))
  have HB := Aside0.mk (Below.refl w.heap.size w)
  go_enter Try.func20, Try.ntmps20
  go_wp2_with fail
  (with_reducible refine (tr_c _ (tr (decide (x ≤ y))) (by rw [ex.out, ey.out]) _).mono ?_); rintro e w' ⟨rfl, hb⟩
  replace HB := Aside0.mk (below_step HB.out hb)
  clear hb
  go_wp2_with fail
  skip
  go_ret2
  exact ⟨by first | rfl | (simp; done) | (simp [*]; done), HB.out⟩

set_option maxHeartbeats 4000000 in
set_option maxRecDepth 100000 in
theorem op20 (x y : Int) (hx : Aside0 (I32 x)) (hy : Aside0 (I32 y)) (w : World) : Calls Try.prog 20 #[.int .u8 20, .int .i32 x, .int .i32 y] w fun e w' => e = .returned (.tuple #[.int .i32 (tr (decide (y < x))), .int .i64 0]) ∧ Below w.heap.size w w' := by
  have ex := Aside0.mk (show wrap64 x = x from w64 (by have := hx.out; unfold I32 at this; omega))
  have ey := Aside0.mk (show wrap64 y = y from w64 (by have := hy.out; unfold I32 at this; omega))
  have HB := Aside0.mk (Below.refl w.heap.size w)
  go_enter Try.func20, Try.ntmps20
  go_wp2_with fail
  (with_reducible refine (tr_c _ (tr (decide (y < x))) (by rw [ex.out, ey.out]) _).mono ?_); rintro e w' ⟨rfl, hb⟩
  replace HB := Aside0.mk (below_step HB.out hb)
  clear hb
  go_wp2_with fail
  skip
  go_ret2
  exact ⟨by first | rfl | (simp; done) | (simp [*]; done), HB.out⟩

set_option maxHeartbeats 4000000 in
set_option maxRecDepth 100000 in
theorem op21 (x y : Int) (hx : Aside0 (I32 x)) (hy : Aside0 (I32 y)) (w : World) : Calls Try.prog 20 #[.int .u8 21, .int .i32 x, .int .i32 y] w fun e w' => e = .returned (.tuple #[.int .i32 (tr (decide (y ≤ x))), .int .i64 0]) ∧ Below w.heap.size w w' := by
  have ex := Aside0.mk (show wrap64 x = x from w64 (by have := hx.out; unfold I32 at this; omega))
  have ey := Aside0.mk (show wrap64 y = y from w64 (by have := hy.out; unfold I32 at this; omega))
  have HB := Aside0.mk (Below.refl w.heap.size w)
  go_enter Try.func20, Try.ntmps20
  go_wp2_with fail
  (with_reducible refine (tr_c _ (tr (decide (y ≤ x))) (by rw [ex.out, ey.out]) _).mono ?_); rintro e w' ⟨rfl, hb⟩
  replace HB := Aside0.mk (below_step HB.out hb)
  clear hb
  go_wp2_with fail
  skip
  go_ret2
  exact ⟨by first | rfl | (simp; done) | (simp [*]; done), HB.out⟩

set_option maxHeartbeats 4000000 in
set_option maxRecDepth 100000 in
theorem op22f (x y : Int) (hx : Aside0 (I32 x)) (hy : Aside0 (I32 y)) (k0 : (wrap64 x != 0) = false) (w : World) : Calls Try.prog 20 #[.int .u8 22, .int .i32 x, .int .i32 y] w fun e w' => e = .returned (.tuple #[.int .i32 (0), .int .i64 0]) ∧ Below w.heap.size w w' := by
  have ex := Aside0.mk (show wrap64 x = x from w64 (by have := hx.out; unfold I32 at this; omega))
  have ey := Aside0.mk (show wrap64 y = y from w64 (by have := hy.out; unfold I32 at this; omega))
  have HB := Aside0.mk (Below.refl w.heap.size w)
  go_enter Try.func20, Try.ntmps20
  go_wp2_with fail
  (with_reducible refine (tr_c _ 0 rfl _).mono ?_); rintro e w' ⟨rfl, hb⟩
  replace HB := Aside0.mk (below_step HB.out hb)
  clear hb
  go_wp2_with fail
  skip
  go_ret2
  exact ⟨by first | rfl | (simp; done) | (simp [*]; done), HB.out⟩

set_option maxHeartbeats 4000000 in
set_option maxRecDepth 100000 in
theorem op22t (x y : Int) (hx : Aside0 (I32 x)) (hy : Aside0 (I32 y)) (k0 : (wrap64 x != 0) = true) (w : World) : Calls Try.prog 20 #[.int .u8 22, .int .i32 x, .int .i32 y] w fun e w' => e = .returned (.tuple #[.int .i32 (tr (y != 0)), .int .i64 0]) ∧ Below w.heap.size w w' := by
  have ex := Aside0.mk (show wrap64 x = x from w64 (by have := hx.out; unfold I32 at this; omega))
  have ey := Aside0.mk (show wrap64 y = y from w64 (by have := hy.out; unfold I32 at this; omega))
  have HB := Aside0.mk (Below.refl w.heap.size w)
  go_enter Try.func20, Try.ntmps20
  go_wp2_with fail
  (with_reducible refine (tr_c _ (tr (y != 0)) (by rw [ey.out]) _).mono ?_); rintro e w' ⟨rfl, hb⟩
  replace HB := Aside0.mk (below_step HB.out hb)
  clear hb
  go_wp2_with fail
  skip
  go_ret2
  exact ⟨by first | rfl | (simp; done) | (simp [*]; done), HB.out⟩

set_option maxHeartbeats 4000000 in
set_option maxRecDepth 100000 in
theorem op23t (x y : Int) (hx : Aside0 (I32 x)) (hy : Aside0 (I32 y)) (k0 : (wrap64 x != 0) = true) (w : World) : Calls Try.prog 20 #[.int .u8 23, .int .i32 x, .int .i32 y] w fun e w' => e = .returned (.tuple #[.int .i32 (1), .int .i64 0]) ∧ Below w.heap.size w w' := by
  have ex := Aside0.mk (show wrap64 x = x from w64 (by have := hx.out; unfold I32 at this; omega))
  have ey := Aside0.mk (show wrap64 y = y from w64 (by have := hy.out; unfold I32 at this; omega))
  have HB := Aside0.mk (Below.refl w.heap.size w)
  go_enter Try.func20, Try.ntmps20
  go_wp2_with fail
  (with_reducible refine (tr_c _ 1 rfl _).mono ?_); rintro e w' ⟨rfl, hb⟩
  replace HB := Aside0.mk (below_step HB.out hb)
  clear hb
  go_wp2_with fail
  skip
  go_ret2
  exact ⟨by first | rfl | (simp; done) | (simp [*]; done), HB.out⟩

set_option maxHeartbeats 4000000 in
set_option maxRecDepth 100000 in
theorem op23f (x y : Int) (hx : Aside0 (I32 x)) (hy : Aside0 (I32 y)) (k0 : (wrap64 x != 0) = false) (w : World) : Calls Try.prog 20 #[.int .u8 23, .int .i32 x, .int .i32 y] w fun e w' => e = .returned (.tuple #[.int .i32 (tr (y != 0)), .int .i64 0]) ∧ Below w.heap.size w w' := by
  have ex := Aside0.mk (show wrap64 x = x from w64 (by have := hx.out; unfold I32 at this; omega))
  have ey := Aside0.mk (show wrap64 y = y from w64 (by have := hy.out; unfold I32 at this; omega))
  have HB := Aside0.mk (Below.refl w.heap.size w)
  go_enter Try.func20, Try.ntmps20
  go_wp2_with fail
  (with_reducible refine (tr_c _ (tr (y != 0)) (by rw [ey.out]) _).mono ?_); rintro e w' ⟨rfl, hb⟩
  replace HB := Aside0.mk (below_step HB.out hb)
  clear hb
  go_wp2_with fail
  skip
  go_ret2
  exact ⟨by first | rfl | (simp; done) | (simp [*]; done), HB.out⟩

/-- What the reference's Apply of chapter 03 answers, for every operator of the table. -/
theorem word_c (op x y r e : Int) (h6 : 6 ≤ op) (h23 : op ≤ 23) (hx : I32 x) (hy : I32 y) (h : wv op x y = (r, e)) (w : World) : Calls Try.prog 20 #[.int .u8 op, .int .i32 x, .int .i32 y] w fun e1 w' => e1 = .returned (.tuple #[.int .i32 r, .int .i64 e]) ∧ Below w.heap.size w w' := by
  have nz : ∀ z : Int, I32 z → z ≠ 0 → ¬ wrap64 z = 0 := fun z hz h0 => by unfold I32 at hz; rw [w64 (by omega)]; exact h0
  have o : op = 6 ∨ op = 7 ∨ op = 8 ∨ op = 9 ∨ op = 10 ∨ op = 11 ∨ op = 12 ∨ op = 13 ∨ op = 14 ∨ op = 15 ∨ op = 16 ∨ op = 17 ∨ op = 18 ∨ op = 19 ∨ op = 20 ∨ op = 21 ∨ op = 22 ∨ op = 23 := by omega
  rcases o with rfl | rfl | rfl | rfl | rfl | rfl | rfl | rfl | rfl | rfl | rfl | rfl | rfl | rfl | rfl | rfl | rfl | rfl
  · obtain ⟨rfl, rfl⟩ := Prod.mk.inj ((show wv 6 x y = (wrap32 (x + y), 0) from rfl).symm.trans h)
    exact op6 x y ⟨hx⟩ ⟨hy⟩ w
  · obtain ⟨rfl, rfl⟩ := Prod.mk.inj ((show wv 7 x y = (wrap32 (x - y), 0) from rfl).symm.trans h)
    exact op7 x y ⟨hx⟩ ⟨hy⟩ w
  · obtain ⟨rfl, rfl⟩ := Prod.mk.inj ((show wv 8 x y = (wrap32 (x * y), 0) from rfl).symm.trans h)
    exact op8 x y ⟨hx⟩ ⟨hy⟩ w
  · by_cases h0 : y = 0
    · subst h0
      obtain ⟨rfl, rfl⟩ := Prod.mk.inj ((show wv 9 x 0 = (0, 9) from rfl).symm.trans h)
      exact op9z x 0 ⟨hx⟩ ⟨hy⟩ (by decide +kernel) w
    · obtain ⟨rfl, rfl⟩ := Prod.mk.inj ((show wv 9 x y = (wrap32 (x.tdiv y), 0) from if_neg h0).symm.trans h)
      exact op9 x y ⟨hx⟩ ⟨hy⟩ ⟨h0⟩ (beq_eq_false_iff_ne.mpr (nz y hy h0)) (nz y hy h0) w
  · by_cases h0 : y = 0
    · subst h0
      obtain ⟨rfl, rfl⟩ := Prod.mk.inj ((show wv 10 x 0 = (0, 9) from rfl).symm.trans h)
      exact op10z x 0 ⟨hx⟩ ⟨hy⟩ (by decide +kernel) w
    · obtain ⟨rfl, rfl⟩ := Prod.mk.inj ((show wv 10 x y = (x.tmod y, 0) from if_neg h0).symm.trans h)
      exact op10 x y ⟨hx⟩ ⟨hy⟩ ⟨h0⟩ (beq_eq_false_iff_ne.mpr (nz y hy h0)) (nz y hy h0) w
  · obtain ⟨rfl, rfl⟩ := Prod.mk.inj ((show wv 11 x y = (Go.bits .and .i32 x y, 0) from rfl).symm.trans h)
    exact op11 x y ⟨hx⟩ ⟨hy⟩ w
  · obtain ⟨rfl, rfl⟩ := Prod.mk.inj ((show wv 12 x y = (Go.bits .or .i32 x y, 0) from rfl).symm.trans h)
    exact op12 x y ⟨hx⟩ ⟨hy⟩ w
  · obtain ⟨rfl, rfl⟩ := Prod.mk.inj ((show wv 13 x y = (Go.bits .xor .i32 x y, 0) from rfl).symm.trans h)
    exact op13 x y ⟨hx⟩ ⟨hy⟩ w
  · obtain ⟨rfl, rfl⟩ := Prod.mk.inj ((show wv 14 x y = (wrap32 (x * 2 ^ (y % 32).toNat), 0) from rfl).symm.trans h)
    exact op14 x y ⟨hx⟩ ⟨hy⟩ w
  · obtain ⟨rfl, rfl⟩ := Prod.mk.inj ((show wv 15 x y = (x / 2 ^ (y % 32).toNat, 0) from rfl).symm.trans h)
    exact op15 x y ⟨hx⟩ ⟨hy⟩ w
  · obtain ⟨rfl, rfl⟩ := Prod.mk.inj ((show wv 16 x y = (tr (x == y), 0) from rfl).symm.trans h)
    exact op16 x y ⟨hx⟩ ⟨hy⟩ w
  · obtain ⟨rfl, rfl⟩ := Prod.mk.inj ((show wv 17 x y = (tr (x != y), 0) from (by show (tr (decide (x ≠ y)), (0 : Int)) = _; rw [bne_dec])).symm.trans h)
    exact op17 x y ⟨hx⟩ ⟨hy⟩ w
  · obtain ⟨rfl, rfl⟩ := Prod.mk.inj ((show wv 18 x y = (tr (decide (x < y)), 0) from rfl).symm.trans h)
    exact op18 x y ⟨hx⟩ ⟨hy⟩ w
  · obtain ⟨rfl, rfl⟩ := Prod.mk.inj ((show wv 19 x y = (tr (decide (x ≤ y)), 0) from rfl).symm.trans h)
    exact op19 x y ⟨hx⟩ ⟨hy⟩ w
  · obtain ⟨rfl, rfl⟩ := Prod.mk.inj ((show wv 20 x y = (tr (decide (y < x)), 0) from rfl).symm.trans h)
    exact op20 x y ⟨hx⟩ ⟨hy⟩ w
  · obtain ⟨rfl, rfl⟩ := Prod.mk.inj ((show wv 21 x y = (tr (decide (y ≤ x)), 0) from rfl).symm.trans h)
    exact op21 x y ⟨hx⟩ ⟨hy⟩ w
  · by_cases h0 : x = 0
    · obtain ⟨rfl, rfl⟩ := Prod.mk.inj ((show wv 22 x y = (0, 0) from (by show (tr (decide (x ≠ 0 ∧ y ≠ 0)), (0 : Int)) = _; simp [h0, bne_dec, tr])).symm.trans h)
      exact op22f x y ⟨hx⟩ ⟨hy⟩ (by subst h0; decide +kernel) w
    · obtain ⟨rfl, rfl⟩ := Prod.mk.inj ((show wv 22 x y = (tr (y != 0), 0) from (by show (tr (decide (x ≠ 0 ∧ y ≠ 0)), (0 : Int)) = _; simp [h0, bne_dec, tr])).symm.trans h)
      exact op22t x y ⟨hx⟩ ⟨hy⟩ (bne_iff_ne.mpr (nz x hx h0)) w
  · by_cases h0 : x = 0
    · obtain ⟨rfl, rfl⟩ := Prod.mk.inj ((show wv 23 x y = (tr (y != 0), 0) from (by show (tr (decide (x ≠ 0 ∨ y ≠ 0)), (0 : Int)) = _; simp [h0, bne_dec, tr])).symm.trans h)
      exact op23f x y ⟨hx⟩ ⟨hy⟩ (by subst h0; decide +kernel) w
    · obtain ⟨rfl, rfl⟩ := Prod.mk.inj ((show wv 23 x y = (1, 0) from (by show (tr (decide (x ≠ 0 ∨ y ≠ 0)), (0 : Int)) = _; simp [h0, bne_dec, tr])).symm.trans h)
      exact op23t x y ⟨hx⟩ ⟨hy⟩ (bne_iff_ne.mpr (nz x hx h0)) w

end Go.Proofs.Ytoalomjmmlnclaa.Ivl5
