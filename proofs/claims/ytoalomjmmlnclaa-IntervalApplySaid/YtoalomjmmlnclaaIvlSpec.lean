/- The operators on intervals as plain functions on the four bounds: no program in sight. -/
import Derived.Test.YtoalomjmmlnclaaMath
namespace Go.Proofs.Ytoalomjmmlnclaa.M

def fullv : Int × Int := (-2147483648, 2147483647)
def meetv (a b c d : Int) : Int × Int := if b < a ∨ d < c ∨ min b d < max a c then (1, 0) else (max a c, min b d)
def joinv (a b c d : Int) : Int × Int := if b < a ∧ d < c then (1, 0) else if b < a then (c, d) else if d < c then (a, b) else (min a c, max b d)
def within (a b c d : Int) : Bool := decide (b < a ∨ (c ≤ d ∧ c ≤ a ∧ b ≤ d))
def hasv (a b n : Int) : Bool := decide (a ≤ n ∧ n ≤ b)
def widenv (a b c d : Int) : Int × Int :=
  if b < a ∨ d < c then joinv a b c d else (if c < a then -2147483648 else a, if b < d then 2147483647 else b)
def clampv (a b n : Int) : Int := min (max n a) b
/-- From the least to the greatest of some numbers; full if one is no word. -/
def clip (lo hi : Int) : Int × Int := if lo < -2147483648 ∨ 2147483647 < hi then fullv else (lo, hi)
def hull2 (p q : Int) : Int × Int := clip (min p q) (max p q)
def hull4 (p q r s : Int) : Int × Int := clip (min (min (min p q) r) s) (max (max (max p q) r) s)
/-- The least number 2^k - 1 that is at least n. -/
def maskv (n : Int) : Int := if n ≤ 0 then 0 else 2 ^ (n.toNat.log2 + 1) - 1
def remv (a b c d : Int) : Int × Int :=
  if c = 0 ∧ d = 0 then (1, 0)
  else (if 0 ≤ a then 0 else max a (-(max (max (max (-c) c) (-d)) d - 1)), if b ≤ 0 then 0 else min b (max (max (max (-c) c) (-d)) d - 1))
def andv (a b c d : Int) : Int × Int := if 0 ≤ a ∧ 0 ≤ c then (0, min b d) else if 0 ≤ a then (0, b) else if 0 ≤ c then (0, d) else fullv
def orv (a b c d : Int) : Int × Int := if 0 ≤ a ∧ 0 ≤ c then (max a c, maskv (max b d)) else if b < 0 ∧ d < 0 then (max a c, -1) else fullv
def xorv (a b c d : Int) : Int × Int := if 0 ≤ a ∧ 0 ≤ c then (0, maskv (max b d)) else fullv
def leftv (a b c d : Int) : Int × Int := if c = d then hull2 (a * 2 ^ (c % 32).toNat) (b * 2 ^ (c % 32).toNat) else fullv
def rightv (a b c d : Int) : Int × Int :=
  if c = d then (a / 2 ^ (c % 32).toNat, b / 2 ^ (c % 32).toNat) else (if 0 ≤ a then 0 else a, if b < 0 then -1 else b)
/-- The quotients with one part of the divisors. -/
def partv (a b c d : Int) (out : Int × Int) : Int × Int :=
  if d < c then out else joinv out.1 out.2 (hull4 (a.tdiv c) (a.tdiv d) (b.tdiv c) (b.tdiv d)).1 (hull4 (a.tdiv c) (a.tdiv d) (b.tdiv c) (b.tdiv d)).2
def divv (a b c d : Int) : Int × Int :=
  if c = 0 ∧ d = 0 then (1, 0)
  else if (a ≤ -2147483648 ∧ -2147483648 ≤ b) ∧ (c ≤ -1 ∧ -1 ≤ d) then fullv
  else partv a b (meetv c d 1 2147483647).1 (meetv c d 1 2147483647).2 (partv a b (meetv c d (-2147483648) (-1)).1 (meetv c d (-2147483648) (-1)).2 (1, 0))
def truthv (always never : Bool) : Int × Int := if always = true then (1, 1) else if never = true then (0, 0) else (0, 1)
def somev (a b : Int) : Bool := !(hasv a b 0)
def nonev (a b : Int) : Bool := decide (a = 0 ∧ b = 0)
def apartv (a b c d : Int) : Bool := decide ((meetv a b c d).2 < (meetv a b c d).1)
def decv (op a b c d : Int) : Int × Int :=
  if op = 16 then truthv false (apartv a b c d)
  else if op = 17 then truthv (apartv a b c d) false
  else if op = 18 then truthv (decide (b < c)) (decide (d ≤ a))
  else if op = 19 then truthv (decide (b ≤ c)) (decide (d < a))
  else if op = 20 then truthv (decide (d < a)) (decide (b ≤ c))
  else if op = 21 then truthv (decide (d ≤ a)) (decide (b < c))
  else if op = 22 then truthv (somev a b && somev c d) (nonev a b || nonev c d)
  else if op = 23 then truthv (somev a b || somev c d) (nonev a b && nonev c d)
  else fullv
/-- The result of a binary operator. -/
def iv (op a b c d : Int) : Int × Int :=
  if op < 6 ∨ 23 < op then fullv
  else if b < a ∨ d < c then (1, 0)
  else if a = b ∧ c = d then (if (wv op a c).2 = 0 then ((wv op a c).1, (wv op a c).1) else (1, 0))
  else if op = 6 then hull4 (a + c) (a + d) (b + c) (b + d)
  else if op = 7 then hull4 (a - c) (a - d) (b - c) (b - d)
  else if op = 8 then hull4 (a * c) (a * d) (b * c) (b * d)
  else if op = 9 then divv a b c d
  else if op = 10 then remv a b c d
  else if op = 11 then andv a b c d
  else if op = 12 then orv a b c d
  else if op = 13 then xorv a b c d
  else if op = 14 then leftv a b c d
  else if op = 15 then rightv a b c d
  else decv op a b c d

/-- Both bounds are words. -/
def J32 (p : Int × Int) : Prop := I32 p.1 ∧ I32 p.2
theorem J32_full : J32 fullv := by unfold J32 fullv I32; simp
theorem J32_empty : J32 (1, 0) := by unfold J32 I32; simp
theorem J32_clip {lo hi : Int} (h : lo ≤ hi) : J32 (clip lo hi) := by
  unfold clip; split
  · exact J32_full
  · unfold J32 I32; simp only; omega
theorem J32_hull4 (p q r s : Int) : J32 (hull4 p q r s) := J32_clip (by omega)
theorem J32_hull2 (p q : Int) : J32 (hull2 p q) := J32_clip (by omega)
theorem J32_meet {a b c d : Int} (ha : I32 a) (hb : I32 b) (hc : I32 c) (hd : I32 d) : J32 (meetv a b c d) := by
  unfold I32 at *; unfold meetv; split
  · exact J32_empty
  · unfold J32 I32; simp only; omega
theorem J32_join {a b c d : Int} (ha : I32 a) (hb : I32 b) (hc : I32 c) (hd : I32 d) : J32 (joinv a b c d) := by
  unfold I32 at *; unfold joinv; repeat' split
  · exact J32_empty
  all_goals (unfold J32 I32; simp only; omega)

end Go.Proofs.Ytoalomjmmlnclaa.M
