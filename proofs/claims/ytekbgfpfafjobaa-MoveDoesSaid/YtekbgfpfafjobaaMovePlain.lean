/- Plain facts on cursors: how many steps there are, and how many of these are journalled: no program in sight. -/
import Derived.Test.YtekbgfpfafjobaaMoveStep
namespace Go.Proofs.Ytekbgfpfafjobaa.Move

/-- How many of so many steps are journalled. -/
def jn (s b e : Int) : Nat → Int → Int → Int
  | 0, _, _ => 0
  | f + 1, c, k => if c < s then (if stJ c k s b e = true then 1 else 0) + jn s b e f (stC c s b) (stK c k s b e) else 0
/-- How many steps to the end are journalled. -/
def J (s b e c k : Int) : Int := jn s b e (s - c).toNat c k

theorem stC_up {c s b : Int} (h : c < s) (hb : 1 ≤ b) : c < stC c s b ∧ stC c s b ≤ s := by
  unfold stC stN
  split <;> omega
theorem stK_in {c k s b e : Int} (h : c < s) (hb : 1 ≤ b) (hk : k ≤ c) : k ≤ stK c k s b e ∧ stK c k s b e ≤ stC c s b := by
  have h1 := stC_up h hb
  unfold stK
  split <;> omega

theorem jn_done (s b e : Int) (f : Nat) (c k : Int) (h : ¬ c < s) : jn s b e f c k = 0 := by
  cases f with
  | zero => rfl
  | succ f => exact if_neg h
theorem jn_fuel {s b : Int} (e : Int) (hb : 1 ≤ b) (f : Nat) : ∀ (g : Nat) (c k : Int), (s - c).toNat ≤ f → (s - c).toNat ≤ g → jn s b e f c k = jn s b e g c k := by
  induction f with
  | zero =>
    intro g c k h1 h2
    rw [jn_done s b e 0 c k (by omega), jn_done s b e g c k (by omega)]
  | succ f ih =>
    intro g c k h1 h2
    by_cases h : c < s
    · obtain ⟨g, rfl⟩ : ∃ m, g = m + 1 := ⟨g - 1, by omega⟩
      have hu := stC_up h hb
      show (if c < s then _ else _) = (if c < s then _ else _)
      rw [if_pos h, if_pos h, ih g _ _ (by omega) (by omega)]
    · rw [jn_done s b e _ c k h, jn_done s b e _ c k h]
theorem J_step {s b c : Int} (e k : Int) (h : c < s) (hb : 1 ≤ b) : J s b e c k = (if stJ c k s b e = true then 1 else 0) + J s b e (stC c s b) (stK c k s b e) := by
  have hu := stC_up h hb
  unfold J
  obtain ⟨g, hg⟩ : ∃ m, (s - c).toNat = m + 1 := ⟨(s - c).toNat - 1, by omega⟩
  rw [hg]
  show (if c < s then _ else _) = _
  rw [if_pos h, jn_fuel e hb g (s - stC c s b).toNat _ _ (by omega) (by omega)]
theorem J_done {s b e c k : Int} (h : ¬ c < s) : J s b e c k = 0 := jn_done s b e _ c k h

/-- As many steps on as it takes to be by every above what is kept. -/
def ahead (b e c k : Int) : Int := if upT (k + e - c) b < 1 then 1 else upT (k + e - c) b
def next (s b e c k : Int) : Int := if s < c + ahead b e c k * b then s else c + ahead b e c k * b

theorem upT_pos {n b : Int} (hb : 1 ≤ b) (hn : 1 ≤ n) : upT n b = (n + b - 1) / b ∧ 1 ≤ upT n b := by
  have h : upT n b = (n + b - 1) / b := Int.tdiv_eq_ediv_of_nonneg (by omega)
  exact ⟨h, by rw [h]; exact (Int.le_ediv_iff_mul_le (by omega)).2 (by omega)⟩
theorem upT_small {n b : Int} (hb : 1 ≤ b) (hn : n ≤ b) : upT n b ≤ 1 := by
  by_cases h : 1 ≤ n
  · rw [(upT_pos hb h).1]
    have : (n + b - 1) / b < 2 := Int.ediv_lt_of_lt_mul (by omega) (by omega)
    omega
  · unfold upT
    have h1 : (n + b - 1).tdiv b ≤ (b).tdiv b := Int.tdiv_le_tdiv (by omega) (by omega)
    rw [Int.tdiv_self (by omega)] at h1
    exact h1
theorem upT_succ {n b : Int} (hb : 1 ≤ b) (hn : b < n) : upT n b = upT (n - b) b + 1 := by
  rw [(upT_pos hb (by omega)).1, (upT_pos hb (by omega)).1, show n + b - 1 = (n - b + b - 1) + 1 * b from by omega, Int.add_mul_ediv_right _ _ (by omega)]

theorem ahead_pos (b e c k : Int) : 1 ≤ ahead b e c k := by unfold ahead; split <;> omega
theorem ahead_mul {b e c k : Int} (hb : 1 ≤ b) : b ≤ ahead b e c k * b := by
  have := Int.mul_le_mul_of_nonneg_right (ahead_pos b e c k) (show 0 ≤ b by omega)
  omega
theorem ahead_most {b e c k : Int} (hb : 1 ≤ b) (hb2 : b ≤ 1024) (he : 1 ≤ e) (he2 : e ≤ 1024) (hk : k ≤ c) : ahead b e c k * b ≤ 4096 ∧ ahead b e c k ≤ 4096 := by
  unfold ahead
  split
  · omega
  · by_cases h : 1 ≤ k + e - c
    · rw [(upT_pos hb h).1]
      have h1 := Int.ediv_mul_le (k + e - c + b - 1) (show b ≠ 0 by omega)
      have h2 := Int.ediv_le_self b (show 0 ≤ k + e - c + b - 1 by omega)
      omega
    · have := upT_small hb (show k + e - c ≤ b by omega)
      have h1 : upT (k + e - c) b = 1 := by omega
      rw [h1]
      omega
theorem next_in {s b e c k : Int} (h : c < s) (hb : 1 ≤ b) : c < next s b e c k ∧ next s b e c k ≤ s := by
  have := ahead_mul (e := e) (c := c) (k := k) hb
  unfold next
  split <;> omega

/-- What is journalled next: where it is then, and that one more is journalled. -/
theorem J_next {s b e : Int} (hb : 1 ≤ b) (_he : 1 ≤ e) (d : Nat) : ∀ (c k : Int), (s - c).toNat = d → k ≤ c → c < s → J s b e c k = 1 + J s b e (next s b e c k) (next s b e c k) := by
  induction d using Nat.strongRecOn with
  | _ d ih =>
    intro c k hd hk hc
    have hm := ahead_mul (e := e) (c := c) (k := k) hb
    rw [J_step e k hc hb]
    by_cases h1 : s - c ≤ b
    · have hC : stC c s b = s := by unfold stC stN; split <;> omega
      have hE : stE c s b = true := by unfold stE; rw [hC]; exact beq_iff_eq.2 rfl
      have hJ : stJ c k s b e = true := by unfold stJ; rw [hE]; rfl
      have hK : stK c k s b e = s := by unfold stK; rw [if_pos hJ, hC]
      have hn : next s b e c k = s := by unfold next; split <;> omega
      rw [if_pos hJ, hC, hK, hn]
    · have hC : stC c s b = c + b := by unfold stC stN; split <;> omega
      have hE : stE c s b = false := by unfold stE; rw [hC]; exact beq_eq_false_iff_ne.2 (by omega)
      by_cases h2 : e ≤ c + b - k
      · have hJ : stJ c k s b e = true := by unfold stJ; rw [hE, hC, decide_eq_true h2]; rfl
        have hK : stK c k s b e = c + b := by unfold stK; rw [if_pos hJ, hC]
        have hu := upT_small hb (show k + e - c ≤ b by omega)
        have ha : ahead b e c k = 1 := by unfold ahead; split <;> omega
        have hn : next s b e c k = c + b := by unfold next; rw [ha, Int.one_mul]; split <;> omega
        rw [if_pos hJ, hC, hK, hn]
      · have hJ : stJ c k s b e = false := by unfold stJ; rw [hE, hC, decide_eq_false h2]; rfl
        have hK : stK c k s b e = k := by unfold stK; rw [hJ]; exact if_neg (by decide)
        have hu := upT_succ hb (show b < k + e - c by omega)
        have hp := (upT_pos hb (show 1 ≤ k + e - (c + b) by omega)).2
        have e1 : k + e - c - b = k + e - (c + b) := by omega
        rw [e1] at hu
        have ha : ahead b e c k = ahead b e (c + b) k + 1 := by
          unfold ahead
          rw [if_neg (by omega), if_neg (by omega), hu]
        have hn : next s b e c k = next s b e (c + b) k := by
          unfold next
          rw [ha, Int.add_mul, Int.one_mul, show c + (ahead b e (c + b) k * b + b) = c + b + ahead b e (c + b) k * b from by omega]
        rw [hJ, if_neg (by decide), hC, hK, hn, Int.zero_add]
        exact ih (s - (c + b)).toNat (by omega) (c + b) k rfl (by omega) (by omega)
theorem J_bounds {s b : Int} (e : Int) (hb : 1 ≤ b) (d : Nat) : ∀ (c k : Int), (s - c).toNat = d → c ≤ s → 0 ≤ J s b e c k ∧ J s b e c k ≤ s - c := by
  induction d using Nat.strongRecOn with
  | _ d ih =>
    intro c k hd hc
    by_cases h : c < s
    · have hu := stC_up h hb
      have := ih (s - stC c s b).toNat (by omega) (stC c s b) (stK c k s b e) rfl hu.2
      rw [J_step e k h hb]
      split <;> omega
    · rw [J_done h]; omega
end Go.Proofs.Ytekbgfpfafjobaa.Move
