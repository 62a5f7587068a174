/- More plain facts on cursors: fewer steps by a greater budget, fewer journalled ones at greater steps, two steps for one: no program in sight. -/
import Derived.Test.YtekbgfpfafjobaaMoveJour
namespace Go.Proofs.Ytekbgfpfafjobaa.Move
open Go.RowKit

/-- How many steps to the end there are. -/
def S (s b c : Int) : Int := upT (s - c) b
theorem S_done {s b c : Int} (hb : 1 ≤ b) (h : ¬ c < s) (hc : c ≤ s) : S s b c = 0 := by
  obtain rfl : c = s := by omega
  unfold S upT
  rw [Int.sub_self, Int.zero_add, Int.tdiv_eq_ediv_of_nonneg (by omega), Int.ediv_eq_zero_of_lt (by omega) (by omega)]
theorem S_step {s b c : Int} (h : c < s) (hb : 1 ≤ b) : S s b c = 1 + S s b (stC c s b) := by
  by_cases h1 : s - c ≤ b
  · have hC : stC c s b = s := by unfold stC stN; split <;> omega
    have hu := upT_small hb h1
    have hp := (upT_pos hb (show 1 ≤ s - c by omega)).2
    rw [hC, S_done (c := s) hb (by omega) (by omega)]
    unfold S
    omega
  · have hC : stC c s b = c + b := by unfold stC stN; split <;> omega
    rw [hC]
    unfold S
    rw [upT_succ hb (by omega), show s - (c + b) = s - c - b from by omega]
    omega
theorem S_bounds {s b : Int} (hb : 1 ≤ b) (d : Nat) : ∀ (c : Int), (s - c).toNat = d → c ≤ s → 0 ≤ S s b c ∧ S s b c ≤ s - c := by
  induction d using Nat.strongRecOn with
  | _ d ih =>
    intro c hd hc
    by_cases h : c < s
    · have hu := stC_up h hb
      have := ih (s - stC c s b).toNat (by omega) (stC c s b) rfl hu.2
      rw [S_step h hb]
      omega
    · rw [S_done hb h hc]; omega
theorem S_zero {s b c : Int} (hb : 1 ≤ b) (hc : c ≤ s) (h : S s b c = 0) : c = s := by
  by_cases h1 : c < s
  · have hu := stC_up h1 hb
    have := (S_bounds (s := s) hb _ (stC c s b) rfl hu.2).1
    rw [S_step h1 hb] at h
    omega
  · omega
theorem S_pos {s b c : Int} (hb : 1 ≤ b) (h : c < s) : 1 ≤ S s b c := (upT_pos hb (by omega)).2
theorem S_is {s b c : Int} (hb : 1 ≤ b) (hc : c ≤ s) : S s b c = (s - c + b - 1) / b := Int.tdiv_eq_ediv_of_nonneg (by omega)

/-- A greater budget needs no more steps. -/
theorem S_mono {s b c : Int} (hb : 1 ≤ b) (hc : c ≤ s) : S s (b + 1) c ≤ S s b c := by
  rw [S_is hb hc, S_is (by omega) hc]
  have h1 := Int.mul_ediv_add_emod (s - c + b - 1) b
  have h2 := Int.emod_lt_of_pos (s - c + b - 1) (show 0 < b by omega)
  have h3 : 0 ≤ (s - c + b - 1) / b := Int.ediv_nonneg (by omega) (by omega)
  refine Int.lt_add_one_iff.1 (Int.ediv_lt_of_lt_mul (by omega) ?_)
  rw [Int.add_mul, Int.mul_add, Int.mul_one, Int.one_mul]
  rw [Int.mul_comm] at h1
  omega

/-- Journalled at each slot, each step is journalled. -/
theorem J_each {s b : Int} (hb : 1 ≤ b) (d : Nat) : ∀ (c k : Int), (s - c).toNat = d → k ≤ c → c ≤ s → J s b 1 c k = S s b c := by
  induction d using Nat.strongRecOn with
  | _ d ih =>
    intro c k hd hk hc
    by_cases h : c < s
    · have hu := stC_up h hb
      have hJ : stJ c k s b 1 = true := by unfold stJ; rw [decide_eq_true (by omega), Bool.or_true]
      have hK : stK c k s b 1 = stC c s b := if_pos hJ
      rw [J_step 1 k h hb, S_step h hb, if_pos hJ, hK, ih (s - stC c s b).toNat (by omega) _ _ rfl (by omega) hu.2]
    · rw [J_done h, S_done hb h hc]

theorem upT_mono {n m b : Int} (hb : 1 ≤ b) (h : n ≤ m) : upT n b ≤ upT m b := Int.tdiv_le_tdiv (by omega) (by omega)
theorem ahead_mono {b e e' c k : Int} (hb : 1 ≤ b) (h : e ≤ e') : ahead b e c k ≤ ahead b e' c k := by
  have := upT_mono hb (show k + e - c ≤ k + e' - c by omega)
  unfold ahead
  split <;> split <;> omega
theorem next_mono {s b e e' c k : Int} (hb : 1 ≤ b) (h : e ≤ e') : next s b e c k ≤ next s b e' c k := by
  have h1 := Int.mul_le_mul_of_nonneg_right (ahead_mono (c := c) (k := k) hb h) (show 0 ≤ b by omega)
  unfold next
  split <;> split <;> omega
theorem next_kept {s b e e' p q : Int} (hb : 1 ≤ b) (h : e ≤ e') (hpq : p ≤ q) : next s b e p p ≤ next s b e' q q := by
  have h1 := Int.mul_le_mul_of_nonneg_right (ahead_mono (c := p) (k := p) hb h) (show 0 ≤ b by omega)
  have h2 : ahead b e' p p = ahead b e' q q := by
    unfold ahead
    rw [show p + e' - p = q + e' - q from by omega]
  rw [h2] at h1
  unfold next
  split <;> split <;> omega
/-- Whoever is further on, and journals at greater steps, journals no more often. -/
theorem J_ahead {s b e e' : Int} (hb : 1 ≤ b) (he : 1 ≤ e) (h : e ≤ e') (d : Nat) : ∀ (p q : Int), (s - p).toNat = d → p ≤ q → p ≤ s → J s b e' q q ≤ J s b e p p := by
  induction d using Nat.strongRecOn with
  | _ d ih =>
    intro p q hd hpq hp
    by_cases hq : q < s
    · have hps : p < s := by omega
      have hi := next_in (e := e) (k := p) hps hb
      rw [J_next hb (by omega) _ q q rfl (Int.le_refl _) hq, J_next hb he _ p p rfl (Int.le_refl _) hps]
      have := ih (s - next s b e p p).toNat (by omega) (next s b e p p) (next s b e' q q) rfl (next_kept hb h hpq) hi.2
      omega
    · rw [J_done hq]
      exact (J_bounds e hb _ p p rfl hp).1
/-- Journalled at greater steps it is journalled no more often. -/
theorem J_mono {s b e e' c k : Int} (hb : 1 ≤ b) (he : 1 ≤ e) (h : e ≤ e') (hk : k ≤ c) : J s b e' c k ≤ J s b e c k := by
  by_cases hc : c < s
  · have hi := next_in (e := e) (k := k) hc hb
    rw [J_next hb (by omega) _ c k rfl hk hc, J_next hb he _ c k rfl hk hc]
    have := J_ahead hb he h _ (next s b e c k) (next s b e' c k) rfl (next_mono hb h) hi.2
    omega
  · rw [J_done hc, J_done hc]; omega
theorem J_pos {s b e c k : Int} (hb : 1 ≤ b) (he : 1 ≤ e) (hk : k ≤ c) (hc : c < s) : 1 ≤ J s b e c k := by
  have hi := next_in (e := e) (k := k) hc hb
  have := (J_bounds e hb _ (next s b e c k) (next s b e c k) rfl hi.2).1
  rw [J_next hb he _ c k rfl hk hc]
  omega

/-- Two steps by two budgets come as far as one by both. -/
theorem stC_two {c s a b : Int} (_hc : c ≤ s) (_ha : 1 ≤ a) (_hb : 1 ≤ b) : stC (stC c s a) s b = stC c s (a + b) ∧ stN c s (a + b) = stN c s a + stN (stC c s a) s b := by
  unfold stC stN
  constructor <;> (split <;> split <;> split <;> omega)
/-- What a step leaves may be. -/
theorem step_leaves {c k s b e : Int} (h : StepOk c k s b e) : MoveOk (stC c s b) (stK c k s b e) s ∧ c ≤ stC c s b ∧ k ≤ stK c k s b e := by
  obtain ⟨⟨h1, h2, h3, h4, h5⟩, ⟨h6, h7⟩, ⟨h8, h9⟩⟩ := h
  have hC : c ≤ stC c s b ∧ stC c s b ≤ s := by unfold stC stN; split <;> omega
  have hK : k ≤ stK c k s b e ∧ stK c k s b e ≤ stC c s b := by unfold stK; split <;> omega
  exact ⟨⟨h1, h2, by omega, by omega, by omega⟩, by omega, by omega⟩

/-- A block of two numbers, and that it is there. -/
def Cel2 (w : World) (b : Nat) (x y : Int) : Prop := (w.cell? ⟨b, 0, none⟩ = some (.int .i64 x) ∧ w.cell? ⟨b, 1, none⟩ = some (.int .i64 y)) ∧ b < w.heap.size
theorem Cel2.new (w : World) (x y : Int) : Cel2 (w.alloc (.cells #[.int .i64 x, .int .i64 y] 53)) w.heap.size x y := by
  have h := two_cells (heap_alloc_new w (.cells #[.int .i64 x, .int .i64 y] 53))
  exact ⟨⟨h.1, h.2.1⟩, by simp⟩
theorem Cel2.alloc {w : World} {b : Nat} {x y : Int} (h : Cel2 w b x y) (o : Obj) : Cel2 (w.alloc o) b x y :=
  ⟨⟨(World.cell?_of_block (w := w) (a := ⟨b, 0, none⟩) (Below.heap_alloc w o b h.2)).trans h.1.1, (World.cell?_of_block (w := w) (a := ⟨b, 1, none⟩) (Below.heap_alloc w o b h.2)).trans h.1.2⟩, by have := h.2; simp; omega⟩
theorem Cel2.below {w w1 : World} {b : Nat} {x y : Int} (h : Cel2 w b x y) (hb : Below w.heap.size w w1) : Cel2 w1 b x y :=
  ⟨⟨(hb.cell (p := ⟨b, 0, none⟩) h.2).trans h.1.1, (hb.cell (p := ⟨b, 1, none⟩) h.2).trans h.1.2⟩, Nat.lt_of_lt_of_le h.2 hb.size⟩

set_option maxHeartbeats 400000 in
theorem live_any (w : World) :
    Calls Try.prog 37 #[] w fun e w' => e = .returned (.bool true) ∧ Below w.heap.size w w' := by
  have hj : J 10 3 5 0 0 = 2 := by decide
  have hs : upT (10 - 0) 3 = 4 := by decide
  have h1 : MoveOk 0 0 10 := ⟨by omega, by omega, by omega, by omega, by omega⟩
  go_enter Try.func37, Try.ntmps37
  go_wp2_with fail
  refine (jour_ok _ _ _ _ _ _ ⟨h1, ⟨by omega, by omega⟩, ⟨by omega, by omega⟩⟩).mono ?_
  rw [hj]
  rintro r w1 ⟨rfl, b1⟩
  go_wp2_with fail
  refine (steps_ok _ _ _ _ _ ⟨h1, ⟨by omega, by omega⟩⟩).mono ?_
  rw [hs]
  rintro r w2 ⟨rfl, b2⟩
  go_wp2_with fail
  go_ret
  exact ⟨rfl, b1.trans (b2.mono b1.size)⟩
end Go.Proofs.Ytekbgfpfafjobaa.Move
