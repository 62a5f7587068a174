/- What the small functions of package move answer: Check, may, up and Back; no condition. -/
import Derived.Test.YtekbgfpfafjobaaRows
import Derived.WalkKit
import Derived.WalkSpells
import Derived.WalkLawsBesides
import Derived.Lib.Hide
namespace Go.Proofs.Ytekbgfpfafjobaa.Move
open Go.RowKit

/-- Why a cursor may not be (0: it may): c: where it is, k: where it was journalled, s: of how many slots. -/
def moveE (c k s : Int) : Int := if s < 1 then 1 else if s > 256 then 1 else if k < 0 then 1 else if k > c then 1 else if c > s then 1 else 0

theorem bcell {W w1 : World} (hb : Below W.heap.size W w1) : (∀ b o, b < W.heap.size → w1.cell? ⟨b, o, none⟩ = W.cell? ⟨b, o, none⟩) ∧ (∀ b o, b < W.heap.size → w1.frozen? ⟨b, o, none⟩ = W.frozen? ⟨b, o, none⟩) :=
  ⟨fun b o h => hb.cell (p := ⟨b, o, none⟩) h, fun b o h => hb.frozen (p := ⟨b, o, none⟩) h⟩

set_option maxHeartbeats 800000 in
theorem check_any (c k s : Int) (w : World) :
    Calls Try.prog 46 #[.agg #[.int .i64 c, .int .i64 k], .int .i64 s] w fun e w' => e = .returned (.int .i64 (moveE c k s)) ∧ Below w.heap.size w w' := by
  unfold moveE
  by_cases h0 : s < 1
  · rw [if_pos h0]
    go_enter Try.func46, Try.ntmps46
    go_wp2
    go_ret
    exact ⟨rfl, (Below.refl _ _).alloc (Nat.le_refl _) _⟩
  by_cases h1 : s > 256
  · rw [if_neg h0, if_pos h1]
    go_enter Try.func46, Try.ntmps46
    go_wp2
    go_ret
    exact ⟨rfl, (Below.refl _ _).alloc (Nat.le_refl _) _⟩
  by_cases h2 : k < 0
  · rw [if_neg h0, if_neg h1, if_pos h2]
    go_enter Try.func46, Try.ntmps46
    go_wp2
    go_ret
    exact ⟨rfl, (Below.refl _ _).alloc (Nat.le_refl _) _⟩
  by_cases h3 : k > c
  · rw [if_neg h0, if_neg h1, if_neg h2, if_pos h3]
    go_enter Try.func46, Try.ntmps46
    go_wp2
    go_ret
    exact ⟨rfl, (Below.refl _ _).alloc (Nat.le_refl _) _⟩
  by_cases h4 : c > s
  · rw [if_neg h0, if_neg h1, if_neg h2, if_neg h3, if_pos h4]
    go_enter Try.func46, Try.ntmps46
    go_wp2
    go_ret
    exact ⟨rfl, (Below.refl _ _).alloc (Nat.le_refl _) _⟩
  · rw [if_neg h0, if_neg h1, if_neg h2, if_neg h3, if_neg h4]
    go_enter Try.func46, Try.ntmps46
    go_wp2
    go_ret
    exact ⟨rfl, (Below.refl _ _).alloc (Nat.le_refl _) _⟩

set_option maxHeartbeats 800000 in
theorem refCheck_any (c k s : Int) (w : World) :
    Calls Try.prog 47 #[.agg #[.int .i64 c, .int .i64 k], .int .i64 s] w fun e w' => e = .returned (.int .i64 (moveE c k s)) ∧ Below w.heap.size w w' := by
  unfold moveE
  by_cases h0 : s < 1
  · rw [if_pos h0]
    go_enter Try.func47, Try.ntmps47
    go_wp2
    go_ret
    exact ⟨rfl, (Below.refl _ _).alloc (Nat.le_refl _) _⟩
  by_cases h1 : s > 256
  · rw [if_neg h0, if_pos h1]
    go_enter Try.func47, Try.ntmps47
    go_wp2
    go_ret
    exact ⟨rfl, (Below.refl _ _).alloc (Nat.le_refl _) _⟩
  by_cases h2 : k < 0
  · rw [if_neg h0, if_neg h1, if_pos h2]
    go_enter Try.func47, Try.ntmps47
    go_wp2
    go_ret
    exact ⟨rfl, (Below.refl _ _).alloc (Nat.le_refl _) _⟩
  by_cases h3 : k > c
  · rw [if_neg h0, if_neg h1, if_neg h2, if_pos h3]
    go_enter Try.func47, Try.ntmps47
    go_wp2
    go_ret
    exact ⟨rfl, (Below.refl _ _).alloc (Nat.le_refl _) _⟩
  by_cases h4 : c > s
  · rw [if_neg h0, if_neg h1, if_neg h2, if_neg h3, if_pos h4]
    go_enter Try.func47, Try.ntmps47
    go_wp2
    go_ret
    exact ⟨rfl, (Below.refl _ _).alloc (Nat.le_refl _) _⟩
  · rw [if_neg h0, if_neg h1, if_neg h2, if_neg h3, if_neg h4]
    go_enter Try.func47, Try.ntmps47
    go_wp2
    go_ret
    exact ⟨rfl, (Below.refl _ _).alloc (Nat.le_refl _) _⟩

theorem moveE_01 (c k s : Int) : moveE c k s = 0 ∨ moveE c k s = 1 := by
  unfold moveE
  by_cases h0 : s < 1
  · rw [if_pos h0]; exact .inr rfl
  by_cases h1 : s > 256
  · rw [if_neg h0, if_pos h1]; exact .inr rfl
  by_cases h2 : k < 0
  · rw [if_neg h0, if_neg h1, if_pos h2]; exact .inr rfl
  by_cases h3 : k > c
  · rw [if_neg h0, if_neg h1, if_neg h2, if_pos h3]; exact .inr rfl
  by_cases h4 : c > s
  · rw [if_neg h0, if_neg h1, if_neg h2, if_neg h3, if_pos h4]; exact .inr rfl
  · rw [if_neg h0, if_neg h1, if_neg h2, if_neg h3, if_neg h4]; exact .inl rfl
/-- A cursor that may be. -/
def MoveOk (c k s : Int) : Prop := 1 ≤ s ∧ s ≤ 256 ∧ 0 ≤ k ∧ k ≤ c ∧ c ≤ s
theorem moveE_ok {c k s : Int} (h : MoveOk c k s) : moveE c k s = 0 := by
  obtain ⟨h1, h2, h3, h4, h5⟩ := h
  unfold moveE
  rw [if_neg (by omega), if_neg (by omega), if_neg (by omega), if_neg (by omega), if_neg (by omega)]
theorem moveOk_of {c k s : Int} (h : moveE c k s = 0) : MoveOk c k s := by
  unfold moveE at h
  by_cases h0 : s < 1
  · rw [if_pos h0] at h; omega
  by_cases h1 : s > 256
  · rw [if_neg h0, if_pos h1] at h; omega
  by_cases h2 : k < 0
  · rw [if_neg h0, if_neg h1, if_pos h2] at h; omega
  by_cases h3 : k > c
  · rw [if_neg h0, if_neg h1, if_neg h2, if_pos h3] at h; omega
  by_cases h4 : c > s
  · rw [if_neg h0, if_neg h1, if_neg h2, if_neg h3, if_pos h4] at h; omega
  · exact ⟨by omega, by omega, by omega, by omega, by omega⟩

/-- One number by another one, up. -/
def upT (n b : Int) : Int := (n + b - 1).tdiv b
theorem up_any (n b : Int) (w : World) (b0 : 1 ≤ b) (b1 : b ≤ 1024) (n0 : -4096 ≤ n) (n1 : n ≤ 4096) :
    Calls Try.prog 52 #[.int .i64 n, .int .i64 b] w fun e w' => e = .returned (.int .i64 (upT n b)) ∧ w = w' := by
  go_enter Try.func52, Try.ntmps52
  go_wp2
  go_ret
  exact ⟨rfl, rfl⟩

/-- Numbers that are to be from 1 to 1024. -/
def numOk (n : Int) : Prop := 1 ≤ n ∧ n ≤ 1024
def AllOk (xs : List Int) : Prop := ∀ j, j < xs.length → numOk (xs.getD j 0)
open Classical in
noncomputable def mayE (c k s : Int) (xs : List Int) : Int := if AllOk xs then moveE c k s else 1
theorem mayE_ok {c k s : Int} {xs : List Int} (h : AllOk xs) : mayE c k s xs = moveE c k s := if_pos h
theorem mayE_bad {c k s : Int} {xs : List Int} (h : ¬ AllOk xs) : mayE c k s xs = 1 := if_neg h

set_option maxHeartbeats 800000 in
theorem may_any (c k s : Int) (b : Nat) (xs : List Int) (w : World) (hl : xs.length ≤ 1000) (hb : b < w.heap.size) (hx : ∀ j, j < xs.length → w.cell? ⟨b, j, none⟩ = some (.int .i64 (xs.getD j 0))) :
    Calls Try.prog 51 #[.agg #[.int .i64 c, .int .i64 k], .int .i64 s, .slice (some ⟨b, 0, none⟩) xs.length xs.length] w fun e w' => e = .returned (.int .i64 (mayE c k s xs)) ∧ Below w.heap.size w w' := by
  have HX := Lib.hid hx
  clear hx
  go_enter Try.func51, Try.ntmps51
  go_wp2_with fail
  go_loop [8, 11] (fun _ i => ∃ j : Nat, j ≤ xs.length ∧ i = .int .i64 j ∧ Hid (∀ i, i < j → numOk (xs.getD i 0))) (fun _ i => xs.length - (intOf i).toNat)
  case atStart => exact ⟨0, by omega, rfl, fun i hi => absurd hi (by omega)⟩
  case round =>
    obtain ⟨j, hj, rfl, hall⟩ := hrel
    by_cases hlt : j < xs.length
    · have hcell := HX.out j hlt
      have hk : Hid (numOk (xs.getD j 0) → ∀ i, i < j + 1 → numOk (xs.getD i 0)) := by
        intro hok i hi
        rcases Nat.lt_succ_iff_lt_or_eq.1 hi with h | h
        · exact hall.out i h
        · rw [h]; exact hok
      have hn : Hid (¬ numOk (xs.getD j 0) → mayE c k s xs = 1) := fun hno => mayE_bad fun ha => hno (ha j hlt)
      generalize xs.getD j 0 = x at hcell hk hn
      by_cases hok : numOk x
      · have hk2 := Lib.hid (hk.out hok)
        obtain ⟨x0, x1⟩ := hok
        clear hk hn
        go_wp2_with fail
        go_round
        case rel => exact ⟨j + 1, by omega, by go_num, hk2.out⟩
        case measure => simp [intOf]; omega
      · have hr := Lib.hid (hn.out hok)
        clear hk hn
        by_cases h0 : x < 1
        · clear hok
          go_wp2_with fail
          go_ret
          exact ⟨by rw [hr.out]; rfl, (Below.refl _ _).alloc (Nat.le_refl _) _⟩
        · have h1 : x > 1024 := by unfold numOk at hok; omega
          clear hok
          go_wp2_with fail
          go_ret
          exact ⟨by rw [hr.out]; rfl, (Below.refl _ _).alloc (Nat.le_refl _) _⟩
    · obtain rfl : j = xs.length := by omega
      have he : mayE c k s xs = moveE c k s := mayE_ok hall.out
      have He := Lib.hid he
      clear he
      go_wp2_with fail
      refine (check_any _ _ _ _).mono ?_
      rintro e w1 ⟨rfl, b1⟩
      go_wp2_with fail
      go_ret
      exact ⟨by rw [He.out]; rfl, ((Below.refl _ _).alloc (Nat.le_refl _) _).trans (b1.mono (by simp <;> omega))⟩

theorem may_one (c k s : Int) (b : Nat) (x : Int) (w : World) (hb : b < w.heap.size) (h0 : w.cell? ⟨b, 0, none⟩ = some (.int .i64 x)) :
    Calls Try.prog 51 #[.agg #[.int .i64 c, .int .i64 k], .int .i64 s, .slice (some ⟨b, 0, none⟩) 1 1] w fun e w' => e = .returned (.int .i64 (mayE c k s [x])) ∧ Below w.heap.size w w' :=
  may_any c k s b [x] w (by simp) hb fun j hj => by
    obtain rfl : j = 0 := by simp at hj; omega
    exact h0
theorem may_two (c k s : Int) (b : Nat) (x y : Int) (w : World) (hb : b < w.heap.size) (h0 : w.cell? ⟨b, 0, none⟩ = some (.int .i64 x)) (h1 : w.cell? ⟨b, 1, none⟩ = some (.int .i64 y)) :
    Calls Try.prog 51 #[.agg #[.int .i64 c, .int .i64 k], .int .i64 s, .slice (some ⟨b, 0, none⟩) 2 2] w fun e w' => e = .returned (.int .i64 (mayE c k s [x, y])) ∧ Below w.heap.size w w' :=
  may_any c k s b [x, y] w (by simp) hb fun j hj => by
    have hj2 : j = 0 ∨ j = 1 := by simp at hj; omega
    rcases hj2 with rfl | rfl
    · exact h0
    · exact h1

/-- All numbers may be, and the cursor. -/
def StepOk (c k s b e : Int) : Prop := MoveOk c k s ∧ numOk b ∧ numOk e
theorem may_two_ok {c k s b e : Int} (h : StepOk c k s b e) : mayE c k s [b, e] = 0 := by
  rw [mayE_ok, moveE_ok h.1]
  intro j hj
  have hj2 : j = 0 ∨ j = 1 := by simp at hj; omega
  rcases hj2 with rfl | rfl
  · exact h.2.1
  · exact h.2.2
theorem may_two_bad {c k s b e : Int} (h : ¬ StepOk c k s b e) : mayE c k s [b, e] = 1 := by
  by_cases ha : AllOk [b, e]
  · rw [mayE_ok ha]
    rcases moveE_01 c k s with h0 | h0
    · exact absurd ⟨moveOk_of h0, ha 0 (by simp), ha 1 (by simp)⟩ h
    · exact h0
  · exact mayE_bad ha
theorem may_one_ok {c k s b : Int} (h : MoveOk c k s ∧ numOk b) : mayE c k s [b] = 0 := by
  rw [mayE_ok, moveE_ok h.1]
  intro j hj
  obtain rfl : j = 0 := by simp at hj; omega
  exact h.2
theorem may_one_bad {c k s b : Int} (h : ¬ (MoveOk c k s ∧ numOk b)) : mayE c k s [b] = 1 := by
  by_cases ha : AllOk [b]
  · rw [mayE_ok ha]
    rcases moveE_01 c k s with h0 | h0
    · exact absurd ⟨moveOk_of h0, ha 0 (by simp)⟩ h
    · exact h0
  · exact mayE_bad ha
end Go.Proofs.Ytekbgfpfafjobaa.Move
