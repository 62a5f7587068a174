/- How many steps there are between, by package admit and by its reference; no condition. -/
import Derived.Test.YtekbgfpfafjobaaAdmit
namespace Go.Proofs.Ytekbgfpfafjobaa.Admit
open Go.RowKit

/-- May these be asked for? -/
def WaitOk (s b e l : Int) : Prop := 1 ≤ s ∧ s ≤ 256 ∧ 1 ≤ b ∧ b ≤ 1024 ∧ 1 ≤ e ∧ e ≤ 1024 ∧ 0 ≤ l ∧ l ≤ 4096
/-- The greater one of all and of every, by budget, up. -/
def waitN (b e l : Int) : Int := ((if l < e then e else l) + b - 1) / b

set_option maxHeartbeats 400000 in
theorem wait_ok (s b e l : Int) (w : World) (h : WaitOk s b e l) :
    Calls Try.prog 32 #[.int .i64 s, .int .i64 b, .int .i64 e, .int .i64 l] w fun r w' => r = .returned (.tuple #[.int .i64 (waitN b e l), .int .i64 0]) ∧ w = w' := by
  obtain ⟨h1, h2, h3, h4, h5, h6, h7, h8⟩ := h
  unfold waitN
  go_enter Try.func32, Try.ntmps32
  go_wp2_with fail
  all_goals (go_ret2; exact ⟨rfl, rfl⟩)

set_option maxHeartbeats 1000000 in
theorem wait_bad (s b e l : Int) (w : World) (h : ¬ WaitOk s b e l) :
    Calls Try.prog 32 #[.int .i64 s, .int .i64 b, .int .i64 e, .int .i64 l] w fun r w' => r = .returned (.tuple #[.int .i64 0, .int .i64 1]) ∧ w = w' := by
  have H := Lib.hid h
  clear h
  by_cases h0 : s < 1
  · go_enter Try.func32, Try.ntmps32
    go_wp2_with fail
    all_goals (go_ret2; exact ⟨rfl, rfl⟩)
  by_cases h1 : s > 256
  · go_enter Try.func32, Try.ntmps32
    go_wp2_with fail
    all_goals (go_ret2; exact ⟨rfl, rfl⟩)
  by_cases h2 : b < 1
  · go_enter Try.func32, Try.ntmps32
    go_wp2_with fail
    all_goals (go_ret2; exact ⟨rfl, rfl⟩)
  by_cases h3 : e < 1
  · go_enter Try.func32, Try.ntmps32
    go_wp2_with fail
    all_goals (go_ret2; exact ⟨rfl, rfl⟩)
  by_cases h4 : b > 1024
  · go_enter Try.func32, Try.ntmps32
    go_wp2_with fail
    all_goals (go_ret2; exact ⟨rfl, rfl⟩)
  by_cases h5 : e > 1024
  · go_enter Try.func32, Try.ntmps32
    go_wp2_with fail
    all_goals (go_ret2; exact ⟨rfl, rfl⟩)
  by_cases h6 : l < 0
  · go_enter Try.func32, Try.ntmps32
    go_wp2_with fail
    all_goals (go_ret2; exact ⟨rfl, rfl⟩)
  by_cases h7 : l > 4096
  · go_enter Try.func32, Try.ntmps32
    go_wp2_with fail
    all_goals (go_ret2; exact ⟨rfl, rfl⟩)
  · exact absurd ⟨by omega, by omega, by omega, by omega, by omega, by omega, by omega, by omega⟩ H.out

theorem waitN_pos {s b e l : Int} (h : WaitOk s b e l) : 1 ≤ waitN b e l ∧ waitN b e l ≤ 5119 := by
  obtain ⟨_, _, h3, h4, h5, h6, h7, h8⟩ := h
  unfold waitN
  have hm : 1 ≤ (if l < e then e else l) ∧ (if l < e then e else l) ≤ 4096 := by split <;> omega
  generalize (if l < e then e else l) = m at *
  refine ⟨(Int.le_ediv_iff_mul_le (by omega)).2 (by omega), Int.le_trans (Int.ediv_le_self _ (by omega)) (by omega)⟩
theorem waitN_most {s b e l : Int} (h : WaitOk s b e l) : l ≤ waitN b e l * b ∧ e ≤ waitN b e l * b := by
  obtain ⟨_, _, h3, h4, h5, h6, h7, h8⟩ := h
  unfold waitN
  have hm : l ≤ (if l < e then e else l) ∧ e ≤ (if l < e then e else l) := by split <;> omega
  generalize (if l < e then e else l) = m at *
  have hd := Int.emod_add_mul_ediv (m + b - 1) b
  have hl := Int.emod_lt_of_pos (m + b - 1) (show 0 < b from by omega)
  rw [Int.mul_comm] at hd
  omega
theorem waitN_less {s b e l n : Int} (h : WaitOk s b e l) (hn : n < waitN b e l) : n * b < (if l < e then e else l) := by
  obtain ⟨_, _, h3, h4, h5, h6, h7, h8⟩ := h
  unfold waitN at hn
  generalize (if l < e then e else l) = m at *
  have h1 : (n + 1) * b ≤ m + b - 1 := (Int.le_ediv_iff_mul_le (by omega)).1 (by omega)
  rw [Int.add_mul] at h1
  omega
theorem waitN_bound {s b e l n : Int} (h : WaitOk s b e l) (h0 : 1 ≤ n) (h1 : n ≤ 5119) : 0 ≤ n * b ∧ n * b ≤ 5241856 := by
  obtain ⟨_, _, h3, h4, _⟩ := h
  refine ⟨Int.mul_nonneg (by omega) (by omega), ?_⟩
  have := Int.mul_le_mul h1 h4 (by omega) (by omega : (0 : Int) ≤ 5119)
  omega

set_option maxHeartbeats 1000000 in
theorem refWait_ok (s b e l : Int) (w : World) (h : WaitOk s b e l) :
    Calls Try.prog 35 #[.int .i64 s, .int .i64 b, .int .i64 e, .int .i64 l] w fun r w' => r = .returned (.tuple #[.int .i64 (waitN b e l), .int .i64 0]) ∧ w = w' := by
  have hp := waitN_pos h
  have hm := waitN_most h
  have hl : ∀ n, n < waitN b e l → n * b < (if l < e then e else l) := fun n hn => waitN_less h hn
  have HL := Lib.hid hl
  clear hl
  have hb : ∀ n, 1 ≤ n → n ≤ 5119 → 0 ≤ n * b ∧ n * b ≤ 5241856 := fun n h0 h1 => waitN_bound h h0 h1
  have HB := Lib.hid hb
  clear hb
  obtain ⟨h1, h2, h3, h4, h5, h6, h7, h8⟩ := h
  generalize hN : waitN b e l = N at *
  clear hN
  go_enter Try.func35, Try.ntmps35
  go_wp2_with fail
  go_loop [10] (fun o => ∃ n : Int, 1 ≤ n ∧ n ≤ N ∧ o = .int .i64 n) (fun o => (N - intOf o).toNat)
  case atStart => exact ⟨1, by omega, by omega, rfl⟩
  case round =>
    obtain ⟨n, n1, n2, rfl⟩ := hrel
    have hb := HB.out n n1 (by omega)
    by_cases hlt : n < N
    · have hx := HL.out n hlt
      by_cases hy : n * b < l
      · go_wp2_with fail
        go_round
        case rel => exact ⟨n + 1, by omega, by omega, rfl⟩
        case measure => simp [intOf]; omega
      · have hz : n * b < e := by split at hx <;> omega
        clear hx
        go_wp2_with fail
        go_round
        case rel => exact ⟨n + 1, by omega, by omega, rfl⟩
        case measure => simp [intOf]; omega
    · obtain rfl : n = N := by omega
      go_wp2_with fail
      go_ret2
      exact ⟨rfl, rfl⟩

set_option maxHeartbeats 1000000 in
theorem refWait_bad (s b e l : Int) (w : World) (h : ¬ WaitOk s b e l) :
    Calls Try.prog 35 #[.int .i64 s, .int .i64 b, .int .i64 e, .int .i64 l] w fun r w' => r = .returned (.tuple #[.int .i64 0, .int .i64 1]) ∧ w = w' := by
  have H := Lib.hid h
  clear h
  by_cases h0 : s < 1
  · go_enter Try.func35, Try.ntmps35
    go_wp2_with fail
    all_goals (go_ret2; exact ⟨rfl, rfl⟩)
  by_cases h1 : s > 256
  · go_enter Try.func35, Try.ntmps35
    go_wp2_with fail
    all_goals (go_ret2; exact ⟨rfl, rfl⟩)
  by_cases h2 : b < 1
  · go_enter Try.func35, Try.ntmps35
    go_wp2_with fail
    all_goals (go_ret2; exact ⟨rfl, rfl⟩)
  by_cases h3 : b > 1024
  · go_enter Try.func35, Try.ntmps35
    go_wp2_with fail
    all_goals (go_ret2; exact ⟨rfl, rfl⟩)
  by_cases h4 : e < 1
  · go_enter Try.func35, Try.ntmps35
    go_wp2_with fail
    all_goals (go_ret2; exact ⟨rfl, rfl⟩)
  by_cases h5 : e > 1024
  · go_enter Try.func35, Try.ntmps35
    go_wp2_with fail
    all_goals (go_ret2; exact ⟨rfl, rfl⟩)
  by_cases h6 : l < 0
  · go_enter Try.func35, Try.ntmps35
    go_wp2_with fail
    all_goals (go_ret2; exact ⟨rfl, rfl⟩)
  by_cases h7 : l > 4096
  · go_enter Try.func35, Try.ntmps35
    go_wp2_with fail
    all_goals (go_ret2; exact ⟨rfl, rfl⟩)
  · exact absurd ⟨by omega, by omega, by omega, by omega, by omega, by omega, by omega, by omega⟩ H.out
end Go.Proofs.Ytekbgfpfafjobaa.Admit
