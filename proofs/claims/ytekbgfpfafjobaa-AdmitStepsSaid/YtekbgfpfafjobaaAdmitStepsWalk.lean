/- The walk of AdmitSteps: it answers true at every four numbers. -/
import Derived.Test.YtekbgfpfafjobaaAdmitRef
namespace Go.Proofs.Ytekbgfpfafjobaa.Admit
open Go.RowKit
set_option linter.unusedVariables false

theorem waitOk_dec (s b e l : Int) : WaitOk s b e l ∨ ¬ WaitOk s b e l := Classical.em _
open Classical in
noncomputable def wN (s b e l : Int) : Int := if WaitOk s b e l then waitN b e l else 0
open Classical in
noncomputable def wE (s b e l : Int) : Int := if WaitOk s b e l then 0 else 1
theorem wN_ok {s b e l : Int} (h : WaitOk s b e l) : wN s b e l = waitN b e l := if_pos h
theorem wE_ok {s b e l : Int} (h : WaitOk s b e l) : wE s b e l = 0 := if_pos h
theorem wN_bad {s b e l : Int} (h : ¬ WaitOk s b e l) : wN s b e l = 0 := if_neg h
theorem wE_bad {s b e l : Int} (h : ¬ WaitOk s b e l) : wE s b e l = 1 := if_neg h
theorem wait_any (s b e l : Int) (w : World) :
    Calls Try.prog 32 #[.int .i64 s, .int .i64 b, .int .i64 e, .int .i64 l] w fun r w' => r = .returned (.tuple #[.int .i64 (wN s b e l), .int .i64 (wE s b e l)]) ∧ w = w' := by
  by_cases h : WaitOk s b e l
  · rw [wN_ok h, wE_ok h]; exact wait_ok s b e l w h
  · rw [wN_bad h, wE_bad h]; exact wait_bad s b e l w h

theorem waitN_mono {s b e l b' e' l' : Int} (h : WaitOk s b e l) (h' : WaitOk s b' e' l') (hb : b ≤ b') (he : e' ≤ e) (hl : l' ≤ l) : waitN b' e' l' ≤ waitN b e l := by
  obtain ⟨m1, m2⟩ := waitN_most h
  have hp := (waitN_pos h).1
  refine Int.not_lt.1 fun hlt => ?_
  have h1 := waitN_less h' hlt
  have h2 : waitN b e l * b ≤ waitN b e l * b' := Int.mul_le_mul_of_nonneg_left hb (by omega)
  split at h1 <;> omega
theorem waitN_up {s b e l : Int} (h : WaitOk s b e l) (h' : WaitOk s b (e + 1) (l + 1)) : waitN b (e + 1) (l + 1) ≤ waitN b e l + 1 := by
  obtain ⟨m1, m2⟩ := waitN_most h
  refine Int.not_lt.1 fun hlt => ?_
  have h1 := waitN_less h' hlt
  rw [Int.add_mul] at h1
  have h3 := h.2.2.1
  split at h1 <;> omega

/-- What the walk of AdmitSteps needs, in a config that may be. -/
theorem steps_facts {s b e l : Int} (h : WaitOk s b e l) : wE s b e l = 0 ∧ (1 ≤ wN s b e l ∧ wN s b e l ≤ 5119) ∧ (0 ≤ (wN s b e l - 1) * b ∧ (wN s b e l - 1) * b ≤ 5241856) ∧ (wN s b e l - 1) * b < (if l < e then e else l) := by
  have n0 := wN_ok h
  have hp := waitN_pos h
  rw [← n0] at hp
  refine ⟨wE_ok h, hp, ?_, by rw [n0]; exact waitN_less h (by omega)⟩
  obtain ⟨_, _, b1, b2, _⟩ := h
  exact ⟨Int.mul_nonneg (by omega) (by omega), Int.le_trans (Int.mul_le_mul (show wN s b e l - 1 ≤ 5119 by omega) b2 (by omega) (by omega)) (by omega)⟩
theorem steps_more {s b e l : Int} (h : WaitOk s b e l) (hb : b < 1024) : wE s (b + 1) e l = 0 ∧ wN s (b + 1) e l ≤ wN s b e l := by
  have h2 : WaitOk s (b + 1) e l := by unfold WaitOk at *; omega
  exact ⟨wE_ok h2, by rw [wN_ok h, wN_ok h2]; exact waitN_mono h h2 (by omega) (by omega) (by omega)⟩
theorem steps_up {s b e l : Int} (h : WaitOk s b e l) (he : e < 1024) (hl : l < 4096) : wE s b (e + 1) (l + 1) = 0 ∧ wN s b e l ≤ wN s b (e + 1) (l + 1) ∧ wN s b (e + 1) (l + 1) ≤ wN s b e l + 1 := by
  have h3 : WaitOk s b (e + 1) (l + 1) := by unfold WaitOk at *; omega
  exact ⟨wE_ok h3, by rw [wN_ok h, wN_ok h3]; exact waitN_mono h3 h (by omega) (by omega) (by omega), by rw [wN_ok h, wN_ok h3]; exact waitN_up h h3⟩

set_option maxHeartbeats 400000 in
theorem steps_bad (s b e l : Int) (w : World) (h : ¬ WaitOk s b e l) :
    Calls Try.prog 10 #[.int .i64 s, .int .i64 b, .int .i64 e, .int .i64 l] w fun r w' => r = .returned (.bool true) ∧ Below w.heap.size w w' := by
  have n0 := wN_bad h
  have z0 := wE_bad h
  clear h
  go_enter Try.func10, Try.ntmps10
  go_wp2_with (first | (go_at_call 28; refine (live_any _).mono ?_; rintro r w1 ⟨rfl, b1⟩) | (go_at_call 32; (with_reducible refine (wait_any _ _ _ _ _).mono ?_); rintro r w1 ⟨rfl, rfl⟩))
  go_ret
  exact ⟨rfl, by assumption⟩

set_option maxHeartbeats 800000 in
theorem steps_b_yes_e (s b e l : Int) (w : World) (h : WaitOk s b e l) (hb : b < 1024) (he : e < 1024) (hl : l < 4096) (hle : l < e) :
    Calls Try.prog 10 #[.int .i64 s, .int .i64 b, .int .i64 e, .int .i64 l] w fun r w' => r = .returned (.bool true) ∧ Below w.heap.size w w' := by
  obtain ⟨z0, hp, hr, hq⟩ := steps_facts h
  rw [if_pos hle] at hq
  obtain ⟨z2, m2⟩ := steps_more h hb
  obtain ⟨z3, m3, m4⟩ := steps_up h he hl
  obtain ⟨s1, s2, d1, d2, e1, e2, l1, l2⟩ := h
  go_enter Try.func10, Try.ntmps10
  go_wp2_with (first | (go_at_call 28; refine (live_any _).mono ?_; rintro r w1 ⟨rfl, b1⟩) | (go_at_call 32; (with_reducible refine (wait_any _ _ _ _ _).mono ?_); rintro r w1 ⟨rfl, rfl⟩))
  go_ret
  exact ⟨rfl, by assumption⟩

set_option maxHeartbeats 800000 in
theorem steps_b_yes_l (s b e l : Int) (w : World) (h : WaitOk s b e l) (hb : b < 1024) (he : e < 1024) (hl : l < 4096) (hle : ¬ l < e) :
    Calls Try.prog 10 #[.int .i64 s, .int .i64 b, .int .i64 e, .int .i64 l] w fun r w' => r = .returned (.bool true) ∧ Below w.heap.size w w' := by
  obtain ⟨z0, hp, hr, hq⟩ := steps_facts h
  rw [if_neg hle] at hq
  obtain ⟨z2, m2⟩ := steps_more h hb
  obtain ⟨z3, m3, m4⟩ := steps_up h he hl
  obtain ⟨s1, s2, d1, d2, e1, e2, l1, l2⟩ := h
  go_enter Try.func10, Try.ntmps10
  go_wp2_with (first | (go_at_call 28; refine (live_any _).mono ?_; rintro r w1 ⟨rfl, b1⟩) | (go_at_call 32; (with_reducible refine (wait_any _ _ _ _ _).mono ?_); rintro r w1 ⟨rfl, rfl⟩))
  go_ret
  exact ⟨rfl, by assumption⟩

set_option maxHeartbeats 800000 in
theorem steps_b_noe_e (s b e l : Int) (w : World) (h : WaitOk s b e l) (hb : b < 1024) (he : ¬ e < 1024) (hle : l < e) :
    Calls Try.prog 10 #[.int .i64 s, .int .i64 b, .int .i64 e, .int .i64 l] w fun r w' => r = .returned (.bool true) ∧ Below w.heap.size w w' := by
  obtain ⟨z0, hp, hr, hq⟩ := steps_facts h
  rw [if_pos hle] at hq
  obtain ⟨z2, m2⟩ := steps_more h hb
  obtain ⟨s1, s2, d1, d2, e1, e2, l1, l2⟩ := h
  go_enter Try.func10, Try.ntmps10
  go_wp2_with (first | (go_at_call 28; refine (live_any _).mono ?_; rintro r w1 ⟨rfl, b1⟩) | (go_at_call 32; (with_reducible refine (wait_any _ _ _ _ _).mono ?_); rintro r w1 ⟨rfl, rfl⟩))
  go_ret
  exact ⟨rfl, by assumption⟩

set_option maxHeartbeats 800000 in
theorem steps_b_noe_l (s b e l : Int) (w : World) (h : WaitOk s b e l) (hb : b < 1024) (he : ¬ e < 1024) (hle : ¬ l < e) :
    Calls Try.prog 10 #[.int .i64 s, .int .i64 b, .int .i64 e, .int .i64 l] w fun r w' => r = .returned (.bool true) ∧ Below w.heap.size w w' := by
  obtain ⟨z0, hp, hr, hq⟩ := steps_facts h
  rw [if_neg hle] at hq
  obtain ⟨z2, m2⟩ := steps_more h hb
  obtain ⟨s1, s2, d1, d2, e1, e2, l1, l2⟩ := h
  go_enter Try.func10, Try.ntmps10
  go_wp2_with (first | (go_at_call 28; refine (live_any _).mono ?_; rintro r w1 ⟨rfl, b1⟩) | (go_at_call 32; (with_reducible refine (wait_any _ _ _ _ _).mono ?_); rintro r w1 ⟨rfl, rfl⟩))
  go_ret
  exact ⟨rfl, by assumption⟩

set_option maxHeartbeats 800000 in
theorem steps_b_nol_e (s b e l : Int) (w : World) (h : WaitOk s b e l) (hb : b < 1024) (he : e < 1024) (hl : ¬ l < 4096) (hle : l < e) :
    Calls Try.prog 10 #[.int .i64 s, .int .i64 b, .int .i64 e, .int .i64 l] w fun r w' => r = .returned (.bool true) ∧ Below w.heap.size w w' := by
  exact absurd hle (by omega)
set_option maxHeartbeats 800000 in
theorem steps_b_nol_l (s b e l : Int) (w : World) (h : WaitOk s b e l) (hb : b < 1024) (he : e < 1024) (hl : ¬ l < 4096) (hle : ¬ l < e) :
    Calls Try.prog 10 #[.int .i64 s, .int .i64 b, .int .i64 e, .int .i64 l] w fun r w' => r = .returned (.bool true) ∧ Below w.heap.size w w' := by
  obtain ⟨z0, hp, hr, hq⟩ := steps_facts h
  rw [if_neg hle] at hq
  obtain ⟨z2, m2⟩ := steps_more h hb
  obtain ⟨s1, s2, d1, d2, e1, e2, l1, l2⟩ := h
  go_enter Try.func10, Try.ntmps10
  go_wp2_with (first | (go_at_call 28; refine (live_any _).mono ?_; rintro r w1 ⟨rfl, b1⟩) | (go_at_call 32; (with_reducible refine (wait_any _ _ _ _ _).mono ?_); rintro r w1 ⟨rfl, rfl⟩))
  go_ret
  exact ⟨rfl, by assumption⟩

set_option maxHeartbeats 800000 in
theorem steps_nob_yes_e (s b e l : Int) (w : World) (h : WaitOk s b e l) (hb : ¬ b < 1024) (he : e < 1024) (hl : l < 4096) (hle : l < e) :
    Calls Try.prog 10 #[.int .i64 s, .int .i64 b, .int .i64 e, .int .i64 l] w fun r w' => r = .returned (.bool true) ∧ Below w.heap.size w w' := by
  obtain ⟨z0, hp, hr, hq⟩ := steps_facts h
  rw [if_pos hle] at hq
  obtain ⟨z3, m3, m4⟩ := steps_up h he hl
  obtain ⟨s1, s2, d1, d2, e1, e2, l1, l2⟩ := h
  go_enter Try.func10, Try.ntmps10
  go_wp2_with (first | (go_at_call 28; refine (live_any _).mono ?_; rintro r w1 ⟨rfl, b1⟩) | (go_at_call 32; (with_reducible refine (wait_any _ _ _ _ _).mono ?_); rintro r w1 ⟨rfl, rfl⟩))
  go_ret
  exact ⟨rfl, by assumption⟩

set_option maxHeartbeats 800000 in
theorem steps_nob_yes_l (s b e l : Int) (w : World) (h : WaitOk s b e l) (hb : ¬ b < 1024) (he : e < 1024) (hl : l < 4096) (hle : ¬ l < e) :
    Calls Try.prog 10 #[.int .i64 s, .int .i64 b, .int .i64 e, .int .i64 l] w fun r w' => r = .returned (.bool true) ∧ Below w.heap.size w w' := by
  obtain ⟨z0, hp, hr, hq⟩ := steps_facts h
  rw [if_neg hle] at hq
  obtain ⟨z3, m3, m4⟩ := steps_up h he hl
  obtain ⟨s1, s2, d1, d2, e1, e2, l1, l2⟩ := h
  go_enter Try.func10, Try.ntmps10
  go_wp2_with (first | (go_at_call 28; refine (live_any _).mono ?_; rintro r w1 ⟨rfl, b1⟩) | (go_at_call 32; (with_reducible refine (wait_any _ _ _ _ _).mono ?_); rintro r w1 ⟨rfl, rfl⟩))
  go_ret
  exact ⟨rfl, by assumption⟩

set_option maxHeartbeats 800000 in
theorem steps_nob_noe_e (s b e l : Int) (w : World) (h : WaitOk s b e l) (hb : ¬ b < 1024) (he : ¬ e < 1024) (hle : l < e) :
    Calls Try.prog 10 #[.int .i64 s, .int .i64 b, .int .i64 e, .int .i64 l] w fun r w' => r = .returned (.bool true) ∧ Below w.heap.size w w' := by
  obtain ⟨z0, hp, hr, hq⟩ := steps_facts h
  rw [if_pos hle] at hq
  obtain ⟨s1, s2, d1, d2, e1, e2, l1, l2⟩ := h
  go_enter Try.func10, Try.ntmps10
  go_wp2_with (first | (go_at_call 28; refine (live_any _).mono ?_; rintro r w1 ⟨rfl, b1⟩) | (go_at_call 32; (with_reducible refine (wait_any _ _ _ _ _).mono ?_); rintro r w1 ⟨rfl, rfl⟩))
  go_ret
  exact ⟨rfl, by assumption⟩

set_option maxHeartbeats 800000 in
theorem steps_nob_noe_l (s b e l : Int) (w : World) (h : WaitOk s b e l) (hb : ¬ b < 1024) (he : ¬ e < 1024) (hle : ¬ l < e) :
    Calls Try.prog 10 #[.int .i64 s, .int .i64 b, .int .i64 e, .int .i64 l] w fun r w' => r = .returned (.bool true) ∧ Below w.heap.size w w' := by
  obtain ⟨z0, hp, hr, hq⟩ := steps_facts h
  rw [if_neg hle] at hq
  obtain ⟨s1, s2, d1, d2, e1, e2, l1, l2⟩ := h
  go_enter Try.func10, Try.ntmps10
  go_wp2_with (first | (go_at_call 28; refine (live_any _).mono ?_; rintro r w1 ⟨rfl, b1⟩) | (go_at_call 32; (with_reducible refine (wait_any _ _ _ _ _).mono ?_); rintro r w1 ⟨rfl, rfl⟩))
  go_ret
  exact ⟨rfl, by assumption⟩

set_option maxHeartbeats 800000 in
theorem steps_nob_nol_e (s b e l : Int) (w : World) (h : WaitOk s b e l) (hb : ¬ b < 1024) (he : e < 1024) (hl : ¬ l < 4096) (hle : l < e) :
    Calls Try.prog 10 #[.int .i64 s, .int .i64 b, .int .i64 e, .int .i64 l] w fun r w' => r = .returned (.bool true) ∧ Below w.heap.size w w' := by
  exact absurd hle (by omega)
set_option maxHeartbeats 800000 in
theorem steps_nob_nol_l (s b e l : Int) (w : World) (h : WaitOk s b e l) (hb : ¬ b < 1024) (he : e < 1024) (hl : ¬ l < 4096) (hle : ¬ l < e) :
    Calls Try.prog 10 #[.int .i64 s, .int .i64 b, .int .i64 e, .int .i64 l] w fun r w' => r = .returned (.bool true) ∧ Below w.heap.size w w' := by
  obtain ⟨z0, hp, hr, hq⟩ := steps_facts h
  rw [if_neg hle] at hq
  obtain ⟨s1, s2, d1, d2, e1, e2, l1, l2⟩ := h
  go_enter Try.func10, Try.ntmps10
  go_wp2_with (first | (go_at_call 28; refine (live_any _).mono ?_; rintro r w1 ⟨rfl, b1⟩) | (go_at_call 32; (with_reducible refine (wait_any _ _ _ _ _).mono ?_); rintro r w1 ⟨rfl, rfl⟩))
  go_ret
  exact ⟨rfl, by assumption⟩

theorem steps_any (s b e l : Int) (w : World) :
    Calls Try.prog 10 #[.int .i64 s, .int .i64 b, .int .i64 e, .int .i64 l] w fun r w' => r = .returned (.bool true) ∧ Below w.heap.size w w' := by
  by_cases h : WaitOk s b e l
  · by_cases hb : b < 1024
    · by_cases he : e < 1024
      · by_cases hl : l < 4096
        · by_cases hle : l < e
          · exact steps_b_yes_e s b e l w h hb he hl hle
          · exact steps_b_yes_l s b e l w h hb he hl hle
        · by_cases hle : l < e
          · exact steps_b_nol_e s b e l w h hb he hl hle
          · exact steps_b_nol_l s b e l w h hb he hl hle
      · by_cases hle : l < e
        · exact steps_b_noe_e s b e l w h hb he hle
        · exact steps_b_noe_l s b e l w h hb he hle
    · by_cases he : e < 1024
      · by_cases hl : l < 4096
        · by_cases hle : l < e
          · exact steps_nob_yes_e s b e l w h hb he hl hle
          · exact steps_nob_yes_l s b e l w h hb he hl hle
        · by_cases hle : l < e
          · exact steps_nob_nol_e s b e l w h hb he hl hle
          · exact steps_nob_nol_l s b e l w h hb he hl hle
      · by_cases hle : l < e
        · exact steps_nob_noe_e s b e l w h hb he hle
        · exact steps_nob_noe_l s b e l w h hb he hle
  · exact steps_bad s b e l w h
end Go.Proofs.Ytekbgfpfafjobaa.Admit
