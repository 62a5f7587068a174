/- The walk of LotsJump: it answers true at every word of 64 bits, every two numbers of steps and every octet. -/
import Derived.Test.YtekbgfpfafjobaaJump
namespace Go.Proofs.Ytekbgfpfafjobaa.Lots
open Go.RowKit

set_option maxHeartbeats 400000 in
theorem jumps_any (x n m f : Int) (x0 : 0 ≤ x) (x1 : x ≤ 18446744073709551615) (n0 : 0 ≤ n) (n1 : n ≤ 18446744073709551615) (m0 : 0 ≤ m) (m1 : m ≤ 18446744073709551615) (f0 : 0 ≤ f) (f1 : f ≤ 255) (w : World) :
    Calls Try.prog 4 #[.int .u64 x, .int .u64 n, .int .u64 m, .int .u8 f] w fun e w' => e = .returned (.bool true) ∧ Below w.heap.size w w' := by
  go_enter Try.func4, Try.ntmps4
  go_wp2_with (first | (go_at_call 18; refine (live_any _).mono ?_; rintro e w' ⟨rfl, rfl⟩))
  go_loop [10, 17] (fun o i => ∃ k : Nat, k ≤ f ∧ i = .int .u8 k ∧ o = .int .u64 (jmp x k)) (fun _ i => (f - intOf i).toNat)
  case atStart => exact ⟨0, by omega, rfl, rfl⟩
  case round =>
    obtain ⟨k, hk, rfl, rfl⟩ := hrel
    by_cases hlt : (k : Int) < f
    · go_wp2_with (first | (go_at_call 20; refine (next_any _ _).mono ?_; rintro e w' ⟨rfl, rfl⟩))
      go_round
      case rel => exact ⟨k + 1, by omega, by go_num, by rw [jmp_succ]; go_num⟩
      case measure => simp [intOf]; omega
    · obtain rfl : f = k := by omega
      have hb1 : (jmp x k == jmp x k) = true := beq_iff_eq.2 rfl
      have hs := jmp_sum x n m x0 x1 n0 n1 m0 m1
      have hb2 : (jmp (jmp x n) m == jmp x (IntKind.u64.wrap (n + m))) = true := beq_iff_eq.2 hs
      have hb3 : (x == x) = true := beq_iff_eq.2 rfl
      clear hs
      go_wp2_with fail
      refine (jump_calls _ _ _ (by omega) (by omega)).mono ?_
      rintro e w1 ⟨rfl, b1⟩
      go_wp2_with fail
      refine (jump_calls _ _ _ (by omega) (by omega)).mono ?_
      rintro e w2 ⟨rfl, b2⟩
      rw [jmp_halves x x0 x1]
      go_wp2_with fail
      refine (jump_calls _ _ _ (by omega) (by omega)).mono ?_
      rintro e w3 ⟨rfl, b3⟩
      go_wp2_with fail
      refine (jump_calls _ _ _ (by omega) (by omega)).mono ?_
      rintro e w4 ⟨rfl, b4⟩
      go_wp2_with fail
      refine (jump_calls _ _ _ (by omega) (by omega)).mono ?_
      rintro e w5 ⟨rfl, b5⟩
      go_wp2_with fail
      refine (jump_calls _ _ _ (wrap_u64_range _).1 (wrap_u64_range _).2).mono ?_
      rintro e w6 ⟨rfl, b6⟩
      go_wp2_with fail
      go_ret
      exact ⟨rfl, by_six b1 b2 b3 b4 b5 b6⟩
end Go.Proofs.Ytekbgfpfafjobaa.Lots
